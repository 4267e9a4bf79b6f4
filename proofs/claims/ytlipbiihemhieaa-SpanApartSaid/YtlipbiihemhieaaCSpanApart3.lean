/- Part 3 of 3 of the proof of SpanApart: no two spans of a table have a code point in common, they rise, and tell their values at both ends. For every input; no condition. -/
import Derived.Test.YtlipbiihemhieaaCSpanApart1
import Derived.Test.YtlipbiihemhieaaCSpanApart2
import Derived.WalkKit
import Derived.ProofKit
import Derived.OpenShut
import Derived.ShutString
import Derived.LaidMore
import Derived.ChangeOld
import Derived.DataElems
import Derived.Deep.Strs
import Derived.Deep.RegionHeld3
import Derived.IntWalk
import Derived.Test.YtlipbiihemhieaaRows
import Derived.Below
import Derived.SizedLaws
import Derived.Test.YtlipbiihemhieaaWSized

-- from Qf66
-- Made by hp.py, a program of this session, with the kit's printer. Not trusted: Lean checks it.
namespace Go.Proofs.Ytlipbiihemhieaa.Q
open Go.RowKit Go.Proofs.YtlipbiihemhieaaW.PrintWords Go.Proofs.YtlipbiihemhieaaW.PrintLast Go.Proofs.YtlipbiihemhieaaW.PrintMore
attribute [local go_sem] max2_int min2_int max_two min_two max_three min_three max_four min_four   -- for this text's walks alone
set_option linter.unusedVariables false
set_option linter.unusedSimpArgs false

/-! ### paronymref03_Sorted: function 66 -/
mutual
def paronymref03_Sorted.l0 : Nat → List (S53) → List (S53) → Int → Option ((List (S53)))
  | 0, _, _, _ => none
  | k + 1, x0, x3, x4 => if x4 < (x0.length : Int) then (paronymref03_Sorted.l1 k x0 x3 x4 (x3.length : Int)) else (some x3)
def paronymref03_Sorted.l1 : Nat → List (S53) → List (S53) → Int → Int → Option ((List (S53)))
  | 0, _, _, _, _ => none
  | k + 1, x0, x3, x4, x5 => if x5 > 0 then (if 0 ≤ (wrap64 (x5 - 1)) then (if (wrap64 (x5 - 1)) < (x3.length : Int) then (if 0 ≤ x4 then (if x4 < (x0.length : Int) then (if ((rd_T53 x3 (wrap64 (x5 - 1))).f0) > ((rd_T53 x0 x4).f0) then (paronymref03_Sorted.l1 k x0 x3 x4 (wrap64 (x5 - 1))) else (if 0 ≤ x5 then (if x5 ≤ (x3.length : Int) then ((some (x3.take (x5 : Int).toNat : List (S53))).bind fun y103 => (if ([] : List (S53)).length + y103.length < 4398046511104 then ((some (([] : List (S53)) ++ y103 : List (S53))).bind fun y107 => (if y107.length < 4398046511104 then ((some (y107 ++ [(⟨(rd_T53 x0 x4).f0, (rd_T53 x0 x4).f1, (rd_T53 x0 x4).f2⟩ : S53)] : List (S53))).bind fun y111 => ((some (x3.drop (x5 : Int).toNat : List (S53))).bind fun y114 => (if y111.length + y114.length < 4398046511104 then (paronymref03_Sorted.l0 k x0 (y111 ++ y114) (wrap64 (x4 + 1))) else (none)))) else (none))) else (none))) else (none)) else (none))) else (none)) else (none)) else (none)) else (none)) else (if 0 ≤ x5 then (if x5 ≤ (x3.length : Int) then ((some (x3.take (x5 : Int).toNat : List (S53))).bind fun y121 => (if ([] : List (S53)).length + y121.length < 4398046511104 then ((some (([] : List (S53)) ++ y121 : List (S53))).bind fun y125 => (if 0 ≤ x4 then (if x4 < (x0.length : Int) then (if y125.length < 4398046511104 then ((some (y125 ++ [(⟨(rd_T53 x0 x4).f0, (rd_T53 x0 x4).f1, (rd_T53 x0 x4).f2⟩ : S53)] : List (S53))).bind fun y129 => ((some (x3.drop (x5 : Int).toNat : List (S53))).bind fun y132 => (if y129.length + y132.length < 4398046511104 then (paronymref03_Sorted.l0 k x0 (y129 ++ y132) (wrap64 (x4 + 1))) else (none)))) else (none)) else (none)) else (none))) else (none))) else (none)) else (none))
end
def paronymref03_Sorted.f (k : Nat) (l0 : List (S53)) : Option ((List (S53))) := paronymref03_Sorted.l0 k l0 ([] : List (S53)) 0
theorem paronymref03_Sorted.mono_l : ∀ k, (∀ y0 y1 y2, LeO (paronymref03_Sorted.l0 k y0 y1 y2) (paronymref03_Sorted.l0 (k + 1) y0 y1 y2)) ∧ (∀ y0 y1 y2 y3, LeO (paronymref03_Sorted.l1 k y0 y1 y2 y3) (paronymref03_Sorted.l1 (k + 1) y0 y1 y2 y3))
  | 0 => ⟨fun _ _ _ r h => by simp [paronymref03_Sorted.l0] at h, fun _ _ _ _ r h => by simp [paronymref03_Sorted.l1] at h⟩
  | k + 1 => by
    obtain ⟨ih0, ih1⟩ := paronymref03_Sorted.mono_l k
    refine ⟨?_, ?_⟩
    · intro y0 y1 y2
      unfold paronymref03_Sorted.l0
      repeat' first
      | (with_reducible exact ih0 _ _ _)
      | (with_reducible exact ih1 _ _ _ _)
      | (with_reducible exact LeO.refl _)
      | (with_reducible exact LeO.none _)
      | (with_reducible refine LeO.ite ?_ ?_)
      | (with_reducible refine LeO.bind ?_ (fun _ => ?_))
      | exact ih0 _ _ _
      | exact ih1 _ _ _ _
      | exact LeO.none _
      | refine LeO.ite ?_ ?_
      | refine LeO.bind ?_ (fun _ => ?_)
    · intro y0 y1 y2 y3
      unfold paronymref03_Sorted.l1
      repeat' first
      | (with_reducible exact ih0 _ _ _)
      | (with_reducible exact ih1 _ _ _ _)
      | (with_reducible exact LeO.refl _)
      | (with_reducible exact LeO.none _)
      | (with_reducible refine LeO.ite ?_ ?_)
      | (with_reducible refine LeO.bind ?_ (fun _ => ?_))
      | exact ih0 _ _ _
      | exact ih1 _ _ _ _
      | exact LeO.none _
      | refine LeO.ite ?_ ?_
      | refine LeO.bind ?_ (fun _ => ?_)
theorem paronymref03_Sorted.mono : ∀ a0 k, LeO (paronymref03_Sorted.f k a0) (paronymref03_Sorted.f (k + 1) a0) := by
  intro a0 k
  obtain ⟨ih0, ih1⟩ := paronymref03_Sorted.mono_l k
  unfold paronymref03_Sorted.f
  repeat' first
      | (with_reducible exact ih0 _ _ _)
      | (with_reducible exact ih1 _ _ _ _)
      | (with_reducible exact LeO.refl _)
      | (with_reducible exact LeO.none _)
      | (with_reducible refine LeO.ite ?_ ?_)
      | (with_reducible refine LeO.bind ?_ (fun _ => ?_))
      | exact ih0 _ _ _
      | exact ih1 _ _ _ _
      | exact LeO.none _
      | refine LeO.ite ?_ ?_
      | refine LeO.bind ?_ (fun _ => ?_)
set_option maxHeartbeats 8000000 in
set_option maxRecDepth 100000 in
theorem paronymref03_Sorted.calls (k : Nat) (A0 : Option Addr) (c0 : Nat) (l0 : List (S53)) (r : List (S53)) (w : World) (hr0 : Kd.C k53 w A0 l0.length l0) (hc0 : l0.length ≤ c0) (h : paronymref03_Sorted.f k l0 = some r) :
    Calls Try.prog 66 #[.slice A0 l0.length c0] w fun e w' => ∃ v0_ : Value, e = .returned (v0_) ∧ Kd.R k53 53 w' w.heap.size (fun _ => True) v0_ r ∧ Below w.heap.size w w' := by
  have hu53 := Try.underlying53
  have HR0 := Aside0.mk hr0
  have HC0 := Aside0.mk hc0
  clear hr0 hc0
  have HB := Aside0.mk (Below.refl w.heap.size w)
  have H : (paronymref03_Sorted.l0 k l0 ([] : List (S53)) 0) = some r := h
  clear h
  have H' := Aside0.mk H
  clear H
  go_enter Try.func66, Try.ntmps66
  go_wp2
  repeat (go_quiet (fail); try go_wp2)
  go_loopg [3, 4] k (fun kq v3 v4 w' => ∃ (x3_1 : List (S53)) (x4_1 : Int), v4 = .int .i64 x4_1 ∧ Aside0 (paronymref03_Sorted.l0 kq l0 x3_1 x4_1 = some r) ∧ Aside0 (kq ≤ k) ∧ Aside0 (Kd.R k53 53 w' w.heap.size (fun _ => True) v3 x3_1) ∧ Aside0 (Below w.heap.size w w'))
  case atStart => exact ⟨(([] : List (S53))), (0), (by first | rfl | (simp; done) | (simp [*]; done)), H', ⟨Nat.le_refl _⟩, ⟨by first | exact Kd.R_nil _ _ _ _ _ | exact Kd.N_nil _ _ _ _ _ | exact Kd.V_nil _ _ _ _ _ | exact Kd.Q_nil _ _ _ _ _ | exact Kd.S_nil _ _ _ _ _⟩, ⟨by repeat (first | (with_reducible first | exact HB.out | apply below_alloc | apply pw_below_drewN | apply below_drew1) | exact HB.out)⟩⟩
  case round =>
    clear H'
    obtain ⟨x3_1, x4_1, rfl, HA, HK1, HO_3, HB⟩ := hrel
    cases gk with
    | zero => exact absurd HA.out (by simp [paronymref03_Sorted.l0])
    | succ k1 =>
      have H := HA.out
      clear HA
      simp only [paronymref03_Sorted.l0] at H
      by_cases c2 : x4_1 < (l0.length : Int)
      · rw [if_pos c2] at H
        have c2b0 : decide (x4_1 < (l0.length : Int)) = true := decide_eq_true c2
        clear c2
        have H' := Aside0.mk H
        clear H
        obtain ⟨Ao3, co3, eo3⟩ := Kd.R_slice HO_3.out
        subst eo3
        go_wp2
        repeat (go_quiet (fail); try go_wp2)
        go_loopg [5] k1 (fun kq v5 w' => ∃ (x5_2 : Int), v5 = .int .i64 x5_2 ∧ Aside0 (paronymref03_Sorted.l1 kq l0 x3_1 x4_1 x5_2 = some r) ∧ Aside0 (kq ≤ k1) ∧ Aside0 (Kd.R k53 53 w' w.heap.size (fun _ => True) (.slice Ao3 x3_1.length co3) x3_1) ∧ Aside0 (Below w.heap.size w w'))
        case atStart => exact ⟨((x3_1.length : Int)), (by first | rfl | (simp; done) | (simp [*]; done)), H', ⟨Nat.le_refl _⟩, ⟨by (with_reducible repeat (first | apply Kd.R_alloc | apply Kd.R_drewN | apply Kd.R_drew)); exact HO_3.out⟩, ⟨by repeat (first | (with_reducible first | exact HB.out | apply below_alloc | apply pw_below_drewN | apply below_drew1) | exact HB.out)⟩⟩
        case round =>
          clear H'
          try clear c2
          try clear c2b0
          try clear p2
          obtain ⟨x5_2, rfl, HA, HK2, HO_3, HB⟩ := hrel
          cases gk with
          | zero => exact absurd HA.out (by simp [paronymref03_Sorted.l1])
          | succ k2 =>
            have H := HA.out
            clear HA
            simp only [paronymref03_Sorted.l1] at H
            by_cases c4 : x5_2 > 0
            · rw [if_pos c4] at H
              have c4b0 : decide (0 < x5_2) = true := decide_eq_true c4
              clear c4
              obtain ⟨ji5, hji5⟩ : ∃ j_ : Int, (wrap64 (x5_2 - 1)) = j_ := ⟨_, rfl⟩
              replace H : (if 0 ≤ (ji5) then (if (ji5) < (x3_1.length : Int) then (if 0 ≤ x4_1 then (if x4_1 < (l0.length : Int) then (if ((rd_T53 x3_1 (ji5)).f0) > ((rd_T53 l0 x4_1).f0) then (paronymref03_Sorted.l1 k2 l0 x3_1 x4_1 ji5) else (if 0 ≤ x5_2 then (if x5_2 ≤ (x3_1.length : Int) then ((some (x3_1.take (x5_2 : Int).toNat : List (S53))).bind fun y103 => (if ([] : List (S53)).length + y103.length < 4398046511104 then ((some (([] : List (S53)) ++ y103 : List (S53))).bind fun y107 => (if y107.length < 4398046511104 then ((some (y107 ++ [(⟨(rd_T53 l0 x4_1).f0, (rd_T53 l0 x4_1).f1, (rd_T53 l0 x4_1).f2⟩ : S53)] : List (S53))).bind fun y111 => ((some (x3_1.drop (x5_2 : Int).toNat : List (S53))).bind fun y114 => (if y111.length + y114.length < 4398046511104 then (paronymref03_Sorted.l0 k2 l0 (y111 ++ y114) (wrap64 (x4_1 + 1))) else (none)))) else (none))) else (none))) else (none)) else (none))) else (none)) else (none)) else (none)) else (none)) = some r := by first | (rw [hji5] at H; exact H) | (simp only [hji5] at H ⊢; exact H)
              have hji5w : (IntKind.i64.wrap (x5_2 - 1)) = ji5 := (i64_w _).trans hji5
              by_cases c6 : 0 ≤ (ji5)
              · rw [if_pos c6] at H
                have c6b0 : decide (0 ≤ (ji5)) = true := decide_eq_true c6
                clear c6
                by_cases c7 : (ji5) < (x3_1.length : Int)
                · rw [if_pos c7] at H
                  have c7b0 : decide ((ji5) < (x3_1.length : Int)) = true := decide_eq_true c7
                  clear c7
                  by_cases c8 : 0 ≤ x4_1
                  · rw [if_pos c8] at H
                    have c8b0 : decide (0 ≤ x4_1) = true := decide_eq_true c8
                    clear c8
                    by_cases c9 : x4_1 < (l0.length : Int)
                    · rw [if_pos c9] at H
                      have c9b0 : decide (x4_1 < (l0.length : Int)) = true := decide_eq_true c9
                      clear c9
                      by_cases c10 : ((rd_T53 x3_1 (ji5)).f0) > ((rd_T53 l0 x4_1).f0)
                      · rw [if_pos c10] at H
                        have c10b0 : decide (((rd_T53 l0 x4_1).f0) < ((rd_T53 x3_1 (ji5)).f0)) = true := decide_eq_true c10
                        clear c10
                        have H' := Aside0.mk H
                        clear H
                        have p101 : 0 ≤ ((ji5) : Int) := of_decide_eq_true (by first | (with_reducible assumption) | assumption)
                        have q101 : (ji5) < (x3_1.length : Int) := of_decide_eq_true (by first | (with_reducible assumption) | assumption)
                        obtain ⟨ad101, e101, hx101_0, hx101_1, hx101_2⟩ := at_T53 (Kd.R_reads' HO_3.out).2.2 (ji5) p101 q101
                        cases e101
                        replace p101 := eq_true p101
                        replace q101 := eq_true q101
                        have p102 : 0 ≤ (x4_1 : Int) := of_decide_eq_true (by first | (with_reducible assumption) | assumption)
                        have q102 : x4_1 < (l0.length : Int) := of_decide_eq_true (by first | (with_reducible assumption) | assumption)
                        obtain ⟨ad102, e102, hx102_0, hx102_1, hx102_2⟩ := at_T53 HR0.out x4_1 p102 q102
                        cases e102
                        replace hx102_0 := (HB.out.cell (World.block_lt_of_cell? w _ hx102_0)).trans hx102_0
                        replace hx102_1 := (HB.out.cell (World.block_lt_of_cell? w _ hx102_1)).trans hx102_1
                        replace hx102_2 := (HB.out.cell (World.block_lt_of_cell? w _ hx102_2)).trans hx102_2
                        replace p102 := eq_true p102
                        replace q102 := eq_true q102
                        go_wp2
                        repeat (go_quiet (fail); try go_wp2)
                        go_roundg k2
                        case measure => have := HK1.out; have := HK2.out; omega
                        case rel => exact ⟨(ji5), (by first | rfl | (simp; done) | (simp only [← hji5] <;> (first | rfl | simp)) | (simp [*]; done)), H', ⟨by have := HK1.out; have := HK2.out; omega⟩, ⟨by (with_reducible repeat (first | apply Kd.R_alloc | apply Kd.R_drewN | apply Kd.R_drew)); exact HO_3.out⟩, ⟨by repeat (first | (with_reducible first | exact HB.out | apply below_alloc | apply pw_below_drewN | apply below_drew1) | exact HB.out)⟩⟩
                      · rw [if_neg c10] at H
                        have c10b0 : decide (((rd_T53 l0 x4_1).f0) < ((rd_T53 x3_1 (ji5)).f0)) = false := decide_eq_false c10
                        clear c10
                        by_cases c11 : 0 ≤ x5_2
                        · rw [if_pos c11] at H
                          have c11b0 := eq_true c11
                          have c11b1 : decide (0 ≤ x5_2) = true := decide_eq_true c11
                          clear c11
                          by_cases c12 : x5_2 ≤ (x3_1.length : Int)
                          · rw [if_pos c12] at H
                            have c12b0 := eq_true c12
                            have c12b1 : decide (x5_2 ≤ (x3_1.length : Int)) = true := decide_eq_true c12
                            clear c12
                            obtain ⟨y103, hy103⟩ : ∃ y_ : List (S53), y_ = (x3_1.take (x5_2 : Int).toNat) := ⟨_, rfl⟩
                            replace H : (if ([] : List (S53)).length + y103.length < 4398046511104 then ((some (([] : List (S53)) ++ y103 : List (S53))).bind fun y107 => (if y107.length < 4398046511104 then ((some (y107 ++ [(⟨(rd_T53 l0 x4_1).f0, (rd_T53 l0 x4_1).f1, (rd_T53 l0 x4_1).f2⟩ : S53)] : List (S53))).bind fun y111 => ((some (x3_1.drop (x5_2 : Int).toNat : List (S53))).bind fun y114 => (if y111.length + y114.length < 4398046511104 then (paronymref03_Sorted.l0 k2 l0 (y111 ++ y114) (wrap64 (x4_1 + 1))) else (none)))) else (none))) else (none)) = some r := by first | (rw [hy103]; with_reducible exact H) | (have H2_ := (Option.bind_some _ _).symm.trans H; rw [hy103]; with_reducible exact H2_) | (have H2_ := (Option.bind_some _ _).symm.trans H; with_reducible exact H2_) | with_reducible exact H | (rw [hy103]; exact H) | exact H
                            have Ny103 := Aside0.mk hy103
                            clear hy103
                            by_cases c13 : ([] : List (S53)).length + y103.length < 4398046511104
                            · rw [if_pos c13] at H
                              have LMc13 := Aside0.mk c13
                              clear c13
                              obtain ⟨y107, hy107⟩ : ∃ y_ : List (S53), y_ = (([] : List (S53)) ++ y103) := ⟨_, rfl⟩
                              replace H : (if y107.length < 4398046511104 then ((some (y107 ++ [(⟨(rd_T53 l0 x4_1).f0, (rd_T53 l0 x4_1).f1, (rd_T53 l0 x4_1).f2⟩ : S53)] : List (S53))).bind fun y111 => ((some (x3_1.drop (x5_2 : Int).toNat : List (S53))).bind fun y114 => (if y111.length + y114.length < 4398046511104 then (paronymref03_Sorted.l0 k2 l0 (y111 ++ y114) (wrap64 (x4_1 + 1))) else (none)))) else (none)) = some r := by first | (rw [hy107]; with_reducible exact H) | (have H2_ := (Option.bind_some _ _).symm.trans H; rw [hy107]; with_reducible exact H2_) | (have H2_ := (Option.bind_some _ _).symm.trans H; with_reducible exact H2_) | with_reducible exact H | (rw [hy107]; exact H) | exact H
                              have Ny107 := Aside0.mk hy107
                              clear hy107
                              by_cases c14 : y107.length < 4398046511104
                              · rw [if_pos c14] at H
                                have LMc14 := Aside0.mk c14
                                clear c14
                                obtain ⟨y111, hy111⟩ : ∃ y_ : List (S53), y_ = (y107 ++ [(⟨(rd_T53 l0 x4_1).f0, (rd_T53 l0 x4_1).f1, (rd_T53 l0 x4_1).f2⟩ : S53)]) := ⟨_, rfl⟩
                                replace H : ((some (x3_1.drop (x5_2 : Int).toNat : List (S53))).bind fun y114 => (if y111.length + y114.length < 4398046511104 then (paronymref03_Sorted.l0 k2 l0 (y111 ++ y114) (wrap64 (x4_1 + 1))) else (none))) = some r := by first | (rw [hy111]; with_reducible exact H) | (have H2_ := (Option.bind_some _ _).symm.trans H; rw [hy111]; with_reducible exact H2_) | (have H2_ := (Option.bind_some _ _).symm.trans H; with_reducible exact H2_) | with_reducible exact H | (rw [hy111]; exact H) | exact H
                                have Ny111 := Aside0.mk hy111
                                clear hy111
                                have c15b0 := eq_true (of_decide_eq_true (by first | (with_reducible assumption) | assumption) : 0 ≤ x5_2)
                                have c16b0 := eq_true (of_decide_eq_true (by first | (with_reducible assumption) | assumption) : x5_2 ≤ (x3_1.length : Int))
                                obtain ⟨y114, hy114⟩ : ∃ y_ : List (S53), y_ = (x3_1.drop (x5_2 : Int).toNat) := ⟨_, rfl⟩
                                replace H : (if y111.length + y114.length < 4398046511104 then (paronymref03_Sorted.l0 k2 l0 (y111 ++ y114) (wrap64 (x4_1 + 1))) else (none)) = some r := by first | (rw [hy114]; with_reducible exact H) | (have H2_ := (Option.bind_some _ _).symm.trans H; rw [hy114]; with_reducible exact H2_) | (have H2_ := (Option.bind_some _ _).symm.trans H; with_reducible exact H2_) | with_reducible exact H | (rw [hy114]; exact H) | exact H
                                have Ny114 := Aside0.mk hy114
                                clear hy114
                                by_cases c17 : y111.length + y114.length < 4398046511104
                                · rw [if_pos c17] at H
                                  have LMc17 := Aside0.mk c17
                                  clear c17
                                  obtain ⟨y118, hy118⟩ : ∃ y_ : List (S53), y_ = (y111 ++ y114) := ⟨_, rfl⟩
                                  replace H : (paronymref03_Sorted.l0 k2 l0 y118 (wrap64 (x4_1 + 1))) = some r := by first | (rw [hy118]; with_reducible exact H) | (have H2_ := (Option.bind_some _ _).symm.trans H; rw [hy118]; with_reducible exact H2_) | (have H2_ := (Option.bind_some _ _).symm.trans H; with_reducible exact H2_) | with_reducible exact H | (rw [hy118]; exact H) | exact H
                                  have Ny118 := Aside0.mk hy118
                                  clear hy118
                                  have H' := Aside0.mk H
                                  clear H
                                  have p101 : 0 ≤ ((ji5) : Int) := of_decide_eq_true (by first | (with_reducible assumption) | assumption)
                                  have q101 : (ji5) < (x3_1.length : Int) := of_decide_eq_true (by first | (with_reducible assumption) | assumption)
                                  obtain ⟨ad101, e101, hx101_0, hx101_1, hx101_2⟩ := at_T53 (Kd.R_reads' HO_3.out).2.2 (ji5) p101 q101
                                  cases e101
                                  replace p101 := eq_true p101
                                  replace q101 := eq_true q101
                                  have p102 : 0 ≤ (x4_1 : Int) := of_decide_eq_true (by first | (with_reducible assumption) | assumption)
                                  have q102 : x4_1 < (l0.length : Int) := of_decide_eq_true (by first | (with_reducible assumption) | assumption)
                                  obtain ⟨ad102, e102, hx102_0, hx102_1, hx102_2⟩ := at_T53 HR0.out x4_1 p102 q102
                                  cases e102
                                  replace hx102_0 := (HB.out.cell (World.block_lt_of_cell? w _ hx102_0)).trans hx102_0
                                  replace hx102_1 := (HB.out.cell (World.block_lt_of_cell? w _ hx102_1)).trans hx102_1
                                  replace hx102_2 := (HB.out.cell (World.block_lt_of_cell? w _ hx102_2)).trans hx102_2
                                  replace p102 := eq_true p102
                                  replace q102 := eq_true q102
                                  have q18 : (x5_2 : Int) ≤ ((x3_1.length : Int) : Int) := of_decide_eq_true (by first | (with_reducible assumption) | assumption)
                                  obtain ⟨i018, hi018, _, hsz18, _⟩ := info_parts info53
                                  have hroom18 : x3_1.length ≤ co3 := (Kd.R_reads' HO_3.out).2.1
                                  have hC18 : Kd.C k53 _ (some ad101) x3_1.length x3_1 := (Kd.R_reads' HO_3.out).2.2
                                  have hcut18 := cut_to (P := Try.prog) 49 53 .i64 Try.underlying49 hi018 (some ad101) x3_1.length co3 x5_2 (of_decide_eq_true (by first | (with_reducible assumption) | assumption)) q18 hroom18
                                  have hr18 := Kd.C_take (m := (x5_2 : Int).toNat) hC18 (by omega)
                                  have hy18 : y103.length = (x5_2 : Int).toNat := (by rw [Ny103.out, List.length_take]; omega)
                                  rw [← Ny103.out] at hr18
                                  rw [← hy18] at hcut18
                                  have HR106 := Aside0.mk hr18
                                  have HC106 := Aside0.mk (show y103.length ≤ co3 from by omega)
                                  clear hr18 hC18 hroom18 hi018 hsz18
                                  have KY18 := Aside0.mk hy18
                                  clear hy18
                                  have KL18 := Aside0.mk (show (x5_2 : Int).toNat ≤ x3_1.length from by omega)
                                  replace q18 := eq_true q18
                                  go_wp2_with (first | ((with_reducible refine gate_builtin (b := .append) (xs := #[.tmp 33, .tmp 36]) rfl ?_); at_builtin; refine Kd.R_append_rows k53 (w0 := w) w.heap.size rfl (.tmp 33) (.tmp 36) 49 53 (.agg #[(.int .i64 0), (.int .i64 0), (.string ⟨#[]⟩)]) 32 rfl Try.underlying49 info53 rfl (by decide) (by omega) (.slice none 0 0) ([] : List (S53)) y103 _ _ _ (fun k_ => some k_ ≠ (.slice (some ad101) x3_1.length co3 : Value).ownBlock) (fun _ => False) rfl rfl ?aO ?aR (fun _ _ h => h) (fun _ h => h.elim) ?aF ?aB ?aS ?aL ?_; (case aR => repeat (first | exact (by repeat (first | (with_reducible exact HR106.out) | (with_reducible refine Kd.C_alloc ?_ _) | (with_reducible refine Kd.C_drewN ?_ _) | (with_reducible refine Kd.C_drew ?_) | exact HR106.out)) | (with_reducible refine Kd.C_alloc ?_ _) | (with_reducible refine Kd.C_drewN ?_ _) | (with_reducible refine Kd.C_drew ?_))); (case aB => exact (by repeat (first | (with_reducible first | exact HB.out | apply below_alloc | apply pw_below_drewN | apply below_drew1) | exact HB.out))); (case aF => exact (fun k_ hk => Kd.fresh' (Kd.R_lt (by (with_reducible repeat (first | apply Kd.R_alloc | apply Kd.R_drewN | apply Kd.R_drew)); exact HO_3.out)) k_ hk)); (case aO => exact ((Kd.R_nil _ _ _ _ (fun k_ => some k_ ≠ (.slice (some ad101) x3_1.length co3 : Value).ownBlock)))); (case aS => exact (below_size (by repeat (first | (with_reducible first | exact HB.out | apply below_alloc | apply pw_below_drewN | apply below_drew1) | exact HB.out)))); (case aL => have := LMc13.out; omega); intro v108 w19 ho hb hg hat; rw [← Ny107.out] at ho; have n0_ := Aside0.mk (Kd.R_after (Kd.R_apart_nil (by (with_reducible repeat (first | apply Kd.R_alloc | apply Kd.R_drewN | apply Kd.R_drew)); exact HO_3.out)) hg hat); have n1_ := Aside0.mk (hb); have n2_ := Aside0.mk ((show Kd.C k53 w19 (some ad101) y103.length y103 from by rw [Ny103.out]; exact Kd.C_take (m := (x5_2 : Int).toNat) ((Kd.R_reads' (Kd.R_after (Kd.R_apart_nil (by (with_reducible repeat (first | apply Kd.R_alloc | apply Kd.R_drewN | apply Kd.R_drew)); exact HO_3.out)) hg hat)).2.2) KL18.out)); have n3_ := Aside0.mk (ho); clear HO_3; clear HB; clear HR106; have HO_3 := n0_; have HB := n1_; have HR106 := n2_; have HO109 := n3_; clear n0_ n1_ n2_ n3_; clear ho hb hg hat; have p110 : 0 ≤ (x4_1 : Int) := of_decide_eq_true (by first | (with_reducible assumption) | assumption); have q110 : x4_1 < (l0.length : Int) := of_decide_eq_true (by first | (with_reducible assumption) | assumption); obtain ⟨ad110, e110, hx110_0, hx110_1, hx110_2⟩ := at_T53 HR0.out x4_1 p110 q110; obtain rfl : ad102 = ad110 := (by injection e110); replace hx110_0 := (HB.out.cell (World.block_lt_of_cell? w _ hx110_0)).trans hx110_0; replace hx110_1 := (HB.out.cell (World.block_lt_of_cell? w _ hx110_1)).trans hx110_1; replace hx110_2 := (HB.out.cell (World.block_lt_of_cell? w _ hx110_2)).trans hx110_2; replace p110 := eq_true p110; replace q110 := eq_true q110) | ((with_reducible refine gate_builtin (b := .append) (xs := #[.tmp 38, .tmp 43]) rfl ?_); at_builtin; refine Kd.R_append k53 (w0 := w) w.heap.size rfl (.tmp 38) (.tmp 43) 49 53 (.agg #[(.int .i64 0), (.int .i64 0), (.string ⟨#[]⟩)]) 32 rfl Try.underlying49 info53 rfl (by decide) (by omega) v108 y107 (⟨(rd_T53 l0 x4_1).f0, (rd_T53 l0 x4_1).f1, (rd_T53 l0 x4_1).f2⟩ : S53) [.int .i64 ((rd_T53 l0 x4_1).f0), .int .i64 ((rd_T53 l0 x4_1).f1), .string ((rd_T53 l0 x4_1).f2)] (fun k_ => some k_ ≠ (.slice (some ad101) x3_1.length co3 : Value).ownBlock) (fun _ => False) rfl rfl ?aP (fun _ hk => hk.elim) ?aF ?aO ?aB ?aS ?aL ?_; (case aP => exact k53_mkM _ _ _ (⟨(rd_T53 l0 x4_1).f0, (rd_T53 l0 x4_1).f1, (rd_T53 l0 x4_1).f2⟩ : S53)); (case aB => exact (by repeat (first | (with_reducible first | exact HB.out | apply below_alloc | apply pw_below_drewN | apply below_drew1) | exact HB.out))); (case aF => exact (fun k_ hk => Kd.fresh' (Kd.R_lt (by (with_reducible repeat (first | apply Kd.R_alloc | apply Kd.R_drewN | apply Kd.R_drew)); exact HO_3.out)) k_ hk)); (case aO => exact (by (with_reducible repeat (first | apply Kd.R_alloc | apply Kd.R_drewN | apply Kd.R_drew)); exact HO109.out)); (case aS => exact (below_size (by repeat (first | (with_reducible first | exact HB.out | apply below_alloc | apply pw_below_drewN | apply below_drew1) | exact HB.out)))); (case aL => have := LMc14.out; omega); intro v112 w20 ho hb hg hat; rw [← Ny111.out] at ho; have n0_ := Aside0.mk (Kd.R_after (ok := (fun _ => True)) (by (with_reducible repeat (first | apply Kd.R_alloc | apply Kd.R_drewN | apply Kd.R_drew)); exact HO_3.out) hg hat); have n1_ := Aside0.mk (hb); have n2_ := Aside0.mk ((show Kd.C k53 w20 (some ad101) y103.length y103 from by rw [Ny103.out]; exact Kd.C_take (m := (x5_2 : Int).toNat) ((Kd.R_reads' (Kd.R_after (ok := (fun _ => True)) (by (with_reducible repeat (first | apply Kd.R_alloc | apply Kd.R_drewN | apply Kd.R_drew)); exact HO_3.out) hg hat)).2.2) KL18.out)); have n3_ := Aside0.mk (ho); clear HO_3; clear HB; clear HR106; clear HO109; have HO_3 := n0_; have HB := n1_; have HR106 := n2_; have HO113 := n3_; clear n0_ n1_ n2_ n3_; clear ho hb hg hat; have q21 : (x5_2 : Int) ≤ ((x3_1.length : Int) : Int) := of_decide_eq_true (by first | (with_reducible assumption) | assumption); obtain ⟨i021, hi021, _, hsz21, _⟩ := info_parts info53; have hroom21 : x3_1.length ≤ co3 := (Kd.R_reads' HO_3.out).2.1; have hC21 : Kd.C k53 _ (some ad101) x3_1.length x3_1 := (Kd.R_reads' HO_3.out).2.2; have q021 : (0 : Int) ≤ (x5_2 : Int) := of_decide_eq_true (by first | (with_reducible assumption) | assumption); have hcut21 := cut_from (P := Try.prog) 49 53 .i64 Try.underlying49 hi021 3 hsz21 (some ad101) x3_1.length co3 x5_2 q021 q21; have hr21 := Kd.C_drop (m := (x5_2 : Int).toNat) (c := co3) hC21 (by omega) hroom21; obtain ⟨A21, hA21⟩ : ∃ A1, A1 = (if co3 = (x5_2 : Int).toNat then (some ad101) else ((some ad101) : Option Addr).map (·.add ((x5_2 : Int).toNat * 3))) := ⟨_, rfl⟩; obtain ⟨c21, hc21⟩ : ∃ c1, c1 = co3 - (x5_2 : Int).toNat := ⟨_, rfl⟩; have hy21 : y114.length = x3_1.length - (x5_2 : Int).toNat := (by rw [Ny114.out, List.length_drop] <;> omega); rw [show (x3_1).drop (x5_2 : Int).toNat = y114 from Ny114.out.symm] at hr21; replace hr21 : Kd.C k53 _ A21 y114.length y114 := (by rw [hA21]; exact hr21); rw [← hy21, ← hA21, ← hc21] at hcut21; have HR117 := Aside0.mk hr21; have HC117 := Aside0.mk (show y114.length ≤ c21 from by rw [hy21, hc21]; exact Nat.sub_le_sub_right hroom21 _); clear hr21 hC21 hroom21 hi021 hsz21 hc21; have KY21 := Aside0.mk hy21; have KA21 := Aside0.mk hA21; clear hy21 hA21; have KL21 := Aside0.mk (show (x5_2 : Int).toNat ≤ x3_1.length from by omega); replace q21 := eq_true q21) | ((with_reducible refine gate_builtin (b := .append) (xs := #[.tmp 45, .tmp 48]) rfl ?_); at_builtin; refine Kd.R_append_rows k53 (w0 := w) w.heap.size rfl (.tmp 45) (.tmp 48) 49 53 (.agg #[(.int .i64 0), (.int .i64 0), (.string ⟨#[]⟩)]) 32 rfl Try.underlying49 info53 rfl (by decide) (by omega) v112 y111 y114 _ _ _ (fun k_ => some k_ ≠ (.slice (some ad101) x3_1.length co3 : Value).ownBlock) (fun _ => False) rfl rfl ?aO ?aR (fun _ _ h => h) (fun _ h => h.elim) ?aF ?aB ?aS ?aL ?_; (case aR => repeat (first | exact (by repeat (first | (with_reducible exact HR117.out) | (with_reducible refine Kd.C_alloc ?_ _) | (with_reducible refine Kd.C_drewN ?_ _) | (with_reducible refine Kd.C_drew ?_) | exact HR117.out)) | (with_reducible refine Kd.C_alloc ?_ _) | (with_reducible refine Kd.C_drewN ?_ _) | (with_reducible refine Kd.C_drew ?_))); (case aB => exact (by repeat (first | (with_reducible first | exact HB.out | apply below_alloc | apply pw_below_drewN | apply below_drew1) | exact HB.out))); (case aF => exact (fun k_ hk => Kd.fresh' (Kd.R_lt (by (with_reducible repeat (first | apply Kd.R_alloc | apply Kd.R_drewN | apply Kd.R_drew)); exact HO_3.out)) k_ hk)); (case aO => exact (by (with_reducible repeat (first | apply Kd.R_alloc | apply Kd.R_drewN | apply Kd.R_drew)); exact HO113.out)); (case aS => exact (below_size (by repeat (first | (with_reducible first | exact HB.out | apply below_alloc | apply pw_below_drewN | apply below_drew1) | exact HB.out)))); (case aL => have := LMc17.out; omega); intro v119 w22 ho hb hg hat; rw [← Ny118.out] at ho; have n0_ := Aside0.mk (Kd.R_after (ok := (fun _ => True)) (by (with_reducible repeat (first | apply Kd.R_alloc | apply Kd.R_drewN | apply Kd.R_drew)); exact HO_3.out) hg hat); have n1_ := Aside0.mk (hb); have n2_ := Aside0.mk ((show Kd.C k53 w22 (some ad101) y103.length y103 from by rw [Ny103.out]; exact Kd.C_take (m := (x5_2 : Int).toNat) ((Kd.R_reads' (Kd.R_after (ok := (fun _ => True)) (by (with_reducible repeat (first | apply Kd.R_alloc | apply Kd.R_drewN | apply Kd.R_drew)); exact HO_3.out) hg hat)).2.2) KL18.out)); have n3_ := Aside0.mk ((show Kd.C k53 w22 A21 y114.length y114 from by rw [Ny114.out, KA21.out]; exact Kd.C_drop (m := (x5_2 : Int).toNat) (c := co3) ((Kd.R_reads' (Kd.R_after (ok := (fun _ => True)) (by (with_reducible repeat (first | apply Kd.R_alloc | apply Kd.R_drewN | apply Kd.R_drew)); exact HO_3.out) hg hat)).2.2) KL21.out ((Kd.R_reads' (Kd.R_after (ok := (fun _ => True)) (by (with_reducible repeat (first | apply Kd.R_alloc | apply Kd.R_drewN | apply Kd.R_drew)); exact HO_3.out) hg hat)).2.1))); have n4_ := Aside0.mk (ho); clear HO_3; clear HB; clear HR106; clear HR117; clear HO113; have HO_3 := n0_; have HB := n1_; have HR106 := n2_; have HR117 := n3_; have HO120 := n4_; clear n0_ n1_ n2_ n3_ n4_; clear ho hb hg hat))
                                  repeat (go_quiet (first | ((with_reducible refine gate_builtin (b := .append) (xs := #[.tmp 33, .tmp 36]) rfl ?_); at_builtin; refine Kd.R_append_rows k53 (w0 := w) w.heap.size rfl (.tmp 33) (.tmp 36) 49 53 (.agg #[(.int .i64 0), (.int .i64 0), (.string ⟨#[]⟩)]) 32 rfl Try.underlying49 info53 rfl (by decide) (by omega) (.slice none 0 0) ([] : List (S53)) y103 _ _ _ (fun k_ => some k_ ≠ (.slice (some ad101) x3_1.length co3 : Value).ownBlock) (fun _ => False) rfl rfl ?aO ?aR (fun _ _ h => h) (fun _ h => h.elim) ?aF ?aB ?aS ?aL ?_; (case aR => repeat (first | exact (by repeat (first | (with_reducible exact HR106.out) | (with_reducible refine Kd.C_alloc ?_ _) | (with_reducible refine Kd.C_drewN ?_ _) | (with_reducible refine Kd.C_drew ?_) | exact HR106.out)) | (with_reducible refine Kd.C_alloc ?_ _) | (with_reducible refine Kd.C_drewN ?_ _) | (with_reducible refine Kd.C_drew ?_))); (case aB => exact (by repeat (first | (with_reducible first | exact HB.out | apply below_alloc | apply pw_below_drewN | apply below_drew1) | exact HB.out))); (case aF => exact (fun k_ hk => Kd.fresh' (Kd.R_lt (by (with_reducible repeat (first | apply Kd.R_alloc | apply Kd.R_drewN | apply Kd.R_drew)); exact HO_3.out)) k_ hk)); (case aO => exact ((Kd.R_nil _ _ _ _ (fun k_ => some k_ ≠ (.slice (some ad101) x3_1.length co3 : Value).ownBlock)))); (case aS => exact (below_size (by repeat (first | (with_reducible first | exact HB.out | apply below_alloc | apply pw_below_drewN | apply below_drew1) | exact HB.out)))); (case aL => have := LMc13.out; omega); intro v108 w19 ho hb hg hat; rw [← Ny107.out] at ho; have n0_ := Aside0.mk (Kd.R_after (Kd.R_apart_nil (by (with_reducible repeat (first | apply Kd.R_alloc | apply Kd.R_drewN | apply Kd.R_drew)); exact HO_3.out)) hg hat); have n1_ := Aside0.mk (hb); have n2_ := Aside0.mk ((show Kd.C k53 w19 (some ad101) y103.length y103 from by rw [Ny103.out]; exact Kd.C_take (m := (x5_2 : Int).toNat) ((Kd.R_reads' (Kd.R_after (Kd.R_apart_nil (by (with_reducible repeat (first | apply Kd.R_alloc | apply Kd.R_drewN | apply Kd.R_drew)); exact HO_3.out)) hg hat)).2.2) KL18.out)); have n3_ := Aside0.mk (ho); clear HO_3; clear HB; clear HR106; have HO_3 := n0_; have HB := n1_; have HR106 := n2_; have HO109 := n3_; clear n0_ n1_ n2_ n3_; clear ho hb hg hat; have p110 : 0 ≤ (x4_1 : Int) := of_decide_eq_true (by first | (with_reducible assumption) | assumption); have q110 : x4_1 < (l0.length : Int) := of_decide_eq_true (by first | (with_reducible assumption) | assumption); obtain ⟨ad110, e110, hx110_0, hx110_1, hx110_2⟩ := at_T53 HR0.out x4_1 p110 q110; obtain rfl : ad102 = ad110 := (by injection e110); replace hx110_0 := (HB.out.cell (World.block_lt_of_cell? w _ hx110_0)).trans hx110_0; replace hx110_1 := (HB.out.cell (World.block_lt_of_cell? w _ hx110_1)).trans hx110_1; replace hx110_2 := (HB.out.cell (World.block_lt_of_cell? w _ hx110_2)).trans hx110_2; replace p110 := eq_true p110; replace q110 := eq_true q110) | ((with_reducible refine gate_builtin (b := .append) (xs := #[.tmp 38, .tmp 43]) rfl ?_); at_builtin; refine Kd.R_append k53 (w0 := w) w.heap.size rfl (.tmp 38) (.tmp 43) 49 53 (.agg #[(.int .i64 0), (.int .i64 0), (.string ⟨#[]⟩)]) 32 rfl Try.underlying49 info53 rfl (by decide) (by omega) v108 y107 (⟨(rd_T53 l0 x4_1).f0, (rd_T53 l0 x4_1).f1, (rd_T53 l0 x4_1).f2⟩ : S53) [.int .i64 ((rd_T53 l0 x4_1).f0), .int .i64 ((rd_T53 l0 x4_1).f1), .string ((rd_T53 l0 x4_1).f2)] (fun k_ => some k_ ≠ (.slice (some ad101) x3_1.length co3 : Value).ownBlock) (fun _ => False) rfl rfl ?aP (fun _ hk => hk.elim) ?aF ?aO ?aB ?aS ?aL ?_; (case aP => exact k53_mkM _ _ _ (⟨(rd_T53 l0 x4_1).f0, (rd_T53 l0 x4_1).f1, (rd_T53 l0 x4_1).f2⟩ : S53)); (case aB => exact (by repeat (first | (with_reducible first | exact HB.out | apply below_alloc | apply pw_below_drewN | apply below_drew1) | exact HB.out))); (case aF => exact (fun k_ hk => Kd.fresh' (Kd.R_lt (by (with_reducible repeat (first | apply Kd.R_alloc | apply Kd.R_drewN | apply Kd.R_drew)); exact HO_3.out)) k_ hk)); (case aO => exact (by (with_reducible repeat (first | apply Kd.R_alloc | apply Kd.R_drewN | apply Kd.R_drew)); exact HO109.out)); (case aS => exact (below_size (by repeat (first | (with_reducible first | exact HB.out | apply below_alloc | apply pw_below_drewN | apply below_drew1) | exact HB.out)))); (case aL => have := LMc14.out; omega); intro v112 w20 ho hb hg hat; rw [← Ny111.out] at ho; have n0_ := Aside0.mk (Kd.R_after (ok := (fun _ => True)) (by (with_reducible repeat (first | apply Kd.R_alloc | apply Kd.R_drewN | apply Kd.R_drew)); exact HO_3.out) hg hat); have n1_ := Aside0.mk (hb); have n2_ := Aside0.mk ((show Kd.C k53 w20 (some ad101) y103.length y103 from by rw [Ny103.out]; exact Kd.C_take (m := (x5_2 : Int).toNat) ((Kd.R_reads' (Kd.R_after (ok := (fun _ => True)) (by (with_reducible repeat (first | apply Kd.R_alloc | apply Kd.R_drewN | apply Kd.R_drew)); exact HO_3.out) hg hat)).2.2) KL18.out)); have n3_ := Aside0.mk (ho); clear HO_3; clear HB; clear HR106; clear HO109; have HO_3 := n0_; have HB := n1_; have HR106 := n2_; have HO113 := n3_; clear n0_ n1_ n2_ n3_; clear ho hb hg hat; have q21 : (x5_2 : Int) ≤ ((x3_1.length : Int) : Int) := of_decide_eq_true (by first | (with_reducible assumption) | assumption); obtain ⟨i021, hi021, _, hsz21, _⟩ := info_parts info53; have hroom21 : x3_1.length ≤ co3 := (Kd.R_reads' HO_3.out).2.1; have hC21 : Kd.C k53 _ (some ad101) x3_1.length x3_1 := (Kd.R_reads' HO_3.out).2.2; have q021 : (0 : Int) ≤ (x5_2 : Int) := of_decide_eq_true (by first | (with_reducible assumption) | assumption); have hcut21 := cut_from (P := Try.prog) 49 53 .i64 Try.underlying49 hi021 3 hsz21 (some ad101) x3_1.length co3 x5_2 q021 q21; have hr21 := Kd.C_drop (m := (x5_2 : Int).toNat) (c := co3) hC21 (by omega) hroom21; obtain ⟨A21, hA21⟩ : ∃ A1, A1 = (if co3 = (x5_2 : Int).toNat then (some ad101) else ((some ad101) : Option Addr).map (·.add ((x5_2 : Int).toNat * 3))) := ⟨_, rfl⟩; obtain ⟨c21, hc21⟩ : ∃ c1, c1 = co3 - (x5_2 : Int).toNat := ⟨_, rfl⟩; have hy21 : y114.length = x3_1.length - (x5_2 : Int).toNat := (by rw [Ny114.out, List.length_drop] <;> omega); rw [show (x3_1).drop (x5_2 : Int).toNat = y114 from Ny114.out.symm] at hr21; replace hr21 : Kd.C k53 _ A21 y114.length y114 := (by rw [hA21]; exact hr21); rw [← hy21, ← hA21, ← hc21] at hcut21; have HR117 := Aside0.mk hr21; have HC117 := Aside0.mk (show y114.length ≤ c21 from by rw [hy21, hc21]; exact Nat.sub_le_sub_right hroom21 _); clear hr21 hC21 hroom21 hi021 hsz21 hc21; have KY21 := Aside0.mk hy21; have KA21 := Aside0.mk hA21; clear hy21 hA21; have KL21 := Aside0.mk (show (x5_2 : Int).toNat ≤ x3_1.length from by omega); replace q21 := eq_true q21) | ((with_reducible refine gate_builtin (b := .append) (xs := #[.tmp 45, .tmp 48]) rfl ?_); at_builtin; refine Kd.R_append_rows k53 (w0 := w) w.heap.size rfl (.tmp 45) (.tmp 48) 49 53 (.agg #[(.int .i64 0), (.int .i64 0), (.string ⟨#[]⟩)]) 32 rfl Try.underlying49 info53 rfl (by decide) (by omega) v112 y111 y114 _ _ _ (fun k_ => some k_ ≠ (.slice (some ad101) x3_1.length co3 : Value).ownBlock) (fun _ => False) rfl rfl ?aO ?aR (fun _ _ h => h) (fun _ h => h.elim) ?aF ?aB ?aS ?aL ?_; (case aR => repeat (first | exact (by repeat (first | (with_reducible exact HR117.out) | (with_reducible refine Kd.C_alloc ?_ _) | (with_reducible refine Kd.C_drewN ?_ _) | (with_reducible refine Kd.C_drew ?_) | exact HR117.out)) | (with_reducible refine Kd.C_alloc ?_ _) | (with_reducible refine Kd.C_drewN ?_ _) | (with_reducible refine Kd.C_drew ?_))); (case aB => exact (by repeat (first | (with_reducible first | exact HB.out | apply below_alloc | apply pw_below_drewN | apply below_drew1) | exact HB.out))); (case aF => exact (fun k_ hk => Kd.fresh' (Kd.R_lt (by (with_reducible repeat (first | apply Kd.R_alloc | apply Kd.R_drewN | apply Kd.R_drew)); exact HO_3.out)) k_ hk)); (case aO => exact (by (with_reducible repeat (first | apply Kd.R_alloc | apply Kd.R_drewN | apply Kd.R_drew)); exact HO113.out)); (case aS => exact (below_size (by repeat (first | (with_reducible first | exact HB.out | apply below_alloc | apply pw_below_drewN | apply below_drew1) | exact HB.out)))); (case aL => have := LMc17.out; omega); intro v119 w22 ho hb hg hat; rw [← Ny118.out] at ho; have n0_ := Aside0.mk (Kd.R_after (ok := (fun _ => True)) (by (with_reducible repeat (first | apply Kd.R_alloc | apply Kd.R_drewN | apply Kd.R_drew)); exact HO_3.out) hg hat); have n1_ := Aside0.mk (hb); have n2_ := Aside0.mk ((show Kd.C k53 w22 (some ad101) y103.length y103 from by rw [Ny103.out]; exact Kd.C_take (m := (x5_2 : Int).toNat) ((Kd.R_reads' (Kd.R_after (ok := (fun _ => True)) (by (with_reducible repeat (first | apply Kd.R_alloc | apply Kd.R_drewN | apply Kd.R_drew)); exact HO_3.out) hg hat)).2.2) KL18.out)); have n3_ := Aside0.mk ((show Kd.C k53 w22 A21 y114.length y114 from by rw [Ny114.out, KA21.out]; exact Kd.C_drop (m := (x5_2 : Int).toNat) (c := co3) ((Kd.R_reads' (Kd.R_after (ok := (fun _ => True)) (by (with_reducible repeat (first | apply Kd.R_alloc | apply Kd.R_drewN | apply Kd.R_drew)); exact HO_3.out) hg hat)).2.2) KL21.out ((Kd.R_reads' (Kd.R_after (ok := (fun _ => True)) (by (with_reducible repeat (first | apply Kd.R_alloc | apply Kd.R_drewN | apply Kd.R_drew)); exact HO_3.out) hg hat)).2.1))); have n4_ := Aside0.mk (ho); clear HO_3; clear HB; clear HR106; clear HR117; clear HO113; have HO_3 := n0_; have HB := n1_; have HR106 := n2_; have HR117 := n3_; have HO120 := n4_; clear n0_ n1_ n2_ n3_ n4_; clear ho hb hg hat)); try go_wp2_with (first | ((with_reducible refine gate_builtin (b := .append) (xs := #[.tmp 33, .tmp 36]) rfl ?_); at_builtin; refine Kd.R_append_rows k53 (w0 := w) w.heap.size rfl (.tmp 33) (.tmp 36) 49 53 (.agg #[(.int .i64 0), (.int .i64 0), (.string ⟨#[]⟩)]) 32 rfl Try.underlying49 info53 rfl (by decide) (by omega) (.slice none 0 0) ([] : List (S53)) y103 _ _ _ (fun k_ => some k_ ≠ (.slice (some ad101) x3_1.length co3 : Value).ownBlock) (fun _ => False) rfl rfl ?aO ?aR (fun _ _ h => h) (fun _ h => h.elim) ?aF ?aB ?aS ?aL ?_; (case aR => repeat (first | exact (by repeat (first | (with_reducible exact HR106.out) | (with_reducible refine Kd.C_alloc ?_ _) | (with_reducible refine Kd.C_drewN ?_ _) | (with_reducible refine Kd.C_drew ?_) | exact HR106.out)) | (with_reducible refine Kd.C_alloc ?_ _) | (with_reducible refine Kd.C_drewN ?_ _) | (with_reducible refine Kd.C_drew ?_))); (case aB => exact (by repeat (first | (with_reducible first | exact HB.out | apply below_alloc | apply pw_below_drewN | apply below_drew1) | exact HB.out))); (case aF => exact (fun k_ hk => Kd.fresh' (Kd.R_lt (by (with_reducible repeat (first | apply Kd.R_alloc | apply Kd.R_drewN | apply Kd.R_drew)); exact HO_3.out)) k_ hk)); (case aO => exact ((Kd.R_nil _ _ _ _ (fun k_ => some k_ ≠ (.slice (some ad101) x3_1.length co3 : Value).ownBlock)))); (case aS => exact (below_size (by repeat (first | (with_reducible first | exact HB.out | apply below_alloc | apply pw_below_drewN | apply below_drew1) | exact HB.out)))); (case aL => have := LMc13.out; omega); intro v108 w19 ho hb hg hat; rw [← Ny107.out] at ho; have n0_ := Aside0.mk (Kd.R_after (Kd.R_apart_nil (by (with_reducible repeat (first | apply Kd.R_alloc | apply Kd.R_drewN | apply Kd.R_drew)); exact HO_3.out)) hg hat); have n1_ := Aside0.mk (hb); have n2_ := Aside0.mk ((show Kd.C k53 w19 (some ad101) y103.length y103 from by rw [Ny103.out]; exact Kd.C_take (m := (x5_2 : Int).toNat) ((Kd.R_reads' (Kd.R_after (Kd.R_apart_nil (by (with_reducible repeat (first | apply Kd.R_alloc | apply Kd.R_drewN | apply Kd.R_drew)); exact HO_3.out)) hg hat)).2.2) KL18.out)); have n3_ := Aside0.mk (ho); clear HO_3; clear HB; clear HR106; have HO_3 := n0_; have HB := n1_; have HR106 := n2_; have HO109 := n3_; clear n0_ n1_ n2_ n3_; clear ho hb hg hat; have p110 : 0 ≤ (x4_1 : Int) := of_decide_eq_true (by first | (with_reducible assumption) | assumption); have q110 : x4_1 < (l0.length : Int) := of_decide_eq_true (by first | (with_reducible assumption) | assumption); obtain ⟨ad110, e110, hx110_0, hx110_1, hx110_2⟩ := at_T53 HR0.out x4_1 p110 q110; obtain rfl : ad102 = ad110 := (by injection e110); replace hx110_0 := (HB.out.cell (World.block_lt_of_cell? w _ hx110_0)).trans hx110_0; replace hx110_1 := (HB.out.cell (World.block_lt_of_cell? w _ hx110_1)).trans hx110_1; replace hx110_2 := (HB.out.cell (World.block_lt_of_cell? w _ hx110_2)).trans hx110_2; replace p110 := eq_true p110; replace q110 := eq_true q110) | ((with_reducible refine gate_builtin (b := .append) (xs := #[.tmp 38, .tmp 43]) rfl ?_); at_builtin; refine Kd.R_append k53 (w0 := w) w.heap.size rfl (.tmp 38) (.tmp 43) 49 53 (.agg #[(.int .i64 0), (.int .i64 0), (.string ⟨#[]⟩)]) 32 rfl Try.underlying49 info53 rfl (by decide) (by omega) v108 y107 (⟨(rd_T53 l0 x4_1).f0, (rd_T53 l0 x4_1).f1, (rd_T53 l0 x4_1).f2⟩ : S53) [.int .i64 ((rd_T53 l0 x4_1).f0), .int .i64 ((rd_T53 l0 x4_1).f1), .string ((rd_T53 l0 x4_1).f2)] (fun k_ => some k_ ≠ (.slice (some ad101) x3_1.length co3 : Value).ownBlock) (fun _ => False) rfl rfl ?aP (fun _ hk => hk.elim) ?aF ?aO ?aB ?aS ?aL ?_; (case aP => exact k53_mkM _ _ _ (⟨(rd_T53 l0 x4_1).f0, (rd_T53 l0 x4_1).f1, (rd_T53 l0 x4_1).f2⟩ : S53)); (case aB => exact (by repeat (first | (with_reducible first | exact HB.out | apply below_alloc | apply pw_below_drewN | apply below_drew1) | exact HB.out))); (case aF => exact (fun k_ hk => Kd.fresh' (Kd.R_lt (by (with_reducible repeat (first | apply Kd.R_alloc | apply Kd.R_drewN | apply Kd.R_drew)); exact HO_3.out)) k_ hk)); (case aO => exact (by (with_reducible repeat (first | apply Kd.R_alloc | apply Kd.R_drewN | apply Kd.R_drew)); exact HO109.out)); (case aS => exact (below_size (by repeat (first | (with_reducible first | exact HB.out | apply below_alloc | apply pw_below_drewN | apply below_drew1) | exact HB.out)))); (case aL => have := LMc14.out; omega); intro v112 w20 ho hb hg hat; rw [← Ny111.out] at ho; have n0_ := Aside0.mk (Kd.R_after (ok := (fun _ => True)) (by (with_reducible repeat (first | apply Kd.R_alloc | apply Kd.R_drewN | apply Kd.R_drew)); exact HO_3.out) hg hat); have n1_ := Aside0.mk (hb); have n2_ := Aside0.mk ((show Kd.C k53 w20 (some ad101) y103.length y103 from by rw [Ny103.out]; exact Kd.C_take (m := (x5_2 : Int).toNat) ((Kd.R_reads' (Kd.R_after (ok := (fun _ => True)) (by (with_reducible repeat (first | apply Kd.R_alloc | apply Kd.R_drewN | apply Kd.R_drew)); exact HO_3.out) hg hat)).2.2) KL18.out)); have n3_ := Aside0.mk (ho); clear HO_3; clear HB; clear HR106; clear HO109; have HO_3 := n0_; have HB := n1_; have HR106 := n2_; have HO113 := n3_; clear n0_ n1_ n2_ n3_; clear ho hb hg hat; have q21 : (x5_2 : Int) ≤ ((x3_1.length : Int) : Int) := of_decide_eq_true (by first | (with_reducible assumption) | assumption); obtain ⟨i021, hi021, _, hsz21, _⟩ := info_parts info53; have hroom21 : x3_1.length ≤ co3 := (Kd.R_reads' HO_3.out).2.1; have hC21 : Kd.C k53 _ (some ad101) x3_1.length x3_1 := (Kd.R_reads' HO_3.out).2.2; have q021 : (0 : Int) ≤ (x5_2 : Int) := of_decide_eq_true (by first | (with_reducible assumption) | assumption); have hcut21 := cut_from (P := Try.prog) 49 53 .i64 Try.underlying49 hi021 3 hsz21 (some ad101) x3_1.length co3 x5_2 q021 q21; have hr21 := Kd.C_drop (m := (x5_2 : Int).toNat) (c := co3) hC21 (by omega) hroom21; obtain ⟨A21, hA21⟩ : ∃ A1, A1 = (if co3 = (x5_2 : Int).toNat then (some ad101) else ((some ad101) : Option Addr).map (·.add ((x5_2 : Int).toNat * 3))) := ⟨_, rfl⟩; obtain ⟨c21, hc21⟩ : ∃ c1, c1 = co3 - (x5_2 : Int).toNat := ⟨_, rfl⟩; have hy21 : y114.length = x3_1.length - (x5_2 : Int).toNat := (by rw [Ny114.out, List.length_drop] <;> omega); rw [show (x3_1).drop (x5_2 : Int).toNat = y114 from Ny114.out.symm] at hr21; replace hr21 : Kd.C k53 _ A21 y114.length y114 := (by rw [hA21]; exact hr21); rw [← hy21, ← hA21, ← hc21] at hcut21; have HR117 := Aside0.mk hr21; have HC117 := Aside0.mk (show y114.length ≤ c21 from by rw [hy21, hc21]; exact Nat.sub_le_sub_right hroom21 _); clear hr21 hC21 hroom21 hi021 hsz21 hc21; have KY21 := Aside0.mk hy21; have KA21 := Aside0.mk hA21; clear hy21 hA21; have KL21 := Aside0.mk (show (x5_2 : Int).toNat ≤ x3_1.length from by omega); replace q21 := eq_true q21) | ((with_reducible refine gate_builtin (b := .append) (xs := #[.tmp 45, .tmp 48]) rfl ?_); at_builtin; refine Kd.R_append_rows k53 (w0 := w) w.heap.size rfl (.tmp 45) (.tmp 48) 49 53 (.agg #[(.int .i64 0), (.int .i64 0), (.string ⟨#[]⟩)]) 32 rfl Try.underlying49 info53 rfl (by decide) (by omega) v112 y111 y114 _ _ _ (fun k_ => some k_ ≠ (.slice (some ad101) x3_1.length co3 : Value).ownBlock) (fun _ => False) rfl rfl ?aO ?aR (fun _ _ h => h) (fun _ h => h.elim) ?aF ?aB ?aS ?aL ?_; (case aR => repeat (first | exact (by repeat (first | (with_reducible exact HR117.out) | (with_reducible refine Kd.C_alloc ?_ _) | (with_reducible refine Kd.C_drewN ?_ _) | (with_reducible refine Kd.C_drew ?_) | exact HR117.out)) | (with_reducible refine Kd.C_alloc ?_ _) | (with_reducible refine Kd.C_drewN ?_ _) | (with_reducible refine Kd.C_drew ?_))); (case aB => exact (by repeat (first | (with_reducible first | exact HB.out | apply below_alloc | apply pw_below_drewN | apply below_drew1) | exact HB.out))); (case aF => exact (fun k_ hk => Kd.fresh' (Kd.R_lt (by (with_reducible repeat (first | apply Kd.R_alloc | apply Kd.R_drewN | apply Kd.R_drew)); exact HO_3.out)) k_ hk)); (case aO => exact (by (with_reducible repeat (first | apply Kd.R_alloc | apply Kd.R_drewN | apply Kd.R_drew)); exact HO113.out)); (case aS => exact (below_size (by repeat (first | (with_reducible first | exact HB.out | apply below_alloc | apply pw_below_drewN | apply below_drew1) | exact HB.out)))); (case aL => have := LMc17.out; omega); intro v119 w22 ho hb hg hat; rw [← Ny118.out] at ho; have n0_ := Aside0.mk (Kd.R_after (ok := (fun _ => True)) (by (with_reducible repeat (first | apply Kd.R_alloc | apply Kd.R_drewN | apply Kd.R_drew)); exact HO_3.out) hg hat); have n1_ := Aside0.mk (hb); have n2_ := Aside0.mk ((show Kd.C k53 w22 (some ad101) y103.length y103 from by rw [Ny103.out]; exact Kd.C_take (m := (x5_2 : Int).toNat) ((Kd.R_reads' (Kd.R_after (ok := (fun _ => True)) (by (with_reducible repeat (first | apply Kd.R_alloc | apply Kd.R_drewN | apply Kd.R_drew)); exact HO_3.out) hg hat)).2.2) KL18.out)); have n3_ := Aside0.mk ((show Kd.C k53 w22 A21 y114.length y114 from by rw [Ny114.out, KA21.out]; exact Kd.C_drop (m := (x5_2 : Int).toNat) (c := co3) ((Kd.R_reads' (Kd.R_after (ok := (fun _ => True)) (by (with_reducible repeat (first | apply Kd.R_alloc | apply Kd.R_drewN | apply Kd.R_drew)); exact HO_3.out) hg hat)).2.2) KL21.out ((Kd.R_reads' (Kd.R_after (ok := (fun _ => True)) (by (with_reducible repeat (first | apply Kd.R_alloc | apply Kd.R_drewN | apply Kd.R_drew)); exact HO_3.out) hg hat)).2.1))); have n4_ := Aside0.mk (ho); clear HO_3; clear HB; clear HR106; clear HR117; clear HO113; have HO_3 := n0_; have HB := n1_; have HR106 := n2_; have HR117 := n3_; have HO120 := n4_; clear n0_ n1_ n2_ n3_ n4_; clear ho hb hg hat)))
                                  go_roundg k2
                                  case measure => have := HK1.out; have := HK2.out; omega
                                  case rel => exact ⟨(y118), (wrap64 (x4_1 + 1)), (by first | rfl | (simp; done) | (simp [*]; done)), H', ⟨by have := HK1.out; have := HK2.out; omega⟩, ⟨by (with_reducible repeat (first | apply Kd.R_alloc | apply Kd.R_drewN | apply Kd.R_drew)); exact Kd.R_mono HO120.out (fun _ hk => trivial)⟩, ⟨by repeat (first | (with_reducible first | exact HB.out | apply below_alloc | apply pw_below_drewN | apply below_drew1) | exact HB.out)⟩⟩
                                · rw [if_neg c17] at H
                                  exact absurd H (by simp)
                              · rw [if_neg c14] at H
                                exact absurd H (by simp)
                            · rw [if_neg c13] at H
                              exact absurd H (by simp)
                          · rw [if_neg c12] at H
                            exact absurd H (by simp)
                        · rw [if_neg c11] at H
                          exact absurd H (by simp)
                    · rw [if_neg c9] at H
                      exact absurd H (by simp)
                  · rw [if_neg c8] at H
                    exact absurd H (by simp)
                · rw [if_neg c7] at H
                  exact absurd H (by simp)
              · rw [if_neg c6] at H
                exact absurd H (by simp)
            · rw [if_neg c4] at H
              have c4b0 : decide (0 < x5_2) = false := decide_eq_false c4
              clear c4
              by_cases c23 : 0 ≤ x5_2
              · rw [if_pos c23] at H
                have c23b0 := eq_true c23
                have c23b1 : decide (0 ≤ x5_2) = true := decide_eq_true c23
                clear c23
                by_cases c24 : x5_2 ≤ (x3_1.length : Int)
                · rw [if_pos c24] at H
                  have c24b0 := eq_true c24
                  have c24b1 : decide (x5_2 ≤ (x3_1.length : Int)) = true := decide_eq_true c24
                  clear c24
                  obtain ⟨y121, hy121⟩ : ∃ y_ : List (S53), y_ = (x3_1.take (x5_2 : Int).toNat) := ⟨_, rfl⟩
                  replace H : (if ([] : List (S53)).length + y121.length < 4398046511104 then ((some (([] : List (S53)) ++ y121 : List (S53))).bind fun y125 => (if 0 ≤ x4_1 then (if x4_1 < (l0.length : Int) then (if y125.length < 4398046511104 then ((some (y125 ++ [(⟨(rd_T53 l0 x4_1).f0, (rd_T53 l0 x4_1).f1, (rd_T53 l0 x4_1).f2⟩ : S53)] : List (S53))).bind fun y129 => ((some (x3_1.drop (x5_2 : Int).toNat : List (S53))).bind fun y132 => (if y129.length + y132.length < 4398046511104 then (paronymref03_Sorted.l0 k2 l0 (y129 ++ y132) (wrap64 (x4_1 + 1))) else (none)))) else (none)) else (none)) else (none))) else (none)) = some r := by first | (rw [hy121]; with_reducible exact H) | (have H2_ := (Option.bind_some _ _).symm.trans H; rw [hy121]; with_reducible exact H2_) | (have H2_ := (Option.bind_some _ _).symm.trans H; with_reducible exact H2_) | with_reducible exact H | (rw [hy121]; exact H) | exact H
                  have Ny121 := Aside0.mk hy121
                  clear hy121
                  by_cases c25 : ([] : List (S53)).length + y121.length < 4398046511104
                  · rw [if_pos c25] at H
                    have LMc25 := Aside0.mk c25
                    clear c25
                    obtain ⟨y125, hy125⟩ : ∃ y_ : List (S53), y_ = (([] : List (S53)) ++ y121) := ⟨_, rfl⟩
                    replace H : (if 0 ≤ x4_1 then (if x4_1 < (l0.length : Int) then (if y125.length < 4398046511104 then ((some (y125 ++ [(⟨(rd_T53 l0 x4_1).f0, (rd_T53 l0 x4_1).f1, (rd_T53 l0 x4_1).f2⟩ : S53)] : List (S53))).bind fun y129 => ((some (x3_1.drop (x5_2 : Int).toNat : List (S53))).bind fun y132 => (if y129.length + y132.length < 4398046511104 then (paronymref03_Sorted.l0 k2 l0 (y129 ++ y132) (wrap64 (x4_1 + 1))) else (none)))) else (none)) else (none)) else (none)) = some r := by first | (rw [hy125]; with_reducible exact H) | (have H2_ := (Option.bind_some _ _).symm.trans H; rw [hy125]; with_reducible exact H2_) | (have H2_ := (Option.bind_some _ _).symm.trans H; with_reducible exact H2_) | with_reducible exact H | (rw [hy125]; exact H) | exact H
                    have Ny125 := Aside0.mk hy125
                    clear hy125
                    by_cases c26 : 0 ≤ x4_1
                    · rw [if_pos c26] at H
                      have c26b0 : decide (0 ≤ x4_1) = true := decide_eq_true c26
                      clear c26
                      by_cases c27 : x4_1 < (l0.length : Int)
                      · rw [if_pos c27] at H
                        have c27b0 : decide (x4_1 < (l0.length : Int)) = true := decide_eq_true c27
                        clear c27
                        by_cases c28 : y125.length < 4398046511104
                        · rw [if_pos c28] at H
                          have LMc28 := Aside0.mk c28
                          clear c28
                          obtain ⟨y129, hy129⟩ : ∃ y_ : List (S53), y_ = (y125 ++ [(⟨(rd_T53 l0 x4_1).f0, (rd_T53 l0 x4_1).f1, (rd_T53 l0 x4_1).f2⟩ : S53)]) := ⟨_, rfl⟩
                          replace H : ((some (x3_1.drop (x5_2 : Int).toNat : List (S53))).bind fun y132 => (if y129.length + y132.length < 4398046511104 then (paronymref03_Sorted.l0 k2 l0 (y129 ++ y132) (wrap64 (x4_1 + 1))) else (none))) = some r := by first | (rw [hy129]; with_reducible exact H) | (have H2_ := (Option.bind_some _ _).symm.trans H; rw [hy129]; with_reducible exact H2_) | (have H2_ := (Option.bind_some _ _).symm.trans H; with_reducible exact H2_) | with_reducible exact H | (rw [hy129]; exact H) | exact H
                          have Ny129 := Aside0.mk hy129
                          clear hy129
                          have c29b0 := eq_true (of_decide_eq_true (by first | (with_reducible assumption) | assumption) : 0 ≤ x5_2)
                          have c30b0 := eq_true (of_decide_eq_true (by first | (with_reducible assumption) | assumption) : x5_2 ≤ (x3_1.length : Int))
                          obtain ⟨y132, hy132⟩ : ∃ y_ : List (S53), y_ = (x3_1.drop (x5_2 : Int).toNat) := ⟨_, rfl⟩
                          replace H : (if y129.length + y132.length < 4398046511104 then (paronymref03_Sorted.l0 k2 l0 (y129 ++ y132) (wrap64 (x4_1 + 1))) else (none)) = some r := by first | (rw [hy132]; with_reducible exact H) | (have H2_ := (Option.bind_some _ _).symm.trans H; rw [hy132]; with_reducible exact H2_) | (have H2_ := (Option.bind_some _ _).symm.trans H; with_reducible exact H2_) | with_reducible exact H | (rw [hy132]; exact H) | exact H
                          have Ny132 := Aside0.mk hy132
                          clear hy132
                          by_cases c31 : y129.length + y132.length < 4398046511104
                          · rw [if_pos c31] at H
                            have LMc31 := Aside0.mk c31
                            clear c31
                            obtain ⟨y136, hy136⟩ : ∃ y_ : List (S53), y_ = (y129 ++ y132) := ⟨_, rfl⟩
                            replace H : (paronymref03_Sorted.l0 k2 l0 y136 (wrap64 (x4_1 + 1))) = some r := by first | (rw [hy136]; with_reducible exact H) | (have H2_ := (Option.bind_some _ _).symm.trans H; rw [hy136]; with_reducible exact H2_) | (have H2_ := (Option.bind_some _ _).symm.trans H; with_reducible exact H2_) | with_reducible exact H | (rw [hy136]; exact H) | exact H
                            have Ny136 := Aside0.mk hy136
                            clear hy136
                            have H' := Aside0.mk H
                            clear H
                            have q32 : (x5_2 : Int) ≤ ((x3_1.length : Int) : Int) := of_decide_eq_true (by first | (with_reducible assumption) | assumption)
                            obtain ⟨i032, hi032, _, hsz32, _⟩ := info_parts info53
                            have hroom32 : x3_1.length ≤ co3 := (Kd.R_reads' HO_3.out).2.1
                            have hC32 : Kd.C k53 _ Ao3 x3_1.length x3_1 := (Kd.R_reads' HO_3.out).2.2
                            have hcut32 := cut_to (P := Try.prog) 49 53 .i64 Try.underlying49 hi032 Ao3 x3_1.length co3 x5_2 (of_decide_eq_true (by first | (with_reducible assumption) | assumption)) q32 hroom32
                            have hr32 := Kd.C_take (m := (x5_2 : Int).toNat) hC32 (by omega)
                            have hy32 : y121.length = (x5_2 : Int).toNat := (by rw [Ny121.out, List.length_take]; omega)
                            rw [← Ny121.out] at hr32
                            rw [← hy32] at hcut32
                            have HR124 := Aside0.mk hr32
                            have HC124 := Aside0.mk (show y121.length ≤ co3 from by omega)
                            clear hr32 hC32 hroom32 hi032 hsz32
                            have KY32 := Aside0.mk hy32
                            clear hy32
                            have KL32 := Aside0.mk (show (x5_2 : Int).toNat ≤ x3_1.length from by omega)
                            replace q32 := eq_true q32
                            go_wp2_with (first | ((with_reducible refine gate_builtin (b := .append) (xs := #[.tmp 33, .tmp 36]) rfl ?_); at_builtin; refine Kd.R_append_rows k53 (w0 := w) w.heap.size rfl (.tmp 33) (.tmp 36) 49 53 (.agg #[(.int .i64 0), (.int .i64 0), (.string ⟨#[]⟩)]) 32 rfl Try.underlying49 info53 rfl (by decide) (by omega) (.slice none 0 0) ([] : List (S53)) y121 _ _ _ (fun k_ => some k_ ≠ (.slice Ao3 x3_1.length co3 : Value).ownBlock) (fun _ => False) rfl rfl ?aO ?aR (fun _ _ h => h) (fun _ h => h.elim) ?aF ?aB ?aS ?aL ?_; (case aR => repeat (first | exact (by repeat (first | (with_reducible exact HR124.out) | (with_reducible refine Kd.C_alloc ?_ _) | (with_reducible refine Kd.C_drewN ?_ _) | (with_reducible refine Kd.C_drew ?_) | exact HR124.out)) | (with_reducible refine Kd.C_alloc ?_ _) | (with_reducible refine Kd.C_drewN ?_ _) | (with_reducible refine Kd.C_drew ?_))); (case aB => exact (by repeat (first | (with_reducible first | exact HB.out | apply below_alloc | apply pw_below_drewN | apply below_drew1) | exact HB.out))); (case aF => exact (fun k_ hk => Kd.fresh' (Kd.R_lt (by (with_reducible repeat (first | apply Kd.R_alloc | apply Kd.R_drewN | apply Kd.R_drew)); exact HO_3.out)) k_ hk)); (case aO => exact ((Kd.R_nil _ _ _ _ (fun k_ => some k_ ≠ (.slice Ao3 x3_1.length co3 : Value).ownBlock)))); (case aS => exact (below_size (by repeat (first | (with_reducible first | exact HB.out | apply below_alloc | apply pw_below_drewN | apply below_drew1) | exact HB.out)))); (case aL => have := LMc25.out; omega); intro v126 w33 ho hb hg hat; rw [← Ny125.out] at ho; have n0_ := Aside0.mk (Kd.R_after (Kd.R_apart_nil (by (with_reducible repeat (first | apply Kd.R_alloc | apply Kd.R_drewN | apply Kd.R_drew)); exact HO_3.out)) hg hat); have n1_ := Aside0.mk (hb); have n2_ := Aside0.mk ((show Kd.C k53 w33 Ao3 y121.length y121 from by rw [Ny121.out]; exact Kd.C_take (m := (x5_2 : Int).toNat) ((Kd.R_reads' (Kd.R_after (Kd.R_apart_nil (by (with_reducible repeat (first | apply Kd.R_alloc | apply Kd.R_drewN | apply Kd.R_drew)); exact HO_3.out)) hg hat)).2.2) KL32.out)); have n3_ := Aside0.mk (ho); clear HO_3; clear HB; clear HR124; have HO_3 := n0_; have HB := n1_; have HR124 := n2_; have HO127 := n3_; clear n0_ n1_ n2_ n3_; clear ho hb hg hat; have p128 : 0 ≤ (x4_1 : Int) := of_decide_eq_true (by first | (with_reducible assumption) | assumption); have q128 : x4_1 < (l0.length : Int) := of_decide_eq_true (by first | (with_reducible assumption) | assumption); obtain ⟨ad128, e128, hx128_0, hx128_1, hx128_2⟩ := at_T53 HR0.out x4_1 p128 q128; cases e128; replace hx128_0 := (HB.out.cell (World.block_lt_of_cell? w _ hx128_0)).trans hx128_0; replace hx128_1 := (HB.out.cell (World.block_lt_of_cell? w _ hx128_1)).trans hx128_1; replace hx128_2 := (HB.out.cell (World.block_lt_of_cell? w _ hx128_2)).trans hx128_2; replace p128 := eq_true p128; replace q128 := eq_true q128) | ((with_reducible refine gate_builtin (b := .append) (xs := #[.tmp 38, .tmp 43]) rfl ?_); at_builtin; refine Kd.R_append k53 (w0 := w) w.heap.size rfl (.tmp 38) (.tmp 43) 49 53 (.agg #[(.int .i64 0), (.int .i64 0), (.string ⟨#[]⟩)]) 32 rfl Try.underlying49 info53 rfl (by decide) (by omega) v126 y125 (⟨(rd_T53 l0 x4_1).f0, (rd_T53 l0 x4_1).f1, (rd_T53 l0 x4_1).f2⟩ : S53) [.int .i64 ((rd_T53 l0 x4_1).f0), .int .i64 ((rd_T53 l0 x4_1).f1), .string ((rd_T53 l0 x4_1).f2)] (fun k_ => some k_ ≠ (.slice Ao3 x3_1.length co3 : Value).ownBlock) (fun _ => False) rfl rfl ?aP (fun _ hk => hk.elim) ?aF ?aO ?aB ?aS ?aL ?_; (case aP => exact k53_mkM _ _ _ (⟨(rd_T53 l0 x4_1).f0, (rd_T53 l0 x4_1).f1, (rd_T53 l0 x4_1).f2⟩ : S53)); (case aB => exact (by repeat (first | (with_reducible first | exact HB.out | apply below_alloc | apply pw_below_drewN | apply below_drew1) | exact HB.out))); (case aF => exact (fun k_ hk => Kd.fresh' (Kd.R_lt (by (with_reducible repeat (first | apply Kd.R_alloc | apply Kd.R_drewN | apply Kd.R_drew)); exact HO_3.out)) k_ hk)); (case aO => exact (by (with_reducible repeat (first | apply Kd.R_alloc | apply Kd.R_drewN | apply Kd.R_drew)); exact HO127.out)); (case aS => exact (below_size (by repeat (first | (with_reducible first | exact HB.out | apply below_alloc | apply pw_below_drewN | apply below_drew1) | exact HB.out)))); (case aL => have := LMc28.out; omega); intro v130 w34 ho hb hg hat; rw [← Ny129.out] at ho; have n0_ := Aside0.mk (Kd.R_after (ok := (fun _ => True)) (by (with_reducible repeat (first | apply Kd.R_alloc | apply Kd.R_drewN | apply Kd.R_drew)); exact HO_3.out) hg hat); have n1_ := Aside0.mk (hb); have n2_ := Aside0.mk ((show Kd.C k53 w34 Ao3 y121.length y121 from by rw [Ny121.out]; exact Kd.C_take (m := (x5_2 : Int).toNat) ((Kd.R_reads' (Kd.R_after (ok := (fun _ => True)) (by (with_reducible repeat (first | apply Kd.R_alloc | apply Kd.R_drewN | apply Kd.R_drew)); exact HO_3.out) hg hat)).2.2) KL32.out)); have n3_ := Aside0.mk (ho); clear HO_3; clear HB; clear HR124; clear HO127; have HO_3 := n0_; have HB := n1_; have HR124 := n2_; have HO131 := n3_; clear n0_ n1_ n2_ n3_; clear ho hb hg hat; have q35 : (x5_2 : Int) ≤ ((x3_1.length : Int) : Int) := of_decide_eq_true (by first | (with_reducible assumption) | assumption); obtain ⟨i035, hi035, _, hsz35, _⟩ := info_parts info53; have hroom35 : x3_1.length ≤ co3 := (Kd.R_reads' HO_3.out).2.1; have hC35 : Kd.C k53 _ Ao3 x3_1.length x3_1 := (Kd.R_reads' HO_3.out).2.2; have q035 : (0 : Int) ≤ (x5_2 : Int) := of_decide_eq_true (by first | (with_reducible assumption) | assumption); have hcut35 := cut_from (P := Try.prog) 49 53 .i64 Try.underlying49 hi035 3 hsz35 Ao3 x3_1.length co3 x5_2 q035 q35; have hr35 := Kd.C_drop (m := (x5_2 : Int).toNat) (c := co3) hC35 (by omega) hroom35; obtain ⟨A35, hA35⟩ : ∃ A1, A1 = (if co3 = (x5_2 : Int).toNat then Ao3 else (Ao3 : Option Addr).map (·.add ((x5_2 : Int).toNat * 3))) := ⟨_, rfl⟩; obtain ⟨c35, hc35⟩ : ∃ c1, c1 = co3 - (x5_2 : Int).toNat := ⟨_, rfl⟩; have hy35 : y132.length = x3_1.length - (x5_2 : Int).toNat := (by rw [Ny132.out, List.length_drop] <;> omega); rw [show (x3_1).drop (x5_2 : Int).toNat = y132 from Ny132.out.symm] at hr35; replace hr35 : Kd.C k53 _ A35 y132.length y132 := (by rw [hA35]; exact hr35); rw [← hy35, ← hA35, ← hc35] at hcut35; have HR135 := Aside0.mk hr35; have HC135 := Aside0.mk (show y132.length ≤ c35 from by rw [hy35, hc35]; exact Nat.sub_le_sub_right hroom35 _); clear hr35 hC35 hroom35 hi035 hsz35 hc35; have KY35 := Aside0.mk hy35; have KA35 := Aside0.mk hA35; clear hy35 hA35; have KL35 := Aside0.mk (show (x5_2 : Int).toNat ≤ x3_1.length from by omega); replace q35 := eq_true q35) | ((with_reducible refine gate_builtin (b := .append) (xs := #[.tmp 45, .tmp 48]) rfl ?_); at_builtin; refine Kd.R_append_rows k53 (w0 := w) w.heap.size rfl (.tmp 45) (.tmp 48) 49 53 (.agg #[(.int .i64 0), (.int .i64 0), (.string ⟨#[]⟩)]) 32 rfl Try.underlying49 info53 rfl (by decide) (by omega) v130 y129 y132 _ _ _ (fun k_ => some k_ ≠ (.slice Ao3 x3_1.length co3 : Value).ownBlock) (fun _ => False) rfl rfl ?aO ?aR (fun _ _ h => h) (fun _ h => h.elim) ?aF ?aB ?aS ?aL ?_; (case aR => repeat (first | exact (by repeat (first | (with_reducible exact HR135.out) | (with_reducible refine Kd.C_alloc ?_ _) | (with_reducible refine Kd.C_drewN ?_ _) | (with_reducible refine Kd.C_drew ?_) | exact HR135.out)) | (with_reducible refine Kd.C_alloc ?_ _) | (with_reducible refine Kd.C_drewN ?_ _) | (with_reducible refine Kd.C_drew ?_))); (case aB => exact (by repeat (first | (with_reducible first | exact HB.out | apply below_alloc | apply pw_below_drewN | apply below_drew1) | exact HB.out))); (case aF => exact (fun k_ hk => Kd.fresh' (Kd.R_lt (by (with_reducible repeat (first | apply Kd.R_alloc | apply Kd.R_drewN | apply Kd.R_drew)); exact HO_3.out)) k_ hk)); (case aO => exact (by (with_reducible repeat (first | apply Kd.R_alloc | apply Kd.R_drewN | apply Kd.R_drew)); exact HO131.out)); (case aS => exact (below_size (by repeat (first | (with_reducible first | exact HB.out | apply below_alloc | apply pw_below_drewN | apply below_drew1) | exact HB.out)))); (case aL => have := LMc31.out; omega); intro v137 w36 ho hb hg hat; rw [← Ny136.out] at ho; have n0_ := Aside0.mk (Kd.R_after (ok := (fun _ => True)) (by (with_reducible repeat (first | apply Kd.R_alloc | apply Kd.R_drewN | apply Kd.R_drew)); exact HO_3.out) hg hat); have n1_ := Aside0.mk (hb); have n2_ := Aside0.mk ((show Kd.C k53 w36 Ao3 y121.length y121 from by rw [Ny121.out]; exact Kd.C_take (m := (x5_2 : Int).toNat) ((Kd.R_reads' (Kd.R_after (ok := (fun _ => True)) (by (with_reducible repeat (first | apply Kd.R_alloc | apply Kd.R_drewN | apply Kd.R_drew)); exact HO_3.out) hg hat)).2.2) KL32.out)); have n3_ := Aside0.mk ((show Kd.C k53 w36 A35 y132.length y132 from by rw [Ny132.out, KA35.out]; exact Kd.C_drop (m := (x5_2 : Int).toNat) (c := co3) ((Kd.R_reads' (Kd.R_after (ok := (fun _ => True)) (by (with_reducible repeat (first | apply Kd.R_alloc | apply Kd.R_drewN | apply Kd.R_drew)); exact HO_3.out) hg hat)).2.2) KL35.out ((Kd.R_reads' (Kd.R_after (ok := (fun _ => True)) (by (with_reducible repeat (first | apply Kd.R_alloc | apply Kd.R_drewN | apply Kd.R_drew)); exact HO_3.out) hg hat)).2.1))); have n4_ := Aside0.mk (ho); clear HO_3; clear HB; clear HR124; clear HR135; clear HO131; have HO_3 := n0_; have HB := n1_; have HR124 := n2_; have HR135 := n3_; have HO138 := n4_; clear n0_ n1_ n2_ n3_ n4_; clear ho hb hg hat))
                            repeat (go_quiet (first | ((with_reducible refine gate_builtin (b := .append) (xs := #[.tmp 33, .tmp 36]) rfl ?_); at_builtin; refine Kd.R_append_rows k53 (w0 := w) w.heap.size rfl (.tmp 33) (.tmp 36) 49 53 (.agg #[(.int .i64 0), (.int .i64 0), (.string ⟨#[]⟩)]) 32 rfl Try.underlying49 info53 rfl (by decide) (by omega) (.slice none 0 0) ([] : List (S53)) y121 _ _ _ (fun k_ => some k_ ≠ (.slice Ao3 x3_1.length co3 : Value).ownBlock) (fun _ => False) rfl rfl ?aO ?aR (fun _ _ h => h) (fun _ h => h.elim) ?aF ?aB ?aS ?aL ?_; (case aR => repeat (first | exact (by repeat (first | (with_reducible exact HR124.out) | (with_reducible refine Kd.C_alloc ?_ _) | (with_reducible refine Kd.C_drewN ?_ _) | (with_reducible refine Kd.C_drew ?_) | exact HR124.out)) | (with_reducible refine Kd.C_alloc ?_ _) | (with_reducible refine Kd.C_drewN ?_ _) | (with_reducible refine Kd.C_drew ?_))); (case aB => exact (by repeat (first | (with_reducible first | exact HB.out | apply below_alloc | apply pw_below_drewN | apply below_drew1) | exact HB.out))); (case aF => exact (fun k_ hk => Kd.fresh' (Kd.R_lt (by (with_reducible repeat (first | apply Kd.R_alloc | apply Kd.R_drewN | apply Kd.R_drew)); exact HO_3.out)) k_ hk)); (case aO => exact ((Kd.R_nil _ _ _ _ (fun k_ => some k_ ≠ (.slice Ao3 x3_1.length co3 : Value).ownBlock)))); (case aS => exact (below_size (by repeat (first | (with_reducible first | exact HB.out | apply below_alloc | apply pw_below_drewN | apply below_drew1) | exact HB.out)))); (case aL => have := LMc25.out; omega); intro v126 w33 ho hb hg hat; rw [← Ny125.out] at ho; have n0_ := Aside0.mk (Kd.R_after (Kd.R_apart_nil (by (with_reducible repeat (first | apply Kd.R_alloc | apply Kd.R_drewN | apply Kd.R_drew)); exact HO_3.out)) hg hat); have n1_ := Aside0.mk (hb); have n2_ := Aside0.mk ((show Kd.C k53 w33 Ao3 y121.length y121 from by rw [Ny121.out]; exact Kd.C_take (m := (x5_2 : Int).toNat) ((Kd.R_reads' (Kd.R_after (Kd.R_apart_nil (by (with_reducible repeat (first | apply Kd.R_alloc | apply Kd.R_drewN | apply Kd.R_drew)); exact HO_3.out)) hg hat)).2.2) KL32.out)); have n3_ := Aside0.mk (ho); clear HO_3; clear HB; clear HR124; have HO_3 := n0_; have HB := n1_; have HR124 := n2_; have HO127 := n3_; clear n0_ n1_ n2_ n3_; clear ho hb hg hat; have p128 : 0 ≤ (x4_1 : Int) := of_decide_eq_true (by first | (with_reducible assumption) | assumption); have q128 : x4_1 < (l0.length : Int) := of_decide_eq_true (by first | (with_reducible assumption) | assumption); obtain ⟨ad128, e128, hx128_0, hx128_1, hx128_2⟩ := at_T53 HR0.out x4_1 p128 q128; cases e128; replace hx128_0 := (HB.out.cell (World.block_lt_of_cell? w _ hx128_0)).trans hx128_0; replace hx128_1 := (HB.out.cell (World.block_lt_of_cell? w _ hx128_1)).trans hx128_1; replace hx128_2 := (HB.out.cell (World.block_lt_of_cell? w _ hx128_2)).trans hx128_2; replace p128 := eq_true p128; replace q128 := eq_true q128) | ((with_reducible refine gate_builtin (b := .append) (xs := #[.tmp 38, .tmp 43]) rfl ?_); at_builtin; refine Kd.R_append k53 (w0 := w) w.heap.size rfl (.tmp 38) (.tmp 43) 49 53 (.agg #[(.int .i64 0), (.int .i64 0), (.string ⟨#[]⟩)]) 32 rfl Try.underlying49 info53 rfl (by decide) (by omega) v126 y125 (⟨(rd_T53 l0 x4_1).f0, (rd_T53 l0 x4_1).f1, (rd_T53 l0 x4_1).f2⟩ : S53) [.int .i64 ((rd_T53 l0 x4_1).f0), .int .i64 ((rd_T53 l0 x4_1).f1), .string ((rd_T53 l0 x4_1).f2)] (fun k_ => some k_ ≠ (.slice Ao3 x3_1.length co3 : Value).ownBlock) (fun _ => False) rfl rfl ?aP (fun _ hk => hk.elim) ?aF ?aO ?aB ?aS ?aL ?_; (case aP => exact k53_mkM _ _ _ (⟨(rd_T53 l0 x4_1).f0, (rd_T53 l0 x4_1).f1, (rd_T53 l0 x4_1).f2⟩ : S53)); (case aB => exact (by repeat (first | (with_reducible first | exact HB.out | apply below_alloc | apply pw_below_drewN | apply below_drew1) | exact HB.out))); (case aF => exact (fun k_ hk => Kd.fresh' (Kd.R_lt (by (with_reducible repeat (first | apply Kd.R_alloc | apply Kd.R_drewN | apply Kd.R_drew)); exact HO_3.out)) k_ hk)); (case aO => exact (by (with_reducible repeat (first | apply Kd.R_alloc | apply Kd.R_drewN | apply Kd.R_drew)); exact HO127.out)); (case aS => exact (below_size (by repeat (first | (with_reducible first | exact HB.out | apply below_alloc | apply pw_below_drewN | apply below_drew1) | exact HB.out)))); (case aL => have := LMc28.out; omega); intro v130 w34 ho hb hg hat; rw [← Ny129.out] at ho; have n0_ := Aside0.mk (Kd.R_after (ok := (fun _ => True)) (by (with_reducible repeat (first | apply Kd.R_alloc | apply Kd.R_drewN | apply Kd.R_drew)); exact HO_3.out) hg hat); have n1_ := Aside0.mk (hb); have n2_ := Aside0.mk ((show Kd.C k53 w34 Ao3 y121.length y121 from by rw [Ny121.out]; exact Kd.C_take (m := (x5_2 : Int).toNat) ((Kd.R_reads' (Kd.R_after (ok := (fun _ => True)) (by (with_reducible repeat (first | apply Kd.R_alloc | apply Kd.R_drewN | apply Kd.R_drew)); exact HO_3.out) hg hat)).2.2) KL32.out)); have n3_ := Aside0.mk (ho); clear HO_3; clear HB; clear HR124; clear HO127; have HO_3 := n0_; have HB := n1_; have HR124 := n2_; have HO131 := n3_; clear n0_ n1_ n2_ n3_; clear ho hb hg hat; have q35 : (x5_2 : Int) ≤ ((x3_1.length : Int) : Int) := of_decide_eq_true (by first | (with_reducible assumption) | assumption); obtain ⟨i035, hi035, _, hsz35, _⟩ := info_parts info53; have hroom35 : x3_1.length ≤ co3 := (Kd.R_reads' HO_3.out).2.1; have hC35 : Kd.C k53 _ Ao3 x3_1.length x3_1 := (Kd.R_reads' HO_3.out).2.2; have q035 : (0 : Int) ≤ (x5_2 : Int) := of_decide_eq_true (by first | (with_reducible assumption) | assumption); have hcut35 := cut_from (P := Try.prog) 49 53 .i64 Try.underlying49 hi035 3 hsz35 Ao3 x3_1.length co3 x5_2 q035 q35; have hr35 := Kd.C_drop (m := (x5_2 : Int).toNat) (c := co3) hC35 (by omega) hroom35; obtain ⟨A35, hA35⟩ : ∃ A1, A1 = (if co3 = (x5_2 : Int).toNat then Ao3 else (Ao3 : Option Addr).map (·.add ((x5_2 : Int).toNat * 3))) := ⟨_, rfl⟩; obtain ⟨c35, hc35⟩ : ∃ c1, c1 = co3 - (x5_2 : Int).toNat := ⟨_, rfl⟩; have hy35 : y132.length = x3_1.length - (x5_2 : Int).toNat := (by rw [Ny132.out, List.length_drop] <;> omega); rw [show (x3_1).drop (x5_2 : Int).toNat = y132 from Ny132.out.symm] at hr35; replace hr35 : Kd.C k53 _ A35 y132.length y132 := (by rw [hA35]; exact hr35); rw [← hy35, ← hA35, ← hc35] at hcut35; have HR135 := Aside0.mk hr35; have HC135 := Aside0.mk (show y132.length ≤ c35 from by rw [hy35, hc35]; exact Nat.sub_le_sub_right hroom35 _); clear hr35 hC35 hroom35 hi035 hsz35 hc35; have KY35 := Aside0.mk hy35; have KA35 := Aside0.mk hA35; clear hy35 hA35; have KL35 := Aside0.mk (show (x5_2 : Int).toNat ≤ x3_1.length from by omega); replace q35 := eq_true q35) | ((with_reducible refine gate_builtin (b := .append) (xs := #[.tmp 45, .tmp 48]) rfl ?_); at_builtin; refine Kd.R_append_rows k53 (w0 := w) w.heap.size rfl (.tmp 45) (.tmp 48) 49 53 (.agg #[(.int .i64 0), (.int .i64 0), (.string ⟨#[]⟩)]) 32 rfl Try.underlying49 info53 rfl (by decide) (by omega) v130 y129 y132 _ _ _ (fun k_ => some k_ ≠ (.slice Ao3 x3_1.length co3 : Value).ownBlock) (fun _ => False) rfl rfl ?aO ?aR (fun _ _ h => h) (fun _ h => h.elim) ?aF ?aB ?aS ?aL ?_; (case aR => repeat (first | exact (by repeat (first | (with_reducible exact HR135.out) | (with_reducible refine Kd.C_alloc ?_ _) | (with_reducible refine Kd.C_drewN ?_ _) | (with_reducible refine Kd.C_drew ?_) | exact HR135.out)) | (with_reducible refine Kd.C_alloc ?_ _) | (with_reducible refine Kd.C_drewN ?_ _) | (with_reducible refine Kd.C_drew ?_))); (case aB => exact (by repeat (first | (with_reducible first | exact HB.out | apply below_alloc | apply pw_below_drewN | apply below_drew1) | exact HB.out))); (case aF => exact (fun k_ hk => Kd.fresh' (Kd.R_lt (by (with_reducible repeat (first | apply Kd.R_alloc | apply Kd.R_drewN | apply Kd.R_drew)); exact HO_3.out)) k_ hk)); (case aO => exact (by (with_reducible repeat (first | apply Kd.R_alloc | apply Kd.R_drewN | apply Kd.R_drew)); exact HO131.out)); (case aS => exact (below_size (by repeat (first | (with_reducible first | exact HB.out | apply below_alloc | apply pw_below_drewN | apply below_drew1) | exact HB.out)))); (case aL => have := LMc31.out; omega); intro v137 w36 ho hb hg hat; rw [← Ny136.out] at ho; have n0_ := Aside0.mk (Kd.R_after (ok := (fun _ => True)) (by (with_reducible repeat (first | apply Kd.R_alloc | apply Kd.R_drewN | apply Kd.R_drew)); exact HO_3.out) hg hat); have n1_ := Aside0.mk (hb); have n2_ := Aside0.mk ((show Kd.C k53 w36 Ao3 y121.length y121 from by rw [Ny121.out]; exact Kd.C_take (m := (x5_2 : Int).toNat) ((Kd.R_reads' (Kd.R_after (ok := (fun _ => True)) (by (with_reducible repeat (first | apply Kd.R_alloc | apply Kd.R_drewN | apply Kd.R_drew)); exact HO_3.out) hg hat)).2.2) KL32.out)); have n3_ := Aside0.mk ((show Kd.C k53 w36 A35 y132.length y132 from by rw [Ny132.out, KA35.out]; exact Kd.C_drop (m := (x5_2 : Int).toNat) (c := co3) ((Kd.R_reads' (Kd.R_after (ok := (fun _ => True)) (by (with_reducible repeat (first | apply Kd.R_alloc | apply Kd.R_drewN | apply Kd.R_drew)); exact HO_3.out) hg hat)).2.2) KL35.out ((Kd.R_reads' (Kd.R_after (ok := (fun _ => True)) (by (with_reducible repeat (first | apply Kd.R_alloc | apply Kd.R_drewN | apply Kd.R_drew)); exact HO_3.out) hg hat)).2.1))); have n4_ := Aside0.mk (ho); clear HO_3; clear HB; clear HR124; clear HR135; clear HO131; have HO_3 := n0_; have HB := n1_; have HR124 := n2_; have HR135 := n3_; have HO138 := n4_; clear n0_ n1_ n2_ n3_ n4_; clear ho hb hg hat)); try go_wp2_with (first | ((with_reducible refine gate_builtin (b := .append) (xs := #[.tmp 33, .tmp 36]) rfl ?_); at_builtin; refine Kd.R_append_rows k53 (w0 := w) w.heap.size rfl (.tmp 33) (.tmp 36) 49 53 (.agg #[(.int .i64 0), (.int .i64 0), (.string ⟨#[]⟩)]) 32 rfl Try.underlying49 info53 rfl (by decide) (by omega) (.slice none 0 0) ([] : List (S53)) y121 _ _ _ (fun k_ => some k_ ≠ (.slice Ao3 x3_1.length co3 : Value).ownBlock) (fun _ => False) rfl rfl ?aO ?aR (fun _ _ h => h) (fun _ h => h.elim) ?aF ?aB ?aS ?aL ?_; (case aR => repeat (first | exact (by repeat (first | (with_reducible exact HR124.out) | (with_reducible refine Kd.C_alloc ?_ _) | (with_reducible refine Kd.C_drewN ?_ _) | (with_reducible refine Kd.C_drew ?_) | exact HR124.out)) | (with_reducible refine Kd.C_alloc ?_ _) | (with_reducible refine Kd.C_drewN ?_ _) | (with_reducible refine Kd.C_drew ?_))); (case aB => exact (by repeat (first | (with_reducible first | exact HB.out | apply below_alloc | apply pw_below_drewN | apply below_drew1) | exact HB.out))); (case aF => exact (fun k_ hk => Kd.fresh' (Kd.R_lt (by (with_reducible repeat (first | apply Kd.R_alloc | apply Kd.R_drewN | apply Kd.R_drew)); exact HO_3.out)) k_ hk)); (case aO => exact ((Kd.R_nil _ _ _ _ (fun k_ => some k_ ≠ (.slice Ao3 x3_1.length co3 : Value).ownBlock)))); (case aS => exact (below_size (by repeat (first | (with_reducible first | exact HB.out | apply below_alloc | apply pw_below_drewN | apply below_drew1) | exact HB.out)))); (case aL => have := LMc25.out; omega); intro v126 w33 ho hb hg hat; rw [← Ny125.out] at ho; have n0_ := Aside0.mk (Kd.R_after (Kd.R_apart_nil (by (with_reducible repeat (first | apply Kd.R_alloc | apply Kd.R_drewN | apply Kd.R_drew)); exact HO_3.out)) hg hat); have n1_ := Aside0.mk (hb); have n2_ := Aside0.mk ((show Kd.C k53 w33 Ao3 y121.length y121 from by rw [Ny121.out]; exact Kd.C_take (m := (x5_2 : Int).toNat) ((Kd.R_reads' (Kd.R_after (Kd.R_apart_nil (by (with_reducible repeat (first | apply Kd.R_alloc | apply Kd.R_drewN | apply Kd.R_drew)); exact HO_3.out)) hg hat)).2.2) KL32.out)); have n3_ := Aside0.mk (ho); clear HO_3; clear HB; clear HR124; have HO_3 := n0_; have HB := n1_; have HR124 := n2_; have HO127 := n3_; clear n0_ n1_ n2_ n3_; clear ho hb hg hat; have p128 : 0 ≤ (x4_1 : Int) := of_decide_eq_true (by first | (with_reducible assumption) | assumption); have q128 : x4_1 < (l0.length : Int) := of_decide_eq_true (by first | (with_reducible assumption) | assumption); obtain ⟨ad128, e128, hx128_0, hx128_1, hx128_2⟩ := at_T53 HR0.out x4_1 p128 q128; cases e128; replace hx128_0 := (HB.out.cell (World.block_lt_of_cell? w _ hx128_0)).trans hx128_0; replace hx128_1 := (HB.out.cell (World.block_lt_of_cell? w _ hx128_1)).trans hx128_1; replace hx128_2 := (HB.out.cell (World.block_lt_of_cell? w _ hx128_2)).trans hx128_2; replace p128 := eq_true p128; replace q128 := eq_true q128) | ((with_reducible refine gate_builtin (b := .append) (xs := #[.tmp 38, .tmp 43]) rfl ?_); at_builtin; refine Kd.R_append k53 (w0 := w) w.heap.size rfl (.tmp 38) (.tmp 43) 49 53 (.agg #[(.int .i64 0), (.int .i64 0), (.string ⟨#[]⟩)]) 32 rfl Try.underlying49 info53 rfl (by decide) (by omega) v126 y125 (⟨(rd_T53 l0 x4_1).f0, (rd_T53 l0 x4_1).f1, (rd_T53 l0 x4_1).f2⟩ : S53) [.int .i64 ((rd_T53 l0 x4_1).f0), .int .i64 ((rd_T53 l0 x4_1).f1), .string ((rd_T53 l0 x4_1).f2)] (fun k_ => some k_ ≠ (.slice Ao3 x3_1.length co3 : Value).ownBlock) (fun _ => False) rfl rfl ?aP (fun _ hk => hk.elim) ?aF ?aO ?aB ?aS ?aL ?_; (case aP => exact k53_mkM _ _ _ (⟨(rd_T53 l0 x4_1).f0, (rd_T53 l0 x4_1).f1, (rd_T53 l0 x4_1).f2⟩ : S53)); (case aB => exact (by repeat (first | (with_reducible first | exact HB.out | apply below_alloc | apply pw_below_drewN | apply below_drew1) | exact HB.out))); (case aF => exact (fun k_ hk => Kd.fresh' (Kd.R_lt (by (with_reducible repeat (first | apply Kd.R_alloc | apply Kd.R_drewN | apply Kd.R_drew)); exact HO_3.out)) k_ hk)); (case aO => exact (by (with_reducible repeat (first | apply Kd.R_alloc | apply Kd.R_drewN | apply Kd.R_drew)); exact HO127.out)); (case aS => exact (below_size (by repeat (first | (with_reducible first | exact HB.out | apply below_alloc | apply pw_below_drewN | apply below_drew1) | exact HB.out)))); (case aL => have := LMc28.out; omega); intro v130 w34 ho hb hg hat; rw [← Ny129.out] at ho; have n0_ := Aside0.mk (Kd.R_after (ok := (fun _ => True)) (by (with_reducible repeat (first | apply Kd.R_alloc | apply Kd.R_drewN | apply Kd.R_drew)); exact HO_3.out) hg hat); have n1_ := Aside0.mk (hb); have n2_ := Aside0.mk ((show Kd.C k53 w34 Ao3 y121.length y121 from by rw [Ny121.out]; exact Kd.C_take (m := (x5_2 : Int).toNat) ((Kd.R_reads' (Kd.R_after (ok := (fun _ => True)) (by (with_reducible repeat (first | apply Kd.R_alloc | apply Kd.R_drewN | apply Kd.R_drew)); exact HO_3.out) hg hat)).2.2) KL32.out)); have n3_ := Aside0.mk (ho); clear HO_3; clear HB; clear HR124; clear HO127; have HO_3 := n0_; have HB := n1_; have HR124 := n2_; have HO131 := n3_; clear n0_ n1_ n2_ n3_; clear ho hb hg hat; have q35 : (x5_2 : Int) ≤ ((x3_1.length : Int) : Int) := of_decide_eq_true (by first | (with_reducible assumption) | assumption); obtain ⟨i035, hi035, _, hsz35, _⟩ := info_parts info53; have hroom35 : x3_1.length ≤ co3 := (Kd.R_reads' HO_3.out).2.1; have hC35 : Kd.C k53 _ Ao3 x3_1.length x3_1 := (Kd.R_reads' HO_3.out).2.2; have q035 : (0 : Int) ≤ (x5_2 : Int) := of_decide_eq_true (by first | (with_reducible assumption) | assumption); have hcut35 := cut_from (P := Try.prog) 49 53 .i64 Try.underlying49 hi035 3 hsz35 Ao3 x3_1.length co3 x5_2 q035 q35; have hr35 := Kd.C_drop (m := (x5_2 : Int).toNat) (c := co3) hC35 (by omega) hroom35; obtain ⟨A35, hA35⟩ : ∃ A1, A1 = (if co3 = (x5_2 : Int).toNat then Ao3 else (Ao3 : Option Addr).map (·.add ((x5_2 : Int).toNat * 3))) := ⟨_, rfl⟩; obtain ⟨c35, hc35⟩ : ∃ c1, c1 = co3 - (x5_2 : Int).toNat := ⟨_, rfl⟩; have hy35 : y132.length = x3_1.length - (x5_2 : Int).toNat := (by rw [Ny132.out, List.length_drop] <;> omega); rw [show (x3_1).drop (x5_2 : Int).toNat = y132 from Ny132.out.symm] at hr35; replace hr35 : Kd.C k53 _ A35 y132.length y132 := (by rw [hA35]; exact hr35); rw [← hy35, ← hA35, ← hc35] at hcut35; have HR135 := Aside0.mk hr35; have HC135 := Aside0.mk (show y132.length ≤ c35 from by rw [hy35, hc35]; exact Nat.sub_le_sub_right hroom35 _); clear hr35 hC35 hroom35 hi035 hsz35 hc35; have KY35 := Aside0.mk hy35; have KA35 := Aside0.mk hA35; clear hy35 hA35; have KL35 := Aside0.mk (show (x5_2 : Int).toNat ≤ x3_1.length from by omega); replace q35 := eq_true q35) | ((with_reducible refine gate_builtin (b := .append) (xs := #[.tmp 45, .tmp 48]) rfl ?_); at_builtin; refine Kd.R_append_rows k53 (w0 := w) w.heap.size rfl (.tmp 45) (.tmp 48) 49 53 (.agg #[(.int .i64 0), (.int .i64 0), (.string ⟨#[]⟩)]) 32 rfl Try.underlying49 info53 rfl (by decide) (by omega) v130 y129 y132 _ _ _ (fun k_ => some k_ ≠ (.slice Ao3 x3_1.length co3 : Value).ownBlock) (fun _ => False) rfl rfl ?aO ?aR (fun _ _ h => h) (fun _ h => h.elim) ?aF ?aB ?aS ?aL ?_; (case aR => repeat (first | exact (by repeat (first | (with_reducible exact HR135.out) | (with_reducible refine Kd.C_alloc ?_ _) | (with_reducible refine Kd.C_drewN ?_ _) | (with_reducible refine Kd.C_drew ?_) | exact HR135.out)) | (with_reducible refine Kd.C_alloc ?_ _) | (with_reducible refine Kd.C_drewN ?_ _) | (with_reducible refine Kd.C_drew ?_))); (case aB => exact (by repeat (first | (with_reducible first | exact HB.out | apply below_alloc | apply pw_below_drewN | apply below_drew1) | exact HB.out))); (case aF => exact (fun k_ hk => Kd.fresh' (Kd.R_lt (by (with_reducible repeat (first | apply Kd.R_alloc | apply Kd.R_drewN | apply Kd.R_drew)); exact HO_3.out)) k_ hk)); (case aO => exact (by (with_reducible repeat (first | apply Kd.R_alloc | apply Kd.R_drewN | apply Kd.R_drew)); exact HO131.out)); (case aS => exact (below_size (by repeat (first | (with_reducible first | exact HB.out | apply below_alloc | apply pw_below_drewN | apply below_drew1) | exact HB.out)))); (case aL => have := LMc31.out; omega); intro v137 w36 ho hb hg hat; rw [← Ny136.out] at ho; have n0_ := Aside0.mk (Kd.R_after (ok := (fun _ => True)) (by (with_reducible repeat (first | apply Kd.R_alloc | apply Kd.R_drewN | apply Kd.R_drew)); exact HO_3.out) hg hat); have n1_ := Aside0.mk (hb); have n2_ := Aside0.mk ((show Kd.C k53 w36 Ao3 y121.length y121 from by rw [Ny121.out]; exact Kd.C_take (m := (x5_2 : Int).toNat) ((Kd.R_reads' (Kd.R_after (ok := (fun _ => True)) (by (with_reducible repeat (first | apply Kd.R_alloc | apply Kd.R_drewN | apply Kd.R_drew)); exact HO_3.out) hg hat)).2.2) KL32.out)); have n3_ := Aside0.mk ((show Kd.C k53 w36 A35 y132.length y132 from by rw [Ny132.out, KA35.out]; exact Kd.C_drop (m := (x5_2 : Int).toNat) (c := co3) ((Kd.R_reads' (Kd.R_after (ok := (fun _ => True)) (by (with_reducible repeat (first | apply Kd.R_alloc | apply Kd.R_drewN | apply Kd.R_drew)); exact HO_3.out) hg hat)).2.2) KL35.out ((Kd.R_reads' (Kd.R_after (ok := (fun _ => True)) (by (with_reducible repeat (first | apply Kd.R_alloc | apply Kd.R_drewN | apply Kd.R_drew)); exact HO_3.out) hg hat)).2.1))); have n4_ := Aside0.mk (ho); clear HO_3; clear HB; clear HR124; clear HR135; clear HO131; have HO_3 := n0_; have HB := n1_; have HR124 := n2_; have HR135 := n3_; have HO138 := n4_; clear n0_ n1_ n2_ n3_ n4_; clear ho hb hg hat)))
                            go_roundg k2
                            case measure => have := HK1.out; have := HK2.out; omega
                            case rel => exact ⟨(y136), (wrap64 (x4_1 + 1)), (by first | rfl | (simp; done) | (simp [*]; done)), H', ⟨by have := HK1.out; have := HK2.out; omega⟩, ⟨by (with_reducible repeat (first | apply Kd.R_alloc | apply Kd.R_drewN | apply Kd.R_drew)); exact Kd.R_mono HO138.out (fun _ hk => trivial)⟩, ⟨by repeat (first | (with_reducible first | exact HB.out | apply below_alloc | apply pw_below_drewN | apply below_drew1) | exact HB.out)⟩⟩
                          · rw [if_neg c31] at H
                            exact absurd H (by simp)
                        · rw [if_neg c28] at H
                          exact absurd H (by simp)
                      · rw [if_neg c27] at H
                        exact absurd H (by simp)
                    · rw [if_neg c26] at H
                      exact absurd H (by simp)
                  · rw [if_neg c25] at H
                    exact absurd H (by simp)
                · rw [if_neg c24] at H
                  exact absurd H (by simp)
              · rw [if_neg c23] at H
                exact absurd H (by simp)
      · rw [if_neg c2] at H
        have c2b0 : decide (x4_1 < (l0.length : Int)) = false := decide_eq_false c2
        clear c2
        obtain rfl := Option.some.inj H
        go_wp2
        repeat (go_quiet (fail); try go_wp2)
        go_ret
        exact ⟨_, by first | rfl | (simp [errW_none, errW_some] <;> rfl) | (simp [*, errW_none, errW_some] <;> rfl), by (with_reducible repeat (first | apply Kd.R_alloc | apply Kd.R_drewN | apply Kd.R_drew)); exact HO_3.out, by repeat (first | (with_reducible first | exact HB.out | apply below_alloc | apply pw_below_drewN | apply below_drew1) | exact HB.out)⟩

end Go.Proofs.Ytlipbiihemhieaa.Q

-- from Qf34
-- Made by hp.py, a program of this session, with the kit's printer. Not trusted: Lean checks it.
namespace Go.Proofs.Ytlipbiihemhieaa.Q
open Go.RowKit Go.Proofs.YtlipbiihemhieaaW.PrintWords Go.Proofs.YtlipbiihemhieaaW.PrintLast Go.Proofs.YtlipbiihemhieaaW.PrintMore
attribute [local go_sem] max2_int min2_int max_two min_two max_three min_three max_four min_four   -- for this text's walks alone
set_option linter.unusedVariables false
set_option linter.unusedSimpArgs false

/-! ### paronymref03_New: function 34 -/
def paronymref03_New.l0 : Nat → List (S53) → List (S53) → Int → Option ((List (S53)) × Int)
  | 0, _, _, _ => none
  | k + 1, x0, x4, x5 => if x5 < (x0.length : Int) then (if 0 ≤ x5 then ((paronymref03_Check.f k x4 ((rd_T53 x0 x5).f0) ((rd_T53 x0 x5).f1) ((rd_T53 x0 x5).f2)).bind fun t102 => (if t102 = 0 then (if x4.length < 4398046511104 then (paronymref03_New.l0 k x0 (x4 ++ [(⟨(rd_T53 x0 x5).f0, (rd_T53 x0 x5).f1, (rd_T53 x0 x5).f2⟩ : S53)]) (wrap64 (x5 + 1))) else (none)) else (some (([] : List (S53)), t102)))) else (none)) else ((paronymref03_Sorted.f k x4).bind fun t107 => (some (t107, 0)))
def paronymref03_New.f (k : Nat) (l0 : List (S53)) : Option ((List (S53)) × Int) := paronymref03_New.l0 k l0 ([] : List (S53)) 0
theorem paronymref03_New.mono_l : ∀ k, (∀ y0 y1 y2, LeO (paronymref03_New.l0 k y0 y1 y2) (paronymref03_New.l0 (k + 1) y0 y1 y2))
  | 0 => fun _ _ _ r h => by simp [paronymref03_New.l0] at h
  | k + 1 => by
    have ih0 := paronymref03_New.mono_l k
    · intro y0 y1 y2
      unfold paronymref03_New.l0
      repeat' first
      | (with_reducible exact ih0 _ _ _)
      | (with_reducible exact paronymref03_Check.mono _ _ _ _ _)
      | (with_reducible exact paronymref03_Sorted.mono _ _)
      | (with_reducible exact LeO.refl _)
      | (with_reducible exact LeO.none _)
      | (with_reducible refine LeO.ite ?_ ?_)
      | (with_reducible refine LeO.bind ?_ (fun _ => ?_))
      | exact ih0 _ _ _
      | exact paronymref03_Check.mono _ _ _ _ _
      | exact paronymref03_Sorted.mono _ _
      | exact LeO.none _
      | refine LeO.ite ?_ ?_
      | refine LeO.bind ?_ (fun _ => ?_)
theorem paronymref03_New.mono : ∀ a0 k, LeO (paronymref03_New.f k a0) (paronymref03_New.f (k + 1) a0) := by
  intro a0 k
  have ih0 := paronymref03_New.mono_l k
  unfold paronymref03_New.f
  repeat' first
      | (with_reducible exact ih0 _ _ _)
      | (with_reducible exact paronymref03_Check.mono _ _ _ _ _)
      | (with_reducible exact paronymref03_Sorted.mono _ _)
      | (with_reducible exact LeO.refl _)
      | (with_reducible exact LeO.none _)
      | (with_reducible refine LeO.ite ?_ ?_)
      | (with_reducible refine LeO.bind ?_ (fun _ => ?_))
      | exact ih0 _ _ _
      | exact paronymref03_Check.mono _ _ _ _ _
      | exact paronymref03_Sorted.mono _ _
      | exact LeO.none _
      | refine LeO.ite ?_ ?_
      | refine LeO.bind ?_ (fun _ => ?_)
set_option maxHeartbeats 8000000 in
set_option maxRecDepth 100000 in
theorem paronymref03_New.calls (k : Nat) (A0 : Option Addr) (c0 : Nat) (l0 : List (S53)) (r1 : List (S53)) (r2 : Int) (w : World) (hr0 : Kd.C k53 w A0 l0.length l0) (hc0 : l0.length ≤ c0) (h : paronymref03_New.f k l0 = some (r1, r2)) :
    Calls Try.prog 34 #[.slice A0 l0.length c0] w fun e w' => ∃ v0_ : Value, e = .returned (.tuple #[v0_, .int .i64 r2]) ∧ Kd.R k53 53 w' w.heap.size (fun _ => True) v0_ r1 ∧ Below w.heap.size w w' := by
  have hu53 := Try.underlying53
  have HR0 := Aside0.mk hr0
  have HC0 := Aside0.mk hc0
  clear hr0 hc0
  have HB := Aside0.mk (Below.refl w.heap.size w)
  have H : (paronymref03_New.l0 k l0 ([] : List (S53)) 0) = some (r1, r2) := h
  clear h
  have H' := Aside0.mk H
  clear H
  go_enter Try.func34, Try.ntmps34
  go_wp2
  go_loopg [4, 5] k (fun kq v4 v5 w' => ∃ (x4_1 : List (S53)) (x5_1 : Int), v5 = .int .i64 x5_1 ∧ Aside0 (paronymref03_New.l0 kq l0 x4_1 x5_1 = some (r1, r2)) ∧ Aside0 (kq ≤ k) ∧ Aside0 (Kd.R k53 53 w' w.heap.size (fun _ => True) v4 x4_1) ∧ Aside0 (Below w.heap.size w w'))
  case atStart => exact ⟨(([] : List (S53))), (0), (by first | rfl | (simp; done) | (simp [*]; done)), H', ⟨Nat.le_refl _⟩, ⟨by first | exact Kd.R_nil _ _ _ _ _ | exact Kd.N_nil _ _ _ _ _ | exact Kd.V_nil _ _ _ _ _ | exact Kd.Q_nil _ _ _ _ _ | exact Kd.S_nil _ _ _ _ _⟩, ⟨by repeat (first | (with_reducible first | exact HB.out | apply below_alloc | apply pw_below_drewN | apply below_drew1) | exact HB.out)⟩⟩
  case round =>
    clear H'
    obtain ⟨x4_1, x5_1, rfl, HA, HK1, HO_4, HB⟩ := hrel
    cases gk with
    | zero => exact absurd HA.out (by simp [paronymref03_New.l0])
    | succ k1 =>
      have H := HA.out
      clear HA
      simp only [paronymref03_New.l0] at H
      by_cases c2 : x5_1 < (l0.length : Int)
      · rw [if_pos c2] at H
        have c2b0 : decide (x5_1 < (l0.length : Int)) = true := decide_eq_true c2
        clear c2
        by_cases c3 : 0 ≤ x5_1
        · rw [if_pos c3] at H
          have c3b0 : decide (0 ≤ x5_1) = true := decide_eq_true c3
          clear c3
          replace H := Option.bind_eq_some_iff.mp H
          obtain ⟨t102, A40, H⟩ := H
          replace H : (if t102 = 0 then (if x4_1.length < 4398046511104 then (paronymref03_New.l0 k1 l0 (x4_1 ++ [(⟨(rd_T53 l0 x5_1).f0, (rd_T53 l0 x5_1).f1, (rd_T53 l0 x5_1).f2⟩ : S53)]) (wrap64 (x5_1 + 1))) else (none)) else (some (([] : List (S53)), t102))) = some (r1, r2) := H
          have A4 := Aside0.mk A40
          clear A40
          by_cases c5 : t102 = 0
          · rw [if_pos c5] at H
            have c5b0 : (t102 == 0) = true := beq_iff_eq.mpr c5
            have c5b1 : (t102 != 0) = false := bne_eq_false_iff_eq.mpr c5
            clear c5
            by_cases c6 : x4_1.length < 4398046511104
            · rw [if_pos c6] at H
              have LMc6 := Aside0.mk c6
              clear c6
              obtain ⟨y104, hy104⟩ : ∃ y_ : List (S53), y_ = (x4_1 ++ [(⟨(rd_T53 l0 x5_1).f0, (rd_T53 l0 x5_1).f1, (rd_T53 l0 x5_1).f2⟩ : S53)]) := ⟨_, rfl⟩
              replace H : (paronymref03_New.l0 k1 l0 y104 (wrap64 (x5_1 + 1))) = some (r1, r2) := by first | (rw [hy104]; with_reducible exact H) | (have H2_ := (Option.bind_some _ _).symm.trans H; rw [hy104]; with_reducible exact H2_) | (have H2_ := (Option.bind_some _ _).symm.trans H; with_reducible exact H2_) | with_reducible exact H | (rw [hy104]; exact H) | exact H
              have Ny104 := Aside0.mk hy104
              clear hy104
              have H' := Aside0.mk H
              clear H
              have p101 : 0 ≤ (x5_1 : Int) := of_decide_eq_true (by first | (with_reducible assumption) | assumption)
              have q101 : x5_1 < (l0.length : Int) := of_decide_eq_true (by first | (with_reducible assumption) | assumption)
              obtain ⟨ad101, e101, hx101_0, hx101_1, hx101_2⟩ := at_T53 HR0.out x5_1 p101 q101
              cases e101
              replace hx101_0 := (HB.out.cell (World.block_lt_of_cell? w _ hx101_0)).trans hx101_0
              replace hx101_1 := (HB.out.cell (World.block_lt_of_cell? w _ hx101_1)).trans hx101_1
              replace hx101_2 := (HB.out.cell (World.block_lt_of_cell? w _ hx101_2)).trans hx101_2
              replace p101 := eq_true p101
              replace q101 := eq_true q101
              obtain ⟨Ao7, co7, eo7⟩ := Kd.R_slice HO_4.out
              subst eo7
              go_wp2_with (first | ((with_reducible refine gate_callee (f := 31) rfl ?_); refine goesL_ (some 18) rfl rfl Try.func31 (by kernel_rfl) rfl #[.slice Ao7 x4_1.length co7, .agg #[.int .i64 ((rd_T53 l0 x5_1).f0), .int .i64 ((rd_T53 l0 x5_1).f1), .string ((rd_T53 l0 x5_1).f2)]] rfl (by (try simp only [List.map_toArray, List.map_cons, List.map_nil]); first | done | rfl | (simp only [List.length_drop, List.length_take]; rfl)) ?_; (with_reducible refine (paronymref03_Check.calls k1 _ _ x4_1 ((rd_T53 l0 x5_1).f0) ((rd_T53 l0 x5_1).f1) ((rd_T53 l0 x5_1).f2) t102 _ ?side1 ?side2 A4.out).mono ?_); (case side1 => repeat (first | exact (Kd.R_reads' HO_4.out).2.2 | (with_reducible refine Kd.C_alloc ?_ _) | (with_reducible refine Kd.C_drewN ?_ _) | (with_reducible refine Kd.C_drew ?_))); (case side2 => exact (Kd.R_reads' HO_4.out).2.1); rintro e w8 ⟨rfl, hb⟩; refine ⟨_, rfl, ?_⟩; have n0_ := Aside0.mk (Kd.R_below (by (with_reducible repeat (first | apply Kd.R_alloc | apply Kd.R_drewN | apply Kd.R_drew)); exact HO_4.out) hb); have n1_ := Aside0.mk (below_step (by repeat (first | (with_reducible first | exact HB.out | apply below_alloc | apply pw_below_drewN | apply below_drew1) | exact HB.out)) hb); clear HO_4; clear HB; have HO_4 := n0_; have HB := n1_; clear n0_ n1_; (try clear hb); (try clear hb2); (try clear hk); (try clear hi); have p103 : 0 ≤ (x5_1 : Int) := of_decide_eq_true (by first | (with_reducible assumption) | assumption); have q103 : x5_1 < (l0.length : Int) := of_decide_eq_true (by first | (with_reducible assumption) | assumption); obtain ⟨ad103, e103, hx103_0, hx103_1, hx103_2⟩ := at_T53 HR0.out x5_1 p103 q103; obtain rfl : ad101 = ad103 := (by injection e103); replace hx103_0 := (HB.out.cell (World.block_lt_of_cell? w _ hx103_0)).trans hx103_0; replace hx103_1 := (HB.out.cell (World.block_lt_of_cell? w _ hx103_1)).trans hx103_1; replace hx103_2 := (HB.out.cell (World.block_lt_of_cell? w _ hx103_2)).trans hx103_2; replace p103 := eq_true p103; replace q103 := eq_true q103) | ((with_reducible refine gate_builtin (b := .append) (xs := #[.tmp 22, .tmp 27]) rfl ?_); at_builtin; refine Kd.R_append k53 (w0 := w) w.heap.size rfl (.tmp 22) (.tmp 27) 49 53 (.agg #[(.int .i64 0), (.int .i64 0), (.string ⟨#[]⟩)]) 32 rfl Try.underlying49 info53 rfl (by decide) (by omega) (.slice Ao7 x4_1.length co7) x4_1 (⟨(rd_T53 l0 x5_1).f0, (rd_T53 l0 x5_1).f1, (rd_T53 l0 x5_1).f2⟩ : S53) [.int .i64 ((rd_T53 l0 x5_1).f0), .int .i64 ((rd_T53 l0 x5_1).f1), .string ((rd_T53 l0 x5_1).f2)] (fun _ => True) (fun _ => False) rfl rfl ?aP (fun _ hk => hk.elim) ?aF ?aO ?aB ?aS ?aL ?_; (case aP => exact k53_mkM _ _ _ (⟨(rd_T53 l0 x5_1).f0, (rd_T53 l0 x5_1).f1, (rd_T53 l0 x5_1).f2⟩ : S53)); (case aB => exact (by repeat (first | (with_reducible first | exact HB.out | apply below_alloc | apply pw_below_drewN | apply below_drew1) | exact HB.out))); (case aF => exact (fun _ _ => trivial)); (case aO => exact (by (with_reducible repeat (first | apply Kd.R_alloc | apply Kd.R_drewN | apply Kd.R_drew)); exact HO_4.out)); (case aS => exact (below_size (by repeat (first | (with_reducible first | exact HB.out | apply below_alloc | apply pw_below_drewN | apply below_drew1) | exact HB.out)))); (case aL => have := LMc6.out; omega); intro v105 w9 ho hb hg hat; rw [← Ny104.out] at ho; have n0_ := Aside0.mk (hb); have n1_ := Aside0.mk (ho); clear HB; clear HO_4; have HB := n0_; have HO106 := n1_; clear n0_ n1_; clear ho hb hg hat))
              go_roundg k1
              case measure => have := HK1.out; omega
              case rel => exact ⟨(y104), (wrap64 (x5_1 + 1)), (by first | rfl | (simp; done) | (simp [*]; done)), H', ⟨by have := HK1.out; omega⟩, ⟨by (with_reducible repeat (first | apply Kd.R_alloc | apply Kd.R_drewN | apply Kd.R_drew)); exact HO106.out⟩, ⟨by repeat (first | (with_reducible first | exact HB.out | apply below_alloc | apply pw_below_drewN | apply below_drew1) | exact HB.out)⟩⟩
            · rw [if_neg c6] at H
              exact absurd H (by simp)
          · rw [if_neg c5] at H
            have c5b0 : (t102 == 0) = false := beq_eq_false_iff_ne.mpr c5
            have c5b1 : (t102 != 0) = true := bne_iff_ne.mpr c5
            simp only [Option.some.injEq, Prod.mk.injEq] at H
            obtain ⟨rfl, rfl⟩ := H
            have p101 : 0 ≤ (x5_1 : Int) := of_decide_eq_true (by first | (with_reducible assumption) | assumption)
            have q101 : x5_1 < (l0.length : Int) := of_decide_eq_true (by first | (with_reducible assumption) | assumption)
            obtain ⟨ad101, e101, hx101_0, hx101_1, hx101_2⟩ := at_T53 HR0.out x5_1 p101 q101
            cases e101
            replace hx101_0 := (HB.out.cell (World.block_lt_of_cell? w _ hx101_0)).trans hx101_0
            replace hx101_1 := (HB.out.cell (World.block_lt_of_cell? w _ hx101_1)).trans hx101_1
            replace hx101_2 := (HB.out.cell (World.block_lt_of_cell? w _ hx101_2)).trans hx101_2
            replace p101 := eq_true p101
            replace q101 := eq_true q101
            obtain ⟨Ao10, co10, eo10⟩ := Kd.R_slice HO_4.out
            subst eo10
            go_wp2_with (first | ((with_reducible refine gate_callee (f := 31) rfl ?_); refine goesL_ (some 18) rfl rfl Try.func31 (by kernel_rfl) rfl #[.slice Ao10 x4_1.length co10, .agg #[.int .i64 ((rd_T53 l0 x5_1).f0), .int .i64 ((rd_T53 l0 x5_1).f1), .string ((rd_T53 l0 x5_1).f2)]] rfl (by (try simp only [List.map_toArray, List.map_cons, List.map_nil]); first | done | rfl | (simp only [List.length_drop, List.length_take]; rfl)) ?_; (with_reducible refine (paronymref03_Check.calls k1 _ _ x4_1 ((rd_T53 l0 x5_1).f0) ((rd_T53 l0 x5_1).f1) ((rd_T53 l0 x5_1).f2) t102 _ ?side1 ?side2 A4.out).mono ?_); (case side1 => repeat (first | exact (Kd.R_reads' HO_4.out).2.2 | (with_reducible refine Kd.C_alloc ?_ _) | (with_reducible refine Kd.C_drewN ?_ _) | (with_reducible refine Kd.C_drew ?_))); (case side2 => exact (Kd.R_reads' HO_4.out).2.1); rintro e w11 ⟨rfl, hb⟩; refine ⟨_, rfl, ?_⟩; have n0_ := Aside0.mk (Kd.R_below (by (with_reducible repeat (first | apply Kd.R_alloc | apply Kd.R_drewN | apply Kd.R_drew)); exact HO_4.out) hb); have n1_ := Aside0.mk (below_step (by repeat (first | (with_reducible first | exact HB.out | apply below_alloc | apply pw_below_drewN | apply below_drew1) | exact HB.out)) hb); clear HO_4; clear HB; have HO_4 := n0_; have HB := n1_; clear n0_ n1_; (try clear hb); (try clear hb2); (try clear hk); (try clear hi)))
            go_ret2
            exact ⟨_, by first | rfl | (simp [errW_none, errW_some] <;> rfl) | (simp [*, errW_none, errW_some] <;> rfl), by first | exact Kd.R_nil _ _ _ _ _ | exact Kd.N_nil _ _ _ _ _ | exact Kd.V_nil _ _ _ _ _ | exact Kd.Q_nil _ _ _ _ _ | exact Kd.S_nil _ _ _ _ _, by repeat (first | (with_reducible first | exact HB.out | apply below_alloc | apply pw_below_drewN | apply below_drew1) | exact HB.out)⟩
        · rw [if_neg c3] at H
          exact absurd H (by simp)
      · rw [if_neg c2] at H
        have c2b0 : decide (x5_1 < (l0.length : Int)) = false := decide_eq_false c2
        clear c2
        replace H := Option.bind_eq_some_iff.mp H
        obtain ⟨t107, A120, H⟩ := H
        replace H : (some (t107, 0)) = some (r1, r2) := H
        have A12 := Aside0.mk A120
        clear A120
        simp only [Option.some.injEq, Prod.mk.injEq] at H
        obtain ⟨rfl, rfl⟩ := H
        obtain ⟨Ao13, co13, eo13⟩ := Kd.R_slice HO_4.out
        subst eo13
        go_wp2_with (first | ((with_reducible refine gate_callee (f := 66) rfl ?_); refine goesL_ (some 30) rfl rfl Try.func66 (by kernel_rfl) rfl #[.slice Ao13 x4_1.length co13] rfl (by (try simp only [List.map_toArray, List.map_cons, List.map_nil]); first | done | rfl | (simp only [List.length_drop, List.length_take]; rfl)) ?_; (with_reducible refine (paronymref03_Sorted.calls k1 _ _ x4_1 t107 _ ?side1 ?side2 A12.out).mono ?_); (case side1 => repeat (first | exact (Kd.R_reads' HO_4.out).2.2 | (with_reducible refine Kd.C_alloc ?_ _) | (with_reducible refine Kd.C_drewN ?_ _) | (with_reducible refine Kd.C_drew ?_))); (case side2 => exact (Kd.R_reads' HO_4.out).2.1); rintro e w14 ⟨v108, rfl, ho0, hb⟩; refine ⟨_, rfl, ?_⟩; have n0_ := Aside0.mk (Kd.R_elder' (by (with_reducible repeat (first | apply Kd.R_alloc | apply Kd.R_drewN | apply Kd.R_drew)); exact HO_4.out) (Kd.R_base ho0) hb); have n1_ := Aside0.mk (Kd.R_lower (Kd.R_new' ho0 (Kd.R_lt (by (with_reducible repeat (first | apply Kd.R_alloc | apply Kd.R_drewN | apply Kd.R_drew)); exact HO_4.out))) (below_size (by repeat (first | (with_reducible first | exact HB.out | apply below_alloc | apply pw_below_drewN | apply below_drew1) | exact HB.out)))); have n2_ := Aside0.mk (below_step (by repeat (first | (with_reducible first | exact HB.out | apply below_alloc | apply pw_below_drewN | apply below_drew1) | exact HB.out)) hb); clear HO_4; clear HB; have HO_4 := n0_; have HO109 := n1_; have HB := n2_; clear n0_ n1_ n2_; (try clear hb); (try clear hb2); (try clear hk); (try clear hi); (try clear ho0)))
        go_ret2
        exact ⟨_, by first | rfl | (simp [errW_none, errW_some] <;> rfl) | (simp [*, errW_none, errW_some] <;> rfl), by (with_reducible repeat (first | apply Kd.R_alloc | apply Kd.R_drewN | apply Kd.R_drew)); exact Kd.R_mono HO109.out (fun _ hk => trivial), by repeat (first | (with_reducible first | exact HB.out | apply below_alloc | apply pw_below_drewN | apply below_drew1) | exact HB.out)⟩

end Go.Proofs.Ytlipbiihemhieaa.Q

-- from Qf36
-- Made by hp.py, a program of this session, with the kit's printer. Not trusted: Lean checks it.
namespace Go.Proofs.Ytlipbiihemhieaa.Q
open Go.RowKit Go.Proofs.YtlipbiihemhieaaW.PrintWords Go.Proofs.YtlipbiihemhieaaW.PrintLast Go.Proofs.YtlipbiihemhieaaW.PrintMore
attribute [local go_sem] max2_int min2_int max_two min_two max_three min_three max_four min_four   -- for this text's walks alone
set_option linter.unusedVariables false
set_option linter.unusedSimpArgs false

/-! ### paronymref03_Value: function 36 -/
def paronymref03_Value.l0 : Nat → List (S53) → Int → Int → Option (ByteArray)
  | 0, _, _, _ => none
  | k + 1, x0, x1, x5 => if x5 < (x0.length : Int) then (if 0 ≤ x5 then (if ((rd_T53 x0 x5).f0) ≤ x1 then (if x1 ≤ ((rd_T53 x0 x5).f1) then (some ((rd_T53 x0 x5).f2)) else (paronymref03_Value.l0 k x0 x1 (wrap64 (x5 + 1)))) else (paronymref03_Value.l0 k x0 x1 (wrap64 (x5 + 1)))) else (none)) else (some (⟨#[]⟩ : ByteArray))
def paronymref03_Value.f (k : Nat) (l0 : List (S53)) (a1 : Int) : Option (ByteArray) := paronymref03_Value.l0 k l0 a1 0
theorem paronymref03_Value.mono_l : ∀ k, (∀ y0 y1 y2, LeO (paronymref03_Value.l0 k y0 y1 y2) (paronymref03_Value.l0 (k + 1) y0 y1 y2))
  | 0 => fun _ _ _ r h => by simp [paronymref03_Value.l0] at h
  | k + 1 => by
    have ih0 := paronymref03_Value.mono_l k
    · intro y0 y1 y2
      unfold paronymref03_Value.l0
      repeat' first
      | (with_reducible exact ih0 _ _ _)
      | (with_reducible exact LeO.refl _)
      | (with_reducible exact LeO.none _)
      | (with_reducible refine LeO.ite ?_ ?_)
      | (with_reducible refine LeO.bind ?_ (fun _ => ?_))
      | exact ih0 _ _ _
      | exact LeO.none _
      | refine LeO.ite ?_ ?_
      | refine LeO.bind ?_ (fun _ => ?_)
theorem paronymref03_Value.mono : ∀ a0 a1 k, LeO (paronymref03_Value.f k a0 a1) (paronymref03_Value.f (k + 1) a0 a1) := by
  intro a0 a1 k
  have ih0 := paronymref03_Value.mono_l k
  unfold paronymref03_Value.f
  repeat' first
      | (with_reducible exact ih0 _ _ _)
      | (with_reducible exact LeO.refl _)
      | (with_reducible exact LeO.none _)
      | (with_reducible refine LeO.ite ?_ ?_)
      | (with_reducible refine LeO.bind ?_ (fun _ => ?_))
      | exact ih0 _ _ _
      | exact LeO.none _
      | refine LeO.ite ?_ ?_
      | refine LeO.bind ?_ (fun _ => ?_)
set_option maxHeartbeats 8000000 in
set_option maxRecDepth 100000 in
theorem paronymref03_Value.calls (k : Nat) (A0 : Option Addr) (c0 : Nat) (l0 : List (S53)) (a1 : Int) (r : ByteArray) (w : World) (hr0 : Kd.C k53 w A0 l0.length l0) (hc0 : l0.length ≤ c0) (h : paronymref03_Value.f k l0 a1 = some r) :
    Calls Try.prog 36 #[.slice A0 l0.length c0, .int .i64 a1] w fun e w' => e = .returned (.string r) ∧ Drawn0 w w' := by
  have HR0 := Aside0.mk hr0
  have HC0 := Aside0.mk hc0
  clear hr0 hc0
  have H : (paronymref03_Value.l0 k l0 a1 0) = some r := h
  clear h
  have H' := Aside0.mk H
  clear H
  go_enter Try.func36, Try.ntmps36
  go_wp2
  go_loopg [5] k (fun kq v5 w' => ∃ (x5_1 : Int), v5 = .int .i64 x5_1 ∧ Aside0 (paronymref03_Value.l0 kq l0 a1 x5_1 = some r) ∧ Aside0 (kq ≤ k) ∧ Drawn0 w w')
  case atStart => exact ⟨(0), (by first | rfl | (simp; done) | (simp [*]; done)), H', ⟨Nat.le_refl _⟩, by repeat (first | exact Drawn0.refl _ | apply Drawn0.step)⟩
  case round =>
    clear H'
    try clear p2
    obtain ⟨x5_1, rfl, HA, HK1, ⟨m1, rfl⟩⟩ := hrel
    cases gk with
    | zero => exact absurd HA.out (by simp [paronymref03_Value.l0])
    | succ k1 =>
      have H := HA.out
      clear HA
      simp only [paronymref03_Value.l0] at H
      by_cases c3 : x5_1 < (l0.length : Int)
      · rw [if_pos c3] at H
        have c3b0 : decide (x5_1 < (l0.length : Int)) = true := decide_eq_true c3
        clear c3
        by_cases c4 : 0 ≤ x5_1
        · rw [if_pos c4] at H
          have c4b0 : decide (0 ≤ x5_1) = true := decide_eq_true c4
          clear c4
          by_cases c5 : ((rd_T53 l0 x5_1).f0) ≤ a1
          · rw [if_pos c5] at H
            have c5b0 : decide (((rd_T53 l0 x5_1).f0) ≤ a1) = true := decide_eq_true c5
            clear c5
            by_cases c6 : a1 ≤ ((rd_T53 l0 x5_1).f1)
            · rw [if_pos c6] at H
              have c6b0 : decide (a1 ≤ ((rd_T53 l0 x5_1).f1)) = true := decide_eq_true c6
              clear c6
              obtain rfl := Option.some.inj H
              have p101 : 0 ≤ (x5_1 : Int) := of_decide_eq_true (by first | (with_reducible assumption) | assumption)
              have q101 : x5_1 < (l0.length : Int) := of_decide_eq_true (by first | (with_reducible assumption) | assumption)
              obtain ⟨ad101, e101, hx101_0, hx101_1, hx101_2⟩ := at_T53 HR0.out x5_1 p101 q101
              cases e101
              replace p101 := eq_true p101
              replace q101 := eq_true q101
              have p102 : 0 ≤ (x5_1 : Int) := of_decide_eq_true (by first | (with_reducible assumption) | assumption)
              have q102 : x5_1 < (l0.length : Int) := of_decide_eq_true (by first | (with_reducible assumption) | assumption)
              obtain ⟨ad102, e102, hx102_0, hx102_1, hx102_2⟩ := at_T53 HR0.out x5_1 p102 q102
              obtain rfl : ad101 = ad102 := (by injection e102)
              replace p102 := eq_true p102
              replace q102 := eq_true q102
              have p103 : 0 ≤ (x5_1 : Int) := of_decide_eq_true (by first | (with_reducible assumption) | assumption)
              have q103 : x5_1 < (l0.length : Int) := of_decide_eq_true (by first | (with_reducible assumption) | assumption)
              obtain ⟨ad103, e103, hx103_0, hx103_1, hx103_2⟩ := at_T53 HR0.out x5_1 p103 q103
              obtain rfl : ad101 = ad103 := (by injection e103)
              replace p103 := eq_true p103
              replace q103 := eq_true q103
              go_wp2
              go_ret
              exact ⟨by first | rfl | (simp; done) | (simp [*]; done), by repeat (first | exact Drawn0.refl _ | apply Drawn0.step)⟩
            · rw [if_neg c6] at H
              have c6b0 : decide (a1 ≤ ((rd_T53 l0 x5_1).f1)) = false := decide_eq_false c6
              clear c6
              have H' := Aside0.mk H
              clear H
              have p101 : 0 ≤ (x5_1 : Int) := of_decide_eq_true (by first | (with_reducible assumption) | assumption)
              have q101 : x5_1 < (l0.length : Int) := of_decide_eq_true (by first | (with_reducible assumption) | assumption)
              obtain ⟨ad101, e101, hx101_0, hx101_1, hx101_2⟩ := at_T53 HR0.out x5_1 p101 q101
              cases e101
              replace p101 := eq_true p101
              replace q101 := eq_true q101
              have p102 : 0 ≤ (x5_1 : Int) := of_decide_eq_true (by first | (with_reducible assumption) | assumption)
              have q102 : x5_1 < (l0.length : Int) := of_decide_eq_true (by first | (with_reducible assumption) | assumption)
              obtain ⟨ad102, e102, hx102_0, hx102_1, hx102_2⟩ := at_T53 HR0.out x5_1 p102 q102
              obtain rfl : ad101 = ad102 := (by injection e102)
              replace p102 := eq_true p102
              replace q102 := eq_true q102
              go_wp2
              go_roundg k1
              case measure => have := HK1.out; omega
              case rel => exact ⟨(wrap64 (x5_1 + 1)), (by first | rfl | (simp; done) | (simp [*]; done)), H', ⟨by have := HK1.out; omega⟩, by repeat (first | exact Drawn0.refl _ | apply Drawn0.step)⟩
          · rw [if_neg c5] at H
            have c5b0 : decide (((rd_T53 l0 x5_1).f0) ≤ a1) = false := decide_eq_false c5
            clear c5
            have H' := Aside0.mk H
            clear H
            have p101 : 0 ≤ (x5_1 : Int) := of_decide_eq_true (by first | (with_reducible assumption) | assumption)
            have q101 : x5_1 < (l0.length : Int) := of_decide_eq_true (by first | (with_reducible assumption) | assumption)
            obtain ⟨ad101, e101, hx101_0, hx101_1, hx101_2⟩ := at_T53 HR0.out x5_1 p101 q101
            cases e101
            replace p101 := eq_true p101
            replace q101 := eq_true q101
            go_wp2
            go_roundg k1
            case measure => have := HK1.out; omega
            case rel => exact ⟨(wrap64 (x5_1 + 1)), (by first | rfl | (simp; done) | (simp [*]; done)), H', ⟨by have := HK1.out; omega⟩, by repeat (first | exact Drawn0.refl _ | apply Drawn0.step)⟩
        · rw [if_neg c4] at H
          exact absurd H (by simp)
      · rw [if_neg c3] at H
        have c3b0 : decide (x5_1 < (l0.length : Int)) = false := decide_eq_false c3
        clear c3
        obtain rfl := Option.some.inj H
        go_wp2
        go_ret
        exact ⟨by first | rfl | (simp; done) | (simp [*]; done), by repeat (first | exact Drawn0.refl _ | apply Drawn0.step)⟩

end Go.Proofs.Ytlipbiihemhieaa.Q

-- from Pspa2
/- Layer 3 on lists: Value, Has; the reference's Check, New, Sorted, Value; plain; small; same. -/
namespace Go.Proofs.Ytlipbiihemhieaa.K
set_option linter.unusedVariables false
set_option linter.unusedSimpArgs false
open Go.RowKit Go.Proofs.YtlipbiihemhieaaW.PrintWords Go.Proofs.YtlipbiihemhieaaW.PrintMore Go.Proofs.Ytlipbiihemhieaa.Q

def valR (L : List S43) (c : Int) : ByteArray := if pos L c < L.length then (if (rd_T43 L (pos L c : Int)).f0 ≤ c then (rd_T43 L (pos L c : Int)).f2 else ⟨#[]⟩) else ⟨#[]⟩
theorem value_ev {L : List S43} (hl : L.length ≤ 1000000) (hL : SpOK L) (c : Int) : Ev (fun k => span_Value.f k L c) (valR L c) := by
  unfold span_Value.f
  refine Ev.bind (find_ev hl hL c) ?_
  unfold valR
  by_cases h : pos L c < L.length
  · rw [if_pos h]
    refine Ev.pos (by omega) (Ev.pos (by omega) ?_)
    by_cases h2 : (rd_T43 L (pos L c : Int)).f0 ≤ c
    · refine Ev.pos h2 ?_
      rw [if_pos h2]; exact Ev.now _
    · refine Ev.neg h2 ?_
      rw [if_neg h2]; exact Ev.now _
  · rw [if_neg h]
    exact Ev.neg (by omega) (Ev.now _)
def hasR (L : List S43) (c : Int) (v : ByteArray) : Bool := if v.toList = ([] : List UInt8) then false else ((valR L c).toList == v.toList)
theorem has_ev {L : List S43} (hl : L.length ≤ 1000000) (hL : SpOK L) (c : Int) (v : ByteArray) : Ev (fun k => span_Has.f k L c v) (hasR L c v) := by
  unfold span_Has.f hasR
  by_cases h : v.toList = []
  · rw [if_pos h]; exact Ev.pos h (Ev.now _)
  · rw [if_neg h]; exact Ev.neg h (Ev.bind (value_ev hl hL c) (Ev.now _))
/-- A code point of a span of the table tells that span. -/
theorem valR_in {L : List S43} (hL : SpOK L) {c : Int} {i : Nat} (hi : i < L.length) (h1 : L[i].f0 ≤ c) (h2 : c ≤ L[i].f1) : valR L c = L[i].f2 := by
  have hp : pos L c = i := pos_uniq hL (by omega) (fun j hj => by have := hL.lt hj hi; omega) (fun _ => by omega)
  unfold valR
  rw [hp, if_pos hi, rd43 i hi, if_pos h1]
theorem valR_out {L : List S43} (hL : SpOK L) {c : Int} (h : ∀ s ∈ L, ¬ (s.f0 ≤ c ∧ c ≤ s.f1)) : valR L c = ⟨#[]⟩ := by
  unfold valR
  by_cases hp : pos L c < L.length
  · rw [if_pos hp, rd43 _ hp]
    have h1 := pos_at hp
    have h2 := h _ (List.getElem_mem hp)
    rw [if_neg (fun h3 => h2 ⟨h3, by omega⟩)]
  · rw [if_neg hp]

/-! the law's own functions -/
theorem rd53 {L : List S53} (i : Nat) (h : i < L.length) : rd_T53 L (i : Int) = L[i] := by
  unfold rd_T53
  rw [Int.toNat_natCast, List.getD_eq_getElem?_getD, List.getElem?_eq_getElem h]; rfl
theorem small_ev {l : List S43} (hl : l.length ≤ 1000000) : ∃ b, (b = true ↔ l.length ≤ 30 ∧ ∀ s ∈ l, s.f2.size ≤ 30) ∧ Ev (fun k => paronymlaw03_small.f k l) b := by
  unfold paronymlaw03_small.f
  by_cases h : (l.length : Int) > 30
  · exact ⟨false, by simp; omega, Ev.pos h (Ev.now _)⟩
  · have key : ∀ (d i : Nat), l.length - i = d → i ≤ l.length → (∀ a : Nat, (ha : a < i) → (h : a < l.length) → l[a].f2.size ≤ 30) → ∃ b, (b = true ↔ ∀ s ∈ l, s.f2.size ≤ 30) ∧ Ev (fun k => paronymlaw03_small.l0 k l (i : Int)) b := by
      intro d
      induction d with
      | zero =>
        intro i h1 h2 h3
        refine ⟨true, ⟨fun _ s hs => ?_, fun _ => rfl⟩, Ev.step (fun k => rfl) (Ev.neg (by omega) (Ev.now _))⟩
        obtain ⟨a, ha, rfl⟩ := List.getElem_of_mem hs
        exact h3 a (by omega) ha
      | succ d ih =>
        intro i h1 h2 h3
        have hi : i < l.length := by omega
        by_cases c : ((rd_T43 l (i : Int)).f2.size : Int) > 30
        · refine ⟨false, ⟨fun h => by simp at h, fun h => ?_⟩, Ev.step (fun k => rfl) (Ev.pos (by omega) (Ev.pos (by omega) (Ev.pos c (Ev.now _))))⟩
          rw [rd43 i hi] at c
          have := h _ (List.getElem_mem hi)
          omega
        · obtain ⟨b, hb, he⟩ := ih (i + 1) (by omega) (by omega) (fun a ha h => by
            by_cases e : a = i
            · subst e; rw [rd43 a hi] at c; omega
            · exact h3 a (by omega) h)
          refine ⟨b, hb, Ev.step (fun k => rfl) (Ev.pos (by omega) (Ev.pos (by omega) (Ev.neg c ?_)))⟩
          rw [w64 (by omega) (by omega)]
          exact he
    obtain ⟨b, hb, he⟩ := key l.length 0 (by omega) (by omega) (fun a ha => by omega)
    exact ⟨b, by rw [hb]; constructor <;> intro h' <;> (first | exact ⟨by omega, h'⟩ | exact h'.2), Ev.neg h he⟩
theorem plain_ev {l : List S43} (hl : l.length ≤ 1000000) : Ev (fun k => paronymlaw03_plain.f k l) (l.map c53) := by
  have key : ∀ (d i : Nat), l.length - i = d → i ≤ l.length → Ev (fun k => paronymlaw03_plain.l0 k l ((l.take i).map c53) (i : Int)) (l.map c53) := by
    intro d
    induction d with
    | zero =>
      intro i h1 h2
      refine Ev.step (fun k => rfl) (Ev.neg (by omega) ?_)
      rw [List.take_of_length_le (by omega)]
      exact Ev.now _
    | succ d ih =>
      intro i h1 h2
      have hi : i < l.length := by omega
      refine Ev.step (fun k => rfl) (Ev.pos (by omega) (Ev.pos (by omega) (Ev.pos (by rw [List.length_map, List.length_take]; omega) ?_)))
      rw [w64 (by omega) (by omega)]
      have := ih (i + 1) (by omega) (by omega)
      have e : (l.take (i + 1)).map c53 = (l.take i).map c53 ++ [(⟨(rd_T43 l (i : Int)).f0, (rd_T43 l (i : Int)).f1, (rd_T43 l (i : Int)).f2⟩ : S53)] := by
        rw [List.take_add_one, List.getElem?_eq_getElem hi, rd43 i hi, List.map_append]
        rfl
      rw [e] at this
      exact this
  unfold paronymlaw03_plain.f
  exact key l.length 0 (by omega) (by omega)
theorem same_ev {a : List S53} (hl : a.length ≤ 1000000) : Ev (fun k => paronymlaw03_same.f k a a) true := by
  have key : ∀ (d i : Nat), a.length - i = d → i ≤ a.length → Ev (fun k => paronymlaw03_same.l0 k a a (i : Int)) true := by
    intro d
    induction d with
    | zero =>
      intro i h1 h2
      exact Ev.step (fun k => rfl) (Ev.neg (by omega) (Ev.now _))
    | succ d ih =>
      intro i h1 h2
      refine Ev.step (fun k => rfl) (Ev.pos (by omega) (Ev.pos (by omega) (Ev.pos (by omega) (Ev.neg (by simp) ?_))))
      rw [w64 (by omega) (by omega)]
      exact ih (i + 1) (by omega) (by omega)
  unfold paronymlaw03_same.f
  exact Ev.pos rfl (key a.length 0 (by omega) (by omega))
/-- The reference's Check. -/
theorem check_ev {L : List S43} (hl : L.length ≤ 1000000) (s : S43) : Ev (fun k => paronymref03_Check.f k (L.map c53) s.f0 s.f1 s.f2) (errOf L s) := by
  have key : ∀ (d i : Nat), L.length - i = d → i ≤ L.length → (∀ a : Nat, (ha : a < i) → (h : a < L.length) → ¬ meets L[a] s) → Ev (fun k => paronymref03_Check.l0 k (L.map c53) (i : Int) s.f0 s.f1 s.f2) (if ∃ t ∈ L, meets t s then 15 else 0) := by
    intro d
    induction d with
    | zero =>
      intro i h1 h2 h3
      refine Ev.step (fun k => rfl) (Ev.neg (by rw [List.length_map]; omega) ?_)
      rw [if_neg (fun ⟨t, ht, hm⟩ => by obtain ⟨a, ha, rfl⟩ := List.getElem_of_mem ht; exact h3 a (by omega) ha hm)]
      exact Ev.now _
    | succ d ih =>
      intro i h1 h2 h3
      have hi : i < L.length := by omega
      have hr : rd_T53 (L.map c53) (i : Int) = c53 L[i] := by rw [rd53 i (by rw [List.length_map]; exact hi), List.getElem_map]
      refine Ev.step (fun k => rfl) (Ev.pos (by rw [List.length_map]; omega) (Ev.pos (by omega) ?_))
      rw [hr]
      have hn := ih (i + 1) (by omega) (by omega)
      rw [w64 (by omega) (by omega)]
      by_cases c1 : (c53 L[i]).f0 ≤ s.f1
      · refine Ev.pos c1 ?_
        by_cases c2 : s.f0 ≤ (c53 L[i]).f1
        · rw [if_pos ⟨L[i], List.getElem_mem hi, c1, c2⟩]
          exact Ev.pos c2 (Ev.now _)
        · exact Ev.neg c2 (hn (fun a ha h => by
            by_cases e : a = i
            · subst e; exact fun hm => c2 hm.2
            · exact h3 a (by omega) h))
      · exact Ev.neg c1 (hn (fun a ha h => by
          by_cases e : a = i
          · subst e; exact fun hm => c1 hm.1
          · exact h3 a (by omega) h))
  have hk := key L.length 0 (by omega) (by omega) (fun a ha => by omega)
  have hj : ∀ b : Bool, Ev (fun k => paronymref03_Check.j0 k (L.map c53) b s.f0 s.f1 s.f2) (if b = true then 14 else if s.f2.toList = [] then 16 else if ∃ t ∈ L, meets t s then 15 else 0) := by
    intro b
    cases b with
    | true => exact Ev.step (f := fun _ => some 14) (fun k => rfl) (Ev.now _)
    | false =>
      refine Ev.step (f := fun k => if s.f2.toList = ([] : List UInt8) then some 16 else paronymref03_Check.l0 k (L.map c53) 0 s.f0 s.f1 s.f2) (fun k => rfl) ?_
      rw [if_neg (by simp)]
      by_cases h : s.f2.toList = []
      · refine Ev.pos h ?_
        rw [if_pos h]
        exact Ev.now _
      · refine Ev.neg h ?_
        rw [if_neg h]
        exact hk
  unfold paronymref03_Check.f errOf
  by_cases h1 : s.f0 < 0
  · rw [if_pos (.inl h1)]
    exact Ev.pos h1 (hj true)
  · refine Ev.neg h1 ?_
    by_cases h2 : s.f1 > 1114111
    · rw [if_pos (.inr (.inl h2))]
      exact Ev.pos h2 (hj true)
    · refine Ev.neg h2 ?_
      have := hj (decide (s.f1 < s.f0))
      by_cases h3 : s.f1 < s.f0
      · rw [if_pos (.inr (.inr h3))]
        simpa [h3] using this
      · rw [if_neg (by omega)]
        simpa [h3] using this
end Go.Proofs.Ytlipbiihemhieaa.K

-- from Pspa3
/- Layer 3 on lists: the reference's Sorted, New, Value. -/
namespace Go.Proofs.Ytlipbiihemhieaa.K
set_option linter.unusedVariables false
set_option linter.unusedSimpArgs false
open Go.RowKit Go.Proofs.YtlipbiihemhieaaW.PrintWords Go.Proofs.YtlipbiihemhieaaW.PrintMore Go.Proofs.Ytlipbiihemhieaa.Q

theorem rdc {L : List S43} (i : Nat) (h : i < L.length) : rd_T53 (L.map c53) (i : Int) = c53 L[i] := by rw [rd53 i (by rw [List.length_map]; exact h), List.getElem_map]
theorem sorted_ev {l : List S43} (hl : l.length ≤ 100000) : ∀ (d i : Nat) (acc : List S43), l.length - i = d → i ≤ l.length → SpOK acc → acc.length + d ≤ 1000000 → (newR acc (l.drop i)).1 = 0 →
    Ev (fun k => paronymref03_Sorted.l0 k (l.map c53) (acc.map c53) (i : Int)) ((newR acc (l.drop i)).2.map c53) := by
  intro d
  induction d with
  | zero =>
    intro i acc h1 h2 h3 h4 h5
    refine Ev.step (fun k => rfl) (Ev.neg (by rw [List.length_map]; omega) ?_)
    rw [List.drop_eq_nil_of_le (by omega)]
    exact Ev.now _
  | succ d ih =>
    intro i acc h1 h2 h3 h4 h5
    have hi : i < l.length := by omega
    rw [List.drop_eq_getElem_cons hi] at h5 ⊢
    obtain ⟨s, hs⟩ : ∃ s, s = l[i] := ⟨_, rfl⟩
    rw [← hs] at h5 ⊢
    unfold newR at h5 ⊢
    by_cases e : (addR acc s).1 = 0
    · rw [if_pos e] at h5 ⊢
      obtain ⟨he, hv, hm⟩ := addR_ok h3 e
      obtain ⟨hb, ha⟩ := place_sides h3 hv hm
      have hple := pos_le acc s.f0
      have hlen : (addR acc s).2.length = acc.length + 1 := by rw [(addR_perm h3 e).length_eq, List.length_cons]
      have hn := ih (i + 1) (addR acc s).2 (by omega) (by omega) (addR_SpOK h3 e) (by omega) h5
      rw [he, List.map_append, List.map_cons, List.map_take, List.map_drop] at hn
      have hml : (acc.map c53).length = acc.length := List.length_map _
      have hrs : rd_T53 (l.map c53) (i : Int) = c53 s := by rw [rdc i hi, hs]
      refine Ev.step (fun k => rfl) (Ev.pos (by rw [List.length_map]; omega) ?_)
      have key : ∀ (q j : Nat), j - pos acc s.f0 = q → pos acc s.f0 ≤ j → j ≤ acc.length → Ev (fun k => paronymref03_Sorted.l1 k (l.map c53) (acc.map c53) (i : Int) (j : Int)) ((newR (acc.take (pos acc s.f0) ++ s :: acc.drop (pos acc s.f0)) (l.drop (i + 1))).2.map c53) := by
        intro q
        induction q with
        | zero =>
          intro j g1 g2 g3
          have : j = pos acc s.f0 := by omega
          subst this
          have ht : ((pos acc s.f0 : Int)).toNat = pos acc s.f0 := by omega
          have hlt : ((acc.map c53).take (pos acc s.f0)).length = pos acc s.f0 := by rw [List.length_take, hml]; omega
          have hld : ((acc.map c53).drop (pos acc s.f0)).length = acc.length - pos acc s.f0 := by rw [List.length_drop, hml]
          have hfin : (acc.map c53).take (pos acc s.f0) ++ [(⟨(c53 s).f0, (c53 s).f1, (c53 s).f2⟩ : S53)] ++ (acc.map c53).drop (pos acc s.f0) = (acc.map c53).take (pos acc s.f0) ++ c53 s :: (acc.map c53).drop (pos acc s.f0) := by simp
          by_cases z : pos acc s.f0 = 0
          · refine Ev.step (fun k => rfl) (Ev.neg (by omega) (Ev.pos (by omega) (Ev.pos (by omega) ?_)))
            rw [ht]
            refine Ev.bindS rfl (Ev.pos (by rw [hlt]; simp; omega) (Ev.bindS rfl (Ev.pos (by omega) (Ev.pos (by rw [List.length_map]; omega) ?_))))
            rw [List.nil_append]
            refine Ev.pos (by rw [hlt]; omega) ?_
            rw [hrs]
            refine Ev.bindS rfl (Ev.bindS rfl (Ev.pos (by rw [List.length_append, hlt, hld]; simp; omega) ?_))
            rw [w64 (by omega) (by omega), hfin]
            exact hn
          · have hw : wrap64 ((pos acc s.f0 : Int) - 1) = ((pos acc s.f0 - 1 : Nat) : Int) := by rw [w64 (by omega) (by omega)]; omega
            refine Ev.step (fun k => rfl) (Ev.pos (by omega) ?_)
            rw [hw]
            refine Ev.pos (by omega) (Ev.pos (by omega) (Ev.pos (by omega) (Ev.pos (by rw [List.length_map]; omega) ?_)))
            rw [rdc (pos acc s.f0 - 1) (by omega), hrs]
            have hlt1 := pos_before (L := acc) (c := s.f0) (i := pos acc s.f0 - 1) (by omega)
            have hle1 := (h3.at (i := pos acc s.f0 - 1) (by omega)).2.1
            refine Ev.neg (show ¬ acc[pos acc s.f0 - 1].f0 > s.f0 by omega) (Ev.pos (by omega) (Ev.pos (by omega) ?_))
            rw [ht]
            refine Ev.bindS rfl (Ev.pos (by rw [hlt]; simp; omega) (Ev.bindS rfl ?_))
            rw [List.nil_append]
            refine Ev.pos (by rw [hlt]; omega) ?_
            refine Ev.bindS rfl (Ev.bindS rfl (Ev.pos (by rw [List.length_append, hlt, hld]; simp; omega) ?_))
            rw [w64 (by omega) (by omega), hfin]
            exact hn
        | succ q ihq =>
          intro j g1 g2 g3
          have hw : wrap64 ((j : Int) - 1) = ((j - 1 : Nat) : Int) := by rw [w64 (by omega) (by omega)]; omega
          refine Ev.step (fun k => rfl) (Ev.pos (by omega) ?_)
          rw [hw]
          refine Ev.pos (by omega) (Ev.pos (by omega) (Ev.pos (by omega) (Ev.pos (by rw [List.length_map]; omega) ?_)))
          rw [rdc (j - 1) (by omega), hrs]
          have hgt := ha acc[j - 1] (by
            rw [List.mem_iff_getElem]
            exact ⟨j - 1 - pos acc s.f0, by rw [List.length_drop]; omega, by rw [List.getElem_drop]; congr 1; omega⟩)
          have hv1 := hv.2.1
          refine Ev.pos (show acc[j - 1].f0 > s.f0 by omega) ?_
          exact ihq (j - 1) (by omega) (by omega) (by omega)
      rw [hml, he]
      exact key (acc.length - pos acc s.f0) acc.length rfl hple (Nat.le_refl _)
    · rw [if_neg e] at h5
      exact absurd h5 e
/-- The reference's New. -/
theorem refNew_ev {l : List S43} (hl : l.length ≤ 100000) : Ev (fun k => paronymref03_New.f k (l.map c53)) (if (newR [] l).1 = 0 then ((newR [] l).2.map c53, 0) else ([], (newR [] l).1)) := by
  have key : ∀ (d i : Nat) (acc : List S43), l.length - i = d → i ≤ l.length → SpOK acc → acc.Perm (l.take i) → newR acc (l.drop i) = newR [] l →
      Ev (fun k => paronymref03_New.l0 k (l.map c53) ((l.take i).map c53) (i : Int)) (if (newR [] l).1 = 0 then ((newR [] l).2.map c53, 0) else ([], (newR [] l).1)) := by
    intro d
    induction d with
    | zero =>
      intro i acc h1 h2 h3 h4 h5
      have hi : i = l.length := by omega
      rw [List.drop_eq_nil_of_le (by omega)] at h5
      have h0 : (newR [] l).1 = 0 := by rw [← h5]; rfl
      refine Ev.step (fun k => rfl) (Ev.neg (by rw [List.length_map]; omega) ?_)
      rw [List.take_of_length_le (by omega), if_pos h0]
      refine Ev.bind ?_ (Ev.now _)
      have := sorted_ev hl l.length 0 [] (by omega) (by omega) SpOK.nil (by simp; omega) h0
      exact this
    | succ d ih =>
      intro i acc h1 h2 h3 h4 h5
      have hi : i < l.length := by omega
      have h5' := h5
      rw [List.drop_eq_getElem_cons hi] at h5
      obtain ⟨s, hs⟩ : ∃ s, s = l[i] := ⟨_, rfl⟩
      rw [← hs] at h5
      replace h5 : (if (addR acc s).1 = 0 then newR (addR acc s).2 (l.drop (i + 1)) else ((addR acc s).1, [])) = newR [] l := h5
      have herr : errOf (l.take i) s = (addR acc s).1 := by
        rw [addR_err h3]
        unfold errOf
        have : (∃ t ∈ l.take i, meets t s) ↔ (∃ t ∈ acc, meets t s) := ⟨fun ⟨t, ht, hm⟩ => ⟨t, h4.mem_iff.2 ht, hm⟩, fun ⟨t, ht, hm⟩ => ⟨t, h4.mem_iff.1 ht, hm⟩⟩
        by_cases hc : ∃ t ∈ acc, meets t s
        · rw [if_pos hc, if_pos (this.2 hc)]
        · rw [if_neg hc, if_neg (fun h => hc (this.1 h))]
      have hck := check_ev (L := l.take i) (by rw [List.length_take]; omega) s
      rw [herr] at hck
      refine Ev.step (fun k => rfl) (Ev.pos (by rw [List.length_map]; omega) (Ev.pos (by omega) ?_))
      rw [rdc i hi, ← hs]
      refine Ev.bind hck ?_
      by_cases e : (addR acc s).1 = 0
      · rw [if_pos e] at h5
        have hn := ih (i + 1) (addR acc s).2 (by omega) (by omega) (addR_SpOK h3 e) (by
          rw [List.take_add_one, List.getElem?_eq_getElem hi, ← hs]
          exact (addR_perm h3 e).trans ((List.Perm.cons _ h4).trans (List.perm_append_comm (l₁ := [s])))) h5
        refine Ev.pos e (Ev.pos (by rw [List.length_map, List.length_take]; omega) ?_)
        rw [w64 (by omega) (by omega)]
        rw [List.take_add_one, List.getElem?_eq_getElem hi, ← hs, List.map_append] at hn
        exact hn
      · rw [if_neg e] at h5
        have h0 : ¬ (newR [] l).1 = 0 := by rw [← h5]; exact e
        rw [if_neg h0, ← h5]
        exact Ev.neg e (Ev.now _)
  unfold paronymref03_New.f
  exact key l.length 0 [] (by omega) (by omega) SpOK.nil (by simp) rfl
theorem newR_SpOK {l : List S43} (h : (newR [] l).1 = 0) : SpOK (newR [] l).2 ∧ ((newR [] l).2).Perm l := by
  obtain ⟨h1, h2⟩ := newR_len SpOK.nil h
  rw [List.append_nil] at h2
  exact ⟨h1, h2⟩
/-- The reference's Value, of a table. -/
theorem refValue_ev {L : List S43} (hl : L.length ≤ 100000) (hL : SpOK L) (c : Int) : Ev (fun k => paronymref03_Value.f k (L.map c53) c) (valR L c) := by
  have key : ∀ (d i : Nat), L.length - i = d → i ≤ L.length → (∀ a : Nat, (ha : a < i) → (h : a < L.length) → ¬ (L[a].f0 ≤ c ∧ c ≤ L[a].f1)) → Ev (fun k => paronymref03_Value.l0 k (L.map c53) c (i : Int)) (valR L c) := by
    intro d
    induction d with
    | zero =>
      intro i h1 h2 h3
      refine Ev.step (fun k => rfl) (Ev.neg (by rw [List.length_map]; omega) ?_)
      rw [valR_out hL (fun s hs => by obtain ⟨a, ha, rfl⟩ := List.getElem_of_mem hs; exact h3 a (by omega) ha)]
      exact Ev.now _
    | succ d ih =>
      intro i h1 h2 h3
      have hi : i < L.length := by omega
      have hn := ih (i + 1) (by omega) (by omega)
      refine Ev.step (fun k => rfl) (Ev.pos (by rw [List.length_map]; omega) (Ev.pos (by omega) ?_))
      rw [rdc i hi, w64 (by omega) (by omega)]
      by_cases c1 : (c53 L[i]).f0 ≤ c
      · refine Ev.pos c1 ?_
        by_cases c2 : c ≤ (c53 L[i]).f1
        · rw [valR_in hL hi c1 c2]
          exact Ev.pos c2 (Ev.now _)
        · exact Ev.neg c2 (hn (fun a ha h => by
            by_cases e : a = i
            · subst e; exact fun hm => c2 hm.2
            · exact h3 a (by omega) h))
      · exact Ev.neg c1 (hn (fun a ha h => by
          by_cases e : a = i
          · subst e; exact fun hm => c1 hm.1
          · exact h3 a (by omega) h))
  unfold paronymref03_Value.f
  exact key L.length 0 (by omega) (by omega) (fun a ha => by omega)
/-- The same spans in another order: the same table. -/
theorem newR_perm {l m : List S43} (hp : m.Perm l) (h : (newR [] l).1 = 0) : newR [] m = (0, (newR [] l).2) := by
  have g := (newR_good (l := l) SpOK.nil).1 h
  have gm : Good m := ⟨fun s hs => g.1.1 s (hp.mem_iff.1 hs), (hp.pairwise_iff (fun {a b} hab hba => hab ⟨hba.2, hba.1⟩)).2 g.1.2⟩
  have h0 : (newR [] m).1 = 0 := (newR_good SpOK.nil).2 ⟨gm, fun s _ t ht => by cases ht⟩
  obtain ⟨a1, a2⟩ := newR_SpOK h
  obtain ⟨b1, b2⟩ := newR_SpOK h0
  have hpp : ((newR [] m).2).Perm (newR [] l).2 := b2.trans (hp.trans a2.symm)
  have heq : (newR [] m).2 = (newR [] l).2 := by
    refine List.Perm.eq_of_pairwise (le := fun a b => a.f1 < b.f0) ?_ b1.1 a1.1 hpp
    intro a b ha hb hab hba
    have h1 := (b1.2 a ha).2.1
    have h2 := (a1.2 b hb).2.1
    omega
  rw [← heq]
  exact Prod.ext h0 rfl
end Go.Proofs.Ytlipbiihemhieaa.K

-- from Haw3
/- span's law: awake. -/
namespace Go.Proofs.Ytlipbiihemhieaa.Q
open Go.RowKit Go.Shelf Go.Proofs.YtlipbiihemhieaaW.PrintWords Go.Proofs.YtlipbiihemhieaaW.PrintLast Go.Proofs.YtlipbiihemhieaaW.PrintMore Go.Proofs.Ytlipbiihemhieaa.K
set_option linter.unusedVariables false
set_option linter.unusedSimpArgs false

/-- The document's example. -/
def s3 : S43 := ⟨65, 90, ⟨#[76]⟩⟩
theorem s3_valid : valid s3 := ⟨by decide, by decide, by decide, by unfold s3; simp only; rw [ba_toList]; simp⟩
theorem s3_new : newR [] [s3] = (0, [s3]) := by
  have h : (newR [] [s3]).1 = 0 := (newR_good SpOK.nil).2 ⟨⟨fun s hs => by rw [List.mem_singleton.1 hs]; exact s3_valid, List.pairwise_singleton _ _⟩, fun s _ t ht => by cases ht⟩
  have := (newR_SpOK h).2
  exact Prod.ext h (List.perm_singleton.1 this)
theorem s3_ok : SpOK [s3] := by have := (newR_SpOK (l := [s3]) (by rw [s3_new])).1; rwa [s3_new] at this
/-- One span that lies in a row. -/
theorem one43 {W : World} {g : Nat} {s : S43} {e : Nat} {p : Nat × Nat} (h : W.heap[g]? = some (.cells #[.int .i64 s.f0, .int .i64 s.f1, .string s.f2] e p)) : Kd.C k43 W (some ⟨g, 0, none⟩) [s].length [s] := by
  refine ⟨rfl, by simp, fun _ => ⟨⟨g, 0, none⟩, rfl, fun j q hj => ?_⟩⟩
  cases j with
  | succ j => simp at hj
  | zero =>
    simp only [List.getElem?_cons_zero, Option.some.injEq] at hj
    subst hj
    refine ⟨_, rfl, k43_mk W s, fun i u hu => ?_⟩
    rw [Addr.add_lit]
    simp only [World.cell?]
    rw [h]
    simpa using hu
set_option maxHeartbeats 4000000 in
set_option maxRecDepth 100000 in
theorem paronymlaw03_awake.calls0 (w : World) : Calls Try.prog 26 #[] w fun e w' => e = .returned (.bool true) ∧ Below w.heap.size w w' := by
  obtain ⟨k1, hv1⟩ := (value_ev (L := [s3]) (by simp) s3_ok 66).rounds
  obtain ⟨k2, hv2⟩ := (value_ev (L := [s3]) (by simp) s3_ok 91).rounds
  rw [valR_in (i := 0) s3_ok (by simp) (by decide) (by decide)] at hv1
  rw [valR_out s3_ok (fun s hs => by rw [List.mem_singleton.1 hs]; decide)] at hv2
  have HV1 : Aside0 (span_Value.f k1 [s3] 66 = some ⟨#[76]⟩) := ⟨hv1⟩
  have HV2 := Aside0.mk hv2
  clear hv1 hv2
  have hb0 : Below w.heap.size w (w.alloc (.cells #[.int .i64 65, .int .i64 90, .string ⟨#[76]⟩] 43)) := (Below.refl _ w).alloc (Nat.le_refl _) _
  have HB0 := Aside0.mk hb0
  have HC0 : Aside0 (Kd.C k43 (w.alloc (.cells #[.int .i64 65, .int .i64 90, .string ⟨#[76]⟩] 43)) (some ⟨w.heap.size, 0, none⟩) [s3].length [s3]) := ⟨one43 (s := s3) (heap_alloc_new w _)⟩
  clear hb0
  go_enter Try.func26, Try.ntmps26
  go_wp2_with (first
    | (go_at_call 28
       refine (span_New.calls _ 1 [s3] _ HC0.out (by simp) (by simp)).mono ?_
       rintro e w1 ⟨hb1, q, rfl, hq⟩
       rw [s3_new] at hq
       rw [s3_new]
       rcases hq with ⟨hq, _⟩ | ⟨_, ⟨g, rfl⟩, hT⟩
       rotate_left
       have HT : Aside0 (Tab w1 (some ⟨g, 0, none⟩) [s3]) := ⟨hT⟩
       have HB1 := Aside0.mk (HB0.out.trans (hb1.mono HB0.out.size))
       clear hb1 hT
       rotate_left
       (exact absurd rfl hq))
    | (go_at_call 38
       (with_reducible refine (span_Value.calls k1 _ [s3] 66 _ _ HT.out HV1.out).mono ?_)
       rintro e w2 ⟨rfl, hb⟩
       have HT2 := Aside0.mk (HT.out.below hb)
       have HB2 := Aside0.mk (HB1.out.trans (hb.mono HB1.out.size))
       clear hb)
    | (go_at_call 38
       (with_reducible refine (span_Value.calls k2 _ [s3] 91 _ _ HT2.out HV2.out).mono ?_)
       rintro e w3 ⟨rfl, hb⟩
       have HT3 := Aside0.mk (HT2.out.below hb)
       have HB3 := Aside0.mk (HB2.out.trans (hb.mono HB2.out.size))
       clear hb)
    | (go_at_call 37
       refine (span_Len.calls _ [s3] _ HT3.out).mono ?_
       rintro e w4 ⟨rfl, rfl⟩))
  go_ret
  exact ⟨rfl, HB3.out⟩
end Go.Proofs.Ytlipbiihemhieaa.Q

-- from Hopn
/- What an argument reads as, by kinds: rows of anything. -/
namespace Go.Proofs.Ytlipbiihemhieaa.Q
open Go.ChangeShapes Go.WideShapes Go.RowKit Go.Proofs.YtlipbiihemhieaaW.PrintWords Go.Proofs.YtlipbiihemhieaaW.PrintLast Go.Proofs.YtlipbiihemhieaaW.PrintMore
set_option linter.unusedVariables false
set_option linter.unusedSimpArgs false

/-- Cells of type t that the call reads are of this kind, and right. -/
def Opens {H α : Type} (enc : TypeId × Value → H) (P : Program) (w : World) (t : TypeId) (d : Kd α) (q : α → Prop) : Prop :=
  ∀ (sp : Nat → Bool) (held : Bool) (fuel : Nat) (cs : List Value) (x : DataW H × List MemPlace), DataW.trod enc P w 0 sp held fuel t cs = some x → ∃ a, d.K w a cs ∧ q a
section
variable {H : Type} {enc : TypeId × Value → H} {P : Program} {w : World}
theorem opens_int {t : TypeId} {k : IntKind} (ht : P.underlying t = some (.int k)) : Opens enc P w t (Kd.int k) (fun n => (Lit.int k n).wf = true) := fun sp held fuel cs x h => by
  obtain ⟨n, rfl, _, hw⟩ := DataW.trod_int ht h
  exact ⟨n, rfl, hw⟩
theorem opens_bool {t : TypeId} (ht : P.underlying t = some .bool) : Opens enc P w t Kd.bool (fun _ => True) := fun sp held fuel cs x h => by
  obtain ⟨n, rfl, _⟩ := DataW.trod_bool ht h
  exact ⟨n, rfl, trivial⟩
theorem opens_string {t : TypeId} (ht : P.underlying t = some .string) : Opens enc P w t Kd.string (fun s => s.size ≤ 9223372036854775807) := fun sp held fuel cs x h => by
  obtain ⟨s, rfl, _, hs⟩ := DataW.trod_string ht h
  exact ⟨s, rfl, by unfold maxLen at hs; omega⟩
theorem opens_slice {α : Type} {t e : TypeId} {d : Kd α} {q : α → Prop} (ht : P.underlying t = some (.slice e)) (hc : P.cellsOf e = d.sz) (he : Opens enc P w e d q) : Opens enc P w t (Kd.slice e d) (fun l => ∀ a ∈ l, q a) := fun sp held fuel cs x h => by
  rcases DataW.trod_slice ht h with ⟨rfl, _⟩ | ⟨a, len, cap, elems, rest, m, _, rfl, _, _, hl, hm, hlen, hel, _⟩
  · exact ⟨[], ⟨none, 0, rfl, Nat.le_refl _, ⟨rfl, by simp, fun h => by simp at h⟩⟩, fun a ha => by cases ha⟩
  · have each : ∀ i, i < len → ∃ (y : α) (c : List Value), c.length = d.sz ∧ d.K w y c ∧ q y ∧ ∀ j u, c[j]? = some u → w.cell? (a.add (i * d.sz + j)) = some u := by
      intro i hi
      have hE := hel i hi
      rw [List.getElem?_eq_getElem (by omega : i < elems.length), Option.bind_eq_some_iff] at hE
      obtain ⟨cs', hcs', hy⟩ := hE
      obtain ⟨y, h1, h2⟩ := he _ _ _ _ _ hy
      obtain ⟨_, h3, h4⟩ := World.cells?_some hcs'
      rw [hc] at h3 h4
      refine ⟨y, cs', h3, h1, h2, fun j u hj => ?_⟩
      have hjl : j < d.sz := by rw [← h3]; exact (List.getElem?_eq_some_iff.1 hj).1
      have := h4 j hjl
      rw [Addr.add_add] at this
      rw [this, hj]
    have pick : ∀ m, m ≤ len → ∃ ls : List α, ls.length = m ∧ (∀ i y, ls[i]? = some y → ∃ c : List Value, c.length = d.sz ∧ d.K w y c ∧ q y ∧ ∀ j u, c[j]? = some u → w.cell? (a.add (i * d.sz + j)) = some u) := by
      intro m
      induction m with
      | zero => intro _; exact ⟨[], rfl, fun i l h => by simp at h⟩
      | succ m ih =>
        intro hm'
        obtain ⟨ls, g1, g2⟩ := ih (by omega)
        obtain ⟨y, c, q1, q2, q3, q4⟩ := each m (by omega)
        refine ⟨ls ++ [y], by simp [g1], fun i l' hi => ?_⟩
        by_cases hlt : i < ls.length
        · rw [List.getElem?_append_left hlt] at hi
          exact g2 i l' hi
        · have him : i = m := by
            have := (List.getElem?_eq_some_iff.1 hi).1
            simp at this
            omega
          subst him
          rw [List.getElem?_append_right (by omega), g1, Nat.sub_self] at hi
          simp at hi
          subst hi
          exact ⟨c, q1, q2, q3, q4⟩
    obtain ⟨ls, g1, g2⟩ := pick len (Nat.le_refl _)
    refine ⟨ls, ⟨some a, cap, by rw [g1], by omega, ⟨rfl, by unfold maxLen at hm; omega, fun _ => ⟨a, rfl, fun j p hj => ?_⟩⟩⟩, fun y hy => ?_⟩
    · obtain ⟨c, q1, q2, _, q4⟩ := g2 j p hj
      exact ⟨c, q1, q2, q4⟩
    · obtain ⟨i, hi⟩ := List.getElem?_of_mem hy
      exact (g2 i y hi).choose_spec.2.2.1
/-- The argument itself. -/
theorem opens_arg {α : Type} {t e : TypeId} {d : Kd α} {q : α → Prop} (ht : P.underlying t = some (.slice e)) (hc : P.cellsOf e = d.sz) (he : Opens enc P w e d q) {sp : Nat → Bool} {held : Bool} {A : Option Addr} {n c : Nat} {x : DataW H} {ps : List MemPlace} (h : DataW.Trod enc P w 0 sp held t (.slice A n c) x ps) :
    ∃ ls : List α, ls.length = n ∧ n ≤ c ∧ Kd.C d w A n ls ∧ ∀ a ∈ ls, q a := by
  obtain ⟨fuel, hf⟩ := h
  obtain ⟨ls, ⟨B, c', h1, h2, h3⟩, h4⟩ := opens_slice ht hc he _ _ _ _ _ hf
  simp only [Value.cells, List.cons.injEq, Value.slice.injEq, and_true] at h1
  obtain ⟨rfl, rfl, rfl⟩ := h1
  exact ⟨ls, rfl, h2, h3, h4⟩
/-- A struct by value. -/
theorem opens_one {α : Type} {t : TypeId} {d : Kd α} {q : α → Prop} (he : Opens enc P w t d q) {sp : Nat → Bool} {held : Bool} {v : Value} {x : DataW H} {ps : List MemPlace} (h : DataW.Trod enc P w 0 sp held t v x ps) :
    ∃ a, d.K w a v.cells.toList ∧ q a := by
  obtain ⟨fuel, hf⟩ := h
  exact he _ _ _ _ _ hf
end
end Go.Proofs.Ytlipbiihemhieaa.Q

-- from Qf33
-- Made by hp.py, a program of this session, with the kit's printer. Not trusted: Lean checks it.
namespace Go.Proofs.Ytlipbiihemhieaa.Q
open Go.RowKit Go.Proofs.YtlipbiihemhieaaW.PrintWords Go.Proofs.YtlipbiihemhieaaW.PrintLast Go.Proofs.YtlipbiihemhieaaW.PrintMore
attribute [local go_sem] max2_int min2_int max_two min_two max_three min_three max_four min_four   -- for this text's walks alone
set_option linter.unusedVariables false
set_option linter.unusedSimpArgs false

/-! ### paronymref01_Rest: function 33 -/
def paronymref01_Rest.f (a0 : Int) (a1 : Int) : Option (Int) := if a1 = 0 then (none) else (some (Int.tmod (wrap64 ((Int.tmod a0 a1) + a1)) a1))
set_option maxHeartbeats 8000000 in
set_option maxRecDepth 100000 in
theorem paronymref01_Rest.calls (a0 : Int) (a1 : Int) (r : Int) (w : World) (h : paronymref01_Rest.f a0 a1 = some r) :
    Calls Try.prog 33 #[.int .i64 a0, .int .i64 a1] w fun e w' => e = .returned (.int .i64 r) ∧ Drawn0 w w' := by
  have H : (if a1 = 0 then (none) else (some (Int.tmod (wrap64 ((Int.tmod a0 a1) + a1)) a1))) = some r := h
  clear h
  by_cases c3 : a1 = 0
  · rw [if_pos c3] at H
    exact absurd H (by simp)
  · rw [if_neg c3] at H
    have c3b0 : (a1 == 0) = false := beq_eq_false_iff_ne.mpr c3
    have c3b1 : (a1 != 0) = true := bne_iff_ne.mpr c3
    obtain rfl := Option.some.inj H
    go_enter Try.func33, Try.ntmps33
    go_wp2
    go_ret
    exact ⟨by first | rfl | (simp; done) | (simp [*]; done), by repeat (first | exact Drawn0.refl _ | apply Drawn0.step)⟩

end Go.Proofs.Ytlipbiihemhieaa.Q

-- from Hwsp
/- Layer 3: the contracts that the four laws' walks use, told without rounds. -/
namespace Go.Proofs.Ytlipbiihemhieaa.Q
open Go.ChangeShapes Go.WideShapes Go.RowKit Go.Shelf Go.Proofs.YtlipbiihemhieaaW.PrintWords Go.Proofs.YtlipbiihemhieaaW.PrintLast Go.Proofs.YtlipbiihemhieaaW.PrintMore Go.Proofs.Ytlipbiihemhieaa.K
set_option linter.unusedVariables false
set_option linter.unusedSimpArgs false

/-- A span that came in. -/
def wf43 (s : S43) : Prop := (Lit.int .i64 s.f0).wf = true ∧ (Lit.int .i64 s.f1).wf = true ∧ s.f2.size ≤ 9223372036854775807
set_option maxRecDepth 100000 in
theorem opens_S43 {H : Type} {enc : TypeId × Value → H} {w : World} : Opens enc Try.prog w 43 k43 wf43 := fun sp held fuel cs x h => by
  obtain ⟨y0, y1, y2, n, _, hlen, h0, h1, h2⟩ := Go.Deep.trod_struct3 Try.underlying43 h
  have hc : Try.prog.cellsOf 43 = 3 := by kernel_rfl
  rw [hc] at hlen
  match cs, hlen with
  | [a, b, c], _ =>
    obtain ⟨n0, e0, _, g0⟩ := DataW.trod_int Try.underlying3 h0
    obtain ⟨n1, e1, _, g1⟩ := DataW.trod_int Try.underlying3 h1
    obtain ⟨s, e2, _, g2⟩ := DataW.trod_string Try.underlying9 h2
    have hi : Try.prog.cellsOf 3 = 1 := by kernel_rfl
    have hs : Try.prog.cellsOf 9 = 1 := by kernel_rfl
    simp only [hi, hs] at e0 e1 e2
    simp at e0 e1 e2
    subst e0 e1 e2
    exact ⟨⟨n0, n1, s⟩, k43_mk w ⟨n0, n1, s⟩, g0, g1, by unfold maxLen at g2; omega⟩
def smallB (l : List S43) : Bool := decide (l.length ≤ 30 ∧ ∀ s ∈ l, s.f2.size ≤ 30)
theorem small_calls (A : Option Addr) (c : Nat) (l : List S43) (w : World) (hr : Kd.C k43 w A l.length l) (hc : l.length ≤ c) :
    Calls Try.prog 27 #[.slice A l.length c] w fun e w' => e = .returned (.bool (smallB l)) ∧ Below w.heap.size w w' := by
  by_cases h : l.length ≤ 30
  · obtain ⟨b, hb, he⟩ := small_ev (l := l) (by omega)
    obtain ⟨k, hk⟩ := he.rounds
    have : b = smallB l := by unfold smallB; rw [Bool.eq_iff_iff, hb, decide_eq_true_iff]
    subst this
    exact (paronymlaw03_small.calls k A c l _ w hr hc hk).mono fun e w' h => ⟨h.1, h.2.below⟩
  · have : smallB l = false := by unfold smallB; exact decide_eq_false (fun q => h q.1)
    rw [this]
    exact (paronymlaw03_small.calls 0 A c l false w hr hc (by unfold paronymlaw03_small.f; rw [if_pos (by omega)])).mono fun e w' h => ⟨h.1, h.2.below⟩
theorem plain_calls (A : Option Addr) (c : Nat) (l : List S43) (M : List S53) (w : World) (hM : M = l.map c53) (hr : Kd.C k43 w A l.length l) (hc : l.length ≤ c) (hl : l.length ≤ 1000) :
    Calls Try.prog 35 #[.slice A l.length c] w fun e w' => ∃ v, e = .returned v ∧ Kd.R k53 53 w' w.heap.size (fun _ => True) v M ∧ Below w.heap.size w w' := by
  subst hM
  obtain ⟨k, hk⟩ := (plain_ev (l := l) (by omega)).rounds
  exact paronymlaw03_plain.calls k A c l _ w hr hc hk
def refNewR (l : List S43) : List S53 × Int := if (newR [] l).1 = 0 then ((newR [] l).2.map c53, 0) else ([], (newR [] l).1)
theorem refNewR_err (l : List S43) : (refNewR l).2 = (newR [] l).1 := by
  unfold refNewR
  split
  · rename_i h; exact h.symm
  · rfl
theorem refNew_calls (A : Option Addr) (c : Nat) (l : List S43) (M M2 : List S53) (w : World) (hM : M = l.map c53) (hM2 : M2 = (refNewR l).1) (hr : Kd.C k53 w A M.length M) (hc : M.length ≤ c) (hl : l.length ≤ 1000) :
    Calls Try.prog 34 #[.slice A M.length c] w fun e w' => ∃ v, e = .returned (.tuple #[v, .int .i64 (newR [] l).1]) ∧ Kd.R k53 53 w' w.heap.size (fun _ => True) v M2 ∧ Below w.heap.size w w' := by
  subst hM hM2
  obtain ⟨k, hk⟩ := (refNew_ev (l := l) (by omega)).rounds
  have := paronymref03_New.calls k A c (l.map c53) (refNewR l).1 (refNewR l).2 w hr hc hk
  rw [refNewR_err] at this
  exact this
theorem same_calls (A : Option Addr) (c : Nat) (l : List S53) (A' : Option Addr) (c' : Nat) (w : World) (hr : Kd.C k53 w A l.length l) (hc : l.length ≤ c) (hr' : Kd.C k53 w A' l.length l) (hc' : l.length ≤ c') (hl : l.length ≤ 1000) :
    Calls Try.prog 32 #[.slice A l.length c, .slice A' l.length c'] w fun e w' => e = .returned (.bool true) ∧ Below w.heap.size w w' := by
  obtain ⟨k, hk⟩ := (same_ev (a := l) (by omega)).rounds
  exact (paronymlaw03_same.calls k A c l A' c' l true w hr hc hr' hc' hk).mono fun e w' h => ⟨h.1, h.2.below⟩
theorem refValue_calls (A : Option Addr) (n : Nat) (L : List S43) (M : List S53) (c : Int) (w : World) (hM : M = L.map c53) (hr : Kd.C k53 w A M.length M) (hc : M.length ≤ n) (hl : L.length ≤ 1000) (hL : SpOK L) :
    Calls Try.prog 36 #[.slice A M.length n, .int .i64 c] w fun e w' => e = .returned (.string (valR L c)) ∧ Below w.heap.size w w' := by
  subst hM
  obtain ⟨k, hk⟩ := (refValue_ev (by omega) hL c).rounds
  exact (paronymref03_Value.calls k A n _ c _ w hr hc hk).mono fun e w' h => ⟨h.1, h.2.below⟩
theorem value_calls (p : Option Addr) (L : List S43) (c : Int) (w : World) (hT : Tab w p L) (hl : L.length ≤ 1000) (hL : SpOK L) :
    Calls Try.prog 38 #[.pointer p, .int .i64 c] w fun e w' => e = .returned (.string (valR L c)) ∧ Below w.heap.size w w' := by
  obtain ⟨k, hk⟩ := (value_ev (by omega) hL c).rounds
  exact span_Value.calls k p L c _ w hT hk
theorem has_calls (p : Option Addr) (L : List S43) (c : Int) (v : ByteArray) (w : World) (hT : Tab w p L) (hl : L.length ≤ 1000) (hL : SpOK L) :
    Calls Try.prog 39 #[.pointer p, .int .i64 c, .string v] w fun e w' => e = .returned (.bool (hasR L c v)) ∧ Below w.heap.size w w' := by
  obtain ⟨k, hk⟩ := (has_ev (by omega) hL c v).rounds
  exact span_Has.calls k p L c v _ w hT hk
theorem listed_calls (p : Option Addr) (L : List S43) (M : List S53) (w : World) (hM : M = L.map c53) (hT : Tab w p L) (hl : L.length ≤ 1000) :
    Calls Try.prog 29 #[.pointer p] w fun e w' => ∃ v, e = .returned v ∧ Kd.R k53 53 w' w.heap.size (fun _ => True) v M ∧ Below w.heap.size w w' := by
  subst hM
  exact paronymlaw03_listed.calls p L w hT hl
theorem check_calls (A : Option Addr) (n : Nat) (L : List S43) (M : List S53) (s : S43) (w : World) (hM : M = L.map c53) (hr : Kd.C k53 w A M.length M) (hc : M.length ≤ n) (hl : L.length ≤ 1000) :
    Calls Try.prog 31 #[.slice A M.length n, .agg #[.int .i64 s.f0, .int .i64 s.f1, .string s.f2]] w fun e w' => e = .returned (.int .i64 (errOf L s)) ∧ Below w.heap.size w w' := by
  subst hM
  obtain ⟨k, hk⟩ := (check_ev (L := L) (by omega) s).rounds
  exact (paronymref03_Check.calls k A n _ s.f0 s.f1 s.f2 _ w hr hc hk).mono fun e w' h => ⟨h.1, by first | exact h.2 | exact h.2.below⟩
theorem add_calls (p : Option Addr) (L : List S43) (s : S43) (w : World) (hT : Tab w p L) (hl : L.length ≤ 1000) (hL : SpOK L) :
    Calls Try.prog 30 #[.pointer p, .agg #[.int .i64 s.f0, .int .i64 s.f1, .string s.f2]] w fun e w' => Below w.heap.size w w' ∧ ∃ q, e = .returned (.tuple #[.pointer q, .int .i64 (errOf L s)]) ∧
      ((errOf L s ≠ 0 ∧ q = none) ∨ (errOf L s = 0 ∧ (∃ g, q = some ⟨g, 0, none⟩) ∧ Tab w' q (addR L s).2)) := by
  obtain ⟨k, hk⟩ := (find_ev (by omega) hL s.f0).rounds
  have := span_Add.calls k p L s (pos L s.f0) w hT hk (pos_le _ _) (by omega)
  have e := addR_err hL s
  unfold addR at e ⊢
  rw [e] at this
  exact this
theorem len_calls (p : Option Addr) (L : List S43) (n : Nat) (w : World) (hn : n = L.length) (hT : Tab w p L) :
    Calls Try.prog 37 #[.pointer p] w fun e w' => e = .returned (.int .i64 (n : Int)) ∧ Below w.heap.size w w' := by
  subst hn
  exact (span_Len.calls p L w hT).mono fun e w' h => ⟨h.1, by rw [h.2]; exact Below.refl _ _⟩
theorem value_calls' (p : Option Addr) (L : List S43) (c : Int) (V : ByteArray) (w : World) (hV : V = valR L c) (hT : Tab w p L) (hl : L.length ≤ 1000) (hL : SpOK L) :
    Calls Try.prog 38 #[.pointer p, .int .i64 c] w fun e w' => e = .returned (.string V) ∧ Below w.heap.size w w' := by
  subst hV
  exact value_calls p L c w hT hl hL
theorem has_calls' (p : Option Addr) (L : List S43) (c : Int) (v : ByteArray) (b : Bool) (w : World) (hb : hasR L c v = b) (hT : Tab w p L) (hl : L.length ≤ 1000) (hL : SpOK L) :
    Calls Try.prog 39 #[.pointer p, .int .i64 c, .string v] w fun e w' => e = .returned (.bool b) ∧ Below w.heap.size w w' := by
  subst hb
  exact has_calls p L c v w hT hl hL
theorem refValue_calls' (A : Option Addr) (n : Nat) (L : List S43) (M : List S53) (c : Int) (V : ByteArray) (w : World) (hV : V = valR L c) (hM : M = L.map c53) (hr : Kd.C k53 w A M.length M) (hc : M.length ≤ n) (hl : L.length ≤ 1000) (hL : SpOK L) :
    Calls Try.prog 36 #[.slice A M.length n, .int .i64 c] w fun e w' => e = .returned (.string V) ∧ Below w.heap.size w w' := by
  subst hV
  exact refValue_calls A n L M c w hM hr hc hl hL
theorem tab_nil (w : World) : Tab w none [] := .inl ⟨rfl, rfl⟩
theorem valR_nil (c : Int) : (⟨#[]⟩ : ByteArray) = valR [] c := by unfold valR; simp
theorem hasR_nil (c : Int) (v : ByteArray) : hasR [] c v = false := by
  unfold hasR
  split
  · rfl
  · rename_i h
    rw [← valR_nil]
    cases hv : v.toList with
    | nil => exact absurd hv h
    | cons a l => rw [ba_toList]; rfl
theorem new_ok (A : Option Addr) (c : Nat) (l L : List S43) (w : World) (hn : newR [] l = (0, L)) (hr : Kd.C k43 w A l.length l) (hc : l.length ≤ c) (hl : l.length ≤ 1000) :
    Calls Try.prog 28 #[.slice A l.length c] w fun e w' => ∃ g, e = .returned (.tuple #[.pointer (some ⟨g, 0, none⟩), .int .i64 0]) ∧ Tab w' (some ⟨g, 0, none⟩) L ∧ Below w.heap.size w w' :=
  (span_New.calls A c l w hr hc hl).mono fun e w' ⟨hb, q, he, hq⟩ => by
    rw [hn] at he hq
    rcases hq with ⟨hq, _⟩ | ⟨_, ⟨g, rfl⟩, hT⟩
    · exact absurd rfl hq
    · exact ⟨g, he, hT, hb⟩
theorem new_err (A : Option Addr) (c : Nat) (l : List S43) (E : Int) (w : World) (hn : (newR [] l).1 = E) (hE : E ≠ 0) (hr : Kd.C k43 w A l.length l) (hc : l.length ≤ c) (hl : l.length ≤ 1000) :
    Calls Try.prog 28 #[.slice A l.length c] w fun e w' => e = .returned (.tuple #[.pointer none, .int .i64 E]) ∧ Below w.heap.size w w' :=
  (span_New.calls A c l w hr hc hl).mono fun e w' ⟨hb, q, he, hq⟩ => by
    rw [hn] at he hq
    rcases hq with ⟨_, rfl⟩ | ⟨hq, _⟩
    · exact ⟨he, hb⟩
    · exact absurd hq hE
theorem add_ok (p : Option Addr) (L : List S43) (s : S43) (w : World) (hE : errOf L s = 0) (hT : Tab w p L) (hl : L.length ≤ 1000) (hL : SpOK L) :
    Calls Try.prog 30 #[.pointer p, .agg #[.int .i64 s.f0, .int .i64 s.f1, .string s.f2]] w fun e w' => ∃ g, e = .returned (.tuple #[.pointer (some ⟨g, 0, none⟩), .int .i64 0]) ∧ Tab w' (some ⟨g, 0, none⟩) (addR L s).2 ∧ Below w.heap.size w w' :=
  (add_calls p L s w hT hl hL).mono fun e w' ⟨hb, q, he, hq⟩ => by
    rw [hE] at he hq
    rcases hq with ⟨hq, _⟩ | ⟨_, ⟨g, rfl⟩, hT⟩
    · exact absurd rfl hq
    · exact ⟨g, he, hT, hb⟩
theorem add_err (p : Option Addr) (L : List S43) (s : S43) (E : Int) (w : World) (hE : errOf L s = E) (h0 : E ≠ 0) (hT : Tab w p L) (hl : L.length ≤ 1000) (hL : SpOK L) :
    Calls Try.prog 30 #[.pointer p, .agg #[.int .i64 s.f0, .int .i64 s.f1, .string s.f2]] w fun e w' => e = .returned (.tuple #[.pointer none, .int .i64 E]) ∧ Below w.heap.size w w' :=
  (add_calls p L s w hT hl hL).mono fun e w' ⟨hb, q, he, hq⟩ => by
    rw [hE] at he hq
    rcases hq with ⟨_, rfl⟩ | ⟨hq, _⟩
    · exact ⟨he, hb⟩
    · exact absurd hq h0
theorem check_calls' (A : Option Addr) (n : Nat) (L : List S43) (M : List S53) (s : S43) (E : Int) (w : World) (hE : errOf L s = E) (hM : M = L.map c53) (hr : Kd.C k53 w A M.length M) (hc : M.length ≤ n) (hl : L.length ≤ 1000) :
    Calls Try.prog 31 #[.slice A M.length n, .agg #[.int .i64 s.f0, .int .i64 s.f1, .string s.f2]] w fun e w' => e = .returned (.int .i64 E) ∧ Below w.heap.size w w' := by
  subst hE
  exact check_calls A n L M s w hM hr hc hl
/-- How far the spans are turned. -/
theorem rest_some (a n : Int) (h0 : 0 < n) (h1 : n ≤ 1000) : ∃ r, paronymref01_Rest.f a n = some r ∧ 0 ≤ r ∧ r < n := by
  have h2 := Int.tmod_lt_of_pos a h0
  have h3 := Int.lt_tmod_of_pos a h0
  unfold paronymref01_Rest.f
  rw [if_neg (by omega), w64 (by omega) (by omega), Int.tmod_eq_emod_of_nonneg (by omega)]
  exact ⟨_, rfl, Int.emod_nonneg _ (by omega), Int.emod_lt_of_pos _ h0⟩
theorem rest_calls (a n r : Int) (w : World) (h : paronymref01_Rest.f a n = some r) :
    Calls Try.prog 33 #[.int .i64 a, .int .i64 n] w fun e w' => e = .returned (.int .i64 r) ∧ Drawn0 w w' := paronymref01_Rest.calls a n r w h
theorem rot_at {l : List S43} {r i : Nat} (hr : r < l.length) (hi : i < l.length) : (l.drop r ++ l.take r)[i]? = some (rd_T43 l ((((i : Int) + (r : Int)) % (l.length : Int)))) := by
  have e : ((i : Int) + (r : Int)) % (l.length : Int) = ((if i < l.length - r then r + i else i - (l.length - r) : Nat) : Int) := by
    split
    · rw [Int.emod_eq_of_lt (by omega) (by omega)]; omega
    · have : ((i : Int) + (r : Int)) = ((i : Int) + r - l.length) + l.length := by omega
      rw [this, Int.add_emod_right, Int.emod_eq_of_lt (by omega) (by omega)]; omega
  rw [e]
  split
  · rw [rd43 _ (by omega), List.getElem?_append_left (by rw [List.length_drop]; omega), List.getElem?_drop, List.getElem?_eq_getElem (by omega)]
  · rw [rd43 _ (by omega), List.getElem?_append_right (by rw [List.length_drop]; omega), List.length_drop, List.getElem?_take_of_lt (by omega), List.getElem?_eq_getElem (by omega)]
theorem info_span : (Try.prog.info? 43).map (fun i => (i.zero, i.size, i.bytes)) = some (some (.agg #[(.int .i64 0), (.int .i64 0), (.string ⟨#[]⟩)]), 3, 32) := by kernel_rfl
theorem agg_S43 {w : World} {s : S43} {cs : Array Value} (h : k43.K w s (Value.agg cs).cells.toList) : cs = #[.int .i64 s.f0, .int .i64 s.f1, .string s.f2] := by
  have := k43_open h
  cases cs
  simp [Value.cells] at this
  rw [this]
end Go.Proofs.Ytlipbiihemhieaa.Q

-- from Hwapart
/- SpanApart: the walk. -/
namespace Go.Proofs.Ytlipbiihemhieaa.Q
open Go.ChangeShapes Go.WideShapes Go.RowKit Go.Shelf Go.Proofs.YtlipbiihemhieaaW.PrintWords Go.Proofs.YtlipbiihemhieaaW.PrintLast Go.Proofs.YtlipbiihemhieaaW.PrintMore Go.Proofs.Ytlipbiihemhieaa.K
set_option linter.unusedVariables false
set_option linter.unusedSimpArgs false

set_option maxHeartbeats 8000000 in
set_option maxRecDepth 100000 in
theorem apart_out (A0 : Option Addr) (c0 : Nat) (l : List S43) (w : World) (hr : Kd.C k43 w A0 l.length l) (hc : l.length ≤ c0) (hs : smallB l = false) :
    Calls Try.prog 9 #[.slice A0 l.length c0] w fun e w' => e = .returned (.bool true) ∧ Below w.heap.size w w' := by
  have HR := Aside0.mk hr
  have HC := Aside0.mk hc
  have HBB := Aside0.mk hs
  clear hr hc hs
  go_enter Try.func9, Try.ntmps9
  have HB := Aside0.mk (Below.refl w.heap.size w)
  go_wp2_with (first
    | (go_at_call 26
       (with_reducible refine (paronymlaw03_awake.calls0 _).mono ?_)
       rintro e w1 ⟨rfl, hb⟩
       have HB := Aside0.mk (HB.out.trans (hb.mono HB.out.size))
       clear hb)
    | (go_at_call 27
       (with_reducible refine (small_calls _ _ l _ (Kd.C_below HR.out HB.out) HC.out).mono ?_)
       rintro e w1 ⟨rfl, hb⟩
       rw [HBB.out]
       have HB := Aside0.mk (HB.out.trans (hb.mono HB.out.size))
       clear hb))
  go_ret
  exact ⟨rfl, HB.out⟩
set_option maxHeartbeats 8000000 in
set_option maxRecDepth 100000 in
theorem apart_err (A0 : Option Addr) (c0 : Nat) (l : List S43) (w : World) (hr : Kd.C k43 w A0 l.length l) (hc : l.length ≤ c0) (hs : smallB l = true) (hn : (newR [] l).1 ≠ 0) :
    Calls Try.prog 9 #[.slice A0 l.length c0] w fun e w' => e = .returned (.bool true) ∧ Below w.heap.size w w' := by
  have HR := Aside0.mk hr
  have HC := Aside0.mk hc
  have HBB := Aside0.mk hs
  have hl : l.length ≤ 30 := by unfold smallB at hs; exact (of_decide_eq_true hs).1
  have HL := Aside0.mk hl
  obtain ⟨E, hE⟩ : ∃ E, E = (newR [] l).1 := ⟨_, rfl⟩
  rw [← hE] at hn
  have HE := Aside0.mk hE
  have HN := Aside0.mk hn
  have e4 : (E == 0) = false := beq_eq_false_iff_ne.mpr hn
  have e5 : (E != 0) = true := bne_iff_ne.mpr hn
  have e6 : decide (E = 0) = false := decide_eq_false hn
  have e7 := eq_false hn
  clear hr hc hs hn hl hE
  go_enter Try.func9, Try.ntmps9
  have HB := Aside0.mk (Below.refl w.heap.size w)
  go_wp2_with (first
    | (go_at_call 26
       (with_reducible refine (paronymlaw03_awake.calls0 _).mono ?_)
       rintro e w1 ⟨rfl, hb⟩
       have HB := Aside0.mk (HB.out.trans (hb.mono HB.out.size))
       clear hb)
    | (go_at_call 27
       (with_reducible refine (small_calls _ _ l _ (Kd.C_below HR.out HB.out) HC.out).mono ?_)
       rintro e w1 ⟨rfl, hb⟩
       rw [HBB.out]
       have HB := Aside0.mk (HB.out.trans (hb.mono HB.out.size))
       clear hb)
    | (go_at_call 28
       (with_reducible refine (new_err _ _ l E _ HE.out.symm HN.out (Kd.C_below HR.out HB.out) HC.out (Nat.le_trans HL.out (by decide))).mono ?_)
       rintro e w1 ⟨rfl, hb⟩
       have HB := Aside0.mk (HB.out.trans (hb.mono HB.out.size))
       clear hb))
  go_ret
  exact ⟨rfl, HB.out⟩
set_option maxHeartbeats 8000000 in
set_option maxRecDepth 100000 in
theorem apart_main (A0 : Option Addr) (c0 : Nat) (l : List S43) (w : World) (hr : Kd.C k43 w A0 l.length l) (hc : l.length ≤ c0) (hs : smallB l = true) (hn : (newR [] l).1 = 0) :
    Calls Try.prog 9 #[.slice A0 l.length c0] w fun e w' => e = .returned (.bool true) ∧ Below w.heap.size w w' := by
  have HR := Aside0.mk hr
  have HC := Aside0.mk hc
  have HBB := Aside0.mk hs
  have hl : l.length ≤ 30 := by unfold smallB at hs; exact (of_decide_eq_true hs).1
  have HL := Aside0.mk hl
  obtain ⟨L, hL⟩ : ∃ L, L = (newR [] l).2 := ⟨_, rfl⟩
  obtain ⟨hok, hperm⟩ := newR_SpOK hn
  rw [← hL] at hok hperm
  have HLE : Aside0 (newR [] l = (0, L)) := ⟨Prod.ext hn hL.symm⟩
  have HOK := Aside0.mk hok
  have HPL : Aside0 (L.length = l.length) := ⟨hperm.length_eq⟩
  have HLL : Aside0 (L.length ≤ 1000) := ⟨by rw [hperm.length_eq]; omega⟩
  obtain ⟨M, HM⟩ : ∃ M, Aside0 (M = L.map c53) := ⟨_, ⟨rfl⟩⟩
  have HML : Aside0 (M.length = l.length) := ⟨by rw [HM.out, List.length_map, hperm.length_eq]⟩
  clear hr hc hs hn hl hL hok hperm
  go_enter Try.func9, Try.ntmps9
  have HB := Aside0.mk (Below.refl w.heap.size w)
  go_wp2_with (first
    | (go_at_call 26
       (with_reducible refine (paronymlaw03_awake.calls0 _).mono ?_)
       rintro e w1 ⟨rfl, hb⟩
       have HB := Aside0.mk (HB.out.trans (hb.mono HB.out.size))
       clear hb)
    | (go_at_call 27
       (with_reducible refine (small_calls _ _ l _ (Kd.C_below HR.out HB.out) HC.out).mono ?_)
       rintro e w1 ⟨rfl, hb⟩
       rw [HBB.out]
       have HB := Aside0.mk (HB.out.trans (hb.mono HB.out.size))
       clear hb)
    | (go_at_call 28
       (with_reducible refine (new_ok _ _ l L _ HLE.out (Kd.C_below HR.out HB.out) HC.out (Nat.le_trans HL.out (by decide))).mono ?_)
       rintro e w1 ⟨g, rfl, hT, hb⟩
       have HT := Aside0.mk hT
       have HB := Aside0.mk (HB.out.trans (hb.mono HB.out.size))
       clear hb hT)
    | (go_at_call 29
       (with_reducible refine (listed_calls (some ⟨g, 0, none⟩) L M _ HM.out HT.out HLL.out).mono ?_)
       rintro e w1 ⟨v3, rfl, hr3, hb⟩
       have HT := Aside0.mk (HT.out.below hb)
       obtain ⟨A2, c2, rfl, hc3, hC3⟩ := Kd.R_reads hr3
       have HC2 := Aside0.mk hc3
       have HR2 := Aside0.mk hC3
       have HB := Aside0.mk (HB.out.trans (hb.mono HB.out.size))
       clear hb hr3 hc3 hC3))
  go_loopg [6] (M.length + 1) (fun kq v6 wr => ∃ (i : Nat), v6 = .int .i64 (i : Int) ∧ Aside0 (i + kq = M.length + 1 ∧ i ≤ M.length) ∧ Aside0 (Below w1.heap.size w1 wr))
  case atStart => exact ⟨0, rfl, ⟨by omega, by omega⟩, ⟨Below.refl _ _⟩⟩
  case round =>
    obtain ⟨i, rfl, HI, HBL⟩ := hrel
    cases gk with
    | zero => exact absurd HI.out (by omega)
    | succ kq =>
      by_cases c1 : (i : Int) < (M.length : Int)
      · have hiL : i < L.length := by have := HML.out; have := HPL.out; omega
        obtain ⟨ad, rfl, hy0, hy1, hy2⟩ := at_T53 HR2.out (i : Int) (by omega) c1
        obtain ⟨q, hq⟩ : ∃ q, q = L[i] := ⟨_, rfl⟩
        have hMq : rd_T53 M (i : Int) = c53 q := by rw [HM.out, rdc i hiL, hq]
        have hin1 := valR_in HOK.out hiL (Int.le_refl _) (HOK.out.at hiL).2.1
        have hin2 := valR_in HOK.out hiL (HOK.out.at hiL).2.1 (Int.le_refl _)
        have hval := HOK.out.at hiL
        rw [← hq] at hin1 hin2 hval
        have hprev : 0 < i → L[i - 1].f1 < q.f0 := fun h => by rw [hq]; exact HOK.out.lt (i := i - 1) (by omega) hiL
        have HPREV := Aside0.mk hprev
        clear hprev
        have HA1 : Aside0 (hasR L q.f0 q.f2 = true) := ⟨by unfold hasR; rw [if_neg hval.2.2.2, hin1]; exact beq_self_eq_true _⟩
        have HA2 : Aside0 (hasR L q.f1 q.f2 = true) := ⟨by unfold hasR; rw [if_neg hval.2.2.2, hin2]; exact beq_self_eq_true _⟩
        obtain ⟨hv0, hv1, hv2, hv3⟩ := hval
        have d0 : decide (q.f0 < 0) = false := decide_eq_false (by omega)
        have d1 : decide (1114111 < q.f1) = false := decide_eq_false (by omega)
        have d2 : decide (q.f1 < q.f0) = false := decide_eq_false (by omega)
        have d3 : (q.f2.toList == ([] : List UInt8)) = false := beq_eq_false_iff_ne.mpr hv3
        have d4 : q.f2.toList.isEmpty = false := by
          cases hh : q.f2.toList with
          | nil => exact absurd hh hv3
          | cons _ _ => rfl
        have hy0 := (HBL.out.cell (World.block_lt_of_cell? w1 _ hy0)).trans hy0
        have hy1 := (HBL.out.cell (World.block_lt_of_cell? w1 _ hy1)).trans hy1
        have hy2 := (HBL.out.cell (World.block_lt_of_cell? w1 _ hy2)).trans hy2
        rw [hMq] at hy0 hy1 hy2
        simp only [c53, Int.toNat_natCast] at hy0 hy1 hy2
        have b0 : 0 ≤ (i : Int) := by omega
        have b1 : (i : Int) ≤ 30 := by have := HML.out; have := HL.out; omega
        have b4 : (M.length : Int) ≤ 30 := by have := HML.out; have := HL.out; omega
        have e8 := eq_true c1
        have e9 : decide ((i : Int) < (M.length : Int)) = true := decide_eq_true c1
        clear hin1 hin2 hv0 hv1 hv2 hv3 hMq c1 hq
        go_upto_region 11 with fail
        have hnew := heap_alloc_new wr (.cells #[.int .i64 q.f0, .int .i64 q.f1, .string q.f2] 53)
        have hbA : Below wr.heap.size wr (wr.alloc (.cells #[.int .i64 q.f0, .int .i64 q.f1, .string q.f2] 53)) := (Below.refl _ wr).alloc (Nat.le_refl _) _
        generalize wr.alloc (.cells #[.int .i64 q.f0, .int .i64 q.f1, .string q.f2] 53) = W at hnew hbA ⊢
        have hz0 : W.cell? ⟨wr.heap.size, 0, none⟩ = some (.int .i64 q.f0) := by simp only [World.cell?]; rw [hnew]; rfl
        have hz1 : W.cell? ⟨wr.heap.size, 1, none⟩ = some (.int .i64 q.f1) := by simp only [World.cell?]; rw [hnew]; rfl
        have hz2 : W.cell? ⟨wr.heap.size, 2, none⟩ = some (.string q.f2) := by simp only [World.cell?]; rw [hnew]; rfl
        have hbW1 : Below w1.heap.size w1 W := HBL.out.trans (hbA.mono HBL.out.size)
        have HBW1 := Aside0.mk hbW1
        have HTW : Aside0 (Tab W (some ⟨g, 0, none⟩) L) := ⟨HT.out.below hbW1⟩
        have hs := hbW1.size
        clear hy0 hy1 hy2 hnew hbA
        by_cases h0 : 0 < i
        · have hpr := HPREV.out h0
          have c2 : (i : Int) - 1 < (M.length : Int) := by have := HI.out; have := HML.out; have := HPL.out; omega
          have hMq : rd_T53 M ((i : Int) - 1) = c53 L[i - 1] := by
            have : ((i : Int) - 1) = ((i - 1 : Nat) : Int) := by omega
            rw [this, HM.out, rdc (i - 1) (by omega)]
          obtain ⟨ad2, had2, hy0, hy1, hy2⟩ := at_T53 HR2.out ((i : Int) - 1) (by omega) c2
          obtain rfl : ad = ad2 := by injection had2
          rw [hMq, show ((i : Int) - 1).toNat = i - 1 by omega] at hy1
          have d13 : ((i : Int) < 1) = False := eq_false (by omega)
          obtain ⟨u, hu⟩ : ∃ u : Int, u = L[i - 1].f1 := ⟨_, rfl⟩
          simp only [c53] at hy1
          rw [← hu] at hy1 hpr
          have hy1 := (hbW1.cell (World.block_lt_of_cell? w1 _ hy1)).trans hy1
          have d5 : decide (0 < (i : Int)) = true := decide_eq_true (by omega)
          have d6 : decide (0 < i) = true := decide_eq_true h0
          have d7 : decide (q.f0 ≤ u) = false := decide_eq_false (by omega)
          have d8 : 0 ≤ (i : Int) - 1 := by omega
          have d9 : decide ((i : Int) - 1 < (M.length : Int)) = true := decide_eq_true c2
          have d10 : decide (0 ≤ (i : Int) - 1) = true := decide_eq_true d8
          have d11 := eq_true c2
          have d12 : IntKind.i64.wrap ((i : Int) - 1) = (i : Int) - 1 := by first | exact Go.IntWalk.i64_in _ (by omega) | exact w64 (by omega) (by omega)
          clear hu hMq hy0 hy2 h0 hpr hbW1 hs had2 c2
          have hS : Below W.heap.size W W.drew := (Below.refl _ W).drew
          refine wp_region_noPanic ?_
          refine wp_region_held (S := fun w' => Below W.heap.size W w') (by kernel_rfl) ?_
          show wpAnyH _ _ _ _ _ _ _ _ W.drew
          refine wpAnyH_take (i := 0) (v := .pointer (some ⟨wr.heap.size, 0, none⟩)) rfl (by kernel_rfl) (by kernel_rfl) (by kernel_rfl) (fun _ _ _ h => h) (.inl ⟨by kernel_rfl, fun w' hS => by first | (go_simp; done) | (go_simp; simp [*]; done)⟩) hS ?_
          try simp only [List.getElem_toArray, List.getElem_cons_succ, List.getElem_cons_zero, Act.put, List.setIfInBounds_toArray, List.set_cons_zero, List.set_cons_succ]
          refine wpAnyH_take (i := 1) (v := .int .i64 q.f0) rfl (by kernel_rfl) (by kernel_rfl) (by kernel_rfl) (fun _ _ _ h => h) (.inl ⟨by kernel_rfl, fun w' hS => by have q_ := (hS.cell (World.block_lt_of_cell? W _ hz0)).trans hz0; first | (go_simp; done) | (go_simp; simp [*]; done)⟩) hS ?_
          try simp only [List.getElem_toArray, List.getElem_cons_succ, List.getElem_cons_zero, Act.put, List.setIfInBounds_toArray, List.set_cons_zero, List.set_cons_succ]
          refine wpAnyH_take (i := 2) (v := .bool false) rfl (by kernel_rfl) (by kernel_rfl) (by kernel_rfl) (fun _ _ _ h => h) (.inl ⟨by kernel_rfl, fun w' hS => by first | (go_simp; done) | (go_simp; simp [*]; done)⟩) hS ?_
          try simp only [List.getElem_toArray, List.getElem_cons_succ, List.getElem_cons_zero, Act.put, List.setIfInBounds_toArray, List.set_cons_zero, List.set_cons_succ]
          refine wpAnyH_take (i := 3) (v := .bool false) rfl (by kernel_rfl) (by kernel_rfl) (by kernel_rfl) (fun _ _ _ h => h) (.inl ⟨by kernel_rfl, fun w' hS => by first | (go_simp; done) | (go_simp; simp [*]; done)⟩) hS ?_
          try simp only [List.getElem_toArray, List.getElem_cons_succ, List.getElem_cons_zero, Act.put, List.setIfInBounds_toArray, List.set_cons_zero, List.set_cons_succ]
          refine wpAnyH_take (i := 4) (v := .pointer (some ⟨wr.heap.size, 1, none⟩)) rfl (by kernel_rfl) (by kernel_rfl) (by kernel_rfl) (fun _ _ _ h => h) (.inl ⟨by kernel_rfl, fun w' hS => by first | (go_simp; done) | (go_simp; simp [*]; done)⟩) hS ?_
          try simp only [List.getElem_toArray, List.getElem_cons_succ, List.getElem_cons_zero, Act.put, List.setIfInBounds_toArray, List.set_cons_zero, List.set_cons_succ]
          refine wpAnyH_take (i := 5) (v := .int .i64 q.f1) rfl (by kernel_rfl) (by kernel_rfl) (by kernel_rfl) (fun _ _ _ h => h) (.inl ⟨by kernel_rfl, fun w' hS => by have q_ := (hS.cell (World.block_lt_of_cell? W _ hz1)).trans hz1; first | (go_simp; done) | (go_simp; simp [*]; done)⟩) hS ?_
          try simp only [List.getElem_toArray, List.getElem_cons_succ, List.getElem_cons_zero, Act.put, List.setIfInBounds_toArray, List.set_cons_zero, List.set_cons_succ]
          refine wpAnyH_take (i := 6) (v := .bool false) rfl (by kernel_rfl) (by kernel_rfl) (by kernel_rfl) (fun _ _ _ h => h) (.inl ⟨by kernel_rfl, fun w' hS => by first | (go_simp; done) | (go_simp; simp [*]; done)⟩) hS ?_
          try simp only [List.getElem_toArray, List.getElem_cons_succ, List.getElem_cons_zero, Act.put, List.setIfInBounds_toArray, List.set_cons_zero, List.set_cons_succ]
          refine wpAnyH_take (i := 7) (v := .bool false) rfl (by kernel_rfl) (by kernel_rfl) (by kernel_rfl) (fun _ _ _ h => h) (.inl ⟨by kernel_rfl, fun w' hS => by first | (go_simp; done) | (go_simp; simp [*]; done)⟩) hS ?_
          try simp only [List.getElem_toArray, List.getElem_cons_succ, List.getElem_cons_zero, Act.put, List.setIfInBounds_toArray, List.set_cons_zero, List.set_cons_succ]
          refine wpAnyH_take (i := 8) (v := .bool false) rfl (by kernel_rfl) (by kernel_rfl) (by kernel_rfl) (fun _ _ _ h => h) (.inl ⟨by kernel_rfl, fun w' hS => by first | (go_simp; done) | (go_simp; simp [*]; done)⟩) hS ?_
          try simp only [List.getElem_toArray, List.getElem_cons_succ, List.getElem_cons_zero, Act.put, List.setIfInBounds_toArray, List.set_cons_zero, List.set_cons_succ]
          refine wpAnyH_take (i := 9) (v := .pointer (some ⟨wr.heap.size, 1, none⟩)) rfl (by kernel_rfl) (by kernel_rfl) (by kernel_rfl) (fun _ _ _ h => h) (.inl ⟨by kernel_rfl, fun w' hS => by first | (go_simp; done) | (go_simp; simp [*]; done)⟩) hS ?_
          try simp only [List.getElem_toArray, List.getElem_cons_succ, List.getElem_cons_zero, Act.put, List.setIfInBounds_toArray, List.set_cons_zero, List.set_cons_succ]
          refine wpAnyH_take (i := 10) (v := .int .i64 q.f1) rfl (by kernel_rfl) (by kernel_rfl) (by kernel_rfl) (fun _ _ _ h => h) (.inl ⟨by kernel_rfl, fun w' hS => by have q_ := (hS.cell (World.block_lt_of_cell? W _ hz1)).trans hz1; first | (go_simp; done) | (go_simp; simp [*]; done)⟩) hS ?_
          try simp only [List.getElem_toArray, List.getElem_cons_succ, List.getElem_cons_zero, Act.put, List.setIfInBounds_toArray, List.set_cons_zero, List.set_cons_succ]
          refine wpAnyH_take (i := 11) (v := .pointer (some ⟨wr.heap.size, 0, none⟩)) rfl (by kernel_rfl) (by kernel_rfl) (by kernel_rfl) (fun _ _ _ h => h) (.inl ⟨by kernel_rfl, fun w' hS => by first | (go_simp; done) | (go_simp; simp [*]; done)⟩) hS ?_
          try simp only [List.getElem_toArray, List.getElem_cons_succ, List.getElem_cons_zero, Act.put, List.setIfInBounds_toArray, List.set_cons_zero, List.set_cons_succ]
          refine wpAnyH_take (i := 12) (v := .int .i64 q.f0) rfl (by kernel_rfl) (by kernel_rfl) (by kernel_rfl) (fun _ _ _ h => h) (.inl ⟨by kernel_rfl, fun w' hS => by have q_ := (hS.cell (World.block_lt_of_cell? W _ hz0)).trans hz0; first | (go_simp; done) | (go_simp; simp [*]; done)⟩) hS ?_
          try simp only [List.getElem_toArray, List.getElem_cons_succ, List.getElem_cons_zero, Act.put, List.setIfInBounds_toArray, List.set_cons_zero, List.set_cons_succ]
          refine wpAnyH_take (i := 13) (v := .bool false) rfl (by kernel_rfl) (by kernel_rfl) (by kernel_rfl) (fun _ _ _ h => h) (.inl ⟨by kernel_rfl, fun w' hS => by first | (go_simp; done) | (go_simp; simp [*]; done)⟩) hS ?_
          try simp only [List.getElem_toArray, List.getElem_cons_succ, List.getElem_cons_zero, Act.put, List.setIfInBounds_toArray, List.set_cons_zero, List.set_cons_succ]
          refine wpAnyH_take (i := 14) (v := .bool false) rfl (by kernel_rfl) (by kernel_rfl) (by kernel_rfl) (fun _ _ _ h => h) (.inl ⟨by kernel_rfl, fun w' hS => by first | (go_simp; done) | (go_simp; simp [*]; done)⟩) hS ?_
          try simp only [List.getElem_toArray, List.getElem_cons_succ, List.getElem_cons_zero, Act.put, List.setIfInBounds_toArray, List.set_cons_zero, List.set_cons_succ]
          refine wpAnyH_take (i := 15) (v := .bool false) rfl (by kernel_rfl) (by kernel_rfl) (by kernel_rfl) (fun _ _ _ h => h) (.inl ⟨by kernel_rfl, fun w' hS => by first | (go_simp; done) | (go_simp; simp [*]; done)⟩) hS ?_
          try simp only [List.getElem_toArray, List.getElem_cons_succ, List.getElem_cons_zero, Act.put, List.setIfInBounds_toArray, List.set_cons_zero, List.set_cons_succ]
          refine wpAnyH_take (i := 16) (v := .pointer (some ⟨wr.heap.size, 2, none⟩)) rfl (by kernel_rfl) (by kernel_rfl) (by kernel_rfl) (fun _ _ _ h => h) (.inl ⟨by kernel_rfl, fun w' hS => by first | (go_simp; done) | (go_simp; simp [*]; done)⟩) hS ?_
          try simp only [List.getElem_toArray, List.getElem_cons_succ, List.getElem_cons_zero, Act.put, List.setIfInBounds_toArray, List.set_cons_zero, List.set_cons_succ]
          refine wpAnyH_take (i := 17) (v := .string q.f2) rfl (by kernel_rfl) (by kernel_rfl) (by kernel_rfl) (fun _ _ _ h => h) (.inl ⟨by kernel_rfl, fun w' hS => by have q_ := (hS.cell (World.block_lt_of_cell? W _ hz2)).trans hz2; first | (go_simp; done) | (go_simp; simp [*]; done)⟩) hS ?_
          try simp only [List.getElem_toArray, List.getElem_cons_succ, List.getElem_cons_zero, Act.put, List.setIfInBounds_toArray, List.set_cons_zero, List.set_cons_succ]
          refine wpAnyH_take (i := 18) (v := .bool false) rfl (by kernel_rfl) (by kernel_rfl) (by kernel_rfl) (fun _ _ _ h => h) (.inl ⟨by kernel_rfl, fun w' hS => by first | (go_simp; done) | (go_simp; simp [*]; done)⟩) hS ?_
          try simp only [List.getElem_toArray, List.getElem_cons_succ, List.getElem_cons_zero, Act.put, List.setIfInBounds_toArray, List.set_cons_zero, List.set_cons_succ]
          refine wpAnyH_take (i := 19) (v := .bool false) rfl (by kernel_rfl) (by kernel_rfl) (by kernel_rfl) (fun _ _ _ h => h) (.inl ⟨by kernel_rfl, fun w' hS => by first | (go_simp; done) | (go_simp; simp [*]; done)⟩) hS ?_
          try simp only [List.getElem_toArray, List.getElem_cons_succ, List.getElem_cons_zero, Act.put, List.setIfInBounds_toArray, List.set_cons_zero, List.set_cons_succ]
          refine wpAnyH_take (i := 20) (v := .bool false) rfl (by kernel_rfl) (by kernel_rfl) (by kernel_rfl) (fun _ _ _ h => h) (.inl ⟨by kernel_rfl, fun w' hS => by first | (go_simp; done) | (go_simp; simp [*]; done)⟩) hS ?_
          try simp only [List.getElem_toArray, List.getElem_cons_succ, List.getElem_cons_zero, Act.put, List.setIfInBounds_toArray, List.set_cons_zero, List.set_cons_succ]
          refine wpAnyH_take (i := 21) (v := .int .i64 (i : Int)) rfl (by kernel_rfl) (by kernel_rfl) (by kernel_rfl) (fun _ _ _ h => h) (.inl ⟨by kernel_rfl, fun w' hS => by first | (go_simp; done) | (go_simp; simp [*]; done)⟩) hS ?_
          try simp only [List.getElem_toArray, List.getElem_cons_succ, List.getElem_cons_zero, Act.put, List.setIfInBounds_toArray, List.set_cons_zero, List.set_cons_succ]
          refine wpAnyH_take (i := 22) (v := .bool true) rfl (by kernel_rfl) (by kernel_rfl) (by kernel_rfl) (fun _ _ _ h => h) (.inl ⟨by kernel_rfl, fun w' hS => by first | (go_simp; done) | (go_simp; simp [*]; done)⟩) hS ?_
          try simp only [List.getElem_toArray, List.getElem_cons_succ, List.getElem_cons_zero, Act.put, List.setIfInBounds_toArray, List.set_cons_zero, List.set_cons_succ]
          refine wpAnyH_take (i := 23) (v := .bool true) rfl (by kernel_rfl) (by kernel_rfl) (by kernel_rfl) (fun _ _ _ h => h) (.inl ⟨by kernel_rfl, fun w' hS => by first | (go_simp; done) | (go_simp; simp [*]; done)⟩) hS ?_
          try simp only [List.getElem_toArray, List.getElem_cons_succ, List.getElem_cons_zero, Act.put, List.setIfInBounds_toArray, List.set_cons_zero, List.set_cons_succ]
          refine wpAnyH_take (i := 24) (v := .slice (some ad) M.length c2) rfl (by kernel_rfl) (by kernel_rfl) (by kernel_rfl) (fun _ _ _ h => h) (.inl ⟨by kernel_rfl, fun w' hS => by first | (go_simp; done) | (go_simp; simp [*]; done)⟩) hS ?_
          try simp only [List.getElem_toArray, List.getElem_cons_succ, List.getElem_cons_zero, Act.put, List.setIfInBounds_toArray, List.set_cons_zero, List.set_cons_succ]
          refine wpAnyH_take (i := 25) (v := .int .i64 (i : Int)) rfl (by kernel_rfl) (by kernel_rfl) (by kernel_rfl) (fun _ _ _ h => h) (.inl ⟨by kernel_rfl, fun w' hS => by first | (go_simp; done) | (go_simp; simp [*]; done)⟩) hS ?_
          try simp only [List.getElem_toArray, List.getElem_cons_succ, List.getElem_cons_zero, Act.put, List.setIfInBounds_toArray, List.set_cons_zero, List.set_cons_succ]
          refine wpAnyH_take (i := 26) (v := .int .i64 ((i : Int) - 1)) rfl (by kernel_rfl) (by kernel_rfl) (by kernel_rfl) (fun _ _ _ h => h) (.inl ⟨by kernel_rfl, fun w' hS => by first | (go_simp; done) | (go_simp; simp [*]; done)⟩) hS ?_
          try simp only [List.getElem_toArray, List.getElem_cons_succ, List.getElem_cons_zero, Act.put, List.setIfInBounds_toArray, List.set_cons_zero, List.set_cons_succ]
          refine wpAnyH_take (i := 27) (v := .pointer (some (ad.add ((i - 1) * 3)))) rfl (by kernel_rfl) (by kernel_rfl) (by kernel_rfl) (fun _ _ _ h => h) (.inl ⟨by kernel_rfl, fun w' hS => by first | (go_simp; done) | (go_simp; simp [*]; done)⟩) hS ?_
          try simp only [List.getElem_toArray, List.getElem_cons_succ, List.getElem_cons_zero, Act.put, List.setIfInBounds_toArray, List.set_cons_zero, List.set_cons_succ]
          refine wpAnyH_take (i := 28) (v := .pointer (some ⟨(ad.add ((i - 1) * 3)).block, (ad.add ((i - 1) * 3)).off + 1, none⟩)) rfl (by kernel_rfl) (by kernel_rfl) (by kernel_rfl) (fun _ _ _ h => h) (.inl ⟨by kernel_rfl, fun w' hS => by first | (go_simp; done) | (go_simp; simp [*]; done)⟩) hS ?_
          try simp only [List.getElem_toArray, List.getElem_cons_succ, List.getElem_cons_zero, Act.put, List.setIfInBounds_toArray, List.set_cons_zero, List.set_cons_succ]
          refine wpAnyH_take (i := 29) (v := .int .i64 u) rfl (by kernel_rfl) (by kernel_rfl) (by kernel_rfl) (fun _ _ _ h => h) (.inl ⟨by kernel_rfl, fun w' hS => by have q_ := (hS.cell (World.block_lt_of_cell? W _ hy1)).trans hy1; first | (go_simp; done) | (go_simp; simp [*]; done)⟩) hS ?_
          try simp only [List.getElem_toArray, List.getElem_cons_succ, List.getElem_cons_zero, Act.put, List.setIfInBounds_toArray, List.set_cons_zero, List.set_cons_succ]
          refine wpAnyH_take (i := 30) (v := .pointer (some ⟨wr.heap.size, 0, none⟩)) rfl (by kernel_rfl) (by kernel_rfl) (by kernel_rfl) (fun _ _ _ h => h) (.inl ⟨by kernel_rfl, fun w' hS => by first | (go_simp; done) | (go_simp; simp [*]; done)⟩) hS ?_
          try simp only [List.getElem_toArray, List.getElem_cons_succ, List.getElem_cons_zero, Act.put, List.setIfInBounds_toArray, List.set_cons_zero, List.set_cons_succ]
          refine wpAnyH_take (i := 31) (v := .int .i64 q.f0) rfl (by kernel_rfl) (by kernel_rfl) (by kernel_rfl) (fun _ _ _ h => h) (.inl ⟨by kernel_rfl, fun w' hS => by have q_ := (hS.cell (World.block_lt_of_cell? W _ hz0)).trans hz0; first | (go_simp; done) | (go_simp; simp [*]; done)⟩) hS ?_
          try simp only [List.getElem_toArray, List.getElem_cons_succ, List.getElem_cons_zero, Act.put, List.setIfInBounds_toArray, List.set_cons_zero, List.set_cons_succ]
          refine wpAnyH_take (i := 32) (v := .bool false) rfl (by kernel_rfl) (by kernel_rfl) (by kernel_rfl) (fun _ _ _ h => h) (.inl ⟨by kernel_rfl, fun w' hS => by first | (go_simp; done) | (go_simp; simp [*]; done)⟩) hS ?_
          try simp only [List.getElem_toArray, List.getElem_cons_succ, List.getElem_cons_zero, Act.put, List.setIfInBounds_toArray, List.set_cons_zero, List.set_cons_succ]
          refine wpAnyH_take (i := 33) (v := .bool false) rfl (by kernel_rfl) (by kernel_rfl) (by kernel_rfl) (fun _ _ _ h => h) (.inl ⟨by kernel_rfl, fun w' hS => by first | (go_simp; done) | (go_simp; simp [*]; done)⟩) hS ?_
          try simp only [List.getElem_toArray, List.getElem_cons_succ, List.getElem_cons_zero, Act.put, List.setIfInBounds_toArray, List.set_cons_zero, List.set_cons_succ]
          refine wpAnyH_take (i := 34) (v := .bool false) rfl (by kernel_rfl) (by kernel_rfl) (by kernel_rfl) (fun _ _ _ h => h) (.inl ⟨by kernel_rfl, fun w' hS => by first | (go_simp; done) | (go_simp; simp [*]; done)⟩) hS ?_
          try simp only [List.getElem_toArray, List.getElem_cons_succ, List.getElem_cons_zero, Act.put, List.setIfInBounds_toArray, List.set_cons_zero, List.set_cons_succ]
          refine wpAnyH_take (i := 35) (v := .bool false) rfl (by kernel_rfl) (by kernel_rfl) (by kernel_rfl) (fun _ _ _ h => h) (.inl ⟨by kernel_rfl, fun w' hS => by first | (go_simp; done) | (go_simp; simp [*]; done)⟩) hS ?_
          try simp only [List.getElem_toArray, List.getElem_cons_succ, List.getElem_cons_zero, Act.put, List.setIfInBounds_toArray, List.set_cons_zero, List.set_cons_succ]
          refine wpAnyH_take (i := 36) (v := .pointer (some ⟨g, 0, none⟩)) rfl (by kernel_rfl) (by kernel_rfl) (by kernel_rfl) (fun _ _ _ h => h) (.inl ⟨by kernel_rfl, fun w' hS => by first | (go_simp; done) | (go_simp; simp [*]; done)⟩) hS ?_
          try simp only [List.getElem_toArray, List.getElem_cons_succ, List.getElem_cons_zero, Act.put, List.setIfInBounds_toArray, List.set_cons_zero, List.set_cons_succ]
          refine wpAnyH_take (i := 37) (v := .pointer (some ⟨wr.heap.size, 0, none⟩)) rfl (by kernel_rfl) (by kernel_rfl) (by kernel_rfl) (fun _ _ _ h => h) (.inl ⟨by kernel_rfl, fun w' hS => by first | (go_simp; done) | (go_simp; simp [*]; done)⟩) hS ?_
          try simp only [List.getElem_toArray, List.getElem_cons_succ, List.getElem_cons_zero, Act.put, List.setIfInBounds_toArray, List.set_cons_zero, List.set_cons_succ]
          refine wpAnyH_take (i := 38) (v := .int .i64 q.f0) rfl (by kernel_rfl) (by kernel_rfl) (by kernel_rfl) (fun _ _ _ h => h) (.inl ⟨by kernel_rfl, fun w' hS => by have q_ := (hS.cell (World.block_lt_of_cell? W _ hz0)).trans hz0; first | (go_simp; done) | (go_simp; simp [*]; done)⟩) hS ?_
          try simp only [List.getElem_toArray, List.getElem_cons_succ, List.getElem_cons_zero, Act.put, List.setIfInBounds_toArray, List.set_cons_zero, List.set_cons_succ]
          refine wpAnyH_take (i := 39) (v := .pointer (some ⟨wr.heap.size, 2, none⟩)) rfl (by kernel_rfl) (by kernel_rfl) (by kernel_rfl) (fun _ _ _ h => h) (.inl ⟨by kernel_rfl, fun w' hS => by first | (go_simp; done) | (go_simp; simp [*]; done)⟩) hS ?_
          try simp only [List.getElem_toArray, List.getElem_cons_succ, List.getElem_cons_zero, Act.put, List.setIfInBounds_toArray, List.set_cons_zero, List.set_cons_succ]
          refine wpAnyH_take (i := 40) (v := .string q.f2) rfl (by kernel_rfl) (by kernel_rfl) (by kernel_rfl) (fun _ _ _ h => h) (.inl ⟨by kernel_rfl, fun w' hS => by have q_ := (hS.cell (World.block_lt_of_cell? W _ hz2)).trans hz2; first | (go_simp; done) | (go_simp; simp [*]; done)⟩) hS ?_
          try simp only [List.getElem_toArray, List.getElem_cons_succ, List.getElem_cons_zero, Act.put, List.setIfInBounds_toArray, List.set_cons_zero, List.set_cons_succ]
          refine wpAnyH_ready (rs := [41]) (by kernel_rfl) (by simp) (AllReadyH.cons rfl (fun K' hK => ?_) AllReadyH.nil)
          rw [if_pos (by kernel_rfl)]
          go_simp
          go_at_call 39
          (with_reducible refine (has_calls' (some ⟨g, 0, none⟩) L q.f0 q.f2 true _ HA1.out (HTW.out.below hS) HLL.out HOK.out).mono ?_)
          rintro e w5 ⟨rfl, hb⟩
          have hS' := hS.trans (hb.mono hS.size)
          refine hK.out _ _ hS' (fun _ => ?_)
          clear hK hS hb
          have hS := hS'
          clear hS'
          try simp only [List.getElem_toArray, List.getElem_cons_succ, List.getElem_cons_zero, Act.put, List.setIfInBounds_toArray, List.set_cons_zero, List.set_cons_succ]
          refine wpAnyH_take (i := 42) (v := .bool false) rfl (by kernel_rfl) (by kernel_rfl) (by kernel_rfl) (fun _ _ _ h => h) (.inl ⟨by kernel_rfl, fun w' hS => by first | (go_simp; done) | (go_simp; simp [*]; done)⟩) hS ?_
          try simp only [List.getElem_toArray, List.getElem_cons_succ, List.getElem_cons_zero, Act.put, List.setIfInBounds_toArray, List.set_cons_zero, List.set_cons_succ]
          refine wpAnyH_take (i := 43) (v := .bool false) rfl (by kernel_rfl) (by kernel_rfl) (by kernel_rfl) (fun _ _ _ h => h) (.inl ⟨by kernel_rfl, fun w' hS => by first | (go_simp; done) | (go_simp; simp [*]; done)⟩) hS ?_
          try simp only [List.getElem_toArray, List.getElem_cons_succ, List.getElem_cons_zero, Act.put, List.setIfInBounds_toArray, List.set_cons_zero, List.set_cons_succ]
          refine wpAnyH_take (i := 44) (v := .bool false) rfl (by kernel_rfl) (by kernel_rfl) (by kernel_rfl) (fun _ _ _ h => h) (.inl ⟨by kernel_rfl, fun w' hS => by first | (go_simp; done) | (go_simp; simp [*]; done)⟩) hS ?_
          try simp only [List.getElem_toArray, List.getElem_cons_succ, List.getElem_cons_zero, Act.put, List.setIfInBounds_toArray, List.set_cons_zero, List.set_cons_succ]
          refine wpAnyH_take (i := 45) (v := .pointer (some ⟨g, 0, none⟩)) rfl (by kernel_rfl) (by kernel_rfl) (by kernel_rfl) (fun _ _ _ h => h) (.inl ⟨by kernel_rfl, fun w' hS => by first | (go_simp; done) | (go_simp; simp [*]; done)⟩) hS ?_
          try simp only [List.getElem_toArray, List.getElem_cons_succ, List.getElem_cons_zero, Act.put, List.setIfInBounds_toArray, List.set_cons_zero, List.set_cons_succ]
          refine wpAnyH_take (i := 46) (v := .pointer (some ⟨wr.heap.size, 1, none⟩)) rfl (by kernel_rfl) (by kernel_rfl) (by kernel_rfl) (fun _ _ _ h => h) (.inl ⟨by kernel_rfl, fun w' hS => by first | (go_simp; done) | (go_simp; simp [*]; done)⟩) hS ?_
          try simp only [List.getElem_toArray, List.getElem_cons_succ, List.getElem_cons_zero, Act.put, List.setIfInBounds_toArray, List.set_cons_zero, List.set_cons_succ]
          refine wpAnyH_take (i := 47) (v := .int .i64 q.f1) rfl (by kernel_rfl) (by kernel_rfl) (by kernel_rfl) (fun _ _ _ h => h) (.inl ⟨by kernel_rfl, fun w' hS => by have q_ := (hS.cell (World.block_lt_of_cell? W _ hz1)).trans hz1; first | (go_simp; done) | (go_simp; simp [*]; done)⟩) hS ?_
          try simp only [List.getElem_toArray, List.getElem_cons_succ, List.getElem_cons_zero, Act.put, List.setIfInBounds_toArray, List.set_cons_zero, List.set_cons_succ]
          refine wpAnyH_take (i := 48) (v := .pointer (some ⟨wr.heap.size, 2, none⟩)) rfl (by kernel_rfl) (by kernel_rfl) (by kernel_rfl) (fun _ _ _ h => h) (.inl ⟨by kernel_rfl, fun w' hS => by first | (go_simp; done) | (go_simp; simp [*]; done)⟩) hS ?_
          try simp only [List.getElem_toArray, List.getElem_cons_succ, List.getElem_cons_zero, Act.put, List.setIfInBounds_toArray, List.set_cons_zero, List.set_cons_succ]
          refine wpAnyH_take (i := 49) (v := .string q.f2) rfl (by kernel_rfl) (by kernel_rfl) (by kernel_rfl) (fun _ _ _ h => h) (.inl ⟨by kernel_rfl, fun w' hS => by have q_ := (hS.cell (World.block_lt_of_cell? W _ hz2)).trans hz2; first | (go_simp; done) | (go_simp; simp [*]; done)⟩) hS ?_
          try simp only [List.getElem_toArray, List.getElem_cons_succ, List.getElem_cons_zero, Act.put, List.setIfInBounds_toArray, List.set_cons_zero, List.set_cons_succ]
          refine wpAnyH_ready (rs := [50]) (by kernel_rfl) (by simp) (AllReadyH.cons rfl (fun K' hK => ?_) AllReadyH.nil)
          rw [if_pos (by kernel_rfl)]
          go_simp
          go_at_call 39
          (with_reducible refine (has_calls' (some ⟨g, 0, none⟩) L q.f1 q.f2 true _ HA2.out (HTW.out.below hS) HLL.out HOK.out).mono ?_)
          rintro e w6 ⟨rfl, hb⟩
          have hS' := hS.trans (hb.mono hS.size)
          refine hK.out _ _ hS' (fun _ => ?_)
          clear hK hS hb
          have hS := hS'
          clear hS'
          try simp only [List.getElem_toArray, List.getElem_cons_succ, List.getElem_cons_zero, Act.put, List.setIfInBounds_toArray, List.set_cons_zero, List.set_cons_succ]
          refine wpAnyH_take (i := 51) (v := .bool false) rfl (by kernel_rfl) (by kernel_rfl) (by kernel_rfl) (fun _ _ _ h => h) (.inl ⟨by kernel_rfl, fun w' hS => by first | (go_simp; done) | (go_simp; simp [*]; done)⟩) hS ?_
          try simp only [List.getElem_toArray, List.getElem_cons_succ, List.getElem_cons_zero, Act.put, List.setIfInBounds_toArray, List.set_cons_zero, List.set_cons_succ]
          refine wpAnyH_take (i := 52) (v := .bool false) rfl (by kernel_rfl) (by kernel_rfl) (by kernel_rfl) (fun _ _ _ h => h) (.inl ⟨by kernel_rfl, fun w' hS => by first | (go_simp; done) | (go_simp; simp [*]; done)⟩) hS ?_
          try simp only [List.getElem_toArray, List.getElem_cons_succ, List.getElem_cons_zero, Act.put, List.setIfInBounds_toArray, List.set_cons_zero, List.set_cons_succ]
          refine wpAnyH_done (by kernel_rfl) ?_ _
          refine NoPanic.normal ?_
          have HBF := Aside0.mk (HBW1.out.trans (hS.mono HBW1.out.size))
          clear hS hz0 hz1 hz2
          go_wp2
          go_roundg kq
          case measure => omega
          case rel =>
            have := HI.out
            have := of_decide_eq_true e9
            exact ⟨i + 1, by first | rfl | go_num, ⟨by omega, by omega⟩, ⟨HBF.out⟩⟩
        · have d5 : decide (0 < (i : Int)) = false := decide_eq_false (by omega)
          have d6 : decide (0 < i) = false := decide_eq_false h0
          clear h0 hbW1 hs
          have hS : Below W.heap.size W W.drew := (Below.refl _ W).drew
          refine wp_region_noPanic ?_
          refine wp_region_held (S := fun w' => Below W.heap.size W w') (by kernel_rfl) ?_
          show wpAnyH _ _ _ _ _ _ _ _ W.drew
          refine wpAnyH_take (i := 0) (v := .pointer (some ⟨wr.heap.size, 0, none⟩)) rfl (by kernel_rfl) (by kernel_rfl) (by kernel_rfl) (fun _ _ _ h => h) (.inl ⟨by kernel_rfl, fun w' hS => by first | (go_simp; done) | (go_simp; simp [*]; done)⟩) hS ?_
          try simp only [List.getElem_toArray, List.getElem_cons_succ, List.getElem_cons_zero, Act.put, List.setIfInBounds_toArray, List.set_cons_zero, List.set_cons_succ]
          refine wpAnyH_take (i := 1) (v := .int .i64 q.f0) rfl (by kernel_rfl) (by kernel_rfl) (by kernel_rfl) (fun _ _ _ h => h) (.inl ⟨by kernel_rfl, fun w' hS => by have q_ := (hS.cell (World.block_lt_of_cell? W _ hz0)).trans hz0; first | (go_simp; done) | (go_simp; simp [*]; done)⟩) hS ?_
          try simp only [List.getElem_toArray, List.getElem_cons_succ, List.getElem_cons_zero, Act.put, List.setIfInBounds_toArray, List.set_cons_zero, List.set_cons_succ]
          refine wpAnyH_take (i := 2) (v := .bool false) rfl (by kernel_rfl) (by kernel_rfl) (by kernel_rfl) (fun _ _ _ h => h) (.inl ⟨by kernel_rfl, fun w' hS => by first | (go_simp; done) | (go_simp; simp [*]; done)⟩) hS ?_
          try simp only [List.getElem_toArray, List.getElem_cons_succ, List.getElem_cons_zero, Act.put, List.setIfInBounds_toArray, List.set_cons_zero, List.set_cons_succ]
          refine wpAnyH_take (i := 3) (v := .bool false) rfl (by kernel_rfl) (by kernel_rfl) (by kernel_rfl) (fun _ _ _ h => h) (.inl ⟨by kernel_rfl, fun w' hS => by first | (go_simp; done) | (go_simp; simp [*]; done)⟩) hS ?_
          try simp only [List.getElem_toArray, List.getElem_cons_succ, List.getElem_cons_zero, Act.put, List.setIfInBounds_toArray, List.set_cons_zero, List.set_cons_succ]
          refine wpAnyH_take (i := 4) (v := .pointer (some ⟨wr.heap.size, 1, none⟩)) rfl (by kernel_rfl) (by kernel_rfl) (by kernel_rfl) (fun _ _ _ h => h) (.inl ⟨by kernel_rfl, fun w' hS => by first | (go_simp; done) | (go_simp; simp [*]; done)⟩) hS ?_
          try simp only [List.getElem_toArray, List.getElem_cons_succ, List.getElem_cons_zero, Act.put, List.setIfInBounds_toArray, List.set_cons_zero, List.set_cons_succ]
          refine wpAnyH_take (i := 5) (v := .int .i64 q.f1) rfl (by kernel_rfl) (by kernel_rfl) (by kernel_rfl) (fun _ _ _ h => h) (.inl ⟨by kernel_rfl, fun w' hS => by have q_ := (hS.cell (World.block_lt_of_cell? W _ hz1)).trans hz1; first | (go_simp; done) | (go_simp; simp [*]; done)⟩) hS ?_
          try simp only [List.getElem_toArray, List.getElem_cons_succ, List.getElem_cons_zero, Act.put, List.setIfInBounds_toArray, List.set_cons_zero, List.set_cons_succ]
          refine wpAnyH_take (i := 6) (v := .bool false) rfl (by kernel_rfl) (by kernel_rfl) (by kernel_rfl) (fun _ _ _ h => h) (.inl ⟨by kernel_rfl, fun w' hS => by first | (go_simp; done) | (go_simp; simp [*]; done)⟩) hS ?_
          try simp only [List.getElem_toArray, List.getElem_cons_succ, List.getElem_cons_zero, Act.put, List.setIfInBounds_toArray, List.set_cons_zero, List.set_cons_succ]
          refine wpAnyH_take (i := 7) (v := .bool false) rfl (by kernel_rfl) (by kernel_rfl) (by kernel_rfl) (fun _ _ _ h => h) (.inl ⟨by kernel_rfl, fun w' hS => by first | (go_simp; done) | (go_simp; simp [*]; done)⟩) hS ?_
          try simp only [List.getElem_toArray, List.getElem_cons_succ, List.getElem_cons_zero, Act.put, List.setIfInBounds_toArray, List.set_cons_zero, List.set_cons_succ]
          refine wpAnyH_take (i := 8) (v := .bool false) rfl (by kernel_rfl) (by kernel_rfl) (by kernel_rfl) (fun _ _ _ h => h) (.inl ⟨by kernel_rfl, fun w' hS => by first | (go_simp; done) | (go_simp; simp [*]; done)⟩) hS ?_
          try simp only [List.getElem_toArray, List.getElem_cons_succ, List.getElem_cons_zero, Act.put, List.setIfInBounds_toArray, List.set_cons_zero, List.set_cons_succ]
          refine wpAnyH_take (i := 9) (v := .pointer (some ⟨wr.heap.size, 1, none⟩)) rfl (by kernel_rfl) (by kernel_rfl) (by kernel_rfl) (fun _ _ _ h => h) (.inl ⟨by kernel_rfl, fun w' hS => by first | (go_simp; done) | (go_simp; simp [*]; done)⟩) hS ?_
          try simp only [List.getElem_toArray, List.getElem_cons_succ, List.getElem_cons_zero, Act.put, List.setIfInBounds_toArray, List.set_cons_zero, List.set_cons_succ]
          refine wpAnyH_take (i := 10) (v := .int .i64 q.f1) rfl (by kernel_rfl) (by kernel_rfl) (by kernel_rfl) (fun _ _ _ h => h) (.inl ⟨by kernel_rfl, fun w' hS => by have q_ := (hS.cell (World.block_lt_of_cell? W _ hz1)).trans hz1; first | (go_simp; done) | (go_simp; simp [*]; done)⟩) hS ?_
          try simp only [List.getElem_toArray, List.getElem_cons_succ, List.getElem_cons_zero, Act.put, List.setIfInBounds_toArray, List.set_cons_zero, List.set_cons_succ]
          refine wpAnyH_take (i := 11) (v := .pointer (some ⟨wr.heap.size, 0, none⟩)) rfl (by kernel_rfl) (by kernel_rfl) (by kernel_rfl) (fun _ _ _ h => h) (.inl ⟨by kernel_rfl, fun w' hS => by first | (go_simp; done) | (go_simp; simp [*]; done)⟩) hS ?_
          try simp only [List.getElem_toArray, List.getElem_cons_succ, List.getElem_cons_zero, Act.put, List.setIfInBounds_toArray, List.set_cons_zero, List.set_cons_succ]
          refine wpAnyH_take (i := 12) (v := .int .i64 q.f0) rfl (by kernel_rfl) (by kernel_rfl) (by kernel_rfl) (fun _ _ _ h => h) (.inl ⟨by kernel_rfl, fun w' hS => by have q_ := (hS.cell (World.block_lt_of_cell? W _ hz0)).trans hz0; first | (go_simp; done) | (go_simp; simp [*]; done)⟩) hS ?_
          try simp only [List.getElem_toArray, List.getElem_cons_succ, List.getElem_cons_zero, Act.put, List.setIfInBounds_toArray, List.set_cons_zero, List.set_cons_succ]
          refine wpAnyH_take (i := 13) (v := .bool false) rfl (by kernel_rfl) (by kernel_rfl) (by kernel_rfl) (fun _ _ _ h => h) (.inl ⟨by kernel_rfl, fun w' hS => by first | (go_simp; done) | (go_simp; simp [*]; done)⟩) hS ?_
          try simp only [List.getElem_toArray, List.getElem_cons_succ, List.getElem_cons_zero, Act.put, List.setIfInBounds_toArray, List.set_cons_zero, List.set_cons_succ]
          refine wpAnyH_take (i := 14) (v := .bool false) rfl (by kernel_rfl) (by kernel_rfl) (by kernel_rfl) (fun _ _ _ h => h) (.inl ⟨by kernel_rfl, fun w' hS => by first | (go_simp; done) | (go_simp; simp [*]; done)⟩) hS ?_
          try simp only [List.getElem_toArray, List.getElem_cons_succ, List.getElem_cons_zero, Act.put, List.setIfInBounds_toArray, List.set_cons_zero, List.set_cons_succ]
          refine wpAnyH_take (i := 15) (v := .bool false) rfl (by kernel_rfl) (by kernel_rfl) (by kernel_rfl) (fun _ _ _ h => h) (.inl ⟨by kernel_rfl, fun w' hS => by first | (go_simp; done) | (go_simp; simp [*]; done)⟩) hS ?_
          try simp only [List.getElem_toArray, List.getElem_cons_succ, List.getElem_cons_zero, Act.put, List.setIfInBounds_toArray, List.set_cons_zero, List.set_cons_succ]
          refine wpAnyH_take (i := 16) (v := .pointer (some ⟨wr.heap.size, 2, none⟩)) rfl (by kernel_rfl) (by kernel_rfl) (by kernel_rfl) (fun _ _ _ h => h) (.inl ⟨by kernel_rfl, fun w' hS => by first | (go_simp; done) | (go_simp; simp [*]; done)⟩) hS ?_
          try simp only [List.getElem_toArray, List.getElem_cons_succ, List.getElem_cons_zero, Act.put, List.setIfInBounds_toArray, List.set_cons_zero, List.set_cons_succ]
          refine wpAnyH_take (i := 17) (v := .string q.f2) rfl (by kernel_rfl) (by kernel_rfl) (by kernel_rfl) (fun _ _ _ h => h) (.inl ⟨by kernel_rfl, fun w' hS => by have q_ := (hS.cell (World.block_lt_of_cell? W _ hz2)).trans hz2; first | (go_simp; done) | (go_simp; simp [*]; done)⟩) hS ?_
          try simp only [List.getElem_toArray, List.getElem_cons_succ, List.getElem_cons_zero, Act.put, List.setIfInBounds_toArray, List.set_cons_zero, List.set_cons_succ]
          refine wpAnyH_take (i := 18) (v := .bool false) rfl (by kernel_rfl) (by kernel_rfl) (by kernel_rfl) (fun _ _ _ h => h) (.inl ⟨by kernel_rfl, fun w' hS => by first | (go_simp; done) | (go_simp; simp [*]; done)⟩) hS ?_
          try simp only [List.getElem_toArray, List.getElem_cons_succ, List.getElem_cons_zero, Act.put, List.setIfInBounds_toArray, List.set_cons_zero, List.set_cons_succ]
          refine wpAnyH_take (i := 19) (v := .bool false) rfl (by kernel_rfl) (by kernel_rfl) (by kernel_rfl) (fun _ _ _ h => h) (.inl ⟨by kernel_rfl, fun w' hS => by first | (go_simp; done) | (go_simp; simp [*]; done)⟩) hS ?_
          try simp only [List.getElem_toArray, List.getElem_cons_succ, List.getElem_cons_zero, Act.put, List.setIfInBounds_toArray, List.set_cons_zero, List.set_cons_succ]
          refine wpAnyH_take (i := 20) (v := .bool false) rfl (by kernel_rfl) (by kernel_rfl) (by kernel_rfl) (fun _ _ _ h => h) (.inl ⟨by kernel_rfl, fun w' hS => by first | (go_simp; done) | (go_simp; simp [*]; done)⟩) hS ?_
          try simp only [List.getElem_toArray, List.getElem_cons_succ, List.getElem_cons_zero, Act.put, List.setIfInBounds_toArray, List.set_cons_zero, List.set_cons_succ]
          refine wpAnyH_take (i := 21) (v := .int .i64 (i : Int)) rfl (by kernel_rfl) (by kernel_rfl) (by kernel_rfl) (fun _ _ _ h => h) (.inl ⟨by kernel_rfl, fun w' hS => by first | (go_simp; done) | (go_simp; simp [*]; done)⟩) hS ?_
          try simp only [List.getElem_toArray, List.getElem_cons_succ, List.getElem_cons_zero, Act.put, List.setIfInBounds_toArray, List.set_cons_zero, List.set_cons_succ]
          refine wpAnyH_take (i := 22) (v := .bool false) rfl (by kernel_rfl) (by kernel_rfl) (by kernel_rfl) (fun _ _ _ h => h) (.inl ⟨by kernel_rfl, fun w' hS => by first | (go_simp; done) | (go_simp; simp [*]; done)⟩) hS ?_
          try simp only [List.getElem_toArray, List.getElem_cons_succ, List.getElem_cons_zero, Act.put, List.setIfInBounds_toArray, List.set_cons_zero, List.set_cons_succ]
          refine wpAnyH_take (i := 23) (v := .bool false) rfl (by kernel_rfl) (by kernel_rfl) (by kernel_rfl) (fun _ _ _ h => h) (.inl ⟨by kernel_rfl, fun w' hS => by first | (go_simp; done) | (go_simp; simp [*]; done)⟩) hS ?_
          try simp only [List.getElem_toArray, List.getElem_cons_succ, List.getElem_cons_zero, Act.put, List.setIfInBounds_toArray, List.set_cons_zero, List.set_cons_succ]
          refine wpAnyH_take (i := 24) (v := undef) rfl (by kernel_rfl) (by kernel_rfl) (by kernel_rfl) (fun _ _ _ h => h) (.inr ⟨by kernel_rfl, rfl⟩) hS ?_
          try simp only [List.getElem_toArray, List.getElem_cons_succ, List.getElem_cons_zero, Act.put, List.setIfInBounds_toArray, List.set_cons_zero, List.set_cons_succ]
          refine wpAnyH_take (i := 25) (v := undef) rfl (by kernel_rfl) (by kernel_rfl) (by kernel_rfl) (fun _ _ _ h => h) (.inr ⟨by kernel_rfl, rfl⟩) hS ?_
          try simp only [List.getElem_toArray, List.getElem_cons_succ, List.getElem_cons_zero, Act.put, List.setIfInBounds_toArray, List.set_cons_zero, List.set_cons_succ]
          refine wpAnyH_take (i := 26) (v := undef) rfl (by kernel_rfl) (by kernel_rfl) (by kernel_rfl) (fun _ _ _ h => h) (.inr ⟨by kernel_rfl, rfl⟩) hS ?_
          try simp only [List.getElem_toArray, List.getElem_cons_succ, List.getElem_cons_zero, Act.put, List.setIfInBounds_toArray, List.set_cons_zero, List.set_cons_succ]
          refine wpAnyH_take (i := 27) (v := undef) rfl (by kernel_rfl) (by kernel_rfl) (by kernel_rfl) (fun _ _ _ h => h) (.inr ⟨by kernel_rfl, rfl⟩) hS ?_
          try simp only [List.getElem_toArray, List.getElem_cons_succ, List.getElem_cons_zero, Act.put, List.setIfInBounds_toArray, List.set_cons_zero, List.set_cons_succ]
          refine wpAnyH_take (i := 28) (v := undef) rfl (by kernel_rfl) (by kernel_rfl) (by kernel_rfl) (fun _ _ _ h => h) (.inr ⟨by kernel_rfl, rfl⟩) hS ?_
          try simp only [List.getElem_toArray, List.getElem_cons_succ, List.getElem_cons_zero, Act.put, List.setIfInBounds_toArray, List.set_cons_zero, List.set_cons_succ]
          refine wpAnyH_take (i := 29) (v := undef) rfl (by kernel_rfl) (by kernel_rfl) (by kernel_rfl) (fun _ _ _ h => h) (.inr ⟨by kernel_rfl, rfl⟩) hS ?_
          try simp only [List.getElem_toArray, List.getElem_cons_succ, List.getElem_cons_zero, Act.put, List.setIfInBounds_toArray, List.set_cons_zero, List.set_cons_succ]
          refine wpAnyH_take (i := 30) (v := undef) rfl (by kernel_rfl) (by kernel_rfl) (by kernel_rfl) (fun _ _ _ h => h) (.inr ⟨by kernel_rfl, rfl⟩) hS ?_
          try simp only [List.getElem_toArray, List.getElem_cons_succ, List.getElem_cons_zero, Act.put, List.setIfInBounds_toArray, List.set_cons_zero, List.set_cons_succ]
          refine wpAnyH_take (i := 31) (v := undef) rfl (by kernel_rfl) (by kernel_rfl) (by kernel_rfl) (fun _ _ _ h => h) (.inr ⟨by kernel_rfl, rfl⟩) hS ?_
          try simp only [List.getElem_toArray, List.getElem_cons_succ, List.getElem_cons_zero, Act.put, List.setIfInBounds_toArray, List.set_cons_zero, List.set_cons_succ]
          refine wpAnyH_take (i := 32) (v := undef) rfl (by kernel_rfl) (by kernel_rfl) (by kernel_rfl) (fun _ _ _ h => h) (.inr ⟨by kernel_rfl, rfl⟩) hS ?_
          try simp only [List.getElem_toArray, List.getElem_cons_succ, List.getElem_cons_zero, Act.put, List.setIfInBounds_toArray, List.set_cons_zero, List.set_cons_succ]
          refine wpAnyH_take (i := 33) (v := .bool false) rfl (by kernel_rfl) (by kernel_rfl) (by kernel_rfl) (fun _ _ _ h => h) (.inl ⟨by kernel_rfl, fun w' hS => by first | (go_simp; done) | (go_simp; simp [*]; done)⟩) hS ?_
          try simp only [List.getElem_toArray, List.getElem_cons_succ, List.getElem_cons_zero, Act.put, List.setIfInBounds_toArray, List.set_cons_zero, List.set_cons_succ]
          refine wpAnyH_take (i := 34) (v := .bool false) rfl (by kernel_rfl) (by kernel_rfl) (by kernel_rfl) (fun _ _ _ h => h) (.inl ⟨by kernel_rfl, fun w' hS => by first | (go_simp; done) | (go_simp; simp [*]; done)⟩) hS ?_
          try simp only [List.getElem_toArray, List.getElem_cons_succ, List.getElem_cons_zero, Act.put, List.setIfInBounds_toArray, List.set_cons_zero, List.set_cons_succ]
          refine wpAnyH_take (i := 35) (v := .bool false) rfl (by kernel_rfl) (by kernel_rfl) (by kernel_rfl) (fun _ _ _ h => h) (.inl ⟨by kernel_rfl, fun w' hS => by first | (go_simp; done) | (go_simp; simp [*]; done)⟩) hS ?_
          try simp only [List.getElem_toArray, List.getElem_cons_succ, List.getElem_cons_zero, Act.put, List.setIfInBounds_toArray, List.set_cons_zero, List.set_cons_succ]
          refine wpAnyH_take (i := 36) (v := .pointer (some ⟨g, 0, none⟩)) rfl (by kernel_rfl) (by kernel_rfl) (by kernel_rfl) (fun _ _ _ h => h) (.inl ⟨by kernel_rfl, fun w' hS => by first | (go_simp; done) | (go_simp; simp [*]; done)⟩) hS ?_
          try simp only [List.getElem_toArray, List.getElem_cons_succ, List.getElem_cons_zero, Act.put, List.setIfInBounds_toArray, List.set_cons_zero, List.set_cons_succ]
          refine wpAnyH_take (i := 37) (v := .pointer (some ⟨wr.heap.size, 0, none⟩)) rfl (by kernel_rfl) (by kernel_rfl) (by kernel_rfl) (fun _ _ _ h => h) (.inl ⟨by kernel_rfl, fun w' hS => by first | (go_simp; done) | (go_simp; simp [*]; done)⟩) hS ?_
          try simp only [List.getElem_toArray, List.getElem_cons_succ, List.getElem_cons_zero, Act.put, List.setIfInBounds_toArray, List.set_cons_zero, List.set_cons_succ]
          refine wpAnyH_take (i := 38) (v := .int .i64 q.f0) rfl (by kernel_rfl) (by kernel_rfl) (by kernel_rfl) (fun _ _ _ h => h) (.inl ⟨by kernel_rfl, fun w' hS => by have q_ := (hS.cell (World.block_lt_of_cell? W _ hz0)).trans hz0; first | (go_simp; done) | (go_simp; simp [*]; done)⟩) hS ?_
          try simp only [List.getElem_toArray, List.getElem_cons_succ, List.getElem_cons_zero, Act.put, List.setIfInBounds_toArray, List.set_cons_zero, List.set_cons_succ]
          refine wpAnyH_take (i := 39) (v := .pointer (some ⟨wr.heap.size, 2, none⟩)) rfl (by kernel_rfl) (by kernel_rfl) (by kernel_rfl) (fun _ _ _ h => h) (.inl ⟨by kernel_rfl, fun w' hS => by first | (go_simp; done) | (go_simp; simp [*]; done)⟩) hS ?_
          try simp only [List.getElem_toArray, List.getElem_cons_succ, List.getElem_cons_zero, Act.put, List.setIfInBounds_toArray, List.set_cons_zero, List.set_cons_succ]
          refine wpAnyH_take (i := 40) (v := .string q.f2) rfl (by kernel_rfl) (by kernel_rfl) (by kernel_rfl) (fun _ _ _ h => h) (.inl ⟨by kernel_rfl, fun w' hS => by have q_ := (hS.cell (World.block_lt_of_cell? W _ hz2)).trans hz2; first | (go_simp; done) | (go_simp; simp [*]; done)⟩) hS ?_
          try simp only [List.getElem_toArray, List.getElem_cons_succ, List.getElem_cons_zero, Act.put, List.setIfInBounds_toArray, List.set_cons_zero, List.set_cons_succ]
          refine wpAnyH_ready (rs := [41]) (by kernel_rfl) (by simp) (AllReadyH.cons rfl (fun K' hK => ?_) AllReadyH.nil)
          rw [if_pos (by kernel_rfl)]
          go_simp
          go_at_call 39
          (with_reducible refine (has_calls' (some ⟨g, 0, none⟩) L q.f0 q.f2 true _ HA1.out (HTW.out.below hS) HLL.out HOK.out).mono ?_)
          rintro e w5 ⟨rfl, hb⟩
          have hS' := hS.trans (hb.mono hS.size)
          refine hK.out _ _ hS' (fun _ => ?_)
          clear hK hS hb
          have hS := hS'
          clear hS'
          try simp only [List.getElem_toArray, List.getElem_cons_succ, List.getElem_cons_zero, Act.put, List.setIfInBounds_toArray, List.set_cons_zero, List.set_cons_succ]
          refine wpAnyH_take (i := 42) (v := .bool false) rfl (by kernel_rfl) (by kernel_rfl) (by kernel_rfl) (fun _ _ _ h => h) (.inl ⟨by kernel_rfl, fun w' hS => by first | (go_simp; done) | (go_simp; simp [*]; done)⟩) hS ?_
          try simp only [List.getElem_toArray, List.getElem_cons_succ, List.getElem_cons_zero, Act.put, List.setIfInBounds_toArray, List.set_cons_zero, List.set_cons_succ]
          refine wpAnyH_take (i := 43) (v := .bool false) rfl (by kernel_rfl) (by kernel_rfl) (by kernel_rfl) (fun _ _ _ h => h) (.inl ⟨by kernel_rfl, fun w' hS => by first | (go_simp; done) | (go_simp; simp [*]; done)⟩) hS ?_
          try simp only [List.getElem_toArray, List.getElem_cons_succ, List.getElem_cons_zero, Act.put, List.setIfInBounds_toArray, List.set_cons_zero, List.set_cons_succ]
          refine wpAnyH_take (i := 44) (v := .bool false) rfl (by kernel_rfl) (by kernel_rfl) (by kernel_rfl) (fun _ _ _ h => h) (.inl ⟨by kernel_rfl, fun w' hS => by first | (go_simp; done) | (go_simp; simp [*]; done)⟩) hS ?_
          try simp only [List.getElem_toArray, List.getElem_cons_succ, List.getElem_cons_zero, Act.put, List.setIfInBounds_toArray, List.set_cons_zero, List.set_cons_succ]
          refine wpAnyH_take (i := 45) (v := .pointer (some ⟨g, 0, none⟩)) rfl (by kernel_rfl) (by kernel_rfl) (by kernel_rfl) (fun _ _ _ h => h) (.inl ⟨by kernel_rfl, fun w' hS => by first | (go_simp; done) | (go_simp; simp [*]; done)⟩) hS ?_
          try simp only [List.getElem_toArray, List.getElem_cons_succ, List.getElem_cons_zero, Act.put, List.setIfInBounds_toArray, List.set_cons_zero, List.set_cons_succ]
          refine wpAnyH_take (i := 46) (v := .pointer (some ⟨wr.heap.size, 1, none⟩)) rfl (by kernel_rfl) (by kernel_rfl) (by kernel_rfl) (fun _ _ _ h => h) (.inl ⟨by kernel_rfl, fun w' hS => by first | (go_simp; done) | (go_simp; simp [*]; done)⟩) hS ?_
          try simp only [List.getElem_toArray, List.getElem_cons_succ, List.getElem_cons_zero, Act.put, List.setIfInBounds_toArray, List.set_cons_zero, List.set_cons_succ]
          refine wpAnyH_take (i := 47) (v := .int .i64 q.f1) rfl (by kernel_rfl) (by kernel_rfl) (by kernel_rfl) (fun _ _ _ h => h) (.inl ⟨by kernel_rfl, fun w' hS => by have q_ := (hS.cell (World.block_lt_of_cell? W _ hz1)).trans hz1; first | (go_simp; done) | (go_simp; simp [*]; done)⟩) hS ?_
          try simp only [List.getElem_toArray, List.getElem_cons_succ, List.getElem_cons_zero, Act.put, List.setIfInBounds_toArray, List.set_cons_zero, List.set_cons_succ]
          refine wpAnyH_take (i := 48) (v := .pointer (some ⟨wr.heap.size, 2, none⟩)) rfl (by kernel_rfl) (by kernel_rfl) (by kernel_rfl) (fun _ _ _ h => h) (.inl ⟨by kernel_rfl, fun w' hS => by first | (go_simp; done) | (go_simp; simp [*]; done)⟩) hS ?_
          try simp only [List.getElem_toArray, List.getElem_cons_succ, List.getElem_cons_zero, Act.put, List.setIfInBounds_toArray, List.set_cons_zero, List.set_cons_succ]
          refine wpAnyH_take (i := 49) (v := .string q.f2) rfl (by kernel_rfl) (by kernel_rfl) (by kernel_rfl) (fun _ _ _ h => h) (.inl ⟨by kernel_rfl, fun w' hS => by have q_ := (hS.cell (World.block_lt_of_cell? W _ hz2)).trans hz2; first | (go_simp; done) | (go_simp; simp [*]; done)⟩) hS ?_
          try simp only [List.getElem_toArray, List.getElem_cons_succ, List.getElem_cons_zero, Act.put, List.setIfInBounds_toArray, List.set_cons_zero, List.set_cons_succ]
          refine wpAnyH_ready (rs := [50]) (by kernel_rfl) (by simp) (AllReadyH.cons rfl (fun K' hK => ?_) AllReadyH.nil)
          rw [if_pos (by kernel_rfl)]
          go_simp
          go_at_call 39
          (with_reducible refine (has_calls' (some ⟨g, 0, none⟩) L q.f1 q.f2 true _ HA2.out (HTW.out.below hS) HLL.out HOK.out).mono ?_)
          rintro e w6 ⟨rfl, hb⟩
          have hS' := hS.trans (hb.mono hS.size)
          refine hK.out _ _ hS' (fun _ => ?_)
          clear hK hS hb
          have hS := hS'
          clear hS'
          try simp only [List.getElem_toArray, List.getElem_cons_succ, List.getElem_cons_zero, Act.put, List.setIfInBounds_toArray, List.set_cons_zero, List.set_cons_succ]
          refine wpAnyH_take (i := 51) (v := .bool false) rfl (by kernel_rfl) (by kernel_rfl) (by kernel_rfl) (fun _ _ _ h => h) (.inl ⟨by kernel_rfl, fun w' hS => by first | (go_simp; done) | (go_simp; simp [*]; done)⟩) hS ?_
          try simp only [List.getElem_toArray, List.getElem_cons_succ, List.getElem_cons_zero, Act.put, List.setIfInBounds_toArray, List.set_cons_zero, List.set_cons_succ]
          refine wpAnyH_take (i := 52) (v := .bool false) rfl (by kernel_rfl) (by kernel_rfl) (by kernel_rfl) (fun _ _ _ h => h) (.inl ⟨by kernel_rfl, fun w' hS => by first | (go_simp; done) | (go_simp; simp [*]; done)⟩) hS ?_
          try simp only [List.getElem_toArray, List.getElem_cons_succ, List.getElem_cons_zero, Act.put, List.setIfInBounds_toArray, List.set_cons_zero, List.set_cons_succ]
          refine wpAnyH_done (by kernel_rfl) ?_ _
          refine NoPanic.normal ?_
          have HBF := Aside0.mk (HBW1.out.trans (hS.mono HBW1.out.size))
          clear hS hz0 hz1 hz2
          go_wp2
          go_roundg kq
          case measure => omega
          case rel =>
            have := HI.out
            have := of_decide_eq_true e9
            exact ⟨i + 1, by first | rfl | go_num, ⟨by omega, by omega⟩, ⟨HBF.out⟩⟩
      · have hi : i = M.length := by have := HI.out; omega
        have e8 := eq_false c1
        have e9 : decide ((i : Int) < (M.length : Int)) = false := decide_eq_false c1
        have f1 : ((M.length : Int) == (l.length : Int)) = true := by rw [HML.out]; exact beq_self_eq_true _
        have f2 : (M.length == l.length) = true := by rw [HML.out]; exact beq_self_eq_true _
        have f3 : decide ((M.length : Int) = (l.length : Int)) = true := decide_eq_true (by rw [HML.out])
        have f4 : decide (M.length = l.length) = true := decide_eq_true HML.out
        clear c1 hi
        go_wp2
        go_ret
        exact ⟨rfl, HB.out.trans (HBL.out.mono HB.out.size)⟩
theorem paronymlaw03_SpanApart.walk (a0 : Option Addr) (cap0 : Nat) (ls0 : List S43) (w : World) (hC0 : Kd.C k43 w a0 ls0.length ls0) (hcap0 : ls0.length ≤ cap0) (hwf0 : ∀ a ∈ ls0, wf43 a) :
    Calls Try.prog 9 #[.slice a0 ls0.length cap0] w fun e w' => e = .returned (.bool true) ∧ Below w.heap.size w w' := by
  by_cases h1 : smallB ls0 = true
  · by_cases h3 : (newR [] ls0).1 = 0
    · exact apart_main a0 cap0 ls0 w hC0 hcap0 h1 h3
    · exact apart_err a0 cap0 ls0 w hC0 hcap0 h1 h3
  · exact apart_out a0 cap0 ls0 w hC0 hcap0 (by simpa using h1)
end Go.Proofs.Ytlipbiihemhieaa.Q

-- from LawSpanApart
-- Made by hp.py, a program of this session, with the kit's printer. Not trusted: Lean checks it.
namespace Go.Proofs.Ytlipbiihemhieaa.spanApart
open Go.ChangeShapes Go.WideShapes Go.ChangeAt Go.RowKit
open Go.ChangeMaps (open_string shut_string)
set_option linter.unusedVariables false
theorem own : ownKnob Try.prog.godebug = none := by kernel_rfl
theorem laidOut : laidOutB Try.prog = true := by kernel_rfl
def IsRow (k : IntKind) (w : World) (a : Option Addr) (len cap : Nat) (zs : List Int) : Prop :=
  (a = none ∧ len = 0 ∧ cap = 0 ∧ zs = []) ∨
  ∃ x, a = some x ∧ len ≤ cap ∧ cap ≤ maxLen ∧ zs.length = cap ∧ (∀ i, i < zs.length → w.cell? (x.add i) = some (.int k (zs.getD i 0))) ∧ ∀ n ∈ zs, (Lit.int k n).wf = true
set_option maxRecDepth 100000 in
theorem lifted (os : Os) (started : os.Started) (H : Type) (enc : TypeId × Value → H) :
    ReturnsInHanded {} Try.checked os 9 .any (Rows.spanApartSpec.pre6 enc Try.prog Try.f9 Rows.spanApartRow.domain false) (Rows.spanApartSpec.post enc Try.prog Try.f9 false true false false) := by
  refine returnsInHanded_of_change_sized (C := Try.checked) own started (by kernel_rfl) Try.func9
    (ChangeSpec.witness6 (enc := enc) (C := Try.checked) false ⟨#[], #[.slice none 0 0], []⟩ 8 (by kernel_rfl) (by kernel_rfl) (by kernel_rfl) (by kernel_rfl)) ?_
  intro W base args ds gs before hval0 hW hcnd hsz0 _
  have hsz : (DataW.weightsEach Try.prog (Try.f9.params.toList ++ Rows.spanApartSpec.plain.varTypes Try.prog) (ds ++ gs)).all (· ≤ reachBytes) = true := hsz0
  have hval : ∀ (j : Nat) t v, Try.f9.params[j]? = some t → args[j]? = some v → Value.okWide Try.prog W .any base t v := hval0
  have hW' := hW
  obtain ⟨p, q, hA0, hV, rfl, hfz, hnd⟩ := hW
  have hA : DataW.TrodAll enc Try.prog W 0 (fun _ => true) true Try.f9.params.toList args.toList ds p := hA0
  rw [Try.params9] at hA hval hsz
  obtain ⟨v0, vs0, d0, ds0, p0, q0, hargs, rfl, rfl, h0, r0⟩ := trodAll_cons hA
  obtain ⟨rfl, rfl, rfl⟩ := trodAll_nil r0
  obtain rfl : args = #[v0] := by cases args; simp_all
  obtain ⟨rfl, rfl⟩ := trodVars_none hV
  obtain ⟨a0, len0, cap0, rfl⟩ := okWide_slice Try.underlying41 (hval 0 41 v0 rfl rfl)
  have k0 := h0
  have lt0 : ∀ x ∈ p0, x.block < W.heap.size := by obtain ⟨m, hm⟩ := k0; exact DataW.trod_lt m _ _ _ hm
  obtain ⟨ls0, hn0, hcap0, hC0, hwf0⟩ := Q.opens_arg Try.underlying41 (by kernel_rfl) Q.opens_S43 h0
  subst hn0
  clear hA0 hval0 hsz0 hsz
  refine (Q.paronymlaw03_SpanApart.walk a0 cap0 ls0 W hC0 hcap0 hwf0).mono fun e W' ⟨he, bel⟩ => ?_
  subst he
  exact ⟨_, rfl, _, _, _, [], _, [], hW', trodAll_mk1 (shut_bool Try.underlying4 _), (trodAll_cons_mk (Below.trod laidOut (by kernel_rfl) (of_decide_eq_true (by kernel_rfl)) k0 bel lt0) trodAll_mk0), rfl, bel.frame _, fun h => by cases h⟩
theorem over : Rows.spanApartRow.holds Try.pinned (OpenSpec.ofChange Rows.spanApartSpec) :=
  OpenClaim.holds_of_wide 9 Try.f9 rfl rfl rfl rfl rfl rfl rfl ⟨rfl, rfl, rfl, rfl, rfl⟩ rfl rfl rfl rfl rfl (by kernel_rfl) Try.func9 (by kernel_rfl)
    (of_decide_eq_true (by kernel_rfl)) (by unfold Func.isWrapper; first | (rw [if_pos (by decide +kernel)]; kernel_rfl) | (rw [if_neg (by decide +kernel)]; exact ⟨rfl, rfl⟩))
    (fun os started H enc _ => lifted os started H enc)
theorem proved : Rows.SpanApartSaid := over
#print axioms proved
end Go.Proofs.Ytlipbiihemhieaa.spanApart
namespace Go.Proofs.Ytlipbiihemhieaa
/-- The row, under a short name, for the claim. -/
theorem spanApart_holds : Rows.SpanApartSaid := spanApart.proved
end Go.Proofs.Ytlipbiihemhieaa
