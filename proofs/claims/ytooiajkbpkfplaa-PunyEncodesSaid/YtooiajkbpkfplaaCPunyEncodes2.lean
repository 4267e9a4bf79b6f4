/- Part 2 of 4 of the proof of PunyEncodes: PunyEncodes: a text's form For every input; no condition. -/
import Derived.Test.YtooiajkbpkfplaaCPunyEncodes1
import Derived.Shelf.Lay
import Derived.Shelf.Spec.SlicesInsert
import Derived.Shelf.Spec.SlicesInsertGrow
import Derived.Ground.Names2Prog
import Derived.RangeFuncRecord
import Derived.Lib.Bytes

-- from Qf65
-- Made by hp.py, a program of this session, with the kit's printer. Not trusted: Lean checks it.
namespace Go.Proofs.Ytooiajkbpkfplaa.Q
open Go.RowKit Go.Proofs.YtooiajkbpkfplaaW.PrintWords Go.Proofs.YtooiajkbpkfplaaW.PrintLast Go.Proofs.YtooiajkbpkfplaaW.PrintMore
attribute [local go_sem] max2_int min2_int max_two min_two max_three min_three max_four min_four   -- for this text's walks alone
set_option linter.unusedVariables false
set_option linter.unusedSimpArgs false

/-! ### puny_read: function 65 -/
def puny_read.l0 : Nat → Int → Int → Int → List Int → Int → Int → Option (Int × Int × Int)
  | 0, _, _, _, _, _, _ => none
  | k + 1, x1, x7, x8, x13, x14, x15 => if x15 < x14 then (if 0 ≤ x15 then (if x15 < (x13.length : Int) then ((puny_digit.f (rd x13 x15)).bind fun t102 => ((puny_threshold.f (wrap64 (36 * (wrap64 (x15 + 1)))) x1).bind fun t103 => (if t102 < 0 then (some (0, 0, 20)) else (if x8 = 0 then (none) else (if t102 > (wrap64 (Int.tdiv (wrap64 (2147483647 - x7)) x8)) then (some (0, 0, 21)) else (if t102 < t103 then (some (wrap64 (x7 + (wrap64 (t102 * x8))), wrap64 (x15 + 1), 0)) else (if (wrap64 (36 - t103)) = 0 then (none) else (if x8 > (wrap64 (Int.tdiv (2147483647 : Int) (wrap64 (36 - t103)))) then (some (0, 0, 21)) else (puny_read.l0 k x1 (wrap64 (x7 + (wrap64 (t102 * x8)))) (wrap64 (x8 * (wrap64 (36 - t103)))) x13 x14 (wrap64 (x15 + 1))))))))))) else (none)) else (none)) else (some (0, 0, 20))
def puny_read.f (k : Nat) (l0 : List Int) (a1 : Int) : Option (Int × Int × Int) := puny_read.l0 k a1 0 1 l0 (l0.length : Int) 0
theorem puny_read.mono_l : ∀ k, (∀ y0 y1 y2 y3 y4 y5, LeO (puny_read.l0 k y0 y1 y2 y3 y4 y5) (puny_read.l0 (k + 1) y0 y1 y2 y3 y4 y5))
  | 0 => fun _ _ _ _ _ _ r h => by simp [puny_read.l0] at h
  | k + 1 => by
    have ih0 := puny_read.mono_l k
    · intro y0 y1 y2 y3 y4 y5
      unfold puny_read.l0
      repeat' first
      | (with_reducible exact ih0 _ _ _ _ _ _)
      | (with_reducible exact LeO.refl _)
      | (with_reducible exact LeO.none _)
      | (with_reducible refine LeO.ite ?_ ?_)
      | (with_reducible refine LeO.bind ?_ (fun _ => ?_))
      | exact ih0 _ _ _ _ _ _
      | exact LeO.none _
      | refine LeO.ite ?_ ?_
      | refine LeO.bind ?_ (fun _ => ?_)
theorem puny_read.mono : ∀ a0 a1 k, LeO (puny_read.f k a0 a1) (puny_read.f (k + 1) a0 a1) := by
  intro a0 a1 k
  have ih0 := puny_read.mono_l k
  unfold puny_read.f
  repeat' first
      | (with_reducible exact ih0 _ _ _ _ _ _)
      | (with_reducible exact LeO.refl _)
      | (with_reducible exact LeO.none _)
      | (with_reducible refine LeO.ite ?_ ?_)
      | (with_reducible refine LeO.bind ?_ (fun _ => ?_))
      | exact ih0 _ _ _ _ _ _
      | exact LeO.none _
      | refine LeO.ite ?_ ?_
      | refine LeO.bind ?_ (fun _ => ?_)
set_option maxHeartbeats 8000000 in
set_option maxRecDepth 100000 in
theorem puny_read.calls (k : Nat) (A0 : Option Addr) (c0 : Nat) (l0 : List Int) (a1 : Int) (r1 : Int) (r2 : Int) (r3 : Int) (w : World) (hr0 : Kd.C (Kd.int .u8) w A0 l0.length l0) (hc0 : l0.length ≤ c0) (h : puny_read.f k l0 a1 = some (r1, r2, r3)) :
    Calls Try.prog 65 #[.slice A0 l0.length c0, .int .i64 a1] w fun e w' => e = .returned (.tuple #[.int .i64 r1, .int .i64 r2, .int .i64 r3]) ∧ Below w.heap.size w w' := by
  have HR0 := Aside0.mk hr0
  have HC0 := Aside0.mk hc0
  clear hr0 hc0
  have HB := Aside0.mk (Below.refl w.heap.size w)
  have H : (puny_read.l0 k a1 0 1 l0 (l0.length : Int) 0) = some (r1, r2, r3) := h
  clear h
  have H' := Aside0.mk H
  clear H
  go_enter Try.func65, Try.ntmps65
  go_wp2
  go_loopg [7, 8, 15] k (fun kq v7 v8 v15 w' => ∃ (x7_1 : Int) (x8_1 : Int) (x15_1 : Int), v7 = .int .i64 x7_1 ∧ v8 = .int .i64 x8_1 ∧ v15 = .int .i64 x15_1 ∧ Aside0 (puny_read.l0 kq a1 x7_1 x8_1 l0 (l0.length : Int) x15_1 = some (r1, r2, r3)) ∧ Aside0 (kq ≤ k) ∧ Aside0 (Below w.heap.size w w'))
  case atStart => exact ⟨(0), (1), (0), (by first | rfl | (simp; done) | (simp [*]; done)), (by first | rfl | (simp; done) | (simp [*]; done)), (by first | rfl | (simp; done) | (simp [*]; done)), H', ⟨Nat.le_refl _⟩, ⟨by repeat (first | (with_reducible first | exact HB.out | apply below_alloc | apply pw_below_drewN | apply below_drew1) | exact HB.out)⟩⟩
  case round =>
    clear H'
    try clear p2
    obtain ⟨x7_1, x8_1, x15_1, rfl, rfl, rfl, HA, HK1, HB⟩ := hrel
    cases gk with
    | zero => exact absurd HA.out (by simp [puny_read.l0])
    | succ k1 =>
      have H := HA.out
      clear HA
      simp only [puny_read.l0] at H
      by_cases c3 : x15_1 < (l0.length : Int)
      · rw [if_pos c3] at H
        have c3b0 : decide (x15_1 < (l0.length : Int)) = true := decide_eq_true c3
        clear c3
        by_cases c4 : 0 ≤ x15_1
        · rw [if_pos c4] at H
          have c4b0 : decide (0 ≤ x15_1) = true := decide_eq_true c4
          clear c4
          by_cases c5 : x15_1 < (l0.length : Int)
          · rw [if_pos c5] at H
            have c5b0 : decide (x15_1 < (l0.length : Int)) = true := decide_eq_true c5
            clear c5
            replace H := Option.bind_eq_some_iff.mp H
            obtain ⟨t102, A60, H⟩ := H
            replace H : ((puny_threshold.f (wrap64 (36 * (wrap64 (x15_1 + 1)))) a1).bind fun t103 => (if t102 < 0 then (some (0, 0, 20)) else (if x8_1 = 0 then (none) else (if t102 > (wrap64 (Int.tdiv (wrap64 (2147483647 - x7_1)) x8_1)) then (some (0, 0, 21)) else (if t102 < t103 then (some (wrap64 (x7_1 + (wrap64 (t102 * x8_1))), wrap64 (x15_1 + 1), 0)) else (if (wrap64 (36 - t103)) = 0 then (none) else (if x8_1 > (wrap64 (Int.tdiv (2147483647 : Int) (wrap64 (36 - t103)))) then (some (0, 0, 21)) else (puny_read.l0 k1 a1 (wrap64 (x7_1 + (wrap64 (t102 * x8_1)))) (wrap64 (x8_1 * (wrap64 (36 - t103)))) l0 (l0.length : Int) (wrap64 (x15_1 + 1)))))))))) = some (r1, r2, r3) := H
            have A6 := Aside0.mk A60
            clear A60
            replace H := Option.bind_eq_some_iff.mp H
            obtain ⟨t103, A70, H⟩ := H
            replace H : (if t102 < 0 then (some (0, 0, 20)) else (if x8_1 = 0 then (none) else (if t102 > (wrap64 (Int.tdiv (wrap64 (2147483647 - x7_1)) x8_1)) then (some (0, 0, 21)) else (if t102 < t103 then (some (wrap64 (x7_1 + (wrap64 (t102 * x8_1))), wrap64 (x15_1 + 1), 0)) else (if (wrap64 (36 - t103)) = 0 then (none) else (if x8_1 > (wrap64 (Int.tdiv (2147483647 : Int) (wrap64 (36 - t103)))) then (some (0, 0, 21)) else (puny_read.l0 k1 a1 (wrap64 (x7_1 + (wrap64 (t102 * x8_1)))) (wrap64 (x8_1 * (wrap64 (36 - t103)))) l0 (l0.length : Int) (wrap64 (x15_1 + 1))))))))) = some (r1, r2, r3) := H
            have A7 := Aside0.mk A70
            clear A70
            by_cases c8 : t102 < 0
            · rw [if_pos c8] at H
              have c8b0 : decide (t102 < 0) = true := decide_eq_true c8
              clear c8
              simp only [Option.some.injEq, Prod.mk.injEq] at H
              obtain ⟨rfl, rfl, rfl⟩ := H
              have p101 : 0 ≤ (x15_1 : Int) := of_decide_eq_true (by first | (with_reducible assumption) | assumption)
              have q101 : x15_1 < (l0.length : Int) := of_decide_eq_true (by first | (with_reducible assumption) | assumption)
              obtain ⟨ad101, e101, hx101_0⟩ := Kd.at_int HR0.out x15_1 p101 q101
              cases e101
              replace hx101_0 := (HB.out.cell (World.block_lt_of_cell? w _ hx101_0)).trans hx101_0
              replace p101 := eq_true p101
              replace q101 := eq_true q101
              go_wp2_with (first | ((with_reducible refine gate_callee (f := 78) rfl ?_); refine goesL_ (some 21) rfl rfl Try.func78 (by kernel_rfl) rfl #[.int .u8 (rd l0 x15_1)] rfl (by (try simp only [List.map_toArray, List.map_cons, List.map_nil]); first | done | rfl | (simp only [List.length_drop, List.length_take]; rfl)) ?_; (with_reducible refine (puny_digit.calls (rd l0 x15_1) t102 _ A6.out).mono ?_); rintro e w' ⟨rfl, ⟨nd, rfl⟩⟩; refine ⟨_, rfl, ?_⟩) | ((with_reducible refine gate_callee (f := 72) rfl ?_); refine goesL_ (some 26) rfl rfl Try.func72 (by kernel_rfl) rfl #[.int .i64 (wrap64 (36 * (wrap64 (x15_1 + 1)))), .int .i64 a1] rfl (by (try simp only [List.map_toArray, List.map_cons, List.map_nil]); first | done | rfl | (simp only [List.length_drop, List.length_take]; rfl)) ?_; (with_reducible refine (puny_threshold.calls (wrap64 (36 * (wrap64 (x15_1 + 1)))) a1 t103 _ A7.out).mono ?_); rintro e w9 ⟨rfl, hb⟩; refine ⟨_, rfl, ?_⟩; have n0_ := Aside0.mk (below_step (by repeat (first | (with_reducible first | exact HB.out | apply below_alloc | apply pw_below_drewN | apply below_drew1) | exact HB.out)) hb); clear HB; have HB := n0_; clear n0_; (try clear hb); (try clear hb2); (try clear hk); (try clear hi)))
              go_ret3
              exact ⟨by first | rfl | (simp [errW_none, errW_some] <;> rfl) | (simp [*, errW_none, errW_some] <;> rfl), by repeat (first | (with_reducible first | exact HB.out | apply below_alloc | apply pw_below_drewN | apply below_drew1) | exact HB.out)⟩
            · rw [if_neg c8] at H
              have c8b0 : decide (t102 < 0) = false := decide_eq_false c8
              clear c8
              by_cases c10 : x8_1 = 0
              · rw [if_pos c10] at H
                exact absurd H (by simp)
              · rw [if_neg c10] at H
                have c10b0 : (x8_1 == 0) = false := beq_eq_false_iff_ne.mpr c10
                have c10b1 : (x8_1 != 0) = true := bne_iff_ne.mpr c10
                by_cases c11 : t102 > (wrap64 (Int.tdiv (wrap64 (2147483647 - x7_1)) x8_1))
                · rw [if_pos c11] at H
                  have c11b0 : decide ((wrap64 (Int.tdiv (wrap64 (2147483647 - x7_1)) x8_1)) < t102) = true := decide_eq_true c11
                  clear c11
                  simp only [Option.some.injEq, Prod.mk.injEq] at H
                  obtain ⟨rfl, rfl, rfl⟩ := H
                  have p101 : 0 ≤ (x15_1 : Int) := of_decide_eq_true (by first | (with_reducible assumption) | assumption)
                  have q101 : x15_1 < (l0.length : Int) := of_decide_eq_true (by first | (with_reducible assumption) | assumption)
                  obtain ⟨ad101, e101, hx101_0⟩ := Kd.at_int HR0.out x15_1 p101 q101
                  cases e101
                  replace hx101_0 := (HB.out.cell (World.block_lt_of_cell? w _ hx101_0)).trans hx101_0
                  replace p101 := eq_true p101
                  replace q101 := eq_true q101
                  go_wp2_with (first | ((with_reducible refine gate_callee (f := 78) rfl ?_); refine goesL_ (some 21) rfl rfl Try.func78 (by kernel_rfl) rfl #[.int .u8 (rd l0 x15_1)] rfl (by (try simp only [List.map_toArray, List.map_cons, List.map_nil]); first | done | rfl | (simp only [List.length_drop, List.length_take]; rfl)) ?_; (with_reducible refine (puny_digit.calls (rd l0 x15_1) t102 _ A6.out).mono ?_); rintro e w' ⟨rfl, ⟨nd, rfl⟩⟩; refine ⟨_, rfl, ?_⟩) | ((with_reducible refine gate_callee (f := 72) rfl ?_); refine goesL_ (some 26) rfl rfl Try.func72 (by kernel_rfl) rfl #[.int .i64 (wrap64 (36 * (wrap64 (x15_1 + 1)))), .int .i64 a1] rfl (by (try simp only [List.map_toArray, List.map_cons, List.map_nil]); first | done | rfl | (simp only [List.length_drop, List.length_take]; rfl)) ?_; (with_reducible refine (puny_threshold.calls (wrap64 (36 * (wrap64 (x15_1 + 1)))) a1 t103 _ A7.out).mono ?_); rintro e w12 ⟨rfl, hb⟩; refine ⟨_, rfl, ?_⟩; have n0_ := Aside0.mk (below_step (by repeat (first | (with_reducible first | exact HB.out | apply below_alloc | apply pw_below_drewN | apply below_drew1) | exact HB.out)) hb); clear HB; have HB := n0_; clear n0_; (try clear hb); (try clear hb2); (try clear hk); (try clear hi)))
                  go_ret3
                  exact ⟨by first | rfl | (simp [errW_none, errW_some] <;> rfl) | (simp [*, errW_none, errW_some] <;> rfl), by repeat (first | (with_reducible first | exact HB.out | apply below_alloc | apply pw_below_drewN | apply below_drew1) | exact HB.out)⟩
                · rw [if_neg c11] at H
                  have c11b0 : decide ((wrap64 (Int.tdiv (wrap64 (2147483647 - x7_1)) x8_1)) < t102) = false := decide_eq_false c11
                  clear c11
                  by_cases c13 : t102 < t103
                  · rw [if_pos c13] at H
                    have c13b0 : decide (t102 < t103) = true := decide_eq_true c13
                    clear c13
                    simp only [Option.some.injEq, Prod.mk.injEq] at H
                    obtain ⟨rfl, rfl, rfl⟩ := H
                    have p101 : 0 ≤ (x15_1 : Int) := of_decide_eq_true (by first | (with_reducible assumption) | assumption)
                    have q101 : x15_1 < (l0.length : Int) := of_decide_eq_true (by first | (with_reducible assumption) | assumption)
                    obtain ⟨ad101, e101, hx101_0⟩ := Kd.at_int HR0.out x15_1 p101 q101
                    cases e101
                    replace hx101_0 := (HB.out.cell (World.block_lt_of_cell? w _ hx101_0)).trans hx101_0
                    replace p101 := eq_true p101
                    replace q101 := eq_true q101
                    go_wp2_with (first | ((with_reducible refine gate_callee (f := 78) rfl ?_); refine goesL_ (some 21) rfl rfl Try.func78 (by kernel_rfl) rfl #[.int .u8 (rd l0 x15_1)] rfl (by (try simp only [List.map_toArray, List.map_cons, List.map_nil]); first | done | rfl | (simp only [List.length_drop, List.length_take]; rfl)) ?_; (with_reducible refine (puny_digit.calls (rd l0 x15_1) t102 _ A6.out).mono ?_); rintro e w' ⟨rfl, ⟨nd, rfl⟩⟩; refine ⟨_, rfl, ?_⟩) | ((with_reducible refine gate_callee (f := 72) rfl ?_); refine goesL_ (some 26) rfl rfl Try.func72 (by kernel_rfl) rfl #[.int .i64 (wrap64 (36 * (wrap64 (x15_1 + 1)))), .int .i64 a1] rfl (by (try simp only [List.map_toArray, List.map_cons, List.map_nil]); first | done | rfl | (simp only [List.length_drop, List.length_take]; rfl)) ?_; (with_reducible refine (puny_threshold.calls (wrap64 (36 * (wrap64 (x15_1 + 1)))) a1 t103 _ A7.out).mono ?_); rintro e w14 ⟨rfl, hb⟩; refine ⟨_, rfl, ?_⟩; have n0_ := Aside0.mk (below_step (by repeat (first | (with_reducible first | exact HB.out | apply below_alloc | apply pw_below_drewN | apply below_drew1) | exact HB.out)) hb); clear HB; have HB := n0_; clear n0_; (try clear hb); (try clear hb2); (try clear hk); (try clear hi)))
                    go_ret3
                    exact ⟨by first | rfl | (simp [errW_none, errW_some] <;> rfl) | (simp [*, errW_none, errW_some] <;> rfl), by repeat (first | (with_reducible first | exact HB.out | apply below_alloc | apply pw_below_drewN | apply below_drew1) | exact HB.out)⟩
                  · rw [if_neg c13] at H
                    have c13b0 : decide (t102 < t103) = false := decide_eq_false c13
                    clear c13
                    by_cases c15 : (wrap64 (36 - t103)) = 0
                    · rw [if_pos c15] at H
                      exact absurd H (by simp)
                    · rw [if_neg c15] at H
                      have c15b0 : ((wrap64 (36 - t103)) == 0) = false := beq_eq_false_iff_ne.mpr c15
                      have c15b1 : ((wrap64 (36 - t103)) != 0) = true := bne_iff_ne.mpr c15
                      by_cases c16 : x8_1 > (wrap64 (Int.tdiv (2147483647 : Int) (wrap64 (36 - t103))))
                      · rw [if_pos c16] at H
                        have c16b0 : decide ((wrap64 (Int.tdiv (2147483647 : Int) (wrap64 (36 - t103)))) < x8_1) = true := decide_eq_true c16
                        clear c16
                        simp only [Option.some.injEq, Prod.mk.injEq] at H
                        obtain ⟨rfl, rfl, rfl⟩ := H
                        have p101 : 0 ≤ (x15_1 : Int) := of_decide_eq_true (by first | (with_reducible assumption) | assumption)
                        have q101 : x15_1 < (l0.length : Int) := of_decide_eq_true (by first | (with_reducible assumption) | assumption)
                        obtain ⟨ad101, e101, hx101_0⟩ := Kd.at_int HR0.out x15_1 p101 q101
                        cases e101
                        replace hx101_0 := (HB.out.cell (World.block_lt_of_cell? w _ hx101_0)).trans hx101_0
                        replace p101 := eq_true p101
                        replace q101 := eq_true q101
                        go_wp2_with (first | ((with_reducible refine gate_callee (f := 78) rfl ?_); refine goesL_ (some 21) rfl rfl Try.func78 (by kernel_rfl) rfl #[.int .u8 (rd l0 x15_1)] rfl (by (try simp only [List.map_toArray, List.map_cons, List.map_nil]); first | done | rfl | (simp only [List.length_drop, List.length_take]; rfl)) ?_; (with_reducible refine (puny_digit.calls (rd l0 x15_1) t102 _ A6.out).mono ?_); rintro e w' ⟨rfl, ⟨nd, rfl⟩⟩; refine ⟨_, rfl, ?_⟩) | ((with_reducible refine gate_callee (f := 72) rfl ?_); refine goesL_ (some 26) rfl rfl Try.func72 (by kernel_rfl) rfl #[.int .i64 (wrap64 (36 * (wrap64 (x15_1 + 1)))), .int .i64 a1] rfl (by (try simp only [List.map_toArray, List.map_cons, List.map_nil]); first | done | rfl | (simp only [List.length_drop, List.length_take]; rfl)) ?_; (with_reducible refine (puny_threshold.calls (wrap64 (36 * (wrap64 (x15_1 + 1)))) a1 t103 _ A7.out).mono ?_); rintro e w17 ⟨rfl, hb⟩; refine ⟨_, rfl, ?_⟩; have n0_ := Aside0.mk (below_step (by repeat (first | (with_reducible first | exact HB.out | apply below_alloc | apply pw_below_drewN | apply below_drew1) | exact HB.out)) hb); clear HB; have HB := n0_; clear n0_; (try clear hb); (try clear hb2); (try clear hk); (try clear hi)))
                        go_ret3
                        exact ⟨by first | rfl | (simp [errW_none, errW_some] <;> rfl) | (simp [*, errW_none, errW_some] <;> rfl), by repeat (first | (with_reducible first | exact HB.out | apply below_alloc | apply pw_below_drewN | apply below_drew1) | exact HB.out)⟩
                      · rw [if_neg c16] at H
                        have c16b0 : decide ((wrap64 (Int.tdiv (2147483647 : Int) (wrap64 (36 - t103)))) < x8_1) = false := decide_eq_false c16
                        clear c16
                        have H' := Aside0.mk H
                        clear H
                        have p101 : 0 ≤ (x15_1 : Int) := of_decide_eq_true (by first | (with_reducible assumption) | assumption)
                        have q101 : x15_1 < (l0.length : Int) := of_decide_eq_true (by first | (with_reducible assumption) | assumption)
                        obtain ⟨ad101, e101, hx101_0⟩ := Kd.at_int HR0.out x15_1 p101 q101
                        cases e101
                        replace hx101_0 := (HB.out.cell (World.block_lt_of_cell? w _ hx101_0)).trans hx101_0
                        replace p101 := eq_true p101
                        replace q101 := eq_true q101
                        go_wp2_with (first | ((with_reducible refine gate_callee (f := 78) rfl ?_); refine goesL_ (some 21) rfl rfl Try.func78 (by kernel_rfl) rfl #[.int .u8 (rd l0 x15_1)] rfl (by (try simp only [List.map_toArray, List.map_cons, List.map_nil]); first | done | rfl | (simp only [List.length_drop, List.length_take]; rfl)) ?_; (with_reducible refine (puny_digit.calls (rd l0 x15_1) t102 _ A6.out).mono ?_); rintro e w' ⟨rfl, ⟨nd, rfl⟩⟩; refine ⟨_, rfl, ?_⟩) | ((with_reducible refine gate_callee (f := 72) rfl ?_); refine goesL_ (some 26) rfl rfl Try.func72 (by kernel_rfl) rfl #[.int .i64 (wrap64 (36 * (wrap64 (x15_1 + 1)))), .int .i64 a1] rfl (by (try simp only [List.map_toArray, List.map_cons, List.map_nil]); first | done | rfl | (simp only [List.length_drop, List.length_take]; rfl)) ?_; (with_reducible refine (puny_threshold.calls (wrap64 (36 * (wrap64 (x15_1 + 1)))) a1 t103 _ A7.out).mono ?_); rintro e w18 ⟨rfl, hb⟩; refine ⟨_, rfl, ?_⟩; have n0_ := Aside0.mk (below_step (by repeat (first | (with_reducible first | exact HB.out | apply below_alloc | apply pw_below_drewN | apply below_drew1) | exact HB.out)) hb); clear HB; have HB := n0_; clear n0_; (try clear hb); (try clear hb2); (try clear hk); (try clear hi)))
                        go_roundg k1
                        case measure => have := HK1.out; omega
                        case rel => exact ⟨(wrap64 (x7_1 + (wrap64 (t102 * x8_1)))), (wrap64 (x8_1 * (wrap64 (36 - t103)))), (wrap64 (x15_1 + 1)), (by first | rfl | (simp; done) | (simp [*]; done)), (by first | rfl | (simp; done) | (simp [*]; done)), (by first | rfl | (simp; done) | (simp [*]; done)), H', ⟨by have := HK1.out; omega⟩, ⟨by repeat (first | (with_reducible first | exact HB.out | apply below_alloc | apply pw_below_drewN | apply below_drew1) | exact HB.out)⟩⟩
          · rw [if_neg c5] at H
            exact absurd H (by simp)
        · rw [if_neg c4] at H
          exact absurd H (by simp)
      · rw [if_neg c3] at H
        have c3b0 : decide (x15_1 < (l0.length : Int)) = false := decide_eq_false c3
        clear c3
        simp only [Option.some.injEq, Prod.mk.injEq] at H
        obtain ⟨rfl, rfl, rfl⟩ := H
        go_wp2
        go_ret3
        exact ⟨by first | rfl | (simp [errW_none, errW_some] <;> rfl) | (simp [*, errW_none, errW_some] <;> rfl), by repeat (first | (with_reducible first | exact HB.out | apply below_alloc | apply pw_below_drewN | apply below_drew1) | exact HB.out)⟩

end Go.Proofs.Ytooiajkbpkfplaa.Q

-- from Qf63
-- Made by hp.py, a program of this session, with the kit's printer. Not trusted: Lean checks it.
namespace Go.Proofs.Ytooiajkbpkfplaa.Q
open Go.RowKit Go.Proofs.YtooiajkbpkfplaaW.PrintWords Go.Proofs.YtooiajkbpkfplaaW.PrintLast Go.Proofs.YtooiajkbpkfplaaW.PrintMore
attribute [local go_sem] max2_int min2_int max_two min_two max_three min_three max_four min_four   -- for this text's walks alone
set_option linter.unusedVariables false
set_option linter.unusedSimpArgs false

/-! ### puny_Decode_1: function 63 -/
def puny_Decode_1.f (a0 : Int) : Option (Bool) := some (decide (a0 ≥ 128))
set_option maxHeartbeats 8000000 in
set_option maxRecDepth 100000 in
theorem puny_Decode_1.calls (a0 : Int) (r : Bool) (w : World) (h : puny_Decode_1.f a0 = some r) :
    Calls Try.prog 63 #[.int .u8 a0] w fun e w' => e = .returned (.bool r) ∧ Drawn0 w w' := by
  have H : (some (decide (a0 ≥ 128))) = some r := h
  clear h
  obtain rfl := Option.some.inj H
  go_enter Try.func63, Try.ntmps63
  go_wp2
  go_ret
  exact ⟨by first | rfl | (simp; done) | (simp [*]; done), by repeat (first | exact Drawn0.refl _ | apply Drawn0.step)⟩

end Go.Proofs.Ytooiajkbpkfplaa.Q

-- from Qf69at63
-- Made by hp.py, a program of this session, with the kit's printer. Not trusted: Lean checks it.
namespace Go.Proofs.Ytooiajkbpkfplaa.Q
open Go.RowKit Go.Proofs.YtooiajkbpkfplaaW.PrintWords Go.Proofs.YtooiajkbpkfplaaW.PrintLast Go.Proofs.YtooiajkbpkfplaaW.PrintMore
attribute [local go_sem] max2_int min2_int max_two min_two max_three min_three max_four min_four   -- for this text's walks alone
set_option linter.unusedVariables false
set_option linter.unusedSimpArgs false

/-! ### slices_IndexFunc_byte_byte_at_puny_Decode_1: function 69 -/
def slices_IndexFunc_byte_byte_at_puny_Decode_1.l0 : Nat → List Int → Int → Int → Option (Int)
  | 0, _, _, _ => none
  | k + 1, x0, x7, x8 => if x8 < x7 then (if 0 ≤ x8 then (if x8 < (x0.length : Int) then ((puny_Decode_1.f (rd x0 x8)).bind fun t102 => (if t102 = true then (some x8) else (slices_IndexFunc_byte_byte_at_puny_Decode_1.l0 k x0 x7 (wrap64 (x8 + 1))))) else (none)) else (none)) else (some (-1))
def slices_IndexFunc_byte_byte_at_puny_Decode_1.f (k : Nat) (l0 : List Int)  : Option (Int) := slices_IndexFunc_byte_byte_at_puny_Decode_1.l0 k l0 (l0.length : Int) 0
theorem slices_IndexFunc_byte_byte_at_puny_Decode_1.mono_l : ∀ k, (∀ y0 y1 y2, LeO (slices_IndexFunc_byte_byte_at_puny_Decode_1.l0 k y0 y1 y2) (slices_IndexFunc_byte_byte_at_puny_Decode_1.l0 (k + 1) y0 y1 y2))
  | 0 => fun _ _ _ r h => by simp [slices_IndexFunc_byte_byte_at_puny_Decode_1.l0] at h
  | k + 1 => by
    have ih0 := slices_IndexFunc_byte_byte_at_puny_Decode_1.mono_l k
    · intro y0 y1 y2
      unfold slices_IndexFunc_byte_byte_at_puny_Decode_1.l0
      repeat' first
      | (with_reducible exact ih0 _ _ _)
      | (with_reducible exact LeO.refl _)
      | (with_reducible exact LeO.none _)
      | (with_reducible refine LeO.ite ?_ ?_)
      | (with_reducible refine LeO.bind ?_ (fun _ => ?_))
      | exact ih0 _ _ _
      | exact LeO.none _
      | refine LeO.ite ?_ ?_
      | refine LeO.bind ?_ (fun _ => ?_)
theorem slices_IndexFunc_byte_byte_at_puny_Decode_1.mono : ∀ a0 k, LeO (slices_IndexFunc_byte_byte_at_puny_Decode_1.f k a0) (slices_IndexFunc_byte_byte_at_puny_Decode_1.f (k + 1) a0) := by
  intro a0 k
  have ih0 := slices_IndexFunc_byte_byte_at_puny_Decode_1.mono_l k
  unfold slices_IndexFunc_byte_byte_at_puny_Decode_1.f
  repeat' first
      | (with_reducible exact ih0 _ _ _)
      | (with_reducible exact LeO.refl _)
      | (with_reducible exact LeO.none _)
      | (with_reducible refine LeO.ite ?_ ?_)
      | (with_reducible refine LeO.bind ?_ (fun _ => ?_))
      | exact ih0 _ _ _
      | exact LeO.none _
      | refine LeO.ite ?_ ?_
      | refine LeO.bind ?_ (fun _ => ?_)
set_option maxHeartbeats 8000000 in
set_option maxRecDepth 100000 in
theorem slices_IndexFunc_byte_byte_at_puny_Decode_1.calls (k : Nat) (A0 : Option Addr) (c0 : Nat) (l0 : List Int)  (r : Int) (w : World) (hr0 : Kd.C (Kd.int .u8) w A0 l0.length l0) (hc0 : l0.length ≤ c0) (h : slices_IndexFunc_byte_byte_at_puny_Decode_1.f k l0 = some r) :
    Calls Try.prog 69 #[.slice A0 l0.length c0, .func (.func 63) #[] #[]] w fun e w' => e = .returned (.int .i64 r) ∧ Drawn0 w w' := by
  have HR0 := Aside0.mk hr0
  have HC0 := Aside0.mk hc0
  clear hr0 hc0
  have H : (slices_IndexFunc_byte_byte_at_puny_Decode_1.l0 k l0 (l0.length : Int) 0) = some r := h
  clear h
  have H' := Aside0.mk H
  clear H
  go_enter Try.func69, Try.ntmps69
  go_wp2
  go_loopg [8] k (fun kq v8 w' => ∃ (x8_1 : Int), v8 = .int .i64 x8_1 ∧ Aside0 (slices_IndexFunc_byte_byte_at_puny_Decode_1.l0 kq l0 (l0.length : Int) x8_1 = some r) ∧ Aside0 (kq ≤ k) ∧ Drawn0 w w')
  case atStart => exact ⟨(0), (by first | rfl | (simp; done) | (simp [*]; done)), H', ⟨Nat.le_refl _⟩, by repeat (first | exact Drawn0.refl _ | apply Drawn0.step)⟩
  case round =>
    clear H'
    try clear p2
    obtain ⟨x8_1, rfl, HA, HK1, ⟨m1, rfl⟩⟩ := hrel
    cases gk with
    | zero => exact absurd HA.out (by simp [slices_IndexFunc_byte_byte_at_puny_Decode_1.l0])
    | succ k1 =>
      have H := HA.out
      clear HA
      simp only [slices_IndexFunc_byte_byte_at_puny_Decode_1.l0] at H
      by_cases c3 : x8_1 < (l0.length : Int)
      · rw [if_pos c3] at H
        have c3b0 : decide (x8_1 < (l0.length : Int)) = true := decide_eq_true c3
        clear c3
        by_cases c4 : 0 ≤ x8_1
        · rw [if_pos c4] at H
          have c4b0 : decide (0 ≤ x8_1) = true := decide_eq_true c4
          clear c4
          by_cases c5 : x8_1 < (l0.length : Int)
          · rw [if_pos c5] at H
            have c5b0 : decide (x8_1 < (l0.length : Int)) = true := decide_eq_true c5
            clear c5
            replace H := Option.bind_eq_some_iff.mp H
            obtain ⟨t102, A60, H⟩ := H
            replace H : (if t102 = true then (some x8_1) else (slices_IndexFunc_byte_byte_at_puny_Decode_1.l0 k1 l0 (l0.length : Int) (wrap64 (x8_1 + 1)))) = some r := H
            have A6 := Aside0.mk A60
            clear A60
            by_cases c7 : t102 = true
            · subst c7
              have H1 : (some x8_1) = some r := by rw [if_pos rfl] at H; exact H
              clear H
              have H := H1
              clear H1
              obtain rfl := Option.some.inj H
              have p101 : 0 ≤ (x8_1 : Int) := of_decide_eq_true (by first | (with_reducible assumption) | assumption)
              have q101 : x8_1 < (l0.length : Int) := of_decide_eq_true (by first | (with_reducible assumption) | assumption)
              obtain ⟨ad101, e101, hx101_0⟩ := Kd.at_int HR0.out x8_1 p101 q101
              cases e101
              replace p101 := eq_true p101
              replace q101 := eq_true q101
              go_wp2_with (first | (go_at_call 63; (with_reducible refine (puny_Decode_1.calls (rd l0 x8_1) true _ A6.out).mono ?_); rintro e w' ⟨rfl, ⟨nd, rfl⟩⟩))
              go_ret
              exact ⟨by first | rfl | (simp; done) | (simp [*]; done), by repeat (first | exact Drawn0.refl _ | apply Drawn0.step)⟩
            · replace c7 := Bool.eq_false_iff.mpr c7
              subst c7
              have H1 : (slices_IndexFunc_byte_byte_at_puny_Decode_1.l0 k1 l0 (l0.length : Int) (wrap64 (x8_1 + 1))) = some r := by rw [if_neg (show ¬ (false = true) by decide)] at H; exact H
              clear H
              have H := H1
              clear H1
              have H' := Aside0.mk H
              clear H
              have p101 : 0 ≤ (x8_1 : Int) := of_decide_eq_true (by first | (with_reducible assumption) | assumption)
              have q101 : x8_1 < (l0.length : Int) := of_decide_eq_true (by first | (with_reducible assumption) | assumption)
              obtain ⟨ad101, e101, hx101_0⟩ := Kd.at_int HR0.out x8_1 p101 q101
              cases e101
              replace p101 := eq_true p101
              replace q101 := eq_true q101
              go_wp2_with (first | (go_at_call 63; (with_reducible refine (puny_Decode_1.calls (rd l0 x8_1) false _ A6.out).mono ?_); rintro e w' ⟨rfl, ⟨nd, rfl⟩⟩))
              go_roundg k1
              case measure => have := HK1.out; omega
              case rel => exact ⟨(wrap64 (x8_1 + 1)), (by first | rfl | (simp; done) | (simp [*]; done)), H', ⟨by have := HK1.out; omega⟩, by repeat (first | exact Drawn0.refl _ | apply Drawn0.step)⟩
          · rw [if_neg c5] at H
            exact absurd H (by simp)
        · rw [if_neg c4] at H
          exact absurd H (by simp)
      · rw [if_neg c3] at H
        have c3b0 : decide (x8_1 < (l0.length : Int)) = false := decide_eq_false c3
        clear c3
        obtain rfl := Option.some.inj H
        go_wp2
        go_ret
        exact ⟨by first | rfl | (simp; done) | (simp [*]; done), by repeat (first | exact Drawn0.refl _ | apply Drawn0.step)⟩

end Go.Proofs.Ytooiajkbpkfplaa.Q

-- from Qf46at63
-- Made by hp.py, a program of this session, with the kit's printer. Not trusted: Lean checks it.
namespace Go.Proofs.Ytooiajkbpkfplaa.Q
open Go.RowKit Go.Proofs.YtooiajkbpkfplaaW.PrintWords Go.Proofs.YtooiajkbpkfplaaW.PrintLast Go.Proofs.YtooiajkbpkfplaaW.PrintMore
attribute [local go_sem] max2_int min2_int max_two min_two max_three min_three max_four min_four   -- for this text's walks alone
set_option linter.unusedVariables false
set_option linter.unusedSimpArgs false

/-! ### slices_ContainsFunc_byte_byte_at_puny_Decode_1: function 46 -/
def slices_ContainsFunc_byte_byte_at_puny_Decode_1.f (k : Nat) (l0 : List Int)  : Option (Bool) := (slices_IndexFunc_byte_byte_at_puny_Decode_1.f k l0).bind fun t103 => (some (decide (t103 ≥ 0)))
theorem slices_ContainsFunc_byte_byte_at_puny_Decode_1.mono : ∀ a0 k, LeO (slices_ContainsFunc_byte_byte_at_puny_Decode_1.f k a0) (slices_ContainsFunc_byte_byte_at_puny_Decode_1.f (k + 1) a0) := by
  intro a0 k
  unfold slices_ContainsFunc_byte_byte_at_puny_Decode_1.f
  repeat' first
      | (with_reducible exact slices_IndexFunc_byte_byte_at_puny_Decode_1.mono _ _)
      | (with_reducible exact LeO.refl _)
      | (with_reducible exact LeO.none _)
      | (with_reducible refine LeO.ite ?_ ?_)
      | (with_reducible refine LeO.bind ?_ (fun _ => ?_))
      | exact slices_IndexFunc_byte_byte_at_puny_Decode_1.mono _ _
      | exact LeO.none _
      | refine LeO.ite ?_ ?_
      | refine LeO.bind ?_ (fun _ => ?_)
set_option maxHeartbeats 8000000 in
set_option maxRecDepth 100000 in
theorem slices_ContainsFunc_byte_byte_at_puny_Decode_1.calls (k : Nat) (A0 : Option Addr) (c0 : Nat) (l0 : List Int)  (r : Bool) (w : World) (hr0 : Kd.C (Kd.int .u8) w A0 l0.length l0) (hc0 : l0.length ≤ c0) (h : slices_ContainsFunc_byte_byte_at_puny_Decode_1.f k l0 = some r) :
    Calls Try.prog 46 #[.slice A0 l0.length c0, .func (.func 63) #[] #[]] w fun e w' => e = .returned (.bool r) ∧ Drawn0 w w' := by
  have HR0 := Aside0.mk hr0
  have HC0 := Aside0.mk hc0
  clear hr0 hc0
  have H : ((slices_IndexFunc_byte_byte_at_puny_Decode_1.f k l0).bind fun t103 => (some (decide (t103 ≥ 0)))) = some r := h
  clear h
  replace H := Option.bind_eq_some_iff.mp H
  obtain ⟨t103, A30, H⟩ := H
  replace H : (some (decide (t103 ≥ 0))) = some r := H
  have A3 := Aside0.mk A30
  clear A30
  obtain rfl := Option.some.inj H
  go_enter Try.func46, Try.ntmps46
  go_wp2_with (first | (go_at_call 69; (with_reducible refine (slices_IndexFunc_byte_byte_at_puny_Decode_1.calls k _ _ l0 t103 _ ?side1 ?side2 A3.out).mono ?_); (case side1 => repeat (first | exact HR0.out | (with_reducible refine Kd.C_alloc ?_ _) | (with_reducible refine Kd.C_drewN ?_ _) | (with_reducible refine Kd.C_drew ?_))); (case side2 => exact HC0.out); rintro e w' ⟨rfl, ⟨nd, rfl⟩⟩))
  go_ret
  exact ⟨by first | rfl | (simp; done) | (simp [*]; done), by repeat (first | exact Drawn0.refl _ | apply Drawn0.step)⟩

end Go.Proofs.Ytooiajkbpkfplaa.Q

-- from Hins
/- slices.Insert at []int, both slices the call's own. The walks are the shelf's (its four roads), laid at this program. -/
namespace Go.Proofs
open Go.Shelf
def Try.laysIns_ren : Go.Shelf.Ren := ⟨fun | 21 => 66 | 27 => 79 | 28 => 80 | 35 => 84 | 39 => 86 | n => n, fun | 22 => 31 | 3 => 3 | 4 => 4 | 0 => 0 | n => n, fun | n => n⟩
theorem Try.laysIns : Go.Proofs.Lays2.n21 Try.prog Try.laysIns_ren := {
  mixed := by kernel_rfl
  f21 := Try.func66.trans (congrArg some (by kernel_rfl))
  f27 := Try.func79.trans (congrArg some (by kernel_rfl))
  f28 := Try.func80.trans (congrArg some (by kernel_rfl))
  f35 := Try.func84.trans (congrArg some (by kernel_rfl))
  f39 := Try.func86.trans (congrArg some (by kernel_rfl))
  t0 := Try.underlying0
  a0 := Try.isAgg0
  z0 := Try.sizeOf0
  v0 := Try.zeroValue0
  t3 := Try.underlying3
  a3 := Try.isAgg3
  z3 := Try.sizeOf3
  v3 := Try.zeroValue3
  t4 := Try.underlying4
  a4 := Try.isAgg4
  z4 := Try.sizeOf4
  v4 := Try.zeroValue4
  t22 := Try.underlying31
  a22 := Try.isAgg31
  z22 := Try.sizeOf31
  v22 := Try.zeroValue31
  i3 := by kernel_rfl }
end Go.Proofs
namespace Go.Proofs.Ytooiajkbpkfplaa.Q
open Go.RowKit Go.Shelf Go.Proofs.YtooiajkbpkfplaaW.PrintWords Go.Proofs.YtooiajkbpkfplaaW.PrintLast Go.Proofs.YtooiajkbpkfplaaW.PrintMore
set_option linter.unusedVariables false
set_option linter.unusedSimpArgs false

theorem ins_other (b : Nat) : ∀ (vs : List Value) (o : Nat) (w : World) (j : Nat), j ≠ b → (w.setCells b o vs).heap[j]? = w.heap[j]?
  | [], _, _, _, _ => rfl
  | v :: vs, o, w, j, h => by
    rw [World.setCells, ins_other b vs _ _ j h]
    exact Below.heap_setCell w ⟨b, o, none⟩ v j h
theorem ins_size (b : Nat) : ∀ (vs : List Value) (o : Nat) (w : World), (w.setCells b o vs).heap.size = w.heap.size
  | [], _, _ => rfl
  | v :: vs, o, w => by rw [World.setCells, ins_size b vs]; simp [World.setCell]
theorem ins_cells (b : Nat) {e : TypeId} {fr : Nat × Nat} : ∀ (vs : List Value) (o : Nat) (w : World) (cur : Array Value), w.heap[b]? = some (.cells cur e fr) → o + vs.length ≤ cur.size →
    ∃ cur', (w.setCells b o vs).heap[b]? = some (.cells cur' e fr) ∧ cur'.size = cur.size ∧ cur'.toList = cur.toList.take o ++ vs ++ cur.toList.drop (o + vs.length)
  | [], o, w, cur, h, hl => ⟨cur, h, rfl, by simp⟩
  | v :: vs, o, w, cur, h, hl => by
    rw [List.length_cons] at hl
    have h1 : (w.setCell ⟨b, o, none⟩ v).heap[b]? = some (.cells (cur.setIfInBounds o v) e fr) := by
      unfold World.setCell
      simp [Array.getElem?_modify, h]
    obtain ⟨cur', h2, h3, h4⟩ := ins_cells b vs (o + 1) (w.setCell ⟨b, o, none⟩ v) (cur.setIfInBounds o v) h1 (by simp; omega)
    refine ⟨cur', h2, by rw [h3]; simp, ?_⟩
    rw [h4]
    have hol : o < cur.toList.length := by simp; omega
    have key : (cur.setIfInBounds o v).toList = cur.toList.take o ++ v :: cur.toList.drop (o + 1) := by
      rw [Array.toList_setIfInBounds, List.set_eq_take_append_cons_drop, if_pos hol]
    have hA : (cur.toList.take o).length = o := by rw [List.length_take]; omega
    rw [key, List.length_cons, List.take_append, List.drop_append, hA, List.take_of_length_le (by omega), List.drop_of_length_le (l := cur.toList.take o) (by omega)]
    rw [show o + 1 - o = 1 by omega, show o + 1 + vs.length - o = vs.length + 1 by omega, show o + (vs.length + 1) = o + 1 + vs.length by omega]
    simp

def slices_Insert_int_int.f (l0 : List Int) (a1 : Int) (l2 : List Int) : Option (List Int) :=
  if 0 ≤ a1 ∧ a1 ≤ (l0.length : Int) ∧ 0 < l2.length ∧ l0.length + l2.length < 17592186044416 then some (l0.take a1.toNat ++ l2 ++ l0.drop a1.toNat) else none

theorem ins_own {e : TypeId} {W : World} {base g c : Nat} {ok : Nat → Prop} {cur : Array Value} (xs : List Int) (hb : base ≤ g) (hg : W.heap[g]? = some (.cells cur e (0, 0))) (hc : xs.length ≤ c) (hm : c ≤ maxLen) (hs : cur.size = c) (ht : cur.toList.take xs.length = xs.map (Value.int .i64)) (hok : ok g) :
    Kd.R (Kd.int .i64) e W base ok (.slice (some ⟨g, 0, none⟩) xs.length c) xs := by
  refine Kd.R_of_own ?_ (fun k hk => by cases hk; exact hok)
  exact ⟨by simp [encs], .inr ⟨g, c, cur, rfl, hb, hg, hc, hm, by omega, by rw [Nat.mul_one]; exact ht⟩⟩
theorem ins_get {W : World} {g : Nat} {cur : Array Value} {e : TypeId} {fr : Nat × Nat} (hg : W.heap[g]? = some (.cells cur e fr)) {xs : List Value} {n : Nat} (ht : cur.toList.take n = xs) (j : Nat) (v : Value) (hj : xs[j]? = some v) : W.cell? ⟨g, j, none⟩ = some v := by
  unfold World.cell?
  simp only [hg]
  have : cur.toList[j]? = some v := by
    rw [← ht] at hj
    rw [List.getElem?_take] at hj
    split at hj
    · exact hj
    · cases hj
  simpa using this
theorem ins_below {B b : Nat} {a : World} (hb : B ≤ b) : ∀ (vs : List Value) (o : Nat) (w : World), Below B a w → Below B a (w.setCells b o vs)
  | [], _, _, h => h
  | v :: vs, o, w, h => ins_below hb vs _ _ (h.setCell (p := ⟨b, o, none⟩) hb _)
theorem ins_shift (C cs vs : List Value) (n m i : Nat) (hcs : C.take n = cs) (hi : i ≤ n) (hn : n + m ≤ C.length) (hm : vs.length = m) :
    ((C.take (i + m) ++ cs.drop i ++ C.drop (i + m + (n - i))).take i ++ vs ++ (C.take (i + m) ++ cs.drop i ++ C.drop (i + m + (n - i))).drop (i + m)).take (n + m) = cs.take i ++ vs ++ cs.drop i := by
  have hl : (C.take (i + m)).length = i + m := by rw [List.length_take]; omega
  have hcl : cs.length = n := by rw [← hcs, List.length_take]; omega
  have e1 : (C.take (i + m) ++ cs.drop i ++ C.drop (i + m + (n - i))).take i = cs.take i := by
    rw [List.append_assoc, List.take_append_of_le_length (by omega), List.take_take, ← hcs, List.take_take, Nat.min_eq_left (by omega), Nat.min_eq_left hi]
  have e2 : (C.take (i + m) ++ cs.drop i ++ C.drop (i + m + (n - i))).drop (i + m) = cs.drop i ++ C.drop (i + m + (n - i)) := by
    rw [List.append_assoc, List.drop_append_of_le_length (by omega), List.drop_of_length_le (by omega), List.nil_append]
  rw [e1, e2, ← List.append_assoc]
  have hl2 : (cs.take i ++ vs ++ cs.drop i).length = n + m := by simp; omega
  rw [List.take_append_of_le_length (by omega), List.take_of_length_le (by omega)]
theorem ins_grow (A cs vs : List Value) (n m i : Nat) (hA : A.take i = cs.take i) (hi : i ≤ n) (hcl : cs.length = n) (hn : n + m ≤ A.length) (hm : vs.length = m) :
    ((A.take i ++ vs ++ A.drop (i + m)).take (i + m) ++ cs.drop i ++ (A.take i ++ vs ++ A.drop (i + m)).drop (i + m + (n - i))).take (n + m) = cs.take i ++ vs ++ cs.drop i := by
  have hl : (A.take i).length = i := by rw [List.length_take]; omega
  have hl' : (A.take i ++ vs).length = i + m := by rw [List.length_append]; omega
  have e1 : (A.take i ++ vs ++ A.drop (i + m)).take (i + m) = cs.take i ++ vs := by
    rw [List.take_append_of_le_length (by omega), List.take_of_length_le (by omega), hA]
  rw [e1]
  have hl2 : (cs.take i ++ vs ++ cs.drop i).length = n + m := by simp; omega
  rw [List.take_append_of_le_length (by omega), List.take_of_length_le (by omega)]
set_option maxHeartbeats 1000000 in
theorem slices_Insert_int_int.calls (P0_ : Nat → Prop) (u9000_ : Value) (l0 : List Int) (a1 : Int) (P2_ : Nat → Prop) (u9001_ : Value) (l2 : List Int) (r : List Int) (w0 w : World) (hB : Below w0.heap.size w0 w) (ho0 : Kd.R (Kd.int .i64) 3 w w0.heap.size P0_ u9000_ l0) (hp0_2 : ∀ k_, P0_ k_ → ¬ P2_ k_) (ho2 : Kd.R (Kd.int .i64) 3 w w0.heap.size P2_ u9001_ l2) (hp2_0 : ∀ k_, P2_ k_ → ¬ P0_ k_) (h : slices_Insert_int_int.f l0 a1 l2 = some r) :
    Calls Try.prog 66 #[u9000_, .int .i64 a1, u9001_] w fun e w' => ∃ v0_ : Value, e = .returned (v0_) ∧ Kd.R (Kd.int .i64) 3 w' w0.heap.size (fun k_ => ((P0_ k_ ∨ P2_ k_) ∨ w.heap.size ≤ k_)) v0_ r ∧ Below w0.heap.size w0 w' ∧ Kept w w' (fun k_ => P0_ k_ ∨ P2_ k_) := by
  unfold slices_Insert_int_int.f at h
  split at h
  case isFalse => cases h
  case isTrue hc =>
  obtain ⟨h1, h2, h3, h4⟩ := hc
  obtain rfl := Option.some.inj h
  obtain ⟨i, rfl⟩ := Int.eq_ofNat_of_zero_le h1
  have o0 := Kd.own_of_R ho0
  have o2 := Kd.own_of_R ho2
  obtain ⟨_, hv2⟩ := o2
  rcases hv2 with ⟨_, h0⟩ | ⟨g2, c2, cur2, rfl, hb2, hg2, hn2, hm2, hs2, ht2⟩
  · omega
  rw [Nat.mul_one] at ht2
  have hP2 : P2_ g2 := ho2.1 g2 rfl
  have hls : (l0.take ((i : Nat) : Int).toNat ++ l2 ++ l0.drop ((i : Nat) : Int).toNat).length = l0.length + l2.length := by simp; omega
  have hlen : ∀ xs : List Int, (encs (Value.int .i64) xs).length = xs.length := fun xs => by simp [encs]
  have hone : ∀ xs : List Int, ∀ v ∈ encs (Value.int .i64) xs, v.oneCell' = true := fun xs v hv => by
    simp [encs] at hv
    obtain ⟨x, _, rfl⟩ := hv
    rfl
  have hvs : ∀ j v, (encs (Value.int .i64) l2)[j]? = some v → w.cell? ⟨g2, 0 + j, none⟩ = some v := fun j v hj => by
    rw [Nat.zero_add]
    exact ins_get hg2 ht2 j v hj
  have hbW := hB.size
  obtain ⟨_, hv0⟩ := o0
  by_cases hend : i = l0.length
  · subst hend
    have hel : l0.take ((l0.length : Nat) : Int).toNat ++ l2 ++ l0.drop ((l0.length : Nat) : Int).toNat = l0 ++ l2 := by simp
    rw [hel]
    have grow : ∀ (base : Option Addr) (c : Nat), u9000_ = .slice base l0.length c → l0.length ≤ c → c < l0.length + l2.length → (base = none → l0.length = 0) → (∀ a, base = some a → ∀ j v, (encs (Value.int .i64) l0)[j]? = some v → w.cell? (a.add j) = some v) →
        Calls Try.prog 66 #[u9000_, .int .i64 (l0.length : Int), .slice (some ⟨g2, 0, none⟩) l2.length c2] w fun e w' => ∃ v0_ : Value, e = .returned (v0_) ∧ Kd.R (Kd.int .i64) 3 w' w0.heap.size (fun k_ => ((P0_ k_ ∨ P2_ k_) ∨ w.heap.size ≤ k_)) v0_ (l0 ++ l2) ∧ Below w0.heap.size w0 w' ∧ Kept w w' (fun k_ => P0_ k_ ∨ P2_ k_) := by
      rintro base c rfl hn hroom hnil hcs
      have hcap := grownCap_ge w (l0.length + l2.length) c 3
      have hcap2 := grownCap_le_maxLen w (l0.length + l2.length) c 3 (by unfold maxLen; omega)
      refine (Any2.slices_Insert_int_end_grow Try.laysIns base l0.length c g2 0 l2.length c2 (encs (Value.int .i64) l0) (encs (Value.int .i64) l2) w h3 hn hroom (by omega) (hlen _) (hlen _) hnil hcs hvs (hone _)).mono ?_
      rintro e w' ⟨rfl, rfl⟩
      have hren : Try.laysIns_ren.t 3 = 3 := rfl
      rw [hren]
      generalize hcp : grownCap w (l0.length + l2.length) c 3 = cap at hcap hcap2
      have hA : ∃ A : Array Value, A = ((encs (Value.int .i64) l0 ++ encs (Value.int .i64) l2).toArray ++ Builtin.zeroCells (Value.int .i64 0).cells (cap - (l0.length + l2.length))) := ⟨_, rfl⟩
      obtain ⟨A, hA⟩ := hA
      have hz : (Value.int .i64 0).cells.size = 1 := rfl
      have hAs : A.size = cap := by
        rw [hA, Array.size_append, size_zeroCells, hz, List.size_toArray, List.length_append, hlen, hlen]
        omega
      rw [← hA]
      have q0 : (w.drew.alloc (.cells A 3)).heap[w.heap.size]? = some (.cells A 3 (0, 0)) := World.alloc_heap_new w.drew _
      refine ⟨_, rfl, ?_, (below_drew hB).alloc hbW _, ?_⟩
      · rw [← List.length_append]
        refine ins_own _ hbW q0 (by rw [List.length_append]; omega) hcap2 hAs ?_ (.inr (Nat.le_refl _))
        rw [hA, Array.toList_append, List.take_append_of_le_length (by simp [encs])]
        simp only [encs, List.length_append, ← List.map_append]
        exact List.take_of_length_le (by simp)
      · refine ⟨by show w.heap.size ≤ (w.drew.alloc _).heap.size; simp, fun k hk hnk => ?_⟩
        exact Below.heap_alloc w.drew _ k hk
    rcases hv0 with ⟨rfl, h0⟩ | ⟨g, c, cur, rfl, hb, hg, hn, hm, hs, ht⟩
    · exact grow none 0 (by rw [h0]) (by omega) (by omega) (fun _ => h0) (fun a e => by cases e)
    · rw [Nat.mul_one] at ht
      by_cases hroom : l0.length + l2.length ≤ c
      · refine (Any2.slices_Insert_int_end_room Try.laysIns g 0 l0.length c g2 0 l2.length c2 (encs (Value.int .i64) l2) w h3 hroom (by unfold maxLen at hm; omega) (hlen _) ?_ ?_ hvs (hone _)).mono ?_
        · intro j hj
          simp only [World.cell?, hg, Nat.zero_add]
          simp
          omega
        · intro j hj
          simp [World.frozen?, hg]
        · rintro e w' ⟨rfl, rfl⟩
          obtain ⟨cur3, q1, q2, q3⟩ := ins_cells g (encs (Value.int .i64) l2) (0 + l0.length) w cur hg (by rw [hlen]; omega)
          refine ⟨_, rfl, ?_, ins_below hb _ _ _ hB, ?_⟩
          · rw [← List.length_append]
            refine ins_own _ hb q1 (by rw [List.length_append]; omega) hm (by omega) ?_ (.inl (.inl (ho0.1 g rfl)))
            rw [q3, hlen, Nat.zero_add, ht, List.take_append_of_le_length (by simp [encs])]
            simp only [encs, List.length_append, ← List.map_append]
            exact List.take_of_length_le (by simp)
          · refine ⟨by rw [ins_size]; exact Nat.le_refl _, fun k hk hnk => ?_⟩
            have hkg : k ≠ g := fun e => hnk (.inl (e ▸ ho0.1 g rfl))
            rw [ins_other g _ _ _ k hkg]
      · exact grow (some ⟨g, 0, none⟩) c rfl hn (by omega) (fun e => by cases e) (fun a e j v hj => by
          cases e
          have := ins_get hg ht j v hj
          rw [Addr.add_lit, Nat.zero_add]
          exact this)
  · have hi : i < l0.length := by omega
    rcases hv0 with ⟨_, h0⟩ | ⟨g, c, cur, rfl, hb, hg, hn, hm, hs, ht⟩
    · omega
    rw [Nat.mul_one] at ht
    have hne : g2 ≠ g := fun e => hp2_0 g2 hP2 (e ▸ ho0.1 g rfl)
    have hcs : ∀ j v, (encs (Value.int .i64) l0)[j]? = some v → w.cell? ⟨g, 0 + j, none⟩ = some v := fun j v hj => by
      rw [Nat.zero_add]
      exact ins_get hg ht j v hj
    by_cases hroom : l0.length + l2.length ≤ c
    · refine (Any2.slices_Insert_int_shift Try.laysIns g 0 l0.length c i g2 0 l2.length c2 (encs (Value.int .i64) l0) (encs (Value.int .i64) l2) w hi h3 hroom (by unfold maxLen at hm; omega) hne (hlen _) (hlen _) hcs ?_ ?_ hvs (hone _) (hone _) 3 3 cur2.size cur.size ?_ ?_ ?_ ?_ ?_).mono ?_
      · intro j hj
        simp only [World.cell?, hg, Nat.zero_add]
        simp
        omega
      · intro j hj
        simp [World.frozen?, hg]
      · simp [World.shape?, hg2]
      · simp [World.shape?, hg]
      · omega
      · simp [World.frozen?, hg2]
      · simp [World.frozen?, hg2]
      · rintro e w' ⟨rfl, rfl⟩
        have hdl : ((encs (Value.int .i64) l0).drop i).length = l0.length - i := by rw [List.length_drop, hlen]
        obtain ⟨cur3, q1, q2, q3⟩ := ins_cells g ((encs (Value.int .i64) l0).drop i) (0 + (i + l2.length)) w.drew cur hg (by rw [hdl]; omega)
        obtain ⟨cur4, q4, q5, q6⟩ := ins_cells g (encs (Value.int .i64) l2) (0 + i) _ cur3 q1 (by rw [hlen]; omega)
        refine ⟨_, rfl, ?_, ?_, ?_⟩
        · rw [← hls]
          refine ins_own _ hb q4 (by omega) hm (by omega) ?_ (.inl (.inl (ho0.1 g rfl)))
          rw [hls, q6, q3, hlen, hdl, Nat.zero_add, Nat.zero_add]
          rw [ins_shift cur.toList (encs (Value.int .i64) l0) (encs (Value.int .i64) l2) l0.length l2.length i ht (by omega) (by simp; omega) (hlen _)]
          simp [encs]
        · exact ins_below hb _ _ _ (ins_below hb _ _ _ (below_drew hB))
        · refine ⟨by rw [ins_size, ins_size]; exact Nat.le_refl _, fun k hk hnk => ?_⟩
          have hkg : k ≠ g := fun e => hnk (.inl (e ▸ ho0.1 g rfl))
          rw [ins_other g _ _ _ k hkg, ins_other g _ _ _ k hkg]
          rfl
    · have hcap := grownCap_ge w (l0.length + l2.length) c 3
      have hcap2 := grownCap_le_maxLen w (l0.length + l2.length) c 3 (by unfold maxLen; omega)
      refine (Any2.slices_Insert_int_grow Try.laysIns g 0 l0.length c i g2 0 l2.length c2 (encs (Value.int .i64) l0) (encs (Value.int .i64) l2) w hi h3 hn (by omega) (by omega) (hlen _) (hlen _) hcs hvs (hone _) (hone _)).mono ?_
      rintro e w' ⟨rfl, rfl⟩
      have hdl : ((encs (Value.int .i64) l0).drop i).length = l0.length - i := by rw [List.length_drop, hlen]
      have hren : Try.laysIns_ren.t 3 = 3 := rfl
      rw [hren]
      generalize hcp : grownCap w (l0.length + l2.length) c 3 = cap at hcap hcap2
      have hA : ∃ A : Array Value, A = (((encs (Value.int .i64) l0).take i).toArray ++ Builtin.zeroCells (Value.int .i64 0).cells (l0.length + l2.length - i) ++ Builtin.zeroCells (Value.int .i64 0).cells (cap - (l0.length + l2.length))) := ⟨_, rfl⟩
      obtain ⟨A, hA⟩ := hA
      have hz : (Value.int .i64 0).cells.size = 1 := rfl
      have hAs : A.size = cap := by
        rw [hA, Array.size_append, Array.size_append, size_zeroCells, size_zeroCells, hz, List.size_toArray, List.length_take, hlen]
        omega
      have hAt : A.toList.take i = (encs (Value.int .i64) l0).take i := by
        rw [hA, Array.toList_append, Array.toList_append, List.append_assoc, List.take_append_of_le_length (by simp [hlen]; omega)]
        show List.take i (List.take i _) = _
        rw [List.take_take, Nat.min_self]
      rw [← hA]
      have q0 : (w.alloc (.cells A 3)).drew.heap[w.heap.size]? = some (.cells A 3 (0, 0)) := World.alloc_heap_new w _
      obtain ⟨cur3, q1, q2, q3⟩ := ins_cells w.heap.size (encs (Value.int .i64) l2) i (w.alloc (.cells A 3)).drew A q0 (by rw [hlen]; omega)
      obtain ⟨cur4, q4, q5, q6⟩ := ins_cells w.heap.size ((encs (Value.int .i64) l0).drop i) (i + l2.length) ((w.alloc (.cells A 3)).drew.setCells w.heap.size i (encs (Value.int .i64) l2)).drew cur3 q1 (by rw [hdl]; omega)
      refine ⟨_, rfl, ?_, ?_, ?_⟩
      · rw [← hls]
        refine ins_own _ hbW q4 (by omega) hcap2 (by omega) ?_ (.inr (Nat.le_refl _))
        rw [hls, q6, q3, hlen, hdl]
        rw [ins_grow A.toList (encs (Value.int .i64) l0) (encs (Value.int .i64) l2) l0.length l2.length i hAt (by omega) (hlen _) (by simp; omega) (hlen _)]
        simp [encs]
      · exact ins_below hbW _ _ _ (below_drew (ins_below hbW _ _ _ (below_drew (hB.alloc hbW _))))
      · refine ⟨by rw [ins_size]; show w.heap.size ≤ (World.setCells _ _ _ _).heap.size; rw [ins_size]; show w.heap.size ≤ (w.alloc _).heap.size; simp, fun k hk hnk => ?_⟩
        rw [ins_other _ _ _ _ k (by omega)]
        show (World.setCells _ _ _ _).heap[k]? = _
        rw [ins_other _ _ _ _ k (by omega)]
        exact Below.heap_alloc w _ k hk

end Go.Proofs.Ytooiajkbpkfplaa.Q

-- from Qf43
-- Made by hp.py, a program of this session, with the kit's printer. Not trusted: Lean checks it.
namespace Go.Proofs.Ytooiajkbpkfplaa.Q
open Go.RowKit Go.Proofs.YtooiajkbpkfplaaW.PrintWords Go.Proofs.YtooiajkbpkfplaaW.PrintLast Go.Proofs.YtooiajkbpkfplaaW.PrintMore
attribute [local go_sem] max2_int min2_int max_two min_two max_three min_three max_four min_four   -- for this text's walks alone
set_option linter.unusedVariables false
set_option linter.unusedSimpArgs false

/-! ### puny_Decode: function 43 -/
mutual
def puny_Decode.j1 : Nat → List Int → List Int → Option (List Int × Int)
  | 0, _, _ => none
  | k + 1, x0, x4 => puny_Decode.l1 k x0 x4 128 72 0 true
def puny_Decode.l1 : Nat → List Int → List Int → Int → Int → Int → Bool → Option (List Int × Int)
  | 0, _, _, _, _, _, _ => none
  | k + 1, x0, x4, x8, x9, x10, x11 => if (x0.length : Int) > 0 then ((puny_read.f k x0 x9).bind fun bt117 => (if bt117.2.2 = 0 then (if bt117.1 > (wrap64 (2147483647 - x10)) then (some (([] : List Int), 21)) else ((puny_adapt.f k bt117.1 (wrap64 ((x4.length : Int) + 1)) x11).bind fun t120 => (if (wrap64 ((x4.length : Int) + 1)) = 0 then (none) else (if (wrap64 (Int.tdiv (wrap64 (x10 + bt117.1)) (wrap64 ((x4.length : Int) + 1)))) > (wrap64 (2147483647 - x8)) then (some (([] : List Int), 21)) else ((utf_Scalar.f (wrap64 (x8 + (wrap64 (Int.tdiv (wrap64 (x10 + bt117.1)) (wrap64 ((x4.length : Int) + 1))))))).bind fun t121 => (if t121 = true then ((slices_Insert_int_int.f x4 (Int.tmod (wrap64 (x10 + bt117.1)) (wrap64 ((x4.length : Int) + 1))) (([wrap64 (x8 + (wrap64 (Int.tdiv (wrap64 (x10 + bt117.1)) (wrap64 ((x4.length : Int) + 1)))))] : List Int))).bind fun t125 => (if 0 ≤ bt117.2.1 then (if bt117.2.1 ≤ (x0.length : Int) then (puny_Decode.l1 k (x0.drop (bt117.2.1 : Int).toNat) t125 (wrap64 (x8 + (wrap64 (Int.tdiv (wrap64 (x10 + bt117.1)) (wrap64 ((x4.length : Int) + 1)))))) t120 (wrap64 ((Int.tmod (wrap64 (x10 + bt117.1)) (wrap64 ((x4.length : Int) + 1))) + 1)) false) else (none)) else (none))) else (some (([] : List Int), 10)))))))) else (some (([] : List Int), bt117.2.2)))) else (some (x4, 0))
def puny_Decode.l0 : Nat → List Int → List Int → Int → List Int → Int → Int → Option (List Int × Int)
  | 0, _, _, _, _, _, _ => none
  | k + 1, x0, x4, x5, x29, x30, x31 => if x31 < x30 then (if 0 ≤ x31 then (if x31 < (x29.length : Int) then (if x4.length < 17592186044416 then (puny_Decode.l0 k x0 (x4 ++ [wrap64 (rd x29 x31)]) x5 x29 x30 (wrap64 (x31 + 1))) else (none)) else (none)) else (none)) else (if 0 ≤ (wrap64 (x5 + 1)) then (if (wrap64 (x5 + 1)) ≤ (x0.length : Int) then (puny_Decode.j1 k (x0.drop ((wrap64 (x5 + 1)) : Int).toNat) x4) else (none)) else (none))
end
def puny_Decode.f (k : Nat) (l0 : List Int) : Option (List Int × Int) := if (l0.length : Int) > 12000 then (some (([] : List Int), 36)) else ((slices_ContainsFunc_byte_byte_at_puny_Decode_1.f k l0).bind fun t101 => (if t101 = true then (some (([] : List Int), 20)) else ((bytes_LastIndexByte.f k l0 45).bind fun t102 => (if t102 > 0 then (if 0 ≤ t102 then (if t102 ≤ (l0.length : Int) then ((some (l0.take (t102 : Int).toNat : List Int)).bind fun y103 => (puny_Decode.l0 k l0 ([] : List Int) t102 y103 (y103.length : Int) 0)) else (none)) else (none)) else (puny_Decode.j1 k l0 ([] : List Int))))))
theorem puny_Decode.mono_l : ∀ k, (∀ y0 y1, LeO (puny_Decode.j1 k y0 y1) (puny_Decode.j1 (k + 1) y0 y1)) ∧ (∀ y0 y1 y2 y3 y4 y5, LeO (puny_Decode.l1 k y0 y1 y2 y3 y4 y5) (puny_Decode.l1 (k + 1) y0 y1 y2 y3 y4 y5)) ∧ (∀ y0 y1 y2 y3 y4 y5, LeO (puny_Decode.l0 k y0 y1 y2 y3 y4 y5) (puny_Decode.l0 (k + 1) y0 y1 y2 y3 y4 y5))
  | 0 => ⟨fun _ _ r h => by simp [puny_Decode.j1] at h, fun _ _ _ _ _ _ r h => by simp [puny_Decode.l1] at h, fun _ _ _ _ _ _ r h => by simp [puny_Decode.l0] at h⟩
  | k + 1 => by
    obtain ⟨ih0, ih1, ih2⟩ := puny_Decode.mono_l k
    refine ⟨?_, ?_, ?_⟩
    · intro y0 y1
      unfold puny_Decode.j1
      repeat' first
      | (with_reducible exact ih0 _ _)
      | (with_reducible exact ih1 _ _ _ _ _ _)
      | (with_reducible exact ih2 _ _ _ _ _ _)
      | (with_reducible exact bytes_LastIndexByte.mono _ _ _)
      | (with_reducible exact puny_adapt.mono _ _ _ _)
      | (with_reducible exact puny_read.mono _ _ _)
      | (with_reducible exact slices_ContainsFunc_byte_byte_at_puny_Decode_1.mono _ _)
      | (with_reducible exact LeO.refl _)
      | (with_reducible exact LeO.none _)
      | (with_reducible refine LeO.ite ?_ ?_)
      | (with_reducible refine LeO.bind ?_ (fun _ => ?_))
      | exact ih0 _ _
      | exact ih1 _ _ _ _ _ _
      | exact ih2 _ _ _ _ _ _
      | exact bytes_LastIndexByte.mono _ _ _
      | exact puny_adapt.mono _ _ _ _
      | exact puny_read.mono _ _ _
      | exact slices_ContainsFunc_byte_byte_at_puny_Decode_1.mono _ _
      | exact LeO.none _
      | refine LeO.ite ?_ ?_
      | refine LeO.bind ?_ (fun _ => ?_)
    · intro y0 y1 y2 y3 y4 y5
      unfold puny_Decode.l1
      repeat' first
      | (with_reducible exact ih0 _ _)
      | (with_reducible exact ih1 _ _ _ _ _ _)
      | (with_reducible exact ih2 _ _ _ _ _ _)
      | (with_reducible exact bytes_LastIndexByte.mono _ _ _)
      | (with_reducible exact puny_adapt.mono _ _ _ _)
      | (with_reducible exact puny_read.mono _ _ _)
      | (with_reducible exact slices_ContainsFunc_byte_byte_at_puny_Decode_1.mono _ _)
      | (with_reducible exact LeO.refl _)
      | (with_reducible exact LeO.none _)
      | (with_reducible refine LeO.ite ?_ ?_)
      | (with_reducible refine LeO.bind ?_ (fun _ => ?_))
      | exact ih0 _ _
      | exact ih1 _ _ _ _ _ _
      | exact ih2 _ _ _ _ _ _
      | exact bytes_LastIndexByte.mono _ _ _
      | exact puny_adapt.mono _ _ _ _
      | exact puny_read.mono _ _ _
      | exact slices_ContainsFunc_byte_byte_at_puny_Decode_1.mono _ _
      | exact LeO.none _
      | refine LeO.ite ?_ ?_
      | refine LeO.bind ?_ (fun _ => ?_)
    · intro y0 y1 y2 y3 y4 y5
      unfold puny_Decode.l0
      repeat' first
      | (with_reducible exact ih0 _ _)
      | (with_reducible exact ih1 _ _ _ _ _ _)
      | (with_reducible exact ih2 _ _ _ _ _ _)
      | (with_reducible exact bytes_LastIndexByte.mono _ _ _)
      | (with_reducible exact puny_adapt.mono _ _ _ _)
      | (with_reducible exact puny_read.mono _ _ _)
      | (with_reducible exact slices_ContainsFunc_byte_byte_at_puny_Decode_1.mono _ _)
      | (with_reducible exact LeO.refl _)
      | (with_reducible exact LeO.none _)
      | (with_reducible refine LeO.ite ?_ ?_)
      | (with_reducible refine LeO.bind ?_ (fun _ => ?_))
      | exact ih0 _ _
      | exact ih1 _ _ _ _ _ _
      | exact ih2 _ _ _ _ _ _
      | exact bytes_LastIndexByte.mono _ _ _
      | exact puny_adapt.mono _ _ _ _
      | exact puny_read.mono _ _ _
      | exact slices_ContainsFunc_byte_byte_at_puny_Decode_1.mono _ _
      | exact LeO.none _
      | refine LeO.ite ?_ ?_
      | refine LeO.bind ?_ (fun _ => ?_)
theorem puny_Decode.mono : ∀ a0 k, LeO (puny_Decode.f k a0) (puny_Decode.f (k + 1) a0) := by
  intro a0 k
  obtain ⟨ih0, ih1, ih2⟩ := puny_Decode.mono_l k
  unfold puny_Decode.f
  repeat' first
      | (with_reducible exact ih0 _ _)
      | (with_reducible exact ih1 _ _ _ _ _ _)
      | (with_reducible exact ih2 _ _ _ _ _ _)
      | (with_reducible exact bytes_LastIndexByte.mono _ _ _)
      | (with_reducible exact puny_adapt.mono _ _ _ _)
      | (with_reducible exact puny_read.mono _ _ _)
      | (with_reducible exact slices_ContainsFunc_byte_byte_at_puny_Decode_1.mono _ _)
      | (with_reducible exact LeO.refl _)
      | (with_reducible exact LeO.none _)
      | (with_reducible refine LeO.ite ?_ ?_)
      | (with_reducible refine LeO.bind ?_ (fun _ => ?_))
      | exact ih0 _ _
      | exact ih1 _ _ _ _ _ _
      | exact ih2 _ _ _ _ _ _
      | exact bytes_LastIndexByte.mono _ _ _
      | exact puny_adapt.mono _ _ _ _
      | exact puny_read.mono _ _ _
      | exact slices_ContainsFunc_byte_byte_at_puny_Decode_1.mono _ _
      | exact LeO.none _
      | refine LeO.ite ?_ ?_
      | refine LeO.bind ?_ (fun _ => ?_)
set_option maxHeartbeats 8000000 in
set_option maxRecDepth 100000 in
theorem puny_Decode.calls (k : Nat) (P0_ : Nat → Prop) (A0 : Option Addr) (c0 : Nat) (l0 : List Int) (r1 : List Int) (r2 : Int) (w : World) (hs0 : Kd.V (Kd.int .u8) 5 w w.heap.size (fun k_ => P0_ k_) (.slice A0 l0.length c0) l0) (h : puny_Decode.f k l0 = some (r1, r2)) :
    Calls Try.prog 43 #[.slice A0 l0.length c0] w fun e w' => ∃ v0_ : Value, e = .returned (.tuple #[v0_, .int .i64 r2]) ∧ Kd.R (Kd.int .i64) 3 w' w.heap.size (fun k_ => (w.heap.size ≤ k_)) v0_ r1 ∧ Below w.heap.size w w' := by
  have HO0 := Aside0.mk (show Kd.V (Kd.int .u8) 5 w w.heap.size (fun k_ => (P0_ k_ ∨ w.heap.size ≤ k_)) (.slice A0 l0.length c0) l0 from Kd.V_mono hs0 (fun k_ hk => .inl hk))
  have HB := Aside0.mk (Below.refl w.heap.size w)
  have H : (if (l0.length : Int) > 12000 then (some (([] : List Int), 36)) else ((slices_ContainsFunc_byte_byte_at_puny_Decode_1.f k l0).bind fun t101 => (if t101 = true then (some (([] : List Int), 20)) else ((bytes_LastIndexByte.f k l0 45).bind fun t102 => (if t102 > 0 then (if 0 ≤ t102 then (if t102 ≤ (l0.length : Int) then ((some (l0.take (t102 : Int).toNat : List Int)).bind fun y103 => (puny_Decode.l0 k l0 ([] : List Int) t102 y103 (y103.length : Int) 0)) else (none)) else (none)) else (puny_Decode.j1 k l0 ([] : List Int))))))) = some (r1, r2) := h
  clear h
  by_cases c2 : (l0.length : Int) > 12000
  · rw [if_pos c2] at H
    have c2b0 : decide (12000 < (l0.length : Int)) = true := decide_eq_true c2
    have c2b1 : decide (12000 < l0.length) = true := decide_eq_true (by omega)
    clear c2
    simp only [Option.some.injEq, Prod.mk.injEq] at H
    obtain ⟨rfl, rfl⟩ := H
    go_enter Try.func43, Try.ntmps43
    go_wp2
    go_ret2
    exact ⟨_, by first | rfl | (simp [errW_none, errW_some] <;> rfl) | (simp [*, errW_none, errW_some] <;> rfl), by first | exact Kd.R_nil _ _ _ _ _ | exact Kd.N_nil _ _ _ _ _ | exact Kd.V_nil _ _ _ _ _ | exact Kd.Q_nil _ _ _ _ _ | exact Kd.S_nil _ _ _ _ _, by repeat (first | (with_reducible first | exact HB.out | apply below_alloc | apply pw_below_drewN | apply below_drew1) | exact HB.out)⟩
  · rw [if_neg c2] at H
    have c2b0 : decide (12000 < (l0.length : Int)) = false := decide_eq_false c2
    have c2b1 : decide (12000 < l0.length) = false := decide_eq_false (by omega)
    clear c2
    replace H := Option.bind_eq_some_iff.mp H
    obtain ⟨t101, A30, H⟩ := H
    replace H : (if t101 = true then (some (([] : List Int), 20)) else ((bytes_LastIndexByte.f k l0 45).bind fun t102 => (if t102 > 0 then (if 0 ≤ t102 then (if t102 ≤ (l0.length : Int) then ((some (l0.take (t102 : Int).toNat : List Int)).bind fun y103 => (puny_Decode.l0 k l0 ([] : List Int) t102 y103 (y103.length : Int) 0)) else (none)) else (none)) else (puny_Decode.j1 k l0 ([] : List Int))))) = some (r1, r2) := H
    have A3 := Aside0.mk A30
    clear A30
    by_cases c4 : t101 = true
    · subst c4
      have H1 : (some (([] : List Int), 20)) = some (r1, r2) := by rw [if_pos rfl] at H; exact H
      clear H
      have H := H1
      clear H1
      simp only [Option.some.injEq, Prod.mk.injEq] at H
      obtain ⟨rfl, rfl⟩ := H
      go_enter Try.func43, Try.ntmps43
      go_wp2_with (first | (go_at_call 46; (with_reducible refine (slices_ContainsFunc_byte_byte_at_puny_Decode_1.calls k _ _ l0 true _ ?side1 ?side2 A3.out).mono ?_); (case side1 => repeat (first | exact (Kd.V_reads' HO0.out).2.2 | (with_reducible refine Kd.C_alloc ?_ _) | (with_reducible refine Kd.C_drewN ?_ _) | (with_reducible refine Kd.C_drew ?_))); (case side2 => exact (Kd.V_reads' HO0.out).2.1); rintro e w' ⟨rfl, ⟨nd, rfl⟩⟩))
      go_ret2
      exact ⟨_, by first | rfl | (simp [errW_none, errW_some] <;> rfl) | (simp [*, errW_none, errW_some] <;> rfl), by first | exact Kd.R_nil _ _ _ _ _ | exact Kd.N_nil _ _ _ _ _ | exact Kd.V_nil _ _ _ _ _ | exact Kd.Q_nil _ _ _ _ _ | exact Kd.S_nil _ _ _ _ _, by repeat (first | (with_reducible first | exact HB.out | apply below_alloc | apply pw_below_drewN | apply below_drew1) | exact HB.out)⟩
    · replace c4 := Bool.eq_false_iff.mpr c4
      subst c4
      have H1 : ((bytes_LastIndexByte.f k l0 45).bind fun t102 => (if t102 > 0 then (if 0 ≤ t102 then (if t102 ≤ (l0.length : Int) then ((some (l0.take (t102 : Int).toNat : List Int)).bind fun y103 => (puny_Decode.l0 k l0 ([] : List Int) t102 y103 (y103.length : Int) 0)) else (none)) else (none)) else (puny_Decode.j1 k l0 ([] : List Int)))) = some (r1, r2) := by rw [if_neg (show ¬ (false = true) by decide)] at H; exact H
      clear H
      have H := H1
      clear H1
      replace H := Option.bind_eq_some_iff.mp H
      obtain ⟨t102, A50, H⟩ := H
      replace H : (if t102 > 0 then (if 0 ≤ t102 then (if t102 ≤ (l0.length : Int) then ((some (l0.take (t102 : Int).toNat : List Int)).bind fun y103 => (puny_Decode.l0 k l0 ([] : List Int) t102 y103 (y103.length : Int) 0)) else (none)) else (none)) else (puny_Decode.j1 k l0 ([] : List Int))) = some (r1, r2) := H
      have A5 := Aside0.mk A50
      clear A50
      have HC6 := Aside0.mk H
      clear H
      go_enter Try.func43, Try.ntmps43
      go_upto_if 26 with (first | (go_at_call 46; (with_reducible refine (slices_ContainsFunc_byte_byte_at_puny_Decode_1.calls k _ _ l0 false _ ?side1 ?side2 A3.out).mono ?_); (case side1 => repeat (first | exact (Kd.V_reads' HO0.out).2.2 | (with_reducible refine Kd.C_alloc ?_ _) | (with_reducible refine Kd.C_drewN ?_ _) | (with_reducible refine Kd.C_drew ?_))); (case side2 => exact (Kd.V_reads' HO0.out).2.1); rintro e w' ⟨rfl, ⟨nd, rfl⟩⟩) | ((with_reducible refine gate_callee (f := 64) rfl ?_); refine goesL_ (some 24) rfl rfl Try.func64 (by kernel_rfl) rfl #[.slice A0 l0.length c0, .int .u8 45] rfl (by (try simp only [List.map_toArray, List.map_cons, List.map_nil]); first | done | rfl | (simp only [List.length_drop, List.length_take]; rfl)) ?_; (with_reducible refine (bytes_LastIndexByte.calls k _ _ l0 45 t102 _ ?side1 ?side2 A5.out).mono ?_); (case side1 => repeat (first | exact (Kd.V_reads' HO0.out).2.2 | (with_reducible refine Kd.C_alloc ?_ _) | (with_reducible refine Kd.C_drewN ?_ _) | (with_reducible refine Kd.C_drew ?_))); (case side2 => exact (Kd.V_reads' HO0.out).2.1); rintro e w' ⟨rfl, ⟨nd, rfl⟩⟩; refine ⟨_, rfl, ?_⟩))
      (try simp only [Act.put, List.setIfInBounds_toArray, List.set_cons_zero, List.set_cons_succ])
      go_cut [0, 4] (fun v0 v4 wc => ∃ (kq : Nat) (x0_5 : List Int) (x4_5 : List Int), Aside0 (puny_Decode.j1 kq x0_5 x4_5 = some (r1, r2)) ∧ Aside0 (kq ≤ k) ∧ Aside0 (Kd.V (Kd.int .u8) 5 wc w.heap.size (fun k_ => (P0_ k_ ∨ w.heap.size ≤ k_) ∧ some k_ ≠ (v4 : Value).ownBlock) v0 x0_5) ∧ Aside0 (Kd.R (Kd.int .i64) 3 wc w.heap.size (fun k_ => (w.heap.size ≤ k_)) v4 x4_5) ∧ Aside0 (Below w.heap.size w wc))
      case first =>
        have H := HC6.out
        clear HC6
        by_cases c7 : t102 > 0
        · rw [if_pos c7] at H
          have c7b0 : decide (0 < t102) = true := decide_eq_true c7
          clear c7
          (first | rw [c7b0] | (simp only [i64_w, i32_w]; rw [c7b0]) | rw [c7b1] | (simp only [i64_w, i32_w]; rw [c7b1]) | skip)
          by_cases c8 : 0 ≤ t102
          · rw [if_pos c8] at H
            have c8b0 := eq_true c8
            have c8b1 : decide (0 ≤ t102) = true := decide_eq_true c8
            clear c8
            by_cases c9 : t102 ≤ (l0.length : Int)
            · rw [if_pos c9] at H
              have c9b0 := eq_true c9
              have c9b1 : decide (t102 ≤ (l0.length : Int)) = true := decide_eq_true c9
              clear c9
              obtain ⟨y103, hy103⟩ : ∃ y_ : List Int, y_ = (l0.take (t102 : Int).toNat) := ⟨_, rfl⟩
              replace H : (puny_Decode.l0 k l0 ([] : List Int) t102 y103 (y103.length : Int) 0) = some (r1, r2) := by first | (rw [hy103]; with_reducible exact H) | (have H2_ := (Option.bind_some _ _).symm.trans H; rw [hy103]; with_reducible exact H2_) | (have H2_ := (Option.bind_some _ _).symm.trans H; with_reducible exact H2_) | with_reducible exact H | (rw [hy103]; exact H) | exact H
              have Ny103 := Aside0.mk hy103
              clear hy103
              have H' := Aside0.mk H
              clear H
              have q10 : (t102 : Int) ≤ ((l0.length : Int) : Int) := of_decide_eq_true (by first | (with_reducible assumption) | assumption)
              obtain ⟨i010, hi010, _, hsz10, _⟩ := info_parts info5
              have hroom10 : l0.length ≤ c0 := (Kd.V_reads' HO0.out).2.1
              have hC10 : Kd.F (Kd.int .u8) _ _ A0 l0.length l0 := (Kd.V_at (base := w.heap.size) HO0.out).2.2
              have hcut10 := cut_to (P := Try.prog) 22 5 .i64 Try.underlying22 hi010 A0 l0.length c0 t102 (of_decide_eq_true (by first | (with_reducible assumption) | assumption)) q10 hroom10
              have hr10 := Kd.F_take (m := (t102 : Int).toNat) hC10 (by omega)
              have hy10 : y103.length = (t102 : Int).toNat := (by rw [Ny103.out, List.length_take]; omega)
              rw [← Ny103.out] at hr10
              rw [← hy10] at hcut10
              have HO107 := Aside0.mk (show Kd.V (Kd.int .u8) 5 _ w.heap.size _ (.slice A0 y103.length c0) y103 from Kd.V_mk (by omega) hr10)
              have HC107 := Aside0.mk (show y103.length ≤ c0 from by omega)
              clear hr10 hC10 hroom10 hi010 hsz10
              have KY10 := Aside0.mk hy10
              clear hy10
              replace q10 := eq_true q10
              go_wp2
              go_loopg [4, 31] k (fun kq v4 v31 w' => ∃ (x4_1 : List Int) (x31_1 : Int), v31 = .int .i64 x31_1 ∧ Aside0 (puny_Decode.l0 kq l0 x4_1 t102 y103 (y103.length : Int) x31_1 = some (r1, r2)) ∧ Aside0 (kq ≤ k) ∧ Aside0 (Kd.V (Kd.int .u8) 5 w' w.heap.size (fun k_ => (P0_ k_ ∨ w.heap.size ≤ k_) ∧ some k_ ≠ (v4 : Value).ownBlock) (.slice A0 l0.length c0) l0) ∧ Aside0 (Kd.R (Kd.int .i64) 3 w' w.heap.size (fun k_ => (w.heap.size ≤ k_)) v4 x4_1) ∧ Aside0 (Kd.V (Kd.int .u8) 5 w' w.heap.size (fun k_ => (P0_ k_ ∨ w.heap.size ≤ k_) ∧ some k_ ≠ (v4 : Value).ownBlock) (.slice A0 y103.length c0) y103) ∧ Aside0 (Below w.heap.size w w'))
              case atStart => exact ⟨(([] : List Int)), (0), (by first | rfl | (simp; done) | (simp [*]; done)), H', ⟨Nat.le_refl _⟩, ⟨by (with_reducible repeat (first | apply Kd.V_alloc | apply Kd.V_drewN | apply Kd.V_drew)); exact Kd.V_mono HO0.out (fun _ hk => ⟨hk, (by simp [Value.ownBlock])⟩)⟩, ⟨by first | exact Kd.R_nil _ _ _ _ _ | exact Kd.N_nil _ _ _ _ _ | exact Kd.V_nil _ _ _ _ _ | exact Kd.Q_nil _ _ _ _ _ | exact Kd.S_nil _ _ _ _ _⟩, ⟨by (with_reducible repeat (first | apply Kd.V_alloc | apply Kd.V_drewN | apply Kd.V_drew)); exact Kd.V_mono HO107.out (fun _ hk => ⟨hk, (by simp [Value.ownBlock])⟩)⟩, ⟨by repeat (first | (with_reducible first | exact HB.out | apply below_alloc | apply pw_below_drewN | apply below_drew1) | exact HB.out)⟩⟩
              case round =>
                clear H'
                try clear q1
                try clear c2
                try clear c2b0
                try clear c2b1
                try clear p2
                try clear c4
                try clear c6
                try clear c7
                try clear c7b0
                try clear c7b1
                try clear c8
                try clear c8b0
                try clear c8b1
                try clear c9
                try clear c9b0
                try clear c9b1
                try clear q10
                try clear q10
                obtain ⟨x4_1, x31_1, rfl, HA, HK1, HO_0, HO_4, HO_29, HB⟩ := hrel
                cases gk with
                | zero => exact absurd HA.out (by simp [puny_Decode.l0])
                | succ k1 =>
                  have H := HA.out
                  clear HA
                  simp only [puny_Decode.l0] at H
                  by_cases c11 : x31_1 < (y103.length : Int)
                  · rw [if_pos c11] at H
                    have c11b0 : decide (x31_1 < (y103.length : Int)) = true := decide_eq_true c11
                    clear c11
                    by_cases c12 : 0 ≤ x31_1
                    · rw [if_pos c12] at H
                      have c12b0 : decide (0 ≤ x31_1) = true := decide_eq_true c12
                      clear c12
                      by_cases c13 : x31_1 < (y103.length : Int)
                      · rw [if_pos c13] at H
                        have c13b0 : decide (x31_1 < (y103.length : Int)) = true := decide_eq_true c13
                        clear c13
                        by_cases c14 : x4_1.length < 17592186044416
                        · rw [if_pos c14] at H
                          have LMc14 := Aside0.mk c14
                          clear c14
                          obtain ⟨y109, hy109⟩ : ∃ y_ : List Int, y_ = (x4_1 ++ [wrap64 (rd y103 x31_1)]) := ⟨_, rfl⟩
                          replace H : (puny_Decode.l0 k1 l0 y109 t102 y103 (y103.length : Int) (wrap64 (x31_1 + 1))) = some (r1, r2) := by first | (rw [hy109]; with_reducible exact H) | (have H2_ := (Option.bind_some _ _).symm.trans H; rw [hy109]; with_reducible exact H2_) | (have H2_ := (Option.bind_some _ _).symm.trans H; with_reducible exact H2_) | with_reducible exact H | (rw [hy109]; exact H) | exact H
                          have Ny109 := Aside0.mk hy109
                          clear hy109
                          have H' := Aside0.mk H
                          clear H
                          have p108 : 0 ≤ (x31_1 : Int) := of_decide_eq_true (by first | (with_reducible assumption) | assumption)
                          have q108 : x31_1 < (y103.length : Int) := of_decide_eq_true (by first | (with_reducible assumption) | assumption)
                          obtain ⟨ad108, e108, hx108_0⟩ := Kd.at_int (Kd.V_reads' HO_29.out).2.2 x31_1 p108 q108
                          cases e108
                          replace p108 := eq_true p108
                          replace q108 := eq_true q108
                          go_wp2_with (first | ((with_reducible refine gate_builtin (b := .append) (xs := #[.tmp 35, .tmp 38]) rfl ?_); at_builtin; refine Kd.R_append (Kd.int .i64) (w0 := w) w.heap.size rfl (.tmp 35) (.tmp 38) 31 3 (.int .i64 0) 8 rfl Try.underlying31 info3 rfl (by decide) (by omega) u4 x4_1 (wrap64 (rd y103 x31_1)) [.int .i64 (wrap64 (rd y103 x31_1))] (fun k_ => (w.heap.size ≤ k_)) (fun _ => False) rfl rfl ?aP (fun _ hk => hk.elim) ?aF ?aO ?aB ?aS ?aL ?_; (case aP => exact rfl); (case aB => exact (by repeat (first | (with_reducible first | exact HB.out | apply below_alloc | apply pw_below_drewN | apply below_drew1) | exact HB.out))); (case aF => exact (fun k_ hk => (Nat.le_trans (below_size (by repeat (first | (with_reducible first | exact HB.out | apply below_alloc | apply pw_below_drewN | apply below_drew1) | exact HB.out))) hk))); (case aO => exact (by (with_reducible repeat (first | apply Kd.R_alloc | apply Kd.R_drewN | apply Kd.R_drew)); exact HO_4.out)); (case aS => exact (below_size (by repeat (first | (with_reducible first | exact HB.out | apply below_alloc | apply pw_below_drewN | apply below_drew1) | exact HB.out)))); (case aL => have := LMc14.out; omega); intro v110 w15 ho hb hg hat; rw [← Ny109.out] at ho; have n0_ := Aside0.mk (Kd.V_afterv (ok := (fun k_ => (P0_ k_ ∨ w.heap.size ≤ k_))) (by (with_reducible repeat (first | apply Kd.V_alloc | apply Kd.V_drewN | apply Kd.V_drew)); exact HO_0.out) hg hat); have n1_ := Aside0.mk (Kd.V_afterv (ok := (fun k_ => (P0_ k_ ∨ w.heap.size ≤ k_))) (by (with_reducible repeat (first | apply Kd.V_alloc | apply Kd.V_drewN | apply Kd.V_drew)); exact HO_29.out) hg hat); have n2_ := Aside0.mk (hb); have n3_ := Aside0.mk (ho); clear HO_0; clear HO_29; clear HB; clear HO_4; have HO_0 := n0_; have HO_29 := n1_; have HB := n2_; have HO111 := n3_; clear n0_ n1_ n2_ n3_; clear ho hb hg hat))
                          go_roundg k1
                          case measure => have := HK1.out; omega
                          case rel => exact ⟨(y109), (wrap64 (x31_1 + 1)), (by first | rfl | (simp; done) | (simp [*]; done)), H', ⟨by have := HK1.out; omega⟩, ⟨by (with_reducible repeat (first | apply Kd.V_alloc | apply Kd.V_drewN | apply Kd.V_drew)); exact HO_0.out⟩, ⟨by (with_reducible repeat (first | apply Kd.R_alloc | apply Kd.R_drewN | apply Kd.R_drew)); exact HO111.out⟩, ⟨by (with_reducible repeat (first | apply Kd.V_alloc | apply Kd.V_drewN | apply Kd.V_drew)); exact HO_29.out⟩, ⟨by repeat (first | (with_reducible first | exact HB.out | apply below_alloc | apply pw_below_drewN | apply below_drew1) | exact HB.out)⟩⟩
                        · rw [if_neg c14] at H
                          exact absurd H (by simp)
                      · rw [if_neg c13] at H
                        exact absurd H (by simp)
                    · rw [if_neg c12] at H
                      exact absurd H (by simp)
                  · rw [if_neg c11] at H
                    have c11b0 : decide (x31_1 < (y103.length : Int)) = false := decide_eq_false c11
                    clear c11
                    obtain ⟨ji16, hji16⟩ : ∃ j_ : Int, (wrap64 (t102 + 1)) = j_ := ⟨_, rfl⟩
                    replace H : (if 0 ≤ (ji16) then (if (ji16) ≤ (l0.length : Int) then (puny_Decode.j1 k1 (l0.drop ((ji16) : Int).toNat) x4_1) else (none)) else (none)) = some (r1, r2) := by first | (rw [hji16] at H; exact H) | (simp only [hji16] at H ⊢; exact H)
                    have hji16w : (IntKind.i64.wrap (t102 + 1)) = ji16 := (i64_w _).trans hji16
                    by_cases c17 : 0 ≤ (ji16)
                    · rw [if_pos c17] at H
                      have c17b0 := eq_true c17
                      have c17b1 : decide (0 ≤ (ji16)) = true := decide_eq_true c17
                      clear c17
                      by_cases c18 : (ji16) ≤ (l0.length : Int)
                      · rw [if_pos c18] at H
                        have c18b0 := eq_true c18
                        have c18b1 : decide ((ji16) ≤ (l0.length : Int)) = true := decide_eq_true c18
                        clear c18
                        obtain ⟨y112, hy112⟩ : ∃ y_ : List Int, y_ = (l0.drop ((ji16) : Int).toNat) := ⟨_, rfl⟩
                        replace H : (puny_Decode.j1 k1 y112 x4_1) = some (r1, r2) := by first | (rw [hy112]; with_reducible exact H) | (have H2_ := (Option.bind_some _ _).symm.trans H; rw [hy112]; with_reducible exact H2_) | (have H2_ := (Option.bind_some _ _).symm.trans H; with_reducible exact H2_) | with_reducible exact H | (rw [hy112]; exact H) | exact H
                        have Ny112 := Aside0.mk hy112
                        clear hy112
                        have H' := Aside0.mk H
                        clear H
                        have q19 : ((ji16) : Int) ≤ ((l0.length : Int) : Int) := of_decide_eq_true (by first | (with_reducible assumption) | assumption)
                        obtain ⟨i019, hi019, _, hsz19, _⟩ := info_parts info5
                        have hroom19 : l0.length ≤ c0 := (Kd.V_reads' HO_0.out).2.1
                        have hC19 : Kd.F (Kd.int .u8) _ _ A0 l0.length l0 := (Kd.V_at (base := w.heap.size) HO_0.out).2.2
                        have q019 : (0 : Int) ≤ ((ji16) : Int) := of_decide_eq_true (by first | (with_reducible assumption) | assumption)
                        have hcut19 := cut_from (P := Try.prog) 22 5 .i64 Try.underlying22 hi019 1 hsz19 A0 l0.length c0 (ji16) q019 q19
                        have hr19 := Kd.F_cut (m := ((ji16) : Int).toNat) (c := c0) hC19 (by omega) hroom19
                        obtain ⟨A19, hA19⟩ : ∃ A1, A1 = (if c0 = ((ji16) : Int).toNat then A0 else (A0 : Option Addr).map (·.add (((ji16) : Int).toNat * 1))) := ⟨_, rfl⟩
                        obtain ⟨c19, hc19⟩ : ∃ c1, c1 = c0 - ((ji16) : Int).toNat := ⟨_, rfl⟩
                        have hy19 : y112.length = l0.length - ((ji16) : Int).toNat := (by rw [Ny112.out, List.length_drop] <;> omega)
                        rw [show (l0).drop ((ji16) : Int).toNat = y112 from Ny112.out.symm] at hr19
                        replace hr19 : Kd.F (Kd.int .u8) _ _ A19 y112.length y112 := (by rw [hA19]; exact hr19)
                        rw [← hy19, ← hA19, ← hc19] at hcut19
                        have HO116 := Aside0.mk (show Kd.V (Kd.int .u8) 5 _ w.heap.size _ (.slice A19 y112.length c19) y112 from Kd.V_mk (by rw [hy19, hc19]; exact Nat.sub_le_sub_right hroom19 _) hr19)
                        have HC116 := Aside0.mk (show y112.length ≤ c19 from by rw [hy19, hc19]; exact Nat.sub_le_sub_right hroom19 _)
                        clear hr19 hC19 hroom19 hi019 hsz19 hc19
                        have KY19 := Aside0.mk hy19
                        have KA19 := Aside0.mk hA19
                        clear hy19 hA19
                        replace q19 := eq_true q19
                        go_wp2
                        go_meet
                        case rel => exact ⟨_, (y112), (x4_1), H', ⟨by have := HK1.out; first | omega | exact Nat.le_refl _⟩, ⟨by (with_reducible repeat (first | apply Kd.V_alloc | apply Kd.V_drewN | apply Kd.V_drew)); exact HO116.out⟩, ⟨by (with_reducible repeat (first | apply Kd.R_alloc | apply Kd.R_drewN | apply Kd.R_drew)); exact HO_4.out⟩, ⟨by repeat (first | (with_reducible first | exact HB.out | apply below_alloc | apply pw_below_drewN | apply below_drew1) | exact HB.out)⟩⟩
                      · rw [if_neg c18] at H
                        exact absurd H (by simp)
                    · rw [if_neg c17] at H
                      exact absurd H (by simp)
            · rw [if_neg c9] at H
              exact absurd H (by simp)
          · rw [if_neg c8] at H
            exact absurd H (by simp)
        · rw [if_neg c7] at H
          have c7b0 : decide (0 < t102) = false := decide_eq_false c7
          clear c7
          (first | rw [c7b0] | (simp only [i64_w, i32_w]; rw [c7b0]) | rw [c7b1] | (simp only [i64_w, i32_w]; rw [c7b1]) | skip)
          have H' := Aside0.mk H
          clear H
          go_wp2
          go_meet
          case rel => exact ⟨_, (l0), (([] : List Int)), H', ⟨by first | omega | exact Nat.le_refl _⟩, ⟨by (with_reducible repeat (first | apply Kd.V_alloc | apply Kd.V_drewN | apply Kd.V_drew)); exact Kd.V_mono HO0.out (fun _ hk => ⟨hk, (by simp [Value.ownBlock])⟩)⟩, ⟨by first | exact Kd.R_nil _ _ _ _ _ | exact Kd.N_nil _ _ _ _ _ | exact Kd.V_nil _ _ _ _ _ | exact Kd.Q_nil _ _ _ _ _ | exact Kd.S_nil _ _ _ _ _⟩, ⟨by repeat (first | (with_reducible first | exact HB.out | apply below_alloc | apply pw_below_drewN | apply below_drew1) | exact HB.out)⟩⟩
      case rest =>
        clear HC6
        try clear c1
        try clear p1
        try clear q1
        try clear hx1
        try clear c2
        try clear c2b0
        try clear c2b1
        try clear p2
        try clear c4
        try clear c6
        try clear p6
        try clear c7
        try clear c7b0
        try clear c7b1
        try clear c8
        try clear c8b0
        try clear c8b1
        try clear c9
        try clear c9b0
        try clear c9b1
        try clear p10
        try clear q10
        try clear hx10
        try clear c11
        try clear c11b0
        try clear c12
        try clear c12b0
        try clear c13
        try clear c13b0
        try clear c14
        try clear c17
        try clear c17b0
        try clear c17b1
        try clear c18
        try clear c18b0
        try clear c18b1
        try clear c19
        try clear q19
        try clear hx108_0
        try clear p108
        try clear p2
        try clear q019
        try clear q1
        try clear q10
        try clear q108
        try clear q19
        obtain ⟨kq, x0_5, x4_5, HA, HJ5, HO_0, HO_4, HB⟩ := hcut
        cases kq with
        | zero => exact absurd HA.out (by simp [puny_Decode.j1])
        | succ kj5 =>
          have H := HA.out
          clear HA
          simp only [puny_Decode.j1] at H
          have H' := Aside0.mk H
          clear H
          go_wp2
          go_loopg [0, 4, 8, 9, 10, 11] kj5 (fun kq v0 v4 v8 v9 v10 v11 w' => ∃ (x0_2 : List Int) (x4_2 : List Int) (x8_2 : Int) (x9_2 : Int) (x10_2 : Int) (x11_2 : Bool), v8 = .int .i64 x8_2 ∧ v9 = .int .i64 x9_2 ∧ v10 = .int .i64 x10_2 ∧ v11 = .bool x11_2 ∧ Aside0 (puny_Decode.l1 kq x0_2 x4_2 x8_2 x9_2 x10_2 x11_2 = some (r1, r2)) ∧ Aside0 (kq ≤ kj5) ∧ Aside0 (Kd.V (Kd.int .u8) 5 w' w.heap.size (fun k_ => (P0_ k_ ∨ w.heap.size ≤ k_) ∧ some k_ ≠ (v4 : Value).ownBlock) v0 x0_2) ∧ Aside0 (Kd.R (Kd.int .i64) 3 w' w.heap.size (fun k_ => (w.heap.size ≤ k_)) v4 x4_2) ∧ Aside0 (Below w.heap.size w w'))
          case atStart => exact ⟨(x0_5), (x4_5), (128), (72), (0), (true), (by first | rfl | (simp; done) | (simp [*]; done)), (by first | rfl | (simp; done) | (simp [*]; done)), (by first | rfl | (simp; done) | (simp [*]; done)), (by first | rfl | (simp; done) | (simp [*]; done)), H', ⟨Nat.le_refl _⟩, ⟨by (with_reducible repeat (first | apply Kd.V_alloc | apply Kd.V_drewN | apply Kd.V_drew)); exact HO_0.out⟩, ⟨by (with_reducible repeat (first | apply Kd.R_alloc | apply Kd.R_drewN | apply Kd.R_drew)); exact HO_4.out⟩, ⟨by repeat (first | (with_reducible first | exact HB.out | apply below_alloc | apply pw_below_drewN | apply below_drew1) | exact HB.out)⟩⟩
          case round =>
            clear H'
            try clear c1
            try clear p1
            try clear q1
            try clear hx1
            try clear c2
            try clear c2b0
            try clear c2b1
            try clear p2
            try clear c4
            try clear c6
            try clear p6
            try clear c7
            try clear c7b0
            try clear c7b1
            try clear c8
            try clear c8b0
            try clear c8b1
            try clear c9
            try clear c9b0
            try clear c9b1
            try clear p10
            try clear q10
            try clear hx10
            try clear c11
            try clear c11b0
            try clear c12
            try clear c12b0
            try clear c13
            try clear c13b0
            try clear c14
            try clear c17
            try clear c17b0
            try clear c17b1
            try clear c18
            try clear c18b0
            try clear c18b1
            try clear c19
            try clear q19
            try clear hx108_0
            try clear p1
            try clear p10
            try clear p108
            try clear p2
            try clear p6
            try clear q019
            try clear q1
            try clear q10
            try clear q108
            try clear q19
            obtain ⟨x0_2, x4_2, x8_2, x9_2, x10_2, x11_2, rfl, rfl, rfl, rfl, HA, HK2, HO_0, HO_4, HB⟩ := hrel
            cases gk with
            | zero => exact absurd HA.out (by simp [puny_Decode.l1])
            | succ k2 =>
              have H := HA.out
              clear HA
              simp only [puny_Decode.l1] at H
              by_cases c20 : (x0_2.length : Int) > 0
              · rw [if_pos c20] at H
                have c20b0 : decide (0 < (x0_2.length : Int)) = true := decide_eq_true c20
                have c20b1 : decide (0 < x0_2.length) = true := decide_eq_true (by omega)
                clear c20
                replace H := Option.bind_eq_some_iff.mp H
                obtain ⟨⟨t117, t118, t119⟩, A210, H⟩ := H
                replace H : (if t119 = 0 then (if t117 > (wrap64 (2147483647 - x10_2)) then (some (([] : List Int), 21)) else ((puny_adapt.f k2 t117 (wrap64 ((x4_2.length : Int) + 1)) x11_2).bind fun t120 => (if (wrap64 ((x4_2.length : Int) + 1)) = 0 then (none) else (if (wrap64 (Int.tdiv (wrap64 (x10_2 + t117)) (wrap64 ((x4_2.length : Int) + 1)))) > (wrap64 (2147483647 - x8_2)) then (some (([] : List Int), 21)) else ((utf_Scalar.f (wrap64 (x8_2 + (wrap64 (Int.tdiv (wrap64 (x10_2 + t117)) (wrap64 ((x4_2.length : Int) + 1))))))).bind fun t121 => (if t121 = true then ((slices_Insert_int_int.f x4_2 (Int.tmod (wrap64 (x10_2 + t117)) (wrap64 ((x4_2.length : Int) + 1))) (([wrap64 (x8_2 + (wrap64 (Int.tdiv (wrap64 (x10_2 + t117)) (wrap64 ((x4_2.length : Int) + 1)))))] : List Int))).bind fun t125 => (if 0 ≤ t118 then (if t118 ≤ (x0_2.length : Int) then (puny_Decode.l1 k2 (x0_2.drop (t118 : Int).toNat) t125 (wrap64 (x8_2 + (wrap64 (Int.tdiv (wrap64 (x10_2 + t117)) (wrap64 ((x4_2.length : Int) + 1)))))) t120 (wrap64 ((Int.tmod (wrap64 (x10_2 + t117)) (wrap64 ((x4_2.length : Int) + 1))) + 1)) false) else (none)) else (none))) else (some (([] : List Int), 10)))))))) else (some (([] : List Int), t119))) = some (r1, r2) := H
                have A21 := Aside0.mk A210
                clear A210
                by_cases c22 : t119 = 0
                · rw [if_pos c22] at H
                  have c22b0 : (t119 == 0) = true := beq_iff_eq.mpr c22
                  have c22b1 : (t119 != 0) = false := bne_eq_false_iff_eq.mpr c22
                  clear c22
                  by_cases c23 : t117 > (wrap64 (2147483647 - x10_2))
                  · rw [if_pos c23] at H
                    have c23b0 : decide ((wrap64 (2147483647 - x10_2)) < t117) = true := decide_eq_true c23
                    clear c23
                    simp only [Option.some.injEq, Prod.mk.injEq] at H
                    obtain ⟨rfl, rfl⟩ := H
                    obtain ⟨Ao24, co24, eo24⟩ := Kd.V_slice HO_0.out
                    subst eo24
                    go_wp2_with (first | ((with_reducible refine gate_callee (f := 65) rfl ?_); refine goesL_ (some 51) rfl rfl Try.func65 (by kernel_rfl) rfl #[.slice Ao24 x0_2.length co24, .int .i64 x9_2] rfl (by (try simp only [List.map_toArray, List.map_cons, List.map_nil]); first | done | rfl | (simp only [List.length_drop, List.length_take]; rfl)) ?_; (with_reducible refine (puny_read.calls k2 _ _ x0_2 x9_2 t117 t118 t119 _ ?side1 ?side2 A21.out).mono ?_); (case side1 => repeat (first | exact (Kd.V_reads' HO_0.out).2.2 | (with_reducible refine Kd.C_alloc ?_ _) | (with_reducible refine Kd.C_drewN ?_ _) | (with_reducible refine Kd.C_drew ?_))); (case side2 => exact (Kd.V_reads' HO_0.out).2.1); rintro e w25 ⟨rfl, hb⟩; refine ⟨_, rfl, ?_⟩; have n0_ := Aside0.mk (Kd.V_below (by (with_reducible repeat (first | apply Kd.V_alloc | apply Kd.V_drewN | apply Kd.V_drew)); exact HO_0.out) hb); have n1_ := Aside0.mk (Kd.R_below (by (with_reducible repeat (first | apply Kd.R_alloc | apply Kd.R_drewN | apply Kd.R_drew)); exact HO_4.out) hb); have n2_ := Aside0.mk (below_step (by repeat (first | (with_reducible first | exact HB.out | apply below_alloc | apply pw_below_drewN | apply below_drew1) | exact HB.out)) hb); clear HO_0; clear HO_4; clear HB; have HO_0 := n0_; have HO_4 := n1_; have HB := n2_; clear n0_ n1_ n2_; (try clear hb); (try clear hb2); (try clear hk); (try clear hi); obtain ⟨Ao26, co26, eo26⟩ := Kd.R_slice HO_4.out; subst eo26))
                    go_ret2
                    exact ⟨_, by first | rfl | (simp [errW_none, errW_some] <;> rfl) | (simp [*, errW_none, errW_some] <;> rfl), by first | exact Kd.R_nil _ _ _ _ _ | exact Kd.N_nil _ _ _ _ _ | exact Kd.V_nil _ _ _ _ _ | exact Kd.Q_nil _ _ _ _ _ | exact Kd.S_nil _ _ _ _ _, by repeat (first | (with_reducible first | exact HB.out | apply below_alloc | apply pw_below_drewN | apply below_drew1) | exact HB.out)⟩
                  · rw [if_neg c23] at H
                    have c23b0 : decide ((wrap64 (2147483647 - x10_2)) < t117) = false := decide_eq_false c23
                    clear c23
                    replace H := Option.bind_eq_some_iff.mp H
                    obtain ⟨t120, A270, H⟩ := H
                    replace H : (if (wrap64 ((x4_2.length : Int) + 1)) = 0 then (none) else (if (wrap64 (Int.tdiv (wrap64 (x10_2 + t117)) (wrap64 ((x4_2.length : Int) + 1)))) > (wrap64 (2147483647 - x8_2)) then (some (([] : List Int), 21)) else ((utf_Scalar.f (wrap64 (x8_2 + (wrap64 (Int.tdiv (wrap64 (x10_2 + t117)) (wrap64 ((x4_2.length : Int) + 1))))))).bind fun t121 => (if t121 = true then ((slices_Insert_int_int.f x4_2 (Int.tmod (wrap64 (x10_2 + t117)) (wrap64 ((x4_2.length : Int) + 1))) (([wrap64 (x8_2 + (wrap64 (Int.tdiv (wrap64 (x10_2 + t117)) (wrap64 ((x4_2.length : Int) + 1)))))] : List Int))).bind fun t125 => (if 0 ≤ t118 then (if t118 ≤ (x0_2.length : Int) then (puny_Decode.l1 k2 (x0_2.drop (t118 : Int).toNat) t125 (wrap64 (x8_2 + (wrap64 (Int.tdiv (wrap64 (x10_2 + t117)) (wrap64 ((x4_2.length : Int) + 1)))))) t120 (wrap64 ((Int.tmod (wrap64 (x10_2 + t117)) (wrap64 ((x4_2.length : Int) + 1))) + 1)) false) else (none)) else (none))) else (some (([] : List Int), 10)))))) = some (r1, r2) := H
                    have A27 := Aside0.mk A270
                    clear A270
                    by_cases c28 : (wrap64 ((x4_2.length : Int) + 1)) = 0
                    · rw [if_pos c28] at H
                      exact absurd H (by simp)
                    · rw [if_neg c28] at H
                      have c28b0 : ((wrap64 ((x4_2.length : Int) + 1)) == 0) = false := beq_eq_false_iff_ne.mpr c28
                      have c28b1 : ((wrap64 ((x4_2.length : Int) + 1)) != 0) = true := bne_iff_ne.mpr c28
                      by_cases c29 : (wrap64 (Int.tdiv (wrap64 (x10_2 + t117)) (wrap64 ((x4_2.length : Int) + 1)))) > (wrap64 (2147483647 - x8_2))
                      · rw [if_pos c29] at H
                        have c29b0 : decide ((wrap64 (2147483647 - x8_2)) < (wrap64 (Int.tdiv (wrap64 (x10_2 + t117)) (wrap64 ((x4_2.length : Int) + 1))))) = true := decide_eq_true c29
                        clear c29
                        simp only [Option.some.injEq, Prod.mk.injEq] at H
                        obtain ⟨rfl, rfl⟩ := H
                        obtain ⟨Ao30, co30, eo30⟩ := Kd.V_slice HO_0.out
                        subst eo30
                        go_wp2_with (first | ((with_reducible refine gate_callee (f := 65) rfl ?_); refine goesL_ (some 51) rfl rfl Try.func65 (by kernel_rfl) rfl #[.slice Ao30 x0_2.length co30, .int .i64 x9_2] rfl (by (try simp only [List.map_toArray, List.map_cons, List.map_nil]); first | done | rfl | (simp only [List.length_drop, List.length_take]; rfl)) ?_; (with_reducible refine (puny_read.calls k2 _ _ x0_2 x9_2 t117 t118 t119 _ ?side1 ?side2 A21.out).mono ?_); (case side1 => repeat (first | exact (Kd.V_reads' HO_0.out).2.2 | (with_reducible refine Kd.C_alloc ?_ _) | (with_reducible refine Kd.C_drewN ?_ _) | (with_reducible refine Kd.C_drew ?_))); (case side2 => exact (Kd.V_reads' HO_0.out).2.1); rintro e w31 ⟨rfl, hb⟩; refine ⟨_, rfl, ?_⟩; have n0_ := Aside0.mk (Kd.V_below (by (with_reducible repeat (first | apply Kd.V_alloc | apply Kd.V_drewN | apply Kd.V_drew)); exact HO_0.out) hb); have n1_ := Aside0.mk (Kd.R_below (by (with_reducible repeat (first | apply Kd.R_alloc | apply Kd.R_drewN | apply Kd.R_drew)); exact HO_4.out) hb); have n2_ := Aside0.mk (below_step (by repeat (first | (with_reducible first | exact HB.out | apply below_alloc | apply pw_below_drewN | apply below_drew1) | exact HB.out)) hb); clear HO_0; clear HO_4; clear HB; have HO_0 := n0_; have HO_4 := n1_; have HB := n2_; clear n0_ n1_ n2_; (try clear hb); (try clear hb2); (try clear hk); (try clear hi); obtain ⟨Ao32, co32, eo32⟩ := Kd.R_slice HO_4.out; subst eo32) | ((with_reducible refine gate_callee (f := 53) rfl ?_); refine goesL_ (some 71) rfl rfl Try.func53 (by kernel_rfl) rfl #[.int .i64 t117, .int .i64 (wrap64 ((x4_2.length : Int) + 1)), .bool x11_2] rfl (by (try simp only [List.map_toArray, List.map_cons, List.map_nil]); first | done | rfl | (simp only [List.length_drop, List.length_take]; rfl)) ?_; (with_reducible refine (puny_adapt.calls k2 t117 (wrap64 ((x4_2.length : Int) + 1)) x11_2 t120 _ A27.out).mono ?_); rintro e w' ⟨rfl, ⟨nd, rfl⟩⟩; refine ⟨_, rfl, ?_⟩))
                        go_ret2
                        exact ⟨_, by first | rfl | (simp [errW_none, errW_some] <;> rfl) | (simp [*, errW_none, errW_some] <;> rfl), by first | exact Kd.R_nil _ _ _ _ _ | exact Kd.N_nil _ _ _ _ _ | exact Kd.V_nil _ _ _ _ _ | exact Kd.Q_nil _ _ _ _ _ | exact Kd.S_nil _ _ _ _ _, by repeat (first | (with_reducible first | exact HB.out | apply below_alloc | apply pw_below_drewN | apply below_drew1) | exact HB.out)⟩
                      · rw [if_neg c29] at H
                        have c29b0 : decide ((wrap64 (2147483647 - x8_2)) < (wrap64 (Int.tdiv (wrap64 (x10_2 + t117)) (wrap64 ((x4_2.length : Int) + 1))))) = false := decide_eq_false c29
                        clear c29
                        replace H := Option.bind_eq_some_iff.mp H
                        obtain ⟨t121, A330, H⟩ := H
                        replace H : (if t121 = true then ((slices_Insert_int_int.f x4_2 (Int.tmod (wrap64 (x10_2 + t117)) (wrap64 ((x4_2.length : Int) + 1))) (([wrap64 (x8_2 + (wrap64 (Int.tdiv (wrap64 (x10_2 + t117)) (wrap64 ((x4_2.length : Int) + 1)))))] : List Int))).bind fun t125 => (if 0 ≤ t118 then (if t118 ≤ (x0_2.length : Int) then (puny_Decode.l1 k2 (x0_2.drop (t118 : Int).toNat) t125 (wrap64 (x8_2 + (wrap64 (Int.tdiv (wrap64 (x10_2 + t117)) (wrap64 ((x4_2.length : Int) + 1)))))) t120 (wrap64 ((Int.tmod (wrap64 (x10_2 + t117)) (wrap64 ((x4_2.length : Int) + 1))) + 1)) false) else (none)) else (none))) else (some (([] : List Int), 10))) = some (r1, r2) := H
                        have A33 := Aside0.mk A330
                        clear A330
                        by_cases c34 : t121 = true
                        · subst c34
                          have H1 : ((slices_Insert_int_int.f x4_2 (Int.tmod (wrap64 (x10_2 + t117)) (wrap64 ((x4_2.length : Int) + 1))) (([wrap64 (x8_2 + (wrap64 (Int.tdiv (wrap64 (x10_2 + t117)) (wrap64 ((x4_2.length : Int) + 1)))))] : List Int))).bind fun t125 => (if 0 ≤ t118 then (if t118 ≤ (x0_2.length : Int) then (puny_Decode.l1 k2 (x0_2.drop (t118 : Int).toNat) t125 (wrap64 (x8_2 + (wrap64 (Int.tdiv (wrap64 (x10_2 + t117)) (wrap64 ((x4_2.length : Int) + 1)))))) t120 (wrap64 ((Int.tmod (wrap64 (x10_2 + t117)) (wrap64 ((x4_2.length : Int) + 1))) + 1)) false) else (none)) else (none))) = some (r1, r2) := by rw [if_pos rfl] at H; exact H
                          clear H
                          have H := H1
                          clear H1
                          obtain ⟨y122, hy122⟩ : ∃ y_ : List Int, y_ = (([wrap64 (x8_2 + (wrap64 (Int.tdiv (wrap64 (x10_2 + t117)) (wrap64 ((x4_2.length : Int) + 1)))))] : List Int)) := ⟨_, rfl⟩
                          replace H : ((slices_Insert_int_int.f x4_2 (Int.tmod (wrap64 (x10_2 + t117)) (wrap64 ((x4_2.length : Int) + 1))) y122).bind fun t125 => (if 0 ≤ t118 then (if t118 ≤ (x0_2.length : Int) then (puny_Decode.l1 k2 (x0_2.drop (t118 : Int).toNat) t125 (wrap64 (x8_2 + (wrap64 (Int.tdiv (wrap64 (x10_2 + t117)) (wrap64 ((x4_2.length : Int) + 1)))))) t120 (wrap64 ((Int.tmod (wrap64 (x10_2 + t117)) (wrap64 ((x4_2.length : Int) + 1))) + 1)) false) else (none)) else (none))) = some (r1, r2) := by first | (rw [hy122]; with_reducible exact H) | (have H2_ := (Option.bind_some _ _).symm.trans H; rw [hy122]; with_reducible exact H2_) | (have H2_ := (Option.bind_some _ _).symm.trans H; with_reducible exact H2_) | with_reducible exact H | (rw [hy122]; exact H) | exact H
                          have Ny122 := Aside0.mk hy122
                          clear hy122
                          replace H := Option.bind_eq_some_iff.mp H
                          obtain ⟨t125, A350, H⟩ := H
                          replace H : (if 0 ≤ t118 then (if t118 ≤ (x0_2.length : Int) then (puny_Decode.l1 k2 (x0_2.drop (t118 : Int).toNat) t125 (wrap64 (x8_2 + (wrap64 (Int.tdiv (wrap64 (x10_2 + t117)) (wrap64 ((x4_2.length : Int) + 1)))))) t120 (wrap64 ((Int.tmod (wrap64 (x10_2 + t117)) (wrap64 ((x4_2.length : Int) + 1))) + 1)) false) else (none)) else (none)) = some (r1, r2) := H
                          have A35 := Aside0.mk A350
                          clear A350
                          by_cases c36 : 0 ≤ t118
                          · rw [if_pos c36] at H
                            have c36b0 := eq_true c36
                            have c36b1 : decide (0 ≤ t118) = true := decide_eq_true c36
                            clear c36
                            by_cases c37 : t118 ≤ (x0_2.length : Int)
                            · rw [if_pos c37] at H
                              have c37b0 := eq_true c37
                              have c37b1 : decide (t118 ≤ (x0_2.length : Int)) = true := decide_eq_true c37
                              clear c37
                              obtain ⟨y128, hy128⟩ : ∃ y_ : List Int, y_ = (x0_2.drop (t118 : Int).toNat) := ⟨_, rfl⟩
                              replace H : (puny_Decode.l1 k2 y128 t125 (wrap64 (x8_2 + (wrap64 (Int.tdiv (wrap64 (x10_2 + t117)) (wrap64 ((x4_2.length : Int) + 1)))))) t120 (wrap64 ((Int.tmod (wrap64 (x10_2 + t117)) (wrap64 ((x4_2.length : Int) + 1))) + 1)) false) = some (r1, r2) := by first | (rw [hy128]; with_reducible exact H) | (have H2_ := (Option.bind_some _ _).symm.trans H; rw [hy128]; with_reducible exact H2_) | (have H2_ := (Option.bind_some _ _).symm.trans H; with_reducible exact H2_) | with_reducible exact H | (rw [hy128]; exact H) | exact H
                              have Ny128 := Aside0.mk hy128
                              clear hy128
                              have H' := Aside0.mk H
                              clear H
                              obtain ⟨Ao38, co38, eo38⟩ := Kd.V_slice HO_0.out
                              subst eo38
                              go_wp2_with (first | ((with_reducible refine gate_callee (f := 65) rfl ?_); refine goesL_ (some 51) rfl rfl Try.func65 (by kernel_rfl) rfl #[.slice Ao38 x0_2.length co38, .int .i64 x9_2] rfl (by (try simp only [List.map_toArray, List.map_cons, List.map_nil]); first | done | rfl | (simp only [List.length_drop, List.length_take]; rfl)) ?_; (with_reducible refine (puny_read.calls k2 _ _ x0_2 x9_2 t117 t118 t119 _ ?side1 ?side2 A21.out).mono ?_); (case side1 => repeat (first | exact (Kd.V_reads' HO_0.out).2.2 | (with_reducible refine Kd.C_alloc ?_ _) | (with_reducible refine Kd.C_drewN ?_ _) | (with_reducible refine Kd.C_drew ?_))); (case side2 => exact (Kd.V_reads' HO_0.out).2.1); rintro e w39 ⟨rfl, hb⟩; refine ⟨_, rfl, ?_⟩; have n0_ := Aside0.mk (Kd.V_below (by (with_reducible repeat (first | apply Kd.V_alloc | apply Kd.V_drewN | apply Kd.V_drew)); exact HO_0.out) hb); have n1_ := Aside0.mk (Kd.R_below (by (with_reducible repeat (first | apply Kd.R_alloc | apply Kd.R_drewN | apply Kd.R_drew)); exact HO_4.out) hb); have n2_ := Aside0.mk (below_step (by repeat (first | (with_reducible first | exact HB.out | apply below_alloc | apply pw_below_drewN | apply below_drew1) | exact HB.out)) hb); clear HO_0; clear HO_4; clear HB; have HO_0 := n0_; have HO_4 := n1_; have HB := n2_; clear n0_ n1_ n2_; (try clear hb); (try clear hb2); (try clear hk); (try clear hi); obtain ⟨Ao40, co40, eo40⟩ := Kd.R_slice HO_4.out; subst eo40) | ((with_reducible refine gate_callee (f := 53) rfl ?_); refine goesL_ (some 71) rfl rfl Try.func53 (by kernel_rfl) rfl #[.int .i64 t117, .int .i64 (wrap64 ((x4_2.length : Int) + 1)), .bool x11_2] rfl (by (try simp only [List.map_toArray, List.map_cons, List.map_nil]); first | done | rfl | (simp only [List.length_drop, List.length_take]; rfl)) ?_; (with_reducible refine (puny_adapt.calls k2 t117 (wrap64 ((x4_2.length : Int) + 1)) x11_2 t120 _ A27.out).mono ?_); rintro e w' ⟨rfl, ⟨nd, rfl⟩⟩; refine ⟨_, rfl, ?_⟩) | ((with_reducible refine gate_callee (f := 39) rfl ?_); refine goesL_ (some 87) rfl rfl Try.func39 (by kernel_rfl) rfl #[.int .i64 (wrap64 (x8_2 + (wrap64 (Int.tdiv (wrap64 (x10_2 + t117)) (wrap64 ((x4_2.length : Int) + 1))))))] rfl (by (try simp only [List.map_toArray, List.map_cons, List.map_nil]); first | done | rfl | (simp only [List.length_drop, List.length_take]; rfl)) ?_; (with_reducible refine (utf_Scalar.calls (wrap64 (x8_2 + (wrap64 (Int.tdiv (wrap64 (x10_2 + t117)) (wrap64 ((x4_2.length : Int) + 1)))))) true _ A33.out).mono ?_); rintro e w' ⟨rfl, ⟨nd, rfl⟩⟩; refine ⟨_, rfl, ?_⟩) | ((with_reducible refine gate_dst (N := 92) rfl ?_); refine Kd.R_lit (Kd.int .i64) _ 3 ?hg (N := 92) ?hd (xs := ([wrap64 (x8_2 + (wrap64 (Int.tdiv (wrap64 (x10_2 + t117)) (wrap64 ((x4_2.length : Int) + 1)))))] : List Int)) (inner := [.int .i64 (wrap64 (x8_2 + (wrap64 (Int.tdiv (wrap64 (x10_2 + t117)) (wrap64 ((x4_2.length : Int) + 1))))))]) (ok := fun _ => True) (okp := fun _ => True) ?hr ?hp (fun _ hk => hk) trivial (Below.refl _ _) (Nat.le_refl _) (by simp) ?_; (case hd => rfl); (case hg => rfl); (case hr => first | (go_simp; done) | (go_simp; rfl)); (case hp => exact (Reps.one (show Kd.M (Kd.int .i64) _ _ _ (wrap64 (x8_2 + (wrap64 (Int.tdiv (wrap64 (x10_2 + t117)) (wrap64 ((x4_2.length : Int) + 1)))))) [.int .i64 (wrap64 (x8_2 + (wrap64 (Int.tdiv (wrap64 (x10_2 + t117)) (wrap64 ((x4_2.length : Int) + 1))))))] from rfl) (Reps.none _ _))); intro v123 w41 ho42 hb hg_ hnew_; clear hg_ hnew_; (first | rw [← Ny122.out] at ho42 | (simp only [Int.reduceToNat] at ho42; rw [← Ny122.out] at ho42)); have n0_ := Aside0.mk (Kd.V_elder' (by (with_reducible repeat (first | apply Kd.V_alloc | apply Kd.V_drewN | apply Kd.V_drew)); exact HO_0.out) (Kd.R_base ho42) hb); have n1_ := Aside0.mk (Kd.R_elder' (by (with_reducible repeat (first | apply Kd.R_alloc | apply Kd.R_drewN | apply Kd.R_drew)); exact HO_4.out) (Kd.R_base ho42) hb); have n2_ := Aside0.mk (Kd.R_lower (Kd.R_new' (Kd.R_newM (M := fun k_ => (w.heap.size ≤ k_)) ho42 (below_size (by repeat (first | (with_reducible first | exact HB.out | apply below_alloc | apply pw_below_drewN | apply below_drew1) | exact HB.out))) (fun k_ h_ => h_)) (Kd.R_lt (by (with_reducible repeat (first | apply Kd.R_alloc | apply Kd.R_drewN | apply Kd.R_drew)); exact HO_4.out))) (below_size (by repeat (first | (with_reducible first | exact HB.out | apply below_alloc | apply pw_below_drewN | apply below_drew1) | exact HB.out)))); have n3_ := Aside0.mk (below_step (by repeat (first | (with_reducible first | exact HB.out | apply below_alloc | apply pw_below_drewN | apply below_drew1) | exact HB.out)) hb); clear HO_0; clear HO_4; clear HB; have HO_0 := n0_; have HO_4 := n1_; have HO124 := n2_; have HB := n3_; clear n0_ n1_ n2_ n3_; clear hb ho42; obtain ⟨Ao43, co43, eo43⟩ := Kd.R_slice HO124.out; subst eo43) | ((with_reducible refine gate_callee (f := 66) rfl ?_); refine goesL_ (some 93) rfl rfl Try.func66 (by kernel_rfl) rfl #[.slice Ao40 x4_2.length co40, .int .i64 (Int.tmod (wrap64 (x10_2 + t117)) (wrap64 ((x4_2.length : Int) + 1))), .slice Ao43 y122.length co43] rfl (by (try simp only [List.map_toArray, List.map_cons, List.map_nil]); first | done | rfl | (simp only [List.length_drop, List.length_take]; rfl)) ?_; (with_reducible refine (slices_Insert_int_int.calls (fun k_ => some k_ = (.slice Ao40 x4_2.length co40 : Value).ownBlock) (.slice Ao40 x4_2.length co40) x4_2 (Int.tmod (wrap64 (x10_2 + t117)) (wrap64 ((x4_2.length : Int) + 1))) (fun k_ => some k_ = (.slice Ao43 y122.length co43 : Value).ownBlock) (.slice Ao43 y122.length co43) y122 t125 w _ ?side1 ?side2 ?side3 ?side4 ?side5 A35.out).mono ?_); (case side1 => repeat (first | (with_reducible first | exact HB.out | apply below_alloc | apply pw_below_drewN | apply below_drew1) | exact HB.out)); (case side2 => exact Kd.R_tight rfl HO_4.out); (case side3 => exact fun k_ e_ => (HO_4.out.1 k_ e_.symm).2); (case side4 => exact Kd.R_tight rfl HO124.out); (case side5 => exact fun k_ e_ => (HO124.out.1 k_ e_.symm).2); rintro e w44 ⟨v126, rfl, ho0, hb, hkp⟩; refine ⟨_, rfl, ?_⟩; have n0_ := Aside0.mk (Kd.V_mono (ok' := fun k_ => (P0_ k_ ∨ w.heap.size ≤ k_) ∧ some k_ ≠ (v126 : Value).ownBlock) (Kd.V_keptB (HO_0.out) hkp (fun k_ hk_ hs_ => Or.elim hs_ (fun e_ => (hk_.1.2) e_) (fun e_ => (hk_.2) e_))) (fun k_ hk_ => ⟨hk_.1.1.1, fun e_ => Or.elim (ho0.1 k_ e_.symm) (fun hs_ => hk_.2.1 hs_) (fun hn_ => Nat.not_le.2 hk_.2.2 hn_)⟩)); have n1_ := Aside0.mk (Kd.R_mono (ok' := fun k_ => (w.heap.size ≤ k_)) ho0 (fun k_ hk_ => Or.elim hk_ (fun hs_ => Or.elim hs_ (fun hs_ => (HO_4.out.1 k_ (hs_).symm).1) (fun hs_ => (HO124.out.1 k_ (hs_).symm).1.1)) (fun hn_ => (Nat.le_trans (below_size (by repeat (first | (with_reducible first | exact HB.out | apply below_alloc | apply pw_below_drewN | apply below_drew1) | exact HB.out))) hn_)))); have n2_ := Aside0.mk (hb); clear HO_0; clear HB; clear HO124; clear HO_4; have HO_0 := n0_; have HO127 := n1_; have HB := n2_; clear n0_ n1_ n2_; (try clear hb); (try clear hkp); (try clear ho0); have q45 : (t118 : Int) ≤ ((x0_2.length : Int) : Int) := of_decide_eq_true (by first | (with_reducible assumption) | assumption); obtain ⟨i045, hi045, _, hsz45, _⟩ := info_parts info5; have hroom45 : x0_2.length ≤ co38 := (Kd.V_reads' HO_0.out).2.1; have hC45 : Kd.F (Kd.int .u8) _ _ Ao38 x0_2.length x0_2 := (Kd.V_at (base := w.heap.size) HO_0.out).2.2; have q045 : (0 : Int) ≤ (t118 : Int) := of_decide_eq_true (by first | (with_reducible assumption) | assumption); have hcut45 := cut_from (P := Try.prog) 22 5 .i64 Try.underlying22 hi045 1 hsz45 Ao38 x0_2.length co38 t118 q045 q45; have hr45 := Kd.F_cut (m := (t118 : Int).toNat) (c := co38) hC45 (by omega) hroom45; obtain ⟨A45, hA45⟩ : ∃ A1, A1 = (if co38 = (t118 : Int).toNat then Ao38 else (Ao38 : Option Addr).map (·.add ((t118 : Int).toNat * 1))) := ⟨_, rfl⟩; obtain ⟨c45, hc45⟩ : ∃ c1, c1 = co38 - (t118 : Int).toNat := ⟨_, rfl⟩; have hy45 : y128.length = x0_2.length - (t118 : Int).toNat := (by rw [Ny128.out, List.length_drop] <;> omega); rw [show (x0_2).drop (t118 : Int).toNat = y128 from Ny128.out.symm] at hr45; replace hr45 : Kd.F (Kd.int .u8) _ _ A45 y128.length y128 := (by rw [hA45]; exact hr45); rw [← hy45, ← hA45, ← hc45] at hcut45; have HO132 := Aside0.mk (show Kd.V (Kd.int .u8) 5 _ w.heap.size _ (.slice A45 y128.length c45) y128 from Kd.V_mk (by rw [hy45, hc45]; exact Nat.sub_le_sub_right hroom45 _) hr45); have HC132 := Aside0.mk (show y128.length ≤ c45 from by rw [hy45, hc45]; exact Nat.sub_le_sub_right hroom45 _); clear hr45 hC45 hroom45 hi045 hsz45 hc45; have KY45 := Aside0.mk hy45; have KA45 := Aside0.mk hA45; clear hy45 hA45; replace q45 := eq_true q45))
                              go_roundg k2
                              case measure => have := HJ5.out; have := HK2.out; omega
                              case rel => exact ⟨(y128), (t125), (wrap64 (x8_2 + (wrap64 (Int.tdiv (wrap64 (x10_2 + t117)) (wrap64 ((x4_2.length : Int) + 1)))))), (t120), (wrap64 ((Int.tmod (wrap64 (x10_2 + t117)) (wrap64 ((x4_2.length : Int) + 1))) + 1)), (false), (by first | rfl | (simp; done) | (simp [*]; done)), (by first | rfl | (simp; done) | (simp [*]; done)), (by first | rfl | (simp; done) | (simp [*]; done)), (by first | rfl | (simp; done) | (simp [*]; done)), H', ⟨by have := HJ5.out; have := HK2.out; omega⟩, ⟨by (with_reducible repeat (first | apply Kd.V_alloc | apply Kd.V_drewN | apply Kd.V_drew)); exact HO132.out⟩, ⟨by (with_reducible repeat (first | apply Kd.R_alloc | apply Kd.R_drewN | apply Kd.R_drew)); exact HO127.out⟩, ⟨by repeat (first | (with_reducible first | exact HB.out | apply below_alloc | apply pw_below_drewN | apply below_drew1) | exact HB.out)⟩⟩
                            · rw [if_neg c37] at H
                              exact absurd H (by simp)
                          · rw [if_neg c36] at H
                            exact absurd H (by simp)
                        · replace c34 := Bool.eq_false_iff.mpr c34
                          subst c34
                          have H1 : (some (([] : List Int), 10)) = some (r1, r2) := by rw [if_neg (show ¬ (false = true) by decide)] at H; exact H
                          clear H
                          have H := H1
                          clear H1
                          simp only [Option.some.injEq, Prod.mk.injEq] at H
                          obtain ⟨rfl, rfl⟩ := H
                          obtain ⟨Ao46, co46, eo46⟩ := Kd.V_slice HO_0.out
                          subst eo46
                          go_wp2_with (first | ((with_reducible refine gate_callee (f := 65) rfl ?_); refine goesL_ (some 51) rfl rfl Try.func65 (by kernel_rfl) rfl #[.slice Ao46 x0_2.length co46, .int .i64 x9_2] rfl (by (try simp only [List.map_toArray, List.map_cons, List.map_nil]); first | done | rfl | (simp only [List.length_drop, List.length_take]; rfl)) ?_; (with_reducible refine (puny_read.calls k2 _ _ x0_2 x9_2 t117 t118 t119 _ ?side1 ?side2 A21.out).mono ?_); (case side1 => repeat (first | exact (Kd.V_reads' HO_0.out).2.2 | (with_reducible refine Kd.C_alloc ?_ _) | (with_reducible refine Kd.C_drewN ?_ _) | (with_reducible refine Kd.C_drew ?_))); (case side2 => exact (Kd.V_reads' HO_0.out).2.1); rintro e w47 ⟨rfl, hb⟩; refine ⟨_, rfl, ?_⟩; have n0_ := Aside0.mk (Kd.V_below (by (with_reducible repeat (first | apply Kd.V_alloc | apply Kd.V_drewN | apply Kd.V_drew)); exact HO_0.out) hb); have n1_ := Aside0.mk (Kd.R_below (by (with_reducible repeat (first | apply Kd.R_alloc | apply Kd.R_drewN | apply Kd.R_drew)); exact HO_4.out) hb); have n2_ := Aside0.mk (below_step (by repeat (first | (with_reducible first | exact HB.out | apply below_alloc | apply pw_below_drewN | apply below_drew1) | exact HB.out)) hb); clear HO_0; clear HO_4; clear HB; have HO_0 := n0_; have HO_4 := n1_; have HB := n2_; clear n0_ n1_ n2_; (try clear hb); (try clear hb2); (try clear hk); (try clear hi); obtain ⟨Ao48, co48, eo48⟩ := Kd.R_slice HO_4.out; subst eo48) | ((with_reducible refine gate_callee (f := 53) rfl ?_); refine goesL_ (some 71) rfl rfl Try.func53 (by kernel_rfl) rfl #[.int .i64 t117, .int .i64 (wrap64 ((x4_2.length : Int) + 1)), .bool x11_2] rfl (by (try simp only [List.map_toArray, List.map_cons, List.map_nil]); first | done | rfl | (simp only [List.length_drop, List.length_take]; rfl)) ?_; (with_reducible refine (puny_adapt.calls k2 t117 (wrap64 ((x4_2.length : Int) + 1)) x11_2 t120 _ A27.out).mono ?_); rintro e w' ⟨rfl, ⟨nd, rfl⟩⟩; refine ⟨_, rfl, ?_⟩) | ((with_reducible refine gate_callee (f := 39) rfl ?_); refine goesL_ (some 87) rfl rfl Try.func39 (by kernel_rfl) rfl #[.int .i64 (wrap64 (x8_2 + (wrap64 (Int.tdiv (wrap64 (x10_2 + t117)) (wrap64 ((x4_2.length : Int) + 1))))))] rfl (by (try simp only [List.map_toArray, List.map_cons, List.map_nil]); first | done | rfl | (simp only [List.length_drop, List.length_take]; rfl)) ?_; (with_reducible refine (utf_Scalar.calls (wrap64 (x8_2 + (wrap64 (Int.tdiv (wrap64 (x10_2 + t117)) (wrap64 ((x4_2.length : Int) + 1)))))) false _ A33.out).mono ?_); rintro e w' ⟨rfl, ⟨nd, rfl⟩⟩; refine ⟨_, rfl, ?_⟩))
                          go_ret2
                          exact ⟨_, by first | rfl | (simp [errW_none, errW_some] <;> rfl) | (simp [*, errW_none, errW_some] <;> rfl), by first | exact Kd.R_nil _ _ _ _ _ | exact Kd.N_nil _ _ _ _ _ | exact Kd.V_nil _ _ _ _ _ | exact Kd.Q_nil _ _ _ _ _ | exact Kd.S_nil _ _ _ _ _, by repeat (first | (with_reducible first | exact HB.out | apply below_alloc | apply pw_below_drewN | apply below_drew1) | exact HB.out)⟩
                · rw [if_neg c22] at H
                  have c22b0 : (t119 == 0) = false := beq_eq_false_iff_ne.mpr c22
                  have c22b1 : (t119 != 0) = true := bne_iff_ne.mpr c22
                  simp only [Option.some.injEq, Prod.mk.injEq] at H
                  obtain ⟨rfl, rfl⟩ := H
                  obtain ⟨Ao49, co49, eo49⟩ := Kd.V_slice HO_0.out
                  subst eo49
                  go_wp2_with (first | ((with_reducible refine gate_callee (f := 65) rfl ?_); refine goesL_ (some 51) rfl rfl Try.func65 (by kernel_rfl) rfl #[.slice Ao49 x0_2.length co49, .int .i64 x9_2] rfl (by (try simp only [List.map_toArray, List.map_cons, List.map_nil]); first | done | rfl | (simp only [List.length_drop, List.length_take]; rfl)) ?_; (with_reducible refine (puny_read.calls k2 _ _ x0_2 x9_2 t117 t118 t119 _ ?side1 ?side2 A21.out).mono ?_); (case side1 => repeat (first | exact (Kd.V_reads' HO_0.out).2.2 | (with_reducible refine Kd.C_alloc ?_ _) | (with_reducible refine Kd.C_drewN ?_ _) | (with_reducible refine Kd.C_drew ?_))); (case side2 => exact (Kd.V_reads' HO_0.out).2.1); rintro e w50 ⟨rfl, hb⟩; refine ⟨_, rfl, ?_⟩; have n0_ := Aside0.mk (Kd.V_below (by (with_reducible repeat (first | apply Kd.V_alloc | apply Kd.V_drewN | apply Kd.V_drew)); exact HO_0.out) hb); have n1_ := Aside0.mk (Kd.R_below (by (with_reducible repeat (first | apply Kd.R_alloc | apply Kd.R_drewN | apply Kd.R_drew)); exact HO_4.out) hb); have n2_ := Aside0.mk (below_step (by repeat (first | (with_reducible first | exact HB.out | apply below_alloc | apply pw_below_drewN | apply below_drew1) | exact HB.out)) hb); clear HO_0; clear HO_4; clear HB; have HO_0 := n0_; have HO_4 := n1_; have HB := n2_; clear n0_ n1_ n2_; (try clear hb); (try clear hb2); (try clear hk); (try clear hi)))
                  go_ret2
                  exact ⟨_, by first | rfl | (simp [errW_none, errW_some] <;> rfl) | (simp [*, errW_none, errW_some] <;> rfl), by first | exact Kd.R_nil _ _ _ _ _ | exact Kd.N_nil _ _ _ _ _ | exact Kd.V_nil _ _ _ _ _ | exact Kd.Q_nil _ _ _ _ _ | exact Kd.S_nil _ _ _ _ _, by repeat (first | (with_reducible first | exact HB.out | apply below_alloc | apply pw_below_drewN | apply below_drew1) | exact HB.out)⟩
              · rw [if_neg c20] at H
                have c20b0 : decide (0 < (x0_2.length : Int)) = false := decide_eq_false c20
                have c20b1 : decide (0 < x0_2.length) = false := decide_eq_false (by omega)
                clear c20
                simp only [Option.some.injEq, Prod.mk.injEq] at H
                obtain ⟨rfl, rfl⟩ := H
                obtain ⟨Ao51, co51, eo51⟩ := Kd.V_slice HO_0.out
                subst eo51
                go_wp2
                go_ret2
                exact ⟨_, by first | rfl | (simp [errW_none, errW_some] <;> rfl) | (simp [*, errW_none, errW_some] <;> rfl), by (with_reducible repeat (first | apply Kd.R_alloc | apply Kd.R_drewN | apply Kd.R_drew)); exact HO_4.out, by repeat (first | (with_reducible first | exact HB.out | apply below_alloc | apply pw_below_drewN | apply below_drew1) | exact HB.out)⟩

end Go.Proofs.Ytooiajkbpkfplaa.Q

-- from Qf12
-- Made by hp.py, a program of this session, with the kit's printer. Not trusted: Lean checks it.
namespace Go.Proofs.Ytooiajkbpkfplaa.Q
open Go.RowKit Go.Proofs.YtooiajkbpkfplaaW.PrintWords Go.Proofs.YtooiajkbpkfplaaW.PrintLast Go.Proofs.YtooiajkbpkfplaaW.PrintMore
attribute [local go_sem] max2_int min2_int max_two min_two max_three min_three max_four min_four   -- for this text's walks alone
set_option linter.unusedVariables false
set_option linter.unusedSimpArgs false

/-! ### paronymlaw12_PunyEncodes: function 12 -/
mutual
def paronymlaw12_PunyEncodes.j0 : Nat → List Int → Bool → Option (Bool)
  | 0, _, _ => none
  | k + 1, x0, x25 => if x25 = true then ((paronymlaw12_awake.f k).bind fun t102 => (some t102)) else ((puny_Encode.f k x0).bind fun bt103 => ((paronymref12_Encode.f k x0).bind fun bt107 => (if bt103.2 = bt107.2 then (paronymlaw12_PunyEncodes.j1 k x0 bt103.1 bt103.2 ((strOfNums bt103.1).toList != bt107.1.toList)) else (paronymlaw12_PunyEncodes.j1 k x0 bt103.1 bt103.2 true))))
def paronymlaw12_PunyEncodes.j1 : Nat → List Int → List Int → Int → Bool → Option (Bool)
  | 0, _, _, _, _ => none
  | k + 1, x0, x3, x4, x45 => if x45 = true then (some false) else ((puny_Decode.f k x3).bind fun bt109 => (if x4 = 0 then (if bt109.2 = 0 then ((paronymref01_Same.f k bt109.1 x0).bind fun t113 => (some t113)) else (some false)) else (some true)))
end
def paronymlaw12_PunyEncodes.f (k : Nat) (l0 : List Int) : Option (Bool) := (paronymlaw12_awake.f k).bind fun t101 => (if t101 = true then (if (l0.length : Int) > 150 then (if (l0.length : Int) ≤ 1000 then (paronymlaw12_PunyEncodes.j0 k l0 true) else (paronymlaw12_PunyEncodes.j0 k l0 (decide ((l0.length : Int) > 3000)))) else (paronymlaw12_PunyEncodes.j0 k l0 (decide ((l0.length : Int) > 3000)))) else (paronymlaw12_PunyEncodes.j0 k l0 true))
theorem paronymlaw12_PunyEncodes.mono_l : ∀ k, (∀ y0 y1, LeO (paronymlaw12_PunyEncodes.j0 k y0 y1) (paronymlaw12_PunyEncodes.j0 (k + 1) y0 y1)) ∧ (∀ y0 y1 y2 y3, LeO (paronymlaw12_PunyEncodes.j1 k y0 y1 y2 y3) (paronymlaw12_PunyEncodes.j1 (k + 1) y0 y1 y2 y3))
  | 0 => ⟨fun _ _ r h => by simp [paronymlaw12_PunyEncodes.j0] at h, fun _ _ _ _ r h => by simp [paronymlaw12_PunyEncodes.j1] at h⟩
  | k + 1 => by
    obtain ⟨ih0, ih1⟩ := paronymlaw12_PunyEncodes.mono_l k
    refine ⟨?_, ?_⟩
    · intro y0 y1
      unfold paronymlaw12_PunyEncodes.j0
      repeat' first
      | (with_reducible exact ih0 _ _)
      | (with_reducible exact ih1 _ _ _ _)
      | (with_reducible exact paronymlaw12_awake.mono _)
      | (with_reducible exact paronymref01_Same.mono _ _ _)
      | (with_reducible exact paronymref12_Encode.mono _ _)
      | (with_reducible exact puny_Decode.mono _ _)
      | (with_reducible exact puny_Encode.mono _ _)
      | (with_reducible exact LeO.refl _)
      | (with_reducible exact LeO.none _)
      | (with_reducible refine LeO.ite ?_ ?_)
      | (with_reducible refine LeO.bind ?_ (fun _ => ?_))
      | exact ih0 _ _
      | exact ih1 _ _ _ _
      | exact paronymlaw12_awake.mono _
      | exact paronymref01_Same.mono _ _ _
      | exact paronymref12_Encode.mono _ _
      | exact puny_Decode.mono _ _
      | exact puny_Encode.mono _ _
      | exact LeO.none _
      | refine LeO.ite ?_ ?_
      | refine LeO.bind ?_ (fun _ => ?_)
    · intro y0 y1 y2 y3
      unfold paronymlaw12_PunyEncodes.j1
      repeat' first
      | (with_reducible exact ih0 _ _)
      | (with_reducible exact ih1 _ _ _ _)
      | (with_reducible exact paronymlaw12_awake.mono _)
      | (with_reducible exact paronymref01_Same.mono _ _ _)
      | (with_reducible exact paronymref12_Encode.mono _ _)
      | (with_reducible exact puny_Decode.mono _ _)
      | (with_reducible exact puny_Encode.mono _ _)
      | (with_reducible exact LeO.refl _)
      | (with_reducible exact LeO.none _)
      | (with_reducible refine LeO.ite ?_ ?_)
      | (with_reducible refine LeO.bind ?_ (fun _ => ?_))
      | exact ih0 _ _
      | exact ih1 _ _ _ _
      | exact paronymlaw12_awake.mono _
      | exact paronymref01_Same.mono _ _ _
      | exact paronymref12_Encode.mono _ _
      | exact puny_Decode.mono _ _
      | exact puny_Encode.mono _ _
      | exact LeO.none _
      | refine LeO.ite ?_ ?_
      | refine LeO.bind ?_ (fun _ => ?_)
theorem paronymlaw12_PunyEncodes.mono : ∀ a0 k, LeO (paronymlaw12_PunyEncodes.f k a0) (paronymlaw12_PunyEncodes.f (k + 1) a0) := by
  intro a0 k
  obtain ⟨ih0, ih1⟩ := paronymlaw12_PunyEncodes.mono_l k
  unfold paronymlaw12_PunyEncodes.f
  repeat' first
      | (with_reducible exact ih0 _ _)
      | (with_reducible exact ih1 _ _ _ _)
      | (with_reducible exact paronymlaw12_awake.mono _)
      | (with_reducible exact paronymref01_Same.mono _ _ _)
      | (with_reducible exact paronymref12_Encode.mono _ _)
      | (with_reducible exact puny_Decode.mono _ _)
      | (with_reducible exact puny_Encode.mono _ _)
      | (with_reducible exact LeO.refl _)
      | (with_reducible exact LeO.none _)
      | (with_reducible refine LeO.ite ?_ ?_)
      | (with_reducible refine LeO.bind ?_ (fun _ => ?_))
      | exact ih0 _ _
      | exact ih1 _ _ _ _
      | exact paronymlaw12_awake.mono _
      | exact paronymref01_Same.mono _ _ _
      | exact paronymref12_Encode.mono _ _
      | exact puny_Decode.mono _ _
      | exact puny_Encode.mono _ _
      | exact LeO.none _
      | refine LeO.ite ?_ ?_
      | refine LeO.bind ?_ (fun _ => ?_)
set_option maxHeartbeats 8000000 in
set_option maxRecDepth 100000 in
theorem paronymlaw12_PunyEncodes.calls (k : Nat) (A0 : Option Addr) (c0 : Nat) (l0 : List Int) (r : Bool) (w : World) (hr0 : Kd.C (Kd.int .i64) w A0 l0.length l0) (hc0 : l0.length ≤ c0) (h : paronymlaw12_PunyEncodes.f k l0 = some r) :
    Calls Try.prog 12 #[.slice A0 l0.length c0] w fun e w' => e = .returned (.bool r) ∧ Below w.heap.size w w' := by
  have HR0 := Aside0.mk hr0
  have HC0 := Aside0.mk hc0
  clear hr0 hc0
  have HB := Aside0.mk (Below.refl w.heap.size w)
  have H : ((paronymlaw12_awake.f k).bind fun t101 => (if t101 = true then (if (l0.length : Int) > 150 then (if (l0.length : Int) ≤ 1000 then (paronymlaw12_PunyEncodes.j0 k l0 true) else (paronymlaw12_PunyEncodes.j0 k l0 (decide ((l0.length : Int) > 3000)))) else (paronymlaw12_PunyEncodes.j0 k l0 (decide ((l0.length : Int) > 3000)))) else (paronymlaw12_PunyEncodes.j0 k l0 true))) = some r := h
  clear h
  have HC2 := Aside0.mk H
  clear H
  go_enter Try.func12, Try.ntmps12
  go_upto_region 1 with (fail)
  go_cut [25] (fun v25 wc => ∃ (kq : Nat) (x25_1 : Bool), v25 = .bool x25_1 ∧ Aside0 (paronymlaw12_PunyEncodes.j0 kq l0 x25_1 = some r) ∧ Aside0 (kq ≤ k) ∧ Aside0 (Below w.heap.size w wc))
  case first =>
    have H := HC2.out
    clear HC2
    replace H := Option.bind_eq_some_iff.mp H
    obtain ⟨t101, A30, H⟩ := H
    replace H : (if t101 = true then (if (l0.length : Int) > 150 then (if (l0.length : Int) ≤ 1000 then (paronymlaw12_PunyEncodes.j0 k l0 true) else (paronymlaw12_PunyEncodes.j0 k l0 (decide ((l0.length : Int) > 3000)))) else (paronymlaw12_PunyEncodes.j0 k l0 (decide ((l0.length : Int) > 3000)))) else (paronymlaw12_PunyEncodes.j0 k l0 true)) = some r := H
    have A3 := Aside0.mk A30
    clear A30
    by_cases c4 : t101 = true
    · subst c4
      have H1 : (if (l0.length : Int) > 150 then (if (l0.length : Int) ≤ 1000 then (paronymlaw12_PunyEncodes.j0 k l0 true) else (paronymlaw12_PunyEncodes.j0 k l0 (decide ((l0.length : Int) > 3000)))) else (paronymlaw12_PunyEncodes.j0 k l0 (decide ((l0.length : Int) > 3000)))) = some r := by rw [if_pos rfl] at H; exact H
      clear H
      have H := H1
      clear H1
      by_cases c5 : (l0.length : Int) > 150
      · rw [if_pos c5] at H
        have c5b0 : decide (150 < (l0.length : Int)) = true := decide_eq_true c5
        have c5b1 : decide (150 < l0.length) = true := decide_eq_true (by omega)
        clear c5
        (first | rw [c5b0] | (simp only [i64_w, i32_w]; rw [c5b0]) | rw [c5b1] | (simp only [i64_w, i32_w]; rw [c5b1]) | skip)
        by_cases c6 : (l0.length : Int) ≤ 1000
        · rw [if_pos c6] at H
          have c6b0 : decide ((l0.length : Int) ≤ 1000) = true := decide_eq_true c6
          have c6b1 : decide (l0.length ≤ 1000) = true := decide_eq_true (by omega)
          clear c6
          have H' := Aside0.mk H
          clear H
          go_wp2_with (first | ((with_reducible refine gate_callee (f := 25) rfl ?_); refine goesL_ (some 9) rfl rfl Try.func25 (by kernel_rfl) rfl #[] rfl (by (try simp only [List.map_toArray, List.map_cons, List.map_nil]); first | done | rfl | (simp only [List.length_drop, List.length_take]; rfl)) ?_; (with_reducible refine (paronymlaw12_awake.calls k  true _ A3.out).mono ?_); rintro e w7 ⟨rfl, hb⟩; refine ⟨_, rfl, ?_⟩; have n0_ := Aside0.mk (below_step (by repeat (first | (with_reducible first | exact HB.out | apply below_alloc | apply pw_below_drewN | apply below_drew1) | exact HB.out)) hb); clear HB; have HB := n0_; clear n0_; (try clear hb); (try clear hb2); (try clear hk); (try clear hi)))
          go_meet
          case rel => exact ⟨_, (true), (by first | rfl | (simp; done) | (simp [*]; done)), H', ⟨by first | omega | exact Nat.le_refl _⟩, ⟨by repeat (first | (with_reducible first | exact HB.out | apply below_alloc | apply pw_below_drewN | apply below_drew1) | exact HB.out)⟩⟩
        · rw [if_neg c6] at H
          have c6b0 : decide ((l0.length : Int) ≤ 1000) = false := decide_eq_false c6
          have c6b1 : decide (l0.length ≤ 1000) = false := decide_eq_false (by omega)
          clear c6
          have H' := Aside0.mk H
          clear H
          go_wp2_with (first | ((with_reducible refine gate_callee (f := 25) rfl ?_); refine goesL_ (some 9) rfl rfl Try.func25 (by kernel_rfl) rfl #[] rfl (by (try simp only [List.map_toArray, List.map_cons, List.map_nil]); first | done | rfl | (simp only [List.length_drop, List.length_take]; rfl)) ?_; (with_reducible refine (paronymlaw12_awake.calls k  true _ A3.out).mono ?_); rintro e w8 ⟨rfl, hb⟩; refine ⟨_, rfl, ?_⟩; have n0_ := Aside0.mk (below_step (by repeat (first | (with_reducible first | exact HB.out | apply below_alloc | apply pw_below_drewN | apply below_drew1) | exact HB.out)) hb); clear HB; have HB := n0_; clear n0_; (try clear hb); (try clear hb2); (try clear hk); (try clear hi)))
          go_meet
          case rel => exact ⟨_, (decide ((l0.length : Int) > 3000)), (by first | rfl | (simp; done) | (simp [*]; done)), H', ⟨by first | omega | exact Nat.le_refl _⟩, ⟨by repeat (first | (with_reducible first | exact HB.out | apply below_alloc | apply pw_below_drewN | apply below_drew1) | exact HB.out)⟩⟩
      · rw [if_neg c5] at H
        have c5b0 : decide (150 < (l0.length : Int)) = false := decide_eq_false c5
        have c5b1 : decide (150 < l0.length) = false := decide_eq_false (by omega)
        clear c5
        (first | rw [c5b0] | (simp only [i64_w, i32_w]; rw [c5b0]) | rw [c5b1] | (simp only [i64_w, i32_w]; rw [c5b1]) | skip)
        have H' := Aside0.mk H
        clear H
        go_wp2_with (first | ((with_reducible refine gate_callee (f := 25) rfl ?_); refine goesL_ (some 9) rfl rfl Try.func25 (by kernel_rfl) rfl #[] rfl (by (try simp only [List.map_toArray, List.map_cons, List.map_nil]); first | done | rfl | (simp only [List.length_drop, List.length_take]; rfl)) ?_; (with_reducible refine (paronymlaw12_awake.calls k  true _ A3.out).mono ?_); rintro e w9 ⟨rfl, hb⟩; refine ⟨_, rfl, ?_⟩; have n0_ := Aside0.mk (below_step (by repeat (first | (with_reducible first | exact HB.out | apply below_alloc | apply pw_below_drewN | apply below_drew1) | exact HB.out)) hb); clear HB; have HB := n0_; clear n0_; (try clear hb); (try clear hb2); (try clear hk); (try clear hi)))
        go_meet
        case rel => exact ⟨_, (decide ((l0.length : Int) > 3000)), (by first | rfl | (simp; done) | (simp [*]; done)), H', ⟨by first | omega | exact Nat.le_refl _⟩, ⟨by repeat (first | (with_reducible first | exact HB.out | apply below_alloc | apply pw_below_drewN | apply below_drew1) | exact HB.out)⟩⟩
    · replace c4 := Bool.eq_false_iff.mpr c4
      subst c4
      have H1 : (paronymlaw12_PunyEncodes.j0 k l0 true) = some r := by rw [if_neg (show ¬ (false = true) by decide)] at H; exact H
      clear H
      have H := H1
      clear H1
      have H' := Aside0.mk H
      clear H
      go_wp2_with (first | ((with_reducible refine gate_callee (f := 25) rfl ?_); refine goesL_ (some 9) rfl rfl Try.func25 (by kernel_rfl) rfl #[] rfl (by (try simp only [List.map_toArray, List.map_cons, List.map_nil]); first | done | rfl | (simp only [List.length_drop, List.length_take]; rfl)) ?_; (with_reducible refine (paronymlaw12_awake.calls k  false _ A3.out).mono ?_); rintro e w10 ⟨rfl, hb⟩; refine ⟨_, rfl, ?_⟩; have n0_ := Aside0.mk (below_step (by repeat (first | (with_reducible first | exact HB.out | apply below_alloc | apply pw_below_drewN | apply below_drew1) | exact HB.out)) hb); clear HB; have HB := n0_; clear n0_; (try clear hb); (try clear hb2); (try clear hk); (try clear hi)))
      go_meet
      case rel => exact ⟨_, (true), (by first | rfl | (simp; done) | (simp [*]; done)), H', ⟨by first | omega | exact Nat.le_refl _⟩, ⟨by repeat (first | (with_reducible first | exact HB.out | apply below_alloc | apply pw_below_drewN | apply below_drew1) | exact HB.out)⟩⟩
  case rest =>
    clear HC2
    try clear c1
    try clear c2
    try clear p2
    try clear c4
    try clear c5
    try clear c5b0
    try clear c5b1
    try clear c6
    try clear c6b0
    try clear c6b1
    obtain ⟨kq, x25_1, rfl, HA, HJ1, HB⟩ := hcut
    cases kq with
    | zero => exact absurd HA.out (by simp [paronymlaw12_PunyEncodes.j0])
    | succ kj1 =>
      have H := HA.out
      clear HA
      simp only [paronymlaw12_PunyEncodes.j0] at H
      by_cases c11 : x25_1 = true
      · subst c11
        have H1 : ((paronymlaw12_awake.f kj1).bind fun t102 => (some t102)) = some r := by rw [if_pos rfl] at H; exact H
        clear H
        have H := H1
        clear H1
        replace H := Option.bind_eq_some_iff.mp H
        obtain ⟨t102, A120, H⟩ := H
        replace H : (some t102) = some r := H
        have A12 := Aside0.mk A120
        clear A120
        obtain rfl := Option.some.inj H
        go_wp2_with (first | ((with_reducible refine gate_callee (f := 25) rfl ?_); refine goesL_ (some 26) rfl rfl Try.func25 (by kernel_rfl) rfl #[] rfl (by (try simp only [List.map_toArray, List.map_cons, List.map_nil]); first | done | rfl | (simp only [List.length_drop, List.length_take]; rfl)) ?_; (with_reducible refine (paronymlaw12_awake.calls kj1  t102 _ A12.out).mono ?_); rintro e w13 ⟨rfl, hb⟩; refine ⟨_, rfl, ?_⟩; have n0_ := Aside0.mk (below_step (by repeat (first | (with_reducible first | exact HB.out | apply below_alloc | apply pw_below_drewN | apply below_drew1) | exact HB.out)) hb); clear HB; have HB := n0_; clear n0_; (try clear hb); (try clear hb2); (try clear hk); (try clear hi)))
        go_ret
        exact ⟨by first | rfl | (simp [errW_none, errW_some] <;> rfl) | (simp [*, errW_none, errW_some] <;> rfl), by repeat (first | (with_reducible first | exact HB.out | apply below_alloc | apply pw_below_drewN | apply below_drew1) | exact HB.out)⟩
      · replace c11 := Bool.eq_false_iff.mpr c11
        subst c11
        have H1 : ((puny_Encode.f kj1 l0).bind fun bt103 => ((paronymref12_Encode.f kj1 l0).bind fun bt107 => (if bt103.2 = bt107.2 then (paronymlaw12_PunyEncodes.j1 kj1 l0 bt103.1 bt103.2 ((strOfNums bt103.1).toList != bt107.1.toList)) else (paronymlaw12_PunyEncodes.j1 kj1 l0 bt103.1 bt103.2 true)))) = some r := by rw [if_neg (show ¬ (false = true) by decide)] at H; exact H
        clear H
        have H := H1
        clear H1
        replace H := Option.bind_eq_some_iff.mp H
        obtain ⟨⟨t103, t104⟩, A140, H⟩ := H
        replace H : ((paronymref12_Encode.f kj1 l0).bind fun bt107 => (if t104 = bt107.2 then (paronymlaw12_PunyEncodes.j1 kj1 l0 t103 t104 ((strOfNums t103).toList != bt107.1.toList)) else (paronymlaw12_PunyEncodes.j1 kj1 l0 t103 t104 true))) = some r := H
        have A14 := Aside0.mk A140
        clear A140
        replace H := Option.bind_eq_some_iff.mp H
        obtain ⟨⟨t107, t108⟩, A150, H⟩ := H
        replace H : (if t104 = t108 then (paronymlaw12_PunyEncodes.j1 kj1 l0 t103 t104 ((strOfNums t103).toList != t107.toList)) else (paronymlaw12_PunyEncodes.j1 kj1 l0 t103 t104 true)) = some r := H
        have A15 := Aside0.mk A150
        clear A150
        have HC16 := Aside0.mk H
        clear H
        go_upto_region 5 with (first | ((with_reducible refine gate_callee (f := 26) rfl ?_); refine goesL_ (some 29) rfl rfl Try.func26 (by kernel_rfl) rfl #[.slice A0 l0.length c0] rfl (by (try simp only [List.map_toArray, List.map_cons, List.map_nil]); first | done | rfl | (simp only [List.length_drop, List.length_take]; rfl)) ?_; (with_reducible refine (puny_Encode.calls kj1 _ _ l0 t103 t104 _ ?side1 ?side2 A14.out).mono ?_); (case side1 => repeat (first | exact (Kd.C_below HR0.out HB.out) | (with_reducible refine Kd.C_alloc ?_ _) | (with_reducible refine Kd.C_drewN ?_ _) | (with_reducible refine Kd.C_drew ?_))); (case side2 => exact HC0.out); rintro e w17 ⟨v105, rfl, ho0, hb⟩; refine ⟨_, rfl, ?_⟩; have n0_ := Aside0.mk (Kd.R_lower ho0 (below_size (by repeat (first | (with_reducible first | exact HB.out | apply below_alloc | apply pw_below_drewN | apply below_drew1) | exact HB.out)))); have n1_ := Aside0.mk (below_step (by repeat (first | (with_reducible first | exact HB.out | apply below_alloc | apply pw_below_drewN | apply below_drew1) | exact HB.out)) hb); clear HB; have HO106 := n0_; have HB := n1_; clear n0_ n1_; (try clear hb); (try clear hb2); (try clear hk); (try clear hi); (try clear ho0)) | ((with_reducible refine gate_callee (f := 42) rfl ?_); refine goesL_ (some 34) rfl rfl Try.func42 (by kernel_rfl) rfl #[.slice A0 l0.length c0] rfl (by (try simp only [List.map_toArray, List.map_cons, List.map_nil]); first | done | rfl | (simp only [List.length_drop, List.length_take]; rfl)) ?_; (with_reducible refine (paronymref12_Encode.calls kj1 _ _ l0 t107 t108 _ ?side1 ?side2 A15.out).mono ?_); (case side1 => repeat (first | exact (Kd.C_below HR0.out HB.out) | (with_reducible refine Kd.C_alloc ?_ _) | (with_reducible refine Kd.C_drewN ?_ _) | (with_reducible refine Kd.C_drew ?_))); (case side2 => exact HC0.out); rintro e w18 ⟨rfl, hb⟩; refine ⟨_, rfl, ?_⟩; have n0_ := Aside0.mk (Kd.R_below (by (with_reducible repeat (first | apply Kd.R_alloc | apply Kd.R_drewN | apply Kd.R_drew)); exact HO106.out) hb); have n1_ := Aside0.mk (below_step (by repeat (first | (with_reducible first | exact HB.out | apply below_alloc | apply pw_below_drewN | apply below_drew1) | exact HB.out)) hb); clear HO106; clear HB; have HO106 := n0_; have HB := n1_; clear n0_ n1_; (try clear hb); (try clear hb2); (try clear hk); (try clear hi)))
        (try simp only [Act.put, List.setIfInBounds_toArray, List.set_cons_zero, List.set_cons_succ])
        go_cut [45] (fun v45 wc => ∃ (kq : Nat) (x45_15 : Bool), v45 = .bool x45_15 ∧ Aside0 (paronymlaw12_PunyEncodes.j1 kq l0 t103 t104 x45_15 = some r) ∧ Aside0 (kq ≤ kj1) ∧ Aside0 (Kd.R (Kd.int .u8) 5 wc w.heap.size (fun _ => True) v105 t103) ∧ Aside0 (Below w.heap.size w wc))
        case first =>
          have H := HC16.out
          clear HC16
          by_cases c19 : t104 = t108
          · rw [if_pos c19] at H
            have c19b0 : (t104 == t108) = true := beq_iff_eq.mpr c19
            have c19b1 : (t104 != t108) = false := bne_eq_false_iff_eq.mpr c19
            clear c19
            (first | rw [c19b0] | (simp only [i64_w, i32_w]; rw [c19b0]) | rw [c19b1] | (simp only [i64_w, i32_w]; rw [c19b1]) | skip)
            have H' := Aside0.mk H
            clear H
            have hcv20 := own_string (P := Try.prog) Try.underlying22 Try.underlying5 Try.underlying9 (Kd.own_of_R HO106.out)
            have hcv21 := fun (nd_ : Nat) => own_string (P := Try.prog) Try.underlying22 Try.underlying5 Try.underlying9 (Kd.own_of_R (Kd.R_drewN HO106.out nd_))
            go_wp2
            go_meet
            case rel => exact ⟨_, (((strOfNums t103).toList != t107.toList)), (by first | rfl | (simp; done) | (simp [*]; done)), H', ⟨by have := HJ1.out; first | omega | exact Nat.le_refl _⟩, ⟨by (with_reducible repeat (first | apply Kd.R_alloc | apply Kd.R_drewN | apply Kd.R_drew)); exact HO106.out⟩, ⟨by repeat (first | (with_reducible first | exact HB.out | apply below_alloc | apply pw_below_drewN | apply below_drew1) | exact HB.out)⟩⟩
          · rw [if_neg c19] at H
            have c19b0 : (t104 == t108) = false := beq_eq_false_iff_ne.mpr c19
            have c19b1 : (t104 != t108) = true := bne_iff_ne.mpr c19
            (first | rw [c19b0] | (simp only [i64_w, i32_w]; rw [c19b0]) | rw [c19b1] | (simp only [i64_w, i32_w]; rw [c19b1]) | skip)
            have H' := Aside0.mk H
            clear H
            go_wp2
            go_meet
            case rel => exact ⟨_, (true), (by first | rfl | (simp; done) | (simp [*]; done)), H', ⟨by have := HJ1.out; first | omega | exact Nat.le_refl _⟩, ⟨by (with_reducible repeat (first | apply Kd.R_alloc | apply Kd.R_drewN | apply Kd.R_drew)); exact HO106.out⟩, ⟨by repeat (first | (with_reducible first | exact HB.out | apply below_alloc | apply pw_below_drewN | apply below_drew1) | exact HB.out)⟩⟩
        case rest =>
          clear HC16
          try clear c1
          try clear c2
          try clear p2
          try clear hcv2
          try clear c4
          try clear c5
          try clear c5b0
          try clear c5b1
          try clear c6
          try clear c6b0
          try clear c6b1
          try clear c11
          try clear c12
          try clear c19
          try clear c19b0
          try clear c19b1
          try clear hcv20
          try clear hcv21
          try clear p2
          obtain ⟨kq, x45_15, rfl, HA, HJ15, HO_3, HB⟩ := hcut
          cases kq with
          | zero => exact absurd HA.out (by simp [paronymlaw12_PunyEncodes.j1])
          | succ kj15 =>
            have H := HA.out
            clear HA
            simp only [paronymlaw12_PunyEncodes.j1] at H
            by_cases c22 : x45_15 = true
            · subst c22
              have H1 : (some false) = some r := by rw [if_pos rfl] at H; exact H
              clear H
              have H := H1
              clear H1
              obtain rfl := Option.some.inj H
              go_wp2
              go_ret
              exact ⟨by first | rfl | (simp [errW_none, errW_some] <;> rfl) | (simp [*, errW_none, errW_some] <;> rfl), by repeat (first | (with_reducible first | exact HB.out | apply below_alloc | apply pw_below_drewN | apply below_drew1) | exact HB.out)⟩
            · replace c22 := Bool.eq_false_iff.mpr c22
              subst c22
              have H1 : ((puny_Decode.f kj15 t103).bind fun bt109 => (if t104 = 0 then (if bt109.2 = 0 then ((paronymref01_Same.f kj15 bt109.1 l0).bind fun t113 => (some t113)) else (some false)) else (some true))) = some r := by rw [if_neg (show ¬ (false = true) by decide)] at H; exact H
              clear H
              have H := H1
              clear H1
              replace H := Option.bind_eq_some_iff.mp H
              obtain ⟨⟨t109, t112⟩, A230, H⟩ := H
              replace H : (if t104 = 0 then (if t112 = 0 then ((paronymref01_Same.f kj15 t109 l0).bind fun t113 => (some t113)) else (some false)) else (some true)) = some r := H
              have A23 := Aside0.mk A230
              clear A230
              by_cases c24 : t104 = 0
              · rw [if_pos c24] at H
                have c24b0 : (t104 == 0) = true := beq_iff_eq.mpr c24
                have c24b1 : (t104 != 0) = false := bne_eq_false_iff_eq.mpr c24
                clear c24
                by_cases c25 : t112 = 0
                · rw [if_pos c25] at H
                  have c25b0 : (t112 == 0) = true := beq_iff_eq.mpr c25
                  have c25b1 : (t112 != 0) = false := bne_eq_false_iff_eq.mpr c25
                  clear c25
                  replace H := Option.bind_eq_some_iff.mp H
                  obtain ⟨t113, A260, H⟩ := H
                  replace H : (some t113) = some r := H
                  have A26 := Aside0.mk A260
                  clear A260
                  obtain rfl := Option.some.inj H
                  obtain ⟨Ao27, co27, eo27⟩ := Kd.R_slice HO_3.out
                  subst eo27
                  go_wp2_with (first | ((with_reducible refine gate_callee (f := 43) rfl ?_); refine goesL_ (some 48) rfl rfl Try.func43 (by kernel_rfl) rfl #[.slice Ao27 t103.length co27] rfl (by (try simp only [List.map_toArray, List.map_cons, List.map_nil]); first | done | rfl | (simp only [List.length_drop, List.length_take]; rfl)) ?_; (with_reducible refine (puny_Decode.calls kj15 (fun k_ => some k_ = (.slice Ao27 t103.length co27 : Value).ownBlock) _ _ t103 t109 t112 _ ?side1 A23.out).mono ?_); (case side1 => exact Kd.R_V (Kd.R_tight rfl (HO_3.out))); rintro e w28 ⟨v110, rfl, ho0, hb⟩; refine ⟨_, rfl, ?_⟩; have n0_ := Aside0.mk (Kd.R_below (by (with_reducible repeat (first | apply Kd.R_alloc | apply Kd.R_drewN | apply Kd.R_drew)); exact HO_3.out) hb); have n1_ := Aside0.mk (Kd.R_lower (Kd.R_mono (ok' := fun k_ => True) ho0 (fun _ hk_ => trivial)) (below_size (by repeat (first | (with_reducible first | exact HB.out | apply below_alloc | apply pw_below_drewN | apply below_drew1) | exact HB.out)))); have n2_ := Aside0.mk (below_step (by repeat (first | (with_reducible first | exact HB.out | apply below_alloc | apply pw_below_drewN | apply below_drew1) | exact HB.out)) hb); clear HO_3; clear HB; have HO_3 := n0_; have HO111 := n1_; have HB := n2_; clear n0_ n1_ n2_; (try clear hb); (try clear hb2); (try clear hk); (try clear hi); (try clear ho0); obtain ⟨Ao29, co29, eo29⟩ := Kd.R_slice HO111.out; subst eo29) | (go_at_call 31; (with_reducible refine (paronymref01_Same.calls kj15 _ _ t109 _ _ l0 t113 _ ?side1 ?side2 ?side3 ?side4 A26.out).mono ?_); (case side1 => repeat (first | exact (Kd.R_reads' HO111.out).2.2 | (with_reducible refine Kd.C_alloc ?_ _) | (with_reducible refine Kd.C_drewN ?_ _) | (with_reducible refine Kd.C_drew ?_))); (case side2 => exact (Kd.R_reads' HO111.out).2.1); (case side3 => repeat (first | exact (Kd.C_below HR0.out HB.out) | (with_reducible refine Kd.C_alloc ?_ _) | (with_reducible refine Kd.C_drewN ?_ _) | (with_reducible refine Kd.C_drew ?_))); (case side4 => exact HC0.out); rintro e w' ⟨rfl, ⟨nd, rfl⟩⟩))
                  go_ret
                  exact ⟨by first | rfl | (simp [errW_none, errW_some] <;> rfl) | (simp [*, errW_none, errW_some] <;> rfl), by repeat (first | (with_reducible first | exact HB.out | apply below_alloc | apply pw_below_drewN | apply below_drew1) | exact HB.out)⟩
                · rw [if_neg c25] at H
                  have c25b0 : (t112 == 0) = false := beq_eq_false_iff_ne.mpr c25
                  have c25b1 : (t112 != 0) = true := bne_iff_ne.mpr c25
                  obtain rfl := Option.some.inj H
                  obtain ⟨Ao30, co30, eo30⟩ := Kd.R_slice HO_3.out
                  subst eo30
                  go_wp2_with (first | ((with_reducible refine gate_callee (f := 43) rfl ?_); refine goesL_ (some 48) rfl rfl Try.func43 (by kernel_rfl) rfl #[.slice Ao30 t103.length co30] rfl (by (try simp only [List.map_toArray, List.map_cons, List.map_nil]); first | done | rfl | (simp only [List.length_drop, List.length_take]; rfl)) ?_; (with_reducible refine (puny_Decode.calls kj15 (fun k_ => some k_ = (.slice Ao30 t103.length co30 : Value).ownBlock) _ _ t103 t109 t112 _ ?side1 A23.out).mono ?_); (case side1 => exact Kd.R_V (Kd.R_tight rfl (HO_3.out))); rintro e w31 ⟨v110, rfl, ho0, hb⟩; refine ⟨_, rfl, ?_⟩; have n0_ := Aside0.mk (Kd.R_below (by (with_reducible repeat (first | apply Kd.R_alloc | apply Kd.R_drewN | apply Kd.R_drew)); exact HO_3.out) hb); have n1_ := Aside0.mk (Kd.R_lower (Kd.R_mono (ok' := fun k_ => True) ho0 (fun _ hk_ => trivial)) (below_size (by repeat (first | (with_reducible first | exact HB.out | apply below_alloc | apply pw_below_drewN | apply below_drew1) | exact HB.out)))); have n2_ := Aside0.mk (below_step (by repeat (first | (with_reducible first | exact HB.out | apply below_alloc | apply pw_below_drewN | apply below_drew1) | exact HB.out)) hb); clear HO_3; clear HB; have HO_3 := n0_; have HO111 := n1_; have HB := n2_; clear n0_ n1_ n2_; (try clear hb); (try clear hb2); (try clear hk); (try clear hi); (try clear ho0)))
                  go_ret
                  exact ⟨by first | rfl | (simp [errW_none, errW_some] <;> rfl) | (simp [*, errW_none, errW_some] <;> rfl), by repeat (first | (with_reducible first | exact HB.out | apply below_alloc | apply pw_below_drewN | apply below_drew1) | exact HB.out)⟩
              · rw [if_neg c24] at H
                have c24b0 : (t104 == 0) = false := beq_eq_false_iff_ne.mpr c24
                have c24b1 : (t104 != 0) = true := bne_iff_ne.mpr c24
                obtain rfl := Option.some.inj H
                obtain ⟨Ao32, co32, eo32⟩ := Kd.R_slice HO_3.out
                subst eo32
                go_wp2_with (first | ((with_reducible refine gate_callee (f := 43) rfl ?_); refine goesL_ (some 48) rfl rfl Try.func43 (by kernel_rfl) rfl #[.slice Ao32 t103.length co32] rfl (by (try simp only [List.map_toArray, List.map_cons, List.map_nil]); first | done | rfl | (simp only [List.length_drop, List.length_take]; rfl)) ?_; (with_reducible refine (puny_Decode.calls kj15 (fun k_ => some k_ = (.slice Ao32 t103.length co32 : Value).ownBlock) _ _ t103 t109 t112 _ ?side1 A23.out).mono ?_); (case side1 => exact Kd.R_V (Kd.R_tight rfl (HO_3.out))); rintro e w33 ⟨v110, rfl, ho0, hb⟩; refine ⟨_, rfl, ?_⟩; have n0_ := Aside0.mk (Kd.R_below (by (with_reducible repeat (first | apply Kd.R_alloc | apply Kd.R_drewN | apply Kd.R_drew)); exact HO_3.out) hb); have n1_ := Aside0.mk (Kd.R_lower (Kd.R_mono (ok' := fun k_ => True) ho0 (fun _ hk_ => trivial)) (below_size (by repeat (first | (with_reducible first | exact HB.out | apply below_alloc | apply pw_below_drewN | apply below_drew1) | exact HB.out)))); have n2_ := Aside0.mk (below_step (by repeat (first | (with_reducible first | exact HB.out | apply below_alloc | apply pw_below_drewN | apply below_drew1) | exact HB.out)) hb); clear HO_3; clear HB; have HO_3 := n0_; have HO111 := n1_; have HB := n2_; clear n0_ n1_ n2_; (try clear hb); (try clear hb2); (try clear hk); (try clear hi); (try clear ho0)))
                go_ret
                exact ⟨by first | rfl | (simp [errW_none, errW_some] <;> rfl) | (simp [*, errW_none, errW_some] <;> rfl), by repeat (first | (with_reducible first | exact HB.out | apply below_alloc | apply pw_below_drewN | apply below_drew1) | exact HB.out)⟩

/-- THE ONE PURE STATEMENT of paronymlaw12_PunyEncodes: yours. -/
def paronymlaw12_PunyEncodes.Pure : Prop := ∀ (l0 : List Int), l0.length ≤ maxLen → l0.length * 8 ≤ 140737488351232 → (∀ x ∈ l0, (Lit.int .i64 x).wf = true) → ∃ k, paronymlaw12_PunyEncodes.f k l0 = some true
theorem paronymlaw12_PunyEncodes.walk (P : paronymlaw12_PunyEncodes.Pure) (a0 : Option Addr) (len0 cap0 : Nat) (z0 : List Int) (w : World) (w0 : (a0 = none ∧ len0 = 0 ∧ cap0 = 0 ∧ z0 = []) ∨ ∃ x, a0 = some x ∧ len0 ≤ cap0 ∧ cap0 ≤ maxLen ∧ z0.length = cap0 ∧ (∀ i, i < z0.length → w.cell? (x.add i) = some (.int .i64 (z0.getD i 0))) ∧ ∀ n ∈ z0, (Lit.int .i64 n).wf = true) (y0 : len0 * 8 ≤ 140737488351232) :
    Calls Try.prog 12 #[.slice a0 len0 cap0] w fun e w' => e = .returned (.bool true) ∧ Below w.heap.size w w' := by
  obtain ⟨l0, rfl, hr0, hm0, hw0, hc0⟩ := ReadsInt.ofRowC w0
  obtain ⟨k, h⟩ := P l0 hm0 y0 hw0
  refine (paronymlaw12_PunyEncodes.calls k _ _ l0 true w (Kd.C_of_reads (d := (0 : Int)) (h1 := fun _ => rfl) hr0) hc0 h).mono ?_
  rintro e w' ⟨rfl, hd⟩
  exact ⟨rfl, hd⟩

end Go.Proofs.Ytooiajkbpkfplaa.Q

-- from K
/- Small lemmas on lists, octets and rounds, for the plain laws of this seat. No condition. -/
namespace Go.Proofs.Ytooiajkbpkfplaa.K
set_option linter.unusedVariables false
set_option linter.unusedSimpArgs false
open Go.RowKit Go.Proofs.YtooiajkbpkfplaaW.PrintWords

theorem w64 {n : Int} (h0 : -9223372036854775808 ≤ n) (h1 : n ≤ 9223372036854775807) : wrap64 n = n := by unfold wrap64; omega
theorem rd_nat (l : List Int) (i : Nat) (h : i < l.length) : rd l (i : Int) = l[i] := by
  unfold rd; simp [List.getD_eq_getElem?_getD, List.getElem?_eq_getElem h]
theorem rd_mem {l : List Int} {i : Int} (h0 : 0 ≤ i) (h1 : i < (l.length : Int)) : rd l i ∈ l := by
  obtain ⟨n, rfl⟩ := Int.eq_ofNat_of_zero_le h0
  rw [rd_nat l n (by omega)]
  exact List.getElem_mem _
theorem rd_append_left {l m : List Int} {i : Int} (h0 : 0 ≤ i) (h1 : i < (l.length : Int)) : rd (l ++ m) i = rd l i := by
  unfold rd
  simp only [List.getD_eq_getElem?_getD]
  rw [List.getElem?_append_left (by omega)]
theorem rd_append_right {l m : List Int} {i : Int} (h0 : (l.length : Int) ≤ i) : rd (l ++ m) i = rd m (i - l.length) := by
  unfold rd
  simp only [List.getD_eq_getElem?_getD]
  rw [List.getElem?_append_right (by omega)]
  congr 2
  omega
theorem rd_map {f : Int → Int} {l : List Int} {i : Int} (h0 : 0 ≤ i) (h1 : i < (l.length : Int)) : rd (l.map f) i = f (rd l i) := by
  obtain ⟨n, rfl⟩ := Int.eq_ofNat_of_zero_le h0
  rw [rd_nat _ n (by simpa using h1), rd_nat l n (by omega)]
  simp
theorem rd_cons_zero (x : Int) (l : List Int) : rd (x :: l) 0 = x := rfl
theorem rd_drop {l : List Int} {n : Nat} {i : Int} (h0 : 0 ≤ i) : rd (l.drop n) i = rd l (n + i) := by
  unfold rd
  simp only [List.getD_eq_getElem?_getD, List.getElem?_drop]
  congr 2
  omega
theorem rd_take {l : List Int} {n : Nat} {i : Int} (h0 : 0 ≤ i) (h1 : i < (n : Int)) : rd (l.take n) i = rd l i := by
  unfold rd
  simp only [List.getD_eq_getElem?_getD]
  rw [List.getElem?_take_of_lt (by omega)]
theorem take_snoc (l : List Int) (i : Nat) (h : i < l.length) : l.take (i + 1) = l.take i ++ [rd l (i : Int)] := by
  rw [rd_nat l i h, List.take_succ_eq_append_getElem h]
theorem drop_cons (l : List Int) (i : Nat) (h : i < l.length) : l.drop i = rd l (i : Int) :: l.drop (i + 1) := by
  rw [rd_nat l i h, List.drop_eq_getElem_cons h]

/-! octets -/
def Oct (l : List Int) : Prop := ∀ x ∈ l, 0 ≤ x ∧ x ≤ 255
theorem oct_of_wf {l : List Int} (h : ∀ x ∈ l, (Lit.int .u8 x).wf = true) : Oct l := fun x hx => by
  have := h x hx
  simp only [Lit.wf, Bool.and_eq_true, decide_eq_true_eq] at this
  have e1 : IntKind.u8.min = 0 := rfl
  have e2 : IntKind.u8.max = 255 := rfl
  omega
theorem i64_of_wf {x : Int} (h : (Lit.int .i64 x).wf = true) : -9223372036854775808 ≤ x ∧ x ≤ 9223372036854775807 := by
  simp only [Lit.wf, Bool.and_eq_true, decide_eq_true_eq] at h
  have e1 : IntKind.i64.min = -9223372036854775808 := rfl
  have e2 : IntKind.i64.max = 9223372036854775807 := rfl
  omega
theorem u8_of_wf {x : Int} (h : (Lit.int .u8 x).wf = true) : 0 ≤ x ∧ x ≤ 255 := by
  simp only [Lit.wf, Bool.and_eq_true, decide_eq_true_eq] at h
  have e1 : IntKind.u8.min = 0 := rfl
  have e2 : IntKind.u8.max = 255 := rfl
  omega
theorem Oct.map {l : List Int} {f : Int → Int} (h : ∀ x, 0 ≤ x → x ≤ 255 → 0 ≤ f x ∧ f x ≤ 255) (hl : Oct l) : Oct (l.map f) := fun y hy => by
  obtain ⟨x, hx, rfl⟩ := List.mem_map.1 hy
  exact h x (hl x hx).1 (hl x hx).2
theorem Oct.append {l m : List Int} (h : Oct l) (k : Oct m) : Oct (l ++ m) := fun x hx => by
  rcases List.mem_append.1 hx with hx | hx
  · exact h x hx
  · exact k x hx
theorem Oct.take {l : List Int} (h : Oct l) (n : Nat) : Oct (l.take n) := fun x hx => h x (List.mem_of_mem_take hx)
theorem Oct.drop {l : List Int} (h : Oct l) (n : Nat) : Oct (l.drop n) := fun x hx => h x (List.mem_of_mem_drop hx)
theorem Oct.rd {l : List Int} (h : Oct l) {i : Int} (h0 : 0 ≤ i) (h1 : i < (l.length : Int)) : 0 ≤ rd l i ∧ rd l i ≤ 255 := h _ (rd_mem h0 h1)
theorem u8_back {x : Int} (h : 0 ≤ x ∧ x ≤ 255) : ((UInt8.ofNat x.toNat).toNat : Int) = x := by
  simp only [UInt8.toNat_ofNat']
  omega
theorem bt_str {l : List Int} (h : Oct l) {i : Int} (h0 : 0 ≤ i) (h1 : i < (l.length : Int)) : bt (strOfNums l) i = rd l i := by
  obtain ⟨n, rfl⟩ := Int.eq_ofNat_of_zero_le h0
  have hn : n < l.length := by omega
  have hs : n < (strOfNums l).size := by rw [strOfNums_size]; exact hn
  have hb := h.rd h0 h1
  rw [rd_nat l n hn] at hb ⊢
  unfold bt
  simp only [Int.toNat_natCast, hs, dif_pos]
  have : (strOfNums l)[n] = UInt8.ofNat (l[n]).toNat := by
    show (strOfNums l).data[n] = _
    simp [strOfNums]
  rw [this]
  exact u8_back hb
theorem size_str (l : List Int) : (strOfNums l).size = l.length := strOfNums_size l
theorem str_inj {l m : List Int} (hl : Oct l) (hm : Oct m) (h : strOfNums l = strOfNums m) : l = m := by
  have hlen : l.length = m.length := by rw [← size_str l, ← size_str m, h]
  apply List.ext_getElem hlen
  intro i h1 h2
  have a := bt_str hl (i := (i : Int)) (by omega) (by omega)
  have b := bt_str hm (i := (i : Int)) (by omega) (by omega)
  rw [rd_nat l i h1] at a
  rw [rd_nat m i h2] at b
  rw [← a, ← b, h]
theorem ba_toList (s : ByteArray) : s.toList = s.data.toList := ByteArray.toList_eq s
theorem toList_inj {s t : ByteArray} (h : s.toList = t.toList) : s = t := by
  rw [ba_toList, ba_toList] at h
  cases s; cases t
  simp at h
  exact congrArg _ h
theorem toList_eq_iff {s t : ByteArray} : s.toList = t.toList ↔ s = t := ⟨toList_inj, fun h => by rw [h]⟩
theorem str_append (l m : List Int) : strOfNums l ++ strOfNums m = strOfNums (l ++ m) := by
  apply toList_inj
  rw [ba_toList, ba_toList]
  simp [strOfNums]
theorem bytesOf_str {l : List Int} (h : Oct l) : Go.Proofs.YtooiajkbpkfplaaW.PrintWords.bytesOf (strOfNums l) = l := by
  unfold Go.Proofs.YtooiajkbpkfplaaW.PrintWords.bytesOf
  rw [strOfNums_data, List.map_map]
  conv => rhs; rw [← List.map_id l]
  apply List.map_congr_left
  intro x hx
  exact u8_back (h x hx)
theorem oct_bytesOf (s : ByteArray) : Oct (Go.Proofs.YtooiajkbpkfplaaW.PrintWords.bytesOf s) := fun x hx => by
  unfold Go.Proofs.YtooiajkbpkfplaaW.PrintWords.bytesOf at hx
  obtain ⟨b, _, rfl⟩ := List.mem_map.1 hx
  have := b.toNat_lt
  omega
theorem str_bytesOf (s : ByteArray) : strOfNums (Go.Proofs.YtooiajkbpkfplaaW.PrintWords.bytesOf s) = s := by
  unfold Go.Proofs.YtooiajkbpkfplaaW.PrintWords.bytesOf strOfNums
  cases s with
  | mk a =>
    congr 1
    apply Array.ext'
    simp [Function.comp_def]
theorem extract_str {l : List Int} {a b : Nat} : (strOfNums l).extract a b = strOfNums ((l.take b).drop a) := by
  apply toList_inj
  rw [ba_toList, ba_toList]
  rw [ByteArray.data_extract]
  simp [strOfNums, List.map_drop, List.map_take, List.drop_take]

/-! rounds -/
theorem Ev.pos {α : Type} {c : Prop} [Decidable c] {f g : Nat → Option α} {r : α} (h : c) (k : Ev f r) : Ev (fun n => if c then f n else g n) r := Ev.congr (fun _ => if_pos h) k
theorem Ev.neg {α : Type} {c : Prop} [Decidable c] {f g : Nat → Option α} {r : α} (h : ¬ c) (k : Ev g r) : Ev (fun n => if c then f n else g n) r := Ev.congr (fun _ => if_neg h) k
theorem Ev.bindS {α β : Type} {o : Option α} {f : Nat → α → Option β} {a : α} {r : β} (h : o = some a) (k : Ev (fun n => f n a) r) : Ev (fun n => o.bind (f n)) r := by
  subst h; exact k
theorem Ev.ret {α : Type} {a r : α} (h : a = r) : Ev (fun _ => some a) r := by subst h; exact Ev.now _
theorem Ev.val {α : Type} {o : Option α} {r : α} (h : o = some r) : Ev (fun _ => o) r := ⟨0, fun _ _ => h⟩

/-- 'slices.IndexFunc', as it is printed at a function value: the place of the first element that the predicate takes, or -1. -/
def firstAt (q : Int → Bool) : List Int → Int → Int
  | [], _ => -1
  | x :: l, i => if q x = true then i else firstAt q l (i + 1)
theorem index_loop {p : Int → Option Bool} {q : Int → Bool} {l : Nat → List Int → Int → Int → Option Int}
    (hl : ∀ k x n i, l (k + 1) x n i = if i < n then (if 0 ≤ i then (if i < (x.length : Int) then ((p (rd x i)).bind fun t => (if t = true then (some i) else (l k x n (wrap64 (i + 1))))) else none) else none) else some (-1))
    (x : List Int) (hx : x.length ≤ 9223372036854775806) (hp : ∀ y ∈ x, p y = some (q y)) : ∀ (d i : Nat), x.length - i = d → i ≤ x.length → Ev (fun k => l k x (x.length : Int) (i : Int)) (firstAt q (x.drop i) i) := by
  intro d
  induction d with
  | zero =>
    intro i h1 h2
    have : i = x.length := by omega
    subst this
    refine Ev.step (fun k => hl k _ _ _) (Ev.neg (by omega) ?_)
    simp only [List.drop_length, firstAt]
    exact Ev.now _
  | succ d ih =>
    intro i h1 h2
    have hi : i < x.length := by omega
    refine Ev.step (fun k => hl k _ _ _) (Ev.pos (by omega) (Ev.pos (by omega) (Ev.pos (by omega) (Ev.bindS (hp _ (rd_mem (by omega) (by omega))) ?_))))
    rw [drop_cons x i hi]
    simp only [firstAt]
    by_cases hq : q (rd x i) = true
    · rw [if_pos hq]
      exact Ev.pos hq (Ev.now _)
    · rw [if_neg hq]
      refine Ev.neg hq ?_
      have := ih (i + 1) (by omega) (by omega)
      rw [w64 (by omega) (by omega)]
      exact this
theorem firstAt_any (q : Int → Bool) : ∀ (l : List Int) (i : Int), 0 ≤ i → decide (firstAt q l i ≥ 0) = l.any q
  | [], _, _ => by simp [firstAt]
  | x :: l, i, h => by
    by_cases hq : q x = true
    · simp [firstAt, hq, h]
    · have ih := firstAt_any q l (i + 1) (by omega)
      simp only [Bool.not_eq_true] at hq
      simp [firstAt, hq]
      simpa using ih
/-- 'slices.ContainsFunc' at a function value. -/
theorem contains_ev {p : Int → Option Bool} {q : Int → Bool} {l : Nat → List Int → Int → Int → Option Int}
    (hl : ∀ k x n i, l (k + 1) x n i = if i < n then (if 0 ≤ i then (if i < (x.length : Int) then ((p (rd x i)).bind fun t => (if t = true then (some i) else (l k x n (wrap64 (i + 1))))) else none) else none) else some (-1))
    (x : List Int) (hx : x.length ≤ 9223372036854775806) (hp : ∀ y ∈ x, p y = some (q y)) : Ev (fun k => (l k x (x.length : Int) 0).bind fun t => some (decide (t ≥ 0))) (x.any q) := by
  have h := index_loop hl x hx hp x.length 0 (by omega) (by omega)
  refine Ev.bind h (Ev.ret ?_)
  rw [firstAt_any q _ _ (by simp)]
  simp

end Go.Proofs.Ytooiajkbpkfplaa.K

-- from Ppuny0
/- PunyPlain's part: the document's example of layer 12, scalars. -/
namespace Go.Proofs.Ytooiajkbpkfplaa.K
set_option linter.unusedVariables false
set_option linter.unusedSimpArgs false
open Go.RowKit Go.Proofs.YtooiajkbpkfplaaW.PrintWords Go.Proofs.Ytooiajkbpkfplaa.Q

theorem awake12 : paronymlaw12_awake.f 60 = some true := by decide +kernel
theorem awake12_ev : Ev (fun k => paronymlaw12_awake.f k) true := Ev.of (fun k => paronymlaw12_awake.mono k) awake12
def scalar (c : Int) : Bool := decide (0 ≤ c) && (decide (c ≤ 1114111) && (decide (c < 55296) || decide (c > 57343)))
theorem utf_Scalar_is (c : Int) : utf_Scalar.f c = some (scalar c) := by
  unfold utf_Scalar.f scalar
  by_cases a : c ≥ 0
  · have a' : 0 ≤ c := a
    rw [if_pos a]
    by_cases b : c ≤ 1114111
    · rw [if_pos b]
      by_cases d : c < 55296
      · rw [if_pos d]; simp [a', b, d]
      · rw [if_neg d]; simp [a', b, d]
    · rw [if_neg b]; simp [b]
  · have a' : ¬ 0 ≤ c := a
    rw [if_neg a]; simp [a']
theorem unscalar_is (c : Int) : puny_Encode_1.f c = some (!scalar c) := by unfold puny_Encode_1.f; rw [utf_Scalar_is]; rfl
theorem any_unscalar_ev (l : List Int) (hl : l.length ≤ 1099511627776) : Ev (fun k => slices_ContainsFunc_int_int_at_puny_Encode_1.f k l) (l.any fun c => !scalar c) := by
  unfold slices_ContainsFunc_int_int_at_puny_Encode_1.f slices_IndexFunc_int_int_at_puny_Encode_1.f
  exact contains_ev (p := puny_Encode_1.f) (q := fun c => !scalar c) (fun k x n i => rfl) l (by omega) (fun y _ => unscalar_is y)

end Go.Proofs.Ytooiajkbpkfplaa.K

-- from Qf81
-- Made by hp.py, a program of this session, with the kit's printer. Not trusted: Lean checks it.
namespace Go.Proofs.Ytooiajkbpkfplaa.Q
open Go.RowKit Go.Proofs.YtooiajkbpkfplaaW.PrintWords Go.Proofs.YtooiajkbpkfplaaW.PrintLast Go.Proofs.YtooiajkbpkfplaaW.PrintMore
attribute [local go_sem] max2_int min2_int max_two min_two max_three min_three max_four min_four   -- for this text's walks alone
set_option linter.unusedVariables false
set_option linter.unusedSimpArgs false

/-! ### paronymref12_digit: function 81 -/
mutual
def paronymref12_digit.j0 : Nat → Int → Bool → Option (Int)
  | 0, _, _ => none
  | k + 1, x0, x8 => if x8 = true then (some (wrap64 ((wrap64 (x0)) - 97))) else (if x0 ≥ 65 then (paronymref12_digit.j1 k x0 (decide (x0 ≤ 90))) else (paronymref12_digit.j1 k x0 false))
def paronymref12_digit.j1 : Nat → Int → Bool → Option (Int)
  | 0, _, _ => none
  | k + 1, x0, x17 => if x17 = true then (some (wrap64 ((wrap64 (x0)) - 65))) else (if x0 ≥ 48 then (if x0 ≤ 57 then (some (wrap64 ((wrap64 (x0)) - 22))) else (some (-1))) else (some (-1)))
end
def paronymref12_digit.f (k : Nat) (a0 : Int) : Option (Int) := if a0 ≥ 97 then (paronymref12_digit.j0 k a0 (decide (a0 ≤ 122))) else (paronymref12_digit.j0 k a0 false)
theorem paronymref12_digit.mono_l : ∀ k, (∀ y0 y1, LeO (paronymref12_digit.j0 k y0 y1) (paronymref12_digit.j0 (k + 1) y0 y1)) ∧ (∀ y0 y1, LeO (paronymref12_digit.j1 k y0 y1) (paronymref12_digit.j1 (k + 1) y0 y1))
  | 0 => ⟨fun _ _ r h => by simp [paronymref12_digit.j0] at h, fun _ _ r h => by simp [paronymref12_digit.j1] at h⟩
  | k + 1 => by
    obtain ⟨ih0, ih1⟩ := paronymref12_digit.mono_l k
    refine ⟨?_, ?_⟩
    · intro y0 y1
      unfold paronymref12_digit.j0
      repeat' first
      | (with_reducible exact ih0 _ _)
      | (with_reducible exact ih1 _ _)
      | (with_reducible exact LeO.refl _)
      | (with_reducible exact LeO.none _)
      | (with_reducible refine LeO.ite ?_ ?_)
      | (with_reducible refine LeO.bind ?_ (fun _ => ?_))
      | exact ih0 _ _
      | exact ih1 _ _
      | exact LeO.none _
      | refine LeO.ite ?_ ?_
      | refine LeO.bind ?_ (fun _ => ?_)
    · intro y0 y1
      unfold paronymref12_digit.j1
      repeat' first
      | (with_reducible exact ih0 _ _)
      | (with_reducible exact ih1 _ _)
      | (with_reducible exact LeO.refl _)
      | (with_reducible exact LeO.none _)
      | (with_reducible refine LeO.ite ?_ ?_)
      | (with_reducible refine LeO.bind ?_ (fun _ => ?_))
      | exact ih0 _ _
      | exact ih1 _ _
      | exact LeO.none _
      | refine LeO.ite ?_ ?_
      | refine LeO.bind ?_ (fun _ => ?_)
theorem paronymref12_digit.mono : ∀ a0 k, LeO (paronymref12_digit.f k a0) (paronymref12_digit.f (k + 1) a0) := by
  intro a0 k
  obtain ⟨ih0, ih1⟩ := paronymref12_digit.mono_l k
  unfold paronymref12_digit.f
  repeat' first
      | (with_reducible exact ih0 _ _)
      | (with_reducible exact ih1 _ _)
      | (with_reducible exact LeO.refl _)
      | (with_reducible exact LeO.none _)
      | (with_reducible refine LeO.ite ?_ ?_)
      | (with_reducible refine LeO.bind ?_ (fun _ => ?_))
      | exact ih0 _ _
      | exact ih1 _ _
      | exact LeO.none _
      | refine LeO.ite ?_ ?_
      | refine LeO.bind ?_ (fun _ => ?_)
set_option maxHeartbeats 8000000 in
set_option maxRecDepth 100000 in
theorem paronymref12_digit.calls (k : Nat) (a0 : Int) (r : Int) (w : World) (h : paronymref12_digit.f k a0 = some r) :
    Calls Try.prog 81 #[.int .u8 a0] w fun e w' => e = .returned (.int .i64 r) ∧ Drawn0 w w' := by
  have H : (if a0 ≥ 97 then (paronymref12_digit.j0 k a0 (decide (a0 ≤ 122))) else (paronymref12_digit.j0 k a0 false)) = some r := h
  clear h
  have HC2 := Aside0.mk H
  clear H
  go_enter Try.func81, Try.ntmps81
  go_upto_region 1 with (fail)
  go_cut [8] (fun v8 wc => ∃ (kq : Nat) (x8_1 : Bool), v8 = .bool x8_1 ∧ Aside0 (paronymref12_digit.j0 kq a0 x8_1 = some r) ∧ Aside0 (kq ≤ k) ∧ Drawn0 w wc)
  case first =>
    have H := HC2.out
    clear HC2
    by_cases c3 : a0 ≥ 97
    · rw [if_pos c3] at H
      have c3b0 : decide (97 ≤ a0) = true := decide_eq_true c3
      clear c3
      (first | rw [c3b0] | (simp only [i64_w, i32_w]; rw [c3b0]) | rw [c3b1] | (simp only [i64_w, i32_w]; rw [c3b1]) | skip)
      have H' := Aside0.mk H
      clear H
      go_wp2
      go_meet
      case rel => exact ⟨_, (decide (a0 ≤ 122)), (by first | rfl | (simp; done) | (simp [*]; done)), H', ⟨by first | omega | exact Nat.le_refl _⟩, by repeat (first | exact Drawn0.refl _ | apply Drawn0.step)⟩
    · rw [if_neg c3] at H
      have c3b0 : decide (97 ≤ a0) = false := decide_eq_false c3
      clear c3
      (first | rw [c3b0] | (simp only [i64_w, i32_w]; rw [c3b0]) | rw [c3b1] | (simp only [i64_w, i32_w]; rw [c3b1]) | skip)
      have H' := Aside0.mk H
      clear H
      go_wp2
      go_meet
      case rel => exact ⟨_, (false), (by first | rfl | (simp; done) | (simp [*]; done)), H', ⟨by first | omega | exact Nat.le_refl _⟩, by repeat (first | exact Drawn0.refl _ | apply Drawn0.step)⟩
  case rest =>
    clear HC2
    try clear p2
    try clear c3
    try clear c3b0
    try clear c3b1
    obtain ⟨kq, x8_1, rfl, HA, HJ1, ⟨mc1, rfl⟩⟩ := hcut
    cases kq with
    | zero => exact absurd HA.out (by simp [paronymref12_digit.j0])
    | succ kj1 =>
      have H := HA.out
      clear HA
      simp only [paronymref12_digit.j0] at H
      by_cases c4 : x8_1 = true
      · subst c4
        have H1 : (some (wrap64 ((wrap64 (a0)) - 97))) = some r := by rw [if_pos rfl] at H; exact H
        clear H
        have H := H1
        clear H1
        obtain rfl := Option.some.inj H
        go_wp2
        go_ret
        exact ⟨by first | rfl | (simp; done) | (simp [*]; done), by repeat (first | exact Drawn0.refl _ | apply Drawn0.step)⟩
      · replace c4 := Bool.eq_false_iff.mpr c4
        subst c4
        have H1 : (if a0 ≥ 65 then (paronymref12_digit.j1 kj1 a0 (decide (a0 ≤ 90))) else (paronymref12_digit.j1 kj1 a0 false)) = some r := by rw [if_neg (show ¬ (false = true) by decide)] at H; exact H
        clear H
        have H := H1
        clear H1
        have HC5 := Aside0.mk H
        clear H
        go_upto_region 3 with (fail)
        go_cut [17] (fun v17 wc => ∃ (kq : Nat) (x17_4 : Bool), v17 = .bool x17_4 ∧ Aside0 (paronymref12_digit.j1 kq a0 x17_4 = some r) ∧ Aside0 (kq ≤ kj1) ∧ Drawn0 w wc)
        case first =>
          have H := HC5.out
          clear HC5
          by_cases c6 : a0 ≥ 65
          · rw [if_pos c6] at H
            have c6b0 : decide (65 ≤ a0) = true := decide_eq_true c6
            clear c6
            (first | rw [c6b0] | (simp only [i64_w, i32_w]; rw [c6b0]) | rw [c6b1] | (simp only [i64_w, i32_w]; rw [c6b1]) | skip)
            have H' := Aside0.mk H
            clear H
            go_wp2
            go_meet
            case rel => exact ⟨_, (decide (a0 ≤ 90)), (by first | rfl | (simp; done) | (simp [*]; done)), H', ⟨by have := HJ1.out; first | omega | exact Nat.le_refl _⟩, by repeat (first | exact Drawn0.refl _ | apply Drawn0.step)⟩
          · rw [if_neg c6] at H
            have c6b0 : decide (65 ≤ a0) = false := decide_eq_false c6
            clear c6
            (first | rw [c6b0] | (simp only [i64_w, i32_w]; rw [c6b0]) | rw [c6b1] | (simp only [i64_w, i32_w]; rw [c6b1]) | skip)
            have H' := Aside0.mk H
            clear H
            go_wp2
            go_meet
            case rel => exact ⟨_, (false), (by first | rfl | (simp; done) | (simp [*]; done)), H', ⟨by have := HJ1.out; first | omega | exact Nat.le_refl _⟩, by repeat (first | exact Drawn0.refl _ | apply Drawn0.step)⟩
        case rest =>
          clear HC5
          try clear c1
          try clear p2
          try clear c3
          try clear c3b0
          try clear c3b1
          try clear c4
          try clear c6
          try clear c6b0
          try clear c6b1
          try clear p6
          try clear p2
          obtain ⟨kq, x17_4, rfl, HA, HJ4, ⟨mc4, rfl⟩⟩ := hcut
          cases kq with
          | zero => exact absurd HA.out (by simp [paronymref12_digit.j1])
          | succ kj4 =>
            have H := HA.out
            clear HA
            simp only [paronymref12_digit.j1] at H
            by_cases c7 : x17_4 = true
            · subst c7
              have H1 : (some (wrap64 ((wrap64 (a0)) - 65))) = some r := by rw [if_pos rfl] at H; exact H
              clear H
              have H := H1
              clear H1
              obtain rfl := Option.some.inj H
              go_wp2
              go_ret
              exact ⟨by first | rfl | (simp; done) | (simp [*]; done), by repeat (first | exact Drawn0.refl _ | apply Drawn0.step)⟩
            · replace c7 := Bool.eq_false_iff.mpr c7
              subst c7
              have H1 : (if a0 ≥ 48 then (if a0 ≤ 57 then (some (wrap64 ((wrap64 (a0)) - 22))) else (some (-1))) else (some (-1))) = some r := by rw [if_neg (show ¬ (false = true) by decide)] at H; exact H
              clear H
              have H := H1
              clear H1
              by_cases c8 : a0 ≥ 48
              · rw [if_pos c8] at H
                have c8b0 : decide (48 ≤ a0) = true := decide_eq_true c8
                clear c8
                by_cases c9 : a0 ≤ 57
                · rw [if_pos c9] at H
                  have c9b0 : decide (a0 ≤ 57) = true := decide_eq_true c9
                  clear c9
                  obtain rfl := Option.some.inj H
                  go_wp2
                  go_ret
                  exact ⟨by first | rfl | (simp; done) | (simp [*]; done), by repeat (first | exact Drawn0.refl _ | apply Drawn0.step)⟩
                · rw [if_neg c9] at H
                  have c9b0 : decide (a0 ≤ 57) = false := decide_eq_false c9
                  clear c9
                  obtain rfl := Option.some.inj H
                  go_wp2
                  go_ret
                  exact ⟨by first | rfl | (simp; done) | (simp [*]; done), by repeat (first | exact Drawn0.refl _ | apply Drawn0.step)⟩
              · rw [if_neg c8] at H
                have c8b0 : decide (48 ≤ a0) = false := decide_eq_false c8
                clear c8
                obtain rfl := Option.some.inj H
                go_wp2
                go_ret
                exact ⟨by first | rfl | (simp; done) | (simp [*]; done), by repeat (first | exact Drawn0.refl _ | apply Drawn0.step)⟩

end Go.Proofs.Ytooiajkbpkfplaa.Q

-- from Qf67
-- Made by hp.py, a program of this session, with the kit's printer. Not trusted: Lean checks it.
namespace Go.Proofs.Ytooiajkbpkfplaa.Q
open Go.RowKit Go.Proofs.YtooiajkbpkfplaaW.PrintWords Go.Proofs.YtooiajkbpkfplaaW.PrintLast Go.Proofs.YtooiajkbpkfplaaW.PrintMore
attribute [local go_sem] max2_int min2_int max_two min_two max_three min_three max_four min_four   -- for this text's walks alone
set_option linter.unusedVariables false
set_option linter.unusedSimpArgs false

/-! ### paronymref12_read: function 67 -/
def paronymref12_read.l0 : Nat → ByteArray → Int → Int → Int → Int → Option (Int × Int × Int)
  | 0, _, _, _, _, _ => none
  | k + 1, x0, x1, x7, x8, x9 => if x9 < (x0.size : Int) then (if 0 ≤ x9 then ((paronymref12_digit.f k (bt x0 x9)).bind fun t101 => (if t101 < 0 then (some (0, 0, 20)) else (if (wrap64 (x7 + (wrap64 (t101 * x8)))) > 2147483647 then (some (0, 0, 21)) else ((paronymref12_t.f (wrap64 ((wrap64 (36 * x9)) + 36)) x1).bind fun t102 => (if t101 < t102 then (some (wrap64 (x7 + (wrap64 (t101 * x8))), wrap64 (x9 + 1), 0)) else (if (wrap64 (x8 * (wrap64 (36 - t102)))) > 2147483647 then (some (0, 0, 21)) else (paronymref12_read.l0 k x0 x1 (wrap64 (x7 + (wrap64 (t101 * x8)))) (wrap64 (x8 * (wrap64 (36 - t102)))) (wrap64 (x9 + 1))))))))) else (none)) else (some (0, 0, 20))
def paronymref12_read.f (k : Nat) (a0 : ByteArray) (a1 : Int) : Option (Int × Int × Int) := paronymref12_read.l0 k a0 a1 0 1 0
theorem paronymref12_read.mono_l : ∀ k, (∀ y0 y1 y2 y3 y4, LeO (paronymref12_read.l0 k y0 y1 y2 y3 y4) (paronymref12_read.l0 (k + 1) y0 y1 y2 y3 y4))
  | 0 => fun _ _ _ _ _ r h => by simp [paronymref12_read.l0] at h
  | k + 1 => by
    have ih0 := paronymref12_read.mono_l k
    · intro y0 y1 y2 y3 y4
      unfold paronymref12_read.l0
      repeat' first
      | (with_reducible exact ih0 _ _ _ _ _)
      | (with_reducible exact paronymref12_digit.mono _ _)
      | (with_reducible exact LeO.refl _)
      | (with_reducible exact LeO.none _)
      | (with_reducible refine LeO.ite ?_ ?_)
      | (with_reducible refine LeO.bind ?_ (fun _ => ?_))
      | exact ih0 _ _ _ _ _
      | exact paronymref12_digit.mono _ _
      | exact LeO.none _
      | refine LeO.ite ?_ ?_
      | refine LeO.bind ?_ (fun _ => ?_)
theorem paronymref12_read.mono : ∀ a0 a1 k, LeO (paronymref12_read.f k a0 a1) (paronymref12_read.f (k + 1) a0 a1) := by
  intro a0 a1 k
  have ih0 := paronymref12_read.mono_l k
  unfold paronymref12_read.f
  repeat' first
      | (with_reducible exact ih0 _ _ _ _ _)
      | (with_reducible exact paronymref12_digit.mono _ _)
      | (with_reducible exact LeO.refl _)
      | (with_reducible exact LeO.none _)
      | (with_reducible refine LeO.ite ?_ ?_)
      | (with_reducible refine LeO.bind ?_ (fun _ => ?_))
      | exact ih0 _ _ _ _ _
      | exact paronymref12_digit.mono _ _
      | exact LeO.none _
      | refine LeO.ite ?_ ?_
      | refine LeO.bind ?_ (fun _ => ?_)
set_option maxHeartbeats 8000000 in
set_option maxRecDepth 100000 in
theorem paronymref12_read.calls (k : Nat) (a0 : ByteArray) (a1 : Int) (r1 : Int) (r2 : Int) (r3 : Int) (w : World) (h : paronymref12_read.f k a0 a1 = some (r1, r2, r3)) :
    Calls Try.prog 67 #[.string a0, .int .i64 a1] w fun e w' => e = .returned (.tuple #[.int .i64 r1, .int .i64 r2, .int .i64 r3]) ∧ Drawn0 w w' := by
  have H : (paronymref12_read.l0 k a0 a1 0 1 0) = some (r1, r2, r3) := h
  clear h
  have H' := Aside0.mk H
  clear H
  go_enter Try.func67, Try.ntmps67
  go_wp2
  go_loopg [7, 8, 9] k (fun kq v7 v8 v9 w' => ∃ (x7_1 : Int) (x8_1 : Int) (x9_1 : Int), v7 = .int .i64 x7_1 ∧ v8 = .int .i64 x8_1 ∧ v9 = .int .i64 x9_1 ∧ Aside0 (paronymref12_read.l0 kq a0 a1 x7_1 x8_1 x9_1 = some (r1, r2, r3)) ∧ Aside0 (kq ≤ k) ∧ Drawn0 w w')
  case atStart => exact ⟨(0), (1), (0), (by first | rfl | (simp; done) | (simp [*]; done)), (by first | rfl | (simp; done) | (simp [*]; done)), (by first | rfl | (simp; done) | (simp [*]; done)), H', ⟨Nat.le_refl _⟩, by repeat (first | exact Drawn0.refl _ | apply Drawn0.step)⟩
  case round =>
    clear H'
    try clear p2
    obtain ⟨x7_1, x8_1, x9_1, rfl, rfl, rfl, HA, HK1, ⟨m1, rfl⟩⟩ := hrel
    cases gk with
    | zero => exact absurd HA.out (by simp [paronymref12_read.l0])
    | succ k1 =>
      have H := HA.out
      clear HA
      simp only [paronymref12_read.l0] at H
      by_cases c3 : x9_1 < (a0.size : Int)
      · rw [if_pos c3] at H
        have c3b0 : decide (x9_1 < (a0.size : Int)) = true := decide_eq_true c3
        clear c3
        by_cases c4 : 0 ≤ x9_1
        · rw [if_pos c4] at H
          have c4b0 : decide (0 ≤ x9_1) = true := decide_eq_true c4
          clear c4
          replace H := Option.bind_eq_some_iff.mp H
          obtain ⟨t101, A60, H⟩ := H
          replace H : (if t101 < 0 then (some (0, 0, 20)) else (if (wrap64 (x7_1 + (wrap64 (t101 * x8_1)))) > 2147483647 then (some (0, 0, 21)) else ((paronymref12_t.f (wrap64 ((wrap64 (36 * x9_1)) + 36)) a1).bind fun t102 => (if t101 < t102 then (some (wrap64 (x7_1 + (wrap64 (t101 * x8_1))), wrap64 (x9_1 + 1), 0)) else (if (wrap64 (x8_1 * (wrap64 (36 - t102)))) > 2147483647 then (some (0, 0, 21)) else (paronymref12_read.l0 k1 a0 a1 (wrap64 (x7_1 + (wrap64 (t101 * x8_1)))) (wrap64 (x8_1 * (wrap64 (36 - t102)))) (wrap64 (x9_1 + 1)))))))) = some (r1, r2, r3) := H
          have A6 := Aside0.mk A60
          clear A60
          by_cases c7 : t101 < 0
          · rw [if_pos c7] at H
            have c7b0 : decide (t101 < 0) = true := decide_eq_true c7
            clear c7
            simp only [Option.some.injEq, Prod.mk.injEq] at H
            obtain ⟨rfl, rfl, rfl⟩ := H
            have p5 : 0 ≤ (x9_1 : Int) := of_decide_eq_true (by first | (with_reducible assumption) | assumption)
            have q5 : x9_1 < (a0.size : Int) := of_decide_eq_true (by first | (with_reducible assumption) | assumption)
            have hx5 := bt_at a0 x9_1
            replace p5 := eq_true p5
            replace q5 := eq_true q5
            go_wp2_with (first | ((with_reducible refine gate_callee (f := 81) rfl ?_); refine goesL_ (some 21) rfl rfl Try.func81 (by kernel_rfl) rfl #[.int .u8 (bt a0 x9_1)] rfl (by (try simp only [List.map_toArray, List.map_cons, List.map_nil]); first | done | rfl | (simp only [List.length_drop, List.length_take]; rfl)) ?_; (with_reducible refine (paronymref12_digit.calls k1 (bt a0 x9_1) t101 _ A6.out).mono ?_); rintro e w' ⟨rfl, ⟨nd, rfl⟩⟩; refine ⟨_, rfl, ?_⟩))
            go_ret3
            exact ⟨by first | rfl | (simp; done) | (simp [*]; done), by repeat (first | exact Drawn0.refl _ | apply Drawn0.step)⟩
          · rw [if_neg c7] at H
            have c7b0 : decide (t101 < 0) = false := decide_eq_false c7
            clear c7
            by_cases c8 : (wrap64 (x7_1 + (wrap64 (t101 * x8_1)))) > 2147483647
            · rw [if_pos c8] at H
              have c8b0 : decide (2147483647 < (wrap64 (x7_1 + (wrap64 (t101 * x8_1))))) = true := decide_eq_true c8
              clear c8
              simp only [Option.some.injEq, Prod.mk.injEq] at H
              obtain ⟨rfl, rfl, rfl⟩ := H
              have p5 : 0 ≤ (x9_1 : Int) := of_decide_eq_true (by first | (with_reducible assumption) | assumption)
              have q5 : x9_1 < (a0.size : Int) := of_decide_eq_true (by first | (with_reducible assumption) | assumption)
              have hx5 := bt_at a0 x9_1
              replace p5 := eq_true p5
              replace q5 := eq_true q5
              go_wp2_with (first | ((with_reducible refine gate_callee (f := 81) rfl ?_); refine goesL_ (some 21) rfl rfl Try.func81 (by kernel_rfl) rfl #[.int .u8 (bt a0 x9_1)] rfl (by (try simp only [List.map_toArray, List.map_cons, List.map_nil]); first | done | rfl | (simp only [List.length_drop, List.length_take]; rfl)) ?_; (with_reducible refine (paronymref12_digit.calls k1 (bt a0 x9_1) t101 _ A6.out).mono ?_); rintro e w' ⟨rfl, ⟨nd, rfl⟩⟩; refine ⟨_, rfl, ?_⟩))
              go_ret3
              exact ⟨by first | rfl | (simp; done) | (simp [*]; done), by repeat (first | exact Drawn0.refl _ | apply Drawn0.step)⟩
            · rw [if_neg c8] at H
              have c8b0 : decide (2147483647 < (wrap64 (x7_1 + (wrap64 (t101 * x8_1))))) = false := decide_eq_false c8
              clear c8
              replace H := Option.bind_eq_some_iff.mp H
              obtain ⟨t102, A90, H⟩ := H
              replace H : (if t101 < t102 then (some (wrap64 (x7_1 + (wrap64 (t101 * x8_1))), wrap64 (x9_1 + 1), 0)) else (if (wrap64 (x8_1 * (wrap64 (36 - t102)))) > 2147483647 then (some (0, 0, 21)) else (paronymref12_read.l0 k1 a0 a1 (wrap64 (x7_1 + (wrap64 (t101 * x8_1)))) (wrap64 (x8_1 * (wrap64 (36 - t102)))) (wrap64 (x9_1 + 1))))) = some (r1, r2, r3) := H
              have A9 := Aside0.mk A90
              clear A90
              by_cases c10 : t101 < t102
              · rw [if_pos c10] at H
                have c10b0 : decide (t101 < t102) = true := decide_eq_true c10
                clear c10
                simp only [Option.some.injEq, Prod.mk.injEq] at H
                obtain ⟨rfl, rfl, rfl⟩ := H
                have p5 : 0 ≤ (x9_1 : Int) := of_decide_eq_true (by first | (with_reducible assumption) | assumption)
                have q5 : x9_1 < (a0.size : Int) := of_decide_eq_true (by first | (with_reducible assumption) | assumption)
                have hx5 := bt_at a0 x9_1
                replace p5 := eq_true p5
                replace q5 := eq_true q5
                go_wp2_with (first | ((with_reducible refine gate_callee (f := 81) rfl ?_); refine goesL_ (some 21) rfl rfl Try.func81 (by kernel_rfl) rfl #[.int .u8 (bt a0 x9_1)] rfl (by (try simp only [List.map_toArray, List.map_cons, List.map_nil]); first | done | rfl | (simp only [List.length_drop, List.length_take]; rfl)) ?_; (with_reducible refine (paronymref12_digit.calls k1 (bt a0 x9_1) t101 _ A6.out).mono ?_); rintro e w' ⟨rfl, ⟨nd, rfl⟩⟩; refine ⟨_, rfl, ?_⟩) | ((with_reducible refine gate_callee (f := 75) rfl ?_); refine goesL_ (some 35) rfl rfl Try.func75 (by kernel_rfl) rfl #[.int .i64 (wrap64 ((wrap64 (36 * x9_1)) + 36)), .int .i64 a1] rfl (by (try simp only [List.map_toArray, List.map_cons, List.map_nil]); first | done | rfl | (simp only [List.length_drop, List.length_take]; rfl)) ?_; (with_reducible refine (paronymref12_t.calls (wrap64 ((wrap64 (36 * x9_1)) + 36)) a1 t102 _ A9.out).mono ?_); rintro e w' ⟨rfl, ⟨nd, rfl⟩⟩; refine ⟨_, rfl, ?_⟩))
                go_ret3
                exact ⟨by first | rfl | (simp; done) | (simp [*]; done), by repeat (first | exact Drawn0.refl _ | apply Drawn0.step)⟩
              · rw [if_neg c10] at H
                have c10b0 : decide (t101 < t102) = false := decide_eq_false c10
                clear c10
                by_cases c11 : (wrap64 (x8_1 * (wrap64 (36 - t102)))) > 2147483647
                · rw [if_pos c11] at H
                  have c11b0 : decide (2147483647 < (wrap64 (x8_1 * (wrap64 (36 - t102))))) = true := decide_eq_true c11
                  clear c11
                  simp only [Option.some.injEq, Prod.mk.injEq] at H
                  obtain ⟨rfl, rfl, rfl⟩ := H
                  have p5 : 0 ≤ (x9_1 : Int) := of_decide_eq_true (by first | (with_reducible assumption) | assumption)
                  have q5 : x9_1 < (a0.size : Int) := of_decide_eq_true (by first | (with_reducible assumption) | assumption)
                  have hx5 := bt_at a0 x9_1
                  replace p5 := eq_true p5
                  replace q5 := eq_true q5
                  go_wp2_with (first | ((with_reducible refine gate_callee (f := 81) rfl ?_); refine goesL_ (some 21) rfl rfl Try.func81 (by kernel_rfl) rfl #[.int .u8 (bt a0 x9_1)] rfl (by (try simp only [List.map_toArray, List.map_cons, List.map_nil]); first | done | rfl | (simp only [List.length_drop, List.length_take]; rfl)) ?_; (with_reducible refine (paronymref12_digit.calls k1 (bt a0 x9_1) t101 _ A6.out).mono ?_); rintro e w' ⟨rfl, ⟨nd, rfl⟩⟩; refine ⟨_, rfl, ?_⟩) | ((with_reducible refine gate_callee (f := 75) rfl ?_); refine goesL_ (some 35) rfl rfl Try.func75 (by kernel_rfl) rfl #[.int .i64 (wrap64 ((wrap64 (36 * x9_1)) + 36)), .int .i64 a1] rfl (by (try simp only [List.map_toArray, List.map_cons, List.map_nil]); first | done | rfl | (simp only [List.length_drop, List.length_take]; rfl)) ?_; (with_reducible refine (paronymref12_t.calls (wrap64 ((wrap64 (36 * x9_1)) + 36)) a1 t102 _ A9.out).mono ?_); rintro e w' ⟨rfl, ⟨nd, rfl⟩⟩; refine ⟨_, rfl, ?_⟩))
                  go_ret3
                  exact ⟨by first | rfl | (simp; done) | (simp [*]; done), by repeat (first | exact Drawn0.refl _ | apply Drawn0.step)⟩
                · rw [if_neg c11] at H
                  have c11b0 : decide (2147483647 < (wrap64 (x8_1 * (wrap64 (36 - t102))))) = false := decide_eq_false c11
                  clear c11
                  have H' := Aside0.mk H
                  clear H
                  have p5 : 0 ≤ (x9_1 : Int) := of_decide_eq_true (by first | (with_reducible assumption) | assumption)
                  have q5 : x9_1 < (a0.size : Int) := of_decide_eq_true (by first | (with_reducible assumption) | assumption)
                  have hx5 := bt_at a0 x9_1
                  replace p5 := eq_true p5
                  replace q5 := eq_true q5
                  go_wp2_with (first | ((with_reducible refine gate_callee (f := 81) rfl ?_); refine goesL_ (some 21) rfl rfl Try.func81 (by kernel_rfl) rfl #[.int .u8 (bt a0 x9_1)] rfl (by (try simp only [List.map_toArray, List.map_cons, List.map_nil]); first | done | rfl | (simp only [List.length_drop, List.length_take]; rfl)) ?_; (with_reducible refine (paronymref12_digit.calls k1 (bt a0 x9_1) t101 _ A6.out).mono ?_); rintro e w' ⟨rfl, ⟨nd, rfl⟩⟩; refine ⟨_, rfl, ?_⟩) | ((with_reducible refine gate_callee (f := 75) rfl ?_); refine goesL_ (some 35) rfl rfl Try.func75 (by kernel_rfl) rfl #[.int .i64 (wrap64 ((wrap64 (36 * x9_1)) + 36)), .int .i64 a1] rfl (by (try simp only [List.map_toArray, List.map_cons, List.map_nil]); first | done | rfl | (simp only [List.length_drop, List.length_take]; rfl)) ?_; (with_reducible refine (paronymref12_t.calls (wrap64 ((wrap64 (36 * x9_1)) + 36)) a1 t102 _ A9.out).mono ?_); rintro e w' ⟨rfl, ⟨nd, rfl⟩⟩; refine ⟨_, rfl, ?_⟩))
                  go_roundg k1
                  case measure => have := HK1.out; omega
                  case rel => exact ⟨(wrap64 (x7_1 + (wrap64 (t101 * x8_1)))), (wrap64 (x8_1 * (wrap64 (36 - t102)))), (wrap64 (x9_1 + 1)), (by first | rfl | (simp; done) | (simp [*]; done)), (by first | rfl | (simp; done) | (simp [*]; done)), (by first | rfl | (simp; done) | (simp [*]; done)), H', ⟨by have := HK1.out; omega⟩, by repeat (first | exact Drawn0.refl _ | apply Drawn0.step)⟩
        · rw [if_neg c4] at H
          exact absurd H (by simp)
      · rw [if_neg c3] at H
        have c3b0 : decide (x9_1 < (a0.size : Int)) = false := decide_eq_false c3
        clear c3
        simp only [Option.some.injEq, Prod.mk.injEq] at H
        obtain ⟨rfl, rfl, rfl⟩ := H
        go_wp2
        go_ret3
        exact ⟨by first | rfl | (simp; done) | (simp [*]; done), by repeat (first | exact Drawn0.refl _ | apply Drawn0.step)⟩

end Go.Proofs.Ytooiajkbpkfplaa.Q

-- from Qf44
-- Made by hp.py, a program of this session, with the kit's printer. Not trusted: Lean checks it.
namespace Go.Proofs.Ytooiajkbpkfplaa.Q
open Go.RowKit Go.Proofs.YtooiajkbpkfplaaW.PrintWords Go.Proofs.YtooiajkbpkfplaaW.PrintLast Go.Proofs.YtooiajkbpkfplaaW.PrintMore
attribute [local go_sem] max2_int min2_int max_two min_two max_three min_three max_four min_four   -- for this text's walks alone
set_option linter.unusedVariables false
set_option linter.unusedSimpArgs false

/-! ### paronymref12_Decode: function 44 -/
mutual
def paronymref12_Decode.l0 : Nat → ByteArray → Int → Int → Option (List Int × Int)
  | 0, _, _, _ => none
  | k + 1, x0, x4, x5 => if x5 < (x0.size : Int) then (if 0 ≤ x5 then (if (bt x0 x5) > 127 then (some (([] : List Int), 20)) else (if (bt x0 x5) = 45 then (paronymref12_Decode.l0 k x0 x5 (wrap64 (x5 + 1))) else (paronymref12_Decode.l0 k x0 x4 (wrap64 (x5 + 1))))) else (none)) else (if x4 > 0 then (paronymref12_Decode.l1 k x0 x4 ([] : List Int) 0) else (paronymref12_Decode.j2 k x0 ([] : List Int)))
def paronymref12_Decode.j2 : Nat → ByteArray → List Int → Option (List Int × Int)
  | 0, _, _ => none
  | k + 1, x0, x6 => paronymref12_Decode.l2 k x0 x6 128 72 0 true
def paronymref12_Decode.l2 : Nat → ByteArray → List Int → Int → Int → Int → Bool → Option (List Int × Int)
  | 0, _, _, _, _, _, _ => none
  | k + 1, x0, x6, x8, x9, x10, x11 => if (x0.size : Int) > 0 then ((paronymref12_read.f k x0 x9).bind fun bt104 => (if bt104.2.2 = 0 then (if (wrap64 (x10 + bt104.1)) > 2147483647 then (some (([] : List Int), 21)) else ((paronymref12_Bias.f k bt104.1 (wrap64 ((x6.length : Int) + 1)) x11).bind fun t107 => (if (wrap64 ((x6.length : Int) + 1)) = 0 then (none) else (if (wrap64 (x8 + (wrap64 (Int.tdiv (wrap64 (x10 + bt104.1)) (wrap64 ((x6.length : Int) + 1)))))) > 2147483647 then (some (([] : List Int), 21)) else ((paronymref01_Scalar.f (wrap64 (x8 + (wrap64 (Int.tdiv (wrap64 (x10 + bt104.1)) (wrap64 ((x6.length : Int) + 1))))))).bind fun t108 => (if t108 = true then (if 0 ≤ (Int.tmod (wrap64 (x10 + bt104.1)) (wrap64 ((x6.length : Int) + 1))) then (if (Int.tmod (wrap64 (x10 + bt104.1)) (wrap64 ((x6.length : Int) + 1))) ≤ (x6.length : Int) then ((some (x6.take ((Int.tmod (wrap64 (x10 + bt104.1)) (wrap64 ((x6.length : Int) + 1))) : Int).toNat : List Int)).bind fun y109 => (if ([] : List Int).length + y109.length < 17592186044416 then ((some (([] : List Int) ++ y109 : List Int)).bind fun y113 => (if y113.length < 17592186044416 then ((some (y113 ++ [wrap64 (x8 + (wrap64 (Int.tdiv (wrap64 (x10 + bt104.1)) (wrap64 ((x6.length : Int) + 1)))))] : List Int)).bind fun y116 => ((some (x6.drop ((Int.tmod (wrap64 (x10 + bt104.1)) (wrap64 ((x6.length : Int) + 1))) : Int).toNat : List Int)).bind fun y119 => (if y116.length + y119.length < 17592186044416 then (if 0 ≤ bt104.2.1 then (if bt104.2.1 ≤ (x0.size : Int) then (paronymref12_Decode.l2 k (x0.extract (bt104.2.1 : Int).toNat x0.size) (y116 ++ y119) (wrap64 (x8 + (wrap64 (Int.tdiv (wrap64 (x10 + bt104.1)) (wrap64 ((x6.length : Int) + 1)))))) t107 (wrap64 ((Int.tmod (wrap64 (x10 + bt104.1)) (wrap64 ((x6.length : Int) + 1))) + 1)) false) else (none)) else (none)) else (none)))) else (none))) else (none))) else (none)) else (none)) else (some (([] : List Int), 10)))))))) else (some (([] : List Int), bt104.2.2)))) else (some (x6, 0))
def paronymref12_Decode.l1 : Nat → ByteArray → Int → List Int → Int → Option (List Int × Int)
  | 0, _, _, _, _ => none
  | k + 1, x0, x4, x6, x7 => if x7 < x4 then (if 0 ≤ x7 then (if x7 < (x0.size : Int) then (if x6.length < 17592186044416 then (paronymref12_Decode.l1 k x0 x4 (x6 ++ [wrap64 (bt x0 x7)]) (wrap64 (x7 + 1))) else (none)) else (none)) else (none)) else (if 0 ≤ (wrap64 (x4 + 1)) then (if (wrap64 (x4 + 1)) ≤ (x0.size : Int) then (paronymref12_Decode.j2 k (x0.extract ((wrap64 (x4 + 1)) : Int).toNat x0.size) x6) else (none)) else (none))
end
def paronymref12_Decode.f (k : Nat) (a0 : ByteArray) : Option (List Int × Int) := if (a0.size : Int) > 12000 then (some (([] : List Int), 36)) else (paronymref12_Decode.l0 k a0 (-1) 0)
theorem paronymref12_Decode.mono_l : ∀ k, (∀ y0 y1 y2, LeO (paronymref12_Decode.l0 k y0 y1 y2) (paronymref12_Decode.l0 (k + 1) y0 y1 y2)) ∧ (∀ y0 y1, LeO (paronymref12_Decode.j2 k y0 y1) (paronymref12_Decode.j2 (k + 1) y0 y1)) ∧ (∀ y0 y1 y2 y3 y4 y5, LeO (paronymref12_Decode.l2 k y0 y1 y2 y3 y4 y5) (paronymref12_Decode.l2 (k + 1) y0 y1 y2 y3 y4 y5)) ∧ (∀ y0 y1 y2 y3, LeO (paronymref12_Decode.l1 k y0 y1 y2 y3) (paronymref12_Decode.l1 (k + 1) y0 y1 y2 y3))
  | 0 => ⟨fun _ _ _ r h => by simp [paronymref12_Decode.l0] at h, fun _ _ r h => by simp [paronymref12_Decode.j2] at h, fun _ _ _ _ _ _ r h => by simp [paronymref12_Decode.l2] at h, fun _ _ _ _ r h => by simp [paronymref12_Decode.l1] at h⟩
  | k + 1 => by
    obtain ⟨ih0, ih1, ih2, ih3⟩ := paronymref12_Decode.mono_l k
    refine ⟨?_, ?_, ?_, ?_⟩
    · intro y0 y1 y2
      unfold paronymref12_Decode.l0
      repeat' first
      | (with_reducible exact ih0 _ _ _)
      | (with_reducible exact ih1 _ _)
      | (with_reducible exact ih2 _ _ _ _ _ _)
      | (with_reducible exact ih3 _ _ _ _)
      | (with_reducible exact paronymref12_Bias.mono _ _ _ _)
      | (with_reducible exact paronymref12_read.mono _ _ _)
      | (with_reducible exact LeO.refl _)
      | (with_reducible exact LeO.none _)
      | (with_reducible refine LeO.ite ?_ ?_)
      | (with_reducible refine LeO.bind ?_ (fun _ => ?_))
      | exact ih0 _ _ _
      | exact ih1 _ _
      | exact ih2 _ _ _ _ _ _
      | exact ih3 _ _ _ _
      | exact paronymref12_Bias.mono _ _ _ _
      | exact paronymref12_read.mono _ _ _
      | exact LeO.none _
      | refine LeO.ite ?_ ?_
      | refine LeO.bind ?_ (fun _ => ?_)
    · intro y0 y1
      unfold paronymref12_Decode.j2
      repeat' first
      | (with_reducible exact ih0 _ _ _)
      | (with_reducible exact ih1 _ _)
      | (with_reducible exact ih2 _ _ _ _ _ _)
      | (with_reducible exact ih3 _ _ _ _)
      | (with_reducible exact paronymref12_Bias.mono _ _ _ _)
      | (with_reducible exact paronymref12_read.mono _ _ _)
      | (with_reducible exact LeO.refl _)
      | (with_reducible exact LeO.none _)
      | (with_reducible refine LeO.ite ?_ ?_)
      | (with_reducible refine LeO.bind ?_ (fun _ => ?_))
      | exact ih0 _ _ _
      | exact ih1 _ _
      | exact ih2 _ _ _ _ _ _
      | exact ih3 _ _ _ _
      | exact paronymref12_Bias.mono _ _ _ _
      | exact paronymref12_read.mono _ _ _
      | exact LeO.none _
      | refine LeO.ite ?_ ?_
      | refine LeO.bind ?_ (fun _ => ?_)
    · intro y0 y1 y2 y3 y4 y5
      unfold paronymref12_Decode.l2
      repeat' first
      | (with_reducible exact ih0 _ _ _)
      | (with_reducible exact ih1 _ _)
      | (with_reducible exact ih2 _ _ _ _ _ _)
      | (with_reducible exact ih3 _ _ _ _)
      | (with_reducible exact paronymref12_Bias.mono _ _ _ _)
      | (with_reducible exact paronymref12_read.mono _ _ _)
      | (with_reducible exact LeO.refl _)
      | (with_reducible exact LeO.none _)
      | (with_reducible refine LeO.ite ?_ ?_)
      | (with_reducible refine LeO.bind ?_ (fun _ => ?_))
      | exact ih0 _ _ _
      | exact ih1 _ _
      | exact ih2 _ _ _ _ _ _
      | exact ih3 _ _ _ _
      | exact paronymref12_Bias.mono _ _ _ _
      | exact paronymref12_read.mono _ _ _
      | exact LeO.none _
      | refine LeO.ite ?_ ?_
      | refine LeO.bind ?_ (fun _ => ?_)
    · intro y0 y1 y2 y3
      unfold paronymref12_Decode.l1
      repeat' first
      | (with_reducible exact ih0 _ _ _)
      | (with_reducible exact ih1 _ _)
      | (with_reducible exact ih2 _ _ _ _ _ _)
      | (with_reducible exact ih3 _ _ _ _)
      | (with_reducible exact paronymref12_Bias.mono _ _ _ _)
      | (with_reducible exact paronymref12_read.mono _ _ _)
      | (with_reducible exact LeO.refl _)
      | (with_reducible exact LeO.none _)
      | (with_reducible refine LeO.ite ?_ ?_)
      | (with_reducible refine LeO.bind ?_ (fun _ => ?_))
      | exact ih0 _ _ _
      | exact ih1 _ _
      | exact ih2 _ _ _ _ _ _
      | exact ih3 _ _ _ _
      | exact paronymref12_Bias.mono _ _ _ _
      | exact paronymref12_read.mono _ _ _
      | exact LeO.none _
      | refine LeO.ite ?_ ?_
      | refine LeO.bind ?_ (fun _ => ?_)
theorem paronymref12_Decode.mono : ∀ a0 k, LeO (paronymref12_Decode.f k a0) (paronymref12_Decode.f (k + 1) a0) := by
  intro a0 k
  obtain ⟨ih0, ih1, ih2, ih3⟩ := paronymref12_Decode.mono_l k
  unfold paronymref12_Decode.f
  repeat' first
      | (with_reducible exact ih0 _ _ _)
      | (with_reducible exact ih1 _ _)
      | (with_reducible exact ih2 _ _ _ _ _ _)
      | (with_reducible exact ih3 _ _ _ _)
      | (with_reducible exact paronymref12_Bias.mono _ _ _ _)
      | (with_reducible exact paronymref12_read.mono _ _ _)
      | (with_reducible exact LeO.refl _)
      | (with_reducible exact LeO.none _)
      | (with_reducible refine LeO.ite ?_ ?_)
      | (with_reducible refine LeO.bind ?_ (fun _ => ?_))
      | exact ih0 _ _ _
      | exact ih1 _ _
      | exact ih2 _ _ _ _ _ _
      | exact ih3 _ _ _ _
      | exact paronymref12_Bias.mono _ _ _ _
      | exact paronymref12_read.mono _ _ _
      | exact LeO.none _
      | refine LeO.ite ?_ ?_
      | refine LeO.bind ?_ (fun _ => ?_)
set_option maxHeartbeats 8000000 in
set_option maxRecDepth 100000 in
theorem paronymref12_Decode.calls (k : Nat) (a0 : ByteArray) (r1 : List Int) (r2 : Int) (w : World) (h : paronymref12_Decode.f k a0 = some (r1, r2)) :
    Calls Try.prog 44 #[.string a0] w fun e w' => ∃ v0_ : Value, e = .returned (.tuple #[v0_, .int .i64 r2]) ∧ Kd.R (Kd.int .i64) 3 w' w.heap.size (fun _ => True) v0_ r1 ∧ Below w.heap.size w w' := by
  have HB := Aside0.mk (Below.refl w.heap.size w)
  have H : (if (a0.size : Int) > 12000 then (some (([] : List Int), 36)) else (paronymref12_Decode.l0 k a0 (-1) 0)) = some (r1, r2) := h
  clear h
  by_cases c2 : (a0.size : Int) > 12000
  · rw [if_pos c2] at H
    have c2b0 : decide (12000 < (a0.size : Int)) = true := decide_eq_true c2
    have c2b1 : decide (12000 < a0.size) = true := decide_eq_true (by omega)
    clear c2
    simp only [Option.some.injEq, Prod.mk.injEq] at H
    obtain ⟨rfl, rfl⟩ := H
    go_enter Try.func44, Try.ntmps44
    go_wp2
    go_ret2
    exact ⟨_, by first | rfl | (simp [errW_none, errW_some] <;> rfl) | (simp [*, errW_none, errW_some] <;> rfl), by first | exact Kd.R_nil _ _ _ _ _ | exact Kd.N_nil _ _ _ _ _ | exact Kd.V_nil _ _ _ _ _ | exact Kd.Q_nil _ _ _ _ _ | exact Kd.S_nil _ _ _ _ _, by repeat (first | (with_reducible first | exact HB.out | apply below_alloc | apply pw_below_drewN | apply below_drew1) | exact HB.out)⟩
  · rw [if_neg c2] at H
    have c2b0 : decide (12000 < (a0.size : Int)) = false := decide_eq_false c2
    have c2b1 : decide (12000 < a0.size) = false := decide_eq_false (by omega)
    clear c2
    have H' := Aside0.mk H
    clear H
    go_enter Try.func44, Try.ntmps44
    go_wp2
    go_loopg [4, 5] k (fun kq v4 v5 w' => ∃ (x4_1 : Int) (x5_1 : Int), v4 = .int .i64 x4_1 ∧ v5 = .int .i64 x5_1 ∧ Aside0 (paronymref12_Decode.l0 kq a0 x4_1 x5_1 = some (r1, r2)) ∧ Aside0 (kq ≤ k) ∧ Aside0 (Below w.heap.size w w'))
    case atStart => exact ⟨((-1)), (0), (by first | rfl | (simp; done) | (simp [*]; done)), (by first | rfl | (simp; done) | (simp [*]; done)), H', ⟨Nat.le_refl _⟩, ⟨by repeat (first | (with_reducible first | exact HB.out | apply below_alloc | apply pw_below_drewN | apply below_drew1) | exact HB.out)⟩⟩
    case round =>
      clear H'
      try clear c2
      try clear c2b0
      try clear c2b1
      try clear p2
      obtain ⟨x4_1, x5_1, rfl, rfl, HA, HK1, HB⟩ := hrel
      cases gk with
      | zero => exact absurd HA.out (by simp [paronymref12_Decode.l0])
      | succ k1 =>
        have H := HA.out
        clear HA
        simp only [paronymref12_Decode.l0] at H
        by_cases c3 : x5_1 < (a0.size : Int)
        · rw [if_pos c3] at H
          have c3b0 : decide (x5_1 < (a0.size : Int)) = true := decide_eq_true c3
          clear c3
          by_cases c4 : 0 ≤ x5_1
          · rw [if_pos c4] at H
            have c4b0 : decide (0 ≤ x5_1) = true := decide_eq_true c4
            clear c4
            by_cases c6 : (bt a0 x5_1) > 127
            · rw [if_pos c6] at H
              have c6b0 : decide (127 < (bt a0 x5_1)) = true := decide_eq_true c6
              clear c6
              simp only [Option.some.injEq, Prod.mk.injEq] at H
              obtain ⟨rfl, rfl⟩ := H
              have p5 : 0 ≤ (x5_1 : Int) := of_decide_eq_true (by first | (with_reducible assumption) | assumption)
              have q5 : x5_1 < (a0.size : Int) := of_decide_eq_true (by first | (with_reducible assumption) | assumption)
              have hx5 := bt_at a0 x5_1
              replace p5 := eq_true p5
              replace q5 := eq_true q5
              go_wp2
              go_ret2
              exact ⟨_, by first | rfl | (simp [errW_none, errW_some] <;> rfl) | (simp [*, errW_none, errW_some] <;> rfl), by first | exact Kd.R_nil _ _ _ _ _ | exact Kd.N_nil _ _ _ _ _ | exact Kd.V_nil _ _ _ _ _ | exact Kd.Q_nil _ _ _ _ _ | exact Kd.S_nil _ _ _ _ _, by repeat (first | (with_reducible first | exact HB.out | apply below_alloc | apply pw_below_drewN | apply below_drew1) | exact HB.out)⟩
            · rw [if_neg c6] at H
              have c6b0 : decide (127 < (bt a0 x5_1)) = false := decide_eq_false c6
              clear c6
              by_cases c8 : (bt a0 x5_1) = 45
              · rw [if_pos c8] at H
                have c8b0 : ((bt a0 x5_1) == 45) = true := beq_iff_eq.mpr c8
                have c8b1 : ((bt a0 x5_1) != 45) = false := bne_eq_false_iff_eq.mpr c8
                clear c8
                have H' := Aside0.mk H
                clear H
                have p5 : 0 ≤ (x5_1 : Int) := of_decide_eq_true (by first | (with_reducible assumption) | assumption)
                have q5 : x5_1 < (a0.size : Int) := of_decide_eq_true (by first | (with_reducible assumption) | assumption)
                have hx5 := bt_at a0 x5_1
                replace p5 := eq_true p5
                replace q5 := eq_true q5
                have p7 : 0 ≤ (x5_1 : Int) := of_decide_eq_true (by first | (with_reducible assumption) | assumption)
                have q7 : x5_1 < (a0.size : Int) := of_decide_eq_true (by first | (with_reducible assumption) | assumption)
                have hx7 := bt_at a0 x5_1
                replace p7 := eq_true p7
                replace q7 := eq_true q7
                go_wp2
                go_roundg k1
                case measure => have := HK1.out; omega
                case rel => exact ⟨(x5_1), (wrap64 (x5_1 + 1)), (by first | rfl | (simp; done) | (simp [*]; done)), (by first | rfl | (simp; done) | (simp [*]; done)), H', ⟨by have := HK1.out; omega⟩, ⟨by repeat (first | (with_reducible first | exact HB.out | apply below_alloc | apply pw_below_drewN | apply below_drew1) | exact HB.out)⟩⟩
              · rw [if_neg c8] at H
                have c8b0 : ((bt a0 x5_1) == 45) = false := beq_eq_false_iff_ne.mpr c8
                have c8b1 : ((bt a0 x5_1) != 45) = true := bne_iff_ne.mpr c8
                have H' := Aside0.mk H
                clear H
                have p5 : 0 ≤ (x5_1 : Int) := of_decide_eq_true (by first | (with_reducible assumption) | assumption)
                have q5 : x5_1 < (a0.size : Int) := of_decide_eq_true (by first | (with_reducible assumption) | assumption)
                have hx5 := bt_at a0 x5_1
                replace p5 := eq_true p5
                replace q5 := eq_true q5
                have p7 : 0 ≤ (x5_1 : Int) := of_decide_eq_true (by first | (with_reducible assumption) | assumption)
                have q7 : x5_1 < (a0.size : Int) := of_decide_eq_true (by first | (with_reducible assumption) | assumption)
                have hx7 := bt_at a0 x5_1
                replace p7 := eq_true p7
                replace q7 := eq_true q7
                go_wp2
                go_roundg k1
                case measure => have := HK1.out; omega
                case rel => exact ⟨(x4_1), (wrap64 (x5_1 + 1)), (by first | rfl | (simp; done) | (simp [*]; done)), (by first | rfl | (simp; done) | (simp [*]; done)), H', ⟨by have := HK1.out; omega⟩, ⟨by repeat (first | (with_reducible first | exact HB.out | apply below_alloc | apply pw_below_drewN | apply below_drew1) | exact HB.out)⟩⟩
          · rw [if_neg c4] at H
            exact absurd H (by simp)
        · rw [if_neg c3] at H
          have c3b0 : decide (x5_1 < (a0.size : Int)) = false := decide_eq_false c3
          clear c3
          have HC9 := Aside0.mk H
          clear H
          go_upto_if 36 with (fail)
          go_cut [0, 6] (fun v0 v6 wc => ∃ (kq : Nat) (x0_8 : ByteArray) (x6_8 : List Int), v0 = .string x0_8 ∧ Aside0 (paronymref12_Decode.j2 kq x0_8 x6_8 = some (r1, r2)) ∧ Aside0 (kq ≤ k1) ∧ Aside0 (Kd.R (Kd.int .i64) 3 wc w.heap.size (fun _ => True) v6 x6_8) ∧ Aside0 (Below w.heap.size w wc))
          case first =>
            have H := HC9.out
            clear HC9
            by_cases c10 : x4_1 > 0
            · rw [if_pos c10] at H
              have c10b0 : decide (0 < x4_1) = true := decide_eq_true c10
              clear c10
              (first | rw [c10b0] | (simp only [i64_w, i32_w]; rw [c10b0]) | rw [c10b1] | (simp only [i64_w, i32_w]; rw [c10b1]) | skip)
              have H' := Aside0.mk H
              clear H
              go_wp2
              go_loopg [6, 7] k1 (fun kq v6 v7 w' => ∃ (x6_2 : List Int) (x7_2 : Int), v7 = .int .i64 x7_2 ∧ Aside0 (paronymref12_Decode.l1 kq a0 x4_1 x6_2 x7_2 = some (r1, r2)) ∧ Aside0 (kq ≤ k1) ∧ Aside0 (Kd.R (Kd.int .i64) 3 w' w.heap.size (fun _ => True) v6 x6_2) ∧ Aside0 (Below w.heap.size w w'))
              case atStart => exact ⟨(([] : List Int)), (0), (by first | rfl | (simp; done) | (simp [*]; done)), H', ⟨Nat.le_refl _⟩, ⟨by first | exact Kd.R_nil _ _ _ _ _ | exact Kd.N_nil _ _ _ _ _ | exact Kd.V_nil _ _ _ _ _ | exact Kd.Q_nil _ _ _ _ _ | exact Kd.S_nil _ _ _ _ _⟩, ⟨by repeat (first | (with_reducible first | exact HB.out | apply below_alloc | apply pw_below_drewN | apply below_drew1) | exact HB.out)⟩⟩
              case round =>
                clear H'
                try clear c1
                try clear c2
                try clear c2b0
                try clear c2b1
                try clear p2
                try clear c3
                try clear c3b0
                try clear c4
                try clear c4b0
                try clear p5
                try clear q5
                try clear hx5
                try clear c6
                try clear c6b0
                try clear p6
                try clear p7
                try clear q7
                try clear hx7
                try clear c8
                try clear c8b0
                try clear c8b1
                try clear c10
                try clear c10b0
                try clear c10b1
                try clear p2
                try clear p5
                try clear p7
                try clear q5
                try clear q7
                obtain ⟨x6_2, x7_2, rfl, HA, HK2, HO_6, HB⟩ := hrel
                cases gk with
                | zero => exact absurd HA.out (by simp [paronymref12_Decode.l1])
                | succ k2 =>
                  have H := HA.out
                  clear HA
                  simp only [paronymref12_Decode.l1] at H
                  by_cases c11 : x7_2 < x4_1
                  · rw [if_pos c11] at H
                    have c11b0 : decide (x7_2 < x4_1) = true := decide_eq_true c11
                    clear c11
                    by_cases c12 : 0 ≤ x7_2
                    · rw [if_pos c12] at H
                      have c12b0 : decide (0 ≤ x7_2) = true := decide_eq_true c12
                      clear c12
                      by_cases c13 : x7_2 < (a0.size : Int)
                      · rw [if_pos c13] at H
                        have c13b0 : decide (x7_2 < (a0.size : Int)) = true := decide_eq_true c13
                        clear c13
                        by_cases c15 : x6_2.length < 17592186044416
                        · rw [if_pos c15] at H
                          have LMc15 := Aside0.mk c15
                          clear c15
                          obtain ⟨y101, hy101⟩ : ∃ y_ : List Int, y_ = (x6_2 ++ [wrap64 (bt a0 x7_2)]) := ⟨_, rfl⟩
                          replace H : (paronymref12_Decode.l1 k2 a0 x4_1 y101 (wrap64 (x7_2 + 1))) = some (r1, r2) := by first | (rw [hy101]; with_reducible exact H) | (have H2_ := (Option.bind_some _ _).symm.trans H; rw [hy101]; with_reducible exact H2_) | (have H2_ := (Option.bind_some _ _).symm.trans H; with_reducible exact H2_) | with_reducible exact H | (rw [hy101]; exact H) | exact H
                          have Ny101 := Aside0.mk hy101
                          clear hy101
                          have H' := Aside0.mk H
                          clear H
                          have p14 : 0 ≤ (x7_2 : Int) := of_decide_eq_true (by first | (with_reducible assumption) | assumption)
                          have q14 : x7_2 < (a0.size : Int) := of_decide_eq_true (by first | (with_reducible assumption) | assumption)
                          have hx14 := bt_at a0 x7_2
                          replace p14 := eq_true p14
                          replace q14 := eq_true q14
                          go_wp2_with (first | ((with_reducible refine gate_builtin (b := .append) (xs := #[.tmp 42, .tmp 47]) rfl ?_); at_builtin; refine Kd.R_append (Kd.int .i64) (w0 := w) w.heap.size rfl (.tmp 42) (.tmp 47) 31 3 (.int .i64 0) 8 rfl Try.underlying31 info3 rfl (by decide) (by omega) u6 x6_2 (wrap64 (bt a0 x7_2)) [.int .i64 (wrap64 (bt a0 x7_2))] (fun _ => True) (fun _ => False) rfl rfl ?aP (fun _ hk => hk.elim) ?aF ?aO ?aB ?aS ?aL ?_; (case aP => exact rfl); (case aB => exact (by repeat (first | (with_reducible first | exact HB.out | apply below_alloc | apply pw_below_drewN | apply below_drew1) | exact HB.out))); (case aF => exact (fun _ _ => trivial)); (case aO => exact (by (with_reducible repeat (first | apply Kd.R_alloc | apply Kd.R_drewN | apply Kd.R_drew)); exact HO_6.out)); (case aS => exact (below_size (by repeat (first | (with_reducible first | exact HB.out | apply below_alloc | apply pw_below_drewN | apply below_drew1) | exact HB.out)))); (case aL => have := LMc15.out; omega); intro v102 w16 ho hb hg hat; rw [← Ny101.out] at ho; have n0_ := Aside0.mk (hb); have n1_ := Aside0.mk (ho); clear HB; clear HO_6; have HB := n0_; have HO103 := n1_; clear n0_ n1_; clear ho hb hg hat))
                          go_roundg k2
                          case measure => have := HK1.out; have := HK2.out; omega
                          case rel => exact ⟨(y101), (wrap64 (x7_2 + 1)), (by first | rfl | (simp; done) | (simp [*]; done)), H', ⟨by have := HK1.out; have := HK2.out; omega⟩, ⟨by (with_reducible repeat (first | apply Kd.R_alloc | apply Kd.R_drewN | apply Kd.R_drew)); exact HO103.out⟩, ⟨by repeat (first | (with_reducible first | exact HB.out | apply below_alloc | apply pw_below_drewN | apply below_drew1) | exact HB.out)⟩⟩
                        · rw [if_neg c15] at H
                          exact absurd H (by simp)
                      · rw [if_neg c13] at H
                        exact absurd H (by simp)
                    · rw [if_neg c12] at H
                      exact absurd H (by simp)
                  · rw [if_neg c11] at H
                    have c11b0 : decide (x7_2 < x4_1) = false := decide_eq_false c11
                    clear c11
                    obtain ⟨ji17, hji17⟩ : ∃ j_ : Int, (wrap64 (x4_1 + 1)) = j_ := ⟨_, rfl⟩
                    replace H : (if 0 ≤ (ji17) then (if (ji17) ≤ (a0.size : Int) then (paronymref12_Decode.j2 k2 (a0.extract ((ji17) : Int).toNat a0.size) x6_2) else (none)) else (none)) = some (r1, r2) := by first | (rw [hji17] at H; exact H) | (simp only [hji17] at H ⊢; exact H)
                    have hji17w : (IntKind.i64.wrap (x4_1 + 1)) = ji17 := (i64_w _).trans hji17
                    by_cases c18 : 0 ≤ (ji17)
                    · rw [if_pos c18] at H
                      have c18b0 := eq_true c18
                      have c18b1 : decide (0 ≤ (ji17)) = true := decide_eq_true c18
                      clear c18
                      by_cases c19 : (ji17) ≤ (a0.size : Int)
                      · rw [if_pos c19] at H
                        have c19b0 := eq_true c19
                        have c19b1 : decide ((ji17) ≤ (a0.size : Int)) = true := decide_eq_true c19
                        clear c19
                        have H' := Aside0.mk H
                        clear H
                        go_wp2
                        go_meet
                        case rel => exact ⟨_, (a0.extract ((ji17) : Int).toNat a0.size), (x6_2), (by first | rfl | (simp; done) | (simp only [← hji17] <;> (first | rfl | simp)) | (simp [*]; done)), H', ⟨by have := HK1.out; have := HK2.out; first | omega | exact Nat.le_refl _⟩, ⟨by (with_reducible repeat (first | apply Kd.R_alloc | apply Kd.R_drewN | apply Kd.R_drew)); exact HO_6.out⟩, ⟨by repeat (first | (with_reducible first | exact HB.out | apply below_alloc | apply pw_below_drewN | apply below_drew1) | exact HB.out)⟩⟩
                      · rw [if_neg c19] at H
                        exact absurd H (by simp)
                    · rw [if_neg c18] at H
                      exact absurd H (by simp)
            · rw [if_neg c10] at H
              have c10b0 : decide (0 < x4_1) = false := decide_eq_false c10
              clear c10
              (first | rw [c10b0] | (simp only [i64_w, i32_w]; rw [c10b0]) | rw [c10b1] | (simp only [i64_w, i32_w]; rw [c10b1]) | skip)
              have H' := Aside0.mk H
              clear H
              go_wp2
              go_meet
              case rel => exact ⟨_, (a0), (([] : List Int)), (by first | rfl | (simp; done) | (simp [*]; done)), H', ⟨by have := HK1.out; first | omega | exact Nat.le_refl _⟩, ⟨by first | exact Kd.R_nil _ _ _ _ _ | exact Kd.N_nil _ _ _ _ _ | exact Kd.V_nil _ _ _ _ _ | exact Kd.Q_nil _ _ _ _ _ | exact Kd.S_nil _ _ _ _ _⟩, ⟨by repeat (first | (with_reducible first | exact HB.out | apply below_alloc | apply pw_below_drewN | apply below_drew1) | exact HB.out)⟩⟩
          case rest =>
            clear HC9
            try clear c1
            try clear p1
            try clear q1
            try clear hx1
            try clear c2
            try clear c2b0
            try clear c2b1
            try clear p2
            try clear c3
            try clear c3b0
            try clear c4
            try clear c4b0
            try clear p5
            try clear q5
            try clear hx5
            try clear c6
            try clear c6b0
            try clear p6
            try clear p7
            try clear q7
            try clear hx7
            try clear c8
            try clear c8b0
            try clear c8b1
            try clear c10
            try clear c10b0
            try clear c10b1
            try clear c11
            try clear c11b0
            try clear c12
            try clear c12b0
            try clear c13
            try clear c13b0
            try clear p14
            try clear q14
            try clear hx14
            try clear c15
            try clear c18
            try clear c18b0
            try clear c18b1
            try clear c19
            try clear c19b0
            try clear c19b1
            try clear p14
            try clear p2
            try clear p5
            try clear p6
            try clear p7
            try clear q14
            try clear q5
            try clear q7
            obtain ⟨kq, x0_8, x6_8, rfl, HA, HJ8, HO_6, HB⟩ := hcut
            cases kq with
            | zero => exact absurd HA.out (by simp [paronymref12_Decode.j2])
            | succ kj8 =>
              have H := HA.out
              clear HA
              simp only [paronymref12_Decode.j2] at H
              have H' := Aside0.mk H
              clear H
              go_wp2
              go_loopg [0, 6, 8, 9, 10, 11] kj8 (fun kq v0 v6 v8 v9 v10 v11 w' => ∃ (x0_3 : ByteArray) (x6_3 : List Int) (x8_3 : Int) (x9_3 : Int) (x10_3 : Int) (x11_3 : Bool), v0 = .string x0_3 ∧ v8 = .int .i64 x8_3 ∧ v9 = .int .i64 x9_3 ∧ v10 = .int .i64 x10_3 ∧ v11 = .bool x11_3 ∧ Aside0 (paronymref12_Decode.l2 kq x0_3 x6_3 x8_3 x9_3 x10_3 x11_3 = some (r1, r2)) ∧ Aside0 (kq ≤ kj8) ∧ Aside0 (Kd.R (Kd.int .i64) 3 w' w.heap.size (fun _ => True) v6 x6_3) ∧ Aside0 (Below w.heap.size w w'))
              case atStart => exact ⟨(x0_8), (x6_8), (128), (72), (0), (true), (by first | rfl | (simp; done) | (simp [*]; done)), (by first | rfl | (simp; done) | (simp [*]; done)), (by first | rfl | (simp; done) | (simp [*]; done)), (by first | rfl | (simp; done) | (simp [*]; done)), (by first | rfl | (simp; done) | (simp [*]; done)), H', ⟨Nat.le_refl _⟩, ⟨by (with_reducible repeat (first | apply Kd.R_alloc | apply Kd.R_drewN | apply Kd.R_drew)); exact HO_6.out⟩, ⟨by repeat (first | (with_reducible first | exact HB.out | apply below_alloc | apply pw_below_drewN | apply below_drew1) | exact HB.out)⟩⟩
              case round =>
                clear H'
                try clear c1
                try clear p1
                try clear q1
                try clear hx1
                try clear c2
                try clear c2b0
                try clear c2b1
                try clear p2
                try clear c3
                try clear c3b0
                try clear c4
                try clear c4b0
                try clear p5
                try clear q5
                try clear hx5
                try clear c6
                try clear c6b0
                try clear p6
                try clear p7
                try clear q7
                try clear hx7
                try clear c8
                try clear c8b0
                try clear c8b1
                try clear c10
                try clear c10b0
                try clear c10b1
                try clear c11
                try clear c11b0
                try clear c12
                try clear c12b0
                try clear c13
                try clear c13b0
                try clear p14
                try clear q14
                try clear hx14
                try clear c15
                try clear c18
                try clear c18b0
                try clear c18b1
                try clear c19
                try clear c19b0
                try clear c19b1
                try clear p1
                try clear p14
                try clear p2
                try clear p5
                try clear p6
                try clear p7
                try clear q1
                try clear q14
                try clear q5
                try clear q7
                obtain ⟨x0_3, x6_3, x8_3, x9_3, x10_3, x11_3, rfl, rfl, rfl, rfl, rfl, HA, HK3, HO_6, HB⟩ := hrel
                cases gk with
                | zero => exact absurd HA.out (by simp [paronymref12_Decode.l2])
                | succ k3 =>
                  have H := HA.out
                  clear HA
                  simp only [paronymref12_Decode.l2] at H
                  by_cases c20 : (x0_3.size : Int) > 0
                  · rw [if_pos c20] at H
                    have c20b0 : decide (0 < (x0_3.size : Int)) = true := decide_eq_true c20
                    have c20b1 : decide (0 < x0_3.size) = true := decide_eq_true (by omega)
                    clear c20
                    replace H := Option.bind_eq_some_iff.mp H
                    obtain ⟨⟨t104, t105, t106⟩, A210, H⟩ := H
                    replace H : (if t106 = 0 then (if (wrap64 (x10_3 + t104)) > 2147483647 then (some (([] : List Int), 21)) else ((paronymref12_Bias.f k3 t104 (wrap64 ((x6_3.length : Int) + 1)) x11_3).bind fun t107 => (if (wrap64 ((x6_3.length : Int) + 1)) = 0 then (none) else (if (wrap64 (x8_3 + (wrap64 (Int.tdiv (wrap64 (x10_3 + t104)) (wrap64 ((x6_3.length : Int) + 1)))))) > 2147483647 then (some (([] : List Int), 21)) else ((paronymref01_Scalar.f (wrap64 (x8_3 + (wrap64 (Int.tdiv (wrap64 (x10_3 + t104)) (wrap64 ((x6_3.length : Int) + 1))))))).bind fun t108 => (if t108 = true then (if 0 ≤ (Int.tmod (wrap64 (x10_3 + t104)) (wrap64 ((x6_3.length : Int) + 1))) then (if (Int.tmod (wrap64 (x10_3 + t104)) (wrap64 ((x6_3.length : Int) + 1))) ≤ (x6_3.length : Int) then ((some (x6_3.take ((Int.tmod (wrap64 (x10_3 + t104)) (wrap64 ((x6_3.length : Int) + 1))) : Int).toNat : List Int)).bind fun y109 => (if ([] : List Int).length + y109.length < 17592186044416 then ((some (([] : List Int) ++ y109 : List Int)).bind fun y113 => (if y113.length < 17592186044416 then ((some (y113 ++ [wrap64 (x8_3 + (wrap64 (Int.tdiv (wrap64 (x10_3 + t104)) (wrap64 ((x6_3.length : Int) + 1)))))] : List Int)).bind fun y116 => ((some (x6_3.drop ((Int.tmod (wrap64 (x10_3 + t104)) (wrap64 ((x6_3.length : Int) + 1))) : Int).toNat : List Int)).bind fun y119 => (if y116.length + y119.length < 17592186044416 then (if 0 ≤ t105 then (if t105 ≤ (x0_3.size : Int) then (paronymref12_Decode.l2 k3 (x0_3.extract (t105 : Int).toNat x0_3.size) (y116 ++ y119) (wrap64 (x8_3 + (wrap64 (Int.tdiv (wrap64 (x10_3 + t104)) (wrap64 ((x6_3.length : Int) + 1)))))) t107 (wrap64 ((Int.tmod (wrap64 (x10_3 + t104)) (wrap64 ((x6_3.length : Int) + 1))) + 1)) false) else (none)) else (none)) else (none)))) else (none))) else (none))) else (none)) else (none)) else (some (([] : List Int), 10)))))))) else (some (([] : List Int), t106))) = some (r1, r2) := H
                    have A21 := Aside0.mk A210
                    clear A210
                    by_cases c22 : t106 = 0
                    · rw [if_pos c22] at H
                      have c22b0 : (t106 == 0) = true := beq_iff_eq.mpr c22
                      have c22b1 : (t106 != 0) = false := bne_eq_false_iff_eq.mpr c22
                      clear c22
                      by_cases c23 : (wrap64 (x10_3 + t104)) > 2147483647
                      · rw [if_pos c23] at H
                        have c23b0 : decide (2147483647 < (wrap64 (x10_3 + t104))) = true := decide_eq_true c23
                        clear c23
                        simp only [Option.some.injEq, Prod.mk.injEq] at H
                        obtain ⟨rfl, rfl⟩ := H
                        go_wp2_with (first | ((with_reducible refine gate_callee (f := 67) rfl ?_); refine goesL_ (some 59) rfl rfl Try.func67 (by kernel_rfl) rfl #[.string x0_3, .int .i64 x9_3] rfl (by (try simp only [List.map_toArray, List.map_cons, List.map_nil]); first | done | rfl | (simp only [List.length_drop, List.length_take]; rfl)) ?_; (with_reducible refine (paronymref12_read.calls k3 x0_3 x9_3 t104 t105 t106 _ A21.out).mono ?_); rintro e w' ⟨rfl, ⟨nd, rfl⟩⟩; refine ⟨_, rfl, ?_⟩))
                        go_ret2
                        exact ⟨_, by first | rfl | (simp [errW_none, errW_some] <;> rfl) | (simp [*, errW_none, errW_some] <;> rfl), by first | exact Kd.R_nil _ _ _ _ _ | exact Kd.N_nil _ _ _ _ _ | exact Kd.V_nil _ _ _ _ _ | exact Kd.Q_nil _ _ _ _ _ | exact Kd.S_nil _ _ _ _ _, by repeat (first | (with_reducible first | exact HB.out | apply below_alloc | apply pw_below_drewN | apply below_drew1) | exact HB.out)⟩
                      · rw [if_neg c23] at H
                        have c23b0 : decide (2147483647 < (wrap64 (x10_3 + t104))) = false := decide_eq_false c23
                        clear c23
                        replace H := Option.bind_eq_some_iff.mp H
                        obtain ⟨t107, A240, H⟩ := H
                        replace H : (if (wrap64 ((x6_3.length : Int) + 1)) = 0 then (none) else (if (wrap64 (x8_3 + (wrap64 (Int.tdiv (wrap64 (x10_3 + t104)) (wrap64 ((x6_3.length : Int) + 1)))))) > 2147483647 then (some (([] : List Int), 21)) else ((paronymref01_Scalar.f (wrap64 (x8_3 + (wrap64 (Int.tdiv (wrap64 (x10_3 + t104)) (wrap64 ((x6_3.length : Int) + 1))))))).bind fun t108 => (if t108 = true then (if 0 ≤ (Int.tmod (wrap64 (x10_3 + t104)) (wrap64 ((x6_3.length : Int) + 1))) then (if (Int.tmod (wrap64 (x10_3 + t104)) (wrap64 ((x6_3.length : Int) + 1))) ≤ (x6_3.length : Int) then ((some (x6_3.take ((Int.tmod (wrap64 (x10_3 + t104)) (wrap64 ((x6_3.length : Int) + 1))) : Int).toNat : List Int)).bind fun y109 => (if ([] : List Int).length + y109.length < 17592186044416 then ((some (([] : List Int) ++ y109 : List Int)).bind fun y113 => (if y113.length < 17592186044416 then ((some (y113 ++ [wrap64 (x8_3 + (wrap64 (Int.tdiv (wrap64 (x10_3 + t104)) (wrap64 ((x6_3.length : Int) + 1)))))] : List Int)).bind fun y116 => ((some (x6_3.drop ((Int.tmod (wrap64 (x10_3 + t104)) (wrap64 ((x6_3.length : Int) + 1))) : Int).toNat : List Int)).bind fun y119 => (if y116.length + y119.length < 17592186044416 then (if 0 ≤ t105 then (if t105 ≤ (x0_3.size : Int) then (paronymref12_Decode.l2 k3 (x0_3.extract (t105 : Int).toNat x0_3.size) (y116 ++ y119) (wrap64 (x8_3 + (wrap64 (Int.tdiv (wrap64 (x10_3 + t104)) (wrap64 ((x6_3.length : Int) + 1)))))) t107 (wrap64 ((Int.tmod (wrap64 (x10_3 + t104)) (wrap64 ((x6_3.length : Int) + 1))) + 1)) false) else (none)) else (none)) else (none)))) else (none))) else (none))) else (none)) else (none)) else (some (([] : List Int), 10)))))) = some (r1, r2) := H
                        have A24 := Aside0.mk A240
                        clear A240
                        by_cases c25 : (wrap64 ((x6_3.length : Int) + 1)) = 0
                        · rw [if_pos c25] at H
                          exact absurd H (by simp)
                        · rw [if_neg c25] at H
                          have c25b0 : ((wrap64 ((x6_3.length : Int) + 1)) == 0) = false := beq_eq_false_iff_ne.mpr c25
                          have c25b1 : ((wrap64 ((x6_3.length : Int) + 1)) != 0) = true := bne_iff_ne.mpr c25
                          by_cases c26 : (wrap64 (x8_3 + (wrap64 (Int.tdiv (wrap64 (x10_3 + t104)) (wrap64 ((x6_3.length : Int) + 1)))))) > 2147483647
                          · rw [if_pos c26] at H
                            have c26b0 : decide (2147483647 < (wrap64 (x8_3 + (wrap64 (Int.tdiv (wrap64 (x10_3 + t104)) (wrap64 ((x6_3.length : Int) + 1))))))) = true := decide_eq_true c26
                            clear c26
                            simp only [Option.some.injEq, Prod.mk.injEq] at H
                            obtain ⟨rfl, rfl⟩ := H
                            go_wp2_with (first | ((with_reducible refine gate_callee (f := 67) rfl ?_); refine goesL_ (some 59) rfl rfl Try.func67 (by kernel_rfl) rfl #[.string x0_3, .int .i64 x9_3] rfl (by (try simp only [List.map_toArray, List.map_cons, List.map_nil]); first | done | rfl | (simp only [List.length_drop, List.length_take]; rfl)) ?_; (with_reducible refine (paronymref12_read.calls k3 x0_3 x9_3 t104 t105 t106 _ A21.out).mono ?_); rintro e w' ⟨rfl, ⟨nd, rfl⟩⟩; refine ⟨_, rfl, ?_⟩; obtain ⟨Ao27, co27, eo27⟩ := Kd.R_slice HO_6.out; subst eo27) | ((with_reducible refine gate_callee (f := 62) rfl ?_); refine goesL_ (some 77) rfl rfl Try.func62 (by kernel_rfl) rfl #[.int .i64 t104, .int .i64 (wrap64 ((x6_3.length : Int) + 1)), .bool x11_3] rfl (by (try simp only [List.map_toArray, List.map_cons, List.map_nil]); first | done | rfl | (simp only [List.length_drop, List.length_take]; rfl)) ?_; (with_reducible refine (paronymref12_Bias.calls k3 t104 (wrap64 ((x6_3.length : Int) + 1)) x11_3 t107 _ A24.out).mono ?_); rintro e w' ⟨rfl, ⟨nd, rfl⟩⟩; refine ⟨_, rfl, ?_⟩))
                            go_ret2
                            exact ⟨_, by first | rfl | (simp [errW_none, errW_some] <;> rfl) | (simp [*, errW_none, errW_some] <;> rfl), by first | exact Kd.R_nil _ _ _ _ _ | exact Kd.N_nil _ _ _ _ _ | exact Kd.V_nil _ _ _ _ _ | exact Kd.Q_nil _ _ _ _ _ | exact Kd.S_nil _ _ _ _ _, by repeat (first | (with_reducible first | exact HB.out | apply below_alloc | apply pw_below_drewN | apply below_drew1) | exact HB.out)⟩
                          · rw [if_neg c26] at H
                            have c26b0 : decide (2147483647 < (wrap64 (x8_3 + (wrap64 (Int.tdiv (wrap64 (x10_3 + t104)) (wrap64 ((x6_3.length : Int) + 1))))))) = false := decide_eq_false c26
                            clear c26
                            replace H := Option.bind_eq_some_iff.mp H
                            obtain ⟨t108, A280, H⟩ := H
                            replace H : (if t108 = true then (if 0 ≤ (Int.tmod (wrap64 (x10_3 + t104)) (wrap64 ((x6_3.length : Int) + 1))) then (if (Int.tmod (wrap64 (x10_3 + t104)) (wrap64 ((x6_3.length : Int) + 1))) ≤ (x6_3.length : Int) then ((some (x6_3.take ((Int.tmod (wrap64 (x10_3 + t104)) (wrap64 ((x6_3.length : Int) + 1))) : Int).toNat : List Int)).bind fun y109 => (if ([] : List Int).length + y109.length < 17592186044416 then ((some (([] : List Int) ++ y109 : List Int)).bind fun y113 => (if y113.length < 17592186044416 then ((some (y113 ++ [wrap64 (x8_3 + (wrap64 (Int.tdiv (wrap64 (x10_3 + t104)) (wrap64 ((x6_3.length : Int) + 1)))))] : List Int)).bind fun y116 => ((some (x6_3.drop ((Int.tmod (wrap64 (x10_3 + t104)) (wrap64 ((x6_3.length : Int) + 1))) : Int).toNat : List Int)).bind fun y119 => (if y116.length + y119.length < 17592186044416 then (if 0 ≤ t105 then (if t105 ≤ (x0_3.size : Int) then (paronymref12_Decode.l2 k3 (x0_3.extract (t105 : Int).toNat x0_3.size) (y116 ++ y119) (wrap64 (x8_3 + (wrap64 (Int.tdiv (wrap64 (x10_3 + t104)) (wrap64 ((x6_3.length : Int) + 1)))))) t107 (wrap64 ((Int.tmod (wrap64 (x10_3 + t104)) (wrap64 ((x6_3.length : Int) + 1))) + 1)) false) else (none)) else (none)) else (none)))) else (none))) else (none))) else (none)) else (none)) else (some (([] : List Int), 10))) = some (r1, r2) := H
                            have A28 := Aside0.mk A280
                            clear A280
                            by_cases c29 : t108 = true
                            · subst c29
                              have H1 : (if 0 ≤ (Int.tmod (wrap64 (x10_3 + t104)) (wrap64 ((x6_3.length : Int) + 1))) then (if (Int.tmod (wrap64 (x10_3 + t104)) (wrap64 ((x6_3.length : Int) + 1))) ≤ (x6_3.length : Int) then ((some (x6_3.take ((Int.tmod (wrap64 (x10_3 + t104)) (wrap64 ((x6_3.length : Int) + 1))) : Int).toNat : List Int)).bind fun y109 => (if ([] : List Int).length + y109.length < 17592186044416 then ((some (([] : List Int) ++ y109 : List Int)).bind fun y113 => (if y113.length < 17592186044416 then ((some (y113 ++ [wrap64 (x8_3 + (wrap64 (Int.tdiv (wrap64 (x10_3 + t104)) (wrap64 ((x6_3.length : Int) + 1)))))] : List Int)).bind fun y116 => ((some (x6_3.drop ((Int.tmod (wrap64 (x10_3 + t104)) (wrap64 ((x6_3.length : Int) + 1))) : Int).toNat : List Int)).bind fun y119 => (if y116.length + y119.length < 17592186044416 then (if 0 ≤ t105 then (if t105 ≤ (x0_3.size : Int) then (paronymref12_Decode.l2 k3 (x0_3.extract (t105 : Int).toNat x0_3.size) (y116 ++ y119) (wrap64 (x8_3 + (wrap64 (Int.tdiv (wrap64 (x10_3 + t104)) (wrap64 ((x6_3.length : Int) + 1)))))) t107 (wrap64 ((Int.tmod (wrap64 (x10_3 + t104)) (wrap64 ((x6_3.length : Int) + 1))) + 1)) false) else (none)) else (none)) else (none)))) else (none))) else (none))) else (none)) else (none)) = some (r1, r2) := by rw [if_pos rfl] at H; exact H
                              clear H
                              have H := H1
                              clear H1
                              obtain ⟨ji30, hji30⟩ : ∃ j_ : Int, (Int.tmod (wrap64 (x10_3 + t104)) (wrap64 ((x6_3.length : Int) + 1))) = j_ := ⟨_, rfl⟩
                              replace H : (if 0 ≤ (ji30) then (if (ji30) ≤ (x6_3.length : Int) then ((some (x6_3.take ((ji30) : Int).toNat : List Int)).bind fun y109 => (if ([] : List Int).length + y109.length < 17592186044416 then ((some (([] : List Int) ++ y109 : List Int)).bind fun y113 => (if y113.length < 17592186044416 then ((some (y113 ++ [wrap64 (x8_3 + (wrap64 (Int.tdiv (wrap64 (x10_3 + t104)) (wrap64 ((x6_3.length : Int) + 1)))))] : List Int)).bind fun y116 => ((some (x6_3.drop ((ji30) : Int).toNat : List Int)).bind fun y119 => (if y116.length + y119.length < 17592186044416 then (if 0 ≤ t105 then (if t105 ≤ (x0_3.size : Int) then (paronymref12_Decode.l2 k3 (x0_3.extract (t105 : Int).toNat x0_3.size) (y116 ++ y119) (wrap64 (x8_3 + (wrap64 (Int.tdiv (wrap64 (x10_3 + t104)) (wrap64 ((x6_3.length : Int) + 1)))))) t107 (wrap64 ((ji30) + 1)) false) else (none)) else (none)) else (none)))) else (none))) else (none))) else (none)) else (none)) = some (r1, r2) := by first | (rw [hji30] at H; exact H) | (simp only [hji30] at H ⊢; exact H)
                              (try rw [hji30] at A21)
                              (try rw [hji30] at A24)
                              (try rw [hji30] at A28)
                              by_cases c31 : 0 ≤ (ji30)
                              · rw [if_pos c31] at H
                                have c31b0 := eq_true c31
                                have c31b1 : decide (0 ≤ (ji30)) = true := decide_eq_true c31
                                clear c31
                                by_cases c32 : (ji30) ≤ (x6_3.length : Int)
                                · rw [if_pos c32] at H
                                  have c32b0 := eq_true c32
                                  have c32b1 : decide ((ji30) ≤ (x6_3.length : Int)) = true := decide_eq_true c32
                                  clear c32
                                  obtain ⟨y109, hy109⟩ : ∃ y_ : List Int, y_ = (x6_3.take ((ji30) : Int).toNat) := ⟨_, rfl⟩
                                  replace H : (if ([] : List Int).length + y109.length < 17592186044416 then ((some (([] : List Int) ++ y109 : List Int)).bind fun y113 => (if y113.length < 17592186044416 then ((some (y113 ++ [wrap64 (x8_3 + (wrap64 (Int.tdiv (wrap64 (x10_3 + t104)) (wrap64 ((x6_3.length : Int) + 1)))))] : List Int)).bind fun y116 => ((some (x6_3.drop ((ji30) : Int).toNat : List Int)).bind fun y119 => (if y116.length + y119.length < 17592186044416 then (if 0 ≤ t105 then (if t105 ≤ (x0_3.size : Int) then (paronymref12_Decode.l2 k3 (x0_3.extract (t105 : Int).toNat x0_3.size) (y116 ++ y119) (wrap64 (x8_3 + (wrap64 (Int.tdiv (wrap64 (x10_3 + t104)) (wrap64 ((x6_3.length : Int) + 1)))))) t107 (wrap64 ((ji30) + 1)) false) else (none)) else (none)) else (none)))) else (none))) else (none)) = some (r1, r2) := by first | (rw [hy109]; with_reducible exact H) | (have H2_ := (Option.bind_some _ _).symm.trans H; rw [hy109]; with_reducible exact H2_) | (have H2_ := (Option.bind_some _ _).symm.trans H; with_reducible exact H2_) | with_reducible exact H | (rw [hy109]; exact H) | exact H
                                  have Ny109 := Aside0.mk hy109
                                  clear hy109
                                  by_cases c33 : ([] : List Int).length + y109.length < 17592186044416
                                  · rw [if_pos c33] at H
                                    have LMc33 := Aside0.mk c33
                                    clear c33
                                    obtain ⟨y113, hy113⟩ : ∃ y_ : List Int, y_ = (([] : List Int) ++ y109) := ⟨_, rfl⟩
                                    replace H : (if y113.length < 17592186044416 then ((some (y113 ++ [wrap64 (x8_3 + (wrap64 (Int.tdiv (wrap64 (x10_3 + t104)) (wrap64 ((x6_3.length : Int) + 1)))))] : List Int)).bind fun y116 => ((some (x6_3.drop ((ji30) : Int).toNat : List Int)).bind fun y119 => (if y116.length + y119.length < 17592186044416 then (if 0 ≤ t105 then (if t105 ≤ (x0_3.size : Int) then (paronymref12_Decode.l2 k3 (x0_3.extract (t105 : Int).toNat x0_3.size) (y116 ++ y119) (wrap64 (x8_3 + (wrap64 (Int.tdiv (wrap64 (x10_3 + t104)) (wrap64 ((x6_3.length : Int) + 1)))))) t107 (wrap64 ((ji30) + 1)) false) else (none)) else (none)) else (none)))) else (none)) = some (r1, r2) := by first | (rw [hy113]; with_reducible exact H) | (have H2_ := (Option.bind_some _ _).symm.trans H; rw [hy113]; with_reducible exact H2_) | (have H2_ := (Option.bind_some _ _).symm.trans H; with_reducible exact H2_) | with_reducible exact H | (rw [hy113]; exact H) | exact H
                                    have Ny113 := Aside0.mk hy113
                                    clear hy113
                                    by_cases c34 : y113.length < 17592186044416
                                    · rw [if_pos c34] at H
                                      have LMc34 := Aside0.mk c34
                                      clear c34
                                      obtain ⟨y116, hy116⟩ : ∃ y_ : List Int, y_ = (y113 ++ [wrap64 (x8_3 + (wrap64 (Int.tdiv (wrap64 (x10_3 + t104)) (wrap64 ((x6_3.length : Int) + 1)))))]) := ⟨_, rfl⟩
                                      replace H : ((some (x6_3.drop ((ji30) : Int).toNat : List Int)).bind fun y119 => (if y116.length + y119.length < 17592186044416 then (if 0 ≤ t105 then (if t105 ≤ (x0_3.size : Int) then (paronymref12_Decode.l2 k3 (x0_3.extract (t105 : Int).toNat x0_3.size) (y116 ++ y119) (wrap64 (x8_3 + (wrap64 (Int.tdiv (wrap64 (x10_3 + t104)) (wrap64 ((x6_3.length : Int) + 1)))))) t107 (wrap64 ((ji30) + 1)) false) else (none)) else (none)) else (none))) = some (r1, r2) := by first | (rw [hy116]; with_reducible exact H) | (have H2_ := (Option.bind_some _ _).symm.trans H; rw [hy116]; with_reducible exact H2_) | (have H2_ := (Option.bind_some _ _).symm.trans H; with_reducible exact H2_) | with_reducible exact H | (rw [hy116]; exact H) | exact H
                                      have Ny116 := Aside0.mk hy116
                                      clear hy116
                                      have c35b0 := eq_true (of_decide_eq_true (by first | (with_reducible assumption) | assumption) : 0 ≤ (ji30))
                                      have c36b0 := eq_true (of_decide_eq_true (by first | (with_reducible assumption) | assumption) : (ji30) ≤ (x6_3.length : Int))
                                      obtain ⟨y119, hy119⟩ : ∃ y_ : List Int, y_ = (x6_3.drop ((ji30) : Int).toNat) := ⟨_, rfl⟩
                                      replace H : (if y116.length + y119.length < 17592186044416 then (if 0 ≤ t105 then (if t105 ≤ (x0_3.size : Int) then (paronymref12_Decode.l2 k3 (x0_3.extract (t105 : Int).toNat x0_3.size) (y116 ++ y119) (wrap64 (x8_3 + (wrap64 (Int.tdiv (wrap64 (x10_3 + t104)) (wrap64 ((x6_3.length : Int) + 1)))))) t107 (wrap64 ((ji30) + 1)) false) else (none)) else (none)) else (none)) = some (r1, r2) := by first | (rw [hy119]; with_reducible exact H) | (have H2_ := (Option.bind_some _ _).symm.trans H; rw [hy119]; with_reducible exact H2_) | (have H2_ := (Option.bind_some _ _).symm.trans H; with_reducible exact H2_) | with_reducible exact H | (rw [hy119]; exact H) | exact H
                                      have Ny119 := Aside0.mk hy119
                                      clear hy119
                                      by_cases c37 : y116.length + y119.length < 17592186044416
                                      · rw [if_pos c37] at H
                                        have LMc37 := Aside0.mk c37
                                        clear c37
                                        obtain ⟨y123, hy123⟩ : ∃ y_ : List Int, y_ = (y116 ++ y119) := ⟨_, rfl⟩
                                        replace H : (if 0 ≤ t105 then (if t105 ≤ (x0_3.size : Int) then (paronymref12_Decode.l2 k3 (x0_3.extract (t105 : Int).toNat x0_3.size) y123 (wrap64 (x8_3 + (wrap64 (Int.tdiv (wrap64 (x10_3 + t104)) (wrap64 ((x6_3.length : Int) + 1)))))) t107 (wrap64 ((ji30) + 1)) false) else (none)) else (none)) = some (r1, r2) := by first | (rw [hy123]; with_reducible exact H) | (have H2_ := (Option.bind_some _ _).symm.trans H; rw [hy123]; with_reducible exact H2_) | (have H2_ := (Option.bind_some _ _).symm.trans H; with_reducible exact H2_) | with_reducible exact H | (rw [hy123]; exact H) | exact H
                                        have Ny123 := Aside0.mk hy123
                                        clear hy123
                                        by_cases c38 : 0 ≤ t105
                                        · rw [if_pos c38] at H
                                          have c38b0 := eq_true c38
                                          have c38b1 : decide (0 ≤ t105) = true := decide_eq_true c38
                                          clear c38
                                          by_cases c39 : t105 ≤ (x0_3.size : Int)
                                          · rw [if_pos c39] at H
                                            have c39b0 := eq_true c39
                                            have c39b1 : decide (t105 ≤ (x0_3.size : Int)) = true := decide_eq_true c39
                                            clear c39
                                            have H' := Aside0.mk H
                                            clear H
                                            go_wp2_with (first | ((with_reducible refine gate_callee (f := 67) rfl ?_); refine goesL_ (some 59) rfl rfl Try.func67 (by kernel_rfl) rfl #[.string x0_3, .int .i64 x9_3] rfl (by (try simp only [List.map_toArray, List.map_cons, List.map_nil]); first | done | rfl | (simp only [List.length_drop, List.length_take]; rfl)) ?_; (with_reducible refine (paronymref12_read.calls k3 x0_3 x9_3 t104 t105 t106 _ A21.out).mono ?_); rintro e w' ⟨rfl, ⟨nd, rfl⟩⟩; refine ⟨_, rfl, ?_⟩; obtain ⟨Ao40, co40, eo40⟩ := Kd.R_slice HO_6.out; subst eo40) | ((with_reducible refine gate_callee (f := 62) rfl ?_); refine goesL_ (some 77) rfl rfl Try.func62 (by kernel_rfl) rfl #[.int .i64 t104, .int .i64 (wrap64 ((x6_3.length : Int) + 1)), .bool x11_3] rfl (by (try simp only [List.map_toArray, List.map_cons, List.map_nil]); first | done | rfl | (simp only [List.length_drop, List.length_take]; rfl)) ?_; (with_reducible refine (paronymref12_Bias.calls k3 t104 (wrap64 ((x6_3.length : Int) + 1)) x11_3 t107 _ A24.out).mono ?_); rintro e w' ⟨rfl, ⟨nd, rfl⟩⟩; refine ⟨_, rfl, ?_⟩) | ((with_reducible refine gate_callee (f := 40) rfl ?_); refine goesL_ (some 86) rfl rfl Try.func40 (by kernel_rfl) rfl #[.int .i64 (wrap64 (x8_3 + (wrap64 (Int.tdiv (wrap64 (x10_3 + t104)) (wrap64 ((x6_3.length : Int) + 1))))))] rfl (by (try simp only [List.map_toArray, List.map_cons, List.map_nil]); first | done | rfl | (simp only [List.length_drop, List.length_take]; rfl)) ?_; (with_reducible refine (paronymref01_Scalar.calls (wrap64 (x8_3 + (wrap64 (Int.tdiv (wrap64 (x10_3 + t104)) (wrap64 ((x6_3.length : Int) + 1)))))) true _ A28.out).mono ?_); rintro e w' ⟨rfl, ⟨nd, rfl⟩⟩; refine ⟨_, rfl, ?_⟩; have q41 : ((ji30) : Int) ≤ ((x6_3.length : Int) : Int) := of_decide_eq_true (by first | (with_reducible assumption) | assumption); obtain ⟨i041, hi041, _, hsz41, _⟩ := info_parts info3; have hroom41 : x6_3.length ≤ co40 := (Kd.R_reads' HO_6.out).2.1; have hC41 : Kd.C (Kd.int .i64) _ Ao40 x6_3.length x6_3 := (Kd.R_reads' HO_6.out).2.2; have hcut41 := cut_to (P := Try.prog) 31 3 .i64 Try.underlying31 hi041 Ao40 x6_3.length co40 (ji30) (of_decide_eq_true (by first | (with_reducible assumption) | assumption)) q41 hroom41; have hr41 := Kd.C_take (m := ((ji30) : Int).toNat) hC41 (by omega); have hy41 : y109.length = ((ji30) : Int).toNat := (by rw [Ny109.out, List.length_take]; omega); rw [← Ny109.out] at hr41; rw [← hy41] at hcut41; have HR112 := Aside0.mk hr41; have HC112 := Aside0.mk (show y109.length ≤ co40 from by omega); clear hr41 hC41 hroom41 hi041 hsz41; have KY41 := Aside0.mk hy41; clear hy41; have KL41 := Aside0.mk (show ((ji30) : Int).toNat ≤ x6_3.length from by omega); replace q41 := eq_true q41) | ((with_reducible refine gate_builtin (b := .append) (xs := #[.tmp 91, .tmp 94]) rfl ?_); at_builtin; refine Kd.R_append_rows (Kd.int .i64) (w0 := w) w.heap.size rfl (.tmp 91) (.tmp 94) 31 3 (.int .i64 0) 8 rfl Try.underlying31 info3 rfl (by decide) (by omega) (.slice none 0 0) ([] : List Int) y109 _ _ _ (fun k_ => some k_ ≠ (.slice Ao40 x6_3.length co40 : Value).ownBlock) (fun _ => False) rfl rfl ?aO ?aR (fun _ _ h => h) (fun _ h => h.elim) ?aF ?aB ?aS ?aL ?_; (case aR => repeat (first | exact (by repeat (first | (with_reducible exact HR112.out) | (with_reducible refine Kd.C_alloc ?_ _) | (with_reducible refine Kd.C_drewN ?_ _) | (with_reducible refine Kd.C_drew ?_) | exact HR112.out)) | (with_reducible refine Kd.C_alloc ?_ _) | (with_reducible refine Kd.C_drewN ?_ _) | (with_reducible refine Kd.C_drew ?_))); (case aB => exact (by repeat (first | (with_reducible first | exact HB.out | apply below_alloc | apply pw_below_drewN | apply below_drew1) | exact HB.out))); (case aF => exact (fun k_ hk => Kd.fresh' (Kd.R_lt (by (with_reducible repeat (first | apply Kd.R_alloc | apply Kd.R_drewN | apply Kd.R_drew)); exact HO_6.out)) k_ hk)); (case aO => exact ((Kd.R_nil _ _ _ _ (fun k_ => some k_ ≠ (.slice Ao40 x6_3.length co40 : Value).ownBlock)))); (case aS => exact (below_size (by repeat (first | (with_reducible first | exact HB.out | apply below_alloc | apply pw_below_drewN | apply below_drew1) | exact HB.out)))); (case aL => have := LMc33.out; omega); intro v114 w42 ho hb hg hat; rw [← Ny113.out] at ho; have n0_ := Aside0.mk (Kd.R_after (Kd.R_apart_nil (by (with_reducible repeat (first | apply Kd.R_alloc | apply Kd.R_drewN | apply Kd.R_drew)); exact HO_6.out)) hg hat); have n1_ := Aside0.mk (hb); have n2_ := Aside0.mk ((show Kd.C (Kd.int .i64) w42 Ao40 y109.length y109 from by rw [Ny109.out]; exact Kd.C_take (m := ((ji30) : Int).toNat) ((Kd.R_reads' (Kd.R_after (Kd.R_apart_nil (by (with_reducible repeat (first | apply Kd.R_alloc | apply Kd.R_drewN | apply Kd.R_drew)); exact HO_6.out)) hg hat)).2.2) KL41.out)); have n3_ := Aside0.mk (ho); clear HO_6; clear HB; clear HR112; have HO_6 := n0_; have HB := n1_; have HR112 := n2_; have HO115 := n3_; clear n0_ n1_ n2_ n3_; clear ho hb hg hat) | ((with_reducible refine gate_builtin (b := .append) (xs := #[.tmp 96, .tmp 98]) rfl ?_); at_builtin; refine Kd.R_append (Kd.int .i64) (w0 := w) w.heap.size rfl (.tmp 96) (.tmp 98) 31 3 (.int .i64 0) 8 rfl Try.underlying31 info3 rfl (by decide) (by omega) v114 y113 (wrap64 (x8_3 + (wrap64 (Int.tdiv (wrap64 (x10_3 + t104)) (wrap64 ((x6_3.length : Int) + 1)))))) [.int .i64 (wrap64 (x8_3 + (wrap64 (Int.tdiv (wrap64 (x10_3 + t104)) (wrap64 ((x6_3.length : Int) + 1))))))] (fun k_ => some k_ ≠ (.slice Ao40 x6_3.length co40 : Value).ownBlock) (fun _ => False) rfl rfl ?aP (fun _ hk => hk.elim) ?aF ?aO ?aB ?aS ?aL ?_; (case aP => exact rfl); (case aB => exact (by repeat (first | (with_reducible first | exact HB.out | apply below_alloc | apply pw_below_drewN | apply below_drew1) | exact HB.out))); (case aF => exact (fun k_ hk => Kd.fresh' (Kd.R_lt (by (with_reducible repeat (first | apply Kd.R_alloc | apply Kd.R_drewN | apply Kd.R_drew)); exact HO_6.out)) k_ hk)); (case aO => exact (by (with_reducible repeat (first | apply Kd.R_alloc | apply Kd.R_drewN | apply Kd.R_drew)); exact HO115.out)); (case aS => exact (below_size (by repeat (first | (with_reducible first | exact HB.out | apply below_alloc | apply pw_below_drewN | apply below_drew1) | exact HB.out)))); (case aL => have := LMc34.out; omega); intro v117 w43 ho hb hg hat; rw [← Ny116.out] at ho; have n0_ := Aside0.mk (Kd.R_after (ok := (fun _ => True)) (by (with_reducible repeat (first | apply Kd.R_alloc | apply Kd.R_drewN | apply Kd.R_drew)); exact HO_6.out) hg hat); have n1_ := Aside0.mk (hb); have n2_ := Aside0.mk ((show Kd.C (Kd.int .i64) w43 Ao40 y109.length y109 from by rw [Ny109.out]; exact Kd.C_take (m := ((ji30) : Int).toNat) ((Kd.R_reads' (Kd.R_after (ok := (fun _ => True)) (by (with_reducible repeat (first | apply Kd.R_alloc | apply Kd.R_drewN | apply Kd.R_drew)); exact HO_6.out) hg hat)).2.2) KL41.out)); have n3_ := Aside0.mk (ho); clear HO_6; clear HB; clear HR112; clear HO115; have HO_6 := n0_; have HB := n1_; have HR112 := n2_; have HO118 := n3_; clear n0_ n1_ n2_ n3_; clear ho hb hg hat; have q44 : ((ji30) : Int) ≤ ((x6_3.length : Int) : Int) := of_decide_eq_true (by first | (with_reducible assumption) | assumption); obtain ⟨i044, hi044, _, hsz44, _⟩ := info_parts info3; have hroom44 : x6_3.length ≤ co40 := (Kd.R_reads' HO_6.out).2.1; have hC44 : Kd.C (Kd.int .i64) _ Ao40 x6_3.length x6_3 := (Kd.R_reads' HO_6.out).2.2; have q044 : (0 : Int) ≤ ((ji30) : Int) := of_decide_eq_true (by first | (with_reducible assumption) | assumption); have hcut44 := cut_from (P := Try.prog) 31 3 .i64 Try.underlying31 hi044 1 hsz44 Ao40 x6_3.length co40 (ji30) q044 q44; have hr44 := Kd.C_drop (m := ((ji30) : Int).toNat) (c := co40) hC44 (by omega) hroom44; obtain ⟨A44, hA44⟩ : ∃ A1, A1 = (if co40 = ((ji30) : Int).toNat then Ao40 else (Ao40 : Option Addr).map (·.add (((ji30) : Int).toNat * 1))) := ⟨_, rfl⟩; obtain ⟨c44, hc44⟩ : ∃ c1, c1 = co40 - ((ji30) : Int).toNat := ⟨_, rfl⟩; have hy44 : y119.length = x6_3.length - ((ji30) : Int).toNat := (by rw [Ny119.out, List.length_drop] <;> omega); rw [show (x6_3).drop ((ji30) : Int).toNat = y119 from Ny119.out.symm] at hr44; replace hr44 : Kd.C (Kd.int .i64) _ A44 y119.length y119 := (by rw [hA44]; exact hr44); rw [← hy44, ← hA44, ← hc44] at hcut44; have HR122 := Aside0.mk hr44; have HC122 := Aside0.mk (show y119.length ≤ c44 from by rw [hy44, hc44]; exact Nat.sub_le_sub_right hroom44 _); clear hr44 hC44 hroom44 hi044 hsz44 hc44; have KY44 := Aside0.mk hy44; have KA44 := Aside0.mk hA44; clear hy44 hA44; have KL44 := Aside0.mk (show ((ji30) : Int).toNat ≤ x6_3.length from by omega); replace q44 := eq_true q44) | ((with_reducible refine gate_builtin (b := .append) (xs := #[.tmp 100, .tmp 103]) rfl ?_); at_builtin; refine Kd.R_append_rows (Kd.int .i64) (w0 := w) w.heap.size rfl (.tmp 100) (.tmp 103) 31 3 (.int .i64 0) 8 rfl Try.underlying31 info3 rfl (by decide) (by omega) v117 y116 y119 _ _ _ (fun k_ => some k_ ≠ (.slice Ao40 x6_3.length co40 : Value).ownBlock) (fun _ => False) rfl rfl ?aO ?aR (fun _ _ h => h) (fun _ h => h.elim) ?aF ?aB ?aS ?aL ?_; (case aR => repeat (first | exact (by repeat (first | (with_reducible exact HR122.out) | (with_reducible refine Kd.C_alloc ?_ _) | (with_reducible refine Kd.C_drewN ?_ _) | (with_reducible refine Kd.C_drew ?_) | exact HR122.out)) | (with_reducible refine Kd.C_alloc ?_ _) | (with_reducible refine Kd.C_drewN ?_ _) | (with_reducible refine Kd.C_drew ?_))); (case aB => exact (by repeat (first | (with_reducible first | exact HB.out | apply below_alloc | apply pw_below_drewN | apply below_drew1) | exact HB.out))); (case aF => exact (fun k_ hk => Kd.fresh' (Kd.R_lt (by (with_reducible repeat (first | apply Kd.R_alloc | apply Kd.R_drewN | apply Kd.R_drew)); exact HO_6.out)) k_ hk)); (case aO => exact (by (with_reducible repeat (first | apply Kd.R_alloc | apply Kd.R_drewN | apply Kd.R_drew)); exact HO118.out)); (case aS => exact (below_size (by repeat (first | (with_reducible first | exact HB.out | apply below_alloc | apply pw_below_drewN | apply below_drew1) | exact HB.out)))); (case aL => have := LMc37.out; omega); intro v124 w45 ho hb hg hat; rw [← Ny123.out] at ho; have n0_ := Aside0.mk (Kd.R_after (ok := (fun _ => True)) (by (with_reducible repeat (first | apply Kd.R_alloc | apply Kd.R_drewN | apply Kd.R_drew)); exact HO_6.out) hg hat); have n1_ := Aside0.mk (hb); have n2_ := Aside0.mk ((show Kd.C (Kd.int .i64) w45 Ao40 y109.length y109 from by rw [Ny109.out]; exact Kd.C_take (m := ((ji30) : Int).toNat) ((Kd.R_reads' (Kd.R_after (ok := (fun _ => True)) (by (with_reducible repeat (first | apply Kd.R_alloc | apply Kd.R_drewN | apply Kd.R_drew)); exact HO_6.out) hg hat)).2.2) KL41.out)); have n3_ := Aside0.mk ((show Kd.C (Kd.int .i64) w45 A44 y119.length y119 from by rw [Ny119.out, KA44.out]; exact Kd.C_drop (m := ((ji30) : Int).toNat) (c := co40) ((Kd.R_reads' (Kd.R_after (ok := (fun _ => True)) (by (with_reducible repeat (first | apply Kd.R_alloc | apply Kd.R_drewN | apply Kd.R_drew)); exact HO_6.out) hg hat)).2.2) KL44.out ((Kd.R_reads' (Kd.R_after (ok := (fun _ => True)) (by (with_reducible repeat (first | apply Kd.R_alloc | apply Kd.R_drewN | apply Kd.R_drew)); exact HO_6.out) hg hat)).2.1))); have n4_ := Aside0.mk (ho); clear HO_6; clear HB; clear HR112; clear HR122; clear HO118; have HO_6 := n0_; have HB := n1_; have HR112 := n2_; have HR122 := n3_; have HO125 := n4_; clear n0_ n1_ n2_ n3_ n4_; clear ho hb hg hat))
                                            go_roundg k3
                                            case measure => have := HK1.out; have := HJ8.out; have := HK3.out; omega
                                            case rel => exact ⟨(x0_3.extract (t105 : Int).toNat x0_3.size), (y123), (wrap64 (x8_3 + (wrap64 (Int.tdiv (wrap64 (x10_3 + t104)) (wrap64 ((x6_3.length : Int) + 1)))))), (t107), (wrap64 ((ji30) + 1)), (false), (by first | rfl | (simp; done) | (simp [*]; done)), (by first | rfl | (simp; done) | (simp [*]; done)), (by first | rfl | (simp; done) | (simp [*]; done)), (by first | rfl | (simp; done) | (simp only [← hji30] <;> (first | rfl | simp)) | (simp [*]; done)), (by first | rfl | (simp; done) | (simp [*]; done)), H', ⟨by have := HK1.out; have := HJ8.out; have := HK3.out; omega⟩, ⟨by (with_reducible repeat (first | apply Kd.R_alloc | apply Kd.R_drewN | apply Kd.R_drew)); exact Kd.R_mono HO125.out (fun _ hk => trivial)⟩, ⟨by repeat (first | (with_reducible first | exact HB.out | apply below_alloc | apply pw_below_drewN | apply below_drew1) | exact HB.out)⟩⟩
                                          · rw [if_neg c39] at H
                                            exact absurd H (by simp)
                                        · rw [if_neg c38] at H
                                          exact absurd H (by simp)
                                      · rw [if_neg c37] at H
                                        exact absurd H (by simp)
                                    · rw [if_neg c34] at H
                                      exact absurd H (by simp)
                                  · rw [if_neg c33] at H
                                    exact absurd H (by simp)
                                · rw [if_neg c32] at H
                                  exact absurd H (by simp)
                              · rw [if_neg c31] at H
                                exact absurd H (by simp)
                            · replace c29 := Bool.eq_false_iff.mpr c29
                              subst c29
                              have H1 : (some (([] : List Int), 10)) = some (r1, r2) := by rw [if_neg (show ¬ (false = true) by decide)] at H; exact H
                              clear H
                              have H := H1
                              clear H1
                              simp only [Option.some.injEq, Prod.mk.injEq] at H
                              obtain ⟨rfl, rfl⟩ := H
                              go_wp2_with (first | ((with_reducible refine gate_callee (f := 67) rfl ?_); refine goesL_ (some 59) rfl rfl Try.func67 (by kernel_rfl) rfl #[.string x0_3, .int .i64 x9_3] rfl (by (try simp only [List.map_toArray, List.map_cons, List.map_nil]); first | done | rfl | (simp only [List.length_drop, List.length_take]; rfl)) ?_; (with_reducible refine (paronymref12_read.calls k3 x0_3 x9_3 t104 t105 t106 _ A21.out).mono ?_); rintro e w' ⟨rfl, ⟨nd, rfl⟩⟩; refine ⟨_, rfl, ?_⟩; obtain ⟨Ao46, co46, eo46⟩ := Kd.R_slice HO_6.out; subst eo46) | ((with_reducible refine gate_callee (f := 62) rfl ?_); refine goesL_ (some 77) rfl rfl Try.func62 (by kernel_rfl) rfl #[.int .i64 t104, .int .i64 (wrap64 ((x6_3.length : Int) + 1)), .bool x11_3] rfl (by (try simp only [List.map_toArray, List.map_cons, List.map_nil]); first | done | rfl | (simp only [List.length_drop, List.length_take]; rfl)) ?_; (with_reducible refine (paronymref12_Bias.calls k3 t104 (wrap64 ((x6_3.length : Int) + 1)) x11_3 t107 _ A24.out).mono ?_); rintro e w' ⟨rfl, ⟨nd, rfl⟩⟩; refine ⟨_, rfl, ?_⟩) | ((with_reducible refine gate_callee (f := 40) rfl ?_); refine goesL_ (some 86) rfl rfl Try.func40 (by kernel_rfl) rfl #[.int .i64 (wrap64 (x8_3 + (wrap64 (Int.tdiv (wrap64 (x10_3 + t104)) (wrap64 ((x6_3.length : Int) + 1))))))] rfl (by (try simp only [List.map_toArray, List.map_cons, List.map_nil]); first | done | rfl | (simp only [List.length_drop, List.length_take]; rfl)) ?_; (with_reducible refine (paronymref01_Scalar.calls (wrap64 (x8_3 + (wrap64 (Int.tdiv (wrap64 (x10_3 + t104)) (wrap64 ((x6_3.length : Int) + 1)))))) false _ A28.out).mono ?_); rintro e w' ⟨rfl, ⟨nd, rfl⟩⟩; refine ⟨_, rfl, ?_⟩))
                              go_ret2
                              exact ⟨_, by first | rfl | (simp [errW_none, errW_some] <;> rfl) | (simp [*, errW_none, errW_some] <;> rfl), by first | exact Kd.R_nil _ _ _ _ _ | exact Kd.N_nil _ _ _ _ _ | exact Kd.V_nil _ _ _ _ _ | exact Kd.Q_nil _ _ _ _ _ | exact Kd.S_nil _ _ _ _ _, by repeat (first | (with_reducible first | exact HB.out | apply below_alloc | apply pw_below_drewN | apply below_drew1) | exact HB.out)⟩
                    · rw [if_neg c22] at H
                      have c22b0 : (t106 == 0) = false := beq_eq_false_iff_ne.mpr c22
                      have c22b1 : (t106 != 0) = true := bne_iff_ne.mpr c22
                      simp only [Option.some.injEq, Prod.mk.injEq] at H
                      obtain ⟨rfl, rfl⟩ := H
                      go_wp2_with (first | ((with_reducible refine gate_callee (f := 67) rfl ?_); refine goesL_ (some 59) rfl rfl Try.func67 (by kernel_rfl) rfl #[.string x0_3, .int .i64 x9_3] rfl (by (try simp only [List.map_toArray, List.map_cons, List.map_nil]); first | done | rfl | (simp only [List.length_drop, List.length_take]; rfl)) ?_; (with_reducible refine (paronymref12_read.calls k3 x0_3 x9_3 t104 t105 t106 _ A21.out).mono ?_); rintro e w' ⟨rfl, ⟨nd, rfl⟩⟩; refine ⟨_, rfl, ?_⟩))
                      go_ret2
                      exact ⟨_, by first | rfl | (simp [errW_none, errW_some] <;> rfl) | (simp [*, errW_none, errW_some] <;> rfl), by first | exact Kd.R_nil _ _ _ _ _ | exact Kd.N_nil _ _ _ _ _ | exact Kd.V_nil _ _ _ _ _ | exact Kd.Q_nil _ _ _ _ _ | exact Kd.S_nil _ _ _ _ _, by repeat (first | (with_reducible first | exact HB.out | apply below_alloc | apply pw_below_drewN | apply below_drew1) | exact HB.out)⟩
                  · rw [if_neg c20] at H
                    have c20b0 : decide (0 < (x0_3.size : Int)) = false := decide_eq_false c20
                    have c20b1 : decide (0 < x0_3.size) = false := decide_eq_false (by omega)
                    clear c20
                    simp only [Option.some.injEq, Prod.mk.injEq] at H
                    obtain ⟨rfl, rfl⟩ := H
                    go_wp2
                    go_ret2
                    exact ⟨_, by first | rfl | (simp [errW_none, errW_some] <;> rfl) | (simp [*, errW_none, errW_some] <;> rfl), by (with_reducible repeat (first | apply Kd.R_alloc | apply Kd.R_drewN | apply Kd.R_drew)); exact HO_6.out, by repeat (first | (with_reducible first | exact HB.out | apply below_alloc | apply pw_below_drewN | apply below_drew1) | exact HB.out)⟩

end Go.Proofs.Ytooiajkbpkfplaa.Q
