/- Part 2 of 2 of the proof of UtfPoints: Points yields what the reference decodes, at each break. For every input; no condition. -/
import Derived.Test.YtooiajkbpkfplaaCUtfPoints1
import Derived.RegionIn
import Derived.Shelf.RegionOpen
import Derived.Test.YtooiajkbpkfplaaRows
import Derived.WalkKit
import Derived.ProofKit
import Derived.OpenShut
import Derived.ShutString
import Derived.ChangeOld
import Derived.Below
import Derived.SizedLaws
import Derived.Test.YtooiajkbpkfplaaWSized

-- from Qf52
-- Made by hp.py, a program of this session, with the kit's printer. Not trusted: Lean checks it.
namespace Go.Proofs.Ytooiajkbpkfplaa.Q
open Go.RowKit Go.Proofs.YtooiajkbpkfplaaW.PrintWords Go.Proofs.YtooiajkbpkfplaaW.PrintLast Go.Proofs.YtooiajkbpkfplaaW.PrintMore
attribute [local go_sem] max2_int min2_int max_two min_two max_three min_three max_four min_four   -- for this text's walks alone
set_option linter.unusedVariables false
set_option linter.unusedSimpArgs false

/-! ### puny_number: function 52 -/
def puny_number.l0 : Nat → Int → Int → List Int → Int → Option (List Int)
  | 0, _, _, _, _ => none
  | k + 1, x0, x1, x5, x6 => (puny_threshold.f x6 x1).bind fun t101 => (if x0 < t101 then (if 0 ≤ x0 then (if x0 < 36 then (if x5.length < 140737488355328 then (some (x5 ++ [bt (⟨#[97, 98, 99, 100, 101, 102, 103, 104, 105, 106, 107, 108, 109, 110, 111, 112, 113, 114, 115, 116, 117, 118, 119, 120, 121, 122, 48, 49, 50, 51, 52, 53, 54, 55, 56, 57]⟩ : ByteArray) x0])) else (none)) else (none)) else (none)) else (if (wrap64 (36 - t101)) = 0 then (none) else (if 0 ≤ (wrap64 (t101 + (Int.tmod (wrap64 (x0 - t101)) (wrap64 (36 - t101))))) then (if (wrap64 (t101 + (Int.tmod (wrap64 (x0 - t101)) (wrap64 (36 - t101))))) < 36 then (if x5.length < 140737488355328 then (puny_number.l0 k (wrap64 (Int.tdiv (wrap64 (x0 - t101)) (wrap64 (36 - t101)))) x1 (x5 ++ [bt (⟨#[97, 98, 99, 100, 101, 102, 103, 104, 105, 106, 107, 108, 109, 110, 111, 112, 113, 114, 115, 116, 117, 118, 119, 120, 121, 122, 48, 49, 50, 51, 52, 53, 54, 55, 56, 57]⟩ : ByteArray) (wrap64 (t101 + (Int.tmod (wrap64 (x0 - t101)) (wrap64 (36 - t101)))))]) (wrap64 (x6 + 36))) else (none)) else (none)) else (none))))
def puny_number.f (k : Nat) (a0 : Int) (a1 : Int) : Option (List Int) := puny_number.l0 k a0 a1 ([] : List Int) 36
theorem puny_number.mono_l : ∀ k, (∀ y0 y1 y2 y3, LeO (puny_number.l0 k y0 y1 y2 y3) (puny_number.l0 (k + 1) y0 y1 y2 y3))
  | 0 => fun _ _ _ _ r h => by simp [puny_number.l0] at h
  | k + 1 => by
    have ih0 := puny_number.mono_l k
    · intro y0 y1 y2 y3
      unfold puny_number.l0
      repeat' first
      | (with_reducible exact ih0 _ _ _ _)
      | (with_reducible exact LeO.refl _)
      | (with_reducible exact LeO.none _)
      | (with_reducible refine LeO.ite ?_ ?_)
      | (with_reducible refine LeO.bind ?_ (fun _ => ?_))
      | exact ih0 _ _ _ _
      | exact LeO.none _
      | refine LeO.ite ?_ ?_
      | refine LeO.bind ?_ (fun _ => ?_)
theorem puny_number.mono : ∀ a0 a1 k, LeO (puny_number.f k a0 a1) (puny_number.f (k + 1) a0 a1) := by
  intro a0 a1 k
  have ih0 := puny_number.mono_l k
  unfold puny_number.f
  repeat' first
      | (with_reducible exact ih0 _ _ _ _)
      | (with_reducible exact LeO.refl _)
      | (with_reducible exact LeO.none _)
      | (with_reducible refine LeO.ite ?_ ?_)
      | (with_reducible refine LeO.bind ?_ (fun _ => ?_))
      | exact ih0 _ _ _ _
      | exact LeO.none _
      | refine LeO.ite ?_ ?_
      | refine LeO.bind ?_ (fun _ => ?_)
set_option maxHeartbeats 8000000 in
set_option maxRecDepth 100000 in
theorem puny_number.calls (k : Nat) (a0 : Int) (a1 : Int) (r : List Int) (w : World) (h : puny_number.f k a0 a1 = some r) :
    Calls Try.prog 52 #[.int .i64 a0, .int .i64 a1] w fun e w' => ∃ v0_ : Value, e = .returned (v0_) ∧ Kd.R (Kd.int .u8) 5 w' w.heap.size (fun _ => True) v0_ r ∧ Below w.heap.size w w' := by
  have HB := Aside0.mk (Below.refl w.heap.size w)
  have H : (puny_number.l0 k a0 a1 ([] : List Int) 36) = some r := h
  clear h
  have H' := Aside0.mk H
  clear H
  go_enter Try.func52, Try.ntmps52
  go_wp2
  go_loopg [0, 5, 6] k (fun kq v0 v5 v6 w' => ∃ (x0_1 : Int) (x5_1 : List Int) (x6_1 : Int), v0 = .int .i64 x0_1 ∧ v6 = .int .i64 x6_1 ∧ Aside0 (puny_number.l0 kq x0_1 a1 x5_1 x6_1 = some r) ∧ Aside0 (kq ≤ k) ∧ Aside0 (Kd.R (Kd.int .u8) 5 w' w.heap.size (fun _ => True) v5 x5_1) ∧ Aside0 (Below w.heap.size w w'))
  case atStart => exact ⟨(a0), (([] : List Int)), (36), (by first | rfl | (simp; done) | (simp [*]; done)), (by first | rfl | (simp; done) | (simp [*]; done)), H', ⟨Nat.le_refl _⟩, ⟨by first | exact Kd.R_nil _ _ _ _ _ | exact Kd.N_nil _ _ _ _ _ | exact Kd.V_nil _ _ _ _ _ | exact Kd.Q_nil _ _ _ _ _ | exact Kd.S_nil _ _ _ _ _⟩, ⟨by repeat (first | (with_reducible first | exact HB.out | apply below_alloc | apply pw_below_drewN | apply below_drew1) | exact HB.out)⟩⟩
  case round =>
    clear H'
    try clear p2
    obtain ⟨x0_1, x5_1, x6_1, rfl, rfl, HA, HK1, HO_5, HB⟩ := hrel
    cases gk with
    | zero => exact absurd HA.out (by simp [puny_number.l0])
    | succ k1 =>
      have H := HA.out
      clear HA
      simp only [puny_number.l0] at H
      replace H := Option.bind_eq_some_iff.mp H
      obtain ⟨t101, A30, H⟩ := H
      replace H : (if x0_1 < t101 then (if 0 ≤ x0_1 then (if x0_1 < 36 then (if x5_1.length < 140737488355328 then (some (x5_1 ++ [bt (⟨#[97, 98, 99, 100, 101, 102, 103, 104, 105, 106, 107, 108, 109, 110, 111, 112, 113, 114, 115, 116, 117, 118, 119, 120, 121, 122, 48, 49, 50, 51, 52, 53, 54, 55, 56, 57]⟩ : ByteArray) x0_1])) else (none)) else (none)) else (none)) else (if (wrap64 (36 - t101)) = 0 then (none) else (if 0 ≤ (wrap64 (t101 + (Int.tmod (wrap64 (x0_1 - t101)) (wrap64 (36 - t101))))) then (if (wrap64 (t101 + (Int.tmod (wrap64 (x0_1 - t101)) (wrap64 (36 - t101))))) < 36 then (if x5_1.length < 140737488355328 then (puny_number.l0 k1 (wrap64 (Int.tdiv (wrap64 (x0_1 - t101)) (wrap64 (36 - t101)))) a1 (x5_1 ++ [bt (⟨#[97, 98, 99, 100, 101, 102, 103, 104, 105, 106, 107, 108, 109, 110, 111, 112, 113, 114, 115, 116, 117, 118, 119, 120, 121, 122, 48, 49, 50, 51, 52, 53, 54, 55, 56, 57]⟩ : ByteArray) (wrap64 (t101 + (Int.tmod (wrap64 (x0_1 - t101)) (wrap64 (36 - t101)))))]) (wrap64 (x6_1 + 36))) else (none)) else (none)) else (none)))) = some r := H
      have A3 := Aside0.mk A30
      clear A30
      by_cases c4 : x0_1 < t101
      · rw [if_pos c4] at H
        have c4b0 : decide (x0_1 < t101) = true := decide_eq_true c4
        clear c4
        by_cases c5 : 0 ≤ x0_1
        · rw [if_pos c5] at H
          have c5b0 : decide (0 ≤ x0_1) = true := decide_eq_true c5
          clear c5
          by_cases c6 : x0_1 < 36
          · rw [if_pos c6] at H
            have c6b0 : decide (x0_1 < 36) = true := decide_eq_true c6
            clear c6
            by_cases c8 : x5_1.length < 140737488355328
            · rw [if_pos c8] at H
              have LMc8 := Aside0.mk c8
              clear c8
              obtain ⟨y102, hy102⟩ : ∃ y_ : List Int, y_ = (x5_1 ++ [bt (⟨#[97, 98, 99, 100, 101, 102, 103, 104, 105, 106, 107, 108, 109, 110, 111, 112, 113, 114, 115, 116, 117, 118, 119, 120, 121, 122, 48, 49, 50, 51, 52, 53, 54, 55, 56, 57]⟩ : ByteArray) x0_1]) := ⟨_, rfl⟩
              replace H : (some y102) = some r := by first | (rw [hy102]; with_reducible exact H) | (have H2_ := (Option.bind_some _ _).symm.trans H; rw [hy102]; with_reducible exact H2_) | (have H2_ := (Option.bind_some _ _).symm.trans H; with_reducible exact H2_) | with_reducible exact H | (rw [hy102]; exact H) | exact H
              have Ny102 := Aside0.mk hy102
              clear hy102
              obtain rfl := Option.some.inj H
              go_wp2_with (first | ((with_reducible refine gate_callee (f := 72) rfl ?_); refine goesL_ (some 12) rfl rfl Try.func72 (by kernel_rfl) rfl #[.int .i64 x6_1, .int .i64 a1] rfl (by (try simp only [List.map_toArray, List.map_cons, List.map_nil]); first | done | rfl | (simp only [List.length_drop, List.length_take]; rfl)) ?_; (with_reducible refine (puny_threshold.calls x6_1 a1 t101 _ A3.out).mono ?_); rintro e w9 ⟨rfl, hb⟩; refine ⟨_, rfl, ?_⟩; have n0_ := Aside0.mk (Kd.R_below (by (with_reducible repeat (first | apply Kd.R_alloc | apply Kd.R_drewN | apply Kd.R_drew)); exact HO_5.out) hb); have n1_ := Aside0.mk (below_step (by repeat (first | (with_reducible first | exact HB.out | apply below_alloc | apply pw_below_drewN | apply below_drew1) | exact HB.out)) hb); clear HO_5; clear HB; have HO_5 := n0_; have HB := n1_; clear n0_ n1_; (try clear hb); (try clear hb2); (try clear hk); (try clear hi); have p7 : 0 ≤ (x0_1 : Int) := of_decide_eq_true (by first | (with_reducible assumption) | assumption); have q7 : x0_1 < (36 : Int) := of_decide_eq_true (by first | (with_reducible assumption) | assumption); have hx7 := bt_at (⟨#[97, 98, 99, 100, 101, 102, 103, 104, 105, 106, 107, 108, 109, 110, 111, 112, 113, 114, 115, 116, 117, 118, 119, 120, 121, 122, 48, 49, 50, 51, 52, 53, 54, 55, 56, 57]⟩ : ByteArray) x0_1; replace p7 := eq_true p7; replace q7 := eq_true q7) | ((with_reducible refine gate_builtin (b := .append) (xs := #[.tmp 16, .tmp 19]) rfl ?_); at_builtin; refine Kd.R_append (Kd.int .u8) (w0 := w) w.heap.size rfl (.tmp 16) (.tmp 19) 22 5 (.int .u8 0) 1 rfl Try.underlying22 info5 rfl (by decide) (by omega) u5 x5_1 (bt (⟨#[97, 98, 99, 100, 101, 102, 103, 104, 105, 106, 107, 108, 109, 110, 111, 112, 113, 114, 115, 116, 117, 118, 119, 120, 121, 122, 48, 49, 50, 51, 52, 53, 54, 55, 56, 57]⟩ : ByteArray) x0_1) [.int .u8 (bt (⟨#[97, 98, 99, 100, 101, 102, 103, 104, 105, 106, 107, 108, 109, 110, 111, 112, 113, 114, 115, 116, 117, 118, 119, 120, 121, 122, 48, 49, 50, 51, 52, 53, 54, 55, 56, 57]⟩ : ByteArray) x0_1)] (fun _ => True) (fun _ => False) rfl rfl ?aP (fun _ hk => hk.elim) ?aF ?aO ?aB ?aS ?aL ?_; (case aP => exact rfl); (case aB => exact (by repeat (first | (with_reducible first | exact HB.out | apply below_alloc | apply pw_below_drewN | apply below_drew1) | exact HB.out))); (case aF => exact (fun _ _ => trivial)); (case aO => exact (by (with_reducible repeat (first | apply Kd.R_alloc | apply Kd.R_drewN | apply Kd.R_drew)); exact HO_5.out)); (case aS => exact (below_size (by repeat (first | (with_reducible first | exact HB.out | apply below_alloc | apply pw_below_drewN | apply below_drew1) | exact HB.out)))); (case aL => have := LMc8.out; omega); intro v103 w10 ho hb hg hat; rw [← Ny102.out] at ho; have n0_ := Aside0.mk (hb); have n1_ := Aside0.mk (ho); clear HB; clear HO_5; have HB := n0_; have HO104 := n1_; clear n0_ n1_; clear ho hb hg hat))
              go_ret
              exact ⟨_, by first | rfl | (simp [errW_none, errW_some] <;> rfl) | (simp [*, errW_none, errW_some] <;> rfl), by (with_reducible repeat (first | apply Kd.R_alloc | apply Kd.R_drewN | apply Kd.R_drew)); exact HO104.out, by repeat (first | (with_reducible first | exact HB.out | apply below_alloc | apply pw_below_drewN | apply below_drew1) | exact HB.out)⟩
            · rw [if_neg c8] at H
              exact absurd H (by simp)
          · rw [if_neg c6] at H
            exact absurd H (by simp)
        · rw [if_neg c5] at H
          exact absurd H (by simp)
      · rw [if_neg c4] at H
        have c4b0 : decide (x0_1 < t101) = false := decide_eq_false c4
        clear c4
        by_cases c11 : (wrap64 (36 - t101)) = 0
        · rw [if_pos c11] at H
          exact absurd H (by simp)
        · rw [if_neg c11] at H
          have c11b0 : ((wrap64 (36 - t101)) == 0) = false := beq_eq_false_iff_ne.mpr c11
          have c11b1 : ((wrap64 (36 - t101)) != 0) = true := bne_iff_ne.mpr c11
          obtain ⟨ji12, hji12⟩ : ∃ j_ : Int, (wrap64 (t101 + (Int.tmod (wrap64 (x0_1 - t101)) (wrap64 (36 - t101))))) = j_ := ⟨_, rfl⟩
          replace H : (if 0 ≤ (ji12) then (if (ji12) < 36 then (if x5_1.length < 140737488355328 then (puny_number.l0 k1 (wrap64 (Int.tdiv (wrap64 (x0_1 - t101)) (wrap64 (36 - t101)))) a1 (x5_1 ++ [bt (⟨#[97, 98, 99, 100, 101, 102, 103, 104, 105, 106, 107, 108, 109, 110, 111, 112, 113, 114, 115, 116, 117, 118, 119, 120, 121, 122, 48, 49, 50, 51, 52, 53, 54, 55, 56, 57]⟩ : ByteArray) (ji12)]) (wrap64 (x6_1 + 36))) else (none)) else (none)) else (none)) = some r := by first | (rw [hji12] at H; exact H) | (simp only [hji12] at H ⊢; exact H)
          (try rw [hji12] at A3)
          have hji12w : (IntKind.i64.wrap (t101 + (Int.tmod (wrap64 (x0_1 - t101)) (wrap64 (36 - t101))))) = ji12 := (i64_w _).trans hji12
          by_cases c13 : 0 ≤ (ji12)
          · rw [if_pos c13] at H
            have c13b0 : decide (0 ≤ (ji12)) = true := decide_eq_true c13
            clear c13
            by_cases c14 : (ji12) < 36
            · rw [if_pos c14] at H
              have c14b0 : decide ((ji12) < 36) = true := decide_eq_true c14
              clear c14
              by_cases c16 : x5_1.length < 140737488355328
              · rw [if_pos c16] at H
                have LMc16 := Aside0.mk c16
                clear c16
                obtain ⟨y105, hy105⟩ : ∃ y_ : List Int, y_ = (x5_1 ++ [bt (⟨#[97, 98, 99, 100, 101, 102, 103, 104, 105, 106, 107, 108, 109, 110, 111, 112, 113, 114, 115, 116, 117, 118, 119, 120, 121, 122, 48, 49, 50, 51, 52, 53, 54, 55, 56, 57]⟩ : ByteArray) (ji12)]) := ⟨_, rfl⟩
                replace H : (puny_number.l0 k1 (wrap64 (Int.tdiv (wrap64 (x0_1 - t101)) (wrap64 (36 - t101)))) a1 y105 (wrap64 (x6_1 + 36))) = some r := by first | (rw [hy105]; with_reducible exact H) | (have H2_ := (Option.bind_some _ _).symm.trans H; rw [hy105]; with_reducible exact H2_) | (have H2_ := (Option.bind_some _ _).symm.trans H; with_reducible exact H2_) | with_reducible exact H | (rw [hy105]; exact H) | exact H
                have Ny105 := Aside0.mk hy105
                clear hy105
                have H' := Aside0.mk H
                clear H
                go_wp2_with (first | ((with_reducible refine gate_callee (f := 72) rfl ?_); refine goesL_ (some 12) rfl rfl Try.func72 (by kernel_rfl) rfl #[.int .i64 x6_1, .int .i64 a1] rfl (by (try simp only [List.map_toArray, List.map_cons, List.map_nil]); first | done | rfl | (simp only [List.length_drop, List.length_take]; rfl)) ?_; (with_reducible refine (puny_threshold.calls x6_1 a1 t101 _ A3.out).mono ?_); rintro e w17 ⟨rfl, hb⟩; refine ⟨_, rfl, ?_⟩; have n0_ := Aside0.mk (Kd.R_below (by (with_reducible repeat (first | apply Kd.R_alloc | apply Kd.R_drewN | apply Kd.R_drew)); exact HO_5.out) hb); have n1_ := Aside0.mk (below_step (by repeat (first | (with_reducible first | exact HB.out | apply below_alloc | apply pw_below_drewN | apply below_drew1) | exact HB.out)) hb); clear HO_5; clear HB; have HO_5 := n0_; have HB := n1_; clear n0_ n1_; (try clear hb); (try clear hb2); (try clear hk); (try clear hi); have p15 : 0 ≤ ((ji12) : Int) := of_decide_eq_true (by first | (with_reducible assumption) | assumption); have q15 : (ji12) < (36 : Int) := of_decide_eq_true (by first | (with_reducible assumption) | assumption); have hx15 := bt_at (⟨#[97, 98, 99, 100, 101, 102, 103, 104, 105, 106, 107, 108, 109, 110, 111, 112, 113, 114, 115, 116, 117, 118, 119, 120, 121, 122, 48, 49, 50, 51, 52, 53, 54, 55, 56, 57]⟩ : ByteArray) (ji12); replace p15 := eq_true p15; replace q15 := eq_true q15) | ((with_reducible refine gate_builtin (b := .append) (xs := #[.tmp 21, .tmp 31]) rfl ?_); at_builtin; refine Kd.R_append (Kd.int .u8) (w0 := w) w.heap.size rfl (.tmp 21) (.tmp 31) 22 5 (.int .u8 0) 1 rfl Try.underlying22 info5 rfl (by decide) (by omega) u5 x5_1 (bt (⟨#[97, 98, 99, 100, 101, 102, 103, 104, 105, 106, 107, 108, 109, 110, 111, 112, 113, 114, 115, 116, 117, 118, 119, 120, 121, 122, 48, 49, 50, 51, 52, 53, 54, 55, 56, 57]⟩ : ByteArray) (ji12)) [.int .u8 (bt (⟨#[97, 98, 99, 100, 101, 102, 103, 104, 105, 106, 107, 108, 109, 110, 111, 112, 113, 114, 115, 116, 117, 118, 119, 120, 121, 122, 48, 49, 50, 51, 52, 53, 54, 55, 56, 57]⟩ : ByteArray) (ji12))] (fun _ => True) (fun _ => False) rfl rfl ?aP (fun _ hk => hk.elim) ?aF ?aO ?aB ?aS ?aL ?_; (case aP => exact rfl); (case aB => exact (by repeat (first | (with_reducible first | exact HB.out | apply below_alloc | apply pw_below_drewN | apply below_drew1) | exact HB.out))); (case aF => exact (fun _ _ => trivial)); (case aO => exact (by (with_reducible repeat (first | apply Kd.R_alloc | apply Kd.R_drewN | apply Kd.R_drew)); exact HO_5.out)); (case aS => exact (below_size (by repeat (first | (with_reducible first | exact HB.out | apply below_alloc | apply pw_below_drewN | apply below_drew1) | exact HB.out)))); (case aL => have := LMc16.out; omega); intro v106 w18 ho hb hg hat; rw [← Ny105.out] at ho; have n0_ := Aside0.mk (hb); have n1_ := Aside0.mk (ho); clear HB; clear HO_5; have HB := n0_; have HO107 := n1_; clear n0_ n1_; clear ho hb hg hat))
                go_roundg k1
                case measure => have := HK1.out; omega
                case rel => exact ⟨(wrap64 (Int.tdiv (wrap64 (x0_1 - t101)) (wrap64 (36 - t101)))), (y105), (wrap64 (x6_1 + 36)), (by first | rfl | (simp; done) | (simp [*]; done)), (by first | rfl | (simp; done) | (simp [*]; done)), H', ⟨by have := HK1.out; omega⟩, ⟨by (with_reducible repeat (first | apply Kd.R_alloc | apply Kd.R_drewN | apply Kd.R_drew)); exact HO107.out⟩, ⟨by repeat (first | (with_reducible first | exact HB.out | apply below_alloc | apply pw_below_drewN | apply below_drew1) | exact HB.out)⟩⟩
              · rw [if_neg c16] at H
                exact absurd H (by simp)
            · rw [if_neg c14] at H
              exact absurd H (by simp)
          · rw [if_neg c13] at H
            exact absurd H (by simp)

end Go.Proofs.Ytooiajkbpkfplaa.Q

-- from Qf53
-- Made by hp.py, a program of this session, with the kit's printer. Not trusted: Lean checks it.
namespace Go.Proofs.Ytooiajkbpkfplaa.Q
open Go.RowKit Go.Proofs.YtooiajkbpkfplaaW.PrintWords Go.Proofs.YtooiajkbpkfplaaW.PrintLast Go.Proofs.YtooiajkbpkfplaaW.PrintMore
attribute [local go_sem] max2_int min2_int max_two min_two max_three min_three max_four min_four   -- for this text's walks alone
set_option linter.unusedVariables false
set_option linter.unusedSimpArgs false

/-! ### puny_adapt: function 53 -/
mutual
def puny_adapt.j0 : Nat → Int → Int → Option (Int)
  | 0, _, _ => none
  | k + 1, x0, x1 => if x1 = 0 then (none) else (puny_adapt.l0 k (wrap64 (x0 + (wrap64 (Int.tdiv x0 x1)))) 0)
def puny_adapt.l0 : Nat → Int → Int → Option (Int)
  | 0, _, _ => none
  | k + 1, x0, x7 => if x0 > 455 then (puny_adapt.l0 k (wrap64 (Int.tdiv x0 35)) (wrap64 (x7 + 36))) else (if (wrap64 (x0 + 38)) = 0 then (none) else (some (wrap64 (x7 + (wrap64 (Int.tdiv (wrap64 (36 * x0)) (wrap64 (x0 + 38))))))))
end
def puny_adapt.f (k : Nat) (a0 : Int) (a1 : Int) (a2 : Bool) : Option (Int) := if a2 = true then (puny_adapt.j0 k (wrap64 (Int.tdiv a0 700)) a1) else (puny_adapt.j0 k (wrap64 (Int.tdiv a0 2)) a1)
theorem puny_adapt.mono_l : ∀ k, (∀ y0 y1, LeO (puny_adapt.j0 k y0 y1) (puny_adapt.j0 (k + 1) y0 y1)) ∧ (∀ y0 y1, LeO (puny_adapt.l0 k y0 y1) (puny_adapt.l0 (k + 1) y0 y1))
  | 0 => ⟨fun _ _ r h => by simp [puny_adapt.j0] at h, fun _ _ r h => by simp [puny_adapt.l0] at h⟩
  | k + 1 => by
    obtain ⟨ih0, ih1⟩ := puny_adapt.mono_l k
    refine ⟨?_, ?_⟩
    · intro y0 y1
      unfold puny_adapt.j0
      repeat' first
      | (with_reducible exact ih0 _ _)
      | (with_reducible exact ih1 _ _)
      | (with_reducible exact LeO.refl _)
      | (with_reducible exact LeO.none _)
      | (with_reducible refine LeO.ite ?_ ?_)
      | (with_reducible refine LeO.bind ?_ (fun _ => ?_))
      | exact ih0 _ _
      | exact ih1 _ _
      | exact LeO.none _
      | refine LeO.ite ?_ ?_
      | refine LeO.bind ?_ (fun _ => ?_)
    · intro y0 y1
      unfold puny_adapt.l0
      repeat' first
      | (with_reducible exact ih0 _ _)
      | (with_reducible exact ih1 _ _)
      | (with_reducible exact LeO.refl _)
      | (with_reducible exact LeO.none _)
      | (with_reducible refine LeO.ite ?_ ?_)
      | (with_reducible refine LeO.bind ?_ (fun _ => ?_))
      | exact ih0 _ _
      | exact ih1 _ _
      | exact LeO.none _
      | refine LeO.ite ?_ ?_
      | refine LeO.bind ?_ (fun _ => ?_)
theorem puny_adapt.mono : ∀ a0 a1 a2 k, LeO (puny_adapt.f k a0 a1 a2) (puny_adapt.f (k + 1) a0 a1 a2) := by
  intro a0 a1 a2 k
  obtain ⟨ih0, ih1⟩ := puny_adapt.mono_l k
  unfold puny_adapt.f
  repeat' first
      | (with_reducible exact ih0 _ _)
      | (with_reducible exact ih1 _ _)
      | (with_reducible exact LeO.refl _)
      | (with_reducible exact LeO.none _)
      | (with_reducible refine LeO.ite ?_ ?_)
      | (with_reducible refine LeO.bind ?_ (fun _ => ?_))
      | exact ih0 _ _
      | exact ih1 _ _
      | exact LeO.none _
      | refine LeO.ite ?_ ?_
      | refine LeO.bind ?_ (fun _ => ?_)
set_option maxHeartbeats 8000000 in
set_option maxRecDepth 100000 in
theorem puny_adapt.calls (k : Nat) (a0 : Int) (a1 : Int) (a2 : Bool) (r : Int) (w : World) (h : puny_adapt.f k a0 a1 a2 = some r) :
    Calls Try.prog 53 #[.int .i64 a0, .int .i64 a1, .bool a2] w fun e w' => e = .returned (.int .i64 r) ∧ Drawn0 w w' := by
  have H : (if a2 = true then (puny_adapt.j0 k (wrap64 (Int.tdiv a0 700)) a1) else (puny_adapt.j0 k (wrap64 (Int.tdiv a0 2)) a1)) = some r := h
  clear h
  have HC4 := Aside0.mk H
  clear H
  go_enter Try.func53, Try.ntmps53
  go_upto_if 8 with (fail)
  go_cut [0] (fun v0 wc => ∃ (kq : Nat) (x0_3 : Int), v0 = .int .i64 x0_3 ∧ Aside0 (puny_adapt.j0 kq x0_3 a1 = some r) ∧ Aside0 (kq ≤ k) ∧ Drawn0 w wc)
  case first =>
    have H := HC4.out
    clear HC4
    by_cases c5 : a2 = true
    · subst c5
      have H1 : (puny_adapt.j0 k (wrap64 (Int.tdiv a0 700)) a1) = some r := by rw [if_pos rfl] at H; exact H
      clear H
      have H := H1
      clear H1
      have H' := Aside0.mk H
      clear H
      go_wp2
      go_meet
      case rel => exact ⟨_, (wrap64 (Int.tdiv a0 700)), (by first | rfl | (simp; done) | (simp [*]; done)), H', ⟨by first | omega | exact Nat.le_refl _⟩, by repeat (first | exact Drawn0.refl _ | apply Drawn0.step)⟩
    · replace c5 := Bool.eq_false_iff.mpr c5
      subst c5
      have H1 : (puny_adapt.j0 k (wrap64 (Int.tdiv a0 2)) a1) = some r := by rw [if_neg (show ¬ (false = true) by decide)] at H; exact H
      clear H
      have H := H1
      clear H1
      have H' := Aside0.mk H
      clear H
      go_wp2
      go_meet
      case rel => exact ⟨_, (wrap64 (Int.tdiv a0 2)), (by first | rfl | (simp; done) | (simp [*]; done)), H', ⟨by first | omega | exact Nat.le_refl _⟩, by repeat (first | exact Drawn0.refl _ | apply Drawn0.step)⟩
  case rest =>
    clear HC4
    try clear p2
    try clear c5
    obtain ⟨kq, x0_3, rfl, HA, HJ3, ⟨mc3, rfl⟩⟩ := hcut
    cases kq with
    | zero => exact absurd HA.out (by simp [puny_adapt.j0])
    | succ kj3 =>
      have H := HA.out
      clear HA
      simp only [puny_adapt.j0] at H
      by_cases c6 : a1 = 0
      · rw [if_pos c6] at H
        exact absurd H (by simp)
      · rw [if_neg c6] at H
        have c6b0 : (a1 == 0) = false := beq_eq_false_iff_ne.mpr c6
        have c6b1 : (a1 != 0) = true := bne_iff_ne.mpr c6
        have H' := Aside0.mk H
        clear H
        go_wp2
        go_loopg [0, 7] kj3 (fun kq v0 v7 w' => ∃ (x0_2 : Int) (x7_2 : Int), v0 = .int .i64 x0_2 ∧ v7 = .int .i64 x7_2 ∧ Aside0 (puny_adapt.l0 kq x0_2 x7_2 = some r) ∧ Aside0 (kq ≤ kj3) ∧ Drawn0 w w')
        case atStart => exact ⟨(wrap64 (x0_3 + (wrap64 (Int.tdiv x0_3 a1)))), (0), (by first | rfl | (simp; done) | (simp [*]; done)), (by first | rfl | (simp; done) | (simp [*]; done)), H', ⟨Nat.le_refl _⟩, by repeat (first | exact Drawn0.refl _ | apply Drawn0.step)⟩
        case round =>
          clear H'
          try clear p2
          try clear c3
          try clear c5
          try clear c6
          try clear c6b0
          try clear c6b1
          try clear p6
          try clear p2
          obtain ⟨x0_2, x7_2, rfl, rfl, HA, HK2, ⟨m2, rfl⟩⟩ := hrel
          cases gk with
          | zero => exact absurd HA.out (by simp [puny_adapt.l0])
          | succ k2 =>
            have H := HA.out
            clear HA
            simp only [puny_adapt.l0] at H
            by_cases c7 : x0_2 > 455
            · rw [if_pos c7] at H
              have c7b0 : decide (455 < x0_2) = true := decide_eq_true c7
              clear c7
              have H' := Aside0.mk H
              clear H
              go_wp2
              go_roundg k2
              case measure => have := HJ3.out; have := HK2.out; omega
              case rel => exact ⟨(wrap64 (Int.tdiv x0_2 35)), (wrap64 (x7_2 + 36)), (by first | rfl | (simp; done) | (simp [*]; done)), (by first | rfl | (simp; done) | (simp [*]; done)), H', ⟨by have := HJ3.out; have := HK2.out; omega⟩, by repeat (first | exact Drawn0.refl _ | apply Drawn0.step)⟩
            · rw [if_neg c7] at H
              have c7b0 : decide (455 < x0_2) = false := decide_eq_false c7
              clear c7
              by_cases c8 : (wrap64 (x0_2 + 38)) = 0
              · rw [if_pos c8] at H
                exact absurd H (by simp)
              · rw [if_neg c8] at H
                have c8b0 : ((wrap64 (x0_2 + 38)) == 0) = false := beq_eq_false_iff_ne.mpr c8
                have c8b1 : ((wrap64 (x0_2 + 38)) != 0) = true := bne_iff_ne.mpr c8
                obtain rfl := Option.some.inj H
                go_wp2
                go_ret
                exact ⟨by first | rfl | (simp; done) | (simp [*]; done), by repeat (first | exact Drawn0.refl _ | apply Drawn0.step)⟩

end Go.Proofs.Ytooiajkbpkfplaa.Q

-- from Qf50
-- Made by hp.py, a program of this session, with the kit's printer. Not trusted: Lean checks it.
namespace Go.Proofs.Ytooiajkbpkfplaa.Q
open Go.RowKit Go.Proofs.YtooiajkbpkfplaaW.PrintWords Go.Proofs.YtooiajkbpkfplaaW.PrintLast Go.Proofs.YtooiajkbpkfplaaW.PrintMore
attribute [local go_sem] max2_int min2_int max_two min_two max_three min_three max_four min_four   -- for this text's walks alone
set_option linter.unusedVariables false
set_option linter.unusedSimpArgs false

/-! ### puny_Encode_1: function 50 -/
def puny_Encode_1.f (a0 : Int) : Option (Bool) := (utf_Scalar.f a0).bind fun t101 => (some (!t101))
set_option maxHeartbeats 8000000 in
set_option maxRecDepth 100000 in
theorem puny_Encode_1.calls (a0 : Int) (r : Bool) (w : World) (h : puny_Encode_1.f a0 = some r) :
    Calls Try.prog 50 #[.int .i64 a0] w fun e w' => e = .returned (.bool r) ∧ Drawn0 w w' := by
  have H : ((utf_Scalar.f a0).bind fun t101 => (some (!t101))) = some r := h
  clear h
  replace H := Option.bind_eq_some_iff.mp H
  obtain ⟨t101, A20, H⟩ := H
  replace H : (some (!t101)) = some r := H
  have A2 := Aside0.mk A20
  clear A20
  obtain rfl := Option.some.inj H
  go_enter Try.func50, Try.ntmps50
  go_wp2_with (first | ((with_reducible refine gate_callee (f := 39) rfl ?_); refine goesL_ (some 4) rfl rfl Try.func39 (by kernel_rfl) rfl #[.int .i64 a0] rfl (by (try simp only [List.map_toArray, List.map_cons, List.map_nil]); first | done | rfl | (simp only [List.length_drop, List.length_take]; rfl)) ?_; (with_reducible refine (utf_Scalar.calls a0 t101 _ A2.out).mono ?_); rintro e w' ⟨rfl, ⟨nd, rfl⟩⟩; refine ⟨_, rfl, ?_⟩))
  go_ret
  exact ⟨by first | rfl | (simp; done) | (simp [*]; done), by repeat (first | exact Drawn0.refl _ | apply Drawn0.step)⟩

end Go.Proofs.Ytooiajkbpkfplaa.Q

-- from Qf71at50
-- Made by hp.py, a program of this session, with the kit's printer. Not trusted: Lean checks it.
namespace Go.Proofs.Ytooiajkbpkfplaa.Q
open Go.RowKit Go.Proofs.YtooiajkbpkfplaaW.PrintWords Go.Proofs.YtooiajkbpkfplaaW.PrintLast Go.Proofs.YtooiajkbpkfplaaW.PrintMore
attribute [local go_sem] max2_int min2_int max_two min_two max_three min_three max_four min_four   -- for this text's walks alone
set_option linter.unusedVariables false
set_option linter.unusedSimpArgs false

/-! ### slices_IndexFunc_int_int_at_puny_Encode_1: function 71 -/
def slices_IndexFunc_int_int_at_puny_Encode_1.l0 : Nat → List Int → Int → Int → Option (Int)
  | 0, _, _, _ => none
  | k + 1, x0, x7, x8 => if x8 < x7 then (if 0 ≤ x8 then (if x8 < (x0.length : Int) then ((puny_Encode_1.f (rd x0 x8)).bind fun t102 => (if t102 = true then (some x8) else (slices_IndexFunc_int_int_at_puny_Encode_1.l0 k x0 x7 (wrap64 (x8 + 1))))) else (none)) else (none)) else (some (-1))
def slices_IndexFunc_int_int_at_puny_Encode_1.f (k : Nat) (l0 : List Int)  : Option (Int) := slices_IndexFunc_int_int_at_puny_Encode_1.l0 k l0 (l0.length : Int) 0
theorem slices_IndexFunc_int_int_at_puny_Encode_1.mono_l : ∀ k, (∀ y0 y1 y2, LeO (slices_IndexFunc_int_int_at_puny_Encode_1.l0 k y0 y1 y2) (slices_IndexFunc_int_int_at_puny_Encode_1.l0 (k + 1) y0 y1 y2))
  | 0 => fun _ _ _ r h => by simp [slices_IndexFunc_int_int_at_puny_Encode_1.l0] at h
  | k + 1 => by
    have ih0 := slices_IndexFunc_int_int_at_puny_Encode_1.mono_l k
    · intro y0 y1 y2
      unfold slices_IndexFunc_int_int_at_puny_Encode_1.l0
      repeat' first
      | (with_reducible exact ih0 _ _ _)
      | (with_reducible exact LeO.refl _)
      | (with_reducible exact LeO.none _)
      | (with_reducible refine LeO.ite ?_ ?_)
      | (with_reducible refine LeO.bind ?_ (fun _ => ?_))
      | exact ih0 _ _ _
      | exact LeO.none _
      | refine LeO.ite ?_ ?_
      | refine LeO.bind ?_ (fun _ => ?_)
theorem slices_IndexFunc_int_int_at_puny_Encode_1.mono : ∀ a0 k, LeO (slices_IndexFunc_int_int_at_puny_Encode_1.f k a0) (slices_IndexFunc_int_int_at_puny_Encode_1.f (k + 1) a0) := by
  intro a0 k
  have ih0 := slices_IndexFunc_int_int_at_puny_Encode_1.mono_l k
  unfold slices_IndexFunc_int_int_at_puny_Encode_1.f
  repeat' first
      | (with_reducible exact ih0 _ _ _)
      | (with_reducible exact LeO.refl _)
      | (with_reducible exact LeO.none _)
      | (with_reducible refine LeO.ite ?_ ?_)
      | (with_reducible refine LeO.bind ?_ (fun _ => ?_))
      | exact ih0 _ _ _
      | exact LeO.none _
      | refine LeO.ite ?_ ?_
      | refine LeO.bind ?_ (fun _ => ?_)
set_option maxHeartbeats 8000000 in
set_option maxRecDepth 100000 in
theorem slices_IndexFunc_int_int_at_puny_Encode_1.calls (k : Nat) (A0 : Option Addr) (c0 : Nat) (l0 : List Int)  (r : Int) (w : World) (hr0 : Kd.C (Kd.int .i64) w A0 l0.length l0) (hc0 : l0.length ≤ c0) (h : slices_IndexFunc_int_int_at_puny_Encode_1.f k l0 = some r) :
    Calls Try.prog 71 #[.slice A0 l0.length c0, .func (.func 50) #[] #[]] w fun e w' => e = .returned (.int .i64 r) ∧ Drawn0 w w' := by
  have HR0 := Aside0.mk hr0
  have HC0 := Aside0.mk hc0
  clear hr0 hc0
  have H : (slices_IndexFunc_int_int_at_puny_Encode_1.l0 k l0 (l0.length : Int) 0) = some r := h
  clear h
  have H' := Aside0.mk H
  clear H
  go_enter Try.func71, Try.ntmps71
  go_wp2
  go_loopg [8] k (fun kq v8 w' => ∃ (x8_1 : Int), v8 = .int .i64 x8_1 ∧ Aside0 (slices_IndexFunc_int_int_at_puny_Encode_1.l0 kq l0 (l0.length : Int) x8_1 = some r) ∧ Aside0 (kq ≤ k) ∧ Drawn0 w w')
  case atStart => exact ⟨(0), (by first | rfl | (simp; done) | (simp [*]; done)), H', ⟨Nat.le_refl _⟩, by repeat (first | exact Drawn0.refl _ | apply Drawn0.step)⟩
  case round =>
    clear H'
    try clear p2
    obtain ⟨x8_1, rfl, HA, HK1, ⟨m1, rfl⟩⟩ := hrel
    cases gk with
    | zero => exact absurd HA.out (by simp [slices_IndexFunc_int_int_at_puny_Encode_1.l0])
    | succ k1 =>
      have H := HA.out
      clear HA
      simp only [slices_IndexFunc_int_int_at_puny_Encode_1.l0] at H
      by_cases c3 : x8_1 < (l0.length : Int)
      · rw [if_pos c3] at H
        have c3b0 : decide (x8_1 < (l0.length : Int)) = true := decide_eq_true c3
        clear c3
        by_cases c4 : 0 ≤ x8_1
        · rw [if_pos c4] at H
          have c4b0 : decide (0 ≤ x8_1) = true := decide_eq_true c4
          clear c4
          by_cases c5 : x8_1 < (l0.length : Int)
          · rw [if_pos c5] at H
            have c5b0 : decide (x8_1 < (l0.length : Int)) = true := decide_eq_true c5
            clear c5
            replace H := Option.bind_eq_some_iff.mp H
            obtain ⟨t102, A60, H⟩ := H
            replace H : (if t102 = true then (some x8_1) else (slices_IndexFunc_int_int_at_puny_Encode_1.l0 k1 l0 (l0.length : Int) (wrap64 (x8_1 + 1)))) = some r := H
            have A6 := Aside0.mk A60
            clear A60
            by_cases c7 : t102 = true
            · subst c7
              have H1 : (some x8_1) = some r := by rw [if_pos rfl] at H; exact H
              clear H
              have H := H1
              clear H1
              obtain rfl := Option.some.inj H
              have p101 : 0 ≤ (x8_1 : Int) := of_decide_eq_true (by first | (with_reducible assumption) | assumption)
              have q101 : x8_1 < (l0.length : Int) := of_decide_eq_true (by first | (with_reducible assumption) | assumption)
              obtain ⟨ad101, e101, hx101_0⟩ := Kd.at_int HR0.out x8_1 p101 q101
              cases e101
              replace p101 := eq_true p101
              replace q101 := eq_true q101
              go_wp2_with (first | (go_at_call 50; (with_reducible refine (puny_Encode_1.calls (rd l0 x8_1) true _ A6.out).mono ?_); rintro e w' ⟨rfl, ⟨nd, rfl⟩⟩))
              go_ret
              exact ⟨by first | rfl | (simp; done) | (simp [*]; done), by repeat (first | exact Drawn0.refl _ | apply Drawn0.step)⟩
            · replace c7 := Bool.eq_false_iff.mpr c7
              subst c7
              have H1 : (slices_IndexFunc_int_int_at_puny_Encode_1.l0 k1 l0 (l0.length : Int) (wrap64 (x8_1 + 1))) = some r := by rw [if_neg (show ¬ (false = true) by decide)] at H; exact H
              clear H
              have H := H1
              clear H1
              have H' := Aside0.mk H
              clear H
              have p101 : 0 ≤ (x8_1 : Int) := of_decide_eq_true (by first | (with_reducible assumption) | assumption)
              have q101 : x8_1 < (l0.length : Int) := of_decide_eq_true (by first | (with_reducible assumption) | assumption)
              obtain ⟨ad101, e101, hx101_0⟩ := Kd.at_int HR0.out x8_1 p101 q101
              cases e101
              replace p101 := eq_true p101
              replace q101 := eq_true q101
              go_wp2_with (first | (go_at_call 50; (with_reducible refine (puny_Encode_1.calls (rd l0 x8_1) false _ A6.out).mono ?_); rintro e w' ⟨rfl, ⟨nd, rfl⟩⟩))
              go_roundg k1
              case measure => have := HK1.out; omega
              case rel => exact ⟨(wrap64 (x8_1 + 1)), (by first | rfl | (simp; done) | (simp [*]; done)), H', ⟨by have := HK1.out; omega⟩, by repeat (first | exact Drawn0.refl _ | apply Drawn0.step)⟩
          · rw [if_neg c5] at H
            exact absurd H (by simp)
        · rw [if_neg c4] at H
          exact absurd H (by simp)
      · rw [if_neg c3] at H
        have c3b0 : decide (x8_1 < (l0.length : Int)) = false := decide_eq_false c3
        clear c3
        obtain rfl := Option.some.inj H
        go_wp2
        go_ret
        exact ⟨by first | rfl | (simp; done) | (simp [*]; done), by repeat (first | exact Drawn0.refl _ | apply Drawn0.step)⟩

end Go.Proofs.Ytooiajkbpkfplaa.Q

-- from Qf49at50
-- Made by hp.py, a program of this session, with the kit's printer. Not trusted: Lean checks it.
namespace Go.Proofs.Ytooiajkbpkfplaa.Q
open Go.RowKit Go.Proofs.YtooiajkbpkfplaaW.PrintWords Go.Proofs.YtooiajkbpkfplaaW.PrintLast Go.Proofs.YtooiajkbpkfplaaW.PrintMore
attribute [local go_sem] max2_int min2_int max_two min_two max_three min_three max_four min_four   -- for this text's walks alone
set_option linter.unusedVariables false
set_option linter.unusedSimpArgs false

/-! ### slices_ContainsFunc_int_int_at_puny_Encode_1: function 49 -/
def slices_ContainsFunc_int_int_at_puny_Encode_1.f (k : Nat) (l0 : List Int)  : Option (Bool) := (slices_IndexFunc_int_int_at_puny_Encode_1.f k l0).bind fun t103 => (some (decide (t103 ≥ 0)))
theorem slices_ContainsFunc_int_int_at_puny_Encode_1.mono : ∀ a0 k, LeO (slices_ContainsFunc_int_int_at_puny_Encode_1.f k a0) (slices_ContainsFunc_int_int_at_puny_Encode_1.f (k + 1) a0) := by
  intro a0 k
  unfold slices_ContainsFunc_int_int_at_puny_Encode_1.f
  repeat' first
      | (with_reducible exact slices_IndexFunc_int_int_at_puny_Encode_1.mono _ _)
      | (with_reducible exact LeO.refl _)
      | (with_reducible exact LeO.none _)
      | (with_reducible refine LeO.ite ?_ ?_)
      | (with_reducible refine LeO.bind ?_ (fun _ => ?_))
      | exact slices_IndexFunc_int_int_at_puny_Encode_1.mono _ _
      | exact LeO.none _
      | refine LeO.ite ?_ ?_
      | refine LeO.bind ?_ (fun _ => ?_)
set_option maxHeartbeats 8000000 in
set_option maxRecDepth 100000 in
theorem slices_ContainsFunc_int_int_at_puny_Encode_1.calls (k : Nat) (A0 : Option Addr) (c0 : Nat) (l0 : List Int)  (r : Bool) (w : World) (hr0 : Kd.C (Kd.int .i64) w A0 l0.length l0) (hc0 : l0.length ≤ c0) (h : slices_ContainsFunc_int_int_at_puny_Encode_1.f k l0 = some r) :
    Calls Try.prog 49 #[.slice A0 l0.length c0, .func (.func 50) #[] #[]] w fun e w' => e = .returned (.bool r) ∧ Drawn0 w w' := by
  have HR0 := Aside0.mk hr0
  have HC0 := Aside0.mk hc0
  clear hr0 hc0
  have H : ((slices_IndexFunc_int_int_at_puny_Encode_1.f k l0).bind fun t103 => (some (decide (t103 ≥ 0)))) = some r := h
  clear h
  replace H := Option.bind_eq_some_iff.mp H
  obtain ⟨t103, A30, H⟩ := H
  replace H : (some (decide (t103 ≥ 0))) = some r := H
  have A3 := Aside0.mk A30
  clear A30
  obtain rfl := Option.some.inj H
  go_enter Try.func49, Try.ntmps49
  go_wp2_with (first | (go_at_call 71; (with_reducible refine (slices_IndexFunc_int_int_at_puny_Encode_1.calls k _ _ l0 t103 _ ?side1 ?side2 A3.out).mono ?_); (case side1 => repeat (first | exact HR0.out | (with_reducible refine Kd.C_alloc ?_ _) | (with_reducible refine Kd.C_drewN ?_ _) | (with_reducible refine Kd.C_drew ?_))); (case side2 => exact HC0.out); rintro e w' ⟨rfl, ⟨nd, rfl⟩⟩))
  go_ret
  exact ⟨by first | rfl | (simp; done) | (simp [*]; done), by repeat (first | exact Drawn0.refl _ | apply Drawn0.step)⟩

end Go.Proofs.Ytooiajkbpkfplaa.Q

-- from Qf26
-- Made by hp.py, a program of this session, with the kit's printer. Not trusted: Lean checks it.
namespace Go.Proofs.Ytooiajkbpkfplaa.Q
open Go.RowKit Go.Proofs.YtooiajkbpkfplaaW.PrintWords Go.Proofs.YtooiajkbpkfplaaW.PrintLast Go.Proofs.YtooiajkbpkfplaaW.PrintMore
attribute [local go_sem] max2_int min2_int max_two min_two max_three min_three max_four min_four   -- for this text's walks alone
set_option linter.unusedVariables false
set_option linter.unusedSimpArgs false

/-! ### puny_Encode: function 26 -/
mutual
def puny_Encode.l0 : Nat → List Int → List Int → List Int → Int → Int → Option (List Int × Int)
  | 0, _, _, _, _, _ => none
  | k + 1, x0, x4, x22, x23, x24 => if x24 < x23 then (if 0 ≤ x24 then (if x24 < (x22.length : Int) then (if (rd x22 x24) < 128 then (if x4.length < 140737488355328 then (puny_Encode.l0 k x0 (x4 ++ [(rd x22 x24) % 256]) x22 x23 (wrap64 (x24 + 1))) else (none)) else (puny_Encode.l0 k x0 x4 x22 x23 (wrap64 (x24 + 1)))) else (none)) else (none)) else (if (x4.length : Int) > 0 then (if x4.length < 140737488355328 then (puny_Encode.j1 k x0 (x4 ++ [45]) (x4.length : Int)) else (none)) else (puny_Encode.j1 k x0 x4 (x4.length : Int)))
def puny_Encode.j1 : Nat → List Int → List Int → Int → Option (List Int × Int)
  | 0, _, _, _ => none
  | k + 1, x0, x4, x7 => puny_Encode.l1 k x0 x4 x7 128 72 0 x7
def puny_Encode.l1 : Nat → List Int → List Int → Int → Int → Int → Int → Int → Option (List Int × Int)
  | 0, _, _, _, _, _, _, _ => none
  | k + 1, x0, x4, x7, x8, x9, x10, x11 => if x11 < (x0.length : Int) then ((puny_least.f k x0 x8).bind fun t112 => (puny_Encode.l2 k x0 x4 x7 t112 x9 (wrap64 (x10 + (wrap64 ((wrap64 (t112 - x8)) * (wrap64 (x11 + 1)))))) x11 x0 (x0.length : Int) 0)) else (some (x4, 0))
def puny_Encode.l2 : Nat → List Int → List Int → Int → Int → Int → Int → Int → List Int → Int → Int → Option (List Int × Int)
  | 0, _, _, _, _, _, _, _, _, _, _ => none
  | k + 1, x0, x4, x7, x8, x9, x10, x11, x60, x61, x62 => if x62 < x61 then (if 0 ≤ x62 then (if x62 < (x60.length : Int) then (if (rd x60 x62) < x8 then (puny_Encode.l2 k x0 x4 x7 x8 x9 (wrap64 (x10 + 1)) x11 x60 x61 (wrap64 (x62 + 1))) else (if (rd x60 x62) = x8 then ((puny_number.f k x10 x9).bind fun t114 => (if x4.length + t114.length < 140737488355328 then ((puny_adapt.f k x10 (wrap64 (x11 + 1)) (x11 == x7)).bind fun t120 => (puny_Encode.l2 k x0 (x4 ++ t114) x7 x8 t120 0 (wrap64 (x11 + 1)) x60 x61 (wrap64 (x62 + 1)))) else (none))) else (puny_Encode.l2 k x0 x4 x7 x8 x9 x10 x11 x60 x61 (wrap64 (x62 + 1))))) else (none)) else (none)) else (puny_Encode.l1 k x0 x4 x7 (wrap64 (x8 + 1)) x9 (wrap64 (x10 + 1)) x11)
end
def puny_Encode.f (k : Nat) (l0 : List Int) : Option (List Int × Int) := (slices_ContainsFunc_int_int_at_puny_Encode_1.f k l0).bind fun t104 => (if t104 = true then (some (([] : List Int), 10)) else (if (l0.length : Int) > 1000 then (some (([] : List Int), 36)) else (puny_Encode.l0 k l0 ([] : List Int) l0 (l0.length : Int) 0)))
theorem puny_Encode.mono_l : ∀ k, (∀ y0 y1 y2 y3 y4, LeO (puny_Encode.l0 k y0 y1 y2 y3 y4) (puny_Encode.l0 (k + 1) y0 y1 y2 y3 y4)) ∧ (∀ y0 y1 y2, LeO (puny_Encode.j1 k y0 y1 y2) (puny_Encode.j1 (k + 1) y0 y1 y2)) ∧ (∀ y0 y1 y2 y3 y4 y5 y6, LeO (puny_Encode.l1 k y0 y1 y2 y3 y4 y5 y6) (puny_Encode.l1 (k + 1) y0 y1 y2 y3 y4 y5 y6)) ∧ (∀ y0 y1 y2 y3 y4 y5 y6 y7 y8 y9, LeO (puny_Encode.l2 k y0 y1 y2 y3 y4 y5 y6 y7 y8 y9) (puny_Encode.l2 (k + 1) y0 y1 y2 y3 y4 y5 y6 y7 y8 y9))
  | 0 => ⟨fun _ _ _ _ _ r h => by simp [puny_Encode.l0] at h, fun _ _ _ r h => by simp [puny_Encode.j1] at h, fun _ _ _ _ _ _ _ r h => by simp [puny_Encode.l1] at h, fun _ _ _ _ _ _ _ _ _ _ r h => by simp [puny_Encode.l2] at h⟩
  | k + 1 => by
    obtain ⟨ih0, ih1, ih2, ih3⟩ := puny_Encode.mono_l k
    refine ⟨?_, ?_, ?_, ?_⟩
    · intro y0 y1 y2 y3 y4
      unfold puny_Encode.l0
      repeat' first
      | (with_reducible exact ih0 _ _ _ _ _)
      | (with_reducible exact ih1 _ _ _)
      | (with_reducible exact ih2 _ _ _ _ _ _ _)
      | (with_reducible exact ih3 _ _ _ _ _ _ _ _ _ _)
      | (with_reducible exact puny_adapt.mono _ _ _ _)
      | (with_reducible exact puny_least.mono _ _ _)
      | (with_reducible exact puny_number.mono _ _ _)
      | (with_reducible exact slices_ContainsFunc_int_int_at_puny_Encode_1.mono _ _)
      | (with_reducible exact LeO.refl _)
      | (with_reducible exact LeO.none _)
      | (with_reducible refine LeO.ite ?_ ?_)
      | (with_reducible refine LeO.bind ?_ (fun _ => ?_))
      | exact ih0 _ _ _ _ _
      | exact ih1 _ _ _
      | exact ih2 _ _ _ _ _ _ _
      | exact ih3 _ _ _ _ _ _ _ _ _ _
      | exact puny_adapt.mono _ _ _ _
      | exact puny_least.mono _ _ _
      | exact puny_number.mono _ _ _
      | exact slices_ContainsFunc_int_int_at_puny_Encode_1.mono _ _
      | exact LeO.none _
      | refine LeO.ite ?_ ?_
      | refine LeO.bind ?_ (fun _ => ?_)
    · intro y0 y1 y2
      unfold puny_Encode.j1
      repeat' first
      | (with_reducible exact ih0 _ _ _ _ _)
      | (with_reducible exact ih1 _ _ _)
      | (with_reducible exact ih2 _ _ _ _ _ _ _)
      | (with_reducible exact ih3 _ _ _ _ _ _ _ _ _ _)
      | (with_reducible exact puny_adapt.mono _ _ _ _)
      | (with_reducible exact puny_least.mono _ _ _)
      | (with_reducible exact puny_number.mono _ _ _)
      | (with_reducible exact slices_ContainsFunc_int_int_at_puny_Encode_1.mono _ _)
      | (with_reducible exact LeO.refl _)
      | (with_reducible exact LeO.none _)
      | (with_reducible refine LeO.ite ?_ ?_)
      | (with_reducible refine LeO.bind ?_ (fun _ => ?_))
      | exact ih0 _ _ _ _ _
      | exact ih1 _ _ _
      | exact ih2 _ _ _ _ _ _ _
      | exact ih3 _ _ _ _ _ _ _ _ _ _
      | exact puny_adapt.mono _ _ _ _
      | exact puny_least.mono _ _ _
      | exact puny_number.mono _ _ _
      | exact slices_ContainsFunc_int_int_at_puny_Encode_1.mono _ _
      | exact LeO.none _
      | refine LeO.ite ?_ ?_
      | refine LeO.bind ?_ (fun _ => ?_)
    · intro y0 y1 y2 y3 y4 y5 y6
      unfold puny_Encode.l1
      repeat' first
      | (with_reducible exact ih0 _ _ _ _ _)
      | (with_reducible exact ih1 _ _ _)
      | (with_reducible exact ih2 _ _ _ _ _ _ _)
      | (with_reducible exact ih3 _ _ _ _ _ _ _ _ _ _)
      | (with_reducible exact puny_adapt.mono _ _ _ _)
      | (with_reducible exact puny_least.mono _ _ _)
      | (with_reducible exact puny_number.mono _ _ _)
      | (with_reducible exact slices_ContainsFunc_int_int_at_puny_Encode_1.mono _ _)
      | (with_reducible exact LeO.refl _)
      | (with_reducible exact LeO.none _)
      | (with_reducible refine LeO.ite ?_ ?_)
      | (with_reducible refine LeO.bind ?_ (fun _ => ?_))
      | exact ih0 _ _ _ _ _
      | exact ih1 _ _ _
      | exact ih2 _ _ _ _ _ _ _
      | exact ih3 _ _ _ _ _ _ _ _ _ _
      | exact puny_adapt.mono _ _ _ _
      | exact puny_least.mono _ _ _
      | exact puny_number.mono _ _ _
      | exact slices_ContainsFunc_int_int_at_puny_Encode_1.mono _ _
      | exact LeO.none _
      | refine LeO.ite ?_ ?_
      | refine LeO.bind ?_ (fun _ => ?_)
    · intro y0 y1 y2 y3 y4 y5 y6 y7 y8 y9
      unfold puny_Encode.l2
      repeat' first
      | (with_reducible exact ih0 _ _ _ _ _)
      | (with_reducible exact ih1 _ _ _)
      | (with_reducible exact ih2 _ _ _ _ _ _ _)
      | (with_reducible exact ih3 _ _ _ _ _ _ _ _ _ _)
      | (with_reducible exact puny_adapt.mono _ _ _ _)
      | (with_reducible exact puny_least.mono _ _ _)
      | (with_reducible exact puny_number.mono _ _ _)
      | (with_reducible exact slices_ContainsFunc_int_int_at_puny_Encode_1.mono _ _)
      | (with_reducible exact LeO.refl _)
      | (with_reducible exact LeO.none _)
      | (with_reducible refine LeO.ite ?_ ?_)
      | (with_reducible refine LeO.bind ?_ (fun _ => ?_))
      | exact ih0 _ _ _ _ _
      | exact ih1 _ _ _
      | exact ih2 _ _ _ _ _ _ _
      | exact ih3 _ _ _ _ _ _ _ _ _ _
      | exact puny_adapt.mono _ _ _ _
      | exact puny_least.mono _ _ _
      | exact puny_number.mono _ _ _
      | exact slices_ContainsFunc_int_int_at_puny_Encode_1.mono _ _
      | exact LeO.none _
      | refine LeO.ite ?_ ?_
      | refine LeO.bind ?_ (fun _ => ?_)
theorem puny_Encode.mono : ∀ a0 k, LeO (puny_Encode.f k a0) (puny_Encode.f (k + 1) a0) := by
  intro a0 k
  obtain ⟨ih0, ih1, ih2, ih3⟩ := puny_Encode.mono_l k
  unfold puny_Encode.f
  repeat' first
      | (with_reducible exact ih0 _ _ _ _ _)
      | (with_reducible exact ih1 _ _ _)
      | (with_reducible exact ih2 _ _ _ _ _ _ _)
      | (with_reducible exact ih3 _ _ _ _ _ _ _ _ _ _)
      | (with_reducible exact puny_adapt.mono _ _ _ _)
      | (with_reducible exact puny_least.mono _ _ _)
      | (with_reducible exact puny_number.mono _ _ _)
      | (with_reducible exact slices_ContainsFunc_int_int_at_puny_Encode_1.mono _ _)
      | (with_reducible exact LeO.refl _)
      | (with_reducible exact LeO.none _)
      | (with_reducible refine LeO.ite ?_ ?_)
      | (with_reducible refine LeO.bind ?_ (fun _ => ?_))
      | exact ih0 _ _ _ _ _
      | exact ih1 _ _ _
      | exact ih2 _ _ _ _ _ _ _
      | exact ih3 _ _ _ _ _ _ _ _ _ _
      | exact puny_adapt.mono _ _ _ _
      | exact puny_least.mono _ _ _
      | exact puny_number.mono _ _ _
      | exact slices_ContainsFunc_int_int_at_puny_Encode_1.mono _ _
      | exact LeO.none _
      | refine LeO.ite ?_ ?_
      | refine LeO.bind ?_ (fun _ => ?_)
set_option maxHeartbeats 8000000 in
set_option maxRecDepth 100000 in
theorem puny_Encode.calls (k : Nat) (A0 : Option Addr) (c0 : Nat) (l0 : List Int) (r1 : List Int) (r2 : Int) (w : World) (hr0 : Kd.C (Kd.int .i64) w A0 l0.length l0) (hc0 : l0.length ≤ c0) (h : puny_Encode.f k l0 = some (r1, r2)) :
    Calls Try.prog 26 #[.slice A0 l0.length c0] w fun e w' => ∃ v0_ : Value, e = .returned (.tuple #[v0_, .int .i64 r2]) ∧ Kd.R (Kd.int .u8) 5 w' w.heap.size (fun _ => True) v0_ r1 ∧ Below w.heap.size w w' := by
  have HR0 := Aside0.mk hr0
  have HC0 := Aside0.mk hc0
  clear hr0 hc0
  have HB := Aside0.mk (Below.refl w.heap.size w)
  have H : ((slices_ContainsFunc_int_int_at_puny_Encode_1.f k l0).bind fun t104 => (if t104 = true then (some (([] : List Int), 10)) else (if (l0.length : Int) > 1000 then (some (([] : List Int), 36)) else (puny_Encode.l0 k l0 ([] : List Int) l0 (l0.length : Int) 0)))) = some (r1, r2) := h
  clear h
  replace H := Option.bind_eq_some_iff.mp H
  obtain ⟨t104, A20, H⟩ := H
  replace H : (if t104 = true then (some (([] : List Int), 10)) else (if (l0.length : Int) > 1000 then (some (([] : List Int), 36)) else (puny_Encode.l0 k l0 ([] : List Int) l0 (l0.length : Int) 0))) = some (r1, r2) := H
  have A2 := Aside0.mk A20
  clear A20
  by_cases c3 : t104 = true
  · subst c3
    have H1 : (some (([] : List Int), 10)) = some (r1, r2) := by rw [if_pos rfl] at H; exact H
    clear H
    have H := H1
    clear H1
    simp only [Option.some.injEq, Prod.mk.injEq] at H
    obtain ⟨rfl, rfl⟩ := H
    go_enter Try.func26, Try.ntmps26
    go_wp2_with (first | (go_at_call 49; (with_reducible refine (slices_ContainsFunc_int_int_at_puny_Encode_1.calls k _ _ l0 true _ ?side1 ?side2 A2.out).mono ?_); (case side1 => repeat (first | exact HR0.out | (with_reducible refine Kd.C_alloc ?_ _) | (with_reducible refine Kd.C_drewN ?_ _) | (with_reducible refine Kd.C_drew ?_))); (case side2 => exact HC0.out); rintro e w' ⟨rfl, ⟨nd, rfl⟩⟩))
    go_ret2
    exact ⟨_, by first | rfl | (simp [errW_none, errW_some] <;> rfl) | (simp [*, errW_none, errW_some] <;> rfl), by first | exact Kd.R_nil _ _ _ _ _ | exact Kd.N_nil _ _ _ _ _ | exact Kd.V_nil _ _ _ _ _ | exact Kd.Q_nil _ _ _ _ _ | exact Kd.S_nil _ _ _ _ _, by repeat (first | (with_reducible first | exact HB.out | apply below_alloc | apply pw_below_drewN | apply below_drew1) | exact HB.out)⟩
  · replace c3 := Bool.eq_false_iff.mpr c3
    subst c3
    have H1 : (if (l0.length : Int) > 1000 then (some (([] : List Int), 36)) else (puny_Encode.l0 k l0 ([] : List Int) l0 (l0.length : Int) 0)) = some (r1, r2) := by rw [if_neg (show ¬ (false = true) by decide)] at H; exact H
    clear H
    have H := H1
    clear H1
    by_cases c4 : (l0.length : Int) > 1000
    · rw [if_pos c4] at H
      have c4b0 : decide (1000 < (l0.length : Int)) = true := decide_eq_true c4
      have c4b1 : decide (1000 < l0.length) = true := decide_eq_true (by omega)
      clear c4
      simp only [Option.some.injEq, Prod.mk.injEq] at H
      obtain ⟨rfl, rfl⟩ := H
      go_enter Try.func26, Try.ntmps26
      go_wp2_with (first | (go_at_call 49; (with_reducible refine (slices_ContainsFunc_int_int_at_puny_Encode_1.calls k _ _ l0 false _ ?side1 ?side2 A2.out).mono ?_); (case side1 => repeat (first | exact HR0.out | (with_reducible refine Kd.C_alloc ?_ _) | (with_reducible refine Kd.C_drewN ?_ _) | (with_reducible refine Kd.C_drew ?_))); (case side2 => exact HC0.out); rintro e w' ⟨rfl, ⟨nd, rfl⟩⟩))
      go_ret2
      exact ⟨_, by first | rfl | (simp [errW_none, errW_some] <;> rfl) | (simp [*, errW_none, errW_some] <;> rfl), by first | exact Kd.R_nil _ _ _ _ _ | exact Kd.N_nil _ _ _ _ _ | exact Kd.V_nil _ _ _ _ _ | exact Kd.Q_nil _ _ _ _ _ | exact Kd.S_nil _ _ _ _ _, by repeat (first | (with_reducible first | exact HB.out | apply below_alloc | apply pw_below_drewN | apply below_drew1) | exact HB.out)⟩
    · rw [if_neg c4] at H
      have c4b0 : decide (1000 < (l0.length : Int)) = false := decide_eq_false c4
      have c4b1 : decide (1000 < l0.length) = false := decide_eq_false (by omega)
      clear c4
      have H' := Aside0.mk H
      clear H
      go_enter Try.func26, Try.ntmps26
      go_wp2_with (first | (go_at_call 49; (with_reducible refine (slices_ContainsFunc_int_int_at_puny_Encode_1.calls k _ _ l0 false _ ?side1 ?side2 A2.out).mono ?_); (case side1 => repeat (first | exact HR0.out | (with_reducible refine Kd.C_alloc ?_ _) | (with_reducible refine Kd.C_drewN ?_ _) | (with_reducible refine Kd.C_drew ?_))); (case side2 => exact HC0.out); rintro e w' ⟨rfl, ⟨nd, rfl⟩⟩))
      go_loopg [4, 24] k (fun kq v4 v24 w' => ∃ (x4_1 : List Int) (x24_1 : Int), v24 = .int .i64 x24_1 ∧ Aside0 (puny_Encode.l0 kq l0 x4_1 l0 (l0.length : Int) x24_1 = some (r1, r2)) ∧ Aside0 (kq ≤ k) ∧ Aside0 (Kd.R (Kd.int .u8) 5 w' w.heap.size (fun _ => True) v4 x4_1) ∧ Aside0 (Below w.heap.size w w'))
      case atStart => exact ⟨(([] : List Int)), (0), (by first | rfl | (simp; done) | (simp [*]; done)), H', ⟨Nat.le_refl _⟩, ⟨by first | exact Kd.R_nil _ _ _ _ _ | exact Kd.N_nil _ _ _ _ _ | exact Kd.V_nil _ _ _ _ _ | exact Kd.Q_nil _ _ _ _ _ | exact Kd.S_nil _ _ _ _ _⟩, ⟨by repeat (first | (with_reducible first | exact HB.out | apply below_alloc | apply pw_below_drewN | apply below_drew1) | exact HB.out)⟩⟩
      case round =>
        clear H'
        try clear c2
        try clear p2
        try clear c3
        try clear c4
        try clear c4b0
        try clear c4b1
        obtain ⟨x4_1, x24_1, rfl, HA, HK1, HO_4, HB⟩ := hrel
        cases gk with
        | zero => exact absurd HA.out (by simp [puny_Encode.l0])
        | succ k1 =>
          have H := HA.out
          clear HA
          simp only [puny_Encode.l0] at H
          by_cases c5 : x24_1 < (l0.length : Int)
          · rw [if_pos c5] at H
            have c5b0 : decide (x24_1 < (l0.length : Int)) = true := decide_eq_true c5
            clear c5
            by_cases c6 : 0 ≤ x24_1
            · rw [if_pos c6] at H
              have c6b0 : decide (0 ≤ x24_1) = true := decide_eq_true c6
              clear c6
              by_cases c7 : x24_1 < (l0.length : Int)
              · rw [if_pos c7] at H
                have c7b0 : decide (x24_1 < (l0.length : Int)) = true := decide_eq_true c7
                clear c7
                by_cases c8 : (rd l0 x24_1) < 128
                · rw [if_pos c8] at H
                  have c8b0 : decide ((rd l0 x24_1) < 128) = true := decide_eq_true c8
                  clear c8
                  by_cases c9 : x4_1.length < 140737488355328
                  · rw [if_pos c9] at H
                    have LMc9 := Aside0.mk c9
                    clear c9
                    obtain ⟨y106, hy106⟩ : ∃ y_ : List Int, y_ = (x4_1 ++ [(rd l0 x24_1) % 256]) := ⟨_, rfl⟩
                    replace H : (puny_Encode.l0 k1 l0 y106 l0 (l0.length : Int) (wrap64 (x24_1 + 1))) = some (r1, r2) := by first | (rw [hy106]; with_reducible exact H) | (have H2_ := (Option.bind_some _ _).symm.trans H; rw [hy106]; with_reducible exact H2_) | (have H2_ := (Option.bind_some _ _).symm.trans H; with_reducible exact H2_) | with_reducible exact H | (rw [hy106]; exact H) | exact H
                    have Ny106 := Aside0.mk hy106
                    clear hy106
                    have H' := Aside0.mk H
                    clear H
                    have p105 : 0 ≤ (x24_1 : Int) := of_decide_eq_true (by first | (with_reducible assumption) | assumption)
                    have q105 : x24_1 < (l0.length : Int) := of_decide_eq_true (by first | (with_reducible assumption) | assumption)
                    obtain ⟨ad105, e105, hx105_0⟩ := Kd.at_int HR0.out x24_1 p105 q105
                    cases e105
                    replace hx105_0 := (HB.out.cell (World.block_lt_of_cell? w _ hx105_0)).trans hx105_0
                    replace p105 := eq_true p105
                    replace q105 := eq_true q105
                    go_wp2_with (first | ((with_reducible refine gate_builtin (b := .append) (xs := #[.tmp 30, .tmp 33]) rfl ?_); at_builtin; refine Kd.R_append (Kd.int .u8) (w0 := w) w.heap.size rfl (.tmp 30) (.tmp 33) 22 5 (.int .u8 0) 1 rfl Try.underlying22 info5 rfl (by decide) (by omega) u4 x4_1 ((rd l0 x24_1) % 256) [.int .u8 ((rd l0 x24_1) % 256)] (fun _ => True) (fun _ => False) rfl rfl ?aP (fun _ hk => hk.elim) ?aF ?aO ?aB ?aS ?aL ?_; (case aP => exact rfl); (case aB => exact (by repeat (first | (with_reducible first | exact HB.out | apply below_alloc | apply pw_below_drewN | apply below_drew1) | exact HB.out))); (case aF => exact (fun _ _ => trivial)); (case aO => exact (by (with_reducible repeat (first | apply Kd.R_alloc | apply Kd.R_drewN | apply Kd.R_drew)); exact HO_4.out)); (case aS => exact (below_size (by repeat (first | (with_reducible first | exact HB.out | apply below_alloc | apply pw_below_drewN | apply below_drew1) | exact HB.out)))); (case aL => have := LMc9.out; omega); intro v107 w10 ho hb hg hat; rw [← Ny106.out] at ho; have n0_ := Aside0.mk (hb); have n1_ := Aside0.mk (ho); clear HB; clear HO_4; have HB := n0_; have HO108 := n1_; clear n0_ n1_; clear ho hb hg hat))
                    go_roundg k1
                    case measure => have := HK1.out; omega
                    case rel => exact ⟨(y106), (wrap64 (x24_1 + 1)), (by first | rfl | (simp; done) | (simp [*]; done)), H', ⟨by have := HK1.out; omega⟩, ⟨by (with_reducible repeat (first | apply Kd.R_alloc | apply Kd.R_drewN | apply Kd.R_drew)); exact HO108.out⟩, ⟨by repeat (first | (with_reducible first | exact HB.out | apply below_alloc | apply pw_below_drewN | apply below_drew1) | exact HB.out)⟩⟩
                  · rw [if_neg c9] at H
                    exact absurd H (by simp)
                · rw [if_neg c8] at H
                  have c8b0 : decide ((rd l0 x24_1) < 128) = false := decide_eq_false c8
                  clear c8
                  have H' := Aside0.mk H
                  clear H
                  have p105 : 0 ≤ (x24_1 : Int) := of_decide_eq_true (by first | (with_reducible assumption) | assumption)
                  have q105 : x24_1 < (l0.length : Int) := of_decide_eq_true (by first | (with_reducible assumption) | assumption)
                  obtain ⟨ad105, e105, hx105_0⟩ := Kd.at_int HR0.out x24_1 p105 q105
                  cases e105
                  replace hx105_0 := (HB.out.cell (World.block_lt_of_cell? w _ hx105_0)).trans hx105_0
                  replace p105 := eq_true p105
                  replace q105 := eq_true q105
                  go_wp2
                  go_roundg k1
                  case measure => have := HK1.out; omega
                  case rel => exact ⟨(x4_1), (wrap64 (x24_1 + 1)), (by first | rfl | (simp; done) | (simp [*]; done)), H', ⟨by have := HK1.out; omega⟩, ⟨by (with_reducible repeat (first | apply Kd.R_alloc | apply Kd.R_drewN | apply Kd.R_drew)); exact HO_4.out⟩, ⟨by repeat (first | (with_reducible first | exact HB.out | apply below_alloc | apply pw_below_drewN | apply below_drew1) | exact HB.out)⟩⟩
              · rw [if_neg c7] at H
                exact absurd H (by simp)
            · rw [if_neg c6] at H
              exact absurd H (by simp)
          · rw [if_neg c5] at H
            have c5b0 : decide (x24_1 < (l0.length : Int)) = false := decide_eq_false c5
            clear c5
            have HC11 := Aside0.mk H
            clear H
            obtain ⟨Ao12, co12, eo12⟩ := Kd.R_slice HO_4.out
            subst eo12
            go_upto_if 39 with (fail)
            go_cut [4] (fun v4 wc => ∃ (kq : Nat) (x4_10 : List Int), Aside0 (puny_Encode.j1 kq l0 x4_10 (x4_1.length : Int) = some (r1, r2)) ∧ Aside0 (kq ≤ k1) ∧ Aside0 (Kd.R (Kd.int .u8) 5 wc w.heap.size (fun _ => True) v4 x4_10) ∧ Aside0 (Below w.heap.size w wc))
            case first =>
              have H := HC11.out
              clear HC11
              by_cases c13 : (x4_1.length : Int) > 0
              · rw [if_pos c13] at H
                have c13b0 : decide (0 < (x4_1.length : Int)) = true := decide_eq_true c13
                have c13b1 : decide (0 < x4_1.length) = true := decide_eq_true (by omega)
                clear c13
                (first | rw [c13b0] | (simp only [i64_w, i32_w]; rw [c13b0]) | rw [c13b1] | (simp only [i64_w, i32_w]; rw [c13b1]) | skip)
                by_cases c14 : x4_1.length < 140737488355328
                · rw [if_pos c14] at H
                  have LMc14 := Aside0.mk c14
                  clear c14
                  obtain ⟨y109, hy109⟩ : ∃ y_ : List Int, y_ = (x4_1 ++ [45]) := ⟨_, rfl⟩
                  replace H : (puny_Encode.j1 k1 l0 y109 (x4_1.length : Int)) = some (r1, r2) := by first | (rw [hy109]; with_reducible exact H) | (have H2_ := (Option.bind_some _ _).symm.trans H; rw [hy109]; with_reducible exact H2_) | (have H2_ := (Option.bind_some _ _).symm.trans H; with_reducible exact H2_) | with_reducible exact H | (rw [hy109]; exact H) | exact H
                  have Ny109 := Aside0.mk hy109
                  clear hy109
                  have H' := Aside0.mk H
                  clear H
                  go_wp2_with (first | ((with_reducible refine gate_builtin (b := .append) (xs := #[.tmp 40, .tmp 41]) rfl ?_); at_builtin; refine Kd.R_append (Kd.int .u8) (w0 := w) w.heap.size rfl (.tmp 40) (.tmp 41) 22 5 (.int .u8 0) 1 rfl Try.underlying22 info5 rfl (by decide) (by omega) (.slice Ao12 x4_1.length co12) x4_1 45 [.int .u8 45] (fun _ => True) (fun _ => False) rfl rfl ?aP (fun _ hk => hk.elim) ?aF ?aO ?aB ?aS ?aL ?_; (case aP => exact rfl); (case aB => exact (by repeat (first | (with_reducible first | exact HB.out | apply below_alloc | apply pw_below_drewN | apply below_drew1) | exact HB.out))); (case aF => exact (fun _ _ => trivial)); (case aO => exact (by (with_reducible repeat (first | apply Kd.R_alloc | apply Kd.R_drewN | apply Kd.R_drew)); exact HO_4.out)); (case aS => exact (below_size (by repeat (first | (with_reducible first | exact HB.out | apply below_alloc | apply pw_below_drewN | apply below_drew1) | exact HB.out)))); (case aL => have := LMc14.out; omega); intro v110 w15 ho hb hg hat; rw [← Ny109.out] at ho; have n0_ := Aside0.mk (hb); have n1_ := Aside0.mk (ho); clear HB; clear HO_4; have HB := n0_; have HO111 := n1_; clear n0_ n1_; clear ho hb hg hat))
                  go_meet
                  case rel => exact ⟨_, (y109), H', ⟨by have := HK1.out; first | omega | exact Nat.le_refl _⟩, ⟨by (with_reducible repeat (first | apply Kd.R_alloc | apply Kd.R_drewN | apply Kd.R_drew)); exact HO111.out⟩, ⟨by repeat (first | (with_reducible first | exact HB.out | apply below_alloc | apply pw_below_drewN | apply below_drew1) | exact HB.out)⟩⟩
                · rw [if_neg c14] at H
                  exact absurd H (by simp)
              · rw [if_neg c13] at H
                have c13b0 : decide (0 < (x4_1.length : Int)) = false := decide_eq_false c13
                have c13b1 : decide (0 < x4_1.length) = false := decide_eq_false (by omega)
                clear c13
                (first | rw [c13b0] | (simp only [i64_w, i32_w]; rw [c13b0]) | rw [c13b1] | (simp only [i64_w, i32_w]; rw [c13b1]) | skip)
                have H' := Aside0.mk H
                clear H
                go_wp2
                go_meet
                case rel => exact ⟨_, (x4_1), H', ⟨by have := HK1.out; first | omega | exact Nat.le_refl _⟩, ⟨by (with_reducible repeat (first | apply Kd.R_alloc | apply Kd.R_drewN | apply Kd.R_drew)); exact HO_4.out⟩, ⟨by repeat (first | (with_reducible first | exact HB.out | apply below_alloc | apply pw_below_drewN | apply below_drew1) | exact HB.out)⟩⟩
            case rest =>
              clear HC11
              try clear c1
              try clear p1
              try clear q1
              try clear hx1
              try clear c2
              try clear p2
              try clear c3
              try clear c4
              try clear c4b0
              try clear c4b1
              try clear c5
              try clear c5b0
              try clear c6
              try clear c6b0
              try clear p6
              try clear c7
              try clear c7b0
              try clear c8
              try clear c8b0
              try clear c9
              try clear p10
              try clear q10
              try clear hx10
              try clear c13
              try clear c13b0
              try clear c13b1
              try clear c14
              try clear hx105_0
              try clear p105
              try clear p2
              try clear q105
              obtain ⟨kq, x4_10, HA, HJ10, HO_4, HB⟩ := hcut
              cases kq with
              | zero => exact absurd HA.out (by simp [puny_Encode.j1])
              | succ kj10 =>
                have H := HA.out
                clear HA
                simp only [puny_Encode.j1] at H
                have H' := Aside0.mk H
                clear H
                go_wp2
                go_loopg [4, 8, 9, 10, 11] kj10 (fun kq v4 v8 v9 v10 v11 w' => ∃ (x4_3 : List Int) (x8_3 : Int) (x9_3 : Int) (x10_3 : Int) (x11_3 : Int), v8 = .int .i64 x8_3 ∧ v9 = .int .i64 x9_3 ∧ v10 = .int .i64 x10_3 ∧ v11 = .int .i64 x11_3 ∧ Aside0 (puny_Encode.l1 kq l0 x4_3 (x4_1.length : Int) x8_3 x9_3 x10_3 x11_3 = some (r1, r2)) ∧ Aside0 (kq ≤ kj10) ∧ Aside0 (Kd.R (Kd.int .u8) 5 w' w.heap.size (fun _ => True) v4 x4_3) ∧ Aside0 (Below w.heap.size w w'))
                case atStart => exact ⟨(x4_10), (128), (72), (0), ((x4_1.length : Int)), (by first | rfl | (simp; done) | (simp [*]; done)), (by first | rfl | (simp; done) | (simp [*]; done)), (by first | rfl | (simp; done) | (simp [*]; done)), (by first | rfl | (simp; done) | (simp [*]; done)), H', ⟨Nat.le_refl _⟩, ⟨by (with_reducible repeat (first | apply Kd.R_alloc | apply Kd.R_drewN | apply Kd.R_drew)); exact HO_4.out⟩, ⟨by repeat (first | (with_reducible first | exact HB.out | apply below_alloc | apply pw_below_drewN | apply below_drew1) | exact HB.out)⟩⟩
                case round =>
                  clear H'
                  try clear c1
                  try clear p1
                  try clear q1
                  try clear hx1
                  try clear c2
                  try clear p2
                  try clear c3
                  try clear c4
                  try clear c4b0
                  try clear c4b1
                  try clear c5
                  try clear c5b0
                  try clear c6
                  try clear c6b0
                  try clear p6
                  try clear c7
                  try clear c7b0
                  try clear c8
                  try clear c8b0
                  try clear c9
                  try clear p10
                  try clear q10
                  try clear hx10
                  try clear c13
                  try clear c13b0
                  try clear c13b1
                  try clear c14
                  try clear hx105_0
                  try clear p1
                  try clear p10
                  try clear p105
                  try clear p2
                  try clear p6
                  try clear q1
                  try clear q10
                  try clear q105
                  obtain ⟨x4_3, x8_3, x9_3, x10_3, x11_3, rfl, rfl, rfl, rfl, HA, HK3, HO_4, HB⟩ := hrel
                  cases gk with
                  | zero => exact absurd HA.out (by simp [puny_Encode.l1])
                  | succ k3 =>
                    have H := HA.out
                    clear HA
                    simp only [puny_Encode.l1] at H
                    by_cases c16 : x11_3 < (l0.length : Int)
                    · rw [if_pos c16] at H
                      have c16b0 : decide (x11_3 < (l0.length : Int)) = true := decide_eq_true c16
                      clear c16
                      replace H := Option.bind_eq_some_iff.mp H
                      obtain ⟨t112, A170, H⟩ := H
                      replace H : (puny_Encode.l2 k3 l0 x4_3 (x4_1.length : Int) t112 x9_3 (wrap64 (x10_3 + (wrap64 ((wrap64 (t112 - x8_3)) * (wrap64 (x11_3 + 1)))))) x11_3 l0 (l0.length : Int) 0) = some (r1, r2) := H
                      have A17 := Aside0.mk A170
                      clear A170
                      have H' := Aside0.mk H
                      clear H
                      go_wp2_with (first | ((with_reducible refine gate_callee (f := 51) rfl ?_); refine goesL_ (some 50) rfl rfl Try.func51 (by kernel_rfl) rfl #[.slice A0 l0.length c0, .int .i64 x8_3] rfl (by (try simp only [List.map_toArray, List.map_cons, List.map_nil]); first | done | rfl | (simp only [List.length_drop, List.length_take]; rfl)) ?_; (with_reducible refine (puny_least.calls k3 _ _ l0 x8_3 t112 _ ?side1 ?side2 A17.out).mono ?_); (case side1 => repeat (first | exact (Kd.C_below HR0.out HB.out) | (with_reducible refine Kd.C_alloc ?_ _) | (with_reducible refine Kd.C_drewN ?_ _) | (with_reducible refine Kd.C_drew ?_))); (case side2 => exact HC0.out); rintro e w18 ⟨rfl, hb⟩; refine ⟨_, rfl, ?_⟩; have n0_ := Aside0.mk (Kd.R_below (by (with_reducible repeat (first | apply Kd.R_alloc | apply Kd.R_drewN | apply Kd.R_drew)); exact HO_4.out) hb); have n1_ := Aside0.mk (below_step (by repeat (first | (with_reducible first | exact HB.out | apply below_alloc | apply pw_below_drewN | apply below_drew1) | exact HB.out)) hb); clear HO_4; clear HB; have HO_4 := n0_; have HB := n1_; clear n0_ n1_; (try clear hb); (try clear hb2); (try clear hk); (try clear hi)))
                      go_loopg [4, 9, 10, 11, 62] k3 (fun kq v4 v9 v10 v11 v62 w' => ∃ (x4_4 : List Int) (x9_4 : Int) (x10_4 : Int) (x11_4 : Int) (x62_4 : Int), v9 = .int .i64 x9_4 ∧ v10 = .int .i64 x10_4 ∧ v11 = .int .i64 x11_4 ∧ v62 = .int .i64 x62_4 ∧ Aside0 (puny_Encode.l2 kq l0 x4_4 (x4_1.length : Int) t112 x9_4 x10_4 x11_4 l0 (l0.length : Int) x62_4 = some (r1, r2)) ∧ Aside0 (kq ≤ k3) ∧ Aside0 (Kd.R (Kd.int .u8) 5 w' w.heap.size (fun _ => True) v4 x4_4) ∧ Aside0 (Below w.heap.size w w'))
                      case atStart => exact ⟨(x4_3), (x9_3), (wrap64 (x10_3 + (wrap64 ((wrap64 (t112 - x8_3)) * (wrap64 (x11_3 + 1)))))), (x11_3), (0), (by first | rfl | (simp; done) | (simp [*]; done)), (by first | rfl | (simp; done) | (simp [*]; done)), (by first | rfl | (simp; done) | (simp [*]; done)), (by first | rfl | (simp; done) | (simp [*]; done)), H', ⟨Nat.le_refl _⟩, ⟨by (with_reducible repeat (first | apply Kd.R_alloc | apply Kd.R_drewN | apply Kd.R_drew)); exact HO_4.out⟩, ⟨by repeat (first | (with_reducible first | exact HB.out | apply below_alloc | apply pw_below_drewN | apply below_drew1) | exact HB.out)⟩⟩
                      case round =>
                        clear H'
                        try clear c1
                        try clear p1
                        try clear q1
                        try clear hx1
                        try clear c2
                        try clear p2
                        try clear c3
                        try clear c4
                        try clear c4b0
                        try clear c4b1
                        try clear c5
                        try clear c5b0
                        try clear c6
                        try clear c6b0
                        try clear p6
                        try clear c7
                        try clear c7b0
                        try clear c8
                        try clear c8b0
                        try clear c9
                        try clear p10
                        try clear q10
                        try clear hx10
                        try clear c13
                        try clear c13b0
                        try clear c13b1
                        try clear c14
                        try clear c16
                        try clear c16b0
                        try clear hx105_0
                        try clear p1
                        try clear p10
                        try clear p105
                        try clear p2
                        try clear p6
                        try clear q1
                        try clear q10
                        try clear q105
                        obtain ⟨x4_4, x9_4, x10_4, x11_4, x62_4, rfl, rfl, rfl, rfl, HA, HK4, HO_4, HB⟩ := hrel
                        cases gk with
                        | zero => exact absurd HA.out (by simp [puny_Encode.l2])
                        | succ k4 =>
                          have H := HA.out
                          clear HA
                          simp only [puny_Encode.l2] at H
                          by_cases c19 : x62_4 < (l0.length : Int)
                          · rw [if_pos c19] at H
                            have c19b0 : decide (x62_4 < (l0.length : Int)) = true := decide_eq_true c19
                            clear c19
                            by_cases c20 : 0 ≤ x62_4
                            · rw [if_pos c20] at H
                              have c20b0 : decide (0 ≤ x62_4) = true := decide_eq_true c20
                              clear c20
                              by_cases c21 : x62_4 < (l0.length : Int)
                              · rw [if_pos c21] at H
                                have c21b0 : decide (x62_4 < (l0.length : Int)) = true := decide_eq_true c21
                                clear c21
                                by_cases c22 : (rd l0 x62_4) < t112
                                · rw [if_pos c22] at H
                                  have c22b0 : decide ((rd l0 x62_4) < t112) = true := decide_eq_true c22
                                  clear c22
                                  have H' := Aside0.mk H
                                  clear H
                                  have p113 : 0 ≤ (x62_4 : Int) := of_decide_eq_true (by first | (with_reducible assumption) | assumption)
                                  have q113 : x62_4 < (l0.length : Int) := of_decide_eq_true (by first | (with_reducible assumption) | assumption)
                                  obtain ⟨ad113, e113, hx113_0⟩ := Kd.at_int HR0.out x62_4 p113 q113
                                  cases e113
                                  replace hx113_0 := (HB.out.cell (World.block_lt_of_cell? w _ hx113_0)).trans hx113_0
                                  replace p113 := eq_true p113
                                  replace q113 := eq_true q113
                                  go_wp2
                                  go_roundg k4
                                  case measure => have := HK1.out; have := HJ10.out; have := HK3.out; have := HK4.out; omega
                                  case rel => exact ⟨(x4_4), (x9_4), (wrap64 (x10_4 + 1)), (x11_4), (wrap64 (x62_4 + 1)), (by first | rfl | (simp; done) | (simp [*]; done)), (by first | rfl | (simp; done) | (simp [*]; done)), (by first | rfl | (simp; done) | (simp [*]; done)), (by first | rfl | (simp; done) | (simp [*]; done)), H', ⟨by have := HK1.out; have := HJ10.out; have := HK3.out; have := HK4.out; omega⟩, ⟨by (with_reducible repeat (first | apply Kd.R_alloc | apply Kd.R_drewN | apply Kd.R_drew)); exact HO_4.out⟩, ⟨by repeat (first | (with_reducible first | exact HB.out | apply below_alloc | apply pw_below_drewN | apply below_drew1) | exact HB.out)⟩⟩
                                · rw [if_neg c22] at H
                                  have c22b0 : decide ((rd l0 x62_4) < t112) = false := decide_eq_false c22
                                  clear c22
                                  by_cases c23 : (rd l0 x62_4) = t112
                                  · rw [if_pos c23] at H
                                    have c23b0 : ((rd l0 x62_4) == t112) = true := beq_iff_eq.mpr c23
                                    have c23b1 : ((rd l0 x62_4) != t112) = false := bne_eq_false_iff_eq.mpr c23
                                    clear c23
                                    replace H := Option.bind_eq_some_iff.mp H
                                    obtain ⟨t114, A240, H⟩ := H
                                    replace H : (if x4_4.length + t114.length < 140737488355328 then ((puny_adapt.f k4 x10_4 (wrap64 (x11_4 + 1)) (x11_4 == (x4_1.length : Int))).bind fun t120 => (puny_Encode.l2 k4 l0 (x4_4 ++ t114) (x4_1.length : Int) t112 t120 0 (wrap64 (x11_4 + 1)) l0 (l0.length : Int) (wrap64 (x62_4 + 1)))) else (none)) = some (r1, r2) := H
                                    have A24 := Aside0.mk A240
                                    clear A240
                                    by_cases c25 : x4_4.length + t114.length < 140737488355328
                                    · rw [if_pos c25] at H
                                      have LMc25 := Aside0.mk c25
                                      clear c25
                                      obtain ⟨y117, hy117⟩ : ∃ y_ : List Int, y_ = (x4_4 ++ t114) := ⟨_, rfl⟩
                                      replace H : ((puny_adapt.f k4 x10_4 (wrap64 (x11_4 + 1)) (x11_4 == (x4_1.length : Int))).bind fun t120 => (puny_Encode.l2 k4 l0 y117 (x4_1.length : Int) t112 t120 0 (wrap64 (x11_4 + 1)) l0 (l0.length : Int) (wrap64 (x62_4 + 1)))) = some (r1, r2) := by first | (rw [hy117]; with_reducible exact H) | (have H2_ := (Option.bind_some _ _).symm.trans H; rw [hy117]; with_reducible exact H2_) | (have H2_ := (Option.bind_some _ _).symm.trans H; with_reducible exact H2_) | with_reducible exact H | (rw [hy117]; exact H) | exact H
                                      have Ny117 := Aside0.mk hy117
                                      clear hy117
                                      replace H := Option.bind_eq_some_iff.mp H
                                      obtain ⟨t120, A260, H⟩ := H
                                      replace H : (puny_Encode.l2 k4 l0 y117 (x4_1.length : Int) t112 t120 0 (wrap64 (x11_4 + 1)) l0 (l0.length : Int) (wrap64 (x62_4 + 1))) = some (r1, r2) := H
                                      have A26 := Aside0.mk A260
                                      clear A260
                                      have H' := Aside0.mk H
                                      clear H
                                      have p113 : 0 ≤ (x62_4 : Int) := of_decide_eq_true (by first | (with_reducible assumption) | assumption)
                                      have q113 : x62_4 < (l0.length : Int) := of_decide_eq_true (by first | (with_reducible assumption) | assumption)
                                      obtain ⟨ad113, e113, hx113_0⟩ := Kd.at_int HR0.out x62_4 p113 q113
                                      cases e113
                                      replace hx113_0 := (HB.out.cell (World.block_lt_of_cell? w _ hx113_0)).trans hx113_0
                                      replace p113 := eq_true p113
                                      replace q113 := eq_true q113
                                      go_wp2_with (first | ((with_reducible refine gate_callee (f := 52) rfl ?_); refine goesL_ (some 79) rfl rfl Try.func52 (by kernel_rfl) rfl #[.int .i64 x10_4, .int .i64 x9_4] rfl (by (try simp only [List.map_toArray, List.map_cons, List.map_nil]); first | done | rfl | (simp only [List.length_drop, List.length_take]; rfl)) ?_; (with_reducible refine (puny_number.calls k4 x10_4 x9_4 t114 _ A24.out).mono ?_); rintro e w27 ⟨v115, rfl, ho0, hb⟩; refine ⟨_, rfl, ?_⟩; have n0_ := Aside0.mk (Kd.R_elder' (by (with_reducible repeat (first | apply Kd.R_alloc | apply Kd.R_drewN | apply Kd.R_drew)); exact HO_4.out) (Kd.R_base ho0) hb); have n1_ := Aside0.mk (Kd.R_lower (Kd.R_new' ho0 (Kd.R_lt (by (with_reducible repeat (first | apply Kd.R_alloc | apply Kd.R_drewN | apply Kd.R_drew)); exact HO_4.out))) (below_size (by repeat (first | (with_reducible first | exact HB.out | apply below_alloc | apply pw_below_drewN | apply below_drew1) | exact HB.out)))); have n2_ := Aside0.mk (below_step (by repeat (first | (with_reducible first | exact HB.out | apply below_alloc | apply pw_below_drewN | apply below_drew1) | exact HB.out)) hb); clear HO_4; clear HB; have HO_4 := n0_; have HO116 := n1_; have HB := n2_; clear n0_ n1_ n2_; (try clear hb); (try clear hb2); (try clear hk); (try clear hi); (try clear ho0); obtain ⟨Ao29, co29, eo29⟩ := Kd.R_slice HO116.out; subst eo29) | ((with_reducible refine gate_builtin (b := .append) (xs := #[.tmp 76, .tmp 79]) rfl ?_); at_builtin; refine Kd.R_append_rows (Kd.int .u8) (w0 := w) w.heap.size rfl (.tmp 76) (.tmp 79) 22 5 (.int .u8 0) 1 rfl Try.underlying22 info5 rfl (by decide) (by omega) u4 x4_4 t114 _ _ _ (fun k_ => some k_ ≠ (.slice Ao29 t114.length co29 : Value).ownBlock) (fun _ => False) rfl rfl ?aO ?aR (fun _ _ h => h) (fun _ h => h.elim) ?aF ?aB ?aS ?aL ?_; (case aR => repeat (first | exact (Kd.R_reads' HO116.out).2.2 | (with_reducible refine Kd.C_alloc ?_ _) | (with_reducible refine Kd.C_drewN ?_ _) | (with_reducible refine Kd.C_drew ?_))); (case aB => exact (by repeat (first | (with_reducible first | exact HB.out | apply below_alloc | apply pw_below_drewN | apply below_drew1) | exact HB.out))); (case aF => exact (fun k_ hk => Kd.fresh' (Kd.R_lt (by (with_reducible repeat (first | apply Kd.R_alloc | apply Kd.R_drewN | apply Kd.R_drew)); exact HO116.out)) k_ hk)); (case aO => exact (by (with_reducible repeat (first | apply Kd.R_alloc | apply Kd.R_drewN | apply Kd.R_drew)); exact Kd.R_mono HO_4.out (fun _ hk => hk.2))); (case aS => exact (below_size (by repeat (first | (with_reducible first | exact HB.out | apply below_alloc | apply pw_below_drewN | apply below_drew1) | exact HB.out)))); (case aL => have := LMc25.out; omega); intro v118 w28 ho hb hg hat; rw [← Ny117.out] at ho; have n0_ := Aside0.mk (Kd.R_after (ok := (fun _ => True)) (by (with_reducible repeat (first | apply Kd.R_alloc | apply Kd.R_drewN | apply Kd.R_drew)); exact HO116.out) hg hat); have n1_ := Aside0.mk (hb); have n2_ := Aside0.mk (ho); clear HO116; clear HB; clear HO_4; have HO116 := n0_; have HB := n1_; have HO119 := n2_; clear n0_ n1_ n2_; clear ho hb hg hat) | ((with_reducible refine gate_callee (f := 53) rfl ?_); refine goesL_ (some 87) rfl rfl Try.func53 (by kernel_rfl) rfl #[.int .i64 x10_4, .int .i64 (wrap64 (x11_4 + 1)), .bool (x11_4 == (x4_1.length : Int))] rfl (by (try simp only [List.map_toArray, List.map_cons, List.map_nil]); first | done | rfl | (simp only [List.length_drop, List.length_take]; rfl)) ?_; (with_reducible refine (puny_adapt.calls k4 x10_4 (wrap64 (x11_4 + 1)) (x11_4 == (x4_1.length : Int)) t120 _ A26.out).mono ?_); rintro e w' ⟨rfl, ⟨nd, rfl⟩⟩; refine ⟨_, rfl, ?_⟩))
                                      go_roundg k4
                                      case measure => have := HK1.out; have := HJ10.out; have := HK3.out; have := HK4.out; omega
                                      case rel => exact ⟨(y117), (t120), (0), (wrap64 (x11_4 + 1)), (wrap64 (x62_4 + 1)), (by first | rfl | (simp; done) | (simp [*]; done)), (by first | rfl | (simp; done) | (simp [*]; done)), (by first | rfl | (simp; done) | (simp [*]; done)), (by first | rfl | (simp; done) | (simp [*]; done)), H', ⟨by have := HK1.out; have := HJ10.out; have := HK3.out; have := HK4.out; omega⟩, ⟨by (with_reducible repeat (first | apply Kd.R_alloc | apply Kd.R_drewN | apply Kd.R_drew)); exact Kd.R_mono HO119.out (fun _ hk => trivial)⟩, ⟨by repeat (first | (with_reducible first | exact HB.out | apply below_alloc | apply pw_below_drewN | apply below_drew1) | exact HB.out)⟩⟩
                                    · rw [if_neg c25] at H
                                      exact absurd H (by simp)
                                  · rw [if_neg c23] at H
                                    have c23b0 : ((rd l0 x62_4) == t112) = false := beq_eq_false_iff_ne.mpr c23
                                    have c23b1 : ((rd l0 x62_4) != t112) = true := bne_iff_ne.mpr c23
                                    have H' := Aside0.mk H
                                    clear H
                                    have p113 : 0 ≤ (x62_4 : Int) := of_decide_eq_true (by first | (with_reducible assumption) | assumption)
                                    have q113 : x62_4 < (l0.length : Int) := of_decide_eq_true (by first | (with_reducible assumption) | assumption)
                                    obtain ⟨ad113, e113, hx113_0⟩ := Kd.at_int HR0.out x62_4 p113 q113
                                    cases e113
                                    replace hx113_0 := (HB.out.cell (World.block_lt_of_cell? w _ hx113_0)).trans hx113_0
                                    replace p113 := eq_true p113
                                    replace q113 := eq_true q113
                                    go_wp2
                                    go_roundg k4
                                    case measure => have := HK1.out; have := HJ10.out; have := HK3.out; have := HK4.out; omega
                                    case rel => exact ⟨(x4_4), (x9_4), (x10_4), (x11_4), (wrap64 (x62_4 + 1)), (by first | rfl | (simp; done) | (simp [*]; done)), (by first | rfl | (simp; done) | (simp [*]; done)), (by first | rfl | (simp; done) | (simp [*]; done)), (by first | rfl | (simp; done) | (simp [*]; done)), H', ⟨by have := HK1.out; have := HJ10.out; have := HK3.out; have := HK4.out; omega⟩, ⟨by (with_reducible repeat (first | apply Kd.R_alloc | apply Kd.R_drewN | apply Kd.R_drew)); exact HO_4.out⟩, ⟨by repeat (first | (with_reducible first | exact HB.out | apply below_alloc | apply pw_below_drewN | apply below_drew1) | exact HB.out)⟩⟩
                              · rw [if_neg c21] at H
                                exact absurd H (by simp)
                            · rw [if_neg c20] at H
                              exact absurd H (by simp)
                          · rw [if_neg c19] at H
                            have c19b0 : decide (x62_4 < (l0.length : Int)) = false := decide_eq_false c19
                            clear c19
                            have H' := Aside0.mk H
                            clear H
                            go_wp2
                            go_roundg k4
                            case measure => have := HK1.out; have := HJ10.out; have := HK3.out; have := HK4.out; omega
                            case rel => exact ⟨(x4_4), (wrap64 (t112 + 1)), (x9_4), (wrap64 (x10_4 + 1)), (x11_4), (by first | rfl | (simp; done) | (simp [*]; done)), (by first | rfl | (simp; done) | (simp [*]; done)), (by first | rfl | (simp; done) | (simp [*]; done)), (by first | rfl | (simp; done) | (simp [*]; done)), H', ⟨by have := HK1.out; have := HJ10.out; have := HK3.out; have := HK4.out; omega⟩, ⟨by (with_reducible repeat (first | apply Kd.R_alloc | apply Kd.R_drewN | apply Kd.R_drew)); exact HO_4.out⟩, ⟨by repeat (first | (with_reducible first | exact HB.out | apply below_alloc | apply pw_below_drewN | apply below_drew1) | exact HB.out)⟩⟩
                    · rw [if_neg c16] at H
                      have c16b0 : decide (x11_3 < (l0.length : Int)) = false := decide_eq_false c16
                      clear c16
                      simp only [Option.some.injEq, Prod.mk.injEq] at H
                      obtain ⟨rfl, rfl⟩ := H
                      go_wp2
                      go_ret2
                      exact ⟨_, by first | rfl | (simp [errW_none, errW_some] <;> rfl) | (simp [*, errW_none, errW_some] <;> rfl), by (with_reducible repeat (first | apply Kd.R_alloc | apply Kd.R_drewN | apply Kd.R_drew)); exact HO_4.out, by repeat (first | (with_reducible first | exact HB.out | apply below_alloc | apply pw_below_drewN | apply below_drew1) | exact HB.out)⟩

end Go.Proofs.Ytooiajkbpkfplaa.Q

-- from Qf25
-- Made by hp.py, a program of this session, with the kit's printer. Not trusted: Lean checks it.
namespace Go.Proofs.Ytooiajkbpkfplaa.Q
open Go.RowKit Go.Proofs.YtooiajkbpkfplaaW.PrintWords Go.Proofs.YtooiajkbpkfplaaW.PrintLast Go.Proofs.YtooiajkbpkfplaaW.PrintMore
attribute [local go_sem] max2_int min2_int max_two min_two max_three min_three max_four min_four   -- for this text's walks alone
set_option linter.unusedVariables false
set_option linter.unusedSimpArgs false

/-! ### paronymlaw12_awake: function 25 -/
def paronymlaw12_awake.f (k : Nat)  : Option (Bool) := (puny_Encode.f k (([98, 252, 99, 104, 101, 114] : List Int))).bind fun bt104 => (if bt104.2 = 0 then (some ((strOfNums bt104.1).toList == ([98, 99, 104, 101, 114, 45, 107, 118, 97] : List UInt8))) else (some false))
theorem paronymlaw12_awake.mono : ∀ k, LeO (paronymlaw12_awake.f k ) (paronymlaw12_awake.f (k + 1) ) := by
  intro  k
  unfold paronymlaw12_awake.f
  repeat' first
      | (with_reducible exact puny_Encode.mono _ _)
      | (with_reducible exact LeO.refl _)
      | (with_reducible exact LeO.none _)
      | (with_reducible refine LeO.ite ?_ ?_)
      | (with_reducible refine LeO.bind ?_ (fun _ => ?_))
      | exact puny_Encode.mono _ _
      | exact LeO.none _
      | refine LeO.ite ?_ ?_
      | refine LeO.bind ?_ (fun _ => ?_)
set_option maxHeartbeats 8000000 in
set_option maxRecDepth 100000 in
theorem paronymlaw12_awake.calls (k : Nat)  (r : Bool) (w : World) (h : paronymlaw12_awake.f k  = some r) :
    Calls Try.prog 25 #[] w fun e w' => e = .returned (.bool r) ∧ Below w.heap.size w w' := by
  have HB := Aside0.mk (Below.refl w.heap.size w)
  have H : ((puny_Encode.f k (([98, 252, 99, 104, 101, 114] : List Int))).bind fun bt104 => (if bt104.2 = 0 then (some ((strOfNums bt104.1).toList == ([98, 99, 104, 101, 114, 45, 107, 118, 97] : List UInt8))) else (some false))) = some r := h
  clear h
  obtain ⟨y101, hy101⟩ : ∃ y_ : List Int, y_ = (([98, 252, 99, 104, 101, 114] : List Int)) := ⟨_, rfl⟩
  replace H : ((puny_Encode.f k y101).bind fun bt104 => (if bt104.2 = 0 then (some ((strOfNums bt104.1).toList == ([98, 99, 104, 101, 114, 45, 107, 118, 97] : List UInt8))) else (some false))) = some r := by first | (rw [hy101]; with_reducible exact H) | (have H2_ := (Option.bind_some _ _).symm.trans H; rw [hy101]; with_reducible exact H2_) | (have H2_ := (Option.bind_some _ _).symm.trans H; with_reducible exact H2_) | with_reducible exact H | (rw [hy101]; exact H) | exact H
  have Ny101 := Aside0.mk hy101
  clear hy101
  replace H := Option.bind_eq_some_iff.mp H
  obtain ⟨⟨t104, t105⟩, A10, H⟩ := H
  replace H : (if t105 = 0 then (some ((strOfNums t104).toList == ([98, 99, 104, 101, 114, 45, 107, 118, 97] : List UInt8))) else (some false)) = some r := H
  have A1 := Aside0.mk A10
  clear A10
  by_cases c2 : t105 = 0
  · rw [if_pos c2] at H
    have c2b0 : (t105 == 0) = true := beq_iff_eq.mpr c2
    have c2b1 : (t105 != 0) = false := bne_eq_false_iff_eq.mpr c2
    clear c2
    obtain rfl := Option.some.inj H
    go_enter Try.func25, Try.ntmps25
    go_wp2_with (first | ((with_reducible refine gate_dst (N := 4) rfl ?_); refine Kd.R_lit (Kd.int .i64) _ 3 ?hg (N := 4) ?hd (xs := ([98, 252, 99, 104, 101, 114] : List Int)) (inner := [.int .i64 98, .int .i64 252, .int .i64 99, .int .i64 104, .int .i64 101, .int .i64 114]) (ok := fun _ => True) (okp := fun _ => True) ?hr ?hp (fun _ hk => hk) trivial (Below.refl _ _) (Nat.le_refl _) (by simp) ?_; (case hd => rfl); (case hg => rfl); (case hr => first | (go_simp; done) | (go_simp; rfl)); (case hp => exact (Reps.one (show Kd.M (Kd.int .i64) _ _ _ 98 [.int .i64 98] from rfl) (Reps.one (show Kd.M (Kd.int .i64) _ _ _ 252 [.int .i64 252] from rfl) (Reps.one (show Kd.M (Kd.int .i64) _ _ _ 99 [.int .i64 99] from rfl) (Reps.one (show Kd.M (Kd.int .i64) _ _ _ 104 [.int .i64 104] from rfl) (Reps.one (show Kd.M (Kd.int .i64) _ _ _ 101 [.int .i64 101] from rfl) (Reps.one (show Kd.M (Kd.int .i64) _ _ _ 114 [.int .i64 114] from rfl) (Reps.none _ _)))))))); intro v102 w3 ho4 hb hg_ hnew_; clear hg_ hnew_; (first | rw [← Ny101.out] at ho4 | (simp only [Int.reduceToNat] at ho4; rw [← Ny101.out] at ho4)); have n0_ := Aside0.mk (Kd.R_lower ho4 (below_size (by repeat (first | (with_reducible first | exact HB.out | apply below_alloc | apply pw_below_drewN | apply below_drew1) | exact HB.out)))); have n1_ := Aside0.mk (below_step (by repeat (first | (with_reducible first | exact HB.out | apply below_alloc | apply pw_below_drewN | apply below_drew1) | exact HB.out)) hb); clear HB; have HO103 := n0_; have HB := n1_; clear n0_ n1_; clear hb ho4; obtain ⟨Ao5, co5, eo5⟩ := Kd.R_slice HO103.out; subst eo5) | ((with_reducible refine gate_callee (f := 26) rfl ?_); refine goesL_ (some 5) rfl rfl Try.func26 (by kernel_rfl) rfl #[.slice Ao5 y101.length co5] rfl (by (try simp only [List.map_toArray, List.map_cons, List.map_nil]); first | done | rfl | (simp only [List.length_drop, List.length_take]; rfl)) ?_; (with_reducible refine (puny_Encode.calls k _ _ y101 t104 t105 _ ?side1 ?side2 A1.out).mono ?_); (case side1 => repeat (first | exact (Kd.R_reads' HO103.out).2.2 | (with_reducible refine Kd.C_alloc ?_ _) | (with_reducible refine Kd.C_drewN ?_ _) | (with_reducible refine Kd.C_drew ?_))); (case side2 => exact (Kd.R_reads' HO103.out).2.1); rintro e w6 ⟨v106, rfl, ho0, hb⟩; refine ⟨_, rfl, ?_⟩; have n0_ := Aside0.mk (Kd.R_below (by (with_reducible repeat (first | apply Kd.R_alloc | apply Kd.R_drewN | apply Kd.R_drew)); exact HO103.out) hb); have n1_ := Aside0.mk (Kd.R_lower ho0 (below_size (by repeat (first | (with_reducible first | exact HB.out | apply below_alloc | apply pw_below_drewN | apply below_drew1) | exact HB.out)))); have n2_ := Aside0.mk (below_step (by repeat (first | (with_reducible first | exact HB.out | apply below_alloc | apply pw_below_drewN | apply below_drew1) | exact HB.out)) hb); clear HO103; clear HB; have HO103 := n0_; have HO107 := n1_; have HB := n2_; clear n0_ n1_ n2_; (try clear hb); (try clear hb2); (try clear hk); (try clear hi); (try clear ho0); have hcv7 := own_string (P := Try.prog) Try.underlying22 Try.underlying5 Try.underlying9 (Kd.own_of_R HO107.out); have hcv8 := fun (nd_ : Nat) => own_string (P := Try.prog) Try.underlying22 Try.underlying5 Try.underlying9 (Kd.own_of_R (Kd.R_drewN HO107.out nd_))))
    go_ret
    exact ⟨by first | rfl | (simp [errW_none, errW_some] <;> rfl) | (simp [*, errW_none, errW_some] <;> rfl), by repeat (first | (with_reducible first | exact HB.out | apply below_alloc | apply pw_below_drewN | apply below_drew1) | exact HB.out)⟩
  · rw [if_neg c2] at H
    have c2b0 : (t105 == 0) = false := beq_eq_false_iff_ne.mpr c2
    have c2b1 : (t105 != 0) = true := bne_iff_ne.mpr c2
    obtain rfl := Option.some.inj H
    go_enter Try.func25, Try.ntmps25
    go_wp2_with (first | ((with_reducible refine gate_dst (N := 4) rfl ?_); refine Kd.R_lit (Kd.int .i64) _ 3 ?hg (N := 4) ?hd (xs := ([98, 252, 99, 104, 101, 114] : List Int)) (inner := [.int .i64 98, .int .i64 252, .int .i64 99, .int .i64 104, .int .i64 101, .int .i64 114]) (ok := fun _ => True) (okp := fun _ => True) ?hr ?hp (fun _ hk => hk) trivial (Below.refl _ _) (Nat.le_refl _) (by simp) ?_; (case hd => rfl); (case hg => rfl); (case hr => first | (go_simp; done) | (go_simp; rfl)); (case hp => exact (Reps.one (show Kd.M (Kd.int .i64) _ _ _ 98 [.int .i64 98] from rfl) (Reps.one (show Kd.M (Kd.int .i64) _ _ _ 252 [.int .i64 252] from rfl) (Reps.one (show Kd.M (Kd.int .i64) _ _ _ 99 [.int .i64 99] from rfl) (Reps.one (show Kd.M (Kd.int .i64) _ _ _ 104 [.int .i64 104] from rfl) (Reps.one (show Kd.M (Kd.int .i64) _ _ _ 101 [.int .i64 101] from rfl) (Reps.one (show Kd.M (Kd.int .i64) _ _ _ 114 [.int .i64 114] from rfl) (Reps.none _ _)))))))); intro v102 w9 ho10 hb hg_ hnew_; clear hg_ hnew_; (first | rw [← Ny101.out] at ho10 | (simp only [Int.reduceToNat] at ho10; rw [← Ny101.out] at ho10)); have n0_ := Aside0.mk (Kd.R_lower ho10 (below_size (by repeat (first | (with_reducible first | exact HB.out | apply below_alloc | apply pw_below_drewN | apply below_drew1) | exact HB.out)))); have n1_ := Aside0.mk (below_step (by repeat (first | (with_reducible first | exact HB.out | apply below_alloc | apply pw_below_drewN | apply below_drew1) | exact HB.out)) hb); clear HB; have HO103 := n0_; have HB := n1_; clear n0_ n1_; clear hb ho10; obtain ⟨Ao11, co11, eo11⟩ := Kd.R_slice HO103.out; subst eo11) | ((with_reducible refine gate_callee (f := 26) rfl ?_); refine goesL_ (some 5) rfl rfl Try.func26 (by kernel_rfl) rfl #[.slice Ao11 y101.length co11] rfl (by (try simp only [List.map_toArray, List.map_cons, List.map_nil]); first | done | rfl | (simp only [List.length_drop, List.length_take]; rfl)) ?_; (with_reducible refine (puny_Encode.calls k _ _ y101 t104 t105 _ ?side1 ?side2 A1.out).mono ?_); (case side1 => repeat (first | exact (Kd.R_reads' HO103.out).2.2 | (with_reducible refine Kd.C_alloc ?_ _) | (with_reducible refine Kd.C_drewN ?_ _) | (with_reducible refine Kd.C_drew ?_))); (case side2 => exact (Kd.R_reads' HO103.out).2.1); rintro e w12 ⟨v106, rfl, ho0, hb⟩; refine ⟨_, rfl, ?_⟩; have n0_ := Aside0.mk (Kd.R_below (by (with_reducible repeat (first | apply Kd.R_alloc | apply Kd.R_drewN | apply Kd.R_drew)); exact HO103.out) hb); have n1_ := Aside0.mk (Kd.R_lower ho0 (below_size (by repeat (first | (with_reducible first | exact HB.out | apply below_alloc | apply pw_below_drewN | apply below_drew1) | exact HB.out)))); have n2_ := Aside0.mk (below_step (by repeat (first | (with_reducible first | exact HB.out | apply below_alloc | apply pw_below_drewN | apply below_drew1) | exact HB.out)) hb); clear HO103; clear HB; have HO103 := n0_; have HO107 := n1_; have HB := n2_; clear n0_ n1_ n2_; (try clear hb); (try clear hb2); (try clear hk); (try clear hi); (try clear ho0)))
    go_ret
    exact ⟨by first | rfl | (simp [errW_none, errW_some] <;> rfl) | (simp [*, errW_none, errW_some] <;> rfl), by repeat (first | (with_reducible first | exact HB.out | apply below_alloc | apply pw_below_drewN | apply below_drew1) | exact HB.out)⟩

end Go.Proofs.Ytooiajkbpkfplaa.Q

-- from Ppuny0
/- PunyPlain's part: the document's example of layer 12, scalars. -/
namespace Go.Proofs.Ytooiajkbpkfplaa.K
set_option linter.unusedVariables false
set_option linter.unusedSimpArgs false
open Go.RowKit Go.Proofs.YtooiajkbpkfplaaW.PrintWords Go.Proofs.Ytooiajkbpkfplaa.Q

theorem awake12 : paronymlaw12_awake.f 60 = some true := by decide +kernel
theorem awake12_ev : Ev (fun k => paronymlaw12_awake.f k) true := Ev.of (fun k => paronymlaw12_awake.mono k) awake12
def scalar (c : Int) : Bool := decide (0 ≤ c) && (decide (c ≤ 1114111) && (decide (c < 55296) || decide (c > 57343)))
theorem utf_Scalar_is (c : Int) : utf_Scalar.f c = some (scalar c) := by
  unfold utf_Scalar.f scalar
  by_cases a : c ≥ 0
  · have a' : 0 ≤ c := a
    rw [if_pos a]
    by_cases b : c ≤ 1114111
    · rw [if_pos b]
      by_cases d : c < 55296
      · rw [if_pos d]; simp [a', b, d]
      · rw [if_neg d]; simp [a', b, d]
    · rw [if_neg b]; simp [b]
  · have a' : ¬ 0 ≤ c := a
    rw [if_neg a]; simp [a']
theorem unscalar_is (c : Int) : puny_Encode_1.f c = some (!scalar c) := by unfold puny_Encode_1.f; rw [utf_Scalar_is]; rfl
theorem any_unscalar_ev (l : List Int) (hl : l.length ≤ 1099511627776) : Ev (fun k => slices_ContainsFunc_int_int_at_puny_Encode_1.f k l) (l.any fun c => !scalar c) := by
  unfold slices_ContainsFunc_int_int_at_puny_Encode_1.f slices_IndexFunc_int_int_at_puny_Encode_1.f
  exact contains_ev (p := puny_Encode_1.f) (q := fun c => !scalar c) (fun k x n i => rfl) l (by omega) (fun y _ => unscalar_is y)

end Go.Proofs.Ytooiajkbpkfplaa.K

-- from Qf29
-- Made by hp.py, a program of this session, with the kit's printer. Not trusted: Lean checks it.
namespace Go.Proofs.Ytooiajkbpkfplaa.Q
open Go.RowKit Go.Proofs.YtooiajkbpkfplaaW.PrintWords Go.Proofs.YtooiajkbpkfplaaW.PrintLast Go.Proofs.YtooiajkbpkfplaaW.PrintMore
attribute [local go_sem] max2_int min2_int max_two min_two max_three min_three max_four min_four   -- for this text's walks alone
set_option linter.unusedVariables false
set_option linter.unusedSimpArgs false

/-! ### paronymref01_Encode: function 29 -/
def paronymref01_Encode.l0 : Nat → List Int → ByteArray → Int → Option (ByteArray × Bool)
  | 0, _, _, _ => none
  | k + 1, x0, x4, x5 => if x5 < (x0.length : Int) then (if 0 ≤ x5 then ((paronymref01_Scalar.f (rd x0 x5)).bind fun t102 => (if t102 = true then ((paronymref01_Octets.f k (rd x0 x5)).bind fun t104 => (if x4.size + t104.size ≤ 9223372036854775807 then (paronymref01_Encode.l0 k x0 (x4 ++ t104) (wrap64 (x5 + 1))) else (none))) else (some ((⟨#[]⟩ : ByteArray), false)))) else (none)) else (some (x4, true))
def paronymref01_Encode.f (k : Nat) (l0 : List Int) : Option (ByteArray × Bool) := paronymref01_Encode.l0 k l0 (⟨#[]⟩ : ByteArray) 0
theorem paronymref01_Encode.mono_l : ∀ k, (∀ y0 y1 y2, LeO (paronymref01_Encode.l0 k y0 y1 y2) (paronymref01_Encode.l0 (k + 1) y0 y1 y2))
  | 0 => fun _ _ _ r h => by simp [paronymref01_Encode.l0] at h
  | k + 1 => by
    have ih0 := paronymref01_Encode.mono_l k
    · intro y0 y1 y2
      unfold paronymref01_Encode.l0
      repeat' first
      | (with_reducible exact ih0 _ _ _)
      | (with_reducible exact paronymref01_Octets.mono _ _)
      | (with_reducible exact LeO.refl _)
      | (with_reducible exact LeO.none _)
      | (with_reducible refine LeO.ite ?_ ?_)
      | (with_reducible refine LeO.bind ?_ (fun _ => ?_))
      | exact ih0 _ _ _
      | exact paronymref01_Octets.mono _ _
      | exact LeO.none _
      | refine LeO.ite ?_ ?_
      | refine LeO.bind ?_ (fun _ => ?_)
theorem paronymref01_Encode.mono : ∀ a0 k, LeO (paronymref01_Encode.f k a0) (paronymref01_Encode.f (k + 1) a0) := by
  intro a0 k
  have ih0 := paronymref01_Encode.mono_l k
  unfold paronymref01_Encode.f
  repeat' first
      | (with_reducible exact ih0 _ _ _)
      | (with_reducible exact paronymref01_Octets.mono _ _)
      | (with_reducible exact LeO.refl _)
      | (with_reducible exact LeO.none _)
      | (with_reducible refine LeO.ite ?_ ?_)
      | (with_reducible refine LeO.bind ?_ (fun _ => ?_))
      | exact ih0 _ _ _
      | exact paronymref01_Octets.mono _ _
      | exact LeO.none _
      | refine LeO.ite ?_ ?_
      | refine LeO.bind ?_ (fun _ => ?_)
set_option maxHeartbeats 8000000 in
set_option maxRecDepth 100000 in
theorem paronymref01_Encode.calls (k : Nat) (A0 : Option Addr) (c0 : Nat) (l0 : List Int) (r1 : ByteArray) (r2 : Bool) (w : World) (hr0 : Kd.C (Kd.int .i64) w A0 l0.length l0) (hc0 : l0.length ≤ c0) (h : paronymref01_Encode.f k l0 = some (r1, r2)) :
    Calls Try.prog 29 #[.slice A0 l0.length c0] w fun e w' => e = .returned (.tuple #[.string r1, .bool r2]) ∧ Below w.heap.size w w' := by
  have HR0 := Aside0.mk hr0
  have HC0 := Aside0.mk hc0
  clear hr0 hc0
  have HB := Aside0.mk (Below.refl w.heap.size w)
  have H : (paronymref01_Encode.l0 k l0 (⟨#[]⟩ : ByteArray) 0) = some (r1, r2) := h
  clear h
  have H' := Aside0.mk H
  clear H
  go_enter Try.func29, Try.ntmps29
  go_wp2
  go_loopg [4, 5] k (fun kq v4 v5 w' => ∃ (x4_1 : ByteArray) (x5_1 : Int), v4 = .string x4_1 ∧ v5 = .int .i64 x5_1 ∧ Aside0 (paronymref01_Encode.l0 kq l0 x4_1 x5_1 = some (r1, r2)) ∧ Aside0 (kq ≤ k) ∧ Aside0 (Below w.heap.size w w'))
  case atStart => exact ⟨((⟨#[]⟩ : ByteArray)), (0), (by first | rfl | (simp; done) | (simp [*]; done)), (by first | rfl | (simp; done) | (simp [*]; done)), H', ⟨Nat.le_refl _⟩, ⟨by repeat (first | (with_reducible first | exact HB.out | apply below_alloc | apply pw_below_drewN | apply below_drew1) | exact HB.out)⟩⟩
  case round =>
    clear H'
    obtain ⟨x4_1, x5_1, rfl, rfl, HA, HK1, HB⟩ := hrel
    cases gk with
    | zero => exact absurd HA.out (by simp [paronymref01_Encode.l0])
    | succ k1 =>
      have H := HA.out
      clear HA
      simp only [paronymref01_Encode.l0] at H
      by_cases c2 : x5_1 < (l0.length : Int)
      · rw [if_pos c2] at H
        have c2b0 : decide (x5_1 < (l0.length : Int)) = true := decide_eq_true c2
        clear c2
        by_cases c3 : 0 ≤ x5_1
        · rw [if_pos c3] at H
          have c3b0 : decide (0 ≤ x5_1) = true := decide_eq_true c3
          clear c3
          replace H := Option.bind_eq_some_iff.mp H
          obtain ⟨t102, A40, H⟩ := H
          replace H : (if t102 = true then ((paronymref01_Octets.f k1 (rd l0 x5_1)).bind fun t104 => (if x4_1.size + t104.size ≤ 9223372036854775807 then (paronymref01_Encode.l0 k1 l0 (x4_1 ++ t104) (wrap64 (x5_1 + 1))) else (none))) else (some ((⟨#[]⟩ : ByteArray), false))) = some (r1, r2) := H
          have A4 := Aside0.mk A40
          clear A40
          by_cases c5 : t102 = true
          · subst c5
            have H1 : ((paronymref01_Octets.f k1 (rd l0 x5_1)).bind fun t104 => (if x4_1.size + t104.size ≤ 9223372036854775807 then (paronymref01_Encode.l0 k1 l0 (x4_1 ++ t104) (wrap64 (x5_1 + 1))) else (none))) = some (r1, r2) := by rw [if_pos rfl] at H; exact H
            clear H
            have H := H1
            clear H1
            replace H := Option.bind_eq_some_iff.mp H
            obtain ⟨t104, A60, H⟩ := H
            replace H : (if x4_1.size + t104.size ≤ 9223372036854775807 then (paronymref01_Encode.l0 k1 l0 (x4_1 ++ t104) (wrap64 (x5_1 + 1))) else (none)) = some (r1, r2) := H
            have A6 := Aside0.mk A60
            clear A60
            by_cases c7 : x4_1.size + t104.size ≤ 9223372036854775807
            · rw [if_pos c7] at H
              have c7b0 := eq_true c7
              have c7b1 : decide (x4_1.size + t104.size ≤ 9223372036854775807) = true := decide_eq_true c7
              try have c7b2 : (9223372036854775807 < x4_1.size + t104.size) = False := eq_false (Nat.not_lt.2 c7)
              have H' := Aside0.mk H
              clear H
              have p101 : 0 ≤ (x5_1 : Int) := of_decide_eq_true (by first | (with_reducible assumption) | assumption)
              have q101 : x5_1 < (l0.length : Int) := of_decide_eq_true (by first | (with_reducible assumption) | assumption)
              obtain ⟨ad101, e101, hx101_0⟩ := Kd.at_int HR0.out x5_1 p101 q101
              cases e101
              replace hx101_0 := (HB.out.cell (World.block_lt_of_cell? w _ hx101_0)).trans hx101_0
              replace p101 := eq_true p101
              replace q101 := eq_true q101
              go_wp2_with (first | ((with_reducible refine gate_callee (f := 40) rfl ?_); refine goesL_ (some 16) rfl rfl Try.func40 (by kernel_rfl) rfl #[.int .i64 (rd l0 x5_1)] rfl (by (try simp only [List.map_toArray, List.map_cons, List.map_nil]); first | done | rfl | (simp only [List.length_drop, List.length_take]; rfl)) ?_; (with_reducible refine (paronymref01_Scalar.calls (rd l0 x5_1) true _ A4.out).mono ?_); rintro e w' ⟨rfl, ⟨nd, rfl⟩⟩; refine ⟨_, rfl, ?_⟩; have p103 : 0 ≤ (x5_1 : Int) := of_decide_eq_true (by first | (with_reducible assumption) | assumption); have q103 : x5_1 < (l0.length : Int) := of_decide_eq_true (by first | (with_reducible assumption) | assumption); obtain ⟨ad103, e103, hx103_0⟩ := Kd.at_int HR0.out x5_1 p103 q103; obtain rfl : ad101 = ad103 := (by injection e103); replace hx103_0 := (HB.out.cell (World.block_lt_of_cell? w _ hx103_0)).trans hx103_0; replace p103 := eq_true p103; replace q103 := eq_true q103) | ((with_reducible refine gate_callee (f := 34) rfl ?_); refine goesL_ (some 23) rfl rfl Try.func34 (by kernel_rfl) rfl #[.int .i64 (rd l0 x5_1)] rfl (by (try simp only [List.map_toArray, List.map_cons, List.map_nil]); first | done | rfl | (simp only [List.length_drop, List.length_take]; rfl)) ?_; (with_reducible refine (paronymref01_Octets.calls k1 (rd l0 x5_1) t104 _ A6.out).mono ?_); rintro e w8 ⟨rfl, hb⟩; refine ⟨_, rfl, ?_⟩; have n0_ := Aside0.mk (below_step (by repeat (first | (with_reducible first | exact HB.out | apply below_alloc | apply pw_below_drewN | apply below_drew1) | exact HB.out)) hb); clear HB; have HB := n0_; clear n0_; (try clear hb); (try clear hb2); (try clear hk); (try clear hi)))
              go_roundg k1
              case measure => have := HK1.out; omega
              case rel => exact ⟨(x4_1 ++ t104), (wrap64 (x5_1 + 1)), (by first | rfl | (simp; done) | (simp [*]; done)), (by first | rfl | (simp; done) | (simp [*]; done)), H', ⟨by have := HK1.out; omega⟩, ⟨by repeat (first | (with_reducible first | exact HB.out | apply below_alloc | apply pw_below_drewN | apply below_drew1) | exact HB.out)⟩⟩
            · rw [if_neg c7] at H
              exact absurd H (by simp)
          · replace c5 := Bool.eq_false_iff.mpr c5
            subst c5
            have H1 : (some ((⟨#[]⟩ : ByteArray), false)) = some (r1, r2) := by rw [if_neg (show ¬ (false = true) by decide)] at H; exact H
            clear H
            have H := H1
            clear H1
            simp only [Option.some.injEq, Prod.mk.injEq] at H
            obtain ⟨rfl, rfl⟩ := H
            have p101 : 0 ≤ (x5_1 : Int) := of_decide_eq_true (by first | (with_reducible assumption) | assumption)
            have q101 : x5_1 < (l0.length : Int) := of_decide_eq_true (by first | (with_reducible assumption) | assumption)
            obtain ⟨ad101, e101, hx101_0⟩ := Kd.at_int HR0.out x5_1 p101 q101
            cases e101
            replace hx101_0 := (HB.out.cell (World.block_lt_of_cell? w _ hx101_0)).trans hx101_0
            replace p101 := eq_true p101
            replace q101 := eq_true q101
            go_wp2_with (first | ((with_reducible refine gate_callee (f := 40) rfl ?_); refine goesL_ (some 16) rfl rfl Try.func40 (by kernel_rfl) rfl #[.int .i64 (rd l0 x5_1)] rfl (by (try simp only [List.map_toArray, List.map_cons, List.map_nil]); first | done | rfl | (simp only [List.length_drop, List.length_take]; rfl)) ?_; (with_reducible refine (paronymref01_Scalar.calls (rd l0 x5_1) false _ A4.out).mono ?_); rintro e w' ⟨rfl, ⟨nd, rfl⟩⟩; refine ⟨_, rfl, ?_⟩))
            go_ret2
            exact ⟨by first | rfl | (simp [errW_none, errW_some] <;> rfl) | (simp [*, errW_none, errW_some] <;> rfl), by repeat (first | (with_reducible first | exact HB.out | apply below_alloc | apply pw_below_drewN | apply below_drew1) | exact HB.out)⟩
        · rw [if_neg c3] at H
          exact absurd H (by simp)
      · rw [if_neg c2] at H
        have c2b0 : decide (x5_1 < (l0.length : Int)) = false := decide_eq_false c2
        clear c2
        simp only [Option.some.injEq, Prod.mk.injEq] at H
        obtain ⟨rfl, rfl⟩ := H
        go_wp2
        go_ret2
        exact ⟨by first | rfl | (simp [errW_none, errW_some] <;> rfl) | (simp [*, errW_none, errW_some] <;> rfl), by repeat (first | (with_reducible first | exact HB.out | apply below_alloc | apply pw_below_drewN | apply below_drew1) | exact HB.out)⟩

end Go.Proofs.Ytooiajkbpkfplaa.Q

-- from Qf36
-- Made by hp.py, a program of this session, with the kit's printer. Not trusted: Lean checks it.
namespace Go.Proofs.Ytooiajkbpkfplaa.Q
open Go.RowKit Go.Proofs.YtooiajkbpkfplaaW.PrintWords Go.Proofs.YtooiajkbpkfplaaW.PrintLast Go.Proofs.YtooiajkbpkfplaaW.PrintMore
attribute [local go_sem] max2_int min2_int max_two min_two max_three min_three max_four min_four   -- for this text's walks alone
set_option linter.unusedVariables false
set_option linter.unusedSimpArgs false

/-! ### paronymref01_Compare: function 36 -/
mutual
def paronymref01_Compare.l0 : Nat → List Int → List Int → Int → Option (Int)
  | 0, _, _, _ => none
  | k + 1, x0, x1, x5 => if x5 < (x0.length : Int) then (paronymref01_Compare.j1 k x0 x1 x5 (decide (x5 < (x1.length : Int)))) else (paronymref01_Compare.j1 k x0 x1 x5 false)
def paronymref01_Compare.j1 : Nat → List Int → List Int → Int → Bool → Option (Int)
  | 0, _, _, _, _ => none
  | k + 1, x0, x1, x5, x15 => if x15 = true then (if 0 ≤ x5 then (if x5 < (x0.length : Int) then (if x5 < (x1.length : Int) then (if (rd x0 x5) < (rd x1 x5) then (some (-1)) else (if (rd x0 x5) > (rd x1 x5) then (some 1) else (paronymref01_Compare.l0 k x0 x1 (wrap64 (x5 + 1))))) else (none)) else (none)) else (none)) else (if (x0.length : Int) < (x1.length : Int) then (some (-1)) else (if (x0.length : Int) > (x1.length : Int) then (some 1) else (some 0)))
end
def paronymref01_Compare.f (k : Nat) (l0 : List Int) (l1 : List Int) : Option (Int) := paronymref01_Compare.l0 k l0 l1 0
theorem paronymref01_Compare.mono_l : ∀ k, (∀ y0 y1 y2, LeO (paronymref01_Compare.l0 k y0 y1 y2) (paronymref01_Compare.l0 (k + 1) y0 y1 y2)) ∧ (∀ y0 y1 y2 y3, LeO (paronymref01_Compare.j1 k y0 y1 y2 y3) (paronymref01_Compare.j1 (k + 1) y0 y1 y2 y3))
  | 0 => ⟨fun _ _ _ r h => by simp [paronymref01_Compare.l0] at h, fun _ _ _ _ r h => by simp [paronymref01_Compare.j1] at h⟩
  | k + 1 => by
    obtain ⟨ih0, ih1⟩ := paronymref01_Compare.mono_l k
    refine ⟨?_, ?_⟩
    · intro y0 y1 y2
      unfold paronymref01_Compare.l0
      repeat' first
      | (with_reducible exact ih0 _ _ _)
      | (with_reducible exact ih1 _ _ _ _)
      | (with_reducible exact LeO.refl _)
      | (with_reducible exact LeO.none _)
      | (with_reducible refine LeO.ite ?_ ?_)
      | (with_reducible refine LeO.bind ?_ (fun _ => ?_))
      | exact ih0 _ _ _
      | exact ih1 _ _ _ _
      | exact LeO.none _
      | refine LeO.ite ?_ ?_
      | refine LeO.bind ?_ (fun _ => ?_)
    · intro y0 y1 y2 y3
      unfold paronymref01_Compare.j1
      repeat' first
      | (with_reducible exact ih0 _ _ _)
      | (with_reducible exact ih1 _ _ _ _)
      | (with_reducible exact LeO.refl _)
      | (with_reducible exact LeO.none _)
      | (with_reducible refine LeO.ite ?_ ?_)
      | (with_reducible refine LeO.bind ?_ (fun _ => ?_))
      | exact ih0 _ _ _
      | exact ih1 _ _ _ _
      | exact LeO.none _
      | refine LeO.ite ?_ ?_
      | refine LeO.bind ?_ (fun _ => ?_)
theorem paronymref01_Compare.mono : ∀ a0 a1 k, LeO (paronymref01_Compare.f k a0 a1) (paronymref01_Compare.f (k + 1) a0 a1) := by
  intro a0 a1 k
  obtain ⟨ih0, ih1⟩ := paronymref01_Compare.mono_l k
  unfold paronymref01_Compare.f
  repeat' first
      | (with_reducible exact ih0 _ _ _)
      | (with_reducible exact ih1 _ _ _ _)
      | (with_reducible exact LeO.refl _)
      | (with_reducible exact LeO.none _)
      | (with_reducible refine LeO.ite ?_ ?_)
      | (with_reducible refine LeO.bind ?_ (fun _ => ?_))
      | exact ih0 _ _ _
      | exact ih1 _ _ _ _
      | exact LeO.none _
      | refine LeO.ite ?_ ?_
      | refine LeO.bind ?_ (fun _ => ?_)
set_option maxHeartbeats 8000000 in
set_option maxRecDepth 100000 in
theorem paronymref01_Compare.calls (k : Nat) (A0 : Option Addr) (c0 : Nat) (l0 : List Int) (A1 : Option Addr) (c1 : Nat) (l1 : List Int) (r : Int) (w : World) (hr0 : Kd.C (Kd.int .i64) w A0 l0.length l0) (hc0 : l0.length ≤ c0) (hr1 : Kd.C (Kd.int .i64) w A1 l1.length l1) (hc1 : l1.length ≤ c1) (h : paronymref01_Compare.f k l0 l1 = some r) :
    Calls Try.prog 36 #[.slice A0 l0.length c0, .slice A1 l1.length c1] w fun e w' => e = .returned (.int .i64 r) ∧ Drawn0 w w' := by
  have HR0 := Aside0.mk hr0
  have HC0 := Aside0.mk hc0
  clear hr0 hc0
  have HR1 := Aside0.mk hr1
  have HC1 := Aside0.mk hc1
  clear hr1 hc1
  have H : (paronymref01_Compare.l0 k l0 l1 0) = some r := h
  clear h
  have H' := Aside0.mk H
  clear H
  go_enter Try.func36, Try.ntmps36
  go_wp2
  repeat (go_quiet (fail); try go_wp2)
  go_loopg [5] k (fun kq v5 w' => ∃ (x5_1 : Int), v5 = .int .i64 x5_1 ∧ Aside0 (paronymref01_Compare.l0 kq l0 l1 x5_1 = some r) ∧ Aside0 (kq ≤ k) ∧ Drawn0 w w')
  case atStart => exact ⟨(0), (by first | rfl | (simp; done) | (simp [*]; done)), H', ⟨Nat.le_refl _⟩, by repeat (first | exact Drawn0.refl _ | apply Drawn0.step)⟩
  case round =>
    clear H'
    try clear c1
    try clear p2
    obtain ⟨x5_1, rfl, HA, HK1, ⟨m1, rfl⟩⟩ := hrel
    cases gk with
    | zero => exact absurd HA.out (by simp [paronymref01_Compare.l0])
    | succ k1 =>
      have H := HA.out
      clear HA
      simp only [paronymref01_Compare.l0] at H
      have HC3 := Aside0.mk H
      clear H
      go_upto_region 2 with (fail)
      repeat (go_quiet (fail); go_upto_region 2 with (fail))
      go_cut [15] (fun v15 wc => ∃ (kq : Nat) (x15_2 : Bool), v15 = .bool x15_2 ∧ Aside0 (paronymref01_Compare.j1 kq l0 l1 x5_1 x15_2 = some r) ∧ Aside0 (kq ≤ k1) ∧ Drawn0 w wc)
      case first =>
        have H := HC3.out
        clear HC3
        by_cases c4 : x5_1 < (l0.length : Int)
        · rw [if_pos c4] at H
          have c4b0 : decide (x5_1 < (l0.length : Int)) = true := decide_eq_true c4
          clear c4
          (first | rw [c4b0] | (simp only [i64_w, i32_w]; rw [c4b0]) | rw [c4b1] | (simp only [i64_w, i32_w]; rw [c4b1]) | skip)
          have H' := Aside0.mk H
          clear H
          go_wp2
          repeat (go_quiet (fail); try go_wp2)
          go_meet
          case rel => exact ⟨_, (decide (x5_1 < (l1.length : Int))), (by first | rfl | (simp; done) | (simp [*]; done)), H', ⟨by have := HK1.out; first | omega | exact Nat.le_refl _⟩, by repeat (first | exact Drawn0.refl _ | apply Drawn0.step)⟩
        · rw [if_neg c4] at H
          have c4b0 : decide (x5_1 < (l0.length : Int)) = false := decide_eq_false c4
          clear c4
          (first | rw [c4b0] | (simp only [i64_w, i32_w]; rw [c4b0]) | rw [c4b1] | (simp only [i64_w, i32_w]; rw [c4b1]) | skip)
          have H' := Aside0.mk H
          clear H
          go_wp2
          repeat (go_quiet (fail); try go_wp2)
          go_meet
          case rel => exact ⟨_, (false), (by first | rfl | (simp; done) | (simp [*]; done)), H', ⟨by have := HK1.out; first | omega | exact Nat.le_refl _⟩, by repeat (first | exact Drawn0.refl _ | apply Drawn0.step)⟩
      case rest =>
        clear HC3
        try clear c1
        try clear p2
        try clear c3
        try clear c4
        try clear c4b0
        try clear c4b1
        try clear p2
        obtain ⟨kq, x15_2, rfl, HA, HJ2, ⟨mc2, rfl⟩⟩ := hcut
        cases kq with
        | zero => exact absurd HA.out (by simp [paronymref01_Compare.j1])
        | succ kj2 =>
          have H := HA.out
          clear HA
          simp only [paronymref01_Compare.j1] at H
          by_cases c5 : x15_2 = true
          · subst c5
            have H1 : (if 0 ≤ x5_1 then (if x5_1 < (l0.length : Int) then (if x5_1 < (l1.length : Int) then (if (rd l0 x5_1) < (rd l1 x5_1) then (some (-1)) else (if (rd l0 x5_1) > (rd l1 x5_1) then (some 1) else (paronymref01_Compare.l0 kj2 l0 l1 (wrap64 (x5_1 + 1))))) else (none)) else (none)) else (none)) = some r := by rw [if_pos rfl] at H; exact H
            clear H
            have H := H1
            clear H1
            by_cases c6 : 0 ≤ x5_1
            · rw [if_pos c6] at H
              have c6b0 : decide (0 ≤ x5_1) = true := decide_eq_true c6
              clear c6
              by_cases c7 : x5_1 < (l0.length : Int)
              · rw [if_pos c7] at H
                have c7b0 : decide (x5_1 < (l0.length : Int)) = true := decide_eq_true c7
                clear c7
                by_cases c8 : x5_1 < (l1.length : Int)
                · rw [if_pos c8] at H
                  have c8b0 : decide (x5_1 < (l1.length : Int)) = true := decide_eq_true c8
                  clear c8
                  by_cases c9 : (rd l0 x5_1) < (rd l1 x5_1)
                  · rw [if_pos c9] at H
                    have c9b0 : decide ((rd l0 x5_1) < (rd l1 x5_1)) = true := decide_eq_true c9
                    clear c9
                    obtain rfl := Option.some.inj H
                    have p101 : 0 ≤ (x5_1 : Int) := of_decide_eq_true (by first | (with_reducible assumption) | assumption)
                    have q101 : x5_1 < (l0.length : Int) := of_decide_eq_true (by first | (with_reducible assumption) | assumption)
                    obtain ⟨ad101, e101, hx101_0⟩ := Kd.at_int HR0.out x5_1 p101 q101
                    cases e101
                    replace p101 := eq_true p101
                    replace q101 := eq_true q101
                    have p102 : 0 ≤ (x5_1 : Int) := of_decide_eq_true (by first | (with_reducible assumption) | assumption)
                    have q102 : x5_1 < (l1.length : Int) := of_decide_eq_true (by first | (with_reducible assumption) | assumption)
                    obtain ⟨ad102, e102, hx102_0⟩ := Kd.at_int HR1.out x5_1 p102 q102
                    cases e102
                    replace p102 := eq_true p102
                    replace q102 := eq_true q102
                    go_wp2
                    repeat (go_quiet (fail); try go_wp2)
                    go_ret
                    exact ⟨by first | rfl | (simp; done) | (simp [*]; done), by repeat (first | exact Drawn0.refl _ | apply Drawn0.step)⟩
                  · rw [if_neg c9] at H
                    have c9b0 : decide ((rd l0 x5_1) < (rd l1 x5_1)) = false := decide_eq_false c9
                    clear c9
                    by_cases c10 : (rd l0 x5_1) > (rd l1 x5_1)
                    · rw [if_pos c10] at H
                      have c10b0 : decide ((rd l1 x5_1) < (rd l0 x5_1)) = true := decide_eq_true c10
                      clear c10
                      obtain rfl := Option.some.inj H
                      have p101 : 0 ≤ (x5_1 : Int) := of_decide_eq_true (by first | (with_reducible assumption) | assumption)
                      have q101 : x5_1 < (l0.length : Int) := of_decide_eq_true (by first | (with_reducible assumption) | assumption)
                      obtain ⟨ad101, e101, hx101_0⟩ := Kd.at_int HR0.out x5_1 p101 q101
                      cases e101
                      replace p101 := eq_true p101
                      replace q101 := eq_true q101
                      have p102 : 0 ≤ (x5_1 : Int) := of_decide_eq_true (by first | (with_reducible assumption) | assumption)
                      have q102 : x5_1 < (l1.length : Int) := of_decide_eq_true (by first | (with_reducible assumption) | assumption)
                      obtain ⟨ad102, e102, hx102_0⟩ := Kd.at_int HR1.out x5_1 p102 q102
                      cases e102
                      replace p102 := eq_true p102
                      replace q102 := eq_true q102
                      have p103 : 0 ≤ (x5_1 : Int) := of_decide_eq_true (by first | (with_reducible assumption) | assumption)
                      have q103 : x5_1 < (l0.length : Int) := of_decide_eq_true (by first | (with_reducible assumption) | assumption)
                      obtain ⟨ad103, e103, hx103_0⟩ := Kd.at_int HR0.out x5_1 p103 q103
                      obtain rfl : ad101 = ad103 := (by injection e103)
                      replace p103 := eq_true p103
                      replace q103 := eq_true q103
                      have p104 : 0 ≤ (x5_1 : Int) := of_decide_eq_true (by first | (with_reducible assumption) | assumption)
                      have q104 : x5_1 < (l1.length : Int) := of_decide_eq_true (by first | (with_reducible assumption) | assumption)
                      obtain ⟨ad104, e104, hx104_0⟩ := Kd.at_int HR1.out x5_1 p104 q104
                      obtain rfl : ad102 = ad104 := (by injection e104)
                      replace p104 := eq_true p104
                      replace q104 := eq_true q104
                      go_wp2
                      repeat (go_quiet (fail); try go_wp2)
                      go_ret
                      exact ⟨by first | rfl | (simp; done) | (simp [*]; done), by repeat (first | exact Drawn0.refl _ | apply Drawn0.step)⟩
                    · rw [if_neg c10] at H
                      have c10b0 : decide ((rd l1 x5_1) < (rd l0 x5_1)) = false := decide_eq_false c10
                      clear c10
                      have H' := Aside0.mk H
                      clear H
                      have p101 : 0 ≤ (x5_1 : Int) := of_decide_eq_true (by first | (with_reducible assumption) | assumption)
                      have q101 : x5_1 < (l0.length : Int) := of_decide_eq_true (by first | (with_reducible assumption) | assumption)
                      obtain ⟨ad101, e101, hx101_0⟩ := Kd.at_int HR0.out x5_1 p101 q101
                      cases e101
                      replace p101 := eq_true p101
                      replace q101 := eq_true q101
                      have p102 : 0 ≤ (x5_1 : Int) := of_decide_eq_true (by first | (with_reducible assumption) | assumption)
                      have q102 : x5_1 < (l1.length : Int) := of_decide_eq_true (by first | (with_reducible assumption) | assumption)
                      obtain ⟨ad102, e102, hx102_0⟩ := Kd.at_int HR1.out x5_1 p102 q102
                      cases e102
                      replace p102 := eq_true p102
                      replace q102 := eq_true q102
                      have p103 : 0 ≤ (x5_1 : Int) := of_decide_eq_true (by first | (with_reducible assumption) | assumption)
                      have q103 : x5_1 < (l0.length : Int) := of_decide_eq_true (by first | (with_reducible assumption) | assumption)
                      obtain ⟨ad103, e103, hx103_0⟩ := Kd.at_int HR0.out x5_1 p103 q103
                      obtain rfl : ad101 = ad103 := (by injection e103)
                      replace p103 := eq_true p103
                      replace q103 := eq_true q103
                      have p104 : 0 ≤ (x5_1 : Int) := of_decide_eq_true (by first | (with_reducible assumption) | assumption)
                      have q104 : x5_1 < (l1.length : Int) := of_decide_eq_true (by first | (with_reducible assumption) | assumption)
                      obtain ⟨ad104, e104, hx104_0⟩ := Kd.at_int HR1.out x5_1 p104 q104
                      obtain rfl : ad102 = ad104 := (by injection e104)
                      replace p104 := eq_true p104
                      replace q104 := eq_true q104
                      go_wp2
                      repeat (go_quiet (fail); try go_wp2)
                      go_roundg kj2
                      case measure => have := HK1.out; have := HJ2.out; omega
                      case rel => exact ⟨(wrap64 (x5_1 + 1)), (by first | rfl | (simp; done) | (simp [*]; done)), H', ⟨by have := HK1.out; have := HJ2.out; omega⟩, by repeat (first | exact Drawn0.refl _ | apply Drawn0.step)⟩
                · rw [if_neg c8] at H
                  exact absurd H (by simp)
              · rw [if_neg c7] at H
                exact absurd H (by simp)
            · rw [if_neg c6] at H
              exact absurd H (by simp)
          · replace c5 := Bool.eq_false_iff.mpr c5
            subst c5
            have H1 : (if (l0.length : Int) < (l1.length : Int) then (some (-1)) else (if (l0.length : Int) > (l1.length : Int) then (some 1) else (some 0))) = some r := by rw [if_neg (show ¬ (false = true) by decide)] at H; exact H
            clear H
            have H := H1
            clear H1
            by_cases c11 : (l0.length : Int) < (l1.length : Int)
            · rw [if_pos c11] at H
              have c11b0 : decide ((l0.length : Int) < (l1.length : Int)) = true := decide_eq_true c11
              have c11b1 : decide (l0.length < l1.length) = true := decide_eq_true (Int.ofNat_lt.mp c11)
              clear c11
              obtain rfl := Option.some.inj H
              go_wp2
              repeat (go_quiet (fail); try go_wp2)
              go_ret
              exact ⟨by first | rfl | (simp; done) | (simp [*]; done), by repeat (first | exact Drawn0.refl _ | apply Drawn0.step)⟩
            · rw [if_neg c11] at H
              have c11b0 : decide ((l0.length : Int) < (l1.length : Int)) = false := decide_eq_false c11
              have c11b1 : decide (l0.length < l1.length) = false := decide_eq_false (fun h => c11 (Int.ofNat_lt.mpr h))
              clear c11
              by_cases c12 : (l0.length : Int) > (l1.length : Int)
              · rw [if_pos c12] at H
                have c12b0 : decide ((l1.length : Int) < (l0.length : Int)) = true := decide_eq_true c12
                have c12b1 : decide (l1.length < l0.length) = true := decide_eq_true (Int.ofNat_lt.mp c12)
                clear c12
                obtain rfl := Option.some.inj H
                go_wp2
                repeat (go_quiet (fail); try go_wp2)
                go_ret
                exact ⟨by first | rfl | (simp; done) | (simp [*]; done), by repeat (first | exact Drawn0.refl _ | apply Drawn0.step)⟩
              · rw [if_neg c12] at H
                have c12b0 : decide ((l1.length : Int) < (l0.length : Int)) = false := decide_eq_false c12
                have c12b1 : decide (l1.length < l0.length) = false := decide_eq_false (fun h => c12 (Int.ofNat_lt.mpr h))
                clear c12
                obtain rfl := Option.some.inj H
                go_wp2
                repeat (go_quiet (fail); try go_wp2)
                go_ret
                exact ⟨by first | rfl | (simp; done) | (simp [*]; done), by repeat (first | exact Drawn0.refl _ | apply Drawn0.step)⟩

end Go.Proofs.Ytooiajkbpkfplaa.Q

-- from Qf31
-- Made by hp.py, a program of this session, with the kit's printer. Not trusted: Lean checks it.
namespace Go.Proofs.Ytooiajkbpkfplaa.Q
open Go.RowKit Go.Proofs.YtooiajkbpkfplaaW.PrintWords Go.Proofs.YtooiajkbpkfplaaW.PrintLast Go.Proofs.YtooiajkbpkfplaaW.PrintMore
attribute [local go_sem] max2_int min2_int max_two min_two max_three min_three max_four min_four   -- for this text's walks alone
set_option linter.unusedVariables false
set_option linter.unusedSimpArgs false

/-! ### paronymref01_Same: function 31 -/
def paronymref01_Same.f (k : Nat) (l0 : List Int) (l1 : List Int) : Option (Bool) := (paronymref01_Compare.f k l0 l1).bind fun t101 => (some (t101 == 0))
theorem paronymref01_Same.mono : ∀ a0 a1 k, LeO (paronymref01_Same.f k a0 a1) (paronymref01_Same.f (k + 1) a0 a1) := by
  intro a0 a1 k
  unfold paronymref01_Same.f
  repeat' first
      | (with_reducible exact paronymref01_Compare.mono _ _ _)
      | (with_reducible exact LeO.refl _)
      | (with_reducible exact LeO.none _)
      | (with_reducible refine LeO.ite ?_ ?_)
      | (with_reducible refine LeO.bind ?_ (fun _ => ?_))
      | exact paronymref01_Compare.mono _ _ _
      | exact LeO.none _
      | refine LeO.ite ?_ ?_
      | refine LeO.bind ?_ (fun _ => ?_)
set_option maxHeartbeats 8000000 in
set_option maxRecDepth 100000 in
theorem paronymref01_Same.calls (k : Nat) (A0 : Option Addr) (c0 : Nat) (l0 : List Int) (A1 : Option Addr) (c1 : Nat) (l1 : List Int) (r : Bool) (w : World) (hr0 : Kd.C (Kd.int .i64) w A0 l0.length l0) (hc0 : l0.length ≤ c0) (hr1 : Kd.C (Kd.int .i64) w A1 l1.length l1) (hc1 : l1.length ≤ c1) (h : paronymref01_Same.f k l0 l1 = some r) :
    Calls Try.prog 31 #[.slice A0 l0.length c0, .slice A1 l1.length c1] w fun e w' => e = .returned (.bool r) ∧ Drawn0 w w' := by
  have HR0 := Aside0.mk hr0
  have HC0 := Aside0.mk hc0
  clear hr0 hc0
  have HR1 := Aside0.mk hr1
  have HC1 := Aside0.mk hc1
  clear hr1 hc1
  have H : ((paronymref01_Compare.f k l0 l1).bind fun t101 => (some (t101 == 0))) = some r := h
  clear h
  replace H := Option.bind_eq_some_iff.mp H
  obtain ⟨t101, A30, H⟩ := H
  replace H : (some (t101 == 0)) = some r := H
  have A3 := Aside0.mk A30
  clear A30
  obtain rfl := Option.some.inj H
  go_enter Try.func31, Try.ntmps31
  go_wp2_with (first | ((with_reducible refine gate_callee (f := 36) rfl ?_); refine goesL_ (some 7) rfl rfl Try.func36 (by kernel_rfl) rfl #[.slice A0 l0.length c0, .slice A1 l1.length c1] rfl (by (try simp only [List.map_toArray, List.map_cons, List.map_nil]); first | done | rfl | (simp only [List.length_drop, List.length_take]; rfl)) ?_; (with_reducible refine (paronymref01_Compare.calls k _ _ l0 _ _ l1 t101 _ ?side1 ?side2 ?side3 ?side4 A3.out).mono ?_); (case side1 => repeat (first | exact HR0.out | (with_reducible refine Kd.C_alloc ?_ _) | (with_reducible refine Kd.C_drewN ?_ _) | (with_reducible refine Kd.C_drew ?_))); (case side2 => exact HC0.out); (case side3 => repeat (first | exact HR1.out | (with_reducible refine Kd.C_alloc ?_ _) | (with_reducible refine Kd.C_drewN ?_ _) | (with_reducible refine Kd.C_drew ?_))); (case side4 => exact HC1.out); rintro e w' ⟨rfl, ⟨nd, rfl⟩⟩; refine ⟨_, rfl, ?_⟩))
  go_ret
  exact ⟨by first | rfl | (simp; done) | (simp [*]; done), by repeat (first | exact Drawn0.refl _ | apply Drawn0.step)⟩

end Go.Proofs.Ytooiajkbpkfplaa.Q

-- from Putf
/- UTF-8 on lists of numbers: oct c are a scalar's octets; what the program's and the reference's Octets, Encode, next come to. -/
namespace Go.Proofs.Ytooiajkbpkfplaa.K
set_option linter.unusedVariables false
set_option linter.unusedSimpArgs false
open Go.RowKit Go.Proofs.YtooiajkbpkfplaaW.PrintWords Go.Proofs.YtooiajkbpkfplaaW.PrintMore Go.Proofs.Ytooiajkbpkfplaa.Q

theorem wraps_i64 (n : Int) (h₀ : 0 ≤ n) (h₁ : n < 2 ^ 40) : IntKind.i64.wrap n = n := by rw [IntKind.wrap_i64]; omega
theorem and63 {x : Int} (h0 : 0 ≤ x) (h1 : x < 1099511627776) : Go.bits .and .i64 x 63 = x % 64 := bits_mask .i64 40 (by decide) wraps_i64 6 (by decide) x h0 h1
theorem or_join {x y : Int} (i : Nat) (hx0 : 0 ≤ x) (hx : x % 2 ^ i = 0) (hx1 : x < 1099511627776) (hy0 : 0 ≤ y) (hy : y < 2 ^ i) (hy1 : y < 1099511627776) : Go.bits .or .i64 x y = x + y := bits_join .i64 40 (by decide) wraps_i64 i x y hx0 hx hx1 hy0 hy hy1
theorem or128 {y : Int} (h0 : 0 ≤ y) (h1 : y < 64) : Go.bits .or .i64 128 y = 128 + y := or_join 6 (by decide) (by decide) (by decide) h0 h1 (by omega)
theorem or192 {y : Int} (h0 : 0 ≤ y) (h1 : y < 32) : Go.bits .or .i64 192 y = 192 + y := or_join 5 (by decide) (by decide) (by decide) h0 h1 (by omega)
theorem or224 {y : Int} (h0 : 0 ≤ y) (h1 : y < 16) : Go.bits .or .i64 224 y = 224 + y := or_join 4 (by decide) (by decide) (by decide) h0 h1 (by omega)
theorem or240 {y : Int} (h0 : 0 ≤ y) (h1 : y < 8) : Go.bits .or .i64 240 y = 240 + y := or_join 3 (by decide) (by decide) (by decide) h0 h1 (by omega)
def oct (c : Int) : List Int :=
  if c < 128 then [c] else if c < 2048 then [192 + c / 64, 128 + c % 64] else if c < 65536 then [224 + c / 4096, 128 + c / 64 % 64, 128 + c % 64] else [240 + c / 262144, 128 + c / 4096 % 64, 128 + c / 64 % 64, 128 + c % 64]
theorem scalar_iff (c : Int) : scalar c = true ↔ 0 ≤ c ∧ c ≤ 1114111 ∧ (c < 55296 ∨ 57343 < c) := by
  unfold scalar
  simp [Bool.and_eq_true, Bool.or_eq_true]
theorem oct_is {c : Int} (h0 : 0 ≤ c) (h1 : c ≤ 1114111) : utf_octets.f c = some (oct c) := by
  unfold utf_octets.f oct
  by_cases a : c < 128
  · rw [if_pos a, if_pos a]
    have : c % 256 = c := by omega
    rw [this]
  · rw [if_neg a, if_neg a]
    by_cases b : c < 2048
    · rw [if_pos b, if_pos b, and63 (by omega) (by omega), or192 (by omega) (by omega), or128 (by omega) (by omega)]
      have e1 : (192 + c / 64) % 256 = 192 + c / 64 := by omega
      have e2 : (128 + c % 64) % 256 = 128 + c % 64 := by omega
      rw [e1, e2]
    · rw [if_neg b, if_neg b]
      by_cases d : c < 65536
      · rw [if_pos d, if_pos d, and63 (by omega) (by omega), and63 (by omega) (by omega), or224 (by omega) (by omega), or128 (by omega) (by omega), or128 (by omega) (by omega)]
        have e1 : (224 + c / 4096) % 256 = 224 + c / 4096 := by omega
        have e2 : (128 + c / 64 % 64) % 256 = 128 + c / 64 % 64 := by omega
        have e3 : (128 + c % 64) % 256 = 128 + c % 64 := by omega
        rw [e1, e2, e3]
      · rw [if_neg d, if_neg d, and63 (by omega) (by omega), and63 (by omega) (by omega), and63 (by omega) (by omega), or240 (by omega) (by omega), or128 (by omega) (by omega), or128 (by omega) (by omega), or128 (by omega) (by omega)]
        have e1 : (240 + c / 262144) % 256 = 240 + c / 262144 := by omega
        have e2 : (128 + c / 4096 % 64) % 256 = 128 + c / 4096 % 64 := by omega
        have e3 : (128 + c / 64 % 64) % 256 = 128 + c / 64 % 64 := by omega
        have e4 : (128 + c % 64) % 256 = 128 + c % 64 := by omega
        rw [e1, e2, e3, e4]
theorem oct_oct {c : Int} (h0 : 0 ≤ c) (h1 : c ≤ 1114111) : Oct (oct c) := by
  intro x hx
  unfold oct at hx
  split at hx
  · simp at hx; omega
  · split at hx
    · simp at hx; omega
    · split at hx
      · simp at hx; omega
      · simp at hx; omega
theorem oct_len {c : Int} (h0 : 0 ≤ c) (h1 : c ≤ 1114111) : 1 ≤ (oct c).length ∧ (oct c).length ≤ 4 := by
  unfold oct
  split
  · simp
  · split
    · simp
    · split <;> simp

/-! the reference's Octets -/
theorem refOctets_ev {c : Int} (h0 : 0 ≤ c) (h1 : c ≤ 1114111) : Ev (fun k => paronymref01_Octets.f k c) (strOfNums (oct c)) := by
  unfold paronymref01_Octets.f oct
  have nil : (⟨#[]⟩ : ByteArray) = strOfNums [] := rfl
  have td : ∀ x : Int, 0 ≤ x → Int.tdiv x 64 = x / 64 := fun x hx => Int.tdiv_eq_ediv_of_nonneg hx
  have tm : ∀ x : Int, 0 ≤ x → Int.tmod x 64 = x % 64 := fun x hx => Int.tmod_eq_emod_of_nonneg hx
  have t2 : ∀ x : Int, 0 ≤ x → Int.tdiv x 2 = x / 2 := fun x hx => Int.tdiv_eq_ediv_of_nonneg hx
  by_cases a : c < 128
  · refine Ev.pos a (Ev.ret ?_)
    rw [if_pos a]
    have : c % 256 = c := by omega
    rw [this]
  · refine Ev.neg a ?_
    rw [if_neg a, nil]
    have e0 : wrap64 (128 + Int.tmod c 64) % 256 = 128 + c % 64 := by rw [tm c h0, w64 (by omega) (by omega)]; omega
    have d0 : wrap64 (Int.tdiv c 64) = c / 64 := by rw [td c h0, w64 (by omega) (by omega)]
    refine Ev.step (fun k => rfl) (Ev.pos (by omega) (Ev.bindS rfl (Ev.pos (by simp [size_str]) (Ev.pos rfl ?_))))
    rw [e0, d0, str_append]
    by_cases b : c < 2048
    · rw [if_pos b]
      refine Ev.step (fun k => rfl) (Ev.neg (by omega) (Ev.bindS rfl (Ev.pos (by simp [size_str]) (Ev.ret ?_))))
      have : wrap64 (192 + c / 64) % 256 = 192 + c / 64 := by rw [w64 (by omega) (by omega)]; omega
      rw [this, str_append]; rfl
    · rw [if_neg b]
      have e1 : wrap64 (128 + Int.tmod (c / 64) 64) % 256 = 128 + c / 64 % 64 := by rw [tm _ (by omega), w64 (by omega) (by omega)]; omega
      have d1 : wrap64 (Int.tdiv (c / 64) 64) = c / 4096 := by rw [td _ (by omega), w64 (by omega) (by omega)]; omega
      have l1 : wrap64 (Int.tdiv 32 2) = 16 := by decide +kernel
      have f1 : wrap64 (192 + 32) = 224 := by decide +kernel
      refine Ev.step (fun k => rfl) (Ev.pos (by omega) (Ev.bindS rfl (Ev.pos (by simp [size_str]) (Ev.neg (by decide) ?_))))
      rw [e1, d1, l1, f1, str_append]
      by_cases d : c < 65536
      · rw [if_pos d]
        refine Ev.step (fun k => rfl) (Ev.neg (by omega) (Ev.bindS rfl (Ev.pos (by simp [size_str]) (Ev.ret ?_))))
        have : wrap64 (224 + c / 4096) % 256 = 224 + c / 4096 := by rw [w64 (by omega) (by omega)]; omega
        rw [this, str_append]; rfl
      · rw [if_neg d]
        have e2 : wrap64 (128 + Int.tmod (c / 4096) 64) % 256 = 128 + c / 4096 % 64 := by rw [tm _ (by omega), w64 (by omega) (by omega)]; omega
        have d2 : wrap64 (Int.tdiv (c / 4096) 64) = c / 262144 := by rw [td _ (by omega), w64 (by omega) (by omega)]; omega
        have l2 : wrap64 (Int.tdiv 16 2) = 8 := by decide +kernel
        have f2 : wrap64 (224 + 16) = 240 := by decide +kernel
        refine Ev.step (fun k => rfl) (Ev.pos (by omega) (Ev.bindS rfl (Ev.pos (by simp [size_str]) (Ev.neg (by decide) ?_))))
        rw [e2, d2, l2, f2, str_append]
        refine Ev.step (fun k => rfl) (Ev.neg (by omega) (Ev.bindS rfl (Ev.pos (by simp [size_str]) (Ev.ret ?_))))
        have : wrap64 (240 + c / 262144) % 256 = 240 + c / 262144 := by rw [w64 (by omega) (by omega)]; omega
        rw [this, str_append]; rfl

/-! Encode -/
def enc (s : List Int) : List Int := (s.map oct).flatten
theorem enc_snoc (s : List Int) (c : Int) : enc (s ++ [c]) = enc s ++ oct c := by simp [enc]
theorem enc_append (s t : List Int) : enc (s ++ t) = enc s ++ enc t := by simp [enc]
theorem enc_cons (c : Int) (s : List Int) : enc (c :: s) = oct c ++ enc s := by simp [enc]
theorem enc_oct : ∀ {s : List Int}, s.all scalar = true → Oct (enc s)
  | [], _ => by intro x hx; simp [enc] at hx
  | c :: s, h => by
    rw [List.all_cons, Bool.and_eq_true] at h
    have hc := (scalar_iff c).1 h.1
    rw [enc_cons]
    exact (oct_oct hc.1 hc.2.1).append (enc_oct h.2)
theorem enc_len : ∀ {s : List Int}, s.all scalar = true → s.length ≤ (enc s).length ∧ (enc s).length ≤ 4 * s.length
  | [], _ => by simp [enc]
  | c :: s, h => by
    rw [List.all_cons, Bool.and_eq_true] at h
    have hc := (scalar_iff c).1 h.1
    have hl := oct_len hc.1 hc.2.1
    have ih := enc_len h.2
    rw [enc_cons, List.length_append, List.length_cons]
    omega
theorem take_all {s : List Int} (h : s.all scalar = true) (i : Nat) : (s.take i).all scalar = true := by
  rw [List.all_eq_true] at h ⊢
  exact fun x hx => h x (List.mem_of_mem_take hx)
theorem all_drop {s : List Int} (i : Nat) (hi : i < s.length) : (s.drop i).all scalar = (scalar (rd s i) && (s.drop (i + 1)).all scalar) := by
  rw [drop_cons s i hi, List.all_cons]
theorem Encode_ev (s : List Int) (hl : s.length ≤ 1048576) : Ev (fun k => utf_Encode.f k s) (if s.all scalar = true then (enc s, true) else ([], false)) := by
  have key : ∀ (d i : Nat), s.length - i = d → i ≤ s.length → (s.take i).all scalar = true → Ev (fun k => utf_Encode.l0 k (enc (s.take i)) s (s.length : Int) i) (if (s.drop i).all scalar = true then (enc s, true) else ([], false)) := by
    intro d
    induction d with
    | zero =>
      intro i h1 h2 h3
      have : i = s.length := by omega
      subst this
      refine Ev.step (fun k => rfl) (Ev.neg (by omega) (Ev.ret ?_))
      simp
    | succ d ih =>
      intro i h1 h2 h3
      have hi : i < s.length := by omega
      refine Ev.step (fun k => rfl) (Ev.pos (by omega) (Ev.pos (by omega) (Ev.pos (by omega) (Ev.bindS (utf_Scalar_is _) ?_))))
      rw [all_drop i hi]
      cases hs : scalar (rd s i) with
      | false => exact Ev.neg (by decide) (Ev.ret (by simp))
      | true =>
        have hc := (scalar_iff _).1 hs
        have hlen := (enc_len h3).2
        have htl : (s.take i).length ≤ 1048576 := by rw [List.length_take]; omega
        have hol := (oct_len hc.1 hc.2.1).2
        refine Ev.pos rfl (Ev.bindS (oct_is hc.1 hc.2.1) (Ev.pos (by omega) ?_))
        rw [← enc_snoc, ← take_snoc s i hi, w64 (by omega) (by omega)]
        have ht : (s.take (i + 1)).all scalar = true := by
          rw [take_snoc s i hi, List.all_append, h3]; simp [hs]
        have := ih (i + 1) (by omega) (by omega) ht
        simpa using this
  have := key s.length 0 (by omega) (by omega) (by simp)
  unfold utf_Encode.f
  simpa [enc] using this
theorem refScalar_is (c : Int) : paronymref01_Scalar.f c = some (scalar c) := utf_Scalar_is c
theorem refEncode_ev (s : List Int) (hl : s.length ≤ 1048576) : Ev (fun k => paronymref01_Encode.f k s) (if s.all scalar = true then (strOfNums (enc s), true) else (⟨#[]⟩, false)) := by
  have key : ∀ (d i : Nat), s.length - i = d → i ≤ s.length → (s.take i).all scalar = true → Ev (fun k => paronymref01_Encode.l0 k s (strOfNums (enc (s.take i))) i) (if (s.drop i).all scalar = true then (strOfNums (enc s), true) else (⟨#[]⟩, false)) := by
    intro d
    induction d with
    | zero =>
      intro i h1 h2 h3
      have : i = s.length := by omega
      subst this
      refine Ev.step (fun k => rfl) (Ev.neg (by omega) (Ev.ret ?_))
      simp
    | succ d ih =>
      intro i h1 h2 h3
      have hi : i < s.length := by omega
      refine Ev.step (fun k => rfl) (Ev.pos (by omega) (Ev.pos (by omega) (Ev.bindS (refScalar_is _) ?_)))
      rw [all_drop i hi]
      cases hs : scalar (rd s i) with
      | false => exact Ev.neg (by decide) (Ev.ret (by simp))
      | true =>
        have hc := (scalar_iff _).1 hs
        have hlen := (enc_len h3).2
        have htl : (s.take i).length ≤ 1048576 := by rw [List.length_take]; omega
        have hol := (oct_len hc.1 hc.2.1).2
        refine Ev.pos rfl (Ev.bind (refOctets_ev hc.1 hc.2.1) (Ev.pos (by rw [size_str, size_str]; omega) ?_))
        rw [str_append, ← enc_snoc, ← take_snoc s i hi, w64 (by omega) (by omega)]
        have ht : (s.take (i + 1)).all scalar = true := by
          rw [take_snoc s i hi, List.all_append, h3]; simp [hs]
        have := ih (i + 1) (by omega) (by omega) ht
        simpa using this
  have := key s.length 0 (by omega) (by omega) (by simp)
  unfold paronymref01_Encode.f
  rw [List.take_zero, List.drop_zero] at this
  exact this

/-! Compare, Same -/
def cmpL : List Int → List Int → Int
  | [], [] => 0
  | [], _ :: _ => -1
  | _ :: _, [] => 1
  | x :: l, y :: m => if x < y then -1 else if x > y then 1 else cmpL l m
theorem cmpL_zero : ∀ (l m : List Int), cmpL l m = 0 ↔ l = m
  | [], [] => by simp [cmpL]
  | [], _ :: _ => by simp [cmpL]
  | _ :: _, [] => by simp [cmpL]
  | x :: l, y :: m => by
    unfold cmpL
    by_cases a : x < y
    · rw [if_pos a]; simp; omega
    · rw [if_neg a]
      by_cases b : x > y
      · rw [if_pos b]; simp; omega
      · rw [if_neg b, cmpL_zero l m]
        have : x = y := by omega
        simp [this]
theorem refCompare_ev (l m : List Int) (hl : l.length ≤ 1099511627776) (hm : m.length ≤ 1099511627776) : Ev (fun k => paronymref01_Compare.f k l m) (cmpL l m) := by
  have key : ∀ (d i : Nat), l.length - i = d → i ≤ l.length → i ≤ m.length → Ev (fun k => paronymref01_Compare.l0 k l m i) (cmpL (l.drop i) (m.drop i)) := by
    have hend : ∀ i : Nat, i ≤ l.length → i ≤ m.length → (i = l.length ∨ i = m.length) → ∀ b : Bool, b = false → Ev (fun k => paronymref01_Compare.j1 k l m i b) (cmpL (l.drop i) (m.drop i)) := by
      intro i h1 h2 h3 b hb
      refine Ev.step (fun k => rfl) (Ev.neg (by simp [hb]) ?_)
      by_cases a : l.length < m.length
      · have e : i = l.length := by omega
        subst e
        rw [List.drop_length, drop_cons m l.length a]
        exact Ev.pos (by omega) (Ev.ret (by simp [cmpL]))
      · by_cases b : m.length < l.length
        · have e : i = m.length := by omega
          subst e
          rw [List.drop_length, drop_cons l m.length b]
          exact Ev.neg (by omega) (Ev.pos (by omega) (Ev.ret (by simp [cmpL])))
        · have e : i = l.length := by omega
          have e2 : i = m.length := by omega
          rw [List.drop_of_length_le (by omega), List.drop_of_length_le (by omega)]
          exact Ev.neg (by omega) (Ev.neg (by omega) (Ev.ret (by simp [cmpL])))
    intro d
    induction d with
    | zero =>
      intro i h1 h2 h3
      exact Ev.step (fun k => rfl) (Ev.neg (by omega) (hend i h2 h3 (.inl (by omega)) false rfl))
    | succ d ih =>
      intro i h1 h2 h3
      have hi : i < l.length := by omega
      refine Ev.step (fun k => rfl) (Ev.pos (by omega) ?_)
      by_cases a : i < m.length
      · have e : decide ((i : Int) < (m.length : Int)) = true := by simpa using a
        refine Ev.step (fun k => rfl) (Ev.pos e (Ev.pos (by omega) (Ev.pos (by omega) (Ev.pos (by omega) ?_))))
        rw [drop_cons l i hi, drop_cons m i a]
        unfold cmpL
        by_cases b : rd l i < rd m i
        · exact Ev.pos b (Ev.ret (if_pos b).symm)
        · refine Ev.neg b ?_
          rw [show (if rd l i < rd m i then (-1 : Int) else if rd l i > rd m i then 1 else cmpL (l.drop (i + 1)) (m.drop (i + 1))) = (if rd l i > rd m i then 1 else cmpL (l.drop (i + 1)) (m.drop (i + 1))) from if_neg b]
          by_cases c : rd l i > rd m i
          · exact Ev.pos c (Ev.ret (if_pos c).symm)
          · rw [show (if rd l i > rd m i then (1 : Int) else cmpL (l.drop (i + 1)) (m.drop (i + 1))) = cmpL (l.drop (i + 1)) (m.drop (i + 1)) from if_neg c]
            refine Ev.neg c ?_
            rw [w64 (by omega) (by omega)]
            exact ih (i + 1) (by omega) (by omega) (by omega)
      · have e : decide ((i : Int) < (m.length : Int)) = false := by simpa using a
        exact hend i h2 h3 (.inr (by omega)) _ e
  have := key l.length 0 (by omega) (by omega) (by omega)
  unfold paronymref01_Compare.f
  simpa using this
theorem refSame_ev (l m : List Int) (hl : l.length ≤ 1099511627776) (hm : m.length ≤ 1099511627776) : Ev (fun k => paronymref01_Same.f k l m) (decide (l = m)) := by
  unfold paronymref01_Same.f
  refine Ev.bind (refCompare_ev l m hl hm) (Ev.ret ?_)
  rw [Bool.eq_iff_iff]
  simp [cmpL_zero]

end Go.Proofs.Ytooiajkbpkfplaa.K

-- from Pdec
/- UTF-8 read back: what next, Points, Decode and the reference's Next, Decode come to. -/
namespace Go.Proofs.Ytooiajkbpkfplaa.K
set_option linter.unusedVariables false
set_option linter.unusedSimpArgs false
open Go.RowKit Go.Proofs.YtooiajkbpkfplaaW.PrintWords Go.Proofs.YtooiajkbpkfplaaW.PrintMore Go.Proofs.Ytooiajkbpkfplaa.Q

theorem awake01 : paronymlaw01_awake.f 60 = some true := by decide +kernel
theorem awake01_ev : Ev (fun k => paronymlaw01_awake.f k) true := Ev.of (fun k => paronymlaw01_awake.mono k) awake01

theorem u8_all {P : Int → Prop} (h : ∀ i : Fin 256, P (i.val : Int)) {b : Int} (h0 : 0 ≤ b) (h1 : b ≤ 255) : P b := by
  have := h ⟨b.toNat, by omega⟩
  simpa [Int.toNat_of_nonneg h0] using this
def cont (b : Int) : Prop := 128 ≤ b ∧ b < 192
instance : DecidablePred cont := fun b => inferInstanceAs (Decidable (128 ≤ b ∧ b < 192))
theorem and192 {b : Int} (h0 : 0 ≤ b) (h1 : b ≤ 255) : Go.bits .and .u8 b 192 = 128 ↔ cont b := by
  have h : ∀ i : Fin 256, (Go.bits .and .u8 (i.val : Int) 192 = 128 ↔ cont (i.val : Int)) := by decide +kernel
  exact u8_all (P := fun b => (Go.bits .and .u8 b 192 = 128 ↔ cont b)) h h0 h1
theorem and63u {b : Int} (h0 : 0 ≤ b) (h1 : b ≤ 255) : Go.bits .and .u8 b 63 = b % 64 := by
  have h : ∀ i : Fin 256, Go.bits .and .u8 (i.val : Int) 63 = (i.val : Int) % 64 := by decide +kernel
  exact u8_all (P := fun b => Go.bits .and .u8 b 63 = b % 64) h h0 h1
theorem lead2 {b : Int} (h0 : 0 ≤ b) (h1 : b ≤ 255) : Go.bits .and .i64 (wrap64 b) (shr .i64 127 2) = b % 32 := by
  have h : ∀ i : Fin 256, Go.bits .and .i64 (wrap64 (i.val : Int)) (shr .i64 127 2) = (i.val : Int) % 32 := by decide +kernel
  exact u8_all (P := fun b => Go.bits .and .i64 (wrap64 b) (shr .i64 127 2) = b % 32) h h0 h1
theorem lead3 {b : Int} (h0 : 0 ≤ b) (h1 : b ≤ 255) : Go.bits .and .i64 (wrap64 b) (shr .i64 127 3) = b % 16 := by
  have h : ∀ i : Fin 256, Go.bits .and .i64 (wrap64 (i.val : Int)) (shr .i64 127 3) = (i.val : Int) % 16 := by decide +kernel
  exact u8_all (P := fun b => Go.bits .and .i64 (wrap64 b) (shr .i64 127 3) = b % 16) h h0 h1
theorem lead4 {b : Int} (h0 : 0 ≤ b) (h1 : b ≤ 255) : Go.bits .and .i64 (wrap64 b) (shr .i64 127 4) = b % 8 := by
  have h : ∀ i : Fin 256, Go.bits .and .i64 (wrap64 (i.val : Int)) (shr .i64 127 4) = (i.val : Int) % 8 := by decide +kernel
  exact u8_all (P := fun b => Go.bits .and .i64 (wrap64 b) (shr .i64 127 4) = b % 8) h h0 h1

def width (a : Int) : Int := if a < 128 then 1 else if a < 194 then 0 else if a < 224 then 2 else if a < 240 then 3 else if a < 245 then 4 else 0
theorem size_ev (a : Int) : Ev (fun k => utf_size.f k a) (width a) := by
  unfold utf_size.f width
  by_cases h1 : a < 128
  · rw [if_pos h1]; exact Ev.pos h1 (Ev.now _)
  · rw [if_neg h1]; refine Ev.neg h1 ?_
    by_cases h2 : a < 194
    · rw [if_pos h2]
      exact Ev.neg (by omega) (Ev.step (fun k => rfl) (Ev.neg (by omega) (Ev.step (fun k => rfl) (Ev.neg (by omega) (Ev.now _)))))
    · rw [if_neg h2]; refine Ev.pos (by omega) (Ev.step (fun k => rfl) ?_)
      by_cases h3 : a < 224
      · rw [if_pos h3]; exact Ev.pos (by simpa using h3) (Ev.now _)
      · rw [if_neg h3]; refine Ev.neg (by simpa using h3) (Ev.pos (by omega) (Ev.step (fun k => rfl) ?_))
        by_cases h4 : a < 240
        · rw [if_pos h4]; exact Ev.pos (by simpa using h4) (Ev.now _)
        · rw [if_neg h4]; refine Ev.neg (by simpa using h4) (Ev.pos (by omega) ?_)
          by_cases h5 : a < 245
          · exact Ev.pos h5 (Ev.ret (if_pos h5).symm)
          · exact Ev.neg h5 (Ev.ret (if_neg h5).symm)

/-! the loop of next, a step at a time -/
theorem nx_step {n x : Int} {y : List Int} {i : Nat} {r : Int × Int} (hi : i < y.length) (hl : y.length ≤ 1000) (ho : Oct y) (hc : cont (rd y i)) (hx0 : 0 ≤ x) (hx1 : x < 65536) (h : Ev (fun k => utf_next.l0 k n (x * 64 + (rd y i - 128)) y y.length ((i + 1 : Nat) : Int)) r) : Ev (fun k => utf_next.l0 k n x y y.length i) r := by
  have hb := ho.rd (i := (i : Int)) (by omega) (by omega)
  unfold cont at hc
  refine Ev.step (fun k => rfl) (Ev.pos (by omega) (Ev.pos (by omega) (Ev.pos (by omega) (Ev.pos ((and192 hb.1 hb.2).2 hc) ?_))))
  have e : Go.bits .or .i64 (wrap64 (x * 64)) (wrap64 (Go.bits .and .u8 (rd y i) 63)) = x * 64 + (rd y i - 128) := by
    rw [and63u hb.1 hb.2, w64 (by omega) (by omega), w64 (by omega) (by omega), or_join 6 (by omega) (by omega) (by omega) (by omega) (by omega) (by omega)]
    omega
  rw [e, w64 (n := (i : Int) + 1) (by omega) (by omega)]
  exact h
theorem nx_stop {n x : Int} {y : List Int} {i : Nat} (hi : i < y.length) (ho : Oct y) (hc : ¬ cont (rd y i)) : Ev (fun k => utf_next.l0 k n x y y.length i) (0, 0) := by
  have hb := ho.rd (i := (i : Int)) (by omega) (by omega)
  refine Ev.step (fun k => rfl) (Ev.pos (by omega) (Ev.pos (by omega) (Ev.pos (by omega) (Ev.neg (fun h => hc ((and192 hb.1 hb.2).1 h)) (Ev.now _)))))
theorem nx_hit {n x : Int} {y : List Int} {i : Nat} (hi : y.length ≤ i) (hs : scalar x = true) (hn : ((oct x).length : Int) = n) : Ev (fun k => utf_next.l0 k n x y y.length i) (x, n) := by
  have hc := (scalar_iff _).1 hs
  exact Ev.step (fun k => rfl) (Ev.neg (by omega) (Ev.bindS (utf_Scalar_is x) (Ev.pos hs (Ev.bindS (oct_is hc.1 hc.2.1) (Ev.pos hn (Ev.now _))))))
theorem nx_miss {n x : Int} {y : List Int} {i : Nat} (hi : y.length ≤ i) (hs : scalar x = true → ((oct x).length : Int) ≠ n) : Ev (fun k => utf_next.l0 k n x y y.length i) (0, 0) := by
  refine Ev.step (fun k => rfl) (Ev.neg (by omega) (Ev.bindS (utf_Scalar_is x) ?_))
  by_cases h : scalar x = true
  · have hc := (scalar_iff _).1 h
    exact Ev.pos h (Ev.bindS (oct_is hc.1 hc.2.1) (Ev.neg (hs h) (Ev.now _)))
  · exact Ev.neg h (Ev.now _)

/-! next's start -/
theorem nx_none {l : List Int} (h : 0 < l.length) (hw : width (rd l 0) = 0 ∨ width (rd l 0) > (l.length : Int)) : Ev (fun k => utf_next.f k l) (0, 0) := by
  unfold utf_next.f
  refine Ev.pos (by omega) (Ev.bind (size_ev _) ?_)
  by_cases z : width (rd l 0) = 0
  · exact Ev.pos z (Ev.step (fun k => rfl) (Ev.now _))
  · exact Ev.neg z (Ev.step (fun k => rfl) (Ev.pos (by simp; omega) (Ev.now _)))
theorem nx_one {l : List Int} {r : Int × Int} (h : 0 < l.length) (h0 : 0 ≤ rd l 0) (hw : rd l 0 < 128) (k : Ev (fun k => utf_next.l0 k 1 (rd l 0) [] (([] : List Int).length : Int) ((0 : Nat) : Int)) r) : Ev (fun k => utf_next.f k l) r := by
  have w : width (rd l 0) = 1 := if_pos hw
  unfold utf_next.f
  refine Ev.pos (by omega) (Ev.bind (size_ev _) ?_)
  rw [w]
  refine Ev.neg (by decide) (Ev.step (fun k => rfl) (Ev.neg (by simp; omega) (Ev.pos (by omega) (Ev.neg (by decide) (Ev.step (fun k => rfl) (Ev.pos (by omega) (Ev.bindS rfl ?_)))))))
  rw [w64 (by omega) (by omega)]
  have e : (l.take (1 : Int).toNat).drop 1 = [] := by simp
  rw [e]
  exact k
theorem nx_many {l : List Int} {r : Int × Int} {n : Nat} {x : Int} (h : n ≤ l.length) (hn : 2 ≤ n) (hw : width (rd l 0) = n) (hx : Go.bits .and .i64 (wrap64 (rd l 0)) (shr .i64 127 (n : Int)) = x) (k : Ev (fun k => utf_next.l0 k n x ((l.take n).drop 1) (((l.take n).drop 1).length : Int) ((0 : Nat) : Int)) r) : Ev (fun k => utf_next.f k l) r := by
  unfold utf_next.f
  refine Ev.pos (by omega) (Ev.bind (size_ev _) ?_)
  rw [hw]
  refine Ev.neg (by omega) (Ev.step (fun k => rfl) (Ev.neg (by simp; omega) (Ev.pos (by omega) (Ev.pos (by omega) (Ev.pos (by omega) (Ev.step (fun k => rfl) (Ev.pos (by omega) (Ev.pos (by omega) (Ev.bindS rfl ?_)))))))))
  rw [hx, Int.toNat_natCast]
  exact k

/-! what next tells -/
theorem scalar_of {c : Int} (h0 : 0 ≤ c) (h1 : c ≤ 1114111) (h2 : c < 55296 ∨ 57343 < c) : scalar c = true := (scalar_iff c).2 ⟨h0, h1, h2⟩
theorem next_hit {c : Int} {m : List Int} (hs : scalar c = true) (ho : Oct (oct c ++ m)) : Ev (fun k => utf_next.f k (oct c ++ m)) (c, (oct c).length) := by
  have hc := (scalar_iff c).1 hs
  have hoc := oct_oct hc.1 hc.2.1
  have hlen : ∀ n : Int, ((oct c).length : Int) = n → Ev (fun k => utf_next.f k (oct c ++ m)) (c, n) → Ev (fun k => utf_next.f k (oct c ++ m)) (c, (oct c).length) := by
    intro n e h; rw [e]; exact h
  by_cases a : c < 128
  · have e : oct c = [c] := if_pos a
    refine hlen 1 (by rw [e]; rfl) ?_
    rw [e]
    exact nx_one (by simp) hc.1 a (nx_hit (by simp) hs (by show ((oct c).length : Int) = 1; rw [e]; rfl))
  · by_cases b : c < 2048
    · have e : oct c = [192 + c / 64, 128 + c % 64] := by unfold oct; rw [if_neg a, if_pos b]
      have hl : ((oct c).length : Int) = 2 := by rw [e]; rfl
      refine hlen 2 hl ?_
      rw [e] at hoc
      rw [e]
      have w : width (rd ([192 + c / 64, 128 + c % 64] ++ m) 0) = (2 : Nat) := by
        show width (192 + c / 64) = 2
        unfold width; rw [if_neg (by omega), if_neg (by omega), if_pos (by omega)]
      refine nx_many (n := 2) (x := c / 64) (by simp) (by decide) w ?_ ?_
      · show Go.bits .and .i64 (wrap64 (192 + c / 64)) (shr .i64 127 2) = _
        rw [lead2 (by omega) (by omega)]; omega
      · show Ev (fun k => utf_next.l0 k 2 (c / 64) [128 + c % 64] (([128 + c % 64] : List Int).length : Int) ((0 : Nat) : Int)) (c, 2)
        refine nx_step (by simp) (by simp) (fun x hx => hoc x (by simp at hx ⊢; omega)) (by show cont (128 + c % 64); unfold cont; omega) (by omega) (by omega) ?_
        have e2 : c / 64 * 64 + (rd [128 + c % 64] ((0 : Nat) : Int) - 128) = c := by show c / 64 * 64 + (128 + c % 64 - 128) = c; omega
        rw [e2]
        exact nx_hit (by simp) hs hl
    · by_cases d : c < 65536
      · have e : oct c = [224 + c / 4096, 128 + c / 64 % 64, 128 + c % 64] := by unfold oct; rw [if_neg a, if_neg b, if_pos d]
        have hl : ((oct c).length : Int) = 3 := by rw [e]; rfl
        refine hlen 3 hl ?_
        rw [e] at hoc
        rw [e]
        have w : width (rd ([224 + c / 4096, 128 + c / 64 % 64, 128 + c % 64] ++ m) 0) = (3 : Nat) := by
          show width (224 + c / 4096) = 3
          unfold width; rw [if_neg (by omega), if_neg (by omega), if_neg (by omega), if_pos (by omega)]
        refine nx_many (n := 3) (x := c / 4096) (by simp) (by decide) w ?_ ?_
        · show Go.bits .and .i64 (wrap64 (224 + c / 4096)) (shr .i64 127 3) = _
          rw [lead3 (by omega) (by omega)]; omega
        · show Ev (fun k => utf_next.l0 k 3 (c / 4096) [128 + c / 64 % 64, 128 + c % 64] (([128 + c / 64 % 64, 128 + c % 64] : List Int).length : Int) ((0 : Nat) : Int)) (c, 3)
          have ho2 : Oct [128 + c / 64 % 64, 128 + c % 64] := fun x hx => hoc x (by simp at hx ⊢; omega)
          refine nx_step (by simp) (by simp) ho2 (by show cont (128 + c / 64 % 64); unfold cont; omega) (by omega) (by omega) ?_
          have e2 : c / 4096 * 64 + (rd [128 + c / 64 % 64, 128 + c % 64] ((0 : Nat) : Int) - 128) = c / 64 := by show c / 4096 * 64 + (128 + c / 64 % 64 - 128) = c / 64; omega
          rw [e2]
          refine nx_step (by simp) (by simp) ho2 (by show cont (128 + c % 64); unfold cont; omega) (by omega) (by omega) ?_
          have e3 : c / 64 * 64 + (rd [128 + c / 64 % 64, 128 + c % 64] ((0 + 1 : Nat) : Int) - 128) = c := by show c / 64 * 64 + (128 + c % 64 - 128) = c; omega
          rw [e3]
          exact nx_hit (by simp) hs hl
      · have e : oct c = [240 + c / 262144, 128 + c / 4096 % 64, 128 + c / 64 % 64, 128 + c % 64] := by unfold oct; rw [if_neg a, if_neg b, if_neg d]
        have hl : ((oct c).length : Int) = 4 := by rw [e]; rfl
        refine hlen 4 hl ?_
        rw [e] at hoc
        rw [e]
        have w : width (rd ([240 + c / 262144, 128 + c / 4096 % 64, 128 + c / 64 % 64, 128 + c % 64] ++ m) 0) = (4 : Nat) := by
          show width (240 + c / 262144) = 4
          unfold width; rw [if_neg (by omega), if_neg (by omega), if_neg (by omega), if_neg (by omega), if_pos (by omega)]
        refine nx_many (n := 4) (x := c / 262144) (by simp) (by decide) w ?_ ?_
        · show Go.bits .and .i64 (wrap64 (240 + c / 262144)) (shr .i64 127 4) = _
          rw [lead4 (by omega) (by omega)]; omega
        · show Ev (fun k => utf_next.l0 k 4 (c / 262144) [128 + c / 4096 % 64, 128 + c / 64 % 64, 128 + c % 64] (([128 + c / 4096 % 64, 128 + c / 64 % 64, 128 + c % 64] : List Int).length : Int) ((0 : Nat) : Int)) (c, 4)
          have ho2 : Oct [128 + c / 4096 % 64, 128 + c / 64 % 64, 128 + c % 64] := fun x hx => hoc x (by simp at hx ⊢; omega)
          refine nx_step (by simp) (by simp) ho2 (by show cont (128 + c / 4096 % 64); unfold cont; omega) (by omega) (by omega) ?_
          have e2 : c / 262144 * 64 + (rd [128 + c / 4096 % 64, 128 + c / 64 % 64, 128 + c % 64] ((0 : Nat) : Int) - 128) = c / 4096 := by show c / 262144 * 64 + (128 + c / 4096 % 64 - 128) = c / 4096; omega
          rw [e2]
          refine nx_step (by simp) (by simp) ho2 (by show cont (128 + c / 64 % 64); unfold cont; omega) (by omega) (by omega) ?_
          have e3 : c / 4096 * 64 + (rd [128 + c / 4096 % 64, 128 + c / 64 % 64, 128 + c % 64] ((0 + 1 : Nat) : Int) - 128) = c / 64 := by show c / 4096 * 64 + (128 + c / 64 % 64 - 128) = c / 64; omega
          rw [e3]
          refine nx_step (by simp) (by simp) ho2 (by show cont (128 + c % 64); unfold cont; omega) (by omega) (by omega) ?_
          have e4 : c / 64 * 64 + (rd [128 + c / 4096 % 64, 128 + c / 64 % 64, 128 + c % 64] ((0 + 1 + 1 : Nat) : Int) - 128) = c := by show c / 64 * 64 + (128 + c % 64 - 128) = c; omega
          rw [e4]
          exact nx_hit (by simp) hs hl
theorem len3 {z : Int} (h : ((oct z).length : Int) = 3) : ¬ z < 2048 := fun q => by
  by_cases p : z < 128 <;> simp [oct, p, q] at h
theorem len4 {z : Int} (h : ((oct z).length : Int) = 4) : ¬ z < 65536 := fun q => by
  by_cases p : z < 128
  · simp [oct, p] at h
  · by_cases r : z < 2048 <;> simp [oct, p, q, r] at h
/-- No scalar's octets stand ahead. -/
def Stuck (l : List Int) : Prop := ∀ c m, scalar c = true → l ≠ oct c ++ m
theorem next_miss {l : List Int} (ho : Oct l) (hl : 0 < l.length) (hs : Stuck l) : Ev (fun k => utf_next.f k l) (0, 0) := by
  cases l with
  | nil => simp at hl
  | cons a l =>
    have ha := ho a (by simp)
    by_cases a1 : a < 128
    · exact absurd rfl (by have := hs a l (scalar_of ha.1 (by omega) (.inl (by omega))); rwa [show oct a = [a] from if_pos a1] at this)
    · by_cases a2 : a < 194
      · exact nx_none hl (.inl (by show width a = 0; unfold width; rw [if_neg a1, if_pos a2]))
      · by_cases a3 : a < 224
        · have w : width a = 2 := by unfold width; rw [if_neg a1, if_neg a2, if_pos a3]
          cases l with
          | nil => exact nx_none hl (.inr (by show width a > _; rw [w]; simp))
          | cons b l =>
            have hb := ho b (by simp)
            refine nx_many (n := 2) (x := a - 192) (by simp) (by decide) w ?_ ?_
            · show Go.bits .and .i64 (wrap64 a) (shr .i64 127 2) = _
              rw [lead2 (by omega) (by omega)]; omega
            · show Ev (fun k => utf_next.l0 k 2 (a - 192) [b] (([b] : List Int).length : Int) ((0 : Nat) : Int)) _
              have ho2 : Oct [b] := fun x hx => ho x (by simp at hx ⊢; omega)
              by_cases cb : cont b
              · refine nx_step (by simp) (by simp) ho2 cb (by omega) (by omega) ?_
                refine nx_miss (by simp) ?_
                show scalar ((a - 192) * 64 + (b - 128)) = true → _
                intro h _
                unfold cont at cb
                refine hs ((a - 192) * 64 + (b - 128)) l h ?_
                unfold oct
                rw [if_neg (by omega), if_pos (by omega)]
                simp only [List.cons_append, List.nil_append, List.cons.injEq, and_true]
                omega
              · exact nx_stop (by simp) ho2 cb
        · by_cases a4 : a < 240
          · have w : width a = 3 := by unfold width; rw [if_neg a1, if_neg a2, if_neg a3, if_pos a4]
            match l, ho, hl, hs with
            | [], _, hl, _ => exact nx_none hl (.inr (by show width a > _; rw [w]; simp))
            | [_], _, hl, _ => exact nx_none hl (.inr (by show width a > _; rw [w]; simp))
            | b :: c :: l, ho, hl, hs =>
              refine nx_many (n := 3) (x := a - 224) (by simp) (by decide) w ?_ ?_
              · show Go.bits .and .i64 (wrap64 a) (shr .i64 127 3) = _
                rw [lead3 (by omega) (by omega)]; omega
              · show Ev (fun k => utf_next.l0 k 3 (a - 224) [b, c] (([b, c] : List Int).length : Int) ((0 : Nat) : Int)) _
                have ho2 : Oct [b, c] := fun x hx => ho x (by simp at hx ⊢; omega)
                by_cases cb : cont b
                · refine nx_step (by simp) (by simp) ho2 cb (by omega) (by omega) ?_
                  by_cases cc : cont c
                  · refine nx_step (by simp) (by simp) ho2 cc (by show 0 ≤ (a - 224) * 64 + (b - 128); unfold cont at cb; omega) (by show (a - 224) * 64 + (b - 128) < 65536; unfold cont at cb; omega) ?_
                    refine nx_miss (by simp) ?_
                    show scalar (((a - 224) * 64 + (b - 128)) * 64 + (c - 128)) = true → _
                    intro h hn
                    unfold cont at cb cc
                    have hge : ¬ ((a - 224) * 64 + (b - 128)) * 64 + (c - 128) < 2048 := len3 hn
                    refine hs (((a - 224) * 64 + (b - 128)) * 64 + (c - 128)) l h ?_
                    unfold oct
                    rw [if_neg (by omega), if_neg (by omega), if_pos (by omega)]
                    simp only [List.cons_append, List.nil_append, List.cons.injEq, and_true]
                    omega
                  · exact nx_stop (by simp) ho2 cc
                · exact nx_stop (by simp) ho2 cb
          · by_cases a5 : a < 245
            · have w : width a = 4 := by unfold width; rw [if_neg a1, if_neg a2, if_neg a3, if_neg a4, if_pos a5]
              match l, ho, hl, hs with
              | [], _, hl, _ => exact nx_none hl (.inr (by show width a > _; rw [w]; simp))
              | [_], _, hl, _ => exact nx_none hl (.inr (by show width a > _; rw [w]; simp))
              | [_, _], _, hl, _ => exact nx_none hl (.inr (by show width a > _; rw [w]; simp))
              | b :: c :: d :: l, ho, hl, hs =>
                refine nx_many (n := 4) (x := a - 240) (by simp) (by decide) w ?_ ?_
                · show Go.bits .and .i64 (wrap64 a) (shr .i64 127 4) = _
                  rw [lead4 (by omega) (by omega)]; omega
                · show Ev (fun k => utf_next.l0 k 4 (a - 240) [b, c, d] (([b, c, d] : List Int).length : Int) ((0 : Nat) : Int)) _
                  have ho2 : Oct [b, c, d] := fun x hx => ho x (by simp at hx ⊢; omega)
                  by_cases cb : cont b
                  · refine nx_step (by simp) (by simp) ho2 cb (by omega) (by omega) ?_
                    by_cases cc : cont c
                    · refine nx_step (by simp) (by simp) ho2 cc (by show 0 ≤ (a - 240) * 64 + (b - 128); unfold cont at cb; omega) (by show (a - 240) * 64 + (b - 128) < 65536; unfold cont at cb; omega) ?_
                      by_cases cd : cont d
                      · refine nx_step (by simp) (by simp) ho2 cd (by show 0 ≤ ((a - 240) * 64 + (b - 128)) * 64 + (c - 128); unfold cont at cb cc; omega) (by show ((a - 240) * 64 + (b - 128)) * 64 + (c - 128) < 65536; unfold cont at cb cc; omega) ?_
                        refine nx_miss (by simp) ?_
                        show scalar ((((a - 240) * 64 + (b - 128)) * 64 + (c - 128)) * 64 + (d - 128)) = true → _
                        intro h hn
                        unfold cont at cb cc cd
                        have hge : ¬ (((a - 240) * 64 + (b - 128)) * 64 + (c - 128)) * 64 + (d - 128) < 65536 := len4 hn
                        refine hs ((((a - 240) * 64 + (b - 128)) * 64 + (c - 128)) * 64 + (d - 128)) l h ?_
                        unfold oct
                        rw [if_neg (by omega), if_neg (by omega), if_neg (by omega)]
                        simp only [List.cons_append, List.nil_append, List.cons.injEq, and_true]
                        omega
                      · exact nx_stop (by simp) ho2 cd
                    · exact nx_stop (by simp) ho2 cc
                  · exact nx_stop (by simp) ho2 cb
            · exact nx_none hl (.inl (by show width a = 0; unfold width; rw [if_neg a1, if_neg a2, if_neg a3, if_neg a4, if_neg a5]))

end Go.Proofs.Ytooiajkbpkfplaa.K

-- from Pdec2
/- Decode and the reference's Decode: a text of octets is scalars' octets and a rest with none ahead. -/
namespace Go.Proofs.Ytooiajkbpkfplaa.K
set_option linter.unusedVariables false
set_option linter.unusedSimpArgs false
open Go.RowKit Go.Proofs.YtooiajkbpkfplaaW.PrintWords Go.Proofs.YtooiajkbpkfplaaW.PrintMore Go.Proofs.Ytooiajkbpkfplaa.Q

theorem Ev.same {α : Type} {f : Nat → Option α} {r r' : α} (h : Ev f r) (h' : Ev f r') : r = r' := by
  obtain ⟨n, hn⟩ := h
  obtain ⟨m, hm⟩ := h'
  have a := hn (max n m) (by omega)
  have b := hm (max n m) (by omega)
  rw [a] at b
  exact Option.some.inj b
theorem oct_ahead {c d : Int} {m n : List Int} (hc : scalar c = true) (hd : scalar d = true) (ho : Oct (oct c ++ m)) (h : oct c ++ m = oct d ++ n) : c = d := by
  have a := next_hit hc ho
  have b := next_hit (c := d) (m := n) hd (h ▸ ho)
  rw [← h] at b
  exact congrArg Prod.fst (Ev.same a b)
theorem maxdec : ∀ (n : Nat) (l : List Int), l.length ≤ n → Oct l → ∃ s rest, s.all scalar = true ∧ l = enc s ++ rest ∧ Stuck rest := by
  intro n
  induction n with
  | zero =>
    intro l hl _
    refine ⟨[], l, rfl, by simp [enc], ?_⟩
    intro c m hs e
    have hc := (scalar_iff c).1 hs
    have := oct_len hc.1 hc.2.1
    have : l.length = (oct c ++ m).length := by rw [e]
    rw [List.length_append] at this
    omega
  | succ n ih =>
    intro l hl ho
    by_cases h : Stuck l
    · exact ⟨[], l, rfl, by simp [enc], h⟩
    · have : ∃ c m, scalar c = true ∧ l = oct c ++ m := by
        apply Classical.byContradiction
        intro q
        exact h fun c m hs e => q ⟨c, m, hs, e⟩
      obtain ⟨c, m, hs, rfl⟩ := this
      have hc := (scalar_iff c).1 hs
      have := oct_len hc.1 hc.2.1
      rw [List.length_append] at hl
      obtain ⟨s, rest, h1, rfl, h2⟩ := ih m (by omega) (fun x hx => ho x (List.mem_append_right _ hx))
      exact ⟨c :: s, rest, by rw [List.all_cons, hs, h1]; rfl, by rw [enc_cons, List.append_assoc], h2⟩
def places : Int → List Int → List (Int × Int)
  | _, [] => []
  | at_, c :: s => (at_, c) :: places (at_ + (oct c).length) s
theorem places_snd : ∀ (s : List Int) (at_ : Int), (places at_ s).map Prod.snd = s
  | [], _ => rfl
  | c :: s, at_ => by simp [places, places_snd s]
theorem places_len : ∀ (s : List Int) (at_ : Int), (places at_ s).length = s.length
  | [], _ => rfl
  | c :: s, at_ => by simp [places, places_len s]
theorem places_snoc : ∀ (s : List Int) (at_ : Int) (c : Int), places at_ (s ++ [c]) = places at_ s ++ [(at_ + (enc s).length, c)]
  | [], _, _ => by simp [places, enc]
  | d :: s, at_, c => by
    rw [List.cons_append, places, places, places_snoc s, enc_cons, List.length_append, List.cons_append]
    congr 3
    simp
    omega
theorem snoc_cases {α : Type} (l : List α) : l = [] ∨ ∃ m x, l = m ++ [x] := by
  cases h : l.reverse with
  | nil => left; simpa using h
  | cons x m => right; exact ⟨m.reverse, x, by rw [← List.reverse_reverse l, h]; simp⟩
theorem end_places {s : List Int} (h : s.all scalar = true) (hl : (enc s).length ≤ 1099511627776) : utf_Decode.end_ (places 0 s) = (enc s).length := by
  rcases snoc_cases s with rfl | ⟨m, c, rfl⟩
  · simp [places, enc, utf_Decode.end_]
  · rw [List.all_append, Bool.and_eq_true, List.all_cons, Bool.and_eq_true] at h
    have hc := (scalar_iff c).1 h.2.1
    rw [places_snoc, utf_Decode.end_snoc]
    simp only
    rw [oct_is hc.1 hc.2.1, enc_snoc, Option.getD_some]
    rw [enc_snoc] at hl
    rw [List.length_append] at hl ⊢
    rw [w64 (by omega) (by omega)]
    simp
theorem pts_ev {s rest : List Int} (hr : Stuck rest) (hrl : rest.length ≤ 1099511627776) : ∀ (d i : Nat), s.length - i = d → i ≤ s.length → s.all scalar = true → Oct (enc s ++ rest) → Ev (fun k => utf_Points.pts k (enc s ++ rest) ((enc (s.take i)).length : Int)) (places (enc (s.take i)).length (s.drop i)) := by
  intro d
  induction d with
  | zero =>
    intro i h1 h2 hs ho
    have : i = s.length := by omega
    subst this
    rw [List.take_length, List.drop_length]
    by_cases z : rest.length = 0
    · exact Ev.step (fun k => rfl) (Ev.neg (by rw [List.length_append]; omega) (Ev.now _))
    · refine Ev.step (fun k => rfl) (Ev.pos (by rw [List.length_append]; omega) (Ev.pos (by omega) ?_))
      rw [Int.toNat_natCast, List.drop_left]
      refine Ev.bind (next_miss (fun x hx => ho x (List.mem_append_right _ hx)) (by omega) hr) (Ev.pos rfl (Ev.now _))
  | succ d ih =>
    intro i h1 h2 hs ho
    have hi : i < s.length := by omega
    have hsi : scalar (rd s i) = true := by
      rw [List.all_eq_true] at hs
      exact hs _ (rd_mem (by omega) (by omega))
    have hc := (scalar_iff _).1 hsi
    have hol := oct_len hc.1 hc.2.1
    have e : enc s = enc (s.take i) ++ (oct (rd s i) ++ enc (s.drop (i + 1))) := by
      rw [← enc_cons, ← drop_cons s i hi, ← enc_append, List.take_append_drop]
    have hlen : (enc s ++ rest).length = (enc (s.take i)).length + (oct (rd s i)).length + (enc (s.drop (i + 1))).length + rest.length := by
      rw [e]; simp; omega
    refine Ev.step (fun k => rfl) (Ev.pos (by rw [hlen]; omega) (Ev.pos (by omega) ?_))
    have ed : (enc s ++ rest).drop (((enc (s.take i)).length : Int)).toNat = oct (rd s i) ++ (enc (s.drop (i + 1)) ++ rest) := by
      rw [Int.toNat_natCast]
      conv => lhs; rw [e]
      rw [List.append_assoc, List.drop_left, List.append_assoc]
    rw [ed]
    have ho2 : Oct (oct (rd s i) ++ (enc (s.drop (i + 1)) ++ rest)) := by
      rw [← ed]; exact ho.drop _
    refine Ev.bind (next_hit hsi ho2) (Ev.neg (by show ¬ (((oct (rd s i)).length : Int) = 0); omega) (Ev.pos (by show 0 < ((oct (rd s i)).length : Int) ∧ _ + ((oct (rd s i)).length : Int) ≤ _; omega) ?_))
    have en : ((enc (s.take i)).length : Int) + ((oct (rd s i)).length : Int) = (enc (s.take (i + 1))).length := by
      rw [take_snoc s i hi, enc_snoc, List.length_append]; simp
    have := ih (i + 1) (by omega) (by omega) hs ho
    rw [drop_cons s i hi, places, en]
    exact Ev.bind this (Ev.ret rfl)
theorem clone_is (l : List Int) (hl : l.length ≤ 1099511627776) : slices_Clone_byte_byte.f l = some l := by
  unfold slices_Clone_byte_byte.f
  simp
  omega
theorem Decode_ev {s rest : List Int} (hr : Stuck rest) (hs : s.all scalar = true) (ho : Oct (enc s ++ rest)) (hl : (enc s ++ rest).length ≤ 1099511627776) : Ev (fun k => utf_Decode.f k (enc s ++ rest)) (if rest.length = 0 then (s, 0, ((enc s).length : Int)) else ([], 10, ((enc s).length : Int))) := by
  unfold utf_Decode.f
  rw [List.length_append] at hl
  have el := enc_len hs
  refine Ev.bindS (clone_is _ (by rw [List.length_append]; omega)) ?_
  have := pts_ev hr (by omega) s.length 0 (by omega) (by omega) hs ho
  rw [List.take_zero, List.drop_zero] at this
  refine Ev.bind this (Ev.pos (by rw [places_len]; omega) ?_)
  have ep : utf_Decode.end_ (places ((enc []).length : Int) s) = (enc s).length := end_places hs (by omega)
  rw [ep, places_snd, List.length_append]
  by_cases z : rest.length = 0
  · rw [if_pos z]; exact Ev.neg (by omega) (Ev.ret rfl)
  · rw [if_neg z]; exact Ev.pos (by omega) (Ev.ret rfl)

/-! the reference's Next -/
def cand (l : List Int) : Nat → Int
  | 2 => (rd l 0 % 32) * 64 + rd l 1 % 64
  | 3 => ((rd l 0 % 16) * 64 + rd l 1 % 64) * 64 + rd l 2 % 64
  | 4 => (((rd l 0 % 8) * 64 + rd l 1 % 64) * 64 + rd l 2 % 64) * 64 + rd l 3 % 64
  | _ => rd l 0
theorem rn_step {l : List Int} {n : Int} {x : Int} {i : Nat} {r : Int × Int} (ho : Oct l) (hi : (i : Int) < n) (hl : i < l.length) (hi2 : i ≤ 1000) (h0 : 0 ≤ x) (h1 : x < 65536) (h : Ev (fun k => paronymref01_Next.l1 k (strOfNums l) n (x * 64 + rd l i % 64) ((i + 1 : Nat) : Int)) r) : Ev (fun k => paronymref01_Next.l1 k (strOfNums l) n x i) r := by
  have hb := ho.rd (i := (i : Int)) (by omega) (by omega)
  refine Ev.step (fun k => rfl) (Ev.pos hi (Ev.pos (by omega) (Ev.pos (by rw [size_str]; omega) ?_)))
  have e : wrap64 (wrap64 (x * 64) + Int.tmod (wrap64 (bt (strOfNums l) (i : Int))) 64) = x * 64 + rd l i % 64 := by
    rw [bt_str ho (by omega) (by omega), w64 (n := rd l i) (by omega) (by omega), Int.tmod_eq_emod_of_nonneg hb.1, w64 (n := x * 64) (by omega) (by omega), w64 (by omega) (by omega)]
  rw [e, w64 (n := (i : Int) + 1) (by omega) (by omega)]
  exact h
theorem rn_end {l : List Int} {n : Nat} {x : Int} {r : Int × Int} (ho : Oct l) (hn : n ≤ l.length) (hn2 : n ≤ 1000) (h : scalar x = true → oct x = l.take n → r = (x, (n : Int))) (g : (scalar x = true → oct x ≠ l.take n) → Ev (fun k => paronymref01_Next.l0 k (strOfNums l) ((n + 1 : Nat) : Int)) r) : Ev (fun k => paronymref01_Next.l1 k (strOfNums l) n x n) r := by
  have ew : wrap64 ((n : Int) + 1) = ((n + 1 : Nat) : Int) := w64 (by omega) (by omega)
  refine Ev.step (fun k => rfl) (Ev.neg (by omega) (Ev.bindS (refScalar_is x) ?_))
  by_cases hs : scalar x = true
  · have hc := (scalar_iff x).1 hs
    refine Ev.pos hs (Ev.bind (refOctets_ev hc.1 hc.2.1) (Ev.pos (by omega) (Ev.pos (by rw [size_str]; omega) ?_)))
    rw [extract_str, List.drop_zero, Int.toNat_natCast]
    by_cases q : oct x = l.take n
    · exact Ev.pos (by rw [q]) (Ev.ret (h hs q).symm)
    · refine Ev.neg ?_ ?_
      · rw [toList_eq_iff]
        exact fun e => q (str_inj (oct_oct hc.1 hc.2.1) (ho.take _) e)
      · rw [ew]; exact g fun _ => q
  · refine Ev.neg hs ?_
    rw [ew]; exact g fun e => absurd e hs
theorem rn_start {l : List Int} {n : Nat} {r : Int × Int} (ho : Oct l) (h1 : 1 ≤ n) (h4 : n ≤ 4) (hn : n ≤ l.length) (h : Ev (fun k => paronymref01_Next.l1 k (strOfNums l) n (cand l n) n) r) : Ev (fun k => paronymref01_Next.l0 k (strOfNums l) n) r := by
  have hb := ho.rd (i := 0) (by omega) (by omega)
  refine Ev.step (fun k => rfl) (Ev.pos (by omega) (Ev.step (fun k => rfl) (Ev.pos (by rw [size_str]; simp; omega) (Ev.pos (by rw [size_str]; omega) ?_))))
  rw [bt_str ho (by omega) (by omega), w64 (n := rd l 0) (by omega) (by omega)]
  have tm : ∀ m : Int, Int.tmod (rd l 0) m = rd l 0 % m := fun m => Int.tmod_eq_emod_of_nonneg hb.1
  have one : ((1 : Nat) : Int) = 1 := rfl
  by_cases e2 : n = 2
  · refine Ev.pos (by omega) (Ev.step (fun k => rfl) (Ev.neg (by omega) (Ev.step (fun k => rfl) (Ev.neg (by omega) (Ev.step (fun k => rfl) ?_)))))
    show Ev (fun k => paronymref01_Next.l1 k _ _ _ 1) _
    subst e2
    rw [tm, ← one]
    exact rn_step ho (by decide) (by omega) (by omega) (by omega) (by omega) h
  · by_cases e3 : n = 3
    · refine Ev.neg (by omega) (Ev.step (fun k => rfl) (Ev.pos (by omega) (Ev.step (fun k => rfl) (Ev.neg (by omega) (Ev.step (fun k => rfl) ?_)))))
      show Ev (fun k => paronymref01_Next.l1 k _ _ _ 1) _
      subst e3
      have hb1 := ho.rd (i := ((1 : Nat) : Int)) (by omega) (by omega)
      rw [tm, ← one]
      exact rn_step ho (by decide) (by omega) (by omega) (by omega) (by omega) (rn_step ho (by decide) (by omega) (by omega) (by omega) (by omega) h)
    · by_cases e4 : n = 4
      · refine Ev.neg (by omega) (Ev.step (fun k => rfl) (Ev.neg (by omega) (Ev.step (fun k => rfl) (Ev.pos (by omega) (Ev.step (fun k => rfl) ?_)))))
        show Ev (fun k => paronymref01_Next.l1 k _ _ _ 1) _
        subst e4
        have hb1 := ho.rd (i := ((1 : Nat) : Int)) (by omega) (by omega)
        have hb2 := ho.rd (i := ((1 + 1 : Nat) : Int)) (by omega) (by omega)
        rw [tm, ← one]
        exact rn_step ho (by decide) (by omega) (by omega) (by omega) (by omega) (rn_step ho (by decide) (by omega) (by omega) (by omega) (by omega) (rn_step ho (by decide) (by omega) (by omega) (by omega) (by omega) h))
      · refine Ev.neg (by omega) (Ev.step (fun k => rfl) (Ev.neg (by omega) (Ev.step (fun k => rfl) (Ev.neg (by omega) (Ev.step (fun k => rfl) ?_)))))
        show Ev (fun k => paronymref01_Next.l1 k _ _ _ 1) _
        have e1 : n = 1 := by omega
        subst e1
        exact h
theorem rn_over {l : List Int} {n : Nat} (h : 4 < n ∨ l.length < n) : Ev (fun k => paronymref01_Next.l0 k (strOfNums l) n) (0, 0) := by
  by_cases a : (n : Int) ≤ 4
  · have e : decide ((n : Int) ≤ ((strOfNums l).size : Int)) = false := by rw [size_str]; simp; omega
    exact Ev.step (fun k => rfl) (Ev.pos a (Ev.step (fun k => rfl) (Ev.neg (by rw [e]; decide) (Ev.now _))))
  · exact Ev.step (fun k => rfl) (Ev.neg a (Ev.step (fun k => rfl) (Ev.now _)))
theorem refNext_miss {l : List Int} (ho : Oct l) (hs : Stuck l) : Ev (fun k => paronymref01_Next.f k (strOfNums l)) (0, 0) := by
  have key : ∀ (d n : Nat), 5 - n = d → 1 ≤ n → Ev (fun k => paronymref01_Next.l0 k (strOfNums l) n) (0, 0) := by
    intro d
    induction d with
    | zero => intro n h1 h2; exact rn_over (.inl (by omega))
    | succ d ih =>
      intro n h1 h2
      by_cases q : l.length < n
      · exact rn_over (.inr q)
      · refine rn_start ho h2 (by omega) (by omega) (rn_end ho (by omega) (by omega) ?_ ?_)
        · intro a b
          exact absurd (by rw [b, List.take_append_drop]) (hs _ (l.drop n) a)
        · intro _
          exact ih (n + 1) (by omega) (by omega)
  exact key 4 1 rfl (by omega)
theorem cand_hit {c : Int} {m : List Int} (hs : scalar c = true) : cand (oct c ++ m) (oct c).length = c := by
  have hc := (scalar_iff c).1 hs
  by_cases a : c < 128
  · have e : oct c = [c] := if_pos a
    rw [e]; rfl
  · by_cases b : c < 2048
    · have e : oct c = [192 + c / 64, 128 + c % 64] := by unfold oct; rw [if_neg a, if_pos b]
      rw [e]
      show ((192 + c / 64) % 32) * 64 + (128 + c % 64) % 64 = c
      omega
    · by_cases d : c < 65536
      · have e : oct c = [224 + c / 4096, 128 + c / 64 % 64, 128 + c % 64] := by unfold oct; rw [if_neg a, if_neg b, if_pos d]
        rw [e]
        show (((224 + c / 4096) % 16) * 64 + (128 + c / 64 % 64) % 64) * 64 + (128 + c % 64) % 64 = c
        omega
      · have e : oct c = [240 + c / 262144, 128 + c / 4096 % 64, 128 + c / 64 % 64, 128 + c % 64] := by unfold oct; rw [if_neg a, if_neg b, if_neg d]
        rw [e]
        show ((((240 + c / 262144) % 8) * 64 + (128 + c / 4096 % 64) % 64) * 64 + (128 + c / 64 % 64) % 64) * 64 + (128 + c % 64) % 64 = c
        omega
theorem refNext_hit {c : Int} {m : List Int} (hs : scalar c = true) (ho : Oct (oct c ++ m)) : Ev (fun k => paronymref01_Next.f k (strOfNums (oct c ++ m))) (c, (oct c).length) := by
  have hc := (scalar_iff c).1 hs
  have hl := oct_len hc.1 hc.2.1
  have key : ∀ (d n : Nat), (oct c).length - n = d → 1 ≤ n → n ≤ (oct c).length → Ev (fun k => paronymref01_Next.l0 k (strOfNums (oct c ++ m)) n) (c, (oct c).length) := by
    intro d
    induction d with
    | zero =>
      intro n h1 h2 h3
      have e : n = (oct c).length := by omega
      subst e
      refine rn_start ho h2 (by omega) (by simp) ?_
      rw [cand_hit hs]
      refine rn_end ho (by simp) (by omega) (fun _ _ => rfl) ?_
      intro q
      exact absurd (by simp) (q hs)
    | succ d ih =>
      intro n h1 h2 h3
      refine rn_start ho h2 (by omega) (by rw [List.length_append]; omega) (rn_end ho (by rw [List.length_append]; omega) (by omega) ?_ ?_)
      · intro a b
        have hcand := (scalar_iff _).1 a
        have e : oct c ++ m = oct (cand (oct c ++ m) n) ++ (oct c ++ m).drop n := by rw [b, List.take_append_drop]
        have := oct_ahead hs a ho e
        rw [← this] at b
        have : (oct c).length = ((oct c ++ m).take n).length := by rw [← b]
        rw [List.length_take, List.length_append] at this
        omega
      · intro _
        exact ih (n + 1) (by omega) (by omega) (by omega)
  exact key _ 1 rfl (by omega) (by omega)
theorem refDecode_ev {s rest : List Int} (hr : Stuck rest) (hs : s.all scalar = true) (ho : Oct (enc s ++ rest)) (hl : (enc s ++ rest).length ≤ 1099511627776) : Ev (fun k => paronymref01_Decode.f k (strOfNums (enc s ++ rest))) (s, ((enc s).length : Int)) := by
  have hl' := hl
  rw [List.length_append] at hl
  have el := enc_len hs
  have key : ∀ (d i : Nat), s.length - i = d → i ≤ s.length → Ev (fun k => paronymref01_Decode.l0 k (strOfNums (enc s ++ rest)) (s.take i) ((enc (s.take i)).length : Int)) (s, ((enc s).length : Int)) := by
    intro d
    induction d with
    | zero =>
      intro i h1 h2
      have : i = s.length := by omega
      subst this
      rw [List.take_length]
      by_cases z : rest.length = 0
      · exact Ev.step (fun k => rfl) (Ev.neg (by rw [size_str, List.length_append]; omega) (Ev.now _))
      · refine Ev.step (fun k => rfl) (Ev.pos (by rw [size_str, List.length_append]; omega) (Ev.pos (by omega) (Ev.pos (by rw [size_str, List.length_append]; omega) ?_)))
        rw [extract_str, size_str, List.take_length, Int.toNat_natCast, List.drop_left]
        exact Ev.bind (refNext_miss (fun x hx => ho x (List.mem_append_right _ hx)) hr) (Ev.pos rfl (Ev.now _))
    | succ d ih =>
      intro i h1 h2
      have hi : i < s.length := by omega
      have hsi : scalar (rd s i) = true := by
        rw [List.all_eq_true] at hs
        exact hs _ (rd_mem (by omega) (by omega))
      have hc := (scalar_iff _).1 hsi
      have hol := oct_len hc.1 hc.2.1
      have e : enc s = enc (s.take i) ++ (oct (rd s i) ++ enc (s.drop (i + 1))) := by
        rw [← enc_cons, ← drop_cons s i hi, ← enc_append, List.take_append_drop]
      have hlen : (enc s ++ rest).length = (enc (s.take i)).length + (oct (rd s i)).length + (enc (s.drop (i + 1))).length + rest.length := by
        rw [e]; simp; omega
      refine Ev.step (fun k => rfl) (Ev.pos (by rw [size_str, hlen]; omega) (Ev.pos (by omega) (Ev.pos (by rw [size_str, hlen]; omega) ?_)))
      have ed : (enc s ++ rest).drop (enc (s.take i)).length = oct (rd s i) ++ (enc (s.drop (i + 1)) ++ rest) := by
        conv => lhs; rw [e]
        rw [List.append_assoc, List.drop_left, List.append_assoc]
      rw [extract_str, size_str, List.take_length, Int.toNat_natCast, ed]
      have ho2 : Oct (oct (rd s i) ++ (enc (s.drop (i + 1)) ++ rest)) := by
        rw [← ed]; exact ho.drop _
      refine Ev.bind (refNext_hit hsi ho2) (Ev.neg (by show ¬ (((oct (rd s i)).length : Int) = 0); omega) (Ev.pos (by rw [List.length_take]; omega) ?_))
      have en : wrap64 (((enc (s.take i)).length : Int) + ((oct (rd s i)).length : Int)) = (enc (s.take (i + 1))).length := by
        rw [take_snoc s i hi, enc_snoc, List.length_append, w64 (by omega) (by omega)]; simp
      have := ih (i + 1) (by omega) (by omega)
      rw [← take_snoc s i hi, en]
      exact this
  have := key s.length 0 (by omega) (by omega)
  rw [List.take_zero] at this
  exact this

end Go.Proofs.Ytooiajkbpkfplaa.K

-- from Pdec3
/- UTF: what the laws need at once. -/
namespace Go.Proofs.Ytooiajkbpkfplaa.K
set_option linter.unusedVariables false
set_option linter.unusedSimpArgs false
open Go.RowKit Go.Proofs.YtooiajkbpkfplaaW.PrintWords Go.Proofs.YtooiajkbpkfplaaW.PrintMore Go.Proofs.Ytooiajkbpkfplaa.Q

theorem stuck_nil : Stuck [] := by
  intro c m hs e
  have hc := (scalar_iff c).1 hs
  have := oct_len hc.1 hc.2.1
  have : ([] : List Int).length = (oct c ++ m).length := by rw [← e]
  rw [List.length_append, List.length_nil] at this
  omega
theorem Decode_enc {s : List Int} (hs : s.all scalar = true) (hl : s.length ≤ 1048576) : Ev (fun k => utf_Decode.f k (enc s)) (s, 0, ((enc s).length : Int)) := by
  have h := enc_len hs
  have := Decode_ev (s := s) (rest := []) stuck_nil hs (by rw [List.append_nil]; exact enc_oct hs) (by rw [List.append_nil]; omega)
  rw [List.append_nil, if_pos (c := ([] : List Int).length = 0) rfl] at this
  exact this
theorem all_append_scalar (s t : List Int) : (s ++ t).all scalar = (s.all scalar && t.all scalar) := List.all_append
end Go.Proofs.Ytooiajkbpkfplaa.K

-- from Hup
namespace Go.Proofs.Ytooiajkbpkfplaa.Q
open Go.RowKit Go.Shelf Go.Proofs.YtooiajkbpkfplaaW.PrintWords Go.Proofs.YtooiajkbpkfplaaW.PrintLast Go.Proofs.YtooiajkbpkfplaaW.PrintMore
set_option linter.unusedVariables false
set_option linter.unusedSimpArgs false
attribute [local go_sem] Oper.semAt_some

theorem leavesM_marks {F : Fence} {n : Nat} {P : Program} {fn : Func} {tmps : Array Value} {R : Ending → World → Prop} {n0 : Nat} : ∀ (Ds : List Nat) (W : World), Ds.Nodup → (∀ D ∈ Ds, n0 ≤ D ∧ W.heap[D]? = some (.deferred (some []))) →
    (∀ W', Below n0 W W' → LeavesInM F n P fn tmps R [] .returning W') → LeavesInM F n P fn tmps R (Ds.map (fun D => { target := .collected D, args := #[] })) .returning W
  | [], W, _, _, h => h W (Below.refl _ _)
  | D :: Ds, W, hn, hD, h => by
    have hd := hD D (List.mem_cons_self ..)
    have hlt : D < W.heap.size := (Array.getElem?_eq_some_iff.1 hd.2).1
    have hb : Below n0 W (W.putObj D (.deferred none)) := (Below.refl n0 W).grown (grownBy_putObj' W D _) (by omega) (fun k e => by cases e; exact hd.1)
    refine ⟨by simp, .inl ⟨_, _, rfl, run_takeDeferred hd.2, ?_⟩⟩
    refine leavesM_marks Ds _ (List.nodup_cons.1 hn).2 (fun E hE => ⟨(hD E (List.mem_cons_of_mem _ hE)).1, ?_⟩) (fun W' hW' => h W' (hb.trans hW'))
    have hne : E ≠ D := fun e => (List.nodup_cons.1 hn).1 (e ▸ hE)
    rw [World.putObj_heap_other hne]
    exact (hD E (List.mem_cons_of_mem _ hE)).2
theorem places_prefix : ∀ (s : List Int) (a : Int) (pre : List (Int × Int)) (x : Int × Int), pre ++ [x] <+: K.places a s → x.1 = a + (K.enc (pre.map Prod.snd)).length ∧ x.2 = rd s pre.length
  | [], _, pre, x, h => by
    have := h.length_le
    simp [K.places] at this
  | c :: s, a, [], x, h => by
    obtain ⟨t, ht⟩ := h
    simp [K.places] at ht
    obtain ⟨rfl, _⟩ := ht
    simp [K.enc, rd]
  | c :: s, a, p :: pre, x, h => by
    obtain ⟨t, ht⟩ := h
    simp only [K.places, List.cons_append, List.cons.injEq] at ht
    obtain ⟨rfl, ht⟩ := ht
    have := places_prefix s _ pre x ⟨t, by simpa using ht⟩
    refine ⟨?_, ?_⟩
    · rw [this.1, List.map_cons, K.enc_cons, List.length_append]
      simp
      omega
    · rw [this.2]
      simp [rd]
/-- What lasts: the box of the second parameter, the result's variable; nothing older is touched. -/
def upSt (w : World) (m : Int) (W : World) : Prop := (∃ v, Boxed W (w.heap.size + 1) 4 v) ∧ Boxed W w.heap.size 5 (.int .u8 m) ∧ Below w.heap.size w W
theorem upSt.step {w : World} {m : Int} {W W' : World} (h : upSt w m W) (hb : Below W.heap.size W W') : upSt w m W' := by
  obtain ⟨⟨v, h1⟩, h2, h3⟩ := h
  refine ⟨⟨v, ?_⟩, ?_, ?_⟩
  · exact (hb.block _ h1.lt).trans h1
  · exact (hb.block _ h2.lt).trans h2
  · exact h3.trans (hb.mono h3.size)
theorem upSt.start (w : World) (m : Int) : upSt w m ((w.alloc (.cells #[.int .u8 m] 5)).alloc (.cells #[.bool false] 4)) := by
  refine ⟨⟨.bool false, ?_⟩, (Boxed.new w _ _).alloc _, ((Below.refl _ w).alloc (Nat.le_refl _) _).alloc (by simp) _⟩
  have := Boxed.new (w.alloc (.cells #[.int .u8 m] 5)) 4 (.bool false)
  rwa [World.size_alloc] at this

/-- Between the rounds. -/
def upInv (w w1 w3 w4 : World) (a' : Act) (W : World) : Prop := ∃ (r : Nat) (Ds : List Nat) (u0 u1 u2 u7 u9 u10 u11 u12 u13 u14 u15 u16 u17 u18 u19 u20 u21 u22 u23 u24 u25 u26 u27 u28 u29 u30 u31 u32 u33 u34 u35 u36 u37 u38 u39 u40 u41 u42 u43 u44 u45 u46 u47 u48 u49 u50 u51 u52 u53 u54 u55 u56 u57 u58 u59 u60 u61 u62 u63 u64 u65 u66 u67 u68 u69 u70 : Value), a' = { tmps := #[u0, u1, u2, .pointer (some ⟨w.heap.size, 0, none⟩), .pointer (some ⟨w.heap.size + 1, 0, none⟩), .func (.func 57) #[] #[.pointer (some ⟨w1.heap.size, 0, none⟩)], .pointer (some ⟨w3.heap.size, 0, none⟩), u7, .int .i64 r, u9, u10, u11, u12, u13, u14, u15, u16, u17, u18, u19, u20, u21, u22, u23, u24, u25, u26, u27, u28, u29, u30, u31, u32, u33, u34, u35, u36, u37, u38, u39, u40, u41, u42, u43, u44, u45, u46, u47, u48, u49, u50, u51, u52, u53, u54, u55, u56, u57, u58, u59, u60, u61, u62, u63, u64, u65, u66, u67, u68, u69, u70], defers := Ds.map (fun D => { target := .collected D, args := #[] }) } ∧ Aside0 (r ≤ 2) ∧ Aside0 (Below w4.heap.size w4 W) ∧ Aside0 (Ds.Nodup ∧ ∀ D ∈ Ds, w4.heap.size ≤ D ∧ D < W.heap.size ∧ W.heap[D]? = some (.deferred (some [])))
def upMu (a' : Act) : Nat := 2 - (intOf (a'.tmps.getD 8 undef)).toNat

set_option maxHeartbeats 2000000 in
set_option maxRecDepth 100000 in
theorem paronymlaw01_UtfPoints.calls (k : Nat) (A0 : Option Addr) (c0 : Nat) (y : List Int) (m : Int) (w : World) (ps : List (Int × Int)) (wn : Int) (hr0 : Kd.C (Kd.int .u8) w A0 y.length y) (hc0 : y.length ≤ c0) (hm : 0 ≤ m ∧ m ≤ 255) (hpl : ps.length ≤ 600) (hoc : ∀ c ∈ ps.map Prod.snd, paronymref01_Octets.f k c = some (strOfNums (K.oct c)) ∧ (K.oct c).length ≤ 4) (hgood : ∀ pre x, pre ++ [x] <+: ps → x.1 = ((K.enc (pre.map Prod.snd)).length : Int) ∧ x.2 = rd (ps.map Prod.snd) pre.length)
    (ha : paronymlaw01_awake.f k = some true) (hy : y.length ≤ 600 → slices_Clone_byte_byte.f y = some y) (hps : y.length ≤ 600 → utf_Points.pts k y 0 = some ps) (hw : y.length ≤ 600 → paronymref01_Decode.f k (strOfNums y) = some (ps.map Prod.snd, wn)) :
    Calls Try.prog 9 #[.slice A0 y.length c0, .int .u8 m] w fun e w' => e = .returned (.bool true) ∧ Below w.heap.size w w' := by
  have HR := Aside0.mk hr0
  have HC := Aside0.mk hc0
  have HM := Aside0.mk hm
  clear hm
  have HPL := Aside0.mk hpl
  have HOC := Aside0.mk hoc
  have HG := Aside0.mk hgood
  clear hpl hoc hgood
  have HA := Aside0.mk ha
  have HY := Aside0.mk hy
  have HPS := Aside0.mk hps
  have HW := Aside0.mk hw
  clear hr0 hc0 ha hy hps hw
  refine (callsIn_wide (n := 10)).1 ?_
  refine callsIn_of_wp_marks Try.func9 rfl trivial ?_ rfl
  simp only [Try.ntmps9, List.size_toArray, List.length_cons, List.length_nil, Nat.reduceAdd, Nat.reduceSub, Array.replicate_succ, Array.replicate_zero, List.push_toArray, List.append_toArray, List.nil_append, List.cons_append]
  have hCw : ∀ W1, Below w.heap.size w W1 → Kd.C (Kd.int .u8) W1 A0 y.length y := fun W1 hb => Kd.C_below HR.out hb
  have HCW := Aside0.mk hCw
  clear hCw
  have HST := Aside0.mk (upSt.start w m)
  gi_wp2_with (first
    | (refine ⟨trivial, ?_⟩
       gi_at_call 27
       refine (callsIn_wide.2 (paronymlaw01_awake.calls k true _ HA.out)).mono ?_
       rintro e w1 ⟨rfl, hb1⟩
       have n0 := Aside0.mk (HST.out.step hb1)
       clear HST hb1
       have HST := n0
       clear n0
       obtain ⟨vr, hbr⟩ := HST.out.1
       have hcr := hbr.cell
       have hfr := hbr.frozen
       clear hbr)
    | (refine ⟨trivial, ?_⟩
       gi_at_call 33
       refine (callsIn_wide.2 (utf_Points.calls A0 c0 y y _ (HCW.out _ HST.out.2.2) HC.out (HY.out (by omega)))).mono ?_
       rintro e w2 ⟨v, rfl, hbx, hv, hb, hsz⟩
       obtain ⟨A1, c1, rfl⟩ := Kd.R_slice hv.out
       have n0 := Aside0.mk (HST.out.step hb.out)
       have HBX := hbx
       have HCAP := Aside0.mk (Kd.R_reads' hv.out).2.1
       have HFS : Aside0 (Kd.F (Kd.int .u8) w2 (fun k => w1.heap.size ≤ k ∧ k < w2.heap.size) A1 y.length y) := ⟨Kd.F_mono (Kd.R_F (Kd.R_bound hv.out)) (fun k hk => ⟨by have := hk.1; omega, hk.2.2.1⟩)⟩
       have HSZ := hsz
       have HSX := Aside0.mk HST.out.2.2.size
       clear HST hbx hv hb hsz
       have HST := n0
       clear n0
       have HL6 := Aside0.mk (show y.length ≤ 600 by omega)
       have hcv := Kd.C_string (P := Try.prog) (A := A0) (c := c0) Try.underlying22 Try.underlying5 Try.underlying9 (HCW.out _ HST.out.2.2))
    | (refine ⟨trivial, ?_⟩
       gi_at_call 32
       refine (callsIn_wide.2 (paronymref01_Decode.calls k _ _ _ _ (HW.out HL6.out))).mono ?_
       rintro e w3 ⟨v3, rfl, hv3, hb3⟩
       obtain ⟨A2, c2, rfl⟩ := Kd.R_slice hv3
       have HV3 := Aside0.mk hv3
       have HB3 := Aside0.mk hb3
       clear hv3 hb3))
  · exact ⟨_, by simp [results, Try.results9, go_sem, hcr, hfr], rfl, HST.out.2.2.setCell (p := ⟨w.heap.size + 1, 0, none⟩) (Nat.le_succ _) _⟩
  · have hsz3 := HB3.out.size
    have hsz2 := HST.out.2.2.size
    have hsx := HSX.out
    have hsz := HSZ.out
    have b6 : Boxed (w3.alloc (.cells #[.slice A2 ps.length c2] 31)) w3.heap.size 31 (.slice A2 ps.length c2) := Boxed.new w3 _ _
    have hb4 : Below w2.heap.size w2 (w3.alloc (.cells #[.slice A2 ps.length c2] 31)) := HB3.out.alloc hsz3 _
    have HS4 := Aside0.mk (HST.out.step hb4)
    have HF4 : Aside0 (Kd.C (Kd.int .i64) (w3.alloc (.cells #[.slice A2 ps.length c2] 31)) A2 (ps.map Prod.snd).length (ps.map Prod.snd)) := ⟨Kd.C_below (Kd.R_reads' HV3.out).2.2 ((Below.refl _ w3).alloc (Nat.le_refl _) _)⟩
    have H6 := Aside0.mk b6
    have HB4 := Aside0.mk hb4
    have HL4 := Aside0.mk (show w3.heap.size < (w3.alloc (.cells #[.slice A2 ps.length c2] 31)).heap.size by simp)
    clear b6 hb4 HV3 HB3 hcr hfr hcv
    generalize w3.alloc (.cells #[.slice A2 ps.length c2] 31) = w4 at *
    refine wpIn_loop (fun a' W => upInv w w1 w3 w4 a' W) (fun a' _ => upMu a') ?_ ?_
    · exact ⟨0, [], _, _, _, _, _, _, _, _, _, _, _, _, _, _, _, _, _, _, _, _, _, _, _, _, _, _, _, _, _, _, _, _, _, _, _, _, _, _, _, _, _, _, _, _, _, _, _, _, _, _, _, _, _, _, _, _, _, _, _, _, _, _, _, _, _, _, rfl, ⟨by omega⟩, ⟨Below.refl _ _⟩, ⟨List.nodup_nil, fun D h => by cases h⟩⟩
    · rintro _ wr ⟨r, Ds, u0, u1, u2, u7, u9, u10, u11, u12, u13, u14, u15, u16, u17, u18, u19, u20, u21, u22, u23, u24, u25, u26, u27, u28, u29, u30, u31, u32, u33, u34, u35, u36, u37, u38, u39, u40, u41, u42, u43, u44, u45, u46, u47, u48, u49, u50, u51, u52, u53, u54, u55, u56, u57, u58, u59, u60, u61, u62, u63, u64, u65, u66, u67, u68, u69, u70, rfl, HR2, HBW, HDS⟩
      have hs4 := HS4.out.step HBW.out
      obtain ⟨vr, hbr⟩ := hs4.1
      have hcr := hbr.cell
      have hfr := hbr.frozen
      clear hs4 hbr
      have hr2 := HR2.out
      gi_wp2
      · have hszr := HBW.out.size
        have hw2r : Below w2.heap.size w2 ((wr.alloc (.cells #[.int .i64 0] 3)).alloc (.cells #[.int .i64 0] 3)) := ((HB4.out.trans (HBW.out.mono HB4.out.size)).alloc (by have := HB4.out.size; omega) _).alloc (by have := HB4.out.size; simp; omega) _
        have bN : Boxed ((wr.alloc (.cells #[.int .i64 0] 3)).alloc (.cells #[.int .i64 0] 3)) wr.heap.size 3 (.int .i64 0) := (Boxed.new wr _ _).alloc _
        have bA : Boxed ((wr.alloc (.cells #[.int .i64 0] 3)).alloc (.cells #[.int .i64 0] 3)) (wr.heap.size + 1) 3 (.int .i64 0) := by have := Boxed.new (wr.alloc (.cells #[.int .i64 0] 3)) 3 (.int .i64 0); rwa [World.size_alloc] at this
        have bB : Below wr.heap.size wr ((wr.alloc (.cells #[.int .i64 0] 3)).alloc (.cells #[.int .i64 0] 3)) := ((Below.refl _ wr).alloc (Nat.le_refl _) _).alloc (by simp) _
        have hSz : ((wr.alloc (.cells #[.int .i64 0] 3)).alloc (.cells #[.int .i64 0] 3)).heap.size = wr.heap.size + 2 := by simp
        generalize (wr.alloc (.cells #[.int .i64 0] 3)).alloc (.cells #[.int .i64 0] 3) = wq at *
        refine wpIn_rangeFunc_ownG rfl (by omega) (gf := 57) (lb := #[.pointer (some ⟨w1.heap.size, 0, none⟩)]) rfl trivial (enters_of Try.func57 (by kernel_rfl) rfl)
          (utf_Points.stops k y ps (HPS.out HL6.out) (by have := HL6.out; omega) w1.heap.size A1 c1 (fun k => w1.heap.size ≤ k ∧ k < w2.heap.size) w2 (fun k hk => hk.2) ⟨Nat.le_refl _, by omega⟩ HBX.out HFS.out HCAP.out _ (by omega)) KeepS.trans (keepS_b (fun k hk => Nat.lt_of_lt_of_le hk.2 hw2r.size)) hw2r (fun _ => rfl)
          (fun pre W => ((((Boxed W wr.heap.size 3 (.int .i64 (pre.length : Int)) ∧ Boxed W (wr.heap.size + 1) 3 (.int .i64 ((K.enc (pre.map Prod.snd)).length : Int))) ∧ Below wr.heap.size wr W) ∧ wr.heap.size + 2 ≤ W.heap.size) ∧ ((pre.length : Int) ≤ m ∧ (K.enc (pre.map Prod.snd)).length ≤ 4 * pre.length)))
          (fun c xs W => (((Boxed W wr.heap.size 3 (.int .i64 m) ∧ Below wr.heap.size wr W) ∧ wr.heap.size + 2 ≤ W.heap.size) ∧ (c = .exit 2 ∧ m < (xs.length : Int))) ∨ (c = .ret ∧ ¬ xs <+: ps))
          (OwnFrom.and (OwnFrom.and (OwnFrom.and (OwnFrom.and (Own.from (boxed_own wr.heap.size 3 (fun pre : List (Int × Int) => .int .i64 (pre.length : Int))) _) (Own.from (boxed_own (wr.heap.size + 1) 3 (fun pre : List (Int × Int) => .int .i64 ((K.enc (pre.map Prod.snd)).length : Int))) _)) (ownFrom_below (Nat.le_refl _) (by omega))) (fun s W W' row hs hg hr => Nat.le_trans hs hg.size)) (fun _ _ _ _ hs _ _ => hs))
          (fun c s W W' row hs hg hr => by
            rcases hs with ⟨⟨⟨h1, h2⟩, h3⟩, h4⟩ | h
            · exact .inl ⟨⟨⟨boxed_own wr.heap.size 3 (fun _ : Unit => .int .i64 m) () W W' row h1 hg (fun r e => (hr r e).2), ownFrom_below (β := Unit) (Nat.le_refl _) (by omega) () W W' row h2 hg hr⟩, Nat.le_trans h3 hg.size⟩, h4⟩
            · exact .inr h)
          ⟨⟨⟨⟨bN, bA⟩, bB⟩, by omega⟩, ⟨by simpa using HM.out.1, by simp [K.enc]⟩⟩
          (fun x => { tmps := #[u0, u1, u2, .pointer (some ⟨w.heap.size, 0, none⟩), .pointer (some ⟨w.heap.size + 1, 0, none⟩), .func (.func 57) #[] #[.pointer (some ⟨w1.heap.size, 0, none⟩)], .pointer (some ⟨w3.heap.size, 0, none⟩), u7, .int .i64 r, .pointer (some ⟨wr.heap.size, 0, none⟩), .pointer (some ⟨wr.heap.size + 1, 0, none⟩), .int .i64 x.1, .int .i64 x.2, u13, u14, u15, u16, u17, u18, u19, u20, u21, u22, u23, u24, u25, u26, u27, u28, .int .i64 r, .bool true, u31, u32, .func (.func 57) #[] #[.pointer (some ⟨w1.heap.size, 0, none⟩)], .int .i64 x.1, .int .i64 x.2, u36, u37, u38, u39, u40, u41, u42, u43, u44, u45, u46, u47, u48, u49, u50, u51, u52, u53, u54, u55, u56, u57, u58, u59, u60, u61, u62, u63, u64, u65, u66, u67, u68, u69, u70], defers := [] }) ?assign ?body ?done ?stop
        case assign =>
          intro l x W K hK
          gi_wp2
          exact hK
        case body =>
          rintro l pre x W ⟨⟨⟨⟨hN, hA⟩, hB⟩, hS⟩, hm⟩ hlt
          have hcN := hN.cell
          have hcA := hA.cell
          have hfN := hN.frozen
          have hfA := hA.frozen
          have hb4W : Below w4.heap.size w4 W := HBW.out.trans (hB.mono hszr)
          have hs4 := HS4.out.step hb4W
          have hcM := hs4.2.1.cell
          have hc6 : W.cell? ⟨w3.heap.size, 0, none⟩ = some (.slice A2 ps.length c2) := Boxed.cell ((hb4W.block _ H6.out.lt).trans H6.out)
          obtain ⟨vr, hbr⟩ := hs4.1
          have hcr := hbr.cell
          have hfr := hbr.frozen
          have hCW := Kd.C_below HF4.out hb4W
          rw [List.length_map] at hCW
          have p0 : (0 : Int) ≤ (pre.length : Int) := by omega
          have q0 : (pre.length : Int) < (ps.length : Int) := by omega
          obtain ⟨ad, e1, hel⟩ := Kd.at_int hCW pre.length p0 q0
          cases e1
          rw [Int.toNat_natCast] at hel
          have HN := Aside0.mk hN
          have HA' := Aside0.mk hA
          have HB' := Aside0.mk hB
          have HS' := Aside0.mk hS
          have HM' := Aside0.mk hm
          have HLT := Aside0.mk hlt
          have hm2 := HM.out
          clear hN hA hB hS hb4W hs4 hbr hCW
          obtain ⟨x1, x2⟩ := x
          by_cases g1 : (pre.length : Int) < m
          · by_cases g2 : x1 = ((K.enc (pre.map Prod.snd)).length : Int)
            · by_cases g3 : x2 = rd (ps.map Prod.snd) pre.length
              · subst g2
                subst g3
                have HO := Aside0.mk (HOC.out _ (K.rd_mem p0 (by rw [List.length_map]; exact q0)))
                have hmix : Try.prog.follows .mixedOrders = true := by kernel_rfl
                have hdep : 1 ≤ 10 - 1 - 1 := by omega
                gi_wp2
                have hA1 : Boxed (W.setCell ⟨wr.heap.size, 0, none⟩ (.int .i64 ((pre.length : Int) + 1))).drew (wr.heap.size + 1) 3 (.int .i64 ((K.enc (pre.map Prod.snd)).length : Int)) := Boxed.other HA'.out (by omega) _
                have hcA1 := hA1.cell
                have hfA1 := hA1.frozen
                have he : (K.enc (pre.map Prod.snd ++ [rd (ps.map Prod.snd) pre.length])).length = (K.enc (pre.map Prod.snd)).length + (K.oct (rd (ps.map Prod.snd) pre.length)).length := by rw [K.enc_snoc, List.length_append]
                have hw : IntKind.i64.wrap (((K.enc (pre.map Prod.snd)).length : Int) + ((strOfNums (K.oct (rd (ps.map Prod.snd) pre.length))).size : Int)) = ((K.enc ((pre ++ [(((K.enc (pre.map Prod.snd)).length : Int), rd (ps.map Prod.snd) pre.length)]).map Prod.snd)).length : Int) := by
                  have h1 := HO.out.2
                  have h2 := HM'.out.2
                  have h3 := HLT.out
                  have h4 := HPL.out
                  rw [List.map_append, List.map_cons, List.map_nil, he, strOfNums_size, K.wraps_i64 _ (by omega) (by omega)]
                  simp
                have HWr := Aside0.mk hw
                clear hw
                gi_region_with_o (refine ⟨trivial, ?_⟩; gi_at_call 34; refine (CallsIn.inRound l (callsIn_wide.2 (paronymref01_Octets.calls k _ _ _ HO.out.1))).mono ?_; rintro e w5 ⟨rfl, hb5⟩; have hA5 : Boxed w5 (wr.heap.size + 1) 3 (.int .i64 ((K.enc (pre.map Prod.snd)).length : Int)) := (hb5.block _ hA1.lt).trans hA1; have hcA5 := hA5.cell; have hfA5 := hA5.frozen)
                all_goals have hN1 : Boxed (W.setCell ⟨wr.heap.size, 0, none⟩ (.int .i64 ((pre.length : Int) + 1))).drew wr.heap.size 3 (.int .i64 ((pre.length : Int) + 1)) := Boxed.set _ HN.out
                all_goals have hN5 : Boxed w5 wr.heap.size 3 (.int .i64 ((pre.length : Int) + 1)) := (hb5.block _ hN1.lt).trans hN1
                all_goals have hszW : (W.setCell ⟨wr.heap.size, 0, none⟩ (.int .i64 ((pre.length : Int) + 1))).drew.heap.size = W.heap.size := by simp
                all_goals have hsz5 := hb5.size
                all_goals have hs0 := HS'.out
                all_goals have k1 : KeepsOthers W (W.setCell ⟨wr.heap.size, 0, none⟩ (.int .i64 ((pre.length : Int) + 1))).drew := (KeepsOthers.setCell _ _ _).trans (KeepsOthers.drew _)
                all_goals have k2 : KeepsOthers _ w5 := KeepsOthers.of_grownBy (grownBy_none_of_below hb5) (fun j o e => by cases e)
                all_goals refine ⟨((k1.trans k2).trans (KeepsOthers.setCell _ _ _)).from _, ?_, ⟨⟨⟨⟨?_, ?_⟩, ?_⟩, ?_⟩, ?_, ?_⟩⟩
                all_goals first
                  | (intro j hj
                     have e2 := Below.heap_setCell W ⟨wr.heap.size, 0, none⟩ (.int .i64 ((pre.length : Int) + 1)) j (show j ≠ wr.heap.size by have := hj.2; have := HB4.out.size; omega)
                     have e3 := hb5.block j (by have := hj.2; have := HB4.out.size; omega)
                     have e4 := Below.heap_setCell w5 ⟨wr.heap.size + 1, 0, none⟩ (.int .i64 (IntKind.i64.wrap (((K.enc (pre.map Prod.snd)).length : Int) + ((strOfNums (K.oct (rd (ps.map Prod.snd) pre.length))).size : Int)))) j (show j ≠ wr.heap.size + 1 by have := hj.2; have := HB4.out.size; omega)
                     exact e4.trans (e3.trans e2))
                  | (rw [List.length_append]; exact Boxed.other hN5 (by omega) _)
                  | (rw [HWr.out]; exact Boxed.set _ hA5)
                  | exact (((below_drew (HB'.out.setCell (p := ⟨wr.heap.size, 0, none⟩) (Nat.le_refl _) _)).trans (hb5.mono (by rw [hszW]; omega))).setCell (p := ⟨wr.heap.size + 1, 0, none⟩) (Nat.le_succ _) _)
                  | (show wr.heap.size + 2 ≤ (World.setCell _ _ _).heap.size; simp at *; omega)
                  | (rw [List.length_append]; simp; omega)
                  | (have h1 := HO.out.2; have h2 := HM'.out.2; rw [List.map_append, List.map_cons, List.map_nil, he, List.length_append, List.length_singleton]; omega)
              · gi_wp2
                all_goals first
                  | exact ⟨(KeepsOthers.setCell _ _ _).from _, .inr ⟨rfl, fun h => g3 (HG.out pre _ h).2⟩⟩
                  | exact absurd (by simpa using (‹_ ∧ (x2 != _) = false› : _ ∧ (x2 != _) = false).2) g3
            · gi_wp2
              all_goals exact ⟨(KeepsOthers.setCell _ _ _).from _, .inr ⟨rfl, fun h => g2 (HG.out pre _ h).1⟩⟩
          · gi_wp2
            have em : (pre.length : Int) = m := by have := HM'.out.1; omega
            have hNm := HN.out
            rw [em] at hNm
            exact ⟨KeepsFrom.refl _ _, .inl ⟨⟨⟨hNm, HB'.out⟩, HS'.out⟩, rfl, by rw [List.length_append]; simp; omega⟩⟩
        case done =>
          rintro D ys W hD rfl ⟨⟨⟨⟨hN, hA⟩, hB⟩, hS⟩, hm⟩ hK
          have hb4W : Below w4.heap.size w4 W := HBW.out.trans (hB.mono hszr)
          have hs4 := HS4.out.step hb4W
          have hcM := hs4.2.1.cell
          have hcN := hN.cell
          have hc6 : W.cell? ⟨w3.heap.size, 0, none⟩ = some (.slice A2 ys.length c2) := Boxed.cell ((hb4W.block _ H6.out.lt).trans H6.out)
          have HBd := Aside0.mk hB
          have HK := Aside0.mk hK
          have hm2 := HM.out
          clear hB hK hs4 hb4W
          gi_wp2
          all_goals exact ⟨⟨r + 1, D :: Ds, _, _, _, _, _, _, _, _, _, _, _, _, _, _, _, _, _, _, _, _, _, _, _, _, _, _, _, _, _, _, _, _, _, _, _, _, _, _, _, _, _, _, _, _, _, _, _, _, _, _, _, _, _, _, _, _, _, _, _, _, _, _, _, _, _, _, rfl, ⟨by omega⟩, ⟨HBW.out.trans (HBd.out.mono hszr)⟩, ⟨⟨List.nodup_cons.2 ⟨fun hE => by have := (HDS.out.2 D hE).2.1; omega, HDS.out.1⟩, fun E hE => by
              rcases List.mem_cons.1 hE with rfl | hE
              · exact ⟨by omega, (Array.getElem?_eq_some_iff.1 HK.out).1, HK.out⟩
              · have h1 := HDS.out.2 E hE
                have h2 := HBd.out.size
                exact ⟨h1.1, by omega, (HBd.out.block E h1.2.1).trans h1.2.2⟩⟩⟩⟩, by simp [upMu, intOf]; omega⟩
        case stop =>
          rintro D c pre W hD hSp hI hK
          rcases hI with ⟨⟨⟨hN, hB⟩, hS⟩, rfl, hlt⟩ | ⟨rfl, hI⟩
          · have hpl := hSp.length_le
            have hb4W : Below w4.heap.size w4 W := HBW.out.trans (hB.mono hszr)
            have hs4 := HS4.out.step hb4W
            have hcM := hs4.2.1.cell
            have hcN := hN.cell
            have hc6 : W.cell? ⟨w3.heap.size, 0, none⟩ = some (.slice A2 ps.length c2) := Boxed.cell ((hb4W.block _ H6.out.lt).trans H6.out)
            have HBd := Aside0.mk hB
            have HK := Aside0.mk hK
            have hm2 := HM.out
            clear hB hK hs4 hb4W
            gi_wp2
            all_goals exact ⟨⟨r + 1, D :: Ds, _, _, _, _, _, _, _, _, _, _, _, _, _, _, _, _, _, _, _, _, _, _, _, _, _, _, _, _, _, _, _, _, _, _, _, _, _, _, _, _, _, _, _, _, _, _, _, _, _, _, _, _, _, _, _, _, _, _, _, _, _, _, _, _, _, _, rfl, ⟨by omega⟩, ⟨HBW.out.trans (HBd.out.mono hszr)⟩, ⟨⟨List.nodup_cons.2 ⟨fun hE => by have := (HDS.out.2 D hE).2.1; omega, HDS.out.1⟩, fun E hE => by
              rcases List.mem_cons.1 hE with rfl | hE
              · exact ⟨by omega, (Array.getElem?_eq_some_iff.1 HK.out).1, HK.out⟩
              · have h1 := HDS.out.2 E hE
                have h2 := HBd.out.size
                exact ⟨h1.1, by omega, (HBd.out.block E h1.2.1).trans h1.2.2⟩⟩⟩⟩, by simp [upMu, intOf]; omega⟩
          · exact absurd hSp hI
      · refine leavesM_marks (n0 := w4.heap.size) Ds _ HDS.out.1 (fun D hD => ?_) (fun W' hW' => ?_)
        · have := HDS.out.2 D hD
          exact ⟨this.1, (Below.heap_setCell wr ⟨w.heap.size + 1, 0, none⟩ _ D (by show D ≠ w.heap.size + 1; have := HL4.out; omega)).trans this.2.2⟩
        · have hb0 := HS4.out.step HBW.out
          obtain ⟨vr, hbr⟩ := hb0.1
          have hres : Boxed W' (w.heap.size + 1) 4 (.bool true) := (hW'.block _ (by have := HL4.out; omega)).trans (Boxed.set _ hbr)
          have hcr := hres.cell
          exact ⟨_, by simp [results, Try.results9, go_sem, hcr], rfl, (hb0.2.2.setCell (p := ⟨w.heap.size + 1, 0, none⟩) (Nat.le_succ _) _).trans (hW'.mono (by have := HL4.out; omega))⟩

/-! what the plain lemmas give -/
theorem ev_all {α β : Type} {f : Nat → α → Option β} {g : α → β} : ∀ (l : List α), (∀ x ∈ l, Ev (fun k => f k x) (g x)) → ∃ n, ∀ k, n ≤ k → ∀ x ∈ l, f k x = some (g x)
  | [], _ => ⟨0, fun k _ x h => by cases h⟩
  | x :: l, h => by
    obtain ⟨n, hn⟩ := h x (List.mem_cons_self ..)
    obtain ⟨m, hm⟩ := ev_all l (fun y hy => h y (List.mem_cons_of_mem _ hy))
    refine ⟨max n m, fun k hk y hy => ?_⟩
    rcases List.mem_cons.1 hy with rfl | hy
    · exact hn k (by omega)
    · exact hm k (by omega) y hy
theorem paronymlaw01_UtfPoints.walk (a0 : Option Addr) (len0 cap0 : Nat) (z0 : List Int) (n1 : Int) (w : World) (w0 : (a0 = none ∧ len0 = 0 ∧ cap0 = 0 ∧ z0 = []) ∨ ∃ x, a0 = some x ∧ len0 ≤ cap0 ∧ cap0 ≤ maxLen ∧ z0.length = cap0 ∧ (∀ i, i < z0.length → w.cell? (x.add i) = some (.int .u8 (z0.getD i 0))) ∧ ∀ n ∈ z0, (Lit.int .u8 n).wf = true) (y0 : len0 * 1 ≤ 140737488351232) (w1 : (Lit.int .u8 n1).wf = true) :
    Calls Try.prog 9 #[.slice a0 len0 cap0, .int .u8 n1] w fun e w' => e = .returned (.bool true) ∧ Below w.heap.size w w' := by
  obtain ⟨l0, rfl, hr0, hm0, hw0, hc0⟩ := ReadsInt.ofRowC w0
  have ho := K.oct_of_wf hw0
  obtain ⟨s, rest, hs, hl, hr⟩ := K.maxdec l0.length l0 (Nat.le_refl _) ho
  have hn1 := K.u8_of_wf w1
  obtain ⟨ka, hka⟩ := K.awake01_ev
  by_cases big : l0.length ≤ 600
  · have hlen : (K.enc s ++ rest).length ≤ 600 := by rw [← hl]; exact big
    have hlen' := hlen
    rw [List.length_append] at hlen'
    have hel := K.enc_len hs
    obtain ⟨kp, hkp⟩ := K.pts_ev hr (by omega) s.length 0 (by omega) (by omega) hs (hl ▸ ho)
    obtain ⟨kd, hkd⟩ := K.refDecode_ev hr hs (hl ▸ ho) (by omega)
    have hsc : ∀ c ∈ s, 0 ≤ c ∧ c ≤ 1114111 := fun c hc => by
      rw [List.all_eq_true] at hs
      have := (K.scalar_iff c).1 (hs c hc)
      exact ⟨this.1, this.2.1⟩
    obtain ⟨ko, hko⟩ := ev_all (f := fun k c => paronymref01_Octets.f k c) s (fun c hc => K.refOctets_ev (hsc c hc).1 (hsc c hc).2)
    have em : (K.places 0 s).map Prod.snd = s := K.places_snd s 0
    have hpre := fun pre x h => places_prefix s 0 pre x h
    refine (paronymlaw01_UtfPoints.calls (max (max ka kp) (max kd ko)) a0 cap0 l0 n1 w (K.places 0 s) (K.enc s).length (Kd.C_of_reads (d := (0 : Int)) (h1 := fun _ => rfl) hr0) hc0 hn1 ?_ ?_ ?_ (hka _ (by omega)) (fun _ => K.clone_is _ (by omega)) ?_ ?_).mono ?_
    · rw [K.places_len]; omega
    · intro c hc
      rw [em] at hc
      exact ⟨hko _ (by omega) c hc, (K.oct_len (hsc c hc).1 (hsc c hc).2).2⟩
    · intro pre x h
      have := hpre pre x h
      rw [em]
      exact ⟨by rw [this.1]; omega, this.2⟩
    · intro _
      have := hkp (max (max ka kp) (max kd ko)) (by omega)
      rw [hl]
      rw [List.take_zero, List.drop_zero] at this
      exact this
    · intro _
      rw [em, hl]
      exact hkd _ (by omega)
    · exact fun e w' h => h
  · exact paronymlaw01_UtfPoints.calls ka a0 cap0 l0 n1 w [] 0 (Kd.C_of_reads (d := (0 : Int)) (h1 := fun _ => rfl) hr0) hc0 hn1 (by simp) (by simp) (fun pre x h => by have := h.length_le; simp at this) (hka _ (by omega)) (fun h => absurd h big) (fun h => absurd h big) (fun h => absurd h big)
end Go.Proofs.Ytooiajkbpkfplaa.Q

-- from LawUtfPoints
-- Made by hp.py, a program of this session, with the kit's printer. Not trusted: Lean checks it.
namespace Go.Proofs.Ytooiajkbpkfplaa.utfPoints
open Go.ChangeShapes Go.WideShapes Go.ChangeAt Go.RowKit
open Go.ChangeMaps (open_string shut_string)
set_option linter.unusedVariables false
theorem own : ownKnob Try.prog.godebug = none := by kernel_rfl
theorem laidOut : laidOutB Try.prog = true := by kernel_rfl
def IsRow (k : IntKind) (w : World) (a : Option Addr) (len cap : Nat) (zs : List Int) : Prop :=
  (a = none ∧ len = 0 ∧ cap = 0 ∧ zs = []) ∨
  ∃ x, a = some x ∧ len ≤ cap ∧ cap ≤ maxLen ∧ zs.length = cap ∧ (∀ i, i < zs.length → w.cell? (x.add i) = some (.int k (zs.getD i 0))) ∧ ∀ n ∈ zs, (Lit.int k n).wf = true
set_option maxRecDepth 100000 in
theorem lifted (os : Os) (started : os.Started) (H : Type) (enc : TypeId × Value → H) :
    ReturnsInHanded {} Try.checked os 9 .any (Rows.utfPointsSpec.pre6 enc Try.prog Try.f9 Rows.utfPointsRow.domain false) (Rows.utfPointsSpec.post enc Try.prog Try.f9 false true false false) := by
  refine returnsInHanded_of_change_sized (C := Try.checked) own started (by kernel_rfl) Try.func9
    (ChangeSpec.witness6 (enc := enc) (C := Try.checked) false ⟨#[], #[.slice none 0 0, .int .u8 0], []⟩ 8 (by kernel_rfl) (by kernel_rfl) (by kernel_rfl) (by kernel_rfl)) ?_
  intro W base args ds gs before hval0 hW hcnd hsz0 _
  have hsz : (DataW.weightsEach Try.prog (Try.f9.params.toList ++ Rows.utfPointsSpec.plain.varTypes Try.prog) (ds ++ gs)).all (· ≤ reachBytes) = true := hsz0
  have hval : ∀ (j : Nat) t v, Try.f9.params[j]? = some t → args[j]? = some v → Value.okWide Try.prog W .any base t v := hval0
  have hW' := hW
  obtain ⟨p, q, hA0, hV, rfl, hfz, hnd⟩ := hW
  have hA : DataW.TrodAll enc Try.prog W 0 (fun _ => true) true Try.f9.params.toList args.toList ds p := hA0
  rw [Try.params9] at hA hval hsz
  obtain ⟨v0, vs0, d0, ds0, p0, q0, hargs, rfl, rfl, h0, r0⟩ := trodAll_cons hA
  obtain ⟨v1, vs1, d1, ds1, p1, q1, rfl, rfl, rfl, h1, r1⟩ := trodAll_cons r0
  obtain ⟨rfl, rfl, rfl⟩ := trodAll_nil r1
  obtain rfl : args = #[v0, v1] := by cases args; simp_all
  obtain ⟨rfl, rfl⟩ := trodVars_none hV
  obtain ⟨a0, len0, cap0, rfl⟩ := okWide_slice Try.underlying22 (hval 0 22 v0 rfl rfl)
  have k0 := h0
  have lt0 : ∀ x ∈ p0, x.block < W.heap.size := by obtain ⟨m, hm⟩ := k0; exact DataW.trod_lt m _ _ _ hm
  obtain ⟨z0, w0⟩ : ∃ zs, IsRow .u8 W a0 len0 cap0 zs := by
    obtain ⟨fuel, hf⟩ := h0
    rcases open_ints Try.underlying22 Try.underlying5 (by kernel_rfl) hf with ⟨hcs, _⟩ | ⟨x, l, c, zs, hcs, _, hl, hm, hz, _, hcell, hwz⟩
    · simp [Value.cells] at hcs
      obtain ⟨rfl, rfl, rfl⟩ := hcs
      exact ⟨[], .inl ⟨rfl, rfl, rfl, rfl⟩⟩
    · simp [Value.cells] at hcs
      obtain ⟨rfl, rfl, rfl⟩ := hcs
      exact ⟨zs, .inr ⟨_, rfl, hl, hm, by simpa using hz, hcell, hwz⟩⟩
  have y0 : len0 * 1 ≤ 140737488351232 := Go.Proofs.YtooiajkbpkfplaaW.PrintWords.sized_ints hsz (j := 0) (t := 22) rfl rfl Try.underlying22 Try.underlying5 (by kernel_rfl) (by kernel_rfl) h0
  obtain ⟨a1, rfl, rfl, rfl, w1⟩ := open_int Try.underlying5 (hval 1 5 v1 rfl rfl) h1
  clear hA0 hval0 hsz0 hsz
  refine (Q.paronymlaw01_UtfPoints.walk a0 len0 cap0 z0 a1 W w0 y0 w1).mono fun e W' ⟨he, bel⟩ => ?_
  subst he
  exact ⟨_, rfl, _, _, _, [], _, [], hW', trodAll_mk1 (shut_bool Try.underlying4 _), (trodAll_cons_mk (Below.trod laidOut (by kernel_rfl) (of_decide_eq_true (by kernel_rfl)) k0 bel lt0) (trodAll_cons_mk (shut_int Try.underlying5 w1) trodAll_mk0)), rfl, bel.frame _, fun h => by cases h⟩
theorem over : Rows.utfPointsRow.holds Try.pinned (OpenSpec.ofChange Rows.utfPointsSpec) :=
  OpenClaim.holds_of_wide 9 Try.f9 rfl rfl rfl rfl rfl rfl rfl ⟨rfl, rfl, rfl, rfl, rfl⟩ rfl rfl rfl rfl rfl (by kernel_rfl) Try.func9 (by kernel_rfl)
    (of_decide_eq_true (by kernel_rfl)) (by unfold Func.isWrapper; first | (rw [if_pos (by decide +kernel)]; kernel_rfl) | (rw [if_neg (by decide +kernel)]; exact ⟨rfl, rfl⟩))
    (fun os started H enc _ => lifted os started H enc)
theorem proved : Rows.UtfPointsSaid := over
#print axioms proved
end Go.Proofs.Ytooiajkbpkfplaa.utfPoints
namespace Go.Proofs.Ytooiajkbpkfplaa
/-- The row, under a short name, for the claim. -/
theorem utfPoints_holds : Rows.UtfPointsSaid := utfPoints.proved
end Go.Proofs.Ytooiajkbpkfplaa
