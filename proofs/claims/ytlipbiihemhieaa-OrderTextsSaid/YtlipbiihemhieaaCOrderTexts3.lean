/- Part 3 of 3 of the proof of OrderTexts: for every list of code points, every depth and every bound, order.All tells the reference's texts in their order, order.Count and order.First agree with it, and the law is true For every input; no condition. -/
import Derived.Test.YtlipbiihemhieaaCOrderTexts1
import Derived.Test.YtlipbiihemhieaaCOrderTexts2
import Derived.Test.YtlipbiihemhieaaRows
import Derived.WalkKit
import Derived.ProofKit
import Derived.OpenShut
import Derived.ShutString
import Derived.ChangeOld
import Derived.Below
import Derived.SizedLaws
import Derived.Test.YtlipbiihemhieaaWSized

-- from Qf19
-- Made by hp.py, a program of this session, with the kit's printer. Not trusted: Lean checks it.
namespace Go.Proofs.Ytlipbiihemhieaa.Q
open Go.RowKit Go.Proofs.YtlipbiihemhieaaW.PrintWords Go.Proofs.YtlipbiihemhieaaW.PrintLast Go.Proofs.YtlipbiihemhieaaW.PrintMore
attribute [local go_sem] max2_int min2_int max_two min_two max_three min_three max_four min_four   -- for this text's walks alone
set_option linter.unusedVariables false
set_option linter.unusedSimpArgs false

/-! ### paronymref19_Behind: function 19 -/
mutual
def paronymref19_Behind.l0 : Nat → List (List Int) → List Int → Bool → Int → Option (List Int)
  | 0, _, _, _, _ => none
  | k + 1, x0, x1, x2, x7 => if x7 < (x0.length : Int) then (if 0 ≤ x7 then ((paronymref01_Same.f k (rd_L1 x0 x7) x1).bind fun t102 => (if t102 = true then (paronymref19_Behind.l1 k x0 x1 x2 x7 (wrap64 (x7 + 1))) else (paronymref19_Behind.l0 k x0 x1 x2 (wrap64 (x7 + 1))))) else (none)) else (some ([] : List Int))
def paronymref19_Behind.l1 : Nat → List (List Int) → List Int → Bool → Int → Int → Option (List Int)
  | 0, _, _, _, _, _ => none
  | k + 1, x0, x1, x2, x7, x8 => if x8 < (x0.length : Int) then (if x2 = true then (if 0 ≤ x8 then ((paronymref19_Begins.f k x1 (rd_L1 x0 x8)).bind fun t104 => (if t104 = true then (paronymref19_Behind.l1 k x0 x1 x2 x7 (wrap64 (x8 + 1))) else (some (rd_L1 x0 x8)))) else (none)) else (if 0 ≤ x8 then (some (rd_L1 x0 x8)) else (none))) else (paronymref19_Behind.l0 k x0 x1 x2 (wrap64 (x7 + 1)))
end
def paronymref19_Behind.f (k : Nat) (l0 : List (List Int)) (l1 : List Int) (a2 : Bool) : Option (List Int) := paronymref19_Behind.l0 k l0 l1 a2 0
theorem paronymref19_Behind.mono_l : ∀ k, (∀ y0 y1 y2 y3, LeO (paronymref19_Behind.l0 k y0 y1 y2 y3) (paronymref19_Behind.l0 (k + 1) y0 y1 y2 y3)) ∧ (∀ y0 y1 y2 y3 y4, LeO (paronymref19_Behind.l1 k y0 y1 y2 y3 y4) (paronymref19_Behind.l1 (k + 1) y0 y1 y2 y3 y4))
  | 0 => ⟨fun _ _ _ _ r h => by simp [paronymref19_Behind.l0] at h, fun _ _ _ _ _ r h => by simp [paronymref19_Behind.l1] at h⟩
  | k + 1 => by
    obtain ⟨ih0, ih1⟩ := paronymref19_Behind.mono_l k
    refine ⟨?_, ?_⟩
    · intro y0 y1 y2 y3
      unfold paronymref19_Behind.l0
      repeat' first
      | (with_reducible exact ih0 _ _ _ _)
      | (with_reducible exact ih1 _ _ _ _ _)
      | (with_reducible exact paronymref01_Same.mono _ _ _)
      | (with_reducible exact paronymref19_Begins.mono _ _ _)
      | (with_reducible exact LeO.refl _)
      | (with_reducible exact LeO.none _)
      | (with_reducible refine LeO.ite ?_ ?_)
      | (with_reducible refine LeO.bind ?_ (fun _ => ?_))
      | exact ih0 _ _ _ _
      | exact ih1 _ _ _ _ _
      | exact paronymref01_Same.mono _ _ _
      | exact paronymref19_Begins.mono _ _ _
      | exact LeO.none _
      | refine LeO.ite ?_ ?_
      | refine LeO.bind ?_ (fun _ => ?_)
    · intro y0 y1 y2 y3 y4
      unfold paronymref19_Behind.l1
      repeat' first
      | (with_reducible exact ih0 _ _ _ _)
      | (with_reducible exact ih1 _ _ _ _ _)
      | (with_reducible exact paronymref01_Same.mono _ _ _)
      | (with_reducible exact paronymref19_Begins.mono _ _ _)
      | (with_reducible exact LeO.refl _)
      | (with_reducible exact LeO.none _)
      | (with_reducible refine LeO.ite ?_ ?_)
      | (with_reducible refine LeO.bind ?_ (fun _ => ?_))
      | exact ih0 _ _ _ _
      | exact ih1 _ _ _ _ _
      | exact paronymref01_Same.mono _ _ _
      | exact paronymref19_Begins.mono _ _ _
      | exact LeO.none _
      | refine LeO.ite ?_ ?_
      | refine LeO.bind ?_ (fun _ => ?_)
theorem paronymref19_Behind.mono : ∀ a0 a1 a2 k, LeO (paronymref19_Behind.f k a0 a1 a2) (paronymref19_Behind.f (k + 1) a0 a1 a2) := by
  intro a0 a1 a2 k
  obtain ⟨ih0, ih1⟩ := paronymref19_Behind.mono_l k
  unfold paronymref19_Behind.f
  repeat' first
      | (with_reducible exact ih0 _ _ _ _)
      | (with_reducible exact ih1 _ _ _ _ _)
      | (with_reducible exact paronymref01_Same.mono _ _ _)
      | (with_reducible exact paronymref19_Begins.mono _ _ _)
      | (with_reducible exact LeO.refl _)
      | (with_reducible exact LeO.none _)
      | (with_reducible refine LeO.ite ?_ ?_)
      | (with_reducible refine LeO.bind ?_ (fun _ => ?_))
      | exact ih0 _ _ _ _
      | exact ih1 _ _ _ _ _
      | exact paronymref01_Same.mono _ _ _
      | exact paronymref19_Begins.mono _ _ _
      | exact LeO.none _
      | refine LeO.ite ?_ ?_
      | refine LeO.bind ?_ (fun _ => ?_)
set_option maxHeartbeats 8000000 in
set_option maxRecDepth 100000 in
theorem paronymref19_Behind.calls (k : Nat) (P0_ : Nat → Prop) (A0 : Option Addr) (c0 : Nat) (l0 : List (List Int)) (A1 : Option Addr) (c1 : Nat) (l1 : List Int) (a2 : Bool) (r : List Int) (w : World) (hs0 : Kd.V (Kd.slice 3 (Kd.int .i64)) 22 w w.heap.size (fun k_ => P0_ k_) (.slice A0 l0.length c0) l0) (hr1 : Kd.C (Kd.int .i64) w A1 l1.length l1) (hc1 : l1.length ≤ c1) (h : paronymref19_Behind.f k l0 l1 a2 = some r) :
    Calls Try.prog 19 #[.slice A0 l0.length c0, .slice A1 l1.length c1, .bool a2] w fun e w' => ∃ v0_ : Value, e = .returned (v0_) ∧ Kd.V (Kd.int .i64) 3 w' w.heap.size (fun k_ => (P0_ k_ ∨ w.heap.size ≤ k_)) v0_ r ∧ Below w.heap.size w w' := by
  have HO0 := Aside0.mk (show Kd.V (Kd.slice 3 (Kd.int .i64)) 22 w w.heap.size (fun k_ => (P0_ k_ ∨ w.heap.size ≤ k_)) (.slice A0 l0.length c0) l0 from Kd.V_mono hs0 (fun k_ hk => .inl hk))
  have HR1 := Aside0.mk hr1
  have HC1 := Aside0.mk hc1
  clear hr1 hc1
  have HB := Aside0.mk (Below.refl w.heap.size w)
  have H : (paronymref19_Behind.l0 k l0 l1 a2 0) = some r := h
  clear h
  have H' := Aside0.mk H
  clear H
  go_enter Try.func19, Try.ntmps19
  go_wp2
  go_loopg [7] k (fun kq v7 w' => ∃ (x7_1 : Int), v7 = .int .i64 x7_1 ∧ Aside0 (paronymref19_Behind.l0 kq l0 l1 a2 x7_1 = some r) ∧ Aside0 (kq ≤ k) ∧ Aside0 (Kd.V (Kd.slice 3 (Kd.int .i64)) 22 w' w.heap.size (fun k_ => (P0_ k_ ∨ w.heap.size ≤ k_)) (.slice A0 l0.length c0) l0) ∧ Aside0 (Below w.heap.size w w'))
  case atStart => exact ⟨(0), (by first | rfl | (simp; done) | (simp [*]; done)), H', ⟨Nat.le_refl _⟩, ⟨by (with_reducible repeat (first | apply Kd.V_alloc | apply Kd.V_drewN | apply Kd.V_drew)); exact HO0.out⟩, ⟨by repeat (first | (with_reducible first | exact HB.out | apply below_alloc | apply pw_below_drewN | apply below_drew1) | exact HB.out)⟩⟩
  case round =>
    clear H'
    try clear c1
    try clear p2
    obtain ⟨x7_1, rfl, HA, HK1, HO_0, HB⟩ := hrel
    cases gk with
    | zero => exact absurd HA.out (by simp [paronymref19_Behind.l0])
    | succ k1 =>
      have H := HA.out
      clear HA
      simp only [paronymref19_Behind.l0] at H
      by_cases c4 : x7_1 < (l0.length : Int)
      · rw [if_pos c4] at H
        have c4b0 : decide (x7_1 < (l0.length : Int)) = true := decide_eq_true c4
        clear c4
        by_cases c5 : 0 ≤ x7_1
        · rw [if_pos c5] at H
          have c5b0 : decide (0 ≤ x7_1) = true := decide_eq_true c5
          clear c5
          replace H := Option.bind_eq_some_iff.mp H
          obtain ⟨t102, A60, H⟩ := H
          replace H : (if t102 = true then (paronymref19_Behind.l1 k1 l0 l1 a2 x7_1 (wrap64 (x7_1 + 1))) else (paronymref19_Behind.l0 k1 l0 l1 a2 (wrap64 (x7_1 + 1)))) = some r := H
          have A6 := Aside0.mk A60
          clear A60
          by_cases c7 : t102 = true
          · subst c7
            have H1 : (paronymref19_Behind.l1 k1 l0 l1 a2 x7_1 (wrap64 (x7_1 + 1))) = some r := by rw [if_pos rfl] at H; exact H
            clear H
            have H := H1
            clear H1
            have H' := Aside0.mk H
            clear H
            have p101 : 0 ≤ (x7_1 : Int) := of_decide_eq_true (by first | (with_reducible assumption) | assumption)
            have q101 : x7_1 < (l0.length : Int) := of_decide_eq_true (by first | (with_reducible assumption) | assumption)
            obtain ⟨ad101, A101_0, c101_0, e101, hx101_0, hl101_0, hi101_0⟩ := at_L1 (Kd.V_reads' HO_0.out).2.2 x7_1 p101 q101
            cases e101
            obtain ⟨ce101, hce101, hMe101, hcc101⟩ := Kd.V_get HO_0.out [] x7_1 p101 (by first | exact q101 | exact of_decide_eq_true (by first | (with_reducible assumption) | assumption) | (have e_ := (Kd.V_reads' HO_0.out).1; omega))
            obtain ⟨ua101_0, uc101_0, rfl, ul101_0, ge101_0⟩ := Kd.FK_slice_open hMe101
            have hv101_0 := hcc101 0 _ rfl
            rw [Nat.add_zero, show ((Kd.slice 3 (Kd.int .i64))).sz = 1 from rfl, Nat.mul_one] at hv101_0
            replace hv101_0 := Option.some.inj (hv101_0.symm.trans hx101_0)
            injection hv101_0 with hva_ hvn_ hvc_
            rw [hva_] at ge101_0
            rw [hvc_] at ul101_0
            have HL101_0 := Aside0.mk (show Kd.V (Kd.int .i64) 3 _ w.heap.size _ _ (rd_L1 l0 x7_1) from Kd.V_mk ul101_0 ge101_0)
            clear hva_ hvn_ hvc_ ge101_0 ul101_0
            clear hcc101 hce101
            have HR101_0 := Aside0.mk hi101_0
            have HC101_0 := Aside0.mk hl101_0
            clear hi101_0 hl101_0
            replace p101 := eq_true p101
            replace q101 := eq_true q101
            go_wp2_with (first | ((with_reducible refine gate_callee (f := 20) rfl ?_); refine goesL_ (some 20) rfl rfl Try.func20 (by kernel_rfl) rfl #[.slice A101_0 (rd_L1 l0 x7_1).length c101_0, .slice A1 l1.length c1] rfl (by (try simp only [List.map_toArray, List.map_cons, List.map_nil]); first | done | rfl | (simp only [List.length_drop, List.length_take]; rfl)) ?_; (with_reducible refine (paronymref01_Same.calls k1 _ _ (rd_L1 l0 x7_1) _ _ l1 true _ ?side1 ?side2 ?side3 ?side4 A6.out).mono ?_); (case side1 => repeat (first | exact (by repeat (first | (with_reducible exact HR101_0.out) | (with_reducible refine Kd.C_alloc ?_ _) | (with_reducible refine Kd.C_drewN ?_ _) | (with_reducible refine Kd.C_drew ?_) | exact HR101_0.out)) | (with_reducible refine Kd.C_alloc ?_ _) | (with_reducible refine Kd.C_drewN ?_ _) | (with_reducible refine Kd.C_drew ?_))); (case side2 => exact HC101_0.out); (case side3 => repeat (first | exact (Kd.C_below HR1.out HB.out) | (with_reducible refine Kd.C_alloc ?_ _) | (with_reducible refine Kd.C_drewN ?_ _) | (with_reducible refine Kd.C_drew ?_))); (case side4 => exact HC1.out); rintro e w' ⟨rfl, ⟨nd, rfl⟩⟩; refine ⟨_, rfl, ?_⟩))
            go_loopg [8] k1 (fun kq v8 w' => ∃ (x8_2 : Int), v8 = .int .i64 x8_2 ∧ Aside0 (paronymref19_Behind.l1 kq l0 l1 a2 x7_1 x8_2 = some r) ∧ Aside0 (kq ≤ k1) ∧ Aside0 (Kd.V (Kd.slice 3 (Kd.int .i64)) 22 w' w.heap.size (fun k_ => (P0_ k_ ∨ w.heap.size ≤ k_)) (.slice (some ad101) l0.length c0) l0) ∧ Aside0 (Kd.C (Kd.int .i64) w' A101_0 (rd_L1 l0 x7_1).length (rd_L1 l0 x7_1)) ∧ Aside0 (Below w.heap.size w w'))
            case atStart => exact ⟨(wrap64 (x7_1 + 1)), (by first | rfl | (simp; done) | (simp [*]; done)), H', ⟨Nat.le_refl _⟩, ⟨by (with_reducible repeat (first | apply Kd.V_alloc | apply Kd.V_drewN | apply Kd.V_drew)); exact HO_0.out⟩, ⟨by repeat (first | (with_reducible exact HR101_0.out) | (with_reducible refine Kd.C_alloc ?_ _) | (with_reducible refine Kd.C_drewN ?_ _) | (with_reducible refine Kd.C_drew ?_) | exact HR101_0.out)⟩, ⟨by repeat (first | (with_reducible first | exact HB.out | apply below_alloc | apply pw_below_drewN | apply below_drew1) | exact HB.out)⟩⟩
            case round =>
              clear H'
              try clear c1
              try clear p1
              try clear q1
              try clear hx1
              try clear c2
              try clear p2
              try clear c4
              try clear c4b0
              try clear c5
              try clear c5b0
              try clear p6
              try clear c7
              try clear hx101_0
              try clear p101
              try clear p2
              try clear q101
              obtain ⟨x8_2, rfl, HA, HK2, HO_0, HR101_0, HB⟩ := hrel
              cases gk with
              | zero => exact absurd HA.out (by simp [paronymref19_Behind.l1])
              | succ k2 =>
                have H := HA.out
                clear HA
                simp only [paronymref19_Behind.l1] at H
                by_cases c8 : x8_2 < (l0.length : Int)
                · rw [if_pos c8] at H
                  have c8b0 : decide (x8_2 < (l0.length : Int)) = true := decide_eq_true c8
                  clear c8
                  by_cases c9 : a2 = true
                  · subst c9
                    have H1 : (if 0 ≤ x8_2 then ((paronymref19_Begins.f k2 l1 (rd_L1 l0 x8_2)).bind fun t104 => (if t104 = true then (paronymref19_Behind.l1 k2 l0 l1 true x7_1 (wrap64 (x8_2 + 1))) else (some (rd_L1 l0 x8_2)))) else (none)) = some r := by rw [if_pos rfl] at H; exact H
                    clear H
                    have H := H1
                    clear H1
                    by_cases c10 : 0 ≤ x8_2
                    · rw [if_pos c10] at H
                      have c10b0 : decide (0 ≤ x8_2) = true := decide_eq_true c10
                      clear c10
                      replace H := Option.bind_eq_some_iff.mp H
                      obtain ⟨t104, A110, H⟩ := H
                      replace H : (if t104 = true then (paronymref19_Behind.l1 k2 l0 l1 true x7_1 (wrap64 (x8_2 + 1))) else (some (rd_L1 l0 x8_2))) = some r := H
                      have A11 := Aside0.mk A110
                      clear A110
                      by_cases c12 : t104 = true
                      · subst c12
                        have H1 : (paronymref19_Behind.l1 k2 l0 l1 true x7_1 (wrap64 (x8_2 + 1))) = some r := by rw [if_pos rfl] at H; exact H
                        clear H
                        have H := H1
                        clear H1
                        have H' := Aside0.mk H
                        clear H
                        have p103 : 0 ≤ (x8_2 : Int) := of_decide_eq_true (by first | (with_reducible assumption) | assumption)
                        have q103 : x8_2 < (l0.length : Int) := of_decide_eq_true (by first | (with_reducible assumption) | assumption)
                        obtain ⟨ad103, A103_0, c103_0, e103, hx103_0, hl103_0, hi103_0⟩ := at_L1 (Kd.V_reads' HO_0.out).2.2 x8_2 p103 q103
                        obtain rfl : ad101 = ad103 := (by injection e103)
                        obtain ⟨ce103, hce103, hMe103, hcc103⟩ := Kd.V_get HO_0.out [] x8_2 p103 (by first | exact q103 | exact of_decide_eq_true (by first | (with_reducible assumption) | assumption) | (have e_ := (Kd.V_reads' HO_0.out).1; omega))
                        obtain ⟨ua103_0, uc103_0, rfl, ul103_0, ge103_0⟩ := Kd.FK_slice_open hMe103
                        have hv103_0 := hcc103 0 _ rfl
                        rw [Nat.add_zero, show ((Kd.slice 3 (Kd.int .i64))).sz = 1 from rfl, Nat.mul_one] at hv103_0
                        replace hv103_0 := Option.some.inj (hv103_0.symm.trans hx103_0)
                        injection hv103_0 with hva_ hvn_ hvc_
                        rw [hva_] at ge103_0
                        rw [hvc_] at ul103_0
                        have HL103_0 := Aside0.mk (show Kd.V (Kd.int .i64) 3 _ w.heap.size _ _ (rd_L1 l0 x8_2) from Kd.V_mk ul103_0 ge103_0)
                        clear hva_ hvn_ hvc_ ge103_0 ul103_0
                        clear hcc103 hce103
                        have HR103_0 := Aside0.mk hi103_0
                        have HC103_0 := Aside0.mk hl103_0
                        clear hi103_0 hl103_0
                        replace p103 := eq_true p103
                        replace q103 := eq_true q103
                        go_wp2_with (first | (go_at_call 59; (with_reducible refine (paronymref19_Begins.calls k2 _ _ l1 _ _ (rd_L1 l0 x8_2) true _ ?side1 ?side2 ?side3 ?side4 A11.out).mono ?_); (case side1 => repeat (first | exact (Kd.C_below HR1.out HB.out) | (with_reducible refine Kd.C_alloc ?_ _) | (with_reducible refine Kd.C_drewN ?_ _) | (with_reducible refine Kd.C_drew ?_))); (case side2 => exact HC1.out); (case side3 => repeat (first | exact (by repeat (first | (with_reducible exact HR103_0.out) | (with_reducible refine Kd.C_alloc ?_ _) | (with_reducible refine Kd.C_drewN ?_ _) | (with_reducible refine Kd.C_drew ?_) | exact HR103_0.out)) | (with_reducible refine Kd.C_alloc ?_ _) | (with_reducible refine Kd.C_drewN ?_ _) | (with_reducible refine Kd.C_drew ?_))); (case side4 => exact HC103_0.out); rintro e w' ⟨rfl, ⟨nd, rfl⟩⟩))
                        go_roundg k2
                        case measure => have := HK1.out; have := HK2.out; omega
                        case rel => exact ⟨(wrap64 (x8_2 + 1)), (by first | rfl | (simp; done) | (simp [*]; done)), H', ⟨by have := HK1.out; have := HK2.out; omega⟩, ⟨by (with_reducible repeat (first | apply Kd.V_alloc | apply Kd.V_drewN | apply Kd.V_drew)); exact HO_0.out⟩, ⟨by repeat (first | (with_reducible exact HR101_0.out) | (with_reducible refine Kd.C_alloc ?_ _) | (with_reducible refine Kd.C_drewN ?_ _) | (with_reducible refine Kd.C_drew ?_) | exact HR101_0.out)⟩, ⟨by repeat (first | (with_reducible first | exact HB.out | apply below_alloc | apply pw_below_drewN | apply below_drew1) | exact HB.out)⟩⟩
                      · replace c12 := Bool.eq_false_iff.mpr c12
                        subst c12
                        have H1 : (some (rd_L1 l0 x8_2)) = some r := by rw [if_neg (show ¬ (false = true) by decide)] at H; exact H
                        clear H
                        have H := H1
                        clear H1
                        obtain rfl := Option.some.inj H
                        have p103 : 0 ≤ (x8_2 : Int) := of_decide_eq_true (by first | (with_reducible assumption) | assumption)
                        have q103 : x8_2 < (l0.length : Int) := of_decide_eq_true (by first | (with_reducible assumption) | assumption)
                        obtain ⟨ad103, A103_0, c103_0, e103, hx103_0, hl103_0, hi103_0⟩ := at_L1 (Kd.V_reads' HO_0.out).2.2 x8_2 p103 q103
                        obtain rfl : ad101 = ad103 := (by injection e103)
                        obtain ⟨ce103, hce103, hMe103, hcc103⟩ := Kd.V_get HO_0.out [] x8_2 p103 (by first | exact q103 | exact of_decide_eq_true (by first | (with_reducible assumption) | assumption) | (have e_ := (Kd.V_reads' HO_0.out).1; omega))
                        obtain ⟨ua103_0, uc103_0, rfl, ul103_0, ge103_0⟩ := Kd.FK_slice_open hMe103
                        have hv103_0 := hcc103 0 _ rfl
                        rw [Nat.add_zero, show ((Kd.slice 3 (Kd.int .i64))).sz = 1 from rfl, Nat.mul_one] at hv103_0
                        replace hv103_0 := Option.some.inj (hv103_0.symm.trans hx103_0)
                        injection hv103_0 with hva_ hvn_ hvc_
                        rw [hva_] at ge103_0
                        rw [hvc_] at ul103_0
                        have HL103_0 := Aside0.mk (show Kd.V (Kd.int .i64) 3 _ w.heap.size _ _ (rd_L1 l0 x8_2) from Kd.V_mk ul103_0 ge103_0)
                        clear hva_ hvn_ hvc_ ge103_0 ul103_0
                        clear hcc103 hce103
                        have HR103_0 := Aside0.mk hi103_0
                        have HC103_0 := Aside0.mk hl103_0
                        clear hi103_0 hl103_0
                        replace p103 := eq_true p103
                        replace q103 := eq_true q103
                        go_wp2_with (first | (go_at_call 59; (with_reducible refine (paronymref19_Begins.calls k2 _ _ l1 _ _ (rd_L1 l0 x8_2) false _ ?side1 ?side2 ?side3 ?side4 A11.out).mono ?_); (case side1 => repeat (first | exact (Kd.C_below HR1.out HB.out) | (with_reducible refine Kd.C_alloc ?_ _) | (with_reducible refine Kd.C_drewN ?_ _) | (with_reducible refine Kd.C_drew ?_))); (case side2 => exact HC1.out); (case side3 => repeat (first | exact (by repeat (first | (with_reducible exact HR103_0.out) | (with_reducible refine Kd.C_alloc ?_ _) | (with_reducible refine Kd.C_drewN ?_ _) | (with_reducible refine Kd.C_drew ?_) | exact HR103_0.out)) | (with_reducible refine Kd.C_alloc ?_ _) | (with_reducible refine Kd.C_drewN ?_ _) | (with_reducible refine Kd.C_drew ?_))); (case side4 => exact HC103_0.out); rintro e w' ⟨rfl, ⟨nd, rfl⟩⟩; have p105 : 0 ≤ (x8_2 : Int) := of_decide_eq_true (by first | (with_reducible assumption) | assumption); have q105 : x8_2 < (l0.length : Int) := of_decide_eq_true (by first | (with_reducible assumption) | assumption); obtain ⟨ad105, A105_0, c105_0, e105, hx105_0, hl105_0, hi105_0⟩ := at_L1 (Kd.V_reads' HO_0.out).2.2 x8_2 p105 q105; obtain rfl : ad101 = ad105 := (by injection e105); obtain ⟨ce105, hce105, hMe105, hcc105⟩ := Kd.V_get HO_0.out [] x8_2 p105 (by first | exact q105 | exact of_decide_eq_true (by first | (with_reducible assumption) | assumption) | (have e_ := (Kd.V_reads' HO_0.out).1; omega)); obtain ⟨ua105_0, uc105_0, rfl, ul105_0, ge105_0⟩ := Kd.FK_slice_open hMe105; have hv105_0 := hcc105 0 _ rfl; rw [Nat.add_zero, show ((Kd.slice 3 (Kd.int .i64))).sz = 1 from rfl, Nat.mul_one] at hv105_0; replace hv105_0 := Option.some.inj (hv105_0.symm.trans hx105_0); injection hv105_0 with hva_ hvn_ hvc_; rw [hva_] at ge105_0; rw [hvc_] at ul105_0; have HL105_0 := Aside0.mk (show Kd.V (Kd.int .i64) 3 _ w.heap.size _ _ (rd_L1 l0 x8_2) from Kd.V_mk ul105_0 ge105_0); clear hva_ hvn_ hvc_ ge105_0 ul105_0; clear hcc105 hce105; have HR105_0 := Aside0.mk hi105_0; have HC105_0 := Aside0.mk hl105_0; clear hi105_0 hl105_0; replace p105 := eq_true p105; replace q105 := eq_true q105; have ea_ := Option.some.inj (hx103_0.symm.trans hx105_0); injection ea_ with ea_ en_ ec_; subst ea_; subst ec_; clear en_))
                        go_ret
                        exact ⟨_, by first | rfl | (simp [errW_none, errW_some] <;> rfl) | (simp [*, errW_none, errW_some] <;> rfl), by (with_reducible repeat (first | apply Kd.V_alloc | apply Kd.V_drewN | apply Kd.V_drew)); exact HL105_0.out, by repeat (first | (with_reducible first | exact HB.out | apply below_alloc | apply pw_below_drewN | apply below_drew1) | exact HB.out)⟩
                    · rw [if_neg c10] at H
                      exact absurd H (by simp)
                  · replace c9 := Bool.eq_false_iff.mpr c9
                    subst c9
                    have H1 : (if 0 ≤ x8_2 then (some (rd_L1 l0 x8_2)) else (none)) = some r := by rw [if_neg (show ¬ (false = true) by decide)] at H; exact H
                    clear H
                    have H := H1
                    clear H1
                    by_cases c13 : 0 ≤ x8_2
                    · rw [if_pos c13] at H
                      have c13b0 : decide (0 ≤ x8_2) = true := decide_eq_true c13
                      clear c13
                      obtain rfl := Option.some.inj H
                      have p106 : 0 ≤ (x8_2 : Int) := of_decide_eq_true (by first | (with_reducible assumption) | assumption)
                      have q106 : x8_2 < (l0.length : Int) := of_decide_eq_true (by first | (with_reducible assumption) | assumption)
                      obtain ⟨ad106, A106_0, c106_0, e106, hx106_0, hl106_0, hi106_0⟩ := at_L1 (Kd.V_reads' HO_0.out).2.2 x8_2 p106 q106
                      obtain rfl : ad101 = ad106 := (by injection e106)
                      obtain ⟨ce106, hce106, hMe106, hcc106⟩ := Kd.V_get HO_0.out [] x8_2 p106 (by first | exact q106 | exact of_decide_eq_true (by first | (with_reducible assumption) | assumption) | (have e_ := (Kd.V_reads' HO_0.out).1; omega))
                      obtain ⟨ua106_0, uc106_0, rfl, ul106_0, ge106_0⟩ := Kd.FK_slice_open hMe106
                      have hv106_0 := hcc106 0 _ rfl
                      rw [Nat.add_zero, show ((Kd.slice 3 (Kd.int .i64))).sz = 1 from rfl, Nat.mul_one] at hv106_0
                      replace hv106_0 := Option.some.inj (hv106_0.symm.trans hx106_0)
                      injection hv106_0 with hva_ hvn_ hvc_
                      rw [hva_] at ge106_0
                      rw [hvc_] at ul106_0
                      have HL106_0 := Aside0.mk (show Kd.V (Kd.int .i64) 3 _ w.heap.size _ _ (rd_L1 l0 x8_2) from Kd.V_mk ul106_0 ge106_0)
                      clear hva_ hvn_ hvc_ ge106_0 ul106_0
                      clear hcc106 hce106
                      have HR106_0 := Aside0.mk hi106_0
                      have HC106_0 := Aside0.mk hl106_0
                      clear hi106_0 hl106_0
                      replace p106 := eq_true p106
                      replace q106 := eq_true q106
                      go_wp2
                      go_ret
                      exact ⟨_, by first | rfl | (simp [errW_none, errW_some] <;> rfl) | (simp [*, errW_none, errW_some] <;> rfl), by (with_reducible repeat (first | apply Kd.V_alloc | apply Kd.V_drewN | apply Kd.V_drew)); exact HL106_0.out, by repeat (first | (with_reducible first | exact HB.out | apply below_alloc | apply pw_below_drewN | apply below_drew1) | exact HB.out)⟩
                    · rw [if_neg c13] at H
                      exact absurd H (by simp)
                · rw [if_neg c8] at H
                  have c8b0 : decide (x8_2 < (l0.length : Int)) = false := decide_eq_false c8
                  clear c8
                  have H' := Aside0.mk H
                  clear H
                  go_wp2
                  go_roundg k2
                  case measure => have := HK1.out; have := HK2.out; omega
                  case rel => exact ⟨(wrap64 (x7_1 + 1)), (by first | rfl | (simp; done) | (simp [*]; done)), H', ⟨by have := HK1.out; have := HK2.out; omega⟩, ⟨by (with_reducible repeat (first | apply Kd.V_alloc | apply Kd.V_drewN | apply Kd.V_drew)); exact HO_0.out⟩, ⟨by repeat (first | (with_reducible first | exact HB.out | apply below_alloc | apply pw_below_drewN | apply below_drew1) | exact HB.out)⟩⟩
          · replace c7 := Bool.eq_false_iff.mpr c7
            subst c7
            have H1 : (paronymref19_Behind.l0 k1 l0 l1 a2 (wrap64 (x7_1 + 1))) = some r := by rw [if_neg (show ¬ (false = true) by decide)] at H; exact H
            clear H
            have H := H1
            clear H1
            have H' := Aside0.mk H
            clear H
            have p101 : 0 ≤ (x7_1 : Int) := of_decide_eq_true (by first | (with_reducible assumption) | assumption)
            have q101 : x7_1 < (l0.length : Int) := of_decide_eq_true (by first | (with_reducible assumption) | assumption)
            obtain ⟨ad101, A101_0, c101_0, e101, hx101_0, hl101_0, hi101_0⟩ := at_L1 (Kd.V_reads' HO_0.out).2.2 x7_1 p101 q101
            cases e101
            obtain ⟨ce101, hce101, hMe101, hcc101⟩ := Kd.V_get HO_0.out [] x7_1 p101 (by first | exact q101 | exact of_decide_eq_true (by first | (with_reducible assumption) | assumption) | (have e_ := (Kd.V_reads' HO_0.out).1; omega))
            obtain ⟨ua101_0, uc101_0, rfl, ul101_0, ge101_0⟩ := Kd.FK_slice_open hMe101
            have hv101_0 := hcc101 0 _ rfl
            rw [Nat.add_zero, show ((Kd.slice 3 (Kd.int .i64))).sz = 1 from rfl, Nat.mul_one] at hv101_0
            replace hv101_0 := Option.some.inj (hv101_0.symm.trans hx101_0)
            injection hv101_0 with hva_ hvn_ hvc_
            rw [hva_] at ge101_0
            rw [hvc_] at ul101_0
            have HL101_0 := Aside0.mk (show Kd.V (Kd.int .i64) 3 _ w.heap.size _ _ (rd_L1 l0 x7_1) from Kd.V_mk ul101_0 ge101_0)
            clear hva_ hvn_ hvc_ ge101_0 ul101_0
            clear hcc101 hce101
            have HR101_0 := Aside0.mk hi101_0
            have HC101_0 := Aside0.mk hl101_0
            clear hi101_0 hl101_0
            replace p101 := eq_true p101
            replace q101 := eq_true q101
            go_wp2_with (first | ((with_reducible refine gate_callee (f := 20) rfl ?_); refine goesL_ (some 20) rfl rfl Try.func20 (by kernel_rfl) rfl #[.slice A101_0 (rd_L1 l0 x7_1).length c101_0, .slice A1 l1.length c1] rfl (by (try simp only [List.map_toArray, List.map_cons, List.map_nil]); first | done | rfl | (simp only [List.length_drop, List.length_take]; rfl)) ?_; (with_reducible refine (paronymref01_Same.calls k1 _ _ (rd_L1 l0 x7_1) _ _ l1 false _ ?side1 ?side2 ?side3 ?side4 A6.out).mono ?_); (case side1 => repeat (first | exact (by repeat (first | (with_reducible exact HR101_0.out) | (with_reducible refine Kd.C_alloc ?_ _) | (with_reducible refine Kd.C_drewN ?_ _) | (with_reducible refine Kd.C_drew ?_) | exact HR101_0.out)) | (with_reducible refine Kd.C_alloc ?_ _) | (with_reducible refine Kd.C_drewN ?_ _) | (with_reducible refine Kd.C_drew ?_))); (case side2 => exact HC101_0.out); (case side3 => repeat (first | exact (Kd.C_below HR1.out HB.out) | (with_reducible refine Kd.C_alloc ?_ _) | (with_reducible refine Kd.C_drewN ?_ _) | (with_reducible refine Kd.C_drew ?_))); (case side4 => exact HC1.out); rintro e w' ⟨rfl, ⟨nd, rfl⟩⟩; refine ⟨_, rfl, ?_⟩))
            go_roundg k1
            case measure => have := HK1.out; omega
            case rel => exact ⟨(wrap64 (x7_1 + 1)), (by first | rfl | (simp; done) | (simp [*]; done)), H', ⟨by have := HK1.out; omega⟩, ⟨by (with_reducible repeat (first | apply Kd.V_alloc | apply Kd.V_drewN | apply Kd.V_drew)); exact HO_0.out⟩, ⟨by repeat (first | (with_reducible first | exact HB.out | apply below_alloc | apply pw_below_drewN | apply below_drew1) | exact HB.out)⟩⟩
        · rw [if_neg c5] at H
          exact absurd H (by simp)
      · rw [if_neg c4] at H
        have c4b0 : decide (x7_1 < (l0.length : Int)) = false := decide_eq_false c4
        clear c4
        obtain rfl := Option.some.inj H
        go_wp2
        go_ret
        exact ⟨_, by first | rfl | (simp [errW_none, errW_some] <;> rfl) | (simp [*, errW_none, errW_some] <;> rfl), Kd.V_mono (Kd.R_V (by first | exact Kd.R_nil _ _ _ _ _ | exact Kd.N_nil _ _ _ _ _ | exact Kd.V_nil _ _ _ _ _ | exact Kd.Q_nil _ _ _ _ _ | exact Kd.S_nil _ _ _ _ _ | (refine (show Kd.R _ _ _ _ _ (Value.slice none 0 0) [] from Kd.R_nil _ _ _ w.heap.size (fun k_ => w.heap.size ≤ k_))))) (fun k_ hk => by first | exact ⟨(.inr (hk.1)), hk.2⟩ | exact (.inr (hk))), by repeat (first | (with_reducible first | exact HB.out | apply below_alloc | apply pw_below_drewN | apply below_drew1) | exact HB.out)⟩

end Go.Proofs.Ytlipbiihemhieaa.Q

-- from Qf3
-- Made by hp.py, a program of this session, with the kit's printer. Not trusted: Lean checks it.
namespace Go.Proofs.Ytlipbiihemhieaa.Q
open Go.RowKit Go.Proofs.YtlipbiihemhieaaW.PrintWords Go.Proofs.YtlipbiihemhieaaW.PrintLast Go.Proofs.YtlipbiihemhieaaW.PrintMore
attribute [local go_sem] max2_int min2_int max_two min_two max_three min_three max_four min_four   -- for this text's walks alone
set_option linter.unusedVariables false
set_option linter.unusedSimpArgs false

/-! ### paronymlaw19_OrderBehind: function 3 -/
mutual
def paronymlaw19_OrderBehind.j0 : Nat → List Int → List Int → Int → Bool → Option (Bool)
  | 0, _, _, _, _ => none
  | k + 1, x0, x1, x2, x26 => if x26 = true then ((paronymlaw19_awake.f k).bind fun t102 => (some t102)) else ((paronymref19_Alphabet.f k x0).bind fun t103 => (if t103 = true then ((paronymref19_All.f k x0 ([] : List Int) (wrap64 (Int.tmod x2 5))).bind fun t104 => (paronymlaw19_OrderBehind.j1 k x0 x1 (wrap64 (Int.tmod x2 5)) t104)) else (paronymlaw19_OrderBehind.j1 k x0 x1 (wrap64 (Int.tmod x2 5)) ([] : List (List Int)))))
def paronymlaw19_OrderBehind.j1 : Nat → List Int → List Int → Int → List (List Int) → Option (Bool)
  | 0, _, _, _, _ => none
  | k + 1, x0, x1, x7, x8 => (order_Next.f k x0 x1 x7).bind fun bt107 => ((order_Skip.f k x0 x1 x7).bind fun bt111 => ((paronymref19_Behind.f k x8 x1 false).bind fun t115 => ((paronymref19_Behind.f k x8 x1 true).bind fun t118 => ((paronymref01_Same.f k bt107.1 t115).bind fun t121 => (if t121 = true then (if (bt107.2 == (decide ((t115.length : Int) > 0))) = true then ((paronymref01_Same.f k bt111.1 t118).bind fun t122 => (if t122 = true then (some (bt111.2 == (decide ((t118.length : Int) > 0)))) else (some false))) else (some false)) else (some false))))))
end
def paronymlaw19_OrderBehind.f (k : Nat) (l0 : List Int) (l1 : List Int) (a2 : Int) : Option (Bool) := (paronymlaw19_awake.f k).bind fun t101 => (if t101 = true then (if (l0.length : Int) > 4 then (paronymlaw19_OrderBehind.j0 k l0 l1 a2 true) else (paronymlaw19_OrderBehind.j0 k l0 l1 a2 (decide ((l1.length : Int) > 20)))) else (paronymlaw19_OrderBehind.j0 k l0 l1 a2 true))
theorem paronymlaw19_OrderBehind.mono_l : ∀ k, (∀ y0 y1 y2 y3, LeO (paronymlaw19_OrderBehind.j0 k y0 y1 y2 y3) (paronymlaw19_OrderBehind.j0 (k + 1) y0 y1 y2 y3)) ∧ (∀ y0 y1 y2 y3, LeO (paronymlaw19_OrderBehind.j1 k y0 y1 y2 y3) (paronymlaw19_OrderBehind.j1 (k + 1) y0 y1 y2 y3))
  | 0 => ⟨fun _ _ _ _ r h => by simp [paronymlaw19_OrderBehind.j0] at h, fun _ _ _ _ r h => by simp [paronymlaw19_OrderBehind.j1] at h⟩
  | k + 1 => by
    obtain ⟨ih0, ih1⟩ := paronymlaw19_OrderBehind.mono_l k
    refine ⟨?_, ?_⟩
    · intro y0 y1 y2 y3
      unfold paronymlaw19_OrderBehind.j0
      repeat' first
      | (with_reducible exact ih0 _ _ _ _)
      | (with_reducible exact ih1 _ _ _ _)
      | (with_reducible exact order_Next.mono _ _ _ _)
      | (with_reducible exact order_Skip.mono _ _ _ _)
      | (with_reducible exact paronymlaw19_awake.mono _)
      | (with_reducible exact paronymref01_Same.mono _ _ _)
      | (with_reducible exact paronymref19_All.mono _ _ _ _)
      | (with_reducible exact paronymref19_Alphabet.mono _ _)
      | (with_reducible exact paronymref19_Behind.mono _ _ _ _)
      | (with_reducible exact LeO.refl _)
      | (with_reducible exact LeO.none _)
      | (with_reducible refine LeO.ite ?_ ?_)
      | (with_reducible refine LeO.bind ?_ (fun _ => ?_))
      | exact ih0 _ _ _ _
      | exact ih1 _ _ _ _
      | exact order_Next.mono _ _ _ _
      | exact order_Skip.mono _ _ _ _
      | exact paronymlaw19_awake.mono _
      | exact paronymref01_Same.mono _ _ _
      | exact paronymref19_All.mono _ _ _ _
      | exact paronymref19_Alphabet.mono _ _
      | exact paronymref19_Behind.mono _ _ _ _
      | exact LeO.none _
      | refine LeO.ite ?_ ?_
      | refine LeO.bind ?_ (fun _ => ?_)
    · intro y0 y1 y2 y3
      unfold paronymlaw19_OrderBehind.j1
      repeat' first
      | (with_reducible exact ih0 _ _ _ _)
      | (with_reducible exact ih1 _ _ _ _)
      | (with_reducible exact order_Next.mono _ _ _ _)
      | (with_reducible exact order_Skip.mono _ _ _ _)
      | (with_reducible exact paronymlaw19_awake.mono _)
      | (with_reducible exact paronymref01_Same.mono _ _ _)
      | (with_reducible exact paronymref19_All.mono _ _ _ _)
      | (with_reducible exact paronymref19_Alphabet.mono _ _)
      | (with_reducible exact paronymref19_Behind.mono _ _ _ _)
      | (with_reducible exact LeO.refl _)
      | (with_reducible exact LeO.none _)
      | (with_reducible refine LeO.ite ?_ ?_)
      | (with_reducible refine LeO.bind ?_ (fun _ => ?_))
      | exact ih0 _ _ _ _
      | exact ih1 _ _ _ _
      | exact order_Next.mono _ _ _ _
      | exact order_Skip.mono _ _ _ _
      | exact paronymlaw19_awake.mono _
      | exact paronymref01_Same.mono _ _ _
      | exact paronymref19_All.mono _ _ _ _
      | exact paronymref19_Alphabet.mono _ _
      | exact paronymref19_Behind.mono _ _ _ _
      | exact LeO.none _
      | refine LeO.ite ?_ ?_
      | refine LeO.bind ?_ (fun _ => ?_)
theorem paronymlaw19_OrderBehind.mono : ∀ a0 a1 a2 k, LeO (paronymlaw19_OrderBehind.f k a0 a1 a2) (paronymlaw19_OrderBehind.f (k + 1) a0 a1 a2) := by
  intro a0 a1 a2 k
  obtain ⟨ih0, ih1⟩ := paronymlaw19_OrderBehind.mono_l k
  unfold paronymlaw19_OrderBehind.f
  repeat' first
      | (with_reducible exact ih0 _ _ _ _)
      | (with_reducible exact ih1 _ _ _ _)
      | (with_reducible exact order_Next.mono _ _ _ _)
      | (with_reducible exact order_Skip.mono _ _ _ _)
      | (with_reducible exact paronymlaw19_awake.mono _)
      | (with_reducible exact paronymref01_Same.mono _ _ _)
      | (with_reducible exact paronymref19_All.mono _ _ _ _)
      | (with_reducible exact paronymref19_Alphabet.mono _ _)
      | (with_reducible exact paronymref19_Behind.mono _ _ _ _)
      | (with_reducible exact LeO.refl _)
      | (with_reducible exact LeO.none _)
      | (with_reducible refine LeO.ite ?_ ?_)
      | (with_reducible refine LeO.bind ?_ (fun _ => ?_))
      | exact ih0 _ _ _ _
      | exact ih1 _ _ _ _
      | exact order_Next.mono _ _ _ _
      | exact order_Skip.mono _ _ _ _
      | exact paronymlaw19_awake.mono _
      | exact paronymref01_Same.mono _ _ _
      | exact paronymref19_All.mono _ _ _ _
      | exact paronymref19_Alphabet.mono _ _
      | exact paronymref19_Behind.mono _ _ _ _
      | exact LeO.none _
      | refine LeO.ite ?_ ?_
      | refine LeO.bind ?_ (fun _ => ?_)
set_option maxHeartbeats 8000000 in
set_option maxRecDepth 100000 in
theorem paronymlaw19_OrderBehind.calls (k : Nat) (A0 : Option Addr) (c0 : Nat) (l0 : List Int) (A1 : Option Addr) (c1 : Nat) (l1 : List Int) (a2 : Int) (r : Bool) (w : World) (hr0 : Kd.C (Kd.int .i64) w A0 l0.length l0) (hc0 : l0.length ≤ c0) (hr1 : Kd.C (Kd.int .i64) w A1 l1.length l1) (hc1 : l1.length ≤ c1) (h : paronymlaw19_OrderBehind.f k l0 l1 a2 = some r) :
    Calls Try.prog 3 #[.slice A0 l0.length c0, .slice A1 l1.length c1, .int .u8 a2] w fun e w' => e = .returned (.bool r) ∧ Below w.heap.size w w' := by
  have HR0 := Aside0.mk hr0
  have HC0 := Aside0.mk hc0
  clear hr0 hc0
  have HR1 := Aside0.mk hr1
  have HC1 := Aside0.mk hc1
  clear hr1 hc1
  have HB := Aside0.mk (Below.refl w.heap.size w)
  have H : ((paronymlaw19_awake.f k).bind fun t101 => (if t101 = true then (if (l0.length : Int) > 4 then (paronymlaw19_OrderBehind.j0 k l0 l1 a2 true) else (paronymlaw19_OrderBehind.j0 k l0 l1 a2 (decide ((l1.length : Int) > 20)))) else (paronymlaw19_OrderBehind.j0 k l0 l1 a2 true))) = some r := h
  clear h
  have HC4 := Aside0.mk H
  clear H
  go_enter Try.func3, Try.ntmps3
  go_upto_region 1 with (fail)
  go_cut [26] (fun v26 wc => ∃ (kq : Nat) (x26_3 : Bool), v26 = .bool x26_3 ∧ Aside0 (paronymlaw19_OrderBehind.j0 kq l0 l1 a2 x26_3 = some r) ∧ Aside0 (kq ≤ k) ∧ Aside0 (Below w.heap.size w wc))
  case first =>
    have H := HC4.out
    clear HC4
    replace H := Option.bind_eq_some_iff.mp H
    obtain ⟨t101, A50, H⟩ := H
    replace H : (if t101 = true then (if (l0.length : Int) > 4 then (paronymlaw19_OrderBehind.j0 k l0 l1 a2 true) else (paronymlaw19_OrderBehind.j0 k l0 l1 a2 (decide ((l1.length : Int) > 20)))) else (paronymlaw19_OrderBehind.j0 k l0 l1 a2 true)) = some r := H
    have A5 := Aside0.mk A50
    clear A50
    by_cases c6 : t101 = true
    · subst c6
      have H1 : (if (l0.length : Int) > 4 then (paronymlaw19_OrderBehind.j0 k l0 l1 a2 true) else (paronymlaw19_OrderBehind.j0 k l0 l1 a2 (decide ((l1.length : Int) > 20)))) = some r := by rw [if_pos rfl] at H; exact H
      clear H
      have H := H1
      clear H1
      by_cases c7 : (l0.length : Int) > 4
      · rw [if_pos c7] at H
        have c7b0 : decide (4 < (l0.length : Int)) = true := decide_eq_true c7
        have c7b1 : decide (4 < l0.length) = true := decide_eq_true (by omega)
        clear c7
        (first | rw [c7b0] | (simp only [i64_w, i32_w]; rw [c7b0]) | rw [c7b1] | (simp only [i64_w, i32_w]; rw [c7b1]) | skip)
        have H' := Aside0.mk H
        clear H
        go_wp2_with (first | ((with_reducible refine gate_callee (f := 14) rfl ?_); refine goesL_ (some 15) rfl rfl Try.func14 (by kernel_rfl) rfl #[] rfl (by (try simp only [List.map_toArray, List.map_cons, List.map_nil]); first | done | rfl | (simp only [List.length_drop, List.length_take]; rfl)) ?_; (with_reducible refine (paronymlaw19_awake.calls k  true _ A5.out).mono ?_); rintro e w8 ⟨rfl, hb⟩; refine ⟨_, rfl, ?_⟩; have n0_ := Aside0.mk (below_step (by repeat (first | (with_reducible first | exact HB.out | apply below_alloc | apply pw_below_drewN | apply below_drew1) | exact HB.out)) hb); clear HB; have HB := n0_; clear n0_; (try clear hb); (try clear hb2); (try clear hk); (try clear hi)))
        go_meet
        case rel => exact ⟨_, (true), (by first | rfl | (simp; done) | (simp [*]; done)), H', ⟨by first | omega | exact Nat.le_refl _⟩, ⟨by repeat (first | (with_reducible first | exact HB.out | apply below_alloc | apply pw_below_drewN | apply below_drew1) | exact HB.out)⟩⟩
      · rw [if_neg c7] at H
        have c7b0 : decide (4 < (l0.length : Int)) = false := decide_eq_false c7
        have c7b1 : decide (4 < l0.length) = false := decide_eq_false (by omega)
        clear c7
        (first | rw [c7b0] | (simp only [i64_w, i32_w]; rw [c7b0]) | rw [c7b1] | (simp only [i64_w, i32_w]; rw [c7b1]) | skip)
        have H' := Aside0.mk H
        clear H
        go_wp2_with (first | ((with_reducible refine gate_callee (f := 14) rfl ?_); refine goesL_ (some 15) rfl rfl Try.func14 (by kernel_rfl) rfl #[] rfl (by (try simp only [List.map_toArray, List.map_cons, List.map_nil]); first | done | rfl | (simp only [List.length_drop, List.length_take]; rfl)) ?_; (with_reducible refine (paronymlaw19_awake.calls k  true _ A5.out).mono ?_); rintro e w9 ⟨rfl, hb⟩; refine ⟨_, rfl, ?_⟩; have n0_ := Aside0.mk (below_step (by repeat (first | (with_reducible first | exact HB.out | apply below_alloc | apply pw_below_drewN | apply below_drew1) | exact HB.out)) hb); clear HB; have HB := n0_; clear n0_; (try clear hb); (try clear hb2); (try clear hk); (try clear hi)))
        go_meet
        case rel => exact ⟨_, (decide ((l1.length : Int) > 20)), (by first | rfl | (simp; done) | (simp [*]; done)), H', ⟨by first | omega | exact Nat.le_refl _⟩, ⟨by repeat (first | (with_reducible first | exact HB.out | apply below_alloc | apply pw_below_drewN | apply below_drew1) | exact HB.out)⟩⟩
    · replace c6 := Bool.eq_false_iff.mpr c6
      subst c6
      have H1 : (paronymlaw19_OrderBehind.j0 k l0 l1 a2 true) = some r := by rw [if_neg (show ¬ (false = true) by decide)] at H; exact H
      clear H
      have H := H1
      clear H1
      have H' := Aside0.mk H
      clear H
      go_wp2_with (first | ((with_reducible refine gate_callee (f := 14) rfl ?_); refine goesL_ (some 15) rfl rfl Try.func14 (by kernel_rfl) rfl #[] rfl (by (try simp only [List.map_toArray, List.map_cons, List.map_nil]); first | done | rfl | (simp only [List.length_drop, List.length_take]; rfl)) ?_; (with_reducible refine (paronymlaw19_awake.calls k  false _ A5.out).mono ?_); rintro e w10 ⟨rfl, hb⟩; refine ⟨_, rfl, ?_⟩; have n0_ := Aside0.mk (below_step (by repeat (first | (with_reducible first | exact HB.out | apply below_alloc | apply pw_below_drewN | apply below_drew1) | exact HB.out)) hb); clear HB; have HB := n0_; clear n0_; (try clear hb); (try clear hb2); (try clear hk); (try clear hi)))
      go_meet
      case rel => exact ⟨_, (true), (by first | rfl | (simp; done) | (simp [*]; done)), H', ⟨by first | omega | exact Nat.le_refl _⟩, ⟨by repeat (first | (with_reducible first | exact HB.out | apply below_alloc | apply pw_below_drewN | apply below_drew1) | exact HB.out)⟩⟩
  case rest =>
    clear HC4
    try clear c1
    try clear p2
    try clear c3
    try clear c6
    try clear c7
    try clear c7b0
    try clear c7b1
    obtain ⟨kq, x26_3, rfl, HA, HJ3, HB⟩ := hcut
    cases kq with
    | zero => exact absurd HA.out (by simp [paronymlaw19_OrderBehind.j0])
    | succ kj3 =>
      have H := HA.out
      clear HA
      simp only [paronymlaw19_OrderBehind.j0] at H
      by_cases c11 : x26_3 = true
      · subst c11
        have H1 : ((paronymlaw19_awake.f kj3).bind fun t102 => (some t102)) = some r := by rw [if_pos rfl] at H; exact H
        clear H
        have H := H1
        clear H1
        replace H := Option.bind_eq_some_iff.mp H
        obtain ⟨t102, A120, H⟩ := H
        replace H : (some t102) = some r := H
        have A12 := Aside0.mk A120
        clear A120
        obtain rfl := Option.some.inj H
        go_wp2_with (first | ((with_reducible refine gate_callee (f := 14) rfl ?_); refine goesL_ (some 27) rfl rfl Try.func14 (by kernel_rfl) rfl #[] rfl (by (try simp only [List.map_toArray, List.map_cons, List.map_nil]); first | done | rfl | (simp only [List.length_drop, List.length_take]; rfl)) ?_; (with_reducible refine (paronymlaw19_awake.calls kj3  t102 _ A12.out).mono ?_); rintro e w13 ⟨rfl, hb⟩; refine ⟨_, rfl, ?_⟩; have n0_ := Aside0.mk (below_step (by repeat (first | (with_reducible first | exact HB.out | apply below_alloc | apply pw_below_drewN | apply below_drew1) | exact HB.out)) hb); clear HB; have HB := n0_; clear n0_; (try clear hb); (try clear hb2); (try clear hk); (try clear hi)))
        go_ret
        exact ⟨by first | rfl | (simp [errW_none, errW_some] <;> rfl) | (simp [*, errW_none, errW_some] <;> rfl), by repeat (first | (with_reducible first | exact HB.out | apply below_alloc | apply pw_below_drewN | apply below_drew1) | exact HB.out)⟩
      · replace c11 := Bool.eq_false_iff.mpr c11
        subst c11
        have H1 : ((paronymref19_Alphabet.f kj3 l0).bind fun t103 => (if t103 = true then ((paronymref19_All.f kj3 l0 ([] : List Int) (wrap64 (Int.tmod a2 5))).bind fun t104 => (paronymlaw19_OrderBehind.j1 kj3 l0 l1 (wrap64 (Int.tmod a2 5)) t104)) else (paronymlaw19_OrderBehind.j1 kj3 l0 l1 (wrap64 (Int.tmod a2 5)) ([] : List (List Int))))) = some r := by rw [if_neg (show ¬ (false = true) by decide)] at H; exact H
        clear H
        have H := H1
        clear H1
        replace H := Option.bind_eq_some_iff.mp H
        obtain ⟨t103, A140, H⟩ := H
        replace H : (if t103 = true then ((paronymref19_All.f kj3 l0 ([] : List Int) (wrap64 (Int.tmod a2 5))).bind fun t104 => (paronymlaw19_OrderBehind.j1 kj3 l0 l1 (wrap64 (Int.tmod a2 5)) t104)) else (paronymlaw19_OrderBehind.j1 kj3 l0 l1 (wrap64 (Int.tmod a2 5)) ([] : List (List Int)))) = some r := H
        have A14 := Aside0.mk A140
        clear A140
        have HC15 := Aside0.mk H
        clear H
        go_upto_if 32 with (first | ((with_reducible refine gate_callee (f := 15) rfl ?_); refine goesL_ (some 32) rfl rfl Try.func15 (by kernel_rfl) rfl #[.slice A0 l0.length c0] rfl (by (try simp only [List.map_toArray, List.map_cons, List.map_nil]); first | done | rfl | (simp only [List.length_drop, List.length_take]; rfl)) ?_; (with_reducible refine (paronymref19_Alphabet.calls kj3 _ _ l0 t103 _ ?side1 ?side2 A14.out).mono ?_); (case side1 => repeat (first | exact (Kd.C_below HR0.out HB.out) | (with_reducible refine Kd.C_alloc ?_ _) | (with_reducible refine Kd.C_drewN ?_ _) | (with_reducible refine Kd.C_drew ?_))); (case side2 => exact HC0.out); rintro e w' ⟨rfl, ⟨nd, rfl⟩⟩; refine ⟨_, rfl, ?_⟩))
        (try simp only [Act.put, List.setIfInBounds_toArray, List.set_cons_zero, List.set_cons_succ])
        go_cut [8] (fun v8 wc => ∃ (kq : Nat) (x8_14 : List (List Int)), Aside0 (paronymlaw19_OrderBehind.j1 kq l0 l1 (wrap64 (Int.tmod a2 5)) x8_14 = some r) ∧ Aside0 (kq ≤ kj3) ∧ Aside0 (Kd.N (Kd.slice 3 (Kd.int .i64)) 22 wc w.heap.size (fun _ => True) v8 x8_14) ∧ Aside0 (Below w.heap.size w wc))
        case first =>
          have H := HC15.out
          clear HC15
          by_cases c16 : t103 = true
          · subst c16
            have H1 : ((paronymref19_All.f kj3 l0 ([] : List Int) (wrap64 (Int.tmod a2 5))).bind fun t104 => (paronymlaw19_OrderBehind.j1 kj3 l0 l1 (wrap64 (Int.tmod a2 5)) t104)) = some r := by rw [if_pos rfl] at H; exact H
            clear H
            have H := H1
            clear H1
            replace H := Option.bind_eq_some_iff.mp H
            obtain ⟨t104, A170, H⟩ := H
            replace H : (paronymlaw19_OrderBehind.j1 kj3 l0 l1 (wrap64 (Int.tmod a2 5)) t104) = some r := H
            have A17 := Aside0.mk A170
            clear A170
            have H' := Aside0.mk H
            clear H
            go_wp2_with (first | ((with_reducible refine gate_callee (f := 16) rfl ?_); refine goesL_ (some 35) rfl rfl Try.func16 (by kernel_rfl) rfl #[.slice A0 l0.length c0, .slice none 0 0, .int .i64 (wrap64 (Int.tmod a2 5))] rfl (by (try simp only [List.map_toArray, List.map_cons, List.map_nil]); first | done | rfl | (simp only [List.length_drop, List.length_take]; rfl)) ?_; (refine (paronymref19_All.calls kj3 _ _ l0 (fun k_ => False) _ _ ([] : List Int) (wrap64 (Int.tmod a2 5)) t104 _ ?side1 ?side2 ?side3 A17.out).mono ?_); (case side1 => repeat (first | exact (Kd.C_below HR0.out HB.out) | (with_reducible refine Kd.C_alloc ?_ _) | (with_reducible refine Kd.C_drewN ?_ _) | (with_reducible refine Kd.C_drew ?_))); (case side2 => exact HC0.out); (case side3 => exact Kd.V_nil _ _ _ _ _); rintro e w18 ⟨v105, rfl, ho0, hb⟩; refine ⟨_, rfl, ?_⟩; have n0_ := Aside0.mk (Kd.N_lower (Kd.N_mono (ok' := fun k_ => True) ho0 (fun k_ hk_ => trivial)) (below_size (by repeat (first | (with_reducible first | exact HB.out | apply below_alloc | apply pw_below_drewN | apply below_drew1) | exact HB.out)))); have n1_ := Aside0.mk (below_step (by repeat (first | (with_reducible first | exact HB.out | apply below_alloc | apply pw_below_drewN | apply below_drew1) | exact HB.out)) hb); clear HB; have HO106 := n0_; have HB := n1_; clear n0_ n1_; (try clear hb); (try clear hb2); (try clear hk); (try clear hi); (try clear ho0)))
            go_meet
            case rel => exact ⟨_, (t104), H', ⟨by have := HJ3.out; first | omega | exact Nat.le_refl _⟩, ⟨by (with_reducible repeat (first | apply Kd.N_alloc | apply Kd.N_drewN | apply Kd.N_drew)); exact HO106.out⟩, ⟨by repeat (first | (with_reducible first | exact HB.out | apply below_alloc | apply pw_below_drewN | apply below_drew1) | exact HB.out)⟩⟩
          · replace c16 := Bool.eq_false_iff.mpr c16
            subst c16
            have H1 : (paronymlaw19_OrderBehind.j1 kj3 l0 l1 (wrap64 (Int.tmod a2 5)) ([] : List (List Int))) = some r := by rw [if_neg (show ¬ (false = true) by decide)] at H; exact H
            clear H
            have H := H1
            clear H1
            have H' := Aside0.mk H
            clear H
            go_wp2
            go_meet
            case rel => exact ⟨_, (([] : List (List Int))), H', ⟨by have := HJ3.out; first | omega | exact Nat.le_refl _⟩, ⟨by first | exact Kd.S_nil _ _ _ _ _ | exact Kd.N_nil _ _ _ _ _ | exact Kd.V_nil _ _ _ _ _ | exact Kd.Q_nil _ _ _ _ _ | exact Kd.R_nil _ _ _ _ _⟩, ⟨by repeat (first | (with_reducible first | exact HB.out | apply below_alloc | apply pw_below_drewN | apply below_drew1) | exact HB.out)⟩⟩
        case rest =>
          clear HC15
          try clear c1
          try clear p2
          try clear c3
          try clear c6
          try clear p6
          try clear c7
          try clear c7b0
          try clear c7b1
          try clear c11
          try clear c14
          try clear c15
          try clear c16
          try clear p2
          obtain ⟨kq, x8_14, HA, HJ14, HO_8, HB⟩ := hcut
          cases kq with
          | zero => exact absurd HA.out (by simp [paronymlaw19_OrderBehind.j1])
          | succ kj14 =>
            have H := HA.out
            clear HA
            simp only [paronymlaw19_OrderBehind.j1] at H
            replace H := Option.bind_eq_some_iff.mp H
            obtain ⟨⟨t107, t108⟩, A190, H⟩ := H
            replace H : ((order_Skip.f kj14 l0 l1 (wrap64 (Int.tmod a2 5))).bind fun bt111 => ((paronymref19_Behind.f kj14 x8_14 l1 false).bind fun t115 => ((paronymref19_Behind.f kj14 x8_14 l1 true).bind fun t118 => ((paronymref01_Same.f kj14 t107 t115).bind fun t121 => (if t121 = true then (if (t108 == (decide ((t115.length : Int) > 0))) = true then ((paronymref01_Same.f kj14 bt111.1 t118).bind fun t122 => (if t122 = true then (some (bt111.2 == (decide ((t118.length : Int) > 0)))) else (some false))) else (some false)) else (some false)))))) = some r := H
            have A19 := Aside0.mk A190
            clear A190
            replace H := Option.bind_eq_some_iff.mp H
            obtain ⟨⟨t111, t112⟩, A200, H⟩ := H
            replace H : ((paronymref19_Behind.f kj14 x8_14 l1 false).bind fun t115 => ((paronymref19_Behind.f kj14 x8_14 l1 true).bind fun t118 => ((paronymref01_Same.f kj14 t107 t115).bind fun t121 => (if t121 = true then (if (t108 == (decide ((t115.length : Int) > 0))) = true then ((paronymref01_Same.f kj14 t111 t118).bind fun t122 => (if t122 = true then (some (t112 == (decide ((t118.length : Int) > 0)))) else (some false))) else (some false)) else (some false))))) = some r := H
            have A20 := Aside0.mk A200
            clear A200
            replace H := Option.bind_eq_some_iff.mp H
            obtain ⟨t115, A210, H⟩ := H
            replace H : ((paronymref19_Behind.f kj14 x8_14 l1 true).bind fun t118 => ((paronymref01_Same.f kj14 t107 t115).bind fun t121 => (if t121 = true then (if (t108 == (decide ((t115.length : Int) > 0))) = true then ((paronymref01_Same.f kj14 t111 t118).bind fun t122 => (if t122 = true then (some (t112 == (decide ((t118.length : Int) > 0)))) else (some false))) else (some false)) else (some false)))) = some r := H
            have A21 := Aside0.mk A210
            clear A210
            replace H := Option.bind_eq_some_iff.mp H
            obtain ⟨t118, A220, H⟩ := H
            replace H : ((paronymref01_Same.f kj14 t107 t115).bind fun t121 => (if t121 = true then (if (t108 == (decide ((t115.length : Int) > 0))) = true then ((paronymref01_Same.f kj14 t111 t118).bind fun t122 => (if t122 = true then (some (t112 == (decide ((t118.length : Int) > 0)))) else (some false))) else (some false)) else (some false))) = some r := H
            have A22 := Aside0.mk A220
            clear A220
            replace H := Option.bind_eq_some_iff.mp H
            obtain ⟨t121, A230, H⟩ := H
            replace H : (if t121 = true then (if (t108 == (decide ((t115.length : Int) > 0))) = true then ((paronymref01_Same.f kj14 t111 t118).bind fun t122 => (if t122 = true then (some (t112 == (decide ((t118.length : Int) > 0)))) else (some false))) else (some false)) else (some false)) = some r := H
            have A23 := Aside0.mk A230
            clear A230
            by_cases c24 : t121 = true
            · subst c24
              have H1 : (if (t108 == (decide ((t115.length : Int) > 0))) = true then ((paronymref01_Same.f kj14 t111 t118).bind fun t122 => (if t122 = true then (some (t112 == (decide ((t118.length : Int) > 0)))) else (some false))) else (some false)) = some r := by rw [if_pos rfl] at H; exact H
              clear H
              have H := H1
              clear H1
              by_cases c25 : (t108 == (decide ((t115.length : Int) > 0))) = true
              · rw [if_pos c25] at H
                have c25b0 : (t108 == (decide ((t115.length : Int) > 0))) = true := c25
                (try (have c25b1 : decide (t108 = (decide ((t115.length : Int) > 0))) = true := by simpa using c25))
                (try (have c25b2 : (t108 == (decide ((t115.length : Int) > 0))) = true := by simpa using c25))
                have c25n : t108 = decide (0 < t115.length) := (beq_iff_eq.mp c25).trans (decide_eq_decide.2 (by omega))
                clear c25
                have c25m : (t108 == decide (0 < t115.length)) = true := beq_iff_eq.mpr c25n
                have c25o : decide (t108 = decide (0 < t115.length)) = true := decide_eq_true c25n
                have c25p := eq_true c25n
                replace H := Option.bind_eq_some_iff.mp H
                obtain ⟨t122, A260, H⟩ := H
                replace H : (if t122 = true then (some (t112 == (decide ((t118.length : Int) > 0)))) else (some false)) = some r := H
                have A26 := Aside0.mk A260
                clear A260
                by_cases c27 : t122 = true
                · subst c27
                  have H1 : (some (t112 == (decide ((t118.length : Int) > 0)))) = some r := by rw [if_pos rfl] at H; exact H
                  clear H
                  have H := H1
                  clear H1
                  obtain rfl := Option.some.inj H
                  go_wp2_with (first | ((with_reducible refine gate_callee (f := 17) rfl ?_); refine goesL_ (some 40) rfl rfl Try.func17 (by kernel_rfl) rfl #[.slice A0 l0.length c0, .slice A1 l1.length c1, .int .i64 (wrap64 (Int.tmod a2 5))] rfl (by (try simp only [List.map_toArray, List.map_cons, List.map_nil]); first | done | rfl | (simp only [List.length_drop, List.length_take]; rfl)) ?_; (with_reducible refine (order_Next.calls kj14 _ _ l0 _ _ l1 (wrap64 (Int.tmod a2 5)) t107 t108 _ ?side1 ?side2 ?side3 ?side4 A19.out).mono ?_); (case side1 => repeat (first | exact (Kd.C_below HR0.out HB.out) | (with_reducible refine Kd.C_alloc ?_ _) | (with_reducible refine Kd.C_drewN ?_ _) | (with_reducible refine Kd.C_drew ?_))); (case side2 => exact HC0.out); (case side3 => repeat (first | exact (Kd.C_below HR1.out HB.out) | (with_reducible refine Kd.C_alloc ?_ _) | (with_reducible refine Kd.C_drewN ?_ _) | (with_reducible refine Kd.C_drew ?_))); (case side4 => exact HC1.out); rintro e w28 ⟨v109, rfl, ho0, hb⟩; refine ⟨_, rfl, ?_⟩; have n0_ := Aside0.mk (Kd.N_elder' (by (with_reducible repeat (first | apply Kd.N_alloc | apply Kd.N_drewN | apply Kd.N_drew)); exact HO_8.out) (Kd.R_base ho0) hb); have n1_ := Aside0.mk (Kd.R_lower ho0 (below_size (by repeat (first | (with_reducible first | exact HB.out | apply below_alloc | apply pw_below_drewN | apply below_drew1) | exact HB.out)))); have n2_ := Aside0.mk (below_step (by repeat (first | (with_reducible first | exact HB.out | apply below_alloc | apply pw_below_drewN | apply below_drew1) | exact HB.out)) hb); clear HO_8; clear HB; have HO_8 := n0_; have HO110 := n1_; have HB := n2_; clear n0_ n1_ n2_; (try clear hb); (try clear hb2); (try clear hk); (try clear hi); (try clear ho0)) | ((with_reducible refine gate_callee (f := 18) rfl ?_); refine goesL_ (some 47) rfl rfl Try.func18 (by kernel_rfl) rfl #[.slice A0 l0.length c0, .slice A1 l1.length c1, .int .i64 (wrap64 (Int.tmod a2 5))] rfl (by (try simp only [List.map_toArray, List.map_cons, List.map_nil]); first | done | rfl | (simp only [List.length_drop, List.length_take]; rfl)) ?_; (with_reducible refine (order_Skip.calls kj14 _ _ l0 _ _ l1 (wrap64 (Int.tmod a2 5)) t111 t112 _ ?side1 ?side2 ?side3 ?side4 A20.out).mono ?_); (case side1 => repeat (first | exact (Kd.C_below HR0.out HB.out) | (with_reducible refine Kd.C_alloc ?_ _) | (with_reducible refine Kd.C_drewN ?_ _) | (with_reducible refine Kd.C_drew ?_))); (case side2 => exact HC0.out); (case side3 => repeat (first | exact (Kd.C_below HR1.out HB.out) | (with_reducible refine Kd.C_alloc ?_ _) | (with_reducible refine Kd.C_drewN ?_ _) | (with_reducible refine Kd.C_drew ?_))); (case side4 => exact HC1.out); rintro e w29 ⟨v113, rfl, ho0, hb⟩; refine ⟨_, rfl, ?_⟩; have n0_ := Aside0.mk (Kd.N_elder' (by (with_reducible repeat (first | apply Kd.N_alloc | apply Kd.N_drewN | apply Kd.N_drew)); exact HO_8.out) (Kd.R_base ho0) hb); have n1_ := Aside0.mk (Kd.R_elder' (by (with_reducible repeat (first | apply Kd.R_alloc | apply Kd.R_drewN | apply Kd.R_drew)); exact HO110.out) (Kd.R_base ho0) hb); have n2_ := Aside0.mk (Kd.R_lower (Kd.R_new' ho0 (Kd.R_lt (by (with_reducible repeat (first | apply Kd.R_alloc | apply Kd.R_drewN | apply Kd.R_drew)); exact HO110.out))) (below_size (by repeat (first | (with_reducible first | exact HB.out | apply below_alloc | apply pw_below_drewN | apply below_drew1) | exact HB.out)))); have n3_ := Aside0.mk (below_step (by repeat (first | (with_reducible first | exact HB.out | apply below_alloc | apply pw_below_drewN | apply below_drew1) | exact HB.out)) hb); clear HO_8; clear HO110; clear HB; have HO_8 := n0_; have HO110 := n1_; have HO114 := n2_; have HB := n3_; clear n0_ n1_ n2_ n3_; (try clear hb); (try clear hb2); (try clear hk); (try clear hi); (try clear ho0); obtain ⟨Ao30, co30, eo30⟩ := Kd.N_slice HO_8.out; subst eo30) | ((with_reducible refine gate_callee (f := 19) rfl ?_); refine goesL_ (some 52) rfl rfl Try.func19 (by kernel_rfl) rfl #[.slice Ao30 x8_14.length co30, .slice A1 l1.length c1, .bool false] rfl (by (try simp only [List.map_toArray, List.map_cons, List.map_nil]); first | done | rfl | (simp only [List.length_drop, List.length_take]; rfl)) ?_; (with_reducible refine (paronymref19_Behind.calls kj14 (fun k_ => ((True ∧ some k_ ≠ (v109 : Value).ownBlock) ∧ some k_ ≠ (v113 : Value).ownBlock)) _ _ x8_14 _ _ l1 false t115 _ ?side1 ?side2 ?side3 A21.out).mono ?_); (case side1 => exact Kd.N_V (HO_8.out)); (case side2 => repeat (first | exact (Kd.C_below HR1.out HB.out) | (with_reducible refine Kd.C_alloc ?_ _) | (with_reducible refine Kd.C_drewN ?_ _) | (with_reducible refine Kd.C_drew ?_))); (case side3 => exact HC1.out); rintro e w31 ⟨v116, rfl, ho0, hb⟩; refine ⟨_, rfl, ?_⟩; have n0_ := Aside0.mk (Kd.N_below (by (with_reducible repeat (first | apply Kd.N_alloc | apply Kd.N_drewN | apply Kd.N_drew)); exact HO_8.out) hb); have n1_ := Aside0.mk (Kd.R_below (by (with_reducible repeat (first | apply Kd.R_alloc | apply Kd.R_drewN | apply Kd.R_drew)); exact HO110.out) hb); have n2_ := Aside0.mk (Kd.R_below (by (with_reducible repeat (first | apply Kd.R_alloc | apply Kd.R_drewN | apply Kd.R_drew)); exact HO114.out) hb); have n3_ := Aside0.mk (Kd.V_lower (Kd.V_mono (ok' := fun k_ => some k_ ≠ (v109 : Value).ownBlock ∧ some k_ ≠ (v113 : Value).ownBlock) ho0 (fun k_ hk_ => ⟨Or.elim hk_ (fun hs_ => hs_.1.2) (fun hn_ => (Kd.fresh' (Kd.R_lt (by (with_reducible repeat (first | apply Kd.R_alloc | apply Kd.R_drewN | apply Kd.R_drew)); exact HO110.out)) k_ hn_)), Or.elim hk_ (fun hs_ => hs_.2) (fun hn_ => (Kd.fresh' (Kd.R_lt (by (with_reducible repeat (first | apply Kd.R_alloc | apply Kd.R_drewN | apply Kd.R_drew)); exact HO114.out)) k_ hn_))⟩)) (below_size (by repeat (first | (with_reducible first | exact HB.out | apply below_alloc | apply pw_below_drewN | apply below_drew1) | exact HB.out)))); have n4_ := Aside0.mk (below_step (by repeat (first | (with_reducible first | exact HB.out | apply below_alloc | apply pw_below_drewN | apply below_drew1) | exact HB.out)) hb); clear HO_8; clear HO110; clear HO114; clear HB; have HO_8 := n0_; have HO110 := n1_; have HO114 := n2_; have HO117 := n3_; have HB := n4_; clear n0_ n1_ n2_ n3_ n4_; (try clear hb); (try clear hb2); (try clear hk); (try clear hi); (try clear ho0)) | ((with_reducible refine gate_callee (f := 19) rfl ?_); refine goesL_ (some 55) rfl rfl Try.func19 (by kernel_rfl) rfl #[.slice Ao30 x8_14.length co30, .slice A1 l1.length c1, .bool true] rfl (by (try simp only [List.map_toArray, List.map_cons, List.map_nil]); first | done | rfl | (simp only [List.length_drop, List.length_take]; rfl)) ?_; (with_reducible refine (paronymref19_Behind.calls kj14 (fun k_ => ((True ∧ some k_ ≠ (v109 : Value).ownBlock) ∧ some k_ ≠ (v113 : Value).ownBlock)) _ _ x8_14 _ _ l1 true t118 _ ?side1 ?side2 ?side3 A22.out).mono ?_); (case side1 => exact Kd.N_V (HO_8.out)); (case side2 => repeat (first | exact (Kd.C_below HR1.out HB.out) | (with_reducible refine Kd.C_alloc ?_ _) | (with_reducible refine Kd.C_drewN ?_ _) | (with_reducible refine Kd.C_drew ?_))); (case side3 => exact HC1.out); rintro e w32 ⟨v119, rfl, ho0, hb⟩; refine ⟨_, rfl, ?_⟩; have n0_ := Aside0.mk (Kd.N_below (by (with_reducible repeat (first | apply Kd.N_alloc | apply Kd.N_drewN | apply Kd.N_drew)); exact HO_8.out) hb); have n1_ := Aside0.mk (Kd.R_below (by (with_reducible repeat (first | apply Kd.R_alloc | apply Kd.R_drewN | apply Kd.R_drew)); exact HO110.out) hb); have n2_ := Aside0.mk (Kd.R_below (by (with_reducible repeat (first | apply Kd.R_alloc | apply Kd.R_drewN | apply Kd.R_drew)); exact HO114.out) hb); have n3_ := Aside0.mk (Kd.V_below (by (with_reducible repeat (first | apply Kd.V_alloc | apply Kd.V_drewN | apply Kd.V_drew)); exact HO117.out) hb); have n4_ := Aside0.mk (Kd.V_lower (Kd.V_mono (ok' := fun k_ => some k_ ≠ (v109 : Value).ownBlock ∧ some k_ ≠ (v113 : Value).ownBlock) ho0 (fun k_ hk_ => ⟨Or.elim hk_ (fun hs_ => hs_.1.2) (fun hn_ => (Kd.fresh' (Kd.R_lt (by (with_reducible repeat (first | apply Kd.R_alloc | apply Kd.R_drewN | apply Kd.R_drew)); exact HO110.out)) k_ hn_)), Or.elim hk_ (fun hs_ => hs_.2) (fun hn_ => (Kd.fresh' (Kd.R_lt (by (with_reducible repeat (first | apply Kd.R_alloc | apply Kd.R_drewN | apply Kd.R_drew)); exact HO114.out)) k_ hn_))⟩)) (below_size (by repeat (first | (with_reducible first | exact HB.out | apply below_alloc | apply pw_below_drewN | apply below_drew1) | exact HB.out)))); have n5_ := Aside0.mk (below_step (by repeat (first | (with_reducible first | exact HB.out | apply below_alloc | apply pw_below_drewN | apply below_drew1) | exact HB.out)) hb); clear HO_8; clear HO110; clear HO114; clear HO117; clear HB; have HO_8 := n0_; have HO110 := n1_; have HO114 := n2_; have HO117 := n3_; have HO120 := n4_; have HB := n5_; clear n0_ n1_ n2_ n3_ n4_ n5_; (try clear hb); (try clear hb2); (try clear hk); (try clear hi); (try clear ho0); obtain ⟨Ao33, co33, eo33⟩ := Kd.R_slice HO110.out; subst eo33; obtain ⟨Ao34, co34, eo34⟩ := Kd.V_slice HO117.out; subst eo34) | ((with_reducible refine gate_callee (f := 20) rfl ?_); refine goesL_ (some 58) rfl rfl Try.func20 (by kernel_rfl) rfl #[.slice Ao33 t107.length co33, .slice Ao34 t115.length co34] rfl (by (try simp only [List.map_toArray, List.map_cons, List.map_nil]); first | done | rfl | (simp only [List.length_drop, List.length_take]; rfl)) ?_; (with_reducible refine (paronymref01_Same.calls kj14 _ _ t107 _ _ t115 true _ ?side1 ?side2 ?side3 ?side4 A23.out).mono ?_); (case side1 => repeat (first | exact (Kd.R_reads' HO110.out).2.2 | (with_reducible refine Kd.C_alloc ?_ _) | (with_reducible refine Kd.C_drewN ?_ _) | (with_reducible refine Kd.C_drew ?_))); (case side2 => exact (Kd.R_reads' HO110.out).2.1); (case side3 => repeat (first | exact (Kd.V_reads' HO117.out).2.2 | (with_reducible refine Kd.C_alloc ?_ _) | (with_reducible refine Kd.C_drewN ?_ _) | (with_reducible refine Kd.C_drew ?_))); (case side4 => exact (Kd.V_reads' HO117.out).2.1); rintro e w' ⟨rfl, ⟨nd, rfl⟩⟩; refine ⟨_, rfl, ?_⟩; obtain ⟨Ao35, co35, eo35⟩ := Kd.R_slice HO114.out; subst eo35; obtain ⟨Ao36, co36, eo36⟩ := Kd.V_slice HO120.out; subst eo36) | (go_at_call 20; (with_reducible refine (paronymref01_Same.calls kj14 _ _ t111 _ _ t118 true _ ?side1 ?side2 ?side3 ?side4 A26.out).mono ?_); (case side1 => repeat (first | exact (Kd.R_reads' HO114.out).2.2 | (with_reducible refine Kd.C_alloc ?_ _) | (with_reducible refine Kd.C_drewN ?_ _) | (with_reducible refine Kd.C_drew ?_))); (case side2 => exact (Kd.R_reads' HO114.out).2.1); (case side3 => repeat (first | exact (Kd.V_reads' HO120.out).2.2 | (with_reducible refine Kd.C_alloc ?_ _) | (with_reducible refine Kd.C_drewN ?_ _) | (with_reducible refine Kd.C_drew ?_))); (case side4 => exact (Kd.V_reads' HO120.out).2.1); rintro e w' ⟨rfl, ⟨nd, rfl⟩⟩))
                  go_ret
                  exact ⟨by first | rfl | (simp [errW_none, errW_some] <;> rfl) | (simp [*, errW_none, errW_some] <;> rfl), by repeat (first | (with_reducible first | exact HB.out | apply below_alloc | apply pw_below_drewN | apply below_drew1) | exact HB.out)⟩
                · replace c27 := Bool.eq_false_iff.mpr c27
                  subst c27
                  have H1 : (some false) = some r := by rw [if_neg (show ¬ (false = true) by decide)] at H; exact H
                  clear H
                  have H := H1
                  clear H1
                  obtain rfl := Option.some.inj H
                  go_wp2_with (first | ((with_reducible refine gate_callee (f := 17) rfl ?_); refine goesL_ (some 40) rfl rfl Try.func17 (by kernel_rfl) rfl #[.slice A0 l0.length c0, .slice A1 l1.length c1, .int .i64 (wrap64 (Int.tmod a2 5))] rfl (by (try simp only [List.map_toArray, List.map_cons, List.map_nil]); first | done | rfl | (simp only [List.length_drop, List.length_take]; rfl)) ?_; (with_reducible refine (order_Next.calls kj14 _ _ l0 _ _ l1 (wrap64 (Int.tmod a2 5)) t107 t108 _ ?side1 ?side2 ?side3 ?side4 A19.out).mono ?_); (case side1 => repeat (first | exact (Kd.C_below HR0.out HB.out) | (with_reducible refine Kd.C_alloc ?_ _) | (with_reducible refine Kd.C_drewN ?_ _) | (with_reducible refine Kd.C_drew ?_))); (case side2 => exact HC0.out); (case side3 => repeat (first | exact (Kd.C_below HR1.out HB.out) | (with_reducible refine Kd.C_alloc ?_ _) | (with_reducible refine Kd.C_drewN ?_ _) | (with_reducible refine Kd.C_drew ?_))); (case side4 => exact HC1.out); rintro e w37 ⟨v109, rfl, ho0, hb⟩; refine ⟨_, rfl, ?_⟩; have n0_ := Aside0.mk (Kd.N_elder' (by (with_reducible repeat (first | apply Kd.N_alloc | apply Kd.N_drewN | apply Kd.N_drew)); exact HO_8.out) (Kd.R_base ho0) hb); have n1_ := Aside0.mk (Kd.R_lower ho0 (below_size (by repeat (first | (with_reducible first | exact HB.out | apply below_alloc | apply pw_below_drewN | apply below_drew1) | exact HB.out)))); have n2_ := Aside0.mk (below_step (by repeat (first | (with_reducible first | exact HB.out | apply below_alloc | apply pw_below_drewN | apply below_drew1) | exact HB.out)) hb); clear HO_8; clear HB; have HO_8 := n0_; have HO110 := n1_; have HB := n2_; clear n0_ n1_ n2_; (try clear hb); (try clear hb2); (try clear hk); (try clear hi); (try clear ho0)) | ((with_reducible refine gate_callee (f := 18) rfl ?_); refine goesL_ (some 47) rfl rfl Try.func18 (by kernel_rfl) rfl #[.slice A0 l0.length c0, .slice A1 l1.length c1, .int .i64 (wrap64 (Int.tmod a2 5))] rfl (by (try simp only [List.map_toArray, List.map_cons, List.map_nil]); first | done | rfl | (simp only [List.length_drop, List.length_take]; rfl)) ?_; (with_reducible refine (order_Skip.calls kj14 _ _ l0 _ _ l1 (wrap64 (Int.tmod a2 5)) t111 t112 _ ?side1 ?side2 ?side3 ?side4 A20.out).mono ?_); (case side1 => repeat (first | exact (Kd.C_below HR0.out HB.out) | (with_reducible refine Kd.C_alloc ?_ _) | (with_reducible refine Kd.C_drewN ?_ _) | (with_reducible refine Kd.C_drew ?_))); (case side2 => exact HC0.out); (case side3 => repeat (first | exact (Kd.C_below HR1.out HB.out) | (with_reducible refine Kd.C_alloc ?_ _) | (with_reducible refine Kd.C_drewN ?_ _) | (with_reducible refine Kd.C_drew ?_))); (case side4 => exact HC1.out); rintro e w38 ⟨v113, rfl, ho0, hb⟩; refine ⟨_, rfl, ?_⟩; have n0_ := Aside0.mk (Kd.N_elder' (by (with_reducible repeat (first | apply Kd.N_alloc | apply Kd.N_drewN | apply Kd.N_drew)); exact HO_8.out) (Kd.R_base ho0) hb); have n1_ := Aside0.mk (Kd.R_elder' (by (with_reducible repeat (first | apply Kd.R_alloc | apply Kd.R_drewN | apply Kd.R_drew)); exact HO110.out) (Kd.R_base ho0) hb); have n2_ := Aside0.mk (Kd.R_lower (Kd.R_new' ho0 (Kd.R_lt (by (with_reducible repeat (first | apply Kd.R_alloc | apply Kd.R_drewN | apply Kd.R_drew)); exact HO110.out))) (below_size (by repeat (first | (with_reducible first | exact HB.out | apply below_alloc | apply pw_below_drewN | apply below_drew1) | exact HB.out)))); have n3_ := Aside0.mk (below_step (by repeat (first | (with_reducible first | exact HB.out | apply below_alloc | apply pw_below_drewN | apply below_drew1) | exact HB.out)) hb); clear HO_8; clear HO110; clear HB; have HO_8 := n0_; have HO110 := n1_; have HO114 := n2_; have HB := n3_; clear n0_ n1_ n2_ n3_; (try clear hb); (try clear hb2); (try clear hk); (try clear hi); (try clear ho0); obtain ⟨Ao39, co39, eo39⟩ := Kd.N_slice HO_8.out; subst eo39) | ((with_reducible refine gate_callee (f := 19) rfl ?_); refine goesL_ (some 52) rfl rfl Try.func19 (by kernel_rfl) rfl #[.slice Ao39 x8_14.length co39, .slice A1 l1.length c1, .bool false] rfl (by (try simp only [List.map_toArray, List.map_cons, List.map_nil]); first | done | rfl | (simp only [List.length_drop, List.length_take]; rfl)) ?_; (with_reducible refine (paronymref19_Behind.calls kj14 (fun k_ => ((True ∧ some k_ ≠ (v109 : Value).ownBlock) ∧ some k_ ≠ (v113 : Value).ownBlock)) _ _ x8_14 _ _ l1 false t115 _ ?side1 ?side2 ?side3 A21.out).mono ?_); (case side1 => exact Kd.N_V (HO_8.out)); (case side2 => repeat (first | exact (Kd.C_below HR1.out HB.out) | (with_reducible refine Kd.C_alloc ?_ _) | (with_reducible refine Kd.C_drewN ?_ _) | (with_reducible refine Kd.C_drew ?_))); (case side3 => exact HC1.out); rintro e w40 ⟨v116, rfl, ho0, hb⟩; refine ⟨_, rfl, ?_⟩; have n0_ := Aside0.mk (Kd.N_below (by (with_reducible repeat (first | apply Kd.N_alloc | apply Kd.N_drewN | apply Kd.N_drew)); exact HO_8.out) hb); have n1_ := Aside0.mk (Kd.R_below (by (with_reducible repeat (first | apply Kd.R_alloc | apply Kd.R_drewN | apply Kd.R_drew)); exact HO110.out) hb); have n2_ := Aside0.mk (Kd.R_below (by (with_reducible repeat (first | apply Kd.R_alloc | apply Kd.R_drewN | apply Kd.R_drew)); exact HO114.out) hb); have n3_ := Aside0.mk (Kd.V_lower (Kd.V_mono (ok' := fun k_ => some k_ ≠ (v109 : Value).ownBlock ∧ some k_ ≠ (v113 : Value).ownBlock) ho0 (fun k_ hk_ => ⟨Or.elim hk_ (fun hs_ => hs_.1.2) (fun hn_ => (Kd.fresh' (Kd.R_lt (by (with_reducible repeat (first | apply Kd.R_alloc | apply Kd.R_drewN | apply Kd.R_drew)); exact HO110.out)) k_ hn_)), Or.elim hk_ (fun hs_ => hs_.2) (fun hn_ => (Kd.fresh' (Kd.R_lt (by (with_reducible repeat (first | apply Kd.R_alloc | apply Kd.R_drewN | apply Kd.R_drew)); exact HO114.out)) k_ hn_))⟩)) (below_size (by repeat (first | (with_reducible first | exact HB.out | apply below_alloc | apply pw_below_drewN | apply below_drew1) | exact HB.out)))); have n4_ := Aside0.mk (below_step (by repeat (first | (with_reducible first | exact HB.out | apply below_alloc | apply pw_below_drewN | apply below_drew1) | exact HB.out)) hb); clear HO_8; clear HO110; clear HO114; clear HB; have HO_8 := n0_; have HO110 := n1_; have HO114 := n2_; have HO117 := n3_; have HB := n4_; clear n0_ n1_ n2_ n3_ n4_; (try clear hb); (try clear hb2); (try clear hk); (try clear hi); (try clear ho0)) | ((with_reducible refine gate_callee (f := 19) rfl ?_); refine goesL_ (some 55) rfl rfl Try.func19 (by kernel_rfl) rfl #[.slice Ao39 x8_14.length co39, .slice A1 l1.length c1, .bool true] rfl (by (try simp only [List.map_toArray, List.map_cons, List.map_nil]); first | done | rfl | (simp only [List.length_drop, List.length_take]; rfl)) ?_; (with_reducible refine (paronymref19_Behind.calls kj14 (fun k_ => ((True ∧ some k_ ≠ (v109 : Value).ownBlock) ∧ some k_ ≠ (v113 : Value).ownBlock)) _ _ x8_14 _ _ l1 true t118 _ ?side1 ?side2 ?side3 A22.out).mono ?_); (case side1 => exact Kd.N_V (HO_8.out)); (case side2 => repeat (first | exact (Kd.C_below HR1.out HB.out) | (with_reducible refine Kd.C_alloc ?_ _) | (with_reducible refine Kd.C_drewN ?_ _) | (with_reducible refine Kd.C_drew ?_))); (case side3 => exact HC1.out); rintro e w41 ⟨v119, rfl, ho0, hb⟩; refine ⟨_, rfl, ?_⟩; have n0_ := Aside0.mk (Kd.N_below (by (with_reducible repeat (first | apply Kd.N_alloc | apply Kd.N_drewN | apply Kd.N_drew)); exact HO_8.out) hb); have n1_ := Aside0.mk (Kd.R_below (by (with_reducible repeat (first | apply Kd.R_alloc | apply Kd.R_drewN | apply Kd.R_drew)); exact HO110.out) hb); have n2_ := Aside0.mk (Kd.R_below (by (with_reducible repeat (first | apply Kd.R_alloc | apply Kd.R_drewN | apply Kd.R_drew)); exact HO114.out) hb); have n3_ := Aside0.mk (Kd.V_below (by (with_reducible repeat (first | apply Kd.V_alloc | apply Kd.V_drewN | apply Kd.V_drew)); exact HO117.out) hb); have n4_ := Aside0.mk (Kd.V_lower (Kd.V_mono (ok' := fun k_ => some k_ ≠ (v109 : Value).ownBlock ∧ some k_ ≠ (v113 : Value).ownBlock) ho0 (fun k_ hk_ => ⟨Or.elim hk_ (fun hs_ => hs_.1.2) (fun hn_ => (Kd.fresh' (Kd.R_lt (by (with_reducible repeat (first | apply Kd.R_alloc | apply Kd.R_drewN | apply Kd.R_drew)); exact HO110.out)) k_ hn_)), Or.elim hk_ (fun hs_ => hs_.2) (fun hn_ => (Kd.fresh' (Kd.R_lt (by (with_reducible repeat (first | apply Kd.R_alloc | apply Kd.R_drewN | apply Kd.R_drew)); exact HO114.out)) k_ hn_))⟩)) (below_size (by repeat (first | (with_reducible first | exact HB.out | apply below_alloc | apply pw_below_drewN | apply below_drew1) | exact HB.out)))); have n5_ := Aside0.mk (below_step (by repeat (first | (with_reducible first | exact HB.out | apply below_alloc | apply pw_below_drewN | apply below_drew1) | exact HB.out)) hb); clear HO_8; clear HO110; clear HO114; clear HO117; clear HB; have HO_8 := n0_; have HO110 := n1_; have HO114 := n2_; have HO117 := n3_; have HO120 := n4_; have HB := n5_; clear n0_ n1_ n2_ n3_ n4_ n5_; (try clear hb); (try clear hb2); (try clear hk); (try clear hi); (try clear ho0); obtain ⟨Ao42, co42, eo42⟩ := Kd.R_slice HO110.out; subst eo42; obtain ⟨Ao43, co43, eo43⟩ := Kd.V_slice HO117.out; subst eo43) | ((with_reducible refine gate_callee (f := 20) rfl ?_); refine goesL_ (some 58) rfl rfl Try.func20 (by kernel_rfl) rfl #[.slice Ao42 t107.length co42, .slice Ao43 t115.length co43] rfl (by (try simp only [List.map_toArray, List.map_cons, List.map_nil]); first | done | rfl | (simp only [List.length_drop, List.length_take]; rfl)) ?_; (with_reducible refine (paronymref01_Same.calls kj14 _ _ t107 _ _ t115 true _ ?side1 ?side2 ?side3 ?side4 A23.out).mono ?_); (case side1 => repeat (first | exact (Kd.R_reads' HO110.out).2.2 | (with_reducible refine Kd.C_alloc ?_ _) | (with_reducible refine Kd.C_drewN ?_ _) | (with_reducible refine Kd.C_drew ?_))); (case side2 => exact (Kd.R_reads' HO110.out).2.1); (case side3 => repeat (first | exact (Kd.V_reads' HO117.out).2.2 | (with_reducible refine Kd.C_alloc ?_ _) | (with_reducible refine Kd.C_drewN ?_ _) | (with_reducible refine Kd.C_drew ?_))); (case side4 => exact (Kd.V_reads' HO117.out).2.1); rintro e w' ⟨rfl, ⟨nd, rfl⟩⟩; refine ⟨_, rfl, ?_⟩; obtain ⟨Ao44, co44, eo44⟩ := Kd.R_slice HO114.out; subst eo44; obtain ⟨Ao45, co45, eo45⟩ := Kd.V_slice HO120.out; subst eo45) | (go_at_call 20; (with_reducible refine (paronymref01_Same.calls kj14 _ _ t111 _ _ t118 false _ ?side1 ?side2 ?side3 ?side4 A26.out).mono ?_); (case side1 => repeat (first | exact (Kd.R_reads' HO114.out).2.2 | (with_reducible refine Kd.C_alloc ?_ _) | (with_reducible refine Kd.C_drewN ?_ _) | (with_reducible refine Kd.C_drew ?_))); (case side2 => exact (Kd.R_reads' HO114.out).2.1); (case side3 => repeat (first | exact (Kd.V_reads' HO120.out).2.2 | (with_reducible refine Kd.C_alloc ?_ _) | (with_reducible refine Kd.C_drewN ?_ _) | (with_reducible refine Kd.C_drew ?_))); (case side4 => exact (Kd.V_reads' HO120.out).2.1); rintro e w' ⟨rfl, ⟨nd, rfl⟩⟩))
                  go_ret
                  exact ⟨by first | rfl | (simp [errW_none, errW_some] <;> rfl) | (simp [*, errW_none, errW_some] <;> rfl), by repeat (first | (with_reducible first | exact HB.out | apply below_alloc | apply pw_below_drewN | apply below_drew1) | exact HB.out)⟩
              · rw [if_neg c25] at H
                have c25b0 : (t108 == (decide ((t115.length : Int) > 0))) = false := by simpa using c25
                (try (have c25b1 : decide (t108 = (decide ((t115.length : Int) > 0))) = false := by simpa using c25))
                (try (have c25b2 : (t108 == (decide ((t115.length : Int) > 0))) = false := by simpa using c25))
                (try (have c25b3 : ¬ (t108 = (decide ((t115.length : Int) > 0))) := by simpa using c25))
                have c25n : ¬ t108 = decide (0 < t115.length) := fun e_ => by rw [e_, show decide ((t115.length : Int) > 0) = decide (0 < t115.length) from decide_eq_decide.2 (by omega)] at c25; exact c25 (by simp)
                clear c25
                have c25m : (t108 == decide (0 < t115.length)) = false := beq_eq_false_iff_ne.mpr c25n
                have c25o : decide (t108 = decide (0 < t115.length)) = false := decide_eq_false c25n
                have c25p := eq_false c25n
                obtain rfl := Option.some.inj H
                go_wp2_with (first | ((with_reducible refine gate_callee (f := 17) rfl ?_); refine goesL_ (some 40) rfl rfl Try.func17 (by kernel_rfl) rfl #[.slice A0 l0.length c0, .slice A1 l1.length c1, .int .i64 (wrap64 (Int.tmod a2 5))] rfl (by (try simp only [List.map_toArray, List.map_cons, List.map_nil]); first | done | rfl | (simp only [List.length_drop, List.length_take]; rfl)) ?_; (with_reducible refine (order_Next.calls kj14 _ _ l0 _ _ l1 (wrap64 (Int.tmod a2 5)) t107 t108 _ ?side1 ?side2 ?side3 ?side4 A19.out).mono ?_); (case side1 => repeat (first | exact (Kd.C_below HR0.out HB.out) | (with_reducible refine Kd.C_alloc ?_ _) | (with_reducible refine Kd.C_drewN ?_ _) | (with_reducible refine Kd.C_drew ?_))); (case side2 => exact HC0.out); (case side3 => repeat (first | exact (Kd.C_below HR1.out HB.out) | (with_reducible refine Kd.C_alloc ?_ _) | (with_reducible refine Kd.C_drewN ?_ _) | (with_reducible refine Kd.C_drew ?_))); (case side4 => exact HC1.out); rintro e w46 ⟨v109, rfl, ho0, hb⟩; refine ⟨_, rfl, ?_⟩; have n0_ := Aside0.mk (Kd.N_elder' (by (with_reducible repeat (first | apply Kd.N_alloc | apply Kd.N_drewN | apply Kd.N_drew)); exact HO_8.out) (Kd.R_base ho0) hb); have n1_ := Aside0.mk (Kd.R_lower ho0 (below_size (by repeat (first | (with_reducible first | exact HB.out | apply below_alloc | apply pw_below_drewN | apply below_drew1) | exact HB.out)))); have n2_ := Aside0.mk (below_step (by repeat (first | (with_reducible first | exact HB.out | apply below_alloc | apply pw_below_drewN | apply below_drew1) | exact HB.out)) hb); clear HO_8; clear HB; have HO_8 := n0_; have HO110 := n1_; have HB := n2_; clear n0_ n1_ n2_; (try clear hb); (try clear hb2); (try clear hk); (try clear hi); (try clear ho0)) | ((with_reducible refine gate_callee (f := 18) rfl ?_); refine goesL_ (some 47) rfl rfl Try.func18 (by kernel_rfl) rfl #[.slice A0 l0.length c0, .slice A1 l1.length c1, .int .i64 (wrap64 (Int.tmod a2 5))] rfl (by (try simp only [List.map_toArray, List.map_cons, List.map_nil]); first | done | rfl | (simp only [List.length_drop, List.length_take]; rfl)) ?_; (with_reducible refine (order_Skip.calls kj14 _ _ l0 _ _ l1 (wrap64 (Int.tmod a2 5)) t111 t112 _ ?side1 ?side2 ?side3 ?side4 A20.out).mono ?_); (case side1 => repeat (first | exact (Kd.C_below HR0.out HB.out) | (with_reducible refine Kd.C_alloc ?_ _) | (with_reducible refine Kd.C_drewN ?_ _) | (with_reducible refine Kd.C_drew ?_))); (case side2 => exact HC0.out); (case side3 => repeat (first | exact (Kd.C_below HR1.out HB.out) | (with_reducible refine Kd.C_alloc ?_ _) | (with_reducible refine Kd.C_drewN ?_ _) | (with_reducible refine Kd.C_drew ?_))); (case side4 => exact HC1.out); rintro e w47 ⟨v113, rfl, ho0, hb⟩; refine ⟨_, rfl, ?_⟩; have n0_ := Aside0.mk (Kd.N_elder' (by (with_reducible repeat (first | apply Kd.N_alloc | apply Kd.N_drewN | apply Kd.N_drew)); exact HO_8.out) (Kd.R_base ho0) hb); have n1_ := Aside0.mk (Kd.R_elder' (by (with_reducible repeat (first | apply Kd.R_alloc | apply Kd.R_drewN | apply Kd.R_drew)); exact HO110.out) (Kd.R_base ho0) hb); have n2_ := Aside0.mk (Kd.R_lower (Kd.R_new' ho0 (Kd.R_lt (by (with_reducible repeat (first | apply Kd.R_alloc | apply Kd.R_drewN | apply Kd.R_drew)); exact HO110.out))) (below_size (by repeat (first | (with_reducible first | exact HB.out | apply below_alloc | apply pw_below_drewN | apply below_drew1) | exact HB.out)))); have n3_ := Aside0.mk (below_step (by repeat (first | (with_reducible first | exact HB.out | apply below_alloc | apply pw_below_drewN | apply below_drew1) | exact HB.out)) hb); clear HO_8; clear HO110; clear HB; have HO_8 := n0_; have HO110 := n1_; have HO114 := n2_; have HB := n3_; clear n0_ n1_ n2_ n3_; (try clear hb); (try clear hb2); (try clear hk); (try clear hi); (try clear ho0); obtain ⟨Ao48, co48, eo48⟩ := Kd.N_slice HO_8.out; subst eo48) | ((with_reducible refine gate_callee (f := 19) rfl ?_); refine goesL_ (some 52) rfl rfl Try.func19 (by kernel_rfl) rfl #[.slice Ao48 x8_14.length co48, .slice A1 l1.length c1, .bool false] rfl (by (try simp only [List.map_toArray, List.map_cons, List.map_nil]); first | done | rfl | (simp only [List.length_drop, List.length_take]; rfl)) ?_; (with_reducible refine (paronymref19_Behind.calls kj14 (fun k_ => ((True ∧ some k_ ≠ (v109 : Value).ownBlock) ∧ some k_ ≠ (v113 : Value).ownBlock)) _ _ x8_14 _ _ l1 false t115 _ ?side1 ?side2 ?side3 A21.out).mono ?_); (case side1 => exact Kd.N_V (HO_8.out)); (case side2 => repeat (first | exact (Kd.C_below HR1.out HB.out) | (with_reducible refine Kd.C_alloc ?_ _) | (with_reducible refine Kd.C_drewN ?_ _) | (with_reducible refine Kd.C_drew ?_))); (case side3 => exact HC1.out); rintro e w49 ⟨v116, rfl, ho0, hb⟩; refine ⟨_, rfl, ?_⟩; have n0_ := Aside0.mk (Kd.N_below (by (with_reducible repeat (first | apply Kd.N_alloc | apply Kd.N_drewN | apply Kd.N_drew)); exact HO_8.out) hb); have n1_ := Aside0.mk (Kd.R_below (by (with_reducible repeat (first | apply Kd.R_alloc | apply Kd.R_drewN | apply Kd.R_drew)); exact HO110.out) hb); have n2_ := Aside0.mk (Kd.R_below (by (with_reducible repeat (first | apply Kd.R_alloc | apply Kd.R_drewN | apply Kd.R_drew)); exact HO114.out) hb); have n3_ := Aside0.mk (Kd.V_lower (Kd.V_mono (ok' := fun k_ => some k_ ≠ (v109 : Value).ownBlock ∧ some k_ ≠ (v113 : Value).ownBlock) ho0 (fun k_ hk_ => ⟨Or.elim hk_ (fun hs_ => hs_.1.2) (fun hn_ => (Kd.fresh' (Kd.R_lt (by (with_reducible repeat (first | apply Kd.R_alloc | apply Kd.R_drewN | apply Kd.R_drew)); exact HO110.out)) k_ hn_)), Or.elim hk_ (fun hs_ => hs_.2) (fun hn_ => (Kd.fresh' (Kd.R_lt (by (with_reducible repeat (first | apply Kd.R_alloc | apply Kd.R_drewN | apply Kd.R_drew)); exact HO114.out)) k_ hn_))⟩)) (below_size (by repeat (first | (with_reducible first | exact HB.out | apply below_alloc | apply pw_below_drewN | apply below_drew1) | exact HB.out)))); have n4_ := Aside0.mk (below_step (by repeat (first | (with_reducible first | exact HB.out | apply below_alloc | apply pw_below_drewN | apply below_drew1) | exact HB.out)) hb); clear HO_8; clear HO110; clear HO114; clear HB; have HO_8 := n0_; have HO110 := n1_; have HO114 := n2_; have HO117 := n3_; have HB := n4_; clear n0_ n1_ n2_ n3_ n4_; (try clear hb); (try clear hb2); (try clear hk); (try clear hi); (try clear ho0)) | ((with_reducible refine gate_callee (f := 19) rfl ?_); refine goesL_ (some 55) rfl rfl Try.func19 (by kernel_rfl) rfl #[.slice Ao48 x8_14.length co48, .slice A1 l1.length c1, .bool true] rfl (by (try simp only [List.map_toArray, List.map_cons, List.map_nil]); first | done | rfl | (simp only [List.length_drop, List.length_take]; rfl)) ?_; (with_reducible refine (paronymref19_Behind.calls kj14 (fun k_ => ((True ∧ some k_ ≠ (v109 : Value).ownBlock) ∧ some k_ ≠ (v113 : Value).ownBlock)) _ _ x8_14 _ _ l1 true t118 _ ?side1 ?side2 ?side3 A22.out).mono ?_); (case side1 => exact Kd.N_V (HO_8.out)); (case side2 => repeat (first | exact (Kd.C_below HR1.out HB.out) | (with_reducible refine Kd.C_alloc ?_ _) | (with_reducible refine Kd.C_drewN ?_ _) | (with_reducible refine Kd.C_drew ?_))); (case side3 => exact HC1.out); rintro e w50 ⟨v119, rfl, ho0, hb⟩; refine ⟨_, rfl, ?_⟩; have n0_ := Aside0.mk (Kd.N_below (by (with_reducible repeat (first | apply Kd.N_alloc | apply Kd.N_drewN | apply Kd.N_drew)); exact HO_8.out) hb); have n1_ := Aside0.mk (Kd.R_below (by (with_reducible repeat (first | apply Kd.R_alloc | apply Kd.R_drewN | apply Kd.R_drew)); exact HO110.out) hb); have n2_ := Aside0.mk (Kd.R_below (by (with_reducible repeat (first | apply Kd.R_alloc | apply Kd.R_drewN | apply Kd.R_drew)); exact HO114.out) hb); have n3_ := Aside0.mk (Kd.V_below (by (with_reducible repeat (first | apply Kd.V_alloc | apply Kd.V_drewN | apply Kd.V_drew)); exact HO117.out) hb); have n4_ := Aside0.mk (Kd.V_lower (Kd.V_mono (ok' := fun k_ => some k_ ≠ (v109 : Value).ownBlock ∧ some k_ ≠ (v113 : Value).ownBlock) ho0 (fun k_ hk_ => ⟨Or.elim hk_ (fun hs_ => hs_.1.2) (fun hn_ => (Kd.fresh' (Kd.R_lt (by (with_reducible repeat (first | apply Kd.R_alloc | apply Kd.R_drewN | apply Kd.R_drew)); exact HO110.out)) k_ hn_)), Or.elim hk_ (fun hs_ => hs_.2) (fun hn_ => (Kd.fresh' (Kd.R_lt (by (with_reducible repeat (first | apply Kd.R_alloc | apply Kd.R_drewN | apply Kd.R_drew)); exact HO114.out)) k_ hn_))⟩)) (below_size (by repeat (first | (with_reducible first | exact HB.out | apply below_alloc | apply pw_below_drewN | apply below_drew1) | exact HB.out)))); have n5_ := Aside0.mk (below_step (by repeat (first | (with_reducible first | exact HB.out | apply below_alloc | apply pw_below_drewN | apply below_drew1) | exact HB.out)) hb); clear HO_8; clear HO110; clear HO114; clear HO117; clear HB; have HO_8 := n0_; have HO110 := n1_; have HO114 := n2_; have HO117 := n3_; have HO120 := n4_; have HB := n5_; clear n0_ n1_ n2_ n3_ n4_ n5_; (try clear hb); (try clear hb2); (try clear hk); (try clear hi); (try clear ho0); obtain ⟨Ao51, co51, eo51⟩ := Kd.R_slice HO110.out; subst eo51; obtain ⟨Ao52, co52, eo52⟩ := Kd.V_slice HO117.out; subst eo52) | ((with_reducible refine gate_callee (f := 20) rfl ?_); refine goesL_ (some 58) rfl rfl Try.func20 (by kernel_rfl) rfl #[.slice Ao51 t107.length co51, .slice Ao52 t115.length co52] rfl (by (try simp only [List.map_toArray, List.map_cons, List.map_nil]); first | done | rfl | (simp only [List.length_drop, List.length_take]; rfl)) ?_; (with_reducible refine (paronymref01_Same.calls kj14 _ _ t107 _ _ t115 true _ ?side1 ?side2 ?side3 ?side4 A23.out).mono ?_); (case side1 => repeat (first | exact (Kd.R_reads' HO110.out).2.2 | (with_reducible refine Kd.C_alloc ?_ _) | (with_reducible refine Kd.C_drewN ?_ _) | (with_reducible refine Kd.C_drew ?_))); (case side2 => exact (Kd.R_reads' HO110.out).2.1); (case side3 => repeat (first | exact (Kd.V_reads' HO117.out).2.2 | (with_reducible refine Kd.C_alloc ?_ _) | (with_reducible refine Kd.C_drewN ?_ _) | (with_reducible refine Kd.C_drew ?_))); (case side4 => exact (Kd.V_reads' HO117.out).2.1); rintro e w' ⟨rfl, ⟨nd, rfl⟩⟩; refine ⟨_, rfl, ?_⟩))
                go_ret
                exact ⟨by first | rfl | (simp [errW_none, errW_some] <;> rfl) | (simp [*, errW_none, errW_some] <;> rfl), by repeat (first | (with_reducible first | exact HB.out | apply below_alloc | apply pw_below_drewN | apply below_drew1) | exact HB.out)⟩
            · replace c24 := Bool.eq_false_iff.mpr c24
              subst c24
              have H1 : (some false) = some r := by rw [if_neg (show ¬ (false = true) by decide)] at H; exact H
              clear H
              have H := H1
              clear H1
              obtain rfl := Option.some.inj H
              go_wp2_with (first | ((with_reducible refine gate_callee (f := 17) rfl ?_); refine goesL_ (some 40) rfl rfl Try.func17 (by kernel_rfl) rfl #[.slice A0 l0.length c0, .slice A1 l1.length c1, .int .i64 (wrap64 (Int.tmod a2 5))] rfl (by (try simp only [List.map_toArray, List.map_cons, List.map_nil]); first | done | rfl | (simp only [List.length_drop, List.length_take]; rfl)) ?_; (with_reducible refine (order_Next.calls kj14 _ _ l0 _ _ l1 (wrap64 (Int.tmod a2 5)) t107 t108 _ ?side1 ?side2 ?side3 ?side4 A19.out).mono ?_); (case side1 => repeat (first | exact (Kd.C_below HR0.out HB.out) | (with_reducible refine Kd.C_alloc ?_ _) | (with_reducible refine Kd.C_drewN ?_ _) | (with_reducible refine Kd.C_drew ?_))); (case side2 => exact HC0.out); (case side3 => repeat (first | exact (Kd.C_below HR1.out HB.out) | (with_reducible refine Kd.C_alloc ?_ _) | (with_reducible refine Kd.C_drewN ?_ _) | (with_reducible refine Kd.C_drew ?_))); (case side4 => exact HC1.out); rintro e w53 ⟨v109, rfl, ho0, hb⟩; refine ⟨_, rfl, ?_⟩; have n0_ := Aside0.mk (Kd.N_elder' (by (with_reducible repeat (first | apply Kd.N_alloc | apply Kd.N_drewN | apply Kd.N_drew)); exact HO_8.out) (Kd.R_base ho0) hb); have n1_ := Aside0.mk (Kd.R_lower ho0 (below_size (by repeat (first | (with_reducible first | exact HB.out | apply below_alloc | apply pw_below_drewN | apply below_drew1) | exact HB.out)))); have n2_ := Aside0.mk (below_step (by repeat (first | (with_reducible first | exact HB.out | apply below_alloc | apply pw_below_drewN | apply below_drew1) | exact HB.out)) hb); clear HO_8; clear HB; have HO_8 := n0_; have HO110 := n1_; have HB := n2_; clear n0_ n1_ n2_; (try clear hb); (try clear hb2); (try clear hk); (try clear hi); (try clear ho0)) | ((with_reducible refine gate_callee (f := 18) rfl ?_); refine goesL_ (some 47) rfl rfl Try.func18 (by kernel_rfl) rfl #[.slice A0 l0.length c0, .slice A1 l1.length c1, .int .i64 (wrap64 (Int.tmod a2 5))] rfl (by (try simp only [List.map_toArray, List.map_cons, List.map_nil]); first | done | rfl | (simp only [List.length_drop, List.length_take]; rfl)) ?_; (with_reducible refine (order_Skip.calls kj14 _ _ l0 _ _ l1 (wrap64 (Int.tmod a2 5)) t111 t112 _ ?side1 ?side2 ?side3 ?side4 A20.out).mono ?_); (case side1 => repeat (first | exact (Kd.C_below HR0.out HB.out) | (with_reducible refine Kd.C_alloc ?_ _) | (with_reducible refine Kd.C_drewN ?_ _) | (with_reducible refine Kd.C_drew ?_))); (case side2 => exact HC0.out); (case side3 => repeat (first | exact (Kd.C_below HR1.out HB.out) | (with_reducible refine Kd.C_alloc ?_ _) | (with_reducible refine Kd.C_drewN ?_ _) | (with_reducible refine Kd.C_drew ?_))); (case side4 => exact HC1.out); rintro e w54 ⟨v113, rfl, ho0, hb⟩; refine ⟨_, rfl, ?_⟩; have n0_ := Aside0.mk (Kd.N_elder' (by (with_reducible repeat (first | apply Kd.N_alloc | apply Kd.N_drewN | apply Kd.N_drew)); exact HO_8.out) (Kd.R_base ho0) hb); have n1_ := Aside0.mk (Kd.R_elder' (by (with_reducible repeat (first | apply Kd.R_alloc | apply Kd.R_drewN | apply Kd.R_drew)); exact HO110.out) (Kd.R_base ho0) hb); have n2_ := Aside0.mk (Kd.R_lower (Kd.R_new' ho0 (Kd.R_lt (by (with_reducible repeat (first | apply Kd.R_alloc | apply Kd.R_drewN | apply Kd.R_drew)); exact HO110.out))) (below_size (by repeat (first | (with_reducible first | exact HB.out | apply below_alloc | apply pw_below_drewN | apply below_drew1) | exact HB.out)))); have n3_ := Aside0.mk (below_step (by repeat (first | (with_reducible first | exact HB.out | apply below_alloc | apply pw_below_drewN | apply below_drew1) | exact HB.out)) hb); clear HO_8; clear HO110; clear HB; have HO_8 := n0_; have HO110 := n1_; have HO114 := n2_; have HB := n3_; clear n0_ n1_ n2_ n3_; (try clear hb); (try clear hb2); (try clear hk); (try clear hi); (try clear ho0); obtain ⟨Ao55, co55, eo55⟩ := Kd.N_slice HO_8.out; subst eo55) | ((with_reducible refine gate_callee (f := 19) rfl ?_); refine goesL_ (some 52) rfl rfl Try.func19 (by kernel_rfl) rfl #[.slice Ao55 x8_14.length co55, .slice A1 l1.length c1, .bool false] rfl (by (try simp only [List.map_toArray, List.map_cons, List.map_nil]); first | done | rfl | (simp only [List.length_drop, List.length_take]; rfl)) ?_; (with_reducible refine (paronymref19_Behind.calls kj14 (fun k_ => ((True ∧ some k_ ≠ (v109 : Value).ownBlock) ∧ some k_ ≠ (v113 : Value).ownBlock)) _ _ x8_14 _ _ l1 false t115 _ ?side1 ?side2 ?side3 A21.out).mono ?_); (case side1 => exact Kd.N_V (HO_8.out)); (case side2 => repeat (first | exact (Kd.C_below HR1.out HB.out) | (with_reducible refine Kd.C_alloc ?_ _) | (with_reducible refine Kd.C_drewN ?_ _) | (with_reducible refine Kd.C_drew ?_))); (case side3 => exact HC1.out); rintro e w56 ⟨v116, rfl, ho0, hb⟩; refine ⟨_, rfl, ?_⟩; have n0_ := Aside0.mk (Kd.N_below (by (with_reducible repeat (first | apply Kd.N_alloc | apply Kd.N_drewN | apply Kd.N_drew)); exact HO_8.out) hb); have n1_ := Aside0.mk (Kd.R_below (by (with_reducible repeat (first | apply Kd.R_alloc | apply Kd.R_drewN | apply Kd.R_drew)); exact HO110.out) hb); have n2_ := Aside0.mk (Kd.R_below (by (with_reducible repeat (first | apply Kd.R_alloc | apply Kd.R_drewN | apply Kd.R_drew)); exact HO114.out) hb); have n3_ := Aside0.mk (Kd.V_lower (Kd.V_mono (ok' := fun k_ => some k_ ≠ (v109 : Value).ownBlock ∧ some k_ ≠ (v113 : Value).ownBlock) ho0 (fun k_ hk_ => ⟨Or.elim hk_ (fun hs_ => hs_.1.2) (fun hn_ => (Kd.fresh' (Kd.R_lt (by (with_reducible repeat (first | apply Kd.R_alloc | apply Kd.R_drewN | apply Kd.R_drew)); exact HO110.out)) k_ hn_)), Or.elim hk_ (fun hs_ => hs_.2) (fun hn_ => (Kd.fresh' (Kd.R_lt (by (with_reducible repeat (first | apply Kd.R_alloc | apply Kd.R_drewN | apply Kd.R_drew)); exact HO114.out)) k_ hn_))⟩)) (below_size (by repeat (first | (with_reducible first | exact HB.out | apply below_alloc | apply pw_below_drewN | apply below_drew1) | exact HB.out)))); have n4_ := Aside0.mk (below_step (by repeat (first | (with_reducible first | exact HB.out | apply below_alloc | apply pw_below_drewN | apply below_drew1) | exact HB.out)) hb); clear HO_8; clear HO110; clear HO114; clear HB; have HO_8 := n0_; have HO110 := n1_; have HO114 := n2_; have HO117 := n3_; have HB := n4_; clear n0_ n1_ n2_ n3_ n4_; (try clear hb); (try clear hb2); (try clear hk); (try clear hi); (try clear ho0)) | ((with_reducible refine gate_callee (f := 19) rfl ?_); refine goesL_ (some 55) rfl rfl Try.func19 (by kernel_rfl) rfl #[.slice Ao55 x8_14.length co55, .slice A1 l1.length c1, .bool true] rfl (by (try simp only [List.map_toArray, List.map_cons, List.map_nil]); first | done | rfl | (simp only [List.length_drop, List.length_take]; rfl)) ?_; (with_reducible refine (paronymref19_Behind.calls kj14 (fun k_ => ((True ∧ some k_ ≠ (v109 : Value).ownBlock) ∧ some k_ ≠ (v113 : Value).ownBlock)) _ _ x8_14 _ _ l1 true t118 _ ?side1 ?side2 ?side3 A22.out).mono ?_); (case side1 => exact Kd.N_V (HO_8.out)); (case side2 => repeat (first | exact (Kd.C_below HR1.out HB.out) | (with_reducible refine Kd.C_alloc ?_ _) | (with_reducible refine Kd.C_drewN ?_ _) | (with_reducible refine Kd.C_drew ?_))); (case side3 => exact HC1.out); rintro e w57 ⟨v119, rfl, ho0, hb⟩; refine ⟨_, rfl, ?_⟩; have n0_ := Aside0.mk (Kd.N_below (by (with_reducible repeat (first | apply Kd.N_alloc | apply Kd.N_drewN | apply Kd.N_drew)); exact HO_8.out) hb); have n1_ := Aside0.mk (Kd.R_below (by (with_reducible repeat (first | apply Kd.R_alloc | apply Kd.R_drewN | apply Kd.R_drew)); exact HO110.out) hb); have n2_ := Aside0.mk (Kd.R_below (by (with_reducible repeat (first | apply Kd.R_alloc | apply Kd.R_drewN | apply Kd.R_drew)); exact HO114.out) hb); have n3_ := Aside0.mk (Kd.V_below (by (with_reducible repeat (first | apply Kd.V_alloc | apply Kd.V_drewN | apply Kd.V_drew)); exact HO117.out) hb); have n4_ := Aside0.mk (Kd.V_lower (Kd.V_mono (ok' := fun k_ => some k_ ≠ (v109 : Value).ownBlock ∧ some k_ ≠ (v113 : Value).ownBlock) ho0 (fun k_ hk_ => ⟨Or.elim hk_ (fun hs_ => hs_.1.2) (fun hn_ => (Kd.fresh' (Kd.R_lt (by (with_reducible repeat (first | apply Kd.R_alloc | apply Kd.R_drewN | apply Kd.R_drew)); exact HO110.out)) k_ hn_)), Or.elim hk_ (fun hs_ => hs_.2) (fun hn_ => (Kd.fresh' (Kd.R_lt (by (with_reducible repeat (first | apply Kd.R_alloc | apply Kd.R_drewN | apply Kd.R_drew)); exact HO114.out)) k_ hn_))⟩)) (below_size (by repeat (first | (with_reducible first | exact HB.out | apply below_alloc | apply pw_below_drewN | apply below_drew1) | exact HB.out)))); have n5_ := Aside0.mk (below_step (by repeat (first | (with_reducible first | exact HB.out | apply below_alloc | apply pw_below_drewN | apply below_drew1) | exact HB.out)) hb); clear HO_8; clear HO110; clear HO114; clear HO117; clear HB; have HO_8 := n0_; have HO110 := n1_; have HO114 := n2_; have HO117 := n3_; have HO120 := n4_; have HB := n5_; clear n0_ n1_ n2_ n3_ n4_ n5_; (try clear hb); (try clear hb2); (try clear hk); (try clear hi); (try clear ho0); obtain ⟨Ao58, co58, eo58⟩ := Kd.R_slice HO110.out; subst eo58; obtain ⟨Ao59, co59, eo59⟩ := Kd.V_slice HO117.out; subst eo59) | ((with_reducible refine gate_callee (f := 20) rfl ?_); refine goesL_ (some 58) rfl rfl Try.func20 (by kernel_rfl) rfl #[.slice Ao58 t107.length co58, .slice Ao59 t115.length co59] rfl (by (try simp only [List.map_toArray, List.map_cons, List.map_nil]); first | done | rfl | (simp only [List.length_drop, List.length_take]; rfl)) ?_; (with_reducible refine (paronymref01_Same.calls kj14 _ _ t107 _ _ t115 false _ ?side1 ?side2 ?side3 ?side4 A23.out).mono ?_); (case side1 => repeat (first | exact (Kd.R_reads' HO110.out).2.2 | (with_reducible refine Kd.C_alloc ?_ _) | (with_reducible refine Kd.C_drewN ?_ _) | (with_reducible refine Kd.C_drew ?_))); (case side2 => exact (Kd.R_reads' HO110.out).2.1); (case side3 => repeat (first | exact (Kd.V_reads' HO117.out).2.2 | (with_reducible refine Kd.C_alloc ?_ _) | (with_reducible refine Kd.C_drewN ?_ _) | (with_reducible refine Kd.C_drew ?_))); (case side4 => exact (Kd.V_reads' HO117.out).2.1); rintro e w' ⟨rfl, ⟨nd, rfl⟩⟩; refine ⟨_, rfl, ?_⟩))
              go_ret
              exact ⟨by first | rfl | (simp [errW_none, errW_some] <;> rfl) | (simp [*, errW_none, errW_some] <;> rfl), by repeat (first | (with_reducible first | exact HB.out | apply below_alloc | apply pw_below_drewN | apply below_drew1) | exact HB.out)⟩

/-- THE ONE PURE STATEMENT of paronymlaw19_OrderBehind: yours. -/
def paronymlaw19_OrderBehind.Pure : Prop := ∀ (l0 : List Int) (l1 : List Int) (a2 : Int), l0.length ≤ maxLen → l0.length * 8 ≤ 140737488351232 → (∀ x ∈ l0, (Lit.int .i64 x).wf = true) → l1.length ≤ maxLen → l1.length * 8 ≤ 140737488351232 → (∀ x ∈ l1, (Lit.int .i64 x).wf = true) → (Lit.int .u8 a2).wf = true → ∃ k, paronymlaw19_OrderBehind.f k l0 l1 a2 = some true
theorem paronymlaw19_OrderBehind.walk (P : paronymlaw19_OrderBehind.Pure) (a0 : Option Addr) (len0 cap0 : Nat) (z0 : List Int) (a1 : Option Addr) (len1 cap1 : Nat) (z1 : List Int) (a2 : Int) (w : World) (w0 : (a0 = none ∧ len0 = 0 ∧ cap0 = 0 ∧ z0 = []) ∨ ∃ x, a0 = some x ∧ len0 ≤ cap0 ∧ cap0 ≤ maxLen ∧ z0.length = cap0 ∧ (∀ i, i < z0.length → w.cell? (x.add i) = some (.int .i64 (z0.getD i 0))) ∧ ∀ n ∈ z0, (Lit.int .i64 n).wf = true) (y0 : len0 * 8 ≤ 140737488351232) (w1 : (a1 = none ∧ len1 = 0 ∧ cap1 = 0 ∧ z1 = []) ∨ ∃ x, a1 = some x ∧ len1 ≤ cap1 ∧ cap1 ≤ maxLen ∧ z1.length = cap1 ∧ (∀ i, i < z1.length → w.cell? (x.add i) = some (.int .i64 (z1.getD i 0))) ∧ ∀ n ∈ z1, (Lit.int .i64 n).wf = true) (y1 : len1 * 8 ≤ 140737488351232) (w2 : (Lit.int .u8 a2).wf = true) :
    Calls Try.prog 3 #[.slice a0 len0 cap0, .slice a1 len1 cap1, .int .u8 a2] w fun e w' => e = .returned (.bool true) ∧ Below w.heap.size w w' := by
  obtain ⟨l0, rfl, hr0, hm0, hw0, hc0⟩ := ReadsInt.ofRowC w0
  obtain ⟨l1, rfl, hr1, hm1, hw1, hc1⟩ := ReadsInt.ofRowC w1
  obtain ⟨k, h⟩ := P l0 l1 a2 hm0 y0 hw0 hm1 y1 hw1 w2
  refine (paronymlaw19_OrderBehind.calls k _ _ l0 _ _ l1 a2 true w (Kd.C_of_reads (d := (0 : Int)) (h1 := fun _ => rfl) hr0) hc0 (Kd.C_of_reads (d := (0 : Int)) (h1 := fun _ => rfl) hr1) hc1 h).mono ?_
  rintro e w' ⟨rfl, hd⟩
  exact ⟨rfl, hd⟩

end Go.Proofs.Ytlipbiihemhieaa.Q

-- from Pcmp
/- Texts compared: the reference's Compare and Same on lists. -/
namespace Go.Proofs.Ytlipbiihemhieaa.K
set_option linter.unusedVariables false
set_option linter.unusedSimpArgs false
open Go.RowKit Go.Proofs.YtlipbiihemhieaaW.PrintWords Go.Proofs.YtlipbiihemhieaaW.PrintMore Go.Proofs.Ytlipbiihemhieaa.Q

def cmpL : List Int → List Int → Int
  | [], [] => 0
  | [], _ :: _ => -1
  | _ :: _, [] => 1
  | x :: l, y :: m => if x < y then -1 else if x > y then 1 else cmpL l m
theorem cmpL_zero : ∀ (l m : List Int), cmpL l m = 0 ↔ l = m
  | [], [] => by simp [cmpL]
  | [], _ :: _ => by simp [cmpL]
  | _ :: _, [] => by simp [cmpL]
  | x :: l, y :: m => by
    unfold cmpL
    by_cases a : x < y
    · rw [if_pos a]; simp; omega
    · rw [if_neg a]
      by_cases b : x > y
      · rw [if_pos b]; simp; omega
      · rw [if_neg b, cmpL_zero l m]
        have : x = y := by omega
        simp [this]
theorem refCompare_ev (l m : List Int) (hl : l.length ≤ 1099511627776) (hm : m.length ≤ 1099511627776) : Ev (fun k => paronymref01_Compare.f k l m) (cmpL l m) := by
  have key : ∀ (d i : Nat), l.length - i = d → i ≤ l.length → i ≤ m.length → Ev (fun k => paronymref01_Compare.l0 k l m i) (cmpL (l.drop i) (m.drop i)) := by
    have hend : ∀ i : Nat, i ≤ l.length → i ≤ m.length → (i = l.length ∨ i = m.length) → ∀ b : Bool, b = false → Ev (fun k => paronymref01_Compare.j1 k l m i b) (cmpL (l.drop i) (m.drop i)) := by
      intro i h1 h2 h3 b hb
      refine Ev.step (fun k => rfl) (Ev.neg (by simp [hb]) ?_)
      by_cases a : l.length < m.length
      · have e : i = l.length := by omega
        subst e
        rw [List.drop_length, drop_cons m l.length a]
        exact Ev.pos (by omega) (Ev.ret (by simp [cmpL]))
      · by_cases b : m.length < l.length
        · have e : i = m.length := by omega
          subst e
          rw [List.drop_length, drop_cons l m.length b]
          exact Ev.neg (by omega) (Ev.pos (by omega) (Ev.ret (by simp [cmpL])))
        · have e : i = l.length := by omega
          have e2 : i = m.length := by omega
          rw [List.drop_of_length_le (by omega), List.drop_of_length_le (by omega)]
          exact Ev.neg (by omega) (Ev.neg (by omega) (Ev.ret (by simp [cmpL])))
    intro d
    induction d with
    | zero =>
      intro i h1 h2 h3
      exact Ev.step (fun k => rfl) (Ev.neg (by omega) (hend i h2 h3 (.inl (by omega)) false rfl))
    | succ d ih =>
      intro i h1 h2 h3
      have hi : i < l.length := by omega
      refine Ev.step (fun k => rfl) (Ev.pos (by omega) ?_)
      by_cases a : i < m.length
      · have e : decide ((i : Int) < (m.length : Int)) = true := by simpa using a
        refine Ev.step (fun k => rfl) (Ev.pos e (Ev.pos (by omega) (Ev.pos (by omega) (Ev.pos (by omega) ?_))))
        rw [drop_cons l i hi, drop_cons m i a]
        unfold cmpL
        by_cases b : rd l i < rd m i
        · exact Ev.pos b (Ev.ret (if_pos b).symm)
        · refine Ev.neg b ?_
          rw [show (if rd l i < rd m i then (-1 : Int) else if rd l i > rd m i then 1 else cmpL (l.drop (i + 1)) (m.drop (i + 1))) = (if rd l i > rd m i then 1 else cmpL (l.drop (i + 1)) (m.drop (i + 1))) from if_neg b]
          by_cases c : rd l i > rd m i
          · exact Ev.pos c (Ev.ret (if_pos c).symm)
          · rw [show (if rd l i > rd m i then (1 : Int) else cmpL (l.drop (i + 1)) (m.drop (i + 1))) = cmpL (l.drop (i + 1)) (m.drop (i + 1)) from if_neg c]
            refine Ev.neg c ?_
            rw [w64 (by omega) (by omega)]
            exact ih (i + 1) (by omega) (by omega) (by omega)
      · have e : decide ((i : Int) < (m.length : Int)) = false := by simpa using a
        exact hend i h2 h3 (.inr (by omega)) _ e
  have := key l.length 0 (by omega) (by omega) (by omega)
  unfold paronymref01_Compare.f
  simpa using this
theorem refSame_ev (l m : List Int) (hl : l.length ≤ 1099511627776) (hm : m.length ≤ 1099511627776) : Ev (fun k => paronymref01_Same.f k l m) (decide (l = m)) := by
  unfold paronymref01_Same.f
  refine Ev.bind (refCompare_ev l m hl hm) (Ev.ret ?_)
  rw [Bool.eq_iff_iff]
  simp [cmpL_zero]

end Go.Proofs.Ytlipbiihemhieaa.K

-- from Pord2
/- Layer 19 on lists: over, Skip, Next, First. -/
namespace Go.Proofs.Ytlipbiihemhieaa.K
set_option linter.unusedVariables false
set_option linter.unusedSimpArgs false
open Go.RowKit Go.Proofs.YtlipbiihemhieaaW.PrintWords Go.Proofs.YtlipbiihemhieaaW.PrintMore Go.Proofs.Ytlipbiihemhieaa.Q

/-! one of a list -/
theorem contains_ev2 {l : List Int} (hl : l.length ≤ 1099511627776) (x : Int) : Ev (fun k => slices_Contains_int_int.f k l x) (decide (x ∈ l)) := by
  have key : ∀ (d i : Nat), l.length - i = d → i ≤ l.length → (∀ a : Nat, a < i → rd l (a : Int) ≠ x) → ∃ r : Int, (r ≥ 0 ↔ x ∈ l) ∧ Ev (fun k => slices_Index_int_int.l0 k l x l.length i) r := by
    intro d
    induction d with
    | zero =>
      intro i h1 h2 h3
      refine ⟨-1, ⟨fun h => by omega, fun h => ?_⟩, Ev.step (fun k => rfl) (Ev.neg (by omega) (Ev.now _))⟩
      obtain ⟨a, ha, he⟩ := List.getElem_of_mem h
      exact absurd (by rw [rd_nat l a ha]; exact he) (h3 a (by omega))
    | succ d ih =>
      intro i h1 h2 h3
      have hi : i < l.length := by omega
      by_cases c : x = rd l (i : Int)
      · refine ⟨(i : Int), ⟨fun _ => ?_, fun _ => by omega⟩, Ev.step (fun k => rfl) (Ev.pos (by omega) (Ev.pos (by omega) (Ev.pos (by omega) (Ev.pos c (Ev.now _)))))⟩
        rw [c]; exact rd_mem (by omega) (by omega)
      · obtain ⟨r, hr, he⟩ := ih (i + 1) (by omega) (by omega) (fun a ha => by
          by_cases e : a = i
          · rw [e]; exact fun h => c h.symm
          · exact h3 a (by omega))
        refine ⟨r, hr, Ev.step (fun k => rfl) (Ev.pos (by omega) (Ev.pos (by omega) (Ev.pos (by omega) (Ev.neg c ?_))))⟩
        rw [w64 (by omega) (by omega)]
        exact he
  obtain ⟨r, hr, he⟩ := key l.length 0 (by omega) (by omega) (fun a ha => by omega)
  unfold slices_Contains_int_int.f slices_Index_int_int.f
  exact Ev.bind he (Ev.ret (decide_eq_decide.2 hr))
/-- A text over an alphabet. -/
def Over (l s : List Int) (n : Int) : Prop := riseTo l l.length ∧ 1 ≤ s.length ∧ (s.length : Int) ≤ n ∧ ∀ x ∈ s, x ∈ l
theorem over_ev {l s : List Int} {n : Int} (hl : l.length ≤ 1099511627776) (hs : s.length ≤ 1099511627776) : ∃ b : Bool, (b = true ↔ Over l s n) ∧ Ev (fun k => order_over.f k l s n) b := by
  have hst : ∀ x, Ev (fun k => order_over.strange k l x) (!decide (x ∈ l)) := fun x => by
    unfold order_over.strange
    exact Ev.bind (contains_ev2 hl x) (Ev.ret rfl)
  have key : ∀ (d i : Nat), s.length - i = d → i ≤ s.length → (∀ a : Nat, a < i → rd s (a : Int) ∈ l) → ∃ r : Int, (r ≥ 0 ↔ ¬ ∀ x ∈ s, x ∈ l) ∧ Ev (fun k => order_over.l0 k l s s.length i) r := by
    intro d
    induction d with
    | zero =>
      intro i h1 h2 h3
      refine ⟨-1, ⟨fun h => by omega, fun h => absurd (fun x hx => ?_) h⟩, Ev.step (fun k => rfl) (Ev.neg (by omega) (Ev.now _))⟩
      obtain ⟨a, ha, he⟩ := List.getElem_of_mem hx
      have := h3 a (by omega)
      rw [rd_nat s a ha, he] at this
      exact this
    | succ d ih =>
      intro i h1 h2 h3
      have hi : i < s.length := by omega
      by_cases c : rd s (i : Int) ∈ l
      · obtain ⟨r, hr, he⟩ := ih (i + 1) (by omega) (by omega) (fun a ha => by
          by_cases e : a = i
          · rw [e]; exact c
          · exact h3 a (by omega))
        refine ⟨r, hr, Ev.step (fun k => rfl) (Ev.pos (by omega) (Ev.pos (by omega) (Ev.pos (by omega) (Ev.bind (hst _) (Ev.neg (by simp [c]) ?_)))))⟩
        rw [w64 (by omega) (by omega)]
        exact he
      · refine ⟨(i : Int), ⟨fun _ h => c (h _ (rd_mem (by omega) (by omega))), fun _ => by omega⟩, Ev.step (fun k => rfl) (Ev.pos (by omega) (Ev.pos (by omega) (Ev.pos (by omega) (Ev.bind (hst _) (Ev.pos (by simp [c]) (Ev.now _))))))⟩
  obtain ⟨r, hr, he⟩ := key s.length 0 (by omega) (by omega) (fun a ha => by omega)
  obtain ⟨a, ha, hae⟩ := Alphabet_ev hl
  unfold order_over.f order_over.any
  refine ⟨a && (decide ((s.length : Int) ≥ 1) && (decide ((s.length : Int) ≤ n) && !decide (r ≥ 0))), ?_, Ev.bind (Ev.bind he (Ev.now _)) (Ev.bind hae (Ev.now _))⟩
  simp only [Bool.and_eq_true, Bool.not_eq_true', decide_eq_true_eq, decide_eq_false_iff_not, ha]
  unfold Over
  have hr' : ¬ r ≥ 0 ↔ ∀ x ∈ s, x ∈ l := by
    constructor
    · intro h
      apply Classical.byContradiction
      intro hn
      exact h (hr.2 hn)
    · intro h hn
      exact hr.1 hn h
  rw [hr']
  constructor
  · rintro ⟨h1, h2, h3, h4⟩
    exact ⟨h1, by omega, h3, h4⟩
  · rintro ⟨h1, h2, h3, h4⟩
    exact ⟨h1, by omega, h3, h4⟩

/-! where a number stands -/
theorem less_is (a b : Int) : cmp_Less_int.f a b = some (decide (a < b)) := by
  unfold cmp_Less_int.f cmp_isNaN_int.f
  have : (a != a) = false := by simp
  rw [this]
  rfl
theorem search_ev {l : List Int} (hl : l.length ≤ 1000000) (hr : riseTo l l.length) (i : Nat) (hi : i < l.length) : Ev (fun k => slices_BinarySearch_int_int.f k l (rd l (i : Int))) ((i : Int), true) := by
  have key : ∀ (d lo hi' : Nat), hi' - lo = d → lo ≤ i → i ≤ hi' → hi' ≤ l.length → Ev (fun k => slices_BinarySearch_int_int.l0 k l (rd l (i : Int)) l.length (lo : Int) (hi' : Int)) ((i : Int), true) := by
    intro d
    induction d using Nat.strongRecOn with
    | ind d ih =>
      intro lo hi' h1 h2 h3 h4
      by_cases c : lo < hi'
      · have eh : wrap64 ((IntKind.u64.wrap (wrap64 ((lo : Int) + (hi' : Int)))) / 2) = (((lo + hi') / 2 : Nat) : Int) := by
          rw [w64 (n := (lo : Int) + hi') (by omega) (by omega)]
          have : IntKind.u64.wrap ((lo : Int) + (hi' : Int)) = (lo : Int) + hi' := by
            simp only [IntKind.wrap, IntKind.bits, IntKind.signed]
            simp
            omega
          rw [this, w64 (by omega) (by omega)]
          omega
        have hm : (lo + hi') / 2 < hi' := by omega
        refine Ev.step (fun k => rfl) (Ev.pos (by omega) ?_)
        rw [eh]
        refine Ev.pos (by omega) (Ev.pos (by omega) (Ev.bindS (less_is _ _) ?_))
        by_cases c2 : rd l (((lo + hi') / 2 : Nat) : Int) < rd l (i : Int)
        · refine Ev.pos (decide_eq_true c2) ?_
          rw [w64 (n := (((lo + hi') / 2 : Nat) : Int) + 1) (by omega) (by omega)]
          have : (lo + hi') / 2 < i := by
            apply Classical.byContradiction
            intro hn
            by_cases e : i = (lo + hi') / 2
            · rw [e] at c2; omega
            · have := hr i ((lo + hi') / 2) (by omega) (by omega)
              omega
          exact ih (hi' - ((lo + hi') / 2 + 1)) (by omega) ((lo + hi') / 2 + 1) hi' rfl (by omega) h3 h4
        · refine Ev.neg (by simpa using c2) ?_
          have : i ≤ (lo + hi') / 2 := by
            apply Classical.byContradiction
            intro hn
            exact c2 (hr ((lo + hi') / 2) i (by omega) hi)
          exact ih ((lo + hi') / 2 - lo) (by omega) lo ((lo + hi') / 2) rfl h2 this (by omega)
      · have e1 : lo = i := by omega
        subst e1
        exact Ev.step (fun k => rfl) (Ev.neg (by omega) (Ev.pos (by omega) (Ev.pos (by omega) (Ev.pos (by omega) (Ev.pos rfl (Ev.now _))))))
  exact key l.length 0 l.length (by omega) (by omega) (by omega) (Nat.le_refl _)

/-! the first text that another one does not begin -/
def skipR (l : List Int) : List Int → Option (List Int)
  | [] => none
  | c :: r => if l.idxOf c + 1 < l.length then some ((rd l ((l.idxOf c + 1 : Nat) : Int) :: r).reverse) else skipR l r
def told : Option (List Int) → List Int × Bool
  | none => ([], false)
  | some t => (t, true)
theorem rd_idxOf {l : List Int} {c : Int} (h : c ∈ l) : l.idxOf c < l.length ∧ rd l ((l.idxOf c : Nat) : Int) = c := by
  have h1 := List.idxOf_lt_length_of_mem h
  refine ⟨h1, ?_⟩
  rw [rd_nat l _ h1]
  exact List.getElem_idxOf h1
theorem skip_ev {l : List Int} (hl : l.length ≤ 1000000) (hr : riseTo l l.length) : ∀ (r : List Int), r.length ≤ 1000000 → (∀ x ∈ r, x ∈ l) → Ev (fun k => order_Skip.l0 k l r.reverse) (told (skipR l r))
  | [], _, _ => Ev.step (fun k => rfl) (Ev.neg (by simp) (Ev.now _))
  | c :: r, hlen, hm => by
    rw [List.length_cons] at hlen
    have hc := rd_idxOf (hm c List.mem_cons_self)
    have hlr : ((c :: r).reverse.length : Int) = (r.length : Int) + 1 := by simp
    have e1 : wrap64 (((c :: r).reverse.length : Int) - 1) = (r.length : Int) := by rw [hlr, w64 (by omega) (by omega)]; omega
    have e2 : rd (c :: r).reverse (r.length : Int) = rd l ((l.idxOf c : Nat) : Int) := by
      rw [hc.2, List.reverse_cons, rd_append_right (by simp)]
      simp [rd]
    have hs := search_ev hl hr (l.idxOf c) hc.1
    have e3 : wrap64 (((l.idxOf c : Nat) : Int) + 1) = ((l.idxOf c + 1 : Nat) : Int) := w64 (by omega) (by omega)
    unfold skipR
    refine Ev.step (fun k => rfl) (Ev.pos (by rw [hlr]; omega) ?_)
    rw [e1]
    refine Ev.pos (by omega) (Ev.pos (by rw [hlr]; omega) ?_)
    rw [e2]
    refine Ev.bind hs ?_
    show Ev (fun k => if wrap64 (((l.idxOf c : Nat) : Int) + 1) < (l.length : Int) then (if 0 ≤ wrap64 (((l.idxOf c : Nat) : Int) + 1) then some ((c :: r).reverse.set (r.length : Int).toNat (rd l (wrap64 (((l.idxOf c : Nat) : Int) + 1))), true) else none) else (if (r.length : Int) ≤ ((c :: r).reverse.length : Int) then order_Skip.l0 k l ((c :: r).reverse.take (r.length : Int).toNat) else none)) _
    rw [e3]
    by_cases c1 : l.idxOf c + 1 < l.length
    · rw [if_pos c1]
      refine Ev.pos (by omega) (Ev.pos (by omega) (Ev.ret ?_))
      unfold told
      rw [Int.toNat_natCast, List.reverse_cons, List.reverse_cons]
      have : (r.reverse ++ [c]).set r.length (rd l ((l.idxOf c + 1 : Nat) : Int)) = r.reverse ++ [rd l ((l.idxOf c + 1 : Nat) : Int)] := by
        rw [List.set_append_right _ _ (by simp)]
        simp
      rw [this]
    · rw [if_neg c1]
      refine Ev.neg (by omega) (Ev.pos (by rw [hlr]; omega) ?_)
      have : (c :: r).reverse.take (r.length : Int).toNat = r.reverse := by
        rw [Int.toNat_natCast, List.reverse_cons, List.take_left' (by simp)]
      rw [this]
      exact skip_ev hl hr r (by omega) (fun x hx => hm x (List.mem_cons_of_mem _ hx))
theorem clone_is2 {s : List Int} (h : s.length ≤ 1000000) : slices_Clone_int_int.f s = some s := if_pos (by omega)
/-- Skip. -/
theorem Skip_ev {l s : List Int} {n : Int} (hl : l.length ≤ 1000000) (hs : s.length ≤ 1000000) : (Over l s n → Ev (fun k => order_Skip.f k l s n) (told (skipR l s.reverse))) ∧ (¬ Over l s n → Ev (fun k => order_Skip.f k l s n) ([], false)) := by
  obtain ⟨b, hb, he⟩ := over_ev (l := l) (s := s) (n := n) (by omega) (by omega)
  unfold order_Skip.f
  constructor
  · intro h
    have e : b = true := hb.2 h
    have := skip_ev hl h.1 s.reverse (by simpa using hs) (fun x hx => h.2.2.2 x (List.mem_reverse.1 hx))
    rw [List.reverse_reverse] at this
    exact Ev.bind he (Ev.pos e (Ev.bindS (clone_is2 hs) this))
  · intro h
    exact Ev.bind he (Ev.neg (fun e => h (hb.1 e)) (Ev.now _))
/-- What Next tells of a text over the alphabet. -/
def nextL (l s : List Int) (n : Int) : Option (List Int) := if (s.length : Int) < n then some (s ++ [rd l 0]) else skipR l s.reverse
theorem Next_ev {l s : List Int} {n : Int} (hl : l.length ≤ 1000000) (hs : s.length ≤ 1000000) : (Over l s n → Ev (fun k => order_Next.f k l s n) (told (nextL l s n))) ∧ (¬ Over l s n → Ev (fun k => order_Next.f k l s n) ([], false)) := by
  obtain ⟨b, hb, he⟩ := over_ev (l := l) (s := s) (n := n) (by omega) (by omega)
  unfold order_Next.f nextL
  constructor
  · intro h
    have e : b = true := hb.2 h
    refine Ev.bind he (Ev.pos e ?_)
    by_cases c : (s.length : Int) < n
    · rw [if_pos c]
      have hne : 0 < l.length := by
        have h1 := h.2.1
        cases s with
        | nil => simp at h1
        | cons x t => exact List.length_pos_of_mem (h.2.2.2 x List.mem_cons_self)
      exact Ev.pos c (Ev.bindS (clone_is2 hs) (Ev.pos (by omega) (Ev.bindS rfl (Ev.pos (by simp; omega) (Ev.ret rfl)))))
    · rw [if_neg c]
      exact Ev.neg c (Ev.bind ((Skip_ev hl hs).1 h) (Ev.ret rfl))
  · intro h
    exact Ev.bind he (Ev.neg (fun e => h (hb.1 e)) (Ev.now _))
theorem First_ev {l : List Int} {n : Int} (hl : l.length ≤ 1000000) : (1 ≤ l.length → riseTo l l.length → 1 ≤ n → Ev (fun k => order_First.f k l n) ([rd l 0], true)) ∧ ((l.length = 0 ∨ ¬ riseTo l l.length ∨ n < 1) → Ev (fun k => order_First.f k l n) ([], false)) := by
  obtain ⟨b, hb, he⟩ := Alphabet_ev (l := l) (by omega)
  unfold order_First.f
  constructor
  · intro h1 h2 h3
    exact Ev.neg (by omega) (Ev.bind he (Ev.pos (hb.2 h2) (Ev.neg (by omega) (Ev.pos (by omega) (Ev.ret rfl)))))
  · intro h
    by_cases z : (l.length : Int) = 0
    · exact Ev.pos z (Ev.now _)
    · refine Ev.neg z (Ev.bind he ?_)
      by_cases c : b = true
      · refine Ev.pos c (Ev.pos ?_ (Ev.now _))
        rcases h with h | h | h
        · omega
        · exact absurd (hb.1 c) h
        · exact h
      · exact Ev.neg c (Ev.now _)

end Go.Proofs.Ytlipbiihemhieaa.K

-- from Pord3
/- Layer 19: all texts, as a tree; what stands behind each. -/
namespace Go.Proofs.Ytlipbiihemhieaa.K
set_option linter.unusedVariables false
set_option linter.unusedSimpArgs false
open Go.RowKit Go.Proofs.YtlipbiihemhieaaW.PrintWords Go.Proofs.YtlipbiihemhieaaW.PrintMore Go.Proofs.Ytlipbiihemhieaa.Q

/-- All texts that begin so, longer by at most m. -/
def T (l : List Int) : Nat → List Int → List (List Int)
  | 0, _ => []
  | m + 1, b => l.flatMap fun c => (b ++ [c]) :: T l m (b ++ [c])
def cntT (L : Nat) : Nat → Nat
  | 0 => 0
  | m + 1 => L * (1 + cntT L m)
theorem T_len (l : List Int) : ∀ (m : Nat) (b : List Int), (T l m b).length = cntT l.length m
  | 0, _ => rfl
  | m + 1, b => by
    have h : ∀ u : List Int, (u.flatMap fun c => (b ++ [c]) :: T l m (b ++ [c])).length = u.length * (1 + cntT l.length m) := by
      intro u
      induction u with
      | nil => simp
      | cons c u ih =>
        rw [List.flatMap_cons, List.length_append, ih, List.length_cons, T_len l m, List.length_cons, Nat.add_mul]
        omega
    unfold T cntT
    exact h l
theorem T_mem (l : List Int) : ∀ (m : Nat) (b s : List Int), s ∈ T l m b ↔ ∃ r, s = b ++ r ∧ 1 ≤ r.length ∧ r.length ≤ m ∧ ∀ x ∈ r, x ∈ l
  | 0, b, s => by
    constructor
    · intro h; simp [T] at h
    · rintro ⟨r, _, h1, h2, _⟩; omega
  | m + 1, b, s => by
    unfold T
    rw [List.mem_flatMap]
    constructor
    · rintro ⟨c, hc, h⟩
      rcases List.mem_cons.1 h with h | h
      · exact ⟨[c], h, by simp, by simp, fun x hx => by rw [List.mem_singleton.1 hx]; exact hc⟩
      · obtain ⟨r, h1, h2, h3, h4⟩ := (T_mem l m _ s).1 h
        refine ⟨c :: r, by rw [h1]; simp, by simp, by simp; omega, fun x hx => ?_⟩
        rcases List.mem_cons.1 hx with hx | hx
        · rw [hx]; exact hc
        · exact h4 x hx
    · rintro ⟨r, h1, h2, h3, h4⟩
      match r, h1, h2, h3, h4 with
      | [c], h1, _, _, h4 => exact ⟨c, h4 c (by simp), by rw [h1]; simp⟩
      | c :: d :: r, h1, _, h3, h4 =>
        refine ⟨c, h4 c (by simp), List.mem_cons_of_mem _ ((T_mem l m _ s).2 ⟨d :: r, by rw [h1]; simp, by simp, by simp at h3 ⊢; omega, fun x hx => h4 x (List.mem_cons_of_mem _ hx)⟩)⟩
theorem idxOf_app {c : Int} : ∀ (u v : List Int), c ∉ u → (u ++ c :: v).idxOf c = u.length
  | [], v, _ => by simp
  | x :: u, v, h => by
    have hx : x ≠ c := fun e => h (by rw [e]; exact List.mem_cons_self)
    have ih := idxOf_app u v (fun hh => h (List.mem_cons_of_mem _ hh))
    rw [List.cons_append, List.idxOf_cons, ih, beq_false_of_ne hx]
    rfl
theorem rise_split {l u v : List Int} {c : Int} (h : riseTo l l.length) (e : l = u ++ c :: v) : c ∉ u ∧ c ∉ v ∧ l.idxOf c = u.length ∧ ∀ x ∈ u, x < c := by
  have hc : rd l ((u.length : Nat) : Int) = c := by
    rw [e, rd_append_right (by omega), Int.sub_self]; rfl
  have hlen : l.length = u.length + (v.length + 1) := by rw [e]; simp
  have h1 : ∀ x ∈ u, x < c := fun x hx => by
    obtain ⟨a, ha, he⟩ := List.getElem_of_mem hx
    have := h a u.length ha (by omega)
    rw [hc, e, rd_append_left (by omega) (by omega), rd_nat u a ha, he] at this
    exact this
  have h2 : ∀ x ∈ v, c < x := fun x hx => by
    obtain ⟨a, ha, he⟩ := List.getElem_of_mem hx
    have := h u.length (u.length + 1 + a) (by omega) (by omega)
    rw [hc, e] at this
    rw [rd_append_right (by omega)] at this
    have e2 : ((u.length + 1 + a : Nat) : Int) - (u.length : Int) = ((a + 1 : Nat) : Int) := by omega
    rw [e2, rd_nat (c :: v) (a + 1) (by simp; omega)] at this
    simp at this
    rw [he] at this
    exact this
  have hu : c ∉ u := fun hh => by have := h1 c hh; omega
  refine ⟨hu, fun hh => (by have := h2 c hh; omega), ?_, h1⟩
  rw [e]
  exact idxOf_app u v hu
theorem skipR_append (l : List Int) (c : Int) : ∀ u : List Int, skipR l (u ++ [c]) = match skipR l u with | some t => some (c :: t) | none => skipR l [c]
  | [] => by simp [skipR]
  | x :: u => by
    rw [List.cons_append, skipR, skipR]
    by_cases h : l.idxOf x + 1 < l.length
    · rw [if_pos h, if_pos h]
      simp
    · rw [if_neg h, if_neg h]
      exact skipR_append l c u
/-- Where a text of the tree stands, and what stands behind it. -/
theorem T_split {l : List Int} (hr : riseTo l l.length) : ∀ (m : Nat) (b r : List Int), 1 ≤ r.length → r.length ≤ m → (∀ x ∈ r, x ∈ l) →
    ∃ pre post, T l m b = pre ++ (b ++ r) :: (T l (m - r.length) (b ++ r) ++ post) ∧ b ++ r ∉ pre ∧ b ++ r ∉ post ∧ post.head? = (skipR l r.reverse).map (fun t => b ++ t)
  | 0, b, r, h1, h2, _ => by omega
  | m + 1, b, r, h1, h2, h3 => by
    match r, h1, h2, h3 with
    | c :: r, _, h2, h3 =>
      obtain ⟨u, v, e⟩ := List.append_of_mem (h3 c List.mem_cons_self)
      obtain ⟨hu, hv, hix, hlt⟩ := rise_split hr e
      have hT : T l (m + 1) b = (u.flatMap fun c => (b ++ [c]) :: T l m (b ++ [c])) ++ ((b ++ [c]) :: T l m (b ++ [c]) ++ (v.flatMap fun c => (b ++ [c]) :: T l m (b ++ [c]))) := by
        conv => lhs; unfold T
        have : ∀ f : Int → List (List Int), l.flatMap f = u.flatMap f ++ (f c ++ v.flatMap f) := fun f => by rw [e]; simp
        rw [this]
      have notin : ∀ (w : List Int), c ∉ w → ∀ t : List Int, b ++ c :: t ∉ w.flatMap fun c => (b ++ [c]) :: T l m (b ++ [c]) := fun w hw t hh => by
        obtain ⟨x, hx, hh⟩ := List.mem_flatMap.1 hh
        have hxc : x ≠ c := fun e => hw (e ▸ hx)
        rcases List.mem_cons.1 hh with hh | hh
        · have := List.append_cancel_left hh
          simp at this
          exact hxc this.1.symm
        · obtain ⟨r', h1, _⟩ := (T_mem l m _ _).1 hh
          rw [List.append_assoc] at h1
          have := List.append_cancel_left h1
          simp at this
          exact hxc this.1.symm
      have hsk1 : skipR l [c] = if v = [] then none else some [v.headD 0] := by
        unfold skipR skipR
        rw [hix]
        have hlen : l.length = u.length + (v.length + 1) := by rw [e]; simp
        cases v with
        | nil => rw [if_neg (by simp at hlen; omega), if_pos rfl]
        | cons y v =>
          rw [if_pos (by simp at hlen; omega), if_neg (by simp)]
          have : rd l ((u.length + 1 : Nat) : Int) = y := by
            rw [e, rd_append_right (by omega)]
            have e2 : ((u.length + 1 : Nat) : Int) - (u.length : Int) = 1 := by omega
            rw [e2]
            rfl
          rw [this]
          rfl
      have hvh : (v.flatMap fun c => (b ++ [c]) :: T l m (b ++ [c])).head? = (skipR l [c]).map (fun t => b ++ t) := by
        rw [hsk1]
        cases v with
        | nil => simp
        | cons y v => simp
      match r, h2, h3 with
      | [], _, _ =>
        refine ⟨_, _, hT, ?_, ?_, ?_⟩
        · exact notin u hu []
        · exact notin v hv []
        · exact hvh
      | d :: r, h2, h3 =>
        obtain ⟨pre, post, q1, q2, q3, q4⟩ := T_split hr m (b ++ [c]) (d :: r) (by simp) (by simp at h2 ⊢; omega) (fun x hx => h3 x (List.mem_cons_of_mem _ hx))
        have eb : b ++ [c] ++ d :: r = b ++ c :: d :: r := by simp
        rw [eb] at q1 q2 q3
        have em : m + 1 - (c :: d :: r).length = m - (d :: r).length := by simp
        refine ⟨(u.flatMap fun c => (b ++ [c]) :: T l m (b ++ [c])) ++ (b ++ [c]) :: pre, post ++ (v.flatMap fun c => (b ++ [c]) :: T l m (b ++ [c])), ?_, ?_, ?_, ?_⟩
        · rw [hT, q1, em]
          simp
        · intro hh
          rcases List.mem_append.1 hh with hh | hh
          · exact notin u hu _ hh
          · rcases List.mem_cons.1 hh with hh | hh
            · have := List.append_cancel_left hh
              simp at this
            · exact q2 hh
        · intro hh
          rcases List.mem_append.1 hh with hh | hh
          · exact q3 hh
          · exact notin v hv _ hh
        · rw [List.head?_append, q4, hvh]
          have : (c :: d :: r).reverse = (d :: r).reverse ++ [c] := by simp
          rw [this, skipR_append]
          cases skipR l (d :: r).reverse with
          | none => simp
          | some t => simp

/-! what is skipped to -/
theorem skipR_spec {l : List Int} (hr : riseTo l l.length) : ∀ (r : List Int), (∀ x ∈ r, x ∈ l) → ∀ t, skipR l r = some t → ∃ (p : List Int) (x y : Int) (q : List Int), r.reverse = p ++ x :: q ∧ t = p ++ [y] ∧ x < y ∧ y ∈ l
  | [], _, t, h => by simp [skipR] at h
  | c :: r, hm, t, h => by
    unfold skipR at h
    have hc := rd_idxOf (hm c List.mem_cons_self)
    by_cases c1 : l.idxOf c + 1 < l.length
    · rw [if_pos c1] at h
      have h := Option.some.inj h
      refine ⟨r.reverse, c, rd l ((l.idxOf c + 1 : Nat) : Int), [], by simp, by rw [← h]; simp, ?_, rd_mem (by omega) (by omega)⟩
      have := hr (l.idxOf c) (l.idxOf c + 1) (by omega) c1
      rw [hc.2] at this
      exact this
    · rw [if_neg c1] at h
      obtain ⟨p, x, y, q, h1, h2, h3, h4⟩ := skipR_spec hr r (fun x hx => hm x (List.mem_cons_of_mem _ hx)) t h
      exact ⟨p, x, y, q ++ [c], by rw [List.reverse_cons, h1]; simp, h2, h3, h4⟩
theorem cmpL_prefix : ∀ (s : List Int) (x : Int) (t : List Int), cmpL s (s ++ x :: t) = -1
  | [], _, _ => rfl
  | y :: s, x, t => by
    rw [List.cons_append, cmpL, if_neg (by omega), if_neg (by omega)]
    exact cmpL_prefix s x t
theorem cmpL_at : ∀ (p : List Int) (x y : Int) (q t : List Int), x < y → cmpL (p ++ x :: q) (p ++ y :: t) = -1
  | [], x, y, q, t, h => by rw [List.nil_append, List.nil_append, cmpL, if_pos h]
  | z :: p, x, y, q, t, h => by
    rw [List.cons_append, List.cons_append, cmpL, if_neg (by omega), if_neg (by omega)]
    exact cmpL_at p x y q t h
/-- Next goes up. -/
theorem nextL_up {l s t : List Int} {n : Int} (hr : riseTo l l.length) (hm : ∀ x ∈ s, x ∈ l) (h : nextL l s n = some t) : cmpL s t = -1 := by
  unfold nextL at h
  by_cases c : (s.length : Int) < n
  · rw [if_pos c] at h
    rw [← Option.some.inj h]
    exact cmpL_prefix s _ []
  · rw [if_neg c] at h
    obtain ⟨p, x, y, q, h1, h2, h3, _⟩ := skipR_spec hr s.reverse (fun x hx => hm x (List.mem_reverse.1 hx)) t h
    rw [List.reverse_reverse] at h1
    rw [h1, h2]
    exact cmpL_at p x y q [] h3
theorem T_head (l : List Int) (m : Nat) (b : List Int) (h : 0 < l.length) : (T l (m + 1) b).head? = some (b ++ [rd l 0]) := by
  cases l with
  | nil => simp at h
  | cons c l => simp [T, rd]
/-- What stands behind a text over the alphabet is what Next tells. -/
theorem behind_next {l s : List Int} {n : Nat} (h : Over l s n) {post : List (List Int)} (hp : post.head? = (skipR l s.reverse).map (fun t => ([] : List Int) ++ t)) : (T l (n - s.length) s ++ post).head? = nextL l s n := by
  have hm : (Option.map (fun t => ([] : List Int) ++ t) (skipR l s.reverse)) = skipR l s.reverse := by simp
  rw [hm] at hp
  unfold nextL
  have hne : 0 < l.length := by
    have h1 := h.2.1
    cases s with
    | nil => simp at h1
    | cons x t => exact List.length_pos_of_mem (h.2.2.2 x List.mem_cons_self)
  have h2 := h.2.2.1
  by_cases c : (s.length : Int) < (n : Int)
  · rw [if_pos c]
    obtain ⟨m, hm⟩ : ∃ m, n - s.length = m + 1 := ⟨n - s.length - 1, by omega⟩
    rw [hm, List.head?_append, T_head l m s hne]
    rfl
  · rw [if_neg c]
    have : n - s.length = 0 := by omega
    rw [this]
    simpa [T] using hp
theorem T_over {l s : List Int} {n : Nat} (hr : riseTo l l.length) : s ∈ T l n [] ↔ Over l s n := by
  rw [T_mem]
  unfold Over
  constructor
  · rintro ⟨r, h1, h2, h3, h4⟩
    rw [List.nil_append] at h1
    subst h1
    exact ⟨hr, h2, by omega, h4⟩
  · rintro ⟨_, h2, h3, h4⟩
    exact ⟨s, rfl, h2, by omega, h4⟩
theorem split_uniq {α : Type} {s : α} {R : List α} : ∀ (p pre rest : List α), p ++ s :: rest = pre ++ s :: R → s ∉ pre → s ∉ R → p = pre ∧ rest = R
  | [], [], rest, h, _, _ => ⟨rfl, by simpa using h⟩
  | [], x :: pre, rest, h, h1, _ => by
    simp at h
    exact absurd (by rw [h.1]; exact List.mem_cons_self) h1
  | x :: p, [], rest, h, _, h2 => by
    simp at h
    exact absurd (by rw [← h.2]; simp) h2
  | x :: p, y :: pre, rest, h, h1, h2 => by
    simp only [List.cons_append, List.cons.injEq] at h
    obtain ⟨e1, e2⟩ := h
    obtain ⟨a, b⟩ := split_uniq p pre rest e2 (fun hh => h1 (List.mem_cons_of_mem _ hh)) h2
    exact ⟨by rw [e1, a], b⟩
/-- Wherever a text stands among all: what is behind it. -/
theorem T_at {l s : List Int} {n : Nat} {p rest : List (List Int)} (hr : riseTo l l.length) (h : T l n [] = p ++ s :: rest) : Over l s n ∧ rest.head? = nextL l s n := by
  have ho : Over l s n := (T_over hr).1 (by rw [h]; simp)
  obtain ⟨pre, post, q1, q2, q3, q4⟩ := T_split hr n [] s ho.2.1 (by have := ho.2.2.1; omega) ho.2.2.2
  rw [List.nil_append] at q1 q2 q3
  rw [h] at q1
  have hnot : s ∉ T l (n - s.length) s ++ post := fun hh => by
    rcases List.mem_append.1 hh with hh | hh
    · obtain ⟨r, e, h1, _⟩ := (T_mem l _ _ _).1 hh
      have := congrArg List.length e
      rw [List.length_append] at this
      omega
    · exact q3 hh
  obtain ⟨e1, e2⟩ := split_uniq p pre rest q1 q2 hnot
  exact ⟨ho, by rw [e2]; exact behind_next ho q4⟩

end Go.Proofs.Ytlipbiihemhieaa.K

-- from PureOrderBehind
/- OrderBehind: for every input. -/
namespace Go.Proofs.Ytlipbiihemhieaa.Pure
set_option linter.unusedVariables false
set_option linter.unusedSimpArgs false
open Go.RowKit Go.Proofs.Ytlipbiihemhieaa.Q Go.Proofs.YtlipbiihemhieaaW.PrintWords Go.Proofs.YtlipbiihemhieaaW.PrintMore Go.Proofs.YtlipbiihemhieaaW.PrintLast Go.Proofs.Ytlipbiihemhieaa.K

theorem rdL_nat (X : List (List Int)) (i : Nat) (h : i < X.length) : rd_L1 X (i : Int) = X[i] := by
  unfold rd_L1
  simp [List.getD_eq_getElem?_getD, List.getElem?_eq_getElem h]
theorem dropL_cons (X : List (List Int)) (i : Nat) (h : i < X.length) : X.drop i = rd_L1 X (i : Int) :: X.drop (i + 1) := by
  rw [rdL_nat X i h, List.drop_eq_getElem_cons h]
/-- Does a text begin another one? -/
def begins (s t : List Int) : Bool := decide (s.length ≤ t.length ∧ s = t.take s.length)
theorem begins_ev {s t : List Int} (hs : s.length ≤ 1000000) (ht : t.length ≤ 1000000) : Ev (fun k => paronymref19_Begins.f k s t) (begins s t) := by
  unfold paronymref19_Begins.f begins
  by_cases c : (s.length : Int) ≤ (t.length : Int)
  · refine Ev.pos c (Ev.pos (by omega) (Ev.bind (refSame_ev s _ (by omega) (by rw [List.length_take]; omega)) (Ev.ret ?_)))
    rw [Int.toNat_natCast]
    exact decide_eq_decide.2 ⟨fun h => ⟨by omega, h⟩, fun h => h.2⟩
  · exact Ev.neg c (Ev.ret (by rw [decide_eq_false (fun h => c (by omega))]))
/-- What the inner loop finds; none: the outer loop goes on. -/
def found (s : List Int) (skip : Bool) : List (List Int) → Option (List Int)
  | [] => none
  | t :: X => if skip = true ∧ begins s t = true then found s skip X else some t
def behindL (s : List Int) (skip : Bool) : List (List Int) → List Int
  | [] => []
  | t :: X => if t = s then (match found s skip X with | some r => r | none => behindL s skip X) else behindL s skip X
theorem behind_ev {X : List (List Int)} {s : List Int} (skip : Bool) (hX : X.length ≤ 1000000) (hs : s.length ≤ 1000000) (hx : ∀ t ∈ X, t.length ≤ 1000000) : Ev (fun k => paronymref19_Behind.f k X s skip) (behindL s skip X) := by
  have hrd : ∀ i : Nat, i < X.length → (rd_L1 X (i : Int)).length ≤ 1000000 := fun i hi => hx _ (by rw [rdL_nat X i hi]; exact List.getElem_mem _)
  have key : ∀ (d i : Nat), X.length - i = d → i ≤ X.length → Ev (fun k => paronymref19_Behind.l0 k X s skip i) (behindL s skip (X.drop i)) := by
    intro d
    induction d with
    | zero =>
      intro i h1 h2
      have : i = X.length := by omega
      subst this
      rw [List.drop_length]
      exact Ev.step (fun k => rfl) (Ev.neg (by omega) (Ev.now _))
    | succ d ih =>
      intro i h1 h2
      have hi : i < X.length := by omega
      rw [dropL_cons X i hi]
      unfold behindL
      have hsame := refSame_ev (rd_L1 X (i : Int)) s (by have := hrd i hi; omega) (by omega)
      by_cases c : rd_L1 X (i : Int) = s
      · rw [if_pos c]
        rw [decide_eq_true c] at hsame
        have inner : ∀ (m j : Nat), X.length - j = m → j ≤ X.length → Ev (fun k => paronymref19_Behind.l1 k X s skip i j) (match found s skip (X.drop j) with | some r => r | none => behindL s skip (X.drop (i + 1))) := by
          intro m
          induction m with
          | zero =>
            intro j g1 g2
            have : j = X.length := by omega
            subst this
            rw [List.drop_length]
            refine Ev.step (fun k => rfl) (Ev.neg (by omega) ?_)
            rw [show wrap64 ((i : Int) + 1) = ((i + 1 : Nat) : Int) from w64 (by omega) (by omega)]
            exact ih (i + 1) (by omega) (by omega)
          | succ m ihm =>
            intro j g1 g2
            have hj : j < X.length := by omega
            rw [dropL_cons X j hj]
            unfold found
            refine Ev.step (fun k => rfl) (Ev.pos (by omega) ?_)
            cases skip with
            | false =>
              simp only [Bool.false_eq_true, false_and, if_false]
              exact (Ev.now _ : Ev (fun _ => some (rd_L1 X (j : Int))) _)
            | true =>
              refine Ev.pos rfl (Ev.pos (by omega) (Ev.bind (begins_ev hs (hrd j hj)) ?_))
              by_cases c2 : begins s (rd_L1 X (j : Int)) = true
              · rw [if_pos ⟨rfl, c2⟩]
                refine Ev.pos c2 ?_
                rw [show wrap64 ((j : Int) + 1) = ((j + 1 : Nat) : Int) from w64 (by omega) (by omega)]
                exact ihm (j + 1) (by omega) (by omega)
              · rw [if_neg (fun h => c2 h.2)]
                exact Ev.neg c2 (Ev.now _)
        have h0 := inner (X.length - (i + 1)) (i + 1) rfl (by omega)
        refine Ev.step (fun k => rfl) (Ev.pos (by omega) (Ev.pos (by omega) (Ev.bind hsame (Ev.pos rfl ?_))))
        rw [show wrap64 ((i : Int) + 1) = ((i + 1 : Nat) : Int) from w64 (by omega) (by omega)]
        exact h0
      · rw [if_neg c]
        rw [decide_eq_false c] at hsame
        refine Ev.step (fun k => rfl) (Ev.pos (by omega) (Ev.pos (by omega) (Ev.bind hsame (Ev.neg (by decide) ?_))))
        rw [show wrap64 ((i : Int) + 1) = ((i + 1 : Nat) : Int) from w64 (by omega) (by omega)]
        exact ih (i + 1) (by omega) (by omega)
  have := key X.length 0 (by omega) (by omega)
  rw [List.drop_zero] at this
  exact this
theorem behindL_none {s : List Int} {skip : Bool} : ∀ {X : List (List Int)}, s ∉ X → behindL s skip X = []
  | [], _ => rfl
  | t :: X, h => by
    unfold behindL
    rw [if_neg (fun e => h (by rw [e]; exact List.mem_cons_self))]
    exact behindL_none (fun hh => h (List.mem_cons_of_mem _ hh))
theorem behindL_at {s : List Int} {skip : Bool} {R : List (List Int)} (hR : s ∉ R) : ∀ {p : List (List Int)}, s ∉ p → behindL s skip (p ++ s :: R) = match found s skip R with | some r => r | none => []
  | [], _ => by
    rw [List.nil_append]
    unfold behindL
    rw [if_pos rfl]
    rw [behindL_none hR]
  | t :: p, h => by
    rw [List.cons_append]
    unfold behindL
    rw [if_neg (fun e => h (by rw [e]; exact List.mem_cons_self))]
    exact behindL_at hR (fun hh => h (List.mem_cons_of_mem _ hh))
theorem found_all {s : List Int} : ∀ {U V : List (List Int)}, (∀ t ∈ U, begins s t = true) → found s true (U ++ V) = found s true V
  | [], V, _ => rfl
  | t :: U, V, h => by
    rw [List.cons_append]
    rw [found, if_pos ⟨rfl, h t List.mem_cons_self⟩]
    exact found_all (fun x hx => h x (List.mem_cons_of_mem _ hx))
theorem found_first {s : List Int} : ∀ R : List (List Int), found s false R = R.head?
  | [] => rfl
  | t :: R => by unfold found; rw [if_neg (by simp)]; rfl

/-! all texts, listed -/
theorem all_ev {l : List Int} (hl : l.length ≤ 4) : ∀ (m : Nat) (b : List Int) (n : Nat), n ≤ 4 → n = b.length + m → Ev (fun k => paronymref19_All.f k l b n) ((if b.length > 0 then [b] else []) ++ T l m b) := by
  have hcnt : ∀ m : Nat, m ≤ 4 → cntT l.length m ≤ 340 := fun m hm => by
    have h : ∀ (L : Fin 5) (n : Fin 5), cntT L.val n.val ≤ 340 := by decide +kernel
    exact h ⟨l.length, by omega⟩ ⟨m, by omega⟩
  intro m
  induction m with
  | zero =>
    intro b n hn e
    have hj : ∀ out : List (List Int), Ev (fun k => paronymref19_All.j0 k l b n out) out := fun out => Ev.step (fun k => rfl) (Ev.pos (by omega) (Ev.now _))
    have hT : T l 0 b = [] := rfl
    rw [hT, List.append_nil]
    by_cases c : (b.length : Int) > 0
    · rw [if_pos (by omega)]
      exact Ev.step (fun k => rfl) (Ev.pos c (Ev.bindS rfl (Ev.pos (by simp) (hj _))))
    · rw [if_neg (by omega)]
      exact Ev.step (fun k => rfl) (Ev.neg c (hj _))
  | succ m ih =>
    intro b n hn e
    have hu : ∀ u : List Int, (u.flatMap fun c => (b ++ [c]) :: T l m (b ++ [c])).length = u.length * (1 + cntT l.length m) := by
      intro u
      induction u with
      | nil => simp
      | cons c u ihu =>
        rw [List.flatMap_cons, List.length_append, ihu, List.length_cons, T_len l m, List.length_cons, Nat.add_mul]
        omega
    have hcm := hcnt m (by omega)
    have hj : ∀ out : List (List Int), out.length ≤ 1 → Ev (fun k => paronymref19_All.j0 k l b n out) (out ++ T l (m + 1) b) := by
      intro out ho
      have loop : ∀ (d i : Nat), l.length - i = d → i ≤ l.length → Ev (fun k => paronymref19_All.l0 k l b n (out ++ (l.take i).flatMap fun c => (b ++ [c]) :: T l m (b ++ [c])) i) (out ++ T l (m + 1) b) := by
        intro d
        induction d with
        | zero =>
          intro i h1 h2
          have : i = l.length := by omega
          subst this
          rw [List.take_length]
          exact Ev.step (fun k => rfl) (Ev.neg (by omega) (Ev.now _))
        | succ d ihd =>
          intro i h1 h2
          have hi : i < l.length := by omega
          have hrec := ih (b ++ [rd l (i : Int)]) n hn (by simp; omega)
          rw [if_pos (by simp)] at hrec
          have hle : ((l.take i).flatMap fun c => (b ++ [c]) :: T l m (b ++ [c])).length ≤ 1364 := by
            rw [hu]
            exact Nat.mul_le_mul (show (l.take i).length ≤ 4 by rw [List.length_take]; omega) (show 1 + cntT l.length m ≤ 341 by omega)
          have hstep := ihd (i + 1) (by omega) (by omega)
          rw [take_snoc l i hi, List.flatMap_append] at hstep
          clear hu
          refine Ev.step (fun k => rfl) (Ev.pos (by omega) (Ev.bindS rfl (Ev.pos (by simp; omega) (Ev.bindS rfl (Ev.pos (by omega) (Ev.bindS rfl (Ev.pos (by simp; omega) (Ev.bind (a := [b ++ [rd l (i : Int)]] ++ T l m (b ++ [rd l (i : Int)])) ?_ ?_))))))))
          · rw [List.nil_append]; exact hrec
          · refine Ev.pos ?_ ?_
            · rw [List.length_append, List.length_append, T_len, List.length_singleton]
              omega
            · rw [show wrap64 ((i : Int) + 1) = ((i + 1 : Nat) : Int) from w64 (by omega) (by omega)]
              have ee : out ++ ((l.take i).flatMap fun c => (b ++ [c]) :: T l m (b ++ [c])) ++ ([b ++ [rd l (i : Int)]] ++ T l m (b ++ [rd l (i : Int)])) = out ++ (((l.take i).flatMap fun c => (b ++ [c]) :: T l m (b ++ [c])) ++ ([rd l (i : Int)].flatMap fun c => (b ++ [c]) :: T l m (b ++ [c]))) := by simp
              rw [ee]
              exact hstep
      have h0 := loop l.length 0 (by omega) (by omega)
      rw [List.take_zero, List.flatMap_nil, List.append_nil] at h0
      exact Ev.step (fun k => rfl) (Ev.neg (by omega) h0)
    by_cases c : (b.length : Int) > 0
    · rw [if_pos (by omega)]
      exact Ev.step (fun k => rfl) (Ev.pos c (Ev.bindS rfl (Ev.pos (by simp) (hj _ (by simp)))))
    · rw [if_neg (by omega)]
      exact Ev.step (fun k => rfl) (Ev.neg c (hj _ (by simp)))
theorem skipR_not_begin {l s t : List Int} (hr : riseTo l l.length) (hm : ∀ x ∈ s, x ∈ l) (h : skipR l s.reverse = some t) : begins s t = false := by
  obtain ⟨p, x, y, q, h1, h2, h3, _⟩ := skipR_spec hr s.reverse (fun x hx => hm x (List.mem_reverse.1 hx)) t h
  rw [List.reverse_reverse] at h1
  unfold begins
  refine decide_eq_false fun hh => ?_
  obtain ⟨h4, h5⟩ := hh
  rw [h1, h2] at h4 h5
  rw [List.length_append, List.length_append, List.length_cons, List.length_singleton] at h4
  have hq : q = [] := List.eq_nil_of_length_eq_zero (by omega)
  subst hq
  rw [List.take_of_length_le (by simp)] at h5
  have := List.append_cancel_left h5
  simp at this
  omega
theorem OrderBehind : paronymlaw19_OrderBehind.Pure := by
  intro l s a2 _ hl8 _ _ hs8 _ haw
  have ha := u8_of_wf haw
  apply Ev.rounds
  unfold paronymlaw19_OrderBehind.f
  refine Ev.bind (Ev.now true) (Ev.pos rfl ?_)
  have yes : Ev (fun k => paronymlaw19_OrderBehind.j0 k l s a2 true) true := Ev.step (fun k => rfl) (Ev.bind (Ev.now true) (Ev.now _))
  by_cases c1 : (l.length : Int) > 4
  · exact Ev.pos c1 yes
  refine Ev.neg c1 ?_
  by_cases c2 : (s.length : Int) > 20
  · rw [decide_eq_true c2]; exact yes
  rw [decide_eq_false c2]
  obtain ⟨n, hn, hn4⟩ : ∃ n : Nat, wrap64 (Int.tmod a2 5) = (n : Int) ∧ n ≤ 4 := by
    rw [Int.tmod_eq_emod_of_nonneg (by omega), w64 (by omega) (by omega)]
    exact ⟨(a2 % 5).toNat, by omega, by omega⟩
  have hl : l.length ≤ 1000000 := by omega
  have hs : s.length ≤ 1000000 := by omega
  obtain ⟨al, hal, _, hra⟩ := alphabets_ev (l := l) (by omega)
  -- the end
  have tail : ∀ (X : List (List Int)) (a b : Option (List Int)), Ev (fun k => order_Next.f k l s n) (told a) → Ev (fun k => order_Skip.f k l s n) (told b) → Ev (fun k => paronymref19_Behind.f k X s false) (a.getD []) → Ev (fun k => paronymref19_Behind.f k X s true) (b.getD []) → (∀ t, a = some t → 1 ≤ t.length) → (∀ t, b = some t → 1 ≤ t.length) → (a.getD []).length ≤ 100 → (b.getD []).length ≤ 100 → Ev (fun k => paronymlaw19_OrderBehind.j1 k l s n X) true := by
    intro X a b h1 h2 h3 h4 h5 h6 h7 h8
    have q : ∀ o : Option (List Int), (∀ t, o = some t → 1 ≤ t.length) → (told o).1 = o.getD [] ∧ (told o).2 = decide (((o.getD []).length : Int) > 0) := by
      intro o ho
      cases o with
      | none => exact ⟨rfl, rfl⟩
      | some t => exact ⟨rfl, (decide_eq_true (by have := ho t rfl; simp; omega)).symm⟩
    obtain ⟨e1, e2⟩ := q a h5
    obtain ⟨e3, e4⟩ := q b h6
    refine Ev.step (fun k => rfl) (Ev.bind h1 (Ev.bind h2 (Ev.bind h3 (Ev.bind h4 (Ev.bind (refSame_ev _ _ (by rw [e1]; omega) (by omega)) ?_)))))
    rw [e1, e2, e3, e4]
    refine Ev.pos (by simp) (Ev.pos (by simp) (Ev.bind (refSame_ev _ _ (by omega) (by omega)) (Ev.pos (by simp) (Ev.ret (by simp)))))
  suffices main : Ev (fun k => (paronymref19_Alphabet.f k l).bind fun t103 => (if t103 = true then ((paronymref19_All.f k l ([] : List Int) (n : Int)).bind fun t104 => (paronymlaw19_OrderBehind.j1 k l s (n : Int) t104)) else (paronymlaw19_OrderBehind.j1 k l s (n : Int) ([] : List (List Int))))) true by
    have main' : Ev (fun k => (paronymref19_Alphabet.f k l).bind fun t103 => (if t103 = true then ((paronymref19_All.f k l ([] : List Int) (wrap64 (Int.tmod a2 5))).bind fun t104 => (paronymlaw19_OrderBehind.j1 k l s (wrap64 (Int.tmod a2 5)) t104)) else (paronymlaw19_OrderBehind.j1 k l s (wrap64 (Int.tmod a2 5)) ([] : List (List Int))))) true := by rw [hn]; exact main
    exact Ev.step (fun k => rfl) main'
  clear hn
  refine Ev.bind hra ?_
  by_cases hr : riseTo l l.length
  · refine Ev.pos (hal.2 hr) ?_
    have hall := all_ev (l := l) (by omega) n [] n hn4 (by simp)
    rw [if_neg (by simp), List.nil_append] at hall
    refine Ev.bind hall ?_
    have hXl : (T l n []).length ≤ 340 := by
      rw [T_len]
      have h : ∀ (L : Fin 5) (n : Fin 5), cntT L.val n.val ≤ 340 := by decide +kernel
      exact h ⟨l.length, by omega⟩ ⟨n, by omega⟩
    have hXm : ∀ t ∈ T l n [], t.length ≤ 4 := fun t ht => by
      have := ((T_over hr).1 ht).2.2.1
      omega
    have hb := fun skip => behind_ev (X := T l n []) (s := s) skip (by omega) hs (fun t ht => by have := hXm t ht; omega)
    by_cases ho : Over l s n
    · obtain ⟨pre, post, q1, q2, q3, q4⟩ := T_split hr n [] s ho.2.1 (by have := ho.2.2.1; omega) ho.2.2.2
      rw [List.nil_append] at q1 q2 q3
      have hnot : s ∉ T l (n - s.length) s ++ post := fun hh => by
        rcases List.mem_append.1 hh with hh | hh
        · obtain ⟨r, e, h1, _⟩ := (T_mem l _ _ _).1 hh
          have := congrArg List.length e
          rw [List.length_append] at this
          omega
        · exact q3 hh
      have hnext := behind_next ho q4
      have hsk : post.head? = skipR l s.reverse := by rw [q4]; simp
      have hpm : ∀ t ∈ T l (n - s.length) s ++ post, t.length ≤ 4 ∧ 1 ≤ t.length := fun t ht => by
        have : t ∈ T l n [] := by rw [q1]; exact List.mem_append_right _ (List.mem_cons_of_mem _ ht)
        exact ⟨hXm t this, ((T_over hr).1 this).2.1⟩
      have hfalse : behindL s false (T l n []) = (nextL l s n).getD [] := by
        rw [q1, behindL_at hnot q2, found_first, hnext]
        cases nextL l s n <;> rfl
      have htrue : behindL s true (T l n []) = (skipR l s.reverse).getD [] := by
        rw [q1, behindL_at hnot q2, found_all (fun t ht => by
          obtain ⟨r, e, _⟩ := (T_mem l _ _ _).1 ht
          unfold begins
          refine decide_eq_true ⟨by rw [e]; simp, by rw [e]; simp⟩)]
        cases hp : post with
        | nil =>
          rw [hp] at hsk
          rw [← hsk]
          rfl
        | cons t post =>
          rw [hp] at hsk
          rw [← hsk]
          unfold found
          rw [if_neg (fun h => by
            have := skipR_not_begin hr ho.2.2.2 (t := t) (by rw [← hsk]; rfl)
            rw [this] at h
            exact absurd h.2 (by decide))]
          rfl
      have hn1 : ∀ t, nextL l s n = some t → t.length ≤ 4 ∧ 1 ≤ t.length := fun t ht => by
        rw [← hnext] at ht
        exact hpm t (List.mem_of_head? ht)
      have hs1 : ∀ t, skipR l s.reverse = some t → t.length ≤ 4 ∧ 1 ≤ t.length := fun t ht => by
        rw [← hsk] at ht
        exact hpm t (List.mem_append_right _ (List.mem_of_head? ht))
      have hlen : ∀ o : Option (List Int), (∀ t, o = some t → t.length ≤ 4 ∧ 1 ≤ t.length) → (o.getD []).length ≤ 100 := fun o h => by
        cases o with
        | none => simp
        | some t => have := (h t rfl).1; simp; omega
      exact tail (T l n []) (nextL l s n) (skipR l s.reverse) ((Next_ev hl hs).1 ho) ((Skip_ev hl hs).1 ho) (hfalse ▸ hb false) (htrue ▸ hb true) (fun t h => (hn1 t h).2) (fun t h => (hs1 t h).2) (hlen _ hn1) (hlen _ hs1)
    · have hno : s ∉ T l n [] := fun h => ho ((T_over hr).1 h)
      have e := fun skip => behindL_none (skip := skip) hno
      exact tail (T l n []) none none ((Next_ev hl hs).2 ho) ((Skip_ev hl hs).2 ho) (by have := hb false; rw [e false] at this; exact this) (by have := hb true; rw [e true] at this; exact this) (fun t h => by cases h) (fun t h => by cases h) (by simp) (by simp)
  · have ho : ¬ Over l s n := fun h => hr h.1
    have hb := fun skip => behind_ev (X := []) (s := s) skip (by simp) hs (fun t ht => by simp at ht)
    refine Ev.neg (fun h => hr (hal.1 h)) ?_
    exact tail [] none none ((Next_ev hl hs).2 ho) ((Skip_ev hl hs).2 ho) (hb false) (hb true) (fun t h => by cases h) (fun t h => by cases h) (by simp) (by simp)

end Go.Proofs.Ytlipbiihemhieaa.Pure

-- from PordT
/- OrderTexts: what its calls answer. -/
namespace Go.Proofs.Ytlipbiihemhieaa.K
set_option linter.unusedVariables false
set_option linter.unusedSimpArgs false
open Go.RowKit Go.Proofs.Ytlipbiihemhieaa.Q Go.Proofs.YtlipbiihemhieaaW.PrintWords Go.Proofs.YtlipbiihemhieaaW.PrintLast Go.Proofs.Ytlipbiihemhieaa.Pure

theorem ev_all {α β : Type} {f : Nat → α → Option β} {r : α → β} : ∀ xs : List α, (∀ s ∈ xs, Ev (fun k => f k s) (r s)) → ∃ K, ∀ k, K ≤ k → ∀ s ∈ xs, f k s = some (r s)
  | [], _ => ⟨0, fun _ _ _ h => by cases h⟩
  | x :: xs, h => by
    obtain ⟨a, ha⟩ := h x List.mem_cons_self
    obtain ⟨b, hb⟩ := ev_all xs (fun s hs => h s (List.mem_cons_of_mem _ hs))
    refine ⟨max a b, fun k hk s hs => ?_⟩
    rcases List.mem_cons.1 hs with e | e
    · rw [e]; exact ha k (by omega)
    · exact hb k (by omega) s e

theorem cl_cnt (L : Nat) (most : Int) (hL : 1 ≤ L) : ∀ (d : Nat) (s o : Int), 0 ≤ s → s ≤ most → 1 ≤ o → cl (L : Int) most d s o = if s + o * (cntT L d : Int) < most then s + o * (cntT L d : Int) else most
  | 0, s, o, h0, h1, h2 => by
    rw [cl, show cntT L 0 = 0 from rfl]
    simp only [Int.natCast_zero, Int.mul_zero, Int.add_zero]
    split <;> omega
  | d + 1, s, o, h0, h1, h2 => by
    have hL1 : (1 : Int) ≤ (L : Int) := by omega
    have hp : 1 * 1 ≤ o * (L : Int) := Int.mul_le_mul h2 hL1 (by omega) (by omega)
    have hc : o * ((cntT L (d + 1) : Nat) : Int) = o * (L : Int) + o * (L : Int) * (cntT L d : Int) := by
      rw [show cntT L (d + 1) = L * (1 + cntT L d) from rfl]
      rw [Int.natCast_mul, Int.natCast_add, ← Int.mul_assoc, Int.mul_add]
      simp
    have hpc : 0 ≤ o * (L : Int) * (cntT L d : Int) := Int.mul_nonneg (by omega) (by omega)
    rw [hc, cl]
    have ih := cl_cnt L most hL d (s + o * (L : Int)) (o * (L : Int))
    generalize o * (L : Int) * (cntT L d : Int) = q at *
    generalize o * (L : Int) = p at *
    by_cases c1 : s < most
    · rw [if_pos c1]
      by_cases c2 : p > most
      · rw [if_pos c2, if_neg (by omega)]
      rw [if_neg c2]
      by_cases c3 : most - s < p
      · rw [if_pos c3, show s + (most - s) = most by omega, cl_top, if_neg (by omega)]
      · rw [if_neg c3, ih (by omega) (by omega) (by omega), show s + (p + q) = s + p + q by omega]
    · rw [if_neg c1, if_neg (by omega)]
      omega

theorem texts_off (l : List Int) (n : Int) : Ev (fun k => order_All.texts k l n [] false) ([] : List (List Int)) := Ev.step (fun k => rfl) (Ev.neg (by decide) (Ev.now _))
theorem texts_ev {l : List Int} {n : Nat} (hl : l.length ≤ 4) (hn : n ≤ 4) (hr : riseTo l l.length) : ∀ (rest p : List (List Int)) (s : List Int), T l n [] = p ++ s :: rest → Ev (fun k => order_All.texts k l (n : Int) s true) (s :: rest)
  | [], p, s, h => by
    obtain ⟨ho, hx⟩ := T_at hr h
    have hs : s.length ≤ 1000000 := by have := ho.2.2.1; omega
    refine Ev.step (fun k => rfl) (Ev.pos rfl (Ev.bind (Ev.val (clone_is2 hs)) (Ev.bind ((Next_ev (by omega) hs).1 ho) ?_)))
    rw [← hx]
    exact Ev.bind (texts_off l n) (Ev.now _)
  | t :: rest, p, s, h => by
    obtain ⟨ho, hx⟩ := T_at hr h
    have hs : s.length ≤ 1000000 := by have := ho.2.2.1; omega
    have ih := texts_ev hl hn hr rest (p ++ [s]) t (by rw [h]; simp)
    refine Ev.step (fun k => rfl) (Ev.pos rfl (Ev.bind (Ev.val (clone_is2 hs)) (Ev.bind ((Next_ev (by omega) hs).1 ho) ?_)))
    rw [← hx]
    exact Ev.bind ih (Ev.now _)

theorem pts_ev {l : List Int} {n : Nat} (hl : l.length ≤ 4) (hn : n ≤ 4) (hr : riseTo l l.length) (h1 : 1 ≤ l.length) (hn1 : 1 ≤ n) : Ev (fun k => order_All.pts k l (n : Int)) (T l n []) := by
  unfold order_All.pts
  refine Ev.bind ((First_ev (by omega)).1 h1 hr (by omega)) ?_
  obtain ⟨m, rfl⟩ : ∃ m, n = m + 1 := ⟨n - 1, by omega⟩
  have hh := T_head l m [] (by omega)
  cases hT : T l (m + 1) [] with
  | nil => rw [hT] at hh; cases hh
  | cons s rest =>
    rw [hT] at hh
    have e : s = [rd l 0] := by simpa using hh
    have := texts_ev hl hn hr rest [] s (by rw [hT]; rfl)
    rw [e] at this ⊢
    exact this

theorem texts_at {l : List Int} (hl : l.length ≤ 4) (n : Nat) (hn : n ≤ 4) (m : Int) (h0 : 0 ≤ m) (h1 : m ≤ 2000) : ∃ (K : Nat) (xs : List (List Int)) (al : Bool) (s0 : List Int), ∀ k, K ≤ k → TextsAt k l (n : Int) m xs al s0 := by
  obtain ⟨al, hal, ⟨ka, ha⟩, ⟨kr, hra⟩⟩ := alphabets_ev (l := l) (by omega)
  by_cases hne : riseTo l l.length ∧ 1 ≤ l.length ∧ 1 ≤ n
  · obtain ⟨hr, hl1, hn1⟩ := hne
    have hal' : al = true := hal.2 hr
    subst hal'
    have hXm : ∀ t ∈ T l n [], t.length ≤ 4 := fun t ht => by have := ((T_over hr).1 ht).2.2.1; omega
    obtain ⟨kx, hall⟩ := all_ev (l := l) (by omega) n [] n hn (by simp)
    rw [if_neg (by simp), List.nil_append] at hall
    obtain ⟨kp, hpts⟩ := pts_ev hl hn hr hl1 hn1
    obtain ⟨kf, hfi⟩ := (First_ev (l := l) (n := (n : Int)) (by omega)).1 hl1 hr (by omega)
    obtain ⟨ks, hsm⟩ := ev_all (f := fun k s => paronymref01_Same.f k s s) (r := fun _ => true) (T l n []) (fun s hs => by have := hXm s hs; simpa using refSame_ev s s (by omega) (by omega))
    obtain ⟨kc, hcm⟩ := ev_all (f := fun k (i : Nat) => paronymref01_Compare.f k (rd_L1 (T l n []) (i : Int)) (rd_L1 (T l n []) ((i + 1 : Nat) : Int))) (r := fun _ => -1) (List.range ((T l n []).length - 1)) (fun i hi => by
      have hi' := List.mem_range.1 hi
      have e0 := rdL_nat (T l n []) i (by omega)
      have e1 := rdL_nat (T l n []) (i + 1) (by omega)
      rw [e0, e1]
      have m0 := hXm _ (List.getElem_mem (show i < (T l n []).length by omega))
      have m1 := hXm _ (List.getElem_mem (show i + 1 < (T l n []).length by omega))
      have hsp : T l n [] = (T l n []).take i ++ (T l n [])[i] :: (T l n []).drop (i + 1) := by simp
      obtain ⟨ho, hx⟩ := T_at hr hsp
      have hd : (T l n []).drop (i + 1) = (T l n [])[i + 1] :: (T l n []).drop (i + 1 + 1) := by rw [List.drop_eq_getElem_cons]
      rw [hd] at hx
      have hc := nextL_up hr ho.2.2.2 (n := (n : Int)) (t := (T l n [])[i + 1]) (by rw [← hx]; rfl)
      rw [← hc]
      exact refCompare_ev _ _ (by omega) (by omega))
    obtain ⟨kn, hct⟩ : Ev (fun k => order_Count.f k l (n : Int) m) (cl l.length m ((n : Int) - 0).toNat 0 1) := by
      unfold order_Count.f
      refine Ev.neg (by omega) (Ev.bind ⟨ka, ha⟩ (Ev.step (fun k => rfl) ?_))
      exact count_ev (by omega) (by omega) (by omega) (by omega) (by omega) _ 0 0 1 rfl (by omega) (by omega) (by omega) (by omega) (by omega) (by omega)
    have hcl : cl l.length m ((n : Int) - 0).toNat 0 1 = if ((T l n []).length : Int) < m then ((T l n []).length : Int) else m := by
      rw [T_len, show ((n : Int) - 0).toNat = n by omega]
      have h := cl_cnt l.length m hl1 n 0 1 (by omega) h0 (by omega)
      rw [Int.zero_add, Int.one_mul] at h
      exact h
    rw [hcl] at hct
    have hXl : (T l n []).length ≤ 340 := by
      rw [T_len]
      have h : ∀ (L : Fin 5) (n : Fin 5), cntT L.val n.val ≤ 340 := by decide +kernel
      exact h ⟨l.length, by omega⟩ ⟨n, by omega⟩
    have hX0 : 0 < (T l n []).length ∧ rd_L1 (T l n []) 0 = [rd l 0] := by
      obtain ⟨q, rfl⟩ : ∃ q, n = q + 1 := ⟨n - 1, by omega⟩
      have hh := T_head l q [] (by omega)
      cases hT : T l (q + 1) [] with
      | nil => rw [hT] at hh; cases hh
      | cons s rest =>
        rw [hT] at hh
        exact ⟨by simp, show s = _ by simpa using hh⟩
    refine ⟨max (max (max ka kr) (max kx kp)) (max (max kf ks) (max kc kn)), T l n [], true, [rd l 0], fun k hk => ?_⟩
    exact ⟨hra k (by omega), fun _ => hall k (by omega), fun h => (by cases h), hpts k (by omega), clone_is2 (by omega), ha k (by omega), fun s hs => hsm k (by omega) s hs, fun i hi => hcm k (by omega) i (List.mem_range.2 (by omega)), (by rw [decide_eq_true hX0.1]; exact hfi k (by omega)), fun _ => hX0.2.symm, hct k (by omega), by omega⟩
  · have hno : l.length = 0 ∨ ¬ riseTo l l.length ∨ (n : Int) < 1 := by
      by_cases a : riseTo l l.length
      · by_cases b : 1 ≤ l.length
        · exact .inr (.inr (by have : ¬ 1 ≤ n := fun c => hne ⟨a, b, c⟩; omega))
        · exact .inl (by omega)
      · exact .inr (.inl a)
    obtain ⟨kf, hfi⟩ := (First_ev (l := l) (n := (n : Int)) (by omega)).2 hno
    obtain ⟨kp, hpts⟩ : Ev (fun k => order_All.pts k l (n : Int)) ([] : List (List Int)) := by
      unfold order_All.pts
      exact Ev.bind ⟨kf, hfi⟩ (texts_off l n)
    obtain ⟨kx, hall⟩ : ∃ K, ∀ k, K ≤ k → (al = true → paronymref19_All.f k l [] (n : Int) = some []) := by
      obtain ⟨kx, hall⟩ := all_ev (l := l) (by omega) n [] n hn (by simp)
      rw [if_neg (by simp), List.nil_append] at hall
      refine ⟨kx, fun k hk h => ?_⟩
      have hr := hal.1 h
      have : T l n [] = [] := by
        rcases hno with h | h | h
        · rw [List.eq_nil_of_length_eq_zero h]
          cases n <;> rfl
        · exact absurd hr h
        · rw [show n = 0 by omega]; rfl
      rw [← this]
      exact hall k hk
    obtain ⟨kn, hct⟩ : Ev (fun k => order_Count.f k l (n : Int) m) 0 := by
      unfold order_Count.f
      by_cases z : (l.length : Int) = 0
      · exact Ev.pos z (Ev.step (fun k => rfl) (Ev.now _))
      refine Ev.neg z (Ev.bind ⟨ka, ha⟩ ?_)
      cases al with
      | false => exact Ev.step (fun k => rfl) (Ev.now _)
      | true =>
        have hn0 : n = 0 := by
          rcases hno with h | h | h
          · omega
          · exact absurd (hal.1 rfl) h
          · omega
        subst hn0
        exact Ev.step (fun k => rfl) (count_ev (d := 0) (by omega) (by omega) (by omega) (by omega) (by omega) 0 0 1 rfl (by omega) (by omega) (by omega) (by omega) (by omega) (by omega))
    refine ⟨max (max (max ka kr) (max kx kp)) (max kf kn), [], al, [], fun k hk => ?_⟩
    refine ⟨hra k (by omega), hall k (by omega), fun _ => rfl, hpts k (by omega), clone_is2 (by omega), ha k (by omega), fun s hs => (by cases hs), fun i hi => (by simp at hi), hfi k (by omega), fun h => (by simp at h), ?_, by simp⟩
    refine (hct k (by omega)).trans ?_
    congr 1
    simp only [List.length_nil]
    split <;> omega
end Go.Proofs.Ytlipbiihemhieaa.K

-- from Htxw
/- OrderTexts: for every input. -/
namespace Go.Proofs.Ytlipbiihemhieaa.Q
open Go.RowKit Go.Shelf Go.Proofs.YtlipbiihemhieaaW.PrintWords Go.Proofs.YtlipbiihemhieaaW.PrintLast Go.Proofs.YtlipbiihemhieaaW.PrintMore
set_option linter.unusedVariables false
set_option linter.unusedSimpArgs false

theorem paronymlaw19_OrderTexts.walk (a0 : Option Addr) (len0 cap0 : Nat) (z0 : List Int) (a1 a2 : Int) (w : World) (w0 : (a0 = none ∧ len0 = 0 ∧ cap0 = 0 ∧ z0 = []) ∨ ∃ x, a0 = some x ∧ len0 ≤ cap0 ∧ cap0 ≤ maxLen ∧ z0.length = cap0 ∧ (∀ i, i < z0.length → w.cell? (x.add i) = some (.int .i64 (z0.getD i 0))) ∧ ∀ n ∈ z0, (Lit.int .i64 n).wf = true) (y0 : len0 * 8 ≤ 140737488351232) (w1 : (Lit.int .u8 a1).wf = true) (w2 : (Lit.int .i64 a2).wf = true) :
    Calls Try.prog 4 #[.slice a0 len0 cap0, .int .u8 a1, .int .i64 a2] w fun e w' => e = .returned (.bool true) ∧ Below w.heap.size w w' := by
  obtain ⟨l0, rfl, hr0, hm0, hw0, hc0⟩ := ReadsInt.ofRowC w0
  have ha := K.u8_of_wf w1
  by_cases big : l0.length ≤ 4
  · obtain ⟨n, hn, hn4⟩ : ∃ n : Nat, wrap64 (Int.tmod a1 5) = (n : Int) ∧ n ≤ 4 := by
      rw [Int.tmod_eq_emod_of_nonneg (by omega), K.w64 (by omega) (by omega)]
      exact ⟨(a1 % 5).toNat, by omega, by omega⟩
    have hm : 0 ≤ mx 0 (mn a2 2000) ∧ mx 0 (mn a2 2000) ≤ 2000 := by
      unfold mx mn
      split <;> split <;> omega
    obtain ⟨k, xs, al, s0, h⟩ := K.texts_at big n hn4 _ hm.1 hm.2
    exact paronymlaw19_OrderTexts.calls k a0 cap0 l0 a1 a2 xs al s0 w (Kd.C_of_reads (d := (0 : Int)) (h1 := fun _ => rfl) hr0) hc0 (fun _ => by rw [hn]; exact h k (Nat.le_refl _))
  · exact paronymlaw19_OrderTexts.calls 0 a0 cap0 l0 a1 a2 [] true [] w (Kd.C_of_reads (d := (0 : Int)) (h1 := fun _ => rfl) hr0) hc0 (fun h => absurd h big)
end Go.Proofs.Ytlipbiihemhieaa.Q

-- from LawOrderTexts
-- Made by hp.py, a program of this session, with the kit's printer. Not trusted: Lean checks it.
namespace Go.Proofs.Ytlipbiihemhieaa.orderTexts
open Go.ChangeShapes Go.WideShapes Go.ChangeAt Go.RowKit
open Go.ChangeMaps (open_string shut_string)
set_option linter.unusedVariables false
theorem own : ownKnob Try.prog.godebug = none := by kernel_rfl
theorem laidOut : laidOutB Try.prog = true := by kernel_rfl
def IsRow (k : IntKind) (w : World) (a : Option Addr) (len cap : Nat) (zs : List Int) : Prop :=
  (a = none ∧ len = 0 ∧ cap = 0 ∧ zs = []) ∨
  ∃ x, a = some x ∧ len ≤ cap ∧ cap ≤ maxLen ∧ zs.length = cap ∧ (∀ i, i < zs.length → w.cell? (x.add i) = some (.int k (zs.getD i 0))) ∧ ∀ n ∈ zs, (Lit.int k n).wf = true
set_option maxRecDepth 100000 in
theorem lifted (os : Os) (started : os.Started) (H : Type) (enc : TypeId × Value → H) :
    ReturnsInHanded {} Try.checked os 4 .any (Rows.orderTextsSpec.pre6 enc Try.prog Try.f4 Rows.orderTextsRow.domain false) (Rows.orderTextsSpec.post enc Try.prog Try.f4 false true false false) := by
  refine returnsInHanded_of_change_sized (C := Try.checked) own started (by kernel_rfl) Try.func4
    (ChangeSpec.witness6 (enc := enc) (C := Try.checked) false ⟨#[], #[.slice none 0 0, .int .u8 0, .int .i64 0], []⟩ 8 (by kernel_rfl) (by kernel_rfl) (by kernel_rfl) (by kernel_rfl)) ?_
  intro W base args ds gs before hval0 hW hcnd hsz0 _
  have hsz : (DataW.weightsEach Try.prog (Try.f4.params.toList ++ Rows.orderTextsSpec.plain.varTypes Try.prog) (ds ++ gs)).all (· ≤ reachBytes) = true := hsz0
  have hval : ∀ (j : Nat) t v, Try.f4.params[j]? = some t → args[j]? = some v → Value.okWide Try.prog W .any base t v := hval0
  have hW' := hW
  obtain ⟨p, q, hA0, hV, rfl, hfz, hnd⟩ := hW
  have hA : DataW.TrodAll enc Try.prog W 0 (fun _ => true) true Try.f4.params.toList args.toList ds p := hA0
  rw [Try.params4] at hA hval hsz
  obtain ⟨v0, vs0, d0, ds0, p0, q0, hargs, rfl, rfl, h0, r0⟩ := trodAll_cons hA
  obtain ⟨v1, vs1, d1, ds1, p1, q1, rfl, rfl, rfl, h1, r1⟩ := trodAll_cons r0
  obtain ⟨v2, vs2, d2, ds2, p2, q2, rfl, rfl, rfl, h2, r2⟩ := trodAll_cons r1
  obtain ⟨rfl, rfl, rfl⟩ := trodAll_nil r2
  obtain rfl : args = #[v0, v1, v2] := by cases args; simp_all
  obtain ⟨rfl, rfl⟩ := trodVars_none hV
  obtain ⟨a0, len0, cap0, rfl⟩ := okWide_slice Try.underlying22 (hval 0 22 v0 rfl rfl)
  have k0 := h0
  have lt0 : ∀ x ∈ p0, x.block < W.heap.size := by obtain ⟨m, hm⟩ := k0; exact DataW.trod_lt m _ _ _ hm
  obtain ⟨z0, w0⟩ : ∃ zs, IsRow .i64 W a0 len0 cap0 zs := by
    obtain ⟨fuel, hf⟩ := h0
    rcases open_ints Try.underlying22 Try.underlying3 (by kernel_rfl) hf with ⟨hcs, _⟩ | ⟨x, l, c, zs, hcs, _, hl, hm, hz, _, hcell, hwz⟩
    · simp [Value.cells] at hcs
      obtain ⟨rfl, rfl, rfl⟩ := hcs
      exact ⟨[], .inl ⟨rfl, rfl, rfl, rfl⟩⟩
    · simp [Value.cells] at hcs
      obtain ⟨rfl, rfl, rfl⟩ := hcs
      exact ⟨zs, .inr ⟨_, rfl, hl, hm, by simpa using hz, hcell, hwz⟩⟩
  have y0 : len0 * 8 ≤ 140737488351232 := Go.Proofs.YtlipbiihemhieaaW.PrintWords.sized_ints hsz (j := 0) (t := 22) rfl rfl Try.underlying22 Try.underlying3 (by kernel_rfl) (by kernel_rfl) h0
  obtain ⟨a1, rfl, rfl, rfl, w1⟩ := open_int Try.underlying5 (hval 1 5 v1 rfl rfl) h1
  obtain ⟨a2, rfl, rfl, rfl, w2⟩ := open_int Try.underlying3 (hval 2 3 v2 rfl rfl) h2
  clear hA0 hval0 hsz0 hsz
  refine (Q.paronymlaw19_OrderTexts.walk a0 len0 cap0 z0 a1 a2 W w0 y0 w1 w2).mono fun e W' ⟨he, bel⟩ => ?_
  subst he
  exact ⟨_, rfl, _, _, _, [], _, [], hW', trodAll_mk1 (shut_bool Try.underlying4 _), (trodAll_cons_mk (Below.trod laidOut (by kernel_rfl) (of_decide_eq_true (by kernel_rfl)) k0 bel lt0) (trodAll_cons_mk (shut_int Try.underlying5 w1) (trodAll_cons_mk (shut_int Try.underlying3 w2) trodAll_mk0))), rfl, bel.frame _, fun h => by cases h⟩
theorem over : Rows.orderTextsRow.holds Try.pinned (OpenSpec.ofChange Rows.orderTextsSpec) :=
  OpenClaim.holds_of_wide 4 Try.f4 rfl rfl rfl rfl rfl rfl rfl ⟨rfl, rfl, rfl, rfl, rfl⟩ rfl rfl rfl rfl rfl (by kernel_rfl) Try.func4 (by kernel_rfl)
    (of_decide_eq_true (by kernel_rfl)) (by unfold Func.isWrapper; first | (rw [if_pos (by decide +kernel)]; kernel_rfl) | (rw [if_neg (by decide +kernel)]; exact ⟨rfl, rfl⟩))
    (fun os started H enc _ => lifted os started H enc)
theorem proved : Rows.OrderTextsSaid := over
#print axioms proved
end Go.Proofs.Ytlipbiihemhieaa.orderTexts
namespace Go.Proofs.Ytlipbiihemhieaa
/-- The row, under a short name, for the claim. -/
theorem orderTexts_holds : Rows.OrderTextsSaid := orderTexts.proved
end Go.Proofs.Ytlipbiihemhieaa
