/- Part 2 of 3 of the proof of PunyDecodes: PunyDecodes: decoding a form For every input; no condition. -/
import Derived.Test.YtooiajkbpkfplaaCPunyDecodes1
import Derived.Lib.Bytes

-- from Qf43
-- Made by hp.py, a program of this session, with the kit's printer. Not trusted: Lean checks it.
namespace Go.Proofs.Ytooiajkbpkfplaa.Q
open Go.RowKit Go.Proofs.YtooiajkbpkfplaaW.PrintWords Go.Proofs.YtooiajkbpkfplaaW.PrintLast Go.Proofs.YtooiajkbpkfplaaW.PrintMore
attribute [local go_sem] max2_int min2_int max_two min_two max_three min_three max_four min_four   -- for this text's walks alone
set_option linter.unusedVariables false
set_option linter.unusedSimpArgs false

/-! ### puny_Decode: function 43 -/
mutual
def puny_Decode.j1 : Nat → List Int → List Int → Option (List Int × Int)
  | 0, _, _ => none
  | k + 1, x0, x4 => puny_Decode.l1 k x0 x4 128 72 0 true
def puny_Decode.l1 : Nat → List Int → List Int → Int → Int → Int → Bool → Option (List Int × Int)
  | 0, _, _, _, _, _, _ => none
  | k + 1, x0, x4, x8, x9, x10, x11 => if (x0.length : Int) > 0 then ((puny_read.f k x0 x9).bind fun bt117 => (if bt117.2.2 = 0 then (if bt117.1 > (wrap64 (2147483647 - x10)) then (some (([] : List Int), 21)) else ((puny_adapt.f k bt117.1 (wrap64 ((x4.length : Int) + 1)) x11).bind fun t120 => (if (wrap64 ((x4.length : Int) + 1)) = 0 then (none) else (if (wrap64 (Int.tdiv (wrap64 (x10 + bt117.1)) (wrap64 ((x4.length : Int) + 1)))) > (wrap64 (2147483647 - x8)) then (some (([] : List Int), 21)) else ((utf_Scalar.f (wrap64 (x8 + (wrap64 (Int.tdiv (wrap64 (x10 + bt117.1)) (wrap64 ((x4.length : Int) + 1))))))).bind fun t121 => (if t121 = true then ((slices_Insert_int_int.f x4 (Int.tmod (wrap64 (x10 + bt117.1)) (wrap64 ((x4.length : Int) + 1))) (([wrap64 (x8 + (wrap64 (Int.tdiv (wrap64 (x10 + bt117.1)) (wrap64 ((x4.length : Int) + 1)))))] : List Int))).bind fun t125 => (if 0 ≤ bt117.2.1 then (if bt117.2.1 ≤ (x0.length : Int) then (puny_Decode.l1 k (x0.drop (bt117.2.1 : Int).toNat) t125 (wrap64 (x8 + (wrap64 (Int.tdiv (wrap64 (x10 + bt117.1)) (wrap64 ((x4.length : Int) + 1)))))) t120 (wrap64 ((Int.tmod (wrap64 (x10 + bt117.1)) (wrap64 ((x4.length : Int) + 1))) + 1)) false) else (none)) else (none))) else (some (([] : List Int), 10)))))))) else (some (([] : List Int), bt117.2.2)))) else (some (x4, 0))
def puny_Decode.l0 : Nat → List Int → List Int → Int → List Int → Int → Int → Option (List Int × Int)
  | 0, _, _, _, _, _, _ => none
  | k + 1, x0, x4, x5, x29, x30, x31 => if x31 < x30 then (if 0 ≤ x31 then (if x31 < (x29.length : Int) then (if x4.length < 17592186044416 then (puny_Decode.l0 k x0 (x4 ++ [wrap64 (rd x29 x31)]) x5 x29 x30 (wrap64 (x31 + 1))) else (none)) else (none)) else (none)) else (if 0 ≤ (wrap64 (x5 + 1)) then (if (wrap64 (x5 + 1)) ≤ (x0.length : Int) then (puny_Decode.j1 k (x0.drop ((wrap64 (x5 + 1)) : Int).toNat) x4) else (none)) else (none))
end
def puny_Decode.f (k : Nat) (l0 : List Int) : Option (List Int × Int) := if (l0.length : Int) > 12000 then (some (([] : List Int), 36)) else ((slices_ContainsFunc_byte_byte_at_puny_Decode_1.f k l0).bind fun t101 => (if t101 = true then (some (([] : List Int), 20)) else ((bytes_LastIndexByte.f k l0 45).bind fun t102 => (if t102 > 0 then (if 0 ≤ t102 then (if t102 ≤ (l0.length : Int) then ((some (l0.take (t102 : Int).toNat : List Int)).bind fun y103 => (puny_Decode.l0 k l0 ([] : List Int) t102 y103 (y103.length : Int) 0)) else (none)) else (none)) else (puny_Decode.j1 k l0 ([] : List Int))))))
theorem puny_Decode.mono_l : ∀ k, (∀ y0 y1, LeO (puny_Decode.j1 k y0 y1) (puny_Decode.j1 (k + 1) y0 y1)) ∧ (∀ y0 y1 y2 y3 y4 y5, LeO (puny_Decode.l1 k y0 y1 y2 y3 y4 y5) (puny_Decode.l1 (k + 1) y0 y1 y2 y3 y4 y5)) ∧ (∀ y0 y1 y2 y3 y4 y5, LeO (puny_Decode.l0 k y0 y1 y2 y3 y4 y5) (puny_Decode.l0 (k + 1) y0 y1 y2 y3 y4 y5))
  | 0 => ⟨fun _ _ r h => by simp [puny_Decode.j1] at h, fun _ _ _ _ _ _ r h => by simp [puny_Decode.l1] at h, fun _ _ _ _ _ _ r h => by simp [puny_Decode.l0] at h⟩
  | k + 1 => by
    obtain ⟨ih0, ih1, ih2⟩ := puny_Decode.mono_l k
    refine ⟨?_, ?_, ?_⟩
    · intro y0 y1
      unfold puny_Decode.j1
      repeat' first
      | (with_reducible exact ih0 _ _)
      | (with_reducible exact ih1 _ _ _ _ _ _)
      | (with_reducible exact ih2 _ _ _ _ _ _)
      | (with_reducible exact bytes_LastIndexByte.mono _ _ _)
      | (with_reducible exact puny_adapt.mono _ _ _ _)
      | (with_reducible exact puny_read.mono _ _ _)
      | (with_reducible exact slices_ContainsFunc_byte_byte_at_puny_Decode_1.mono _ _)
      | (with_reducible exact LeO.refl _)
      | (with_reducible exact LeO.none _)
      | (with_reducible refine LeO.ite ?_ ?_)
      | (with_reducible refine LeO.bind ?_ (fun _ => ?_))
      | exact ih0 _ _
      | exact ih1 _ _ _ _ _ _
      | exact ih2 _ _ _ _ _ _
      | exact bytes_LastIndexByte.mono _ _ _
      | exact puny_adapt.mono _ _ _ _
      | exact puny_read.mono _ _ _
      | exact slices_ContainsFunc_byte_byte_at_puny_Decode_1.mono _ _
      | exact LeO.none _
      | refine LeO.ite ?_ ?_
      | refine LeO.bind ?_ (fun _ => ?_)
    · intro y0 y1 y2 y3 y4 y5
      unfold puny_Decode.l1
      repeat' first
      | (with_reducible exact ih0 _ _)
      | (with_reducible exact ih1 _ _ _ _ _ _)
      | (with_reducible exact ih2 _ _ _ _ _ _)
      | (with_reducible exact bytes_LastIndexByte.mono _ _ _)
      | (with_reducible exact puny_adapt.mono _ _ _ _)
      | (with_reducible exact puny_read.mono _ _ _)
      | (with_reducible exact slices_ContainsFunc_byte_byte_at_puny_Decode_1.mono _ _)
      | (with_reducible exact LeO.refl _)
      | (with_reducible exact LeO.none _)
      | (with_reducible refine LeO.ite ?_ ?_)
      | (with_reducible refine LeO.bind ?_ (fun _ => ?_))
      | exact ih0 _ _
      | exact ih1 _ _ _ _ _ _
      | exact ih2 _ _ _ _ _ _
      | exact bytes_LastIndexByte.mono _ _ _
      | exact puny_adapt.mono _ _ _ _
      | exact puny_read.mono _ _ _
      | exact slices_ContainsFunc_byte_byte_at_puny_Decode_1.mono _ _
      | exact LeO.none _
      | refine LeO.ite ?_ ?_
      | refine LeO.bind ?_ (fun _ => ?_)
    · intro y0 y1 y2 y3 y4 y5
      unfold puny_Decode.l0
      repeat' first
      | (with_reducible exact ih0 _ _)
      | (with_reducible exact ih1 _ _ _ _ _ _)
      | (with_reducible exact ih2 _ _ _ _ _ _)
      | (with_reducible exact bytes_LastIndexByte.mono _ _ _)
      | (with_reducible exact puny_adapt.mono _ _ _ _)
      | (with_reducible exact puny_read.mono _ _ _)
      | (with_reducible exact slices_ContainsFunc_byte_byte_at_puny_Decode_1.mono _ _)
      | (with_reducible exact LeO.refl _)
      | (with_reducible exact LeO.none _)
      | (with_reducible refine LeO.ite ?_ ?_)
      | (with_reducible refine LeO.bind ?_ (fun _ => ?_))
      | exact ih0 _ _
      | exact ih1 _ _ _ _ _ _
      | exact ih2 _ _ _ _ _ _
      | exact bytes_LastIndexByte.mono _ _ _
      | exact puny_adapt.mono _ _ _ _
      | exact puny_read.mono _ _ _
      | exact slices_ContainsFunc_byte_byte_at_puny_Decode_1.mono _ _
      | exact LeO.none _
      | refine LeO.ite ?_ ?_
      | refine LeO.bind ?_ (fun _ => ?_)
theorem puny_Decode.mono : ∀ a0 k, LeO (puny_Decode.f k a0) (puny_Decode.f (k + 1) a0) := by
  intro a0 k
  obtain ⟨ih0, ih1, ih2⟩ := puny_Decode.mono_l k
  unfold puny_Decode.f
  repeat' first
      | (with_reducible exact ih0 _ _)
      | (with_reducible exact ih1 _ _ _ _ _ _)
      | (with_reducible exact ih2 _ _ _ _ _ _)
      | (with_reducible exact bytes_LastIndexByte.mono _ _ _)
      | (with_reducible exact puny_adapt.mono _ _ _ _)
      | (with_reducible exact puny_read.mono _ _ _)
      | (with_reducible exact slices_ContainsFunc_byte_byte_at_puny_Decode_1.mono _ _)
      | (with_reducible exact LeO.refl _)
      | (with_reducible exact LeO.none _)
      | (with_reducible refine LeO.ite ?_ ?_)
      | (with_reducible refine LeO.bind ?_ (fun _ => ?_))
      | exact ih0 _ _
      | exact ih1 _ _ _ _ _ _
      | exact ih2 _ _ _ _ _ _
      | exact bytes_LastIndexByte.mono _ _ _
      | exact puny_adapt.mono _ _ _ _
      | exact puny_read.mono _ _ _
      | exact slices_ContainsFunc_byte_byte_at_puny_Decode_1.mono _ _
      | exact LeO.none _
      | refine LeO.ite ?_ ?_
      | refine LeO.bind ?_ (fun _ => ?_)
set_option maxHeartbeats 8000000 in
set_option maxRecDepth 100000 in
theorem puny_Decode.calls (k : Nat) (P0_ : Nat → Prop) (A0 : Option Addr) (c0 : Nat) (l0 : List Int) (r1 : List Int) (r2 : Int) (w : World) (hs0 : Kd.V (Kd.int .u8) 5 w w.heap.size (fun k_ => P0_ k_) (.slice A0 l0.length c0) l0) (h : puny_Decode.f k l0 = some (r1, r2)) :
    Calls Try.prog 43 #[.slice A0 l0.length c0] w fun e w' => ∃ v0_ : Value, e = .returned (.tuple #[v0_, .int .i64 r2]) ∧ Kd.R (Kd.int .i64) 3 w' w.heap.size (fun k_ => (w.heap.size ≤ k_)) v0_ r1 ∧ Below w.heap.size w w' := by
  have HO0 := Aside0.mk (show Kd.V (Kd.int .u8) 5 w w.heap.size (fun k_ => (P0_ k_ ∨ w.heap.size ≤ k_)) (.slice A0 l0.length c0) l0 from Kd.V_mono hs0 (fun k_ hk => .inl hk))
  have HB := Aside0.mk (Below.refl w.heap.size w)
  have H : (if (l0.length : Int) > 12000 then (some (([] : List Int), 36)) else ((slices_ContainsFunc_byte_byte_at_puny_Decode_1.f k l0).bind fun t101 => (if t101 = true then (some (([] : List Int), 20)) else ((bytes_LastIndexByte.f k l0 45).bind fun t102 => (if t102 > 0 then (if 0 ≤ t102 then (if t102 ≤ (l0.length : Int) then ((some (l0.take (t102 : Int).toNat : List Int)).bind fun y103 => (puny_Decode.l0 k l0 ([] : List Int) t102 y103 (y103.length : Int) 0)) else (none)) else (none)) else (puny_Decode.j1 k l0 ([] : List Int))))))) = some (r1, r2) := h
  clear h
  by_cases c2 : (l0.length : Int) > 12000
  · rw [if_pos c2] at H
    have c2b0 : decide (12000 < (l0.length : Int)) = true := decide_eq_true c2
    have c2b1 : decide (12000 < l0.length) = true := decide_eq_true (by omega)
    clear c2
    simp only [Option.some.injEq, Prod.mk.injEq] at H
    obtain ⟨rfl, rfl⟩ := H
    go_enter Try.func43, Try.ntmps43
    go_wp2
    go_ret2
    exact ⟨_, by first | rfl | (simp [errW_none, errW_some] <;> rfl) | (simp [*, errW_none, errW_some] <;> rfl), by first | exact Kd.R_nil _ _ _ _ _ | exact Kd.N_nil _ _ _ _ _ | exact Kd.V_nil _ _ _ _ _ | exact Kd.Q_nil _ _ _ _ _ | exact Kd.S_nil _ _ _ _ _, by repeat (first | (with_reducible first | exact HB.out | apply below_alloc | apply pw_below_drewN | apply below_drew1) | exact HB.out)⟩
  · rw [if_neg c2] at H
    have c2b0 : decide (12000 < (l0.length : Int)) = false := decide_eq_false c2
    have c2b1 : decide (12000 < l0.length) = false := decide_eq_false (by omega)
    clear c2
    replace H := Option.bind_eq_some_iff.mp H
    obtain ⟨t101, A30, H⟩ := H
    replace H : (if t101 = true then (some (([] : List Int), 20)) else ((bytes_LastIndexByte.f k l0 45).bind fun t102 => (if t102 > 0 then (if 0 ≤ t102 then (if t102 ≤ (l0.length : Int) then ((some (l0.take (t102 : Int).toNat : List Int)).bind fun y103 => (puny_Decode.l0 k l0 ([] : List Int) t102 y103 (y103.length : Int) 0)) else (none)) else (none)) else (puny_Decode.j1 k l0 ([] : List Int))))) = some (r1, r2) := H
    have A3 := Aside0.mk A30
    clear A30
    by_cases c4 : t101 = true
    · subst c4
      have H1 : (some (([] : List Int), 20)) = some (r1, r2) := by rw [if_pos rfl] at H; exact H
      clear H
      have H := H1
      clear H1
      simp only [Option.some.injEq, Prod.mk.injEq] at H
      obtain ⟨rfl, rfl⟩ := H
      go_enter Try.func43, Try.ntmps43
      go_wp2_with (first | (go_at_call 46; (with_reducible refine (slices_ContainsFunc_byte_byte_at_puny_Decode_1.calls k _ _ l0 true _ ?side1 ?side2 A3.out).mono ?_); (case side1 => repeat (first | exact (Kd.V_reads' HO0.out).2.2 | (with_reducible refine Kd.C_alloc ?_ _) | (with_reducible refine Kd.C_drewN ?_ _) | (with_reducible refine Kd.C_drew ?_))); (case side2 => exact (Kd.V_reads' HO0.out).2.1); rintro e w' ⟨rfl, ⟨nd, rfl⟩⟩))
      go_ret2
      exact ⟨_, by first | rfl | (simp [errW_none, errW_some] <;> rfl) | (simp [*, errW_none, errW_some] <;> rfl), by first | exact Kd.R_nil _ _ _ _ _ | exact Kd.N_nil _ _ _ _ _ | exact Kd.V_nil _ _ _ _ _ | exact Kd.Q_nil _ _ _ _ _ | exact Kd.S_nil _ _ _ _ _, by repeat (first | (with_reducible first | exact HB.out | apply below_alloc | apply pw_below_drewN | apply below_drew1) | exact HB.out)⟩
    · replace c4 := Bool.eq_false_iff.mpr c4
      subst c4
      have H1 : ((bytes_LastIndexByte.f k l0 45).bind fun t102 => (if t102 > 0 then (if 0 ≤ t102 then (if t102 ≤ (l0.length : Int) then ((some (l0.take (t102 : Int).toNat : List Int)).bind fun y103 => (puny_Decode.l0 k l0 ([] : List Int) t102 y103 (y103.length : Int) 0)) else (none)) else (none)) else (puny_Decode.j1 k l0 ([] : List Int)))) = some (r1, r2) := by rw [if_neg (show ¬ (false = true) by decide)] at H; exact H
      clear H
      have H := H1
      clear H1
      replace H := Option.bind_eq_some_iff.mp H
      obtain ⟨t102, A50, H⟩ := H
      replace H : (if t102 > 0 then (if 0 ≤ t102 then (if t102 ≤ (l0.length : Int) then ((some (l0.take (t102 : Int).toNat : List Int)).bind fun y103 => (puny_Decode.l0 k l0 ([] : List Int) t102 y103 (y103.length : Int) 0)) else (none)) else (none)) else (puny_Decode.j1 k l0 ([] : List Int))) = some (r1, r2) := H
      have A5 := Aside0.mk A50
      clear A50
      have HC6 := Aside0.mk H
      clear H
      go_enter Try.func43, Try.ntmps43
      go_upto_if 26 with (first | (go_at_call 46; (with_reducible refine (slices_ContainsFunc_byte_byte_at_puny_Decode_1.calls k _ _ l0 false _ ?side1 ?side2 A3.out).mono ?_); (case side1 => repeat (first | exact (Kd.V_reads' HO0.out).2.2 | (with_reducible refine Kd.C_alloc ?_ _) | (with_reducible refine Kd.C_drewN ?_ _) | (with_reducible refine Kd.C_drew ?_))); (case side2 => exact (Kd.V_reads' HO0.out).2.1); rintro e w' ⟨rfl, ⟨nd, rfl⟩⟩) | ((with_reducible refine gate_callee (f := 64) rfl ?_); refine goesL_ (some 24) rfl rfl Try.func64 (by kernel_rfl) rfl #[.slice A0 l0.length c0, .int .u8 45] rfl (by (try simp only [List.map_toArray, List.map_cons, List.map_nil]); first | done | rfl | (simp only [List.length_drop, List.length_take]; rfl)) ?_; (with_reducible refine (bytes_LastIndexByte.calls k _ _ l0 45 t102 _ ?side1 ?side2 A5.out).mono ?_); (case side1 => repeat (first | exact (Kd.V_reads' HO0.out).2.2 | (with_reducible refine Kd.C_alloc ?_ _) | (with_reducible refine Kd.C_drewN ?_ _) | (with_reducible refine Kd.C_drew ?_))); (case side2 => exact (Kd.V_reads' HO0.out).2.1); rintro e w' ⟨rfl, ⟨nd, rfl⟩⟩; refine ⟨_, rfl, ?_⟩))
      (try simp only [Act.put, List.setIfInBounds_toArray, List.set_cons_zero, List.set_cons_succ])
      go_cut [0, 4] (fun v0 v4 wc => ∃ (kq : Nat) (x0_5 : List Int) (x4_5 : List Int), Aside0 (puny_Decode.j1 kq x0_5 x4_5 = some (r1, r2)) ∧ Aside0 (kq ≤ k) ∧ Aside0 (Kd.V (Kd.int .u8) 5 wc w.heap.size (fun k_ => (P0_ k_ ∨ w.heap.size ≤ k_) ∧ some k_ ≠ (v4 : Value).ownBlock) v0 x0_5) ∧ Aside0 (Kd.R (Kd.int .i64) 3 wc w.heap.size (fun k_ => (w.heap.size ≤ k_)) v4 x4_5) ∧ Aside0 (Below w.heap.size w wc))
      case first =>
        have H := HC6.out
        clear HC6
        by_cases c7 : t102 > 0
        · rw [if_pos c7] at H
          have c7b0 : decide (0 < t102) = true := decide_eq_true c7
          clear c7
          (first | rw [c7b0] | (simp only [i64_w, i32_w]; rw [c7b0]) | rw [c7b1] | (simp only [i64_w, i32_w]; rw [c7b1]) | skip)
          by_cases c8 : 0 ≤ t102
          · rw [if_pos c8] at H
            have c8b0 := eq_true c8
            have c8b1 : decide (0 ≤ t102) = true := decide_eq_true c8
            clear c8
            by_cases c9 : t102 ≤ (l0.length : Int)
            · rw [if_pos c9] at H
              have c9b0 := eq_true c9
              have c9b1 : decide (t102 ≤ (l0.length : Int)) = true := decide_eq_true c9
              clear c9
              obtain ⟨y103, hy103⟩ : ∃ y_ : List Int, y_ = (l0.take (t102 : Int).toNat) := ⟨_, rfl⟩
              replace H : (puny_Decode.l0 k l0 ([] : List Int) t102 y103 (y103.length : Int) 0) = some (r1, r2) := by first | (rw [hy103]; with_reducible exact H) | (have H2_ := (Option.bind_some _ _).symm.trans H; rw [hy103]; with_reducible exact H2_) | (have H2_ := (Option.bind_some _ _).symm.trans H; with_reducible exact H2_) | with_reducible exact H | (rw [hy103]; exact H) | exact H
              have Ny103 := Aside0.mk hy103
              clear hy103
              have H' := Aside0.mk H
              clear H
              have q10 : (t102 : Int) ≤ ((l0.length : Int) : Int) := of_decide_eq_true (by first | (with_reducible assumption) | assumption)
              obtain ⟨i010, hi010, _, hsz10, _⟩ := info_parts info5
              have hroom10 : l0.length ≤ c0 := (Kd.V_reads' HO0.out).2.1
              have hC10 : Kd.F (Kd.int .u8) _ _ A0 l0.length l0 := (Kd.V_at (base := w.heap.size) HO0.out).2.2
              have hcut10 := cut_to (P := Try.prog) 22 5 .i64 Try.underlying22 hi010 A0 l0.length c0 t102 (of_decide_eq_true (by first | (with_reducible assumption) | assumption)) q10 hroom10
              have hr10 := Kd.F_take (m := (t102 : Int).toNat) hC10 (by omega)
              have hy10 : y103.length = (t102 : Int).toNat := (by rw [Ny103.out, List.length_take]; omega)
              rw [← Ny103.out] at hr10
              rw [← hy10] at hcut10
              have HO107 := Aside0.mk (show Kd.V (Kd.int .u8) 5 _ w.heap.size _ (.slice A0 y103.length c0) y103 from Kd.V_mk (by omega) hr10)
              have HC107 := Aside0.mk (show y103.length ≤ c0 from by omega)
              clear hr10 hC10 hroom10 hi010 hsz10
              have KY10 := Aside0.mk hy10
              clear hy10
              replace q10 := eq_true q10
              go_wp2
              go_loopg [4, 31] k (fun kq v4 v31 w' => ∃ (x4_1 : List Int) (x31_1 : Int), v31 = .int .i64 x31_1 ∧ Aside0 (puny_Decode.l0 kq l0 x4_1 t102 y103 (y103.length : Int) x31_1 = some (r1, r2)) ∧ Aside0 (kq ≤ k) ∧ Aside0 (Kd.V (Kd.int .u8) 5 w' w.heap.size (fun k_ => (P0_ k_ ∨ w.heap.size ≤ k_) ∧ some k_ ≠ (v4 : Value).ownBlock) (.slice A0 l0.length c0) l0) ∧ Aside0 (Kd.R (Kd.int .i64) 3 w' w.heap.size (fun k_ => (w.heap.size ≤ k_)) v4 x4_1) ∧ Aside0 (Kd.V (Kd.int .u8) 5 w' w.heap.size (fun k_ => (P0_ k_ ∨ w.heap.size ≤ k_) ∧ some k_ ≠ (v4 : Value).ownBlock) (.slice A0 y103.length c0) y103) ∧ Aside0 (Below w.heap.size w w'))
              case atStart => exact ⟨(([] : List Int)), (0), (by first | rfl | (simp; done) | (simp [*]; done)), H', ⟨Nat.le_refl _⟩, ⟨by (with_reducible repeat (first | apply Kd.V_alloc | apply Kd.V_drewN | apply Kd.V_drew)); exact Kd.V_mono HO0.out (fun _ hk => ⟨hk, (by simp [Value.ownBlock])⟩)⟩, ⟨by first | exact Kd.R_nil _ _ _ _ _ | exact Kd.N_nil _ _ _ _ _ | exact Kd.V_nil _ _ _ _ _ | exact Kd.Q_nil _ _ _ _ _ | exact Kd.S_nil _ _ _ _ _⟩, ⟨by (with_reducible repeat (first | apply Kd.V_alloc | apply Kd.V_drewN | apply Kd.V_drew)); exact Kd.V_mono HO107.out (fun _ hk => ⟨hk, (by simp [Value.ownBlock])⟩)⟩, ⟨by repeat (first | (with_reducible first | exact HB.out | apply below_alloc | apply pw_below_drewN | apply below_drew1) | exact HB.out)⟩⟩
              case round =>
                clear H'
                try clear q1
                try clear c2
                try clear c2b0
                try clear c2b1
                try clear p2
                try clear c4
                try clear c6
                try clear c7
                try clear c7b0
                try clear c7b1
                try clear c8
                try clear c8b0
                try clear c8b1
                try clear c9
                try clear c9b0
                try clear c9b1
                try clear q10
                try clear q10
                obtain ⟨x4_1, x31_1, rfl, HA, HK1, HO_0, HO_4, HO_29, HB⟩ := hrel
                cases gk with
                | zero => exact absurd HA.out (by simp [puny_Decode.l0])
                | succ k1 =>
                  have H := HA.out
                  clear HA
                  simp only [puny_Decode.l0] at H
                  by_cases c11 : x31_1 < (y103.length : Int)
                  · rw [if_pos c11] at H
                    have c11b0 : decide (x31_1 < (y103.length : Int)) = true := decide_eq_true c11
                    clear c11
                    by_cases c12 : 0 ≤ x31_1
                    · rw [if_pos c12] at H
                      have c12b0 : decide (0 ≤ x31_1) = true := decide_eq_true c12
                      clear c12
                      by_cases c13 : x31_1 < (y103.length : Int)
                      · rw [if_pos c13] at H
                        have c13b0 : decide (x31_1 < (y103.length : Int)) = true := decide_eq_true c13
                        clear c13
                        by_cases c14 : x4_1.length < 17592186044416
                        · rw [if_pos c14] at H
                          have LMc14 := Aside0.mk c14
                          clear c14
                          obtain ⟨y109, hy109⟩ : ∃ y_ : List Int, y_ = (x4_1 ++ [wrap64 (rd y103 x31_1)]) := ⟨_, rfl⟩
                          replace H : (puny_Decode.l0 k1 l0 y109 t102 y103 (y103.length : Int) (wrap64 (x31_1 + 1))) = some (r1, r2) := by first | (rw [hy109]; with_reducible exact H) | (have H2_ := (Option.bind_some _ _).symm.trans H; rw [hy109]; with_reducible exact H2_) | (have H2_ := (Option.bind_some _ _).symm.trans H; with_reducible exact H2_) | with_reducible exact H | (rw [hy109]; exact H) | exact H
                          have Ny109 := Aside0.mk hy109
                          clear hy109
                          have H' := Aside0.mk H
                          clear H
                          have p108 : 0 ≤ (x31_1 : Int) := of_decide_eq_true (by first | (with_reducible assumption) | assumption)
                          have q108 : x31_1 < (y103.length : Int) := of_decide_eq_true (by first | (with_reducible assumption) | assumption)
                          obtain ⟨ad108, e108, hx108_0⟩ := Kd.at_int (Kd.V_reads' HO_29.out).2.2 x31_1 p108 q108
                          cases e108
                          replace p108 := eq_true p108
                          replace q108 := eq_true q108
                          go_wp2_with (first | ((with_reducible refine gate_builtin (b := .append) (xs := #[.tmp 35, .tmp 38]) rfl ?_); at_builtin; refine Kd.R_append (Kd.int .i64) (w0 := w) w.heap.size rfl (.tmp 35) (.tmp 38) 31 3 (.int .i64 0) 8 rfl Try.underlying31 info3 rfl (by decide) (by omega) u4 x4_1 (wrap64 (rd y103 x31_1)) [.int .i64 (wrap64 (rd y103 x31_1))] (fun k_ => (w.heap.size ≤ k_)) (fun _ => False) rfl rfl ?aP (fun _ hk => hk.elim) ?aF ?aO ?aB ?aS ?aL ?_; (case aP => exact rfl); (case aB => exact (by repeat (first | (with_reducible first | exact HB.out | apply below_alloc | apply pw_below_drewN | apply below_drew1) | exact HB.out))); (case aF => exact (fun k_ hk => (Nat.le_trans (below_size (by repeat (first | (with_reducible first | exact HB.out | apply below_alloc | apply pw_below_drewN | apply below_drew1) | exact HB.out))) hk))); (case aO => exact (by (with_reducible repeat (first | apply Kd.R_alloc | apply Kd.R_drewN | apply Kd.R_drew)); exact HO_4.out)); (case aS => exact (below_size (by repeat (first | (with_reducible first | exact HB.out | apply below_alloc | apply pw_below_drewN | apply below_drew1) | exact HB.out)))); (case aL => have := LMc14.out; omega); intro v110 w15 ho hb hg hat; rw [← Ny109.out] at ho; have n0_ := Aside0.mk (Kd.V_afterv (ok := (fun k_ => (P0_ k_ ∨ w.heap.size ≤ k_))) (by (with_reducible repeat (first | apply Kd.V_alloc | apply Kd.V_drewN | apply Kd.V_drew)); exact HO_0.out) hg hat); have n1_ := Aside0.mk (Kd.V_afterv (ok := (fun k_ => (P0_ k_ ∨ w.heap.size ≤ k_))) (by (with_reducible repeat (first | apply Kd.V_alloc | apply Kd.V_drewN | apply Kd.V_drew)); exact HO_29.out) hg hat); have n2_ := Aside0.mk (hb); have n3_ := Aside0.mk (ho); clear HO_0; clear HO_29; clear HB; clear HO_4; have HO_0 := n0_; have HO_29 := n1_; have HB := n2_; have HO111 := n3_; clear n0_ n1_ n2_ n3_; clear ho hb hg hat))
                          go_roundg k1
                          case measure => have := HK1.out; omega
                          case rel => exact ⟨(y109), (wrap64 (x31_1 + 1)), (by first | rfl | (simp; done) | (simp [*]; done)), H', ⟨by have := HK1.out; omega⟩, ⟨by (with_reducible repeat (first | apply Kd.V_alloc | apply Kd.V_drewN | apply Kd.V_drew)); exact HO_0.out⟩, ⟨by (with_reducible repeat (first | apply Kd.R_alloc | apply Kd.R_drewN | apply Kd.R_drew)); exact HO111.out⟩, ⟨by (with_reducible repeat (first | apply Kd.V_alloc | apply Kd.V_drewN | apply Kd.V_drew)); exact HO_29.out⟩, ⟨by repeat (first | (with_reducible first | exact HB.out | apply below_alloc | apply pw_below_drewN | apply below_drew1) | exact HB.out)⟩⟩
                        · rw [if_neg c14] at H
                          exact absurd H (by simp)
                      · rw [if_neg c13] at H
                        exact absurd H (by simp)
                    · rw [if_neg c12] at H
                      exact absurd H (by simp)
                  · rw [if_neg c11] at H
                    have c11b0 : decide (x31_1 < (y103.length : Int)) = false := decide_eq_false c11
                    clear c11
                    obtain ⟨ji16, hji16⟩ : ∃ j_ : Int, (wrap64 (t102 + 1)) = j_ := ⟨_, rfl⟩
                    replace H : (if 0 ≤ (ji16) then (if (ji16) ≤ (l0.length : Int) then (puny_Decode.j1 k1 (l0.drop ((ji16) : Int).toNat) x4_1) else (none)) else (none)) = some (r1, r2) := by first | (rw [hji16] at H; exact H) | (simp only [hji16] at H ⊢; exact H)
                    have hji16w : (IntKind.i64.wrap (t102 + 1)) = ji16 := (i64_w _).trans hji16
                    by_cases c17 : 0 ≤ (ji16)
                    · rw [if_pos c17] at H
                      have c17b0 := eq_true c17
                      have c17b1 : decide (0 ≤ (ji16)) = true := decide_eq_true c17
                      clear c17
                      by_cases c18 : (ji16) ≤ (l0.length : Int)
                      · rw [if_pos c18] at H
                        have c18b0 := eq_true c18
                        have c18b1 : decide ((ji16) ≤ (l0.length : Int)) = true := decide_eq_true c18
                        clear c18
                        obtain ⟨y112, hy112⟩ : ∃ y_ : List Int, y_ = (l0.drop ((ji16) : Int).toNat) := ⟨_, rfl⟩
                        replace H : (puny_Decode.j1 k1 y112 x4_1) = some (r1, r2) := by first | (rw [hy112]; with_reducible exact H) | (have H2_ := (Option.bind_some _ _).symm.trans H; rw [hy112]; with_reducible exact H2_) | (have H2_ := (Option.bind_some _ _).symm.trans H; with_reducible exact H2_) | with_reducible exact H | (rw [hy112]; exact H) | exact H
                        have Ny112 := Aside0.mk hy112
                        clear hy112
                        have H' := Aside0.mk H
                        clear H
                        have q19 : ((ji16) : Int) ≤ ((l0.length : Int) : Int) := of_decide_eq_true (by first | (with_reducible assumption) | assumption)
                        obtain ⟨i019, hi019, _, hsz19, _⟩ := info_parts info5
                        have hroom19 : l0.length ≤ c0 := (Kd.V_reads' HO_0.out).2.1
                        have hC19 : Kd.F (Kd.int .u8) _ _ A0 l0.length l0 := (Kd.V_at (base := w.heap.size) HO_0.out).2.2
                        have q019 : (0 : Int) ≤ ((ji16) : Int) := of_decide_eq_true (by first | (with_reducible assumption) | assumption)
                        have hcut19 := cut_from (P := Try.prog) 22 5 .i64 Try.underlying22 hi019 1 hsz19 A0 l0.length c0 (ji16) q019 q19
                        have hr19 := Kd.F_cut (m := ((ji16) : Int).toNat) (c := c0) hC19 (by omega) hroom19
                        obtain ⟨A19, hA19⟩ : ∃ A1, A1 = (if c0 = ((ji16) : Int).toNat then A0 else (A0 : Option Addr).map (·.add (((ji16) : Int).toNat * 1))) := ⟨_, rfl⟩
                        obtain ⟨c19, hc19⟩ : ∃ c1, c1 = c0 - ((ji16) : Int).toNat := ⟨_, rfl⟩
                        have hy19 : y112.length = l0.length - ((ji16) : Int).toNat := (by rw [Ny112.out, List.length_drop] <;> omega)
                        rw [show (l0).drop ((ji16) : Int).toNat = y112 from Ny112.out.symm] at hr19
                        replace hr19 : Kd.F (Kd.int .u8) _ _ A19 y112.length y112 := (by rw [hA19]; exact hr19)
                        rw [← hy19, ← hA19, ← hc19] at hcut19
                        have HO116 := Aside0.mk (show Kd.V (Kd.int .u8) 5 _ w.heap.size _ (.slice A19 y112.length c19) y112 from Kd.V_mk (by rw [hy19, hc19]; exact Nat.sub_le_sub_right hroom19 _) hr19)
                        have HC116 := Aside0.mk (show y112.length ≤ c19 from by rw [hy19, hc19]; exact Nat.sub_le_sub_right hroom19 _)
                        clear hr19 hC19 hroom19 hi019 hsz19 hc19
                        have KY19 := Aside0.mk hy19
                        have KA19 := Aside0.mk hA19
                        clear hy19 hA19
                        replace q19 := eq_true q19
                        go_wp2
                        go_meet
                        case rel => exact ⟨_, (y112), (x4_1), H', ⟨by have := HK1.out; first | omega | exact Nat.le_refl _⟩, ⟨by (with_reducible repeat (first | apply Kd.V_alloc | apply Kd.V_drewN | apply Kd.V_drew)); exact HO116.out⟩, ⟨by (with_reducible repeat (first | apply Kd.R_alloc | apply Kd.R_drewN | apply Kd.R_drew)); exact HO_4.out⟩, ⟨by repeat (first | (with_reducible first | exact HB.out | apply below_alloc | apply pw_below_drewN | apply below_drew1) | exact HB.out)⟩⟩
                      · rw [if_neg c18] at H
                        exact absurd H (by simp)
                    · rw [if_neg c17] at H
                      exact absurd H (by simp)
            · rw [if_neg c9] at H
              exact absurd H (by simp)
          · rw [if_neg c8] at H
            exact absurd H (by simp)
        · rw [if_neg c7] at H
          have c7b0 : decide (0 < t102) = false := decide_eq_false c7
          clear c7
          (first | rw [c7b0] | (simp only [i64_w, i32_w]; rw [c7b0]) | rw [c7b1] | (simp only [i64_w, i32_w]; rw [c7b1]) | skip)
          have H' := Aside0.mk H
          clear H
          go_wp2
          go_meet
          case rel => exact ⟨_, (l0), (([] : List Int)), H', ⟨by first | omega | exact Nat.le_refl _⟩, ⟨by (with_reducible repeat (first | apply Kd.V_alloc | apply Kd.V_drewN | apply Kd.V_drew)); exact Kd.V_mono HO0.out (fun _ hk => ⟨hk, (by simp [Value.ownBlock])⟩)⟩, ⟨by first | exact Kd.R_nil _ _ _ _ _ | exact Kd.N_nil _ _ _ _ _ | exact Kd.V_nil _ _ _ _ _ | exact Kd.Q_nil _ _ _ _ _ | exact Kd.S_nil _ _ _ _ _⟩, ⟨by repeat (first | (with_reducible first | exact HB.out | apply below_alloc | apply pw_below_drewN | apply below_drew1) | exact HB.out)⟩⟩
      case rest =>
        clear HC6
        try clear c1
        try clear p1
        try clear q1
        try clear hx1
        try clear c2
        try clear c2b0
        try clear c2b1
        try clear p2
        try clear c4
        try clear c6
        try clear p6
        try clear c7
        try clear c7b0
        try clear c7b1
        try clear c8
        try clear c8b0
        try clear c8b1
        try clear c9
        try clear c9b0
        try clear c9b1
        try clear p10
        try clear q10
        try clear hx10
        try clear c11
        try clear c11b0
        try clear c12
        try clear c12b0
        try clear c13
        try clear c13b0
        try clear c14
        try clear c17
        try clear c17b0
        try clear c17b1
        try clear c18
        try clear c18b0
        try clear c18b1
        try clear c19
        try clear q19
        try clear hx108_0
        try clear p108
        try clear p2
        try clear q019
        try clear q1
        try clear q10
        try clear q108
        try clear q19
        obtain ⟨kq, x0_5, x4_5, HA, HJ5, HO_0, HO_4, HB⟩ := hcut
        cases kq with
        | zero => exact absurd HA.out (by simp [puny_Decode.j1])
        | succ kj5 =>
          have H := HA.out
          clear HA
          simp only [puny_Decode.j1] at H
          have H' := Aside0.mk H
          clear H
          go_wp2
          go_loopg [0, 4, 8, 9, 10, 11] kj5 (fun kq v0 v4 v8 v9 v10 v11 w' => ∃ (x0_2 : List Int) (x4_2 : List Int) (x8_2 : Int) (x9_2 : Int) (x10_2 : Int) (x11_2 : Bool), v8 = .int .i64 x8_2 ∧ v9 = .int .i64 x9_2 ∧ v10 = .int .i64 x10_2 ∧ v11 = .bool x11_2 ∧ Aside0 (puny_Decode.l1 kq x0_2 x4_2 x8_2 x9_2 x10_2 x11_2 = some (r1, r2)) ∧ Aside0 (kq ≤ kj5) ∧ Aside0 (Kd.V (Kd.int .u8) 5 w' w.heap.size (fun k_ => (P0_ k_ ∨ w.heap.size ≤ k_) ∧ some k_ ≠ (v4 : Value).ownBlock) v0 x0_2) ∧ Aside0 (Kd.R (Kd.int .i64) 3 w' w.heap.size (fun k_ => (w.heap.size ≤ k_)) v4 x4_2) ∧ Aside0 (Below w.heap.size w w'))
          case atStart => exact ⟨(x0_5), (x4_5), (128), (72), (0), (true), (by first | rfl | (simp; done) | (simp [*]; done)), (by first | rfl | (simp; done) | (simp [*]; done)), (by first | rfl | (simp; done) | (simp [*]; done)), (by first | rfl | (simp; done) | (simp [*]; done)), H', ⟨Nat.le_refl _⟩, ⟨by (with_reducible repeat (first | apply Kd.V_alloc | apply Kd.V_drewN | apply Kd.V_drew)); exact HO_0.out⟩, ⟨by (with_reducible repeat (first | apply Kd.R_alloc | apply Kd.R_drewN | apply Kd.R_drew)); exact HO_4.out⟩, ⟨by repeat (first | (with_reducible first | exact HB.out | apply below_alloc | apply pw_below_drewN | apply below_drew1) | exact HB.out)⟩⟩
          case round =>
            clear H'
            try clear c1
            try clear p1
            try clear q1
            try clear hx1
            try clear c2
            try clear c2b0
            try clear c2b1
            try clear p2
            try clear c4
            try clear c6
            try clear p6
            try clear c7
            try clear c7b0
            try clear c7b1
            try clear c8
            try clear c8b0
            try clear c8b1
            try clear c9
            try clear c9b0
            try clear c9b1
            try clear p10
            try clear q10
            try clear hx10
            try clear c11
            try clear c11b0
            try clear c12
            try clear c12b0
            try clear c13
            try clear c13b0
            try clear c14
            try clear c17
            try clear c17b0
            try clear c17b1
            try clear c18
            try clear c18b0
            try clear c18b1
            try clear c19
            try clear q19
            try clear hx108_0
            try clear p1
            try clear p10
            try clear p108
            try clear p2
            try clear p6
            try clear q019
            try clear q1
            try clear q10
            try clear q108
            try clear q19
            obtain ⟨x0_2, x4_2, x8_2, x9_2, x10_2, x11_2, rfl, rfl, rfl, rfl, HA, HK2, HO_0, HO_4, HB⟩ := hrel
            cases gk with
            | zero => exact absurd HA.out (by simp [puny_Decode.l1])
            | succ k2 =>
              have H := HA.out
              clear HA
              simp only [puny_Decode.l1] at H
              by_cases c20 : (x0_2.length : Int) > 0
              · rw [if_pos c20] at H
                have c20b0 : decide (0 < (x0_2.length : Int)) = true := decide_eq_true c20
                have c20b1 : decide (0 < x0_2.length) = true := decide_eq_true (by omega)
                clear c20
                replace H := Option.bind_eq_some_iff.mp H
                obtain ⟨⟨t117, t118, t119⟩, A210, H⟩ := H
                replace H : (if t119 = 0 then (if t117 > (wrap64 (2147483647 - x10_2)) then (some (([] : List Int), 21)) else ((puny_adapt.f k2 t117 (wrap64 ((x4_2.length : Int) + 1)) x11_2).bind fun t120 => (if (wrap64 ((x4_2.length : Int) + 1)) = 0 then (none) else (if (wrap64 (Int.tdiv (wrap64 (x10_2 + t117)) (wrap64 ((x4_2.length : Int) + 1)))) > (wrap64 (2147483647 - x8_2)) then (some (([] : List Int), 21)) else ((utf_Scalar.f (wrap64 (x8_2 + (wrap64 (Int.tdiv (wrap64 (x10_2 + t117)) (wrap64 ((x4_2.length : Int) + 1))))))).bind fun t121 => (if t121 = true then ((slices_Insert_int_int.f x4_2 (Int.tmod (wrap64 (x10_2 + t117)) (wrap64 ((x4_2.length : Int) + 1))) (([wrap64 (x8_2 + (wrap64 (Int.tdiv (wrap64 (x10_2 + t117)) (wrap64 ((x4_2.length : Int) + 1)))))] : List Int))).bind fun t125 => (if 0 ≤ t118 then (if t118 ≤ (x0_2.length : Int) then (puny_Decode.l1 k2 (x0_2.drop (t118 : Int).toNat) t125 (wrap64 (x8_2 + (wrap64 (Int.tdiv (wrap64 (x10_2 + t117)) (wrap64 ((x4_2.length : Int) + 1)))))) t120 (wrap64 ((Int.tmod (wrap64 (x10_2 + t117)) (wrap64 ((x4_2.length : Int) + 1))) + 1)) false) else (none)) else (none))) else (some (([] : List Int), 10)))))))) else (some (([] : List Int), t119))) = some (r1, r2) := H
                have A21 := Aside0.mk A210
                clear A210
                by_cases c22 : t119 = 0
                · rw [if_pos c22] at H
                  have c22b0 : (t119 == 0) = true := beq_iff_eq.mpr c22
                  have c22b1 : (t119 != 0) = false := bne_eq_false_iff_eq.mpr c22
                  clear c22
                  by_cases c23 : t117 > (wrap64 (2147483647 - x10_2))
                  · rw [if_pos c23] at H
                    have c23b0 : decide ((wrap64 (2147483647 - x10_2)) < t117) = true := decide_eq_true c23
                    clear c23
                    simp only [Option.some.injEq, Prod.mk.injEq] at H
                    obtain ⟨rfl, rfl⟩ := H
                    obtain ⟨Ao24, co24, eo24⟩ := Kd.V_slice HO_0.out
                    subst eo24
                    go_wp2_with (first | ((with_reducible refine gate_callee (f := 65) rfl ?_); refine goesL_ (some 51) rfl rfl Try.func65 (by kernel_rfl) rfl #[.slice Ao24 x0_2.length co24, .int .i64 x9_2] rfl (by (try simp only [List.map_toArray, List.map_cons, List.map_nil]); first | done | rfl | (simp only [List.length_drop, List.length_take]; rfl)) ?_; (with_reducible refine (puny_read.calls k2 _ _ x0_2 x9_2 t117 t118 t119 _ ?side1 ?side2 A21.out).mono ?_); (case side1 => repeat (first | exact (Kd.V_reads' HO_0.out).2.2 | (with_reducible refine Kd.C_alloc ?_ _) | (with_reducible refine Kd.C_drewN ?_ _) | (with_reducible refine Kd.C_drew ?_))); (case side2 => exact (Kd.V_reads' HO_0.out).2.1); rintro e w25 ⟨rfl, hb⟩; refine ⟨_, rfl, ?_⟩; have n0_ := Aside0.mk (Kd.V_below (by (with_reducible repeat (first | apply Kd.V_alloc | apply Kd.V_drewN | apply Kd.V_drew)); exact HO_0.out) hb); have n1_ := Aside0.mk (Kd.R_below (by (with_reducible repeat (first | apply Kd.R_alloc | apply Kd.R_drewN | apply Kd.R_drew)); exact HO_4.out) hb); have n2_ := Aside0.mk (below_step (by repeat (first | (with_reducible first | exact HB.out | apply below_alloc | apply pw_below_drewN | apply below_drew1) | exact HB.out)) hb); clear HO_0; clear HO_4; clear HB; have HO_0 := n0_; have HO_4 := n1_; have HB := n2_; clear n0_ n1_ n2_; (try clear hb); (try clear hb2); (try clear hk); (try clear hi); obtain ⟨Ao26, co26, eo26⟩ := Kd.R_slice HO_4.out; subst eo26))
                    go_ret2
                    exact ⟨_, by first | rfl | (simp [errW_none, errW_some] <;> rfl) | (simp [*, errW_none, errW_some] <;> rfl), by first | exact Kd.R_nil _ _ _ _ _ | exact Kd.N_nil _ _ _ _ _ | exact Kd.V_nil _ _ _ _ _ | exact Kd.Q_nil _ _ _ _ _ | exact Kd.S_nil _ _ _ _ _, by repeat (first | (with_reducible first | exact HB.out | apply below_alloc | apply pw_below_drewN | apply below_drew1) | exact HB.out)⟩
                  · rw [if_neg c23] at H
                    have c23b0 : decide ((wrap64 (2147483647 - x10_2)) < t117) = false := decide_eq_false c23
                    clear c23
                    replace H := Option.bind_eq_some_iff.mp H
                    obtain ⟨t120, A270, H⟩ := H
                    replace H : (if (wrap64 ((x4_2.length : Int) + 1)) = 0 then (none) else (if (wrap64 (Int.tdiv (wrap64 (x10_2 + t117)) (wrap64 ((x4_2.length : Int) + 1)))) > (wrap64 (2147483647 - x8_2)) then (some (([] : List Int), 21)) else ((utf_Scalar.f (wrap64 (x8_2 + (wrap64 (Int.tdiv (wrap64 (x10_2 + t117)) (wrap64 ((x4_2.length : Int) + 1))))))).bind fun t121 => (if t121 = true then ((slices_Insert_int_int.f x4_2 (Int.tmod (wrap64 (x10_2 + t117)) (wrap64 ((x4_2.length : Int) + 1))) (([wrap64 (x8_2 + (wrap64 (Int.tdiv (wrap64 (x10_2 + t117)) (wrap64 ((x4_2.length : Int) + 1)))))] : List Int))).bind fun t125 => (if 0 ≤ t118 then (if t118 ≤ (x0_2.length : Int) then (puny_Decode.l1 k2 (x0_2.drop (t118 : Int).toNat) t125 (wrap64 (x8_2 + (wrap64 (Int.tdiv (wrap64 (x10_2 + t117)) (wrap64 ((x4_2.length : Int) + 1)))))) t120 (wrap64 ((Int.tmod (wrap64 (x10_2 + t117)) (wrap64 ((x4_2.length : Int) + 1))) + 1)) false) else (none)) else (none))) else (some (([] : List Int), 10)))))) = some (r1, r2) := H
                    have A27 := Aside0.mk A270
                    clear A270
                    by_cases c28 : (wrap64 ((x4_2.length : Int) + 1)) = 0
                    · rw [if_pos c28] at H
                      exact absurd H (by simp)
                    · rw [if_neg c28] at H
                      have c28b0 : ((wrap64 ((x4_2.length : Int) + 1)) == 0) = false := beq_eq_false_iff_ne.mpr c28
                      have c28b1 : ((wrap64 ((x4_2.length : Int) + 1)) != 0) = true := bne_iff_ne.mpr c28
                      by_cases c29 : (wrap64 (Int.tdiv (wrap64 (x10_2 + t117)) (wrap64 ((x4_2.length : Int) + 1)))) > (wrap64 (2147483647 - x8_2))
                      · rw [if_pos c29] at H
                        have c29b0 : decide ((wrap64 (2147483647 - x8_2)) < (wrap64 (Int.tdiv (wrap64 (x10_2 + t117)) (wrap64 ((x4_2.length : Int) + 1))))) = true := decide_eq_true c29
                        clear c29
                        simp only [Option.some.injEq, Prod.mk.injEq] at H
                        obtain ⟨rfl, rfl⟩ := H
                        obtain ⟨Ao30, co30, eo30⟩ := Kd.V_slice HO_0.out
                        subst eo30
                        go_wp2_with (first | ((with_reducible refine gate_callee (f := 65) rfl ?_); refine goesL_ (some 51) rfl rfl Try.func65 (by kernel_rfl) rfl #[.slice Ao30 x0_2.length co30, .int .i64 x9_2] rfl (by (try simp only [List.map_toArray, List.map_cons, List.map_nil]); first | done | rfl | (simp only [List.length_drop, List.length_take]; rfl)) ?_; (with_reducible refine (puny_read.calls k2 _ _ x0_2 x9_2 t117 t118 t119 _ ?side1 ?side2 A21.out).mono ?_); (case side1 => repeat (first | exact (Kd.V_reads' HO_0.out).2.2 | (with_reducible refine Kd.C_alloc ?_ _) | (with_reducible refine Kd.C_drewN ?_ _) | (with_reducible refine Kd.C_drew ?_))); (case side2 => exact (Kd.V_reads' HO_0.out).2.1); rintro e w31 ⟨rfl, hb⟩; refine ⟨_, rfl, ?_⟩; have n0_ := Aside0.mk (Kd.V_below (by (with_reducible repeat (first | apply Kd.V_alloc | apply Kd.V_drewN | apply Kd.V_drew)); exact HO_0.out) hb); have n1_ := Aside0.mk (Kd.R_below (by (with_reducible repeat (first | apply Kd.R_alloc | apply Kd.R_drewN | apply Kd.R_drew)); exact HO_4.out) hb); have n2_ := Aside0.mk (below_step (by repeat (first | (with_reducible first | exact HB.out | apply below_alloc | apply pw_below_drewN | apply below_drew1) | exact HB.out)) hb); clear HO_0; clear HO_4; clear HB; have HO_0 := n0_; have HO_4 := n1_; have HB := n2_; clear n0_ n1_ n2_; (try clear hb); (try clear hb2); (try clear hk); (try clear hi); obtain ⟨Ao32, co32, eo32⟩ := Kd.R_slice HO_4.out; subst eo32) | ((with_reducible refine gate_callee (f := 53) rfl ?_); refine goesL_ (some 71) rfl rfl Try.func53 (by kernel_rfl) rfl #[.int .i64 t117, .int .i64 (wrap64 ((x4_2.length : Int) + 1)), .bool x11_2] rfl (by (try simp only [List.map_toArray, List.map_cons, List.map_nil]); first | done | rfl | (simp only [List.length_drop, List.length_take]; rfl)) ?_; (with_reducible refine (puny_adapt.calls k2 t117 (wrap64 ((x4_2.length : Int) + 1)) x11_2 t120 _ A27.out).mono ?_); rintro e w' ⟨rfl, ⟨nd, rfl⟩⟩; refine ⟨_, rfl, ?_⟩))
                        go_ret2
                        exact ⟨_, by first | rfl | (simp [errW_none, errW_some] <;> rfl) | (simp [*, errW_none, errW_some] <;> rfl), by first | exact Kd.R_nil _ _ _ _ _ | exact Kd.N_nil _ _ _ _ _ | exact Kd.V_nil _ _ _ _ _ | exact Kd.Q_nil _ _ _ _ _ | exact Kd.S_nil _ _ _ _ _, by repeat (first | (with_reducible first | exact HB.out | apply below_alloc | apply pw_below_drewN | apply below_drew1) | exact HB.out)⟩
                      · rw [if_neg c29] at H
                        have c29b0 : decide ((wrap64 (2147483647 - x8_2)) < (wrap64 (Int.tdiv (wrap64 (x10_2 + t117)) (wrap64 ((x4_2.length : Int) + 1))))) = false := decide_eq_false c29
                        clear c29
                        replace H := Option.bind_eq_some_iff.mp H
                        obtain ⟨t121, A330, H⟩ := H
                        replace H : (if t121 = true then ((slices_Insert_int_int.f x4_2 (Int.tmod (wrap64 (x10_2 + t117)) (wrap64 ((x4_2.length : Int) + 1))) (([wrap64 (x8_2 + (wrap64 (Int.tdiv (wrap64 (x10_2 + t117)) (wrap64 ((x4_2.length : Int) + 1)))))] : List Int))).bind fun t125 => (if 0 ≤ t118 then (if t118 ≤ (x0_2.length : Int) then (puny_Decode.l1 k2 (x0_2.drop (t118 : Int).toNat) t125 (wrap64 (x8_2 + (wrap64 (Int.tdiv (wrap64 (x10_2 + t117)) (wrap64 ((x4_2.length : Int) + 1)))))) t120 (wrap64 ((Int.tmod (wrap64 (x10_2 + t117)) (wrap64 ((x4_2.length : Int) + 1))) + 1)) false) else (none)) else (none))) else (some (([] : List Int), 10))) = some (r1, r2) := H
                        have A33 := Aside0.mk A330
                        clear A330
                        by_cases c34 : t121 = true
                        · subst c34
                          have H1 : ((slices_Insert_int_int.f x4_2 (Int.tmod (wrap64 (x10_2 + t117)) (wrap64 ((x4_2.length : Int) + 1))) (([wrap64 (x8_2 + (wrap64 (Int.tdiv (wrap64 (x10_2 + t117)) (wrap64 ((x4_2.length : Int) + 1)))))] : List Int))).bind fun t125 => (if 0 ≤ t118 then (if t118 ≤ (x0_2.length : Int) then (puny_Decode.l1 k2 (x0_2.drop (t118 : Int).toNat) t125 (wrap64 (x8_2 + (wrap64 (Int.tdiv (wrap64 (x10_2 + t117)) (wrap64 ((x4_2.length : Int) + 1)))))) t120 (wrap64 ((Int.tmod (wrap64 (x10_2 + t117)) (wrap64 ((x4_2.length : Int) + 1))) + 1)) false) else (none)) else (none))) = some (r1, r2) := by rw [if_pos rfl] at H; exact H
                          clear H
                          have H := H1
                          clear H1
                          obtain ⟨y122, hy122⟩ : ∃ y_ : List Int, y_ = (([wrap64 (x8_2 + (wrap64 (Int.tdiv (wrap64 (x10_2 + t117)) (wrap64 ((x4_2.length : Int) + 1)))))] : List Int)) := ⟨_, rfl⟩
                          replace H : ((slices_Insert_int_int.f x4_2 (Int.tmod (wrap64 (x10_2 + t117)) (wrap64 ((x4_2.length : Int) + 1))) y122).bind fun t125 => (if 0 ≤ t118 then (if t118 ≤ (x0_2.length : Int) then (puny_Decode.l1 k2 (x0_2.drop (t118 : Int).toNat) t125 (wrap64 (x8_2 + (wrap64 (Int.tdiv (wrap64 (x10_2 + t117)) (wrap64 ((x4_2.length : Int) + 1)))))) t120 (wrap64 ((Int.tmod (wrap64 (x10_2 + t117)) (wrap64 ((x4_2.length : Int) + 1))) + 1)) false) else (none)) else (none))) = some (r1, r2) := by first | (rw [hy122]; with_reducible exact H) | (have H2_ := (Option.bind_some _ _).symm.trans H; rw [hy122]; with_reducible exact H2_) | (have H2_ := (Option.bind_some _ _).symm.trans H; with_reducible exact H2_) | with_reducible exact H | (rw [hy122]; exact H) | exact H
                          have Ny122 := Aside0.mk hy122
                          clear hy122
                          replace H := Option.bind_eq_some_iff.mp H
                          obtain ⟨t125, A350, H⟩ := H
                          replace H : (if 0 ≤ t118 then (if t118 ≤ (x0_2.length : Int) then (puny_Decode.l1 k2 (x0_2.drop (t118 : Int).toNat) t125 (wrap64 (x8_2 + (wrap64 (Int.tdiv (wrap64 (x10_2 + t117)) (wrap64 ((x4_2.length : Int) + 1)))))) t120 (wrap64 ((Int.tmod (wrap64 (x10_2 + t117)) (wrap64 ((x4_2.length : Int) + 1))) + 1)) false) else (none)) else (none)) = some (r1, r2) := H
                          have A35 := Aside0.mk A350
                          clear A350
                          by_cases c36 : 0 ≤ t118
                          · rw [if_pos c36] at H
                            have c36b0 := eq_true c36
                            have c36b1 : decide (0 ≤ t118) = true := decide_eq_true c36
                            clear c36
                            by_cases c37 : t118 ≤ (x0_2.length : Int)
                            · rw [if_pos c37] at H
                              have c37b0 := eq_true c37
                              have c37b1 : decide (t118 ≤ (x0_2.length : Int)) = true := decide_eq_true c37
                              clear c37
                              obtain ⟨y128, hy128⟩ : ∃ y_ : List Int, y_ = (x0_2.drop (t118 : Int).toNat) := ⟨_, rfl⟩
                              replace H : (puny_Decode.l1 k2 y128 t125 (wrap64 (x8_2 + (wrap64 (Int.tdiv (wrap64 (x10_2 + t117)) (wrap64 ((x4_2.length : Int) + 1)))))) t120 (wrap64 ((Int.tmod (wrap64 (x10_2 + t117)) (wrap64 ((x4_2.length : Int) + 1))) + 1)) false) = some (r1, r2) := by first | (rw [hy128]; with_reducible exact H) | (have H2_ := (Option.bind_some _ _).symm.trans H; rw [hy128]; with_reducible exact H2_) | (have H2_ := (Option.bind_some _ _).symm.trans H; with_reducible exact H2_) | with_reducible exact H | (rw [hy128]; exact H) | exact H
                              have Ny128 := Aside0.mk hy128
                              clear hy128
                              have H' := Aside0.mk H
                              clear H
                              obtain ⟨Ao38, co38, eo38⟩ := Kd.V_slice HO_0.out
                              subst eo38
                              go_wp2_with (first | ((with_reducible refine gate_callee (f := 65) rfl ?_); refine goesL_ (some 51) rfl rfl Try.func65 (by kernel_rfl) rfl #[.slice Ao38 x0_2.length co38, .int .i64 x9_2] rfl (by (try simp only [List.map_toArray, List.map_cons, List.map_nil]); first | done | rfl | (simp only [List.length_drop, List.length_take]; rfl)) ?_; (with_reducible refine (puny_read.calls k2 _ _ x0_2 x9_2 t117 t118 t119 _ ?side1 ?side2 A21.out).mono ?_); (case side1 => repeat (first | exact (Kd.V_reads' HO_0.out).2.2 | (with_reducible refine Kd.C_alloc ?_ _) | (with_reducible refine Kd.C_drewN ?_ _) | (with_reducible refine Kd.C_drew ?_))); (case side2 => exact (Kd.V_reads' HO_0.out).2.1); rintro e w39 ⟨rfl, hb⟩; refine ⟨_, rfl, ?_⟩; have n0_ := Aside0.mk (Kd.V_below (by (with_reducible repeat (first | apply Kd.V_alloc | apply Kd.V_drewN | apply Kd.V_drew)); exact HO_0.out) hb); have n1_ := Aside0.mk (Kd.R_below (by (with_reducible repeat (first | apply Kd.R_alloc | apply Kd.R_drewN | apply Kd.R_drew)); exact HO_4.out) hb); have n2_ := Aside0.mk (below_step (by repeat (first | (with_reducible first | exact HB.out | apply below_alloc | apply pw_below_drewN | apply below_drew1) | exact HB.out)) hb); clear HO_0; clear HO_4; clear HB; have HO_0 := n0_; have HO_4 := n1_; have HB := n2_; clear n0_ n1_ n2_; (try clear hb); (try clear hb2); (try clear hk); (try clear hi); obtain ⟨Ao40, co40, eo40⟩ := Kd.R_slice HO_4.out; subst eo40) | ((with_reducible refine gate_callee (f := 53) rfl ?_); refine goesL_ (some 71) rfl rfl Try.func53 (by kernel_rfl) rfl #[.int .i64 t117, .int .i64 (wrap64 ((x4_2.length : Int) + 1)), .bool x11_2] rfl (by (try simp only [List.map_toArray, List.map_cons, List.map_nil]); first | done | rfl | (simp only [List.length_drop, List.length_take]; rfl)) ?_; (with_reducible refine (puny_adapt.calls k2 t117 (wrap64 ((x4_2.length : Int) + 1)) x11_2 t120 _ A27.out).mono ?_); rintro e w' ⟨rfl, ⟨nd, rfl⟩⟩; refine ⟨_, rfl, ?_⟩) | ((with_reducible refine gate_callee (f := 39) rfl ?_); refine goesL_ (some 87) rfl rfl Try.func39 (by kernel_rfl) rfl #[.int .i64 (wrap64 (x8_2 + (wrap64 (Int.tdiv (wrap64 (x10_2 + t117)) (wrap64 ((x4_2.length : Int) + 1))))))] rfl (by (try simp only [List.map_toArray, List.map_cons, List.map_nil]); first | done | rfl | (simp only [List.length_drop, List.length_take]; rfl)) ?_; (with_reducible refine (utf_Scalar.calls (wrap64 (x8_2 + (wrap64 (Int.tdiv (wrap64 (x10_2 + t117)) (wrap64 ((x4_2.length : Int) + 1)))))) true _ A33.out).mono ?_); rintro e w' ⟨rfl, ⟨nd, rfl⟩⟩; refine ⟨_, rfl, ?_⟩) | ((with_reducible refine gate_dst (N := 92) rfl ?_); refine Kd.R_lit (Kd.int .i64) _ 3 ?hg (N := 92) ?hd (xs := ([wrap64 (x8_2 + (wrap64 (Int.tdiv (wrap64 (x10_2 + t117)) (wrap64 ((x4_2.length : Int) + 1)))))] : List Int)) (inner := [.int .i64 (wrap64 (x8_2 + (wrap64 (Int.tdiv (wrap64 (x10_2 + t117)) (wrap64 ((x4_2.length : Int) + 1))))))]) (ok := fun _ => True) (okp := fun _ => True) ?hr ?hp (fun _ hk => hk) trivial (Below.refl _ _) (Nat.le_refl _) (by simp) ?_; (case hd => rfl); (case hg => rfl); (case hr => first | (go_simp; done) | (go_simp; rfl)); (case hp => exact (Reps.one (show Kd.M (Kd.int .i64) _ _ _ (wrap64 (x8_2 + (wrap64 (Int.tdiv (wrap64 (x10_2 + t117)) (wrap64 ((x4_2.length : Int) + 1)))))) [.int .i64 (wrap64 (x8_2 + (wrap64 (Int.tdiv (wrap64 (x10_2 + t117)) (wrap64 ((x4_2.length : Int) + 1))))))] from rfl) (Reps.none _ _))); intro v123 w41 ho42 hb hg_ hnew_; clear hg_ hnew_; (first | rw [← Ny122.out] at ho42 | (simp only [Int.reduceToNat] at ho42; rw [← Ny122.out] at ho42)); have n0_ := Aside0.mk (Kd.V_elder' (by (with_reducible repeat (first | apply Kd.V_alloc | apply Kd.V_drewN | apply Kd.V_drew)); exact HO_0.out) (Kd.R_base ho42) hb); have n1_ := Aside0.mk (Kd.R_elder' (by (with_reducible repeat (first | apply Kd.R_alloc | apply Kd.R_drewN | apply Kd.R_drew)); exact HO_4.out) (Kd.R_base ho42) hb); have n2_ := Aside0.mk (Kd.R_lower (Kd.R_new' (Kd.R_newM (M := fun k_ => (w.heap.size ≤ k_)) ho42 (below_size (by repeat (first | (with_reducible first | exact HB.out | apply below_alloc | apply pw_below_drewN | apply below_drew1) | exact HB.out))) (fun k_ h_ => h_)) (Kd.R_lt (by (with_reducible repeat (first | apply Kd.R_alloc | apply Kd.R_drewN | apply Kd.R_drew)); exact HO_4.out))) (below_size (by repeat (first | (with_reducible first | exact HB.out | apply below_alloc | apply pw_below_drewN | apply below_drew1) | exact HB.out)))); have n3_ := Aside0.mk (below_step (by repeat (first | (with_reducible first | exact HB.out | apply below_alloc | apply pw_below_drewN | apply below_drew1) | exact HB.out)) hb); clear HO_0; clear HO_4; clear HB; have HO_0 := n0_; have HO_4 := n1_; have HO124 := n2_; have HB := n3_; clear n0_ n1_ n2_ n3_; clear hb ho42; obtain ⟨Ao43, co43, eo43⟩ := Kd.R_slice HO124.out; subst eo43) | ((with_reducible refine gate_callee (f := 66) rfl ?_); refine goesL_ (some 93) rfl rfl Try.func66 (by kernel_rfl) rfl #[.slice Ao40 x4_2.length co40, .int .i64 (Int.tmod (wrap64 (x10_2 + t117)) (wrap64 ((x4_2.length : Int) + 1))), .slice Ao43 y122.length co43] rfl (by (try simp only [List.map_toArray, List.map_cons, List.map_nil]); first | done | rfl | (simp only [List.length_drop, List.length_take]; rfl)) ?_; (with_reducible refine (slices_Insert_int_int.calls (fun k_ => some k_ = (.slice Ao40 x4_2.length co40 : Value).ownBlock) (.slice Ao40 x4_2.length co40) x4_2 (Int.tmod (wrap64 (x10_2 + t117)) (wrap64 ((x4_2.length : Int) + 1))) (fun k_ => some k_ = (.slice Ao43 y122.length co43 : Value).ownBlock) (.slice Ao43 y122.length co43) y122 t125 w _ ?side1 ?side2 ?side3 ?side4 ?side5 A35.out).mono ?_); (case side1 => repeat (first | (with_reducible first | exact HB.out | apply below_alloc | apply pw_below_drewN | apply below_drew1) | exact HB.out)); (case side2 => exact Kd.R_tight rfl HO_4.out); (case side3 => exact fun k_ e_ => (HO_4.out.1 k_ e_.symm).2); (case side4 => exact Kd.R_tight rfl HO124.out); (case side5 => exact fun k_ e_ => (HO124.out.1 k_ e_.symm).2); rintro e w44 ⟨v126, rfl, ho0, hb, hkp⟩; refine ⟨_, rfl, ?_⟩; have n0_ := Aside0.mk (Kd.V_mono (ok' := fun k_ => (P0_ k_ ∨ w.heap.size ≤ k_) ∧ some k_ ≠ (v126 : Value).ownBlock) (Kd.V_keptB (HO_0.out) hkp (fun k_ hk_ hs_ => Or.elim hs_ (fun e_ => (hk_.1.2) e_) (fun e_ => (hk_.2) e_))) (fun k_ hk_ => ⟨hk_.1.1.1, fun e_ => Or.elim (ho0.1 k_ e_.symm) (fun hs_ => hk_.2.1 hs_) (fun hn_ => Nat.not_le.2 hk_.2.2 hn_)⟩)); have n1_ := Aside0.mk (Kd.R_mono (ok' := fun k_ => (w.heap.size ≤ k_)) ho0 (fun k_ hk_ => Or.elim hk_ (fun hs_ => Or.elim hs_ (fun hs_ => (HO_4.out.1 k_ (hs_).symm).1) (fun hs_ => (HO124.out.1 k_ (hs_).symm).1.1)) (fun hn_ => (Nat.le_trans (below_size (by repeat (first | (with_reducible first | exact HB.out | apply below_alloc | apply pw_below_drewN | apply below_drew1) | exact HB.out))) hn_)))); have n2_ := Aside0.mk (hb); clear HO_0; clear HB; clear HO124; clear HO_4; have HO_0 := n0_; have HO127 := n1_; have HB := n2_; clear n0_ n1_ n2_; (try clear hb); (try clear hkp); (try clear ho0); have q45 : (t118 : Int) ≤ ((x0_2.length : Int) : Int) := of_decide_eq_true (by first | (with_reducible assumption) | assumption); obtain ⟨i045, hi045, _, hsz45, _⟩ := info_parts info5; have hroom45 : x0_2.length ≤ co38 := (Kd.V_reads' HO_0.out).2.1; have hC45 : Kd.F (Kd.int .u8) _ _ Ao38 x0_2.length x0_2 := (Kd.V_at (base := w.heap.size) HO_0.out).2.2; have q045 : (0 : Int) ≤ (t118 : Int) := of_decide_eq_true (by first | (with_reducible assumption) | assumption); have hcut45 := cut_from (P := Try.prog) 22 5 .i64 Try.underlying22 hi045 1 hsz45 Ao38 x0_2.length co38 t118 q045 q45; have hr45 := Kd.F_cut (m := (t118 : Int).toNat) (c := co38) hC45 (by omega) hroom45; obtain ⟨A45, hA45⟩ : ∃ A1, A1 = (if co38 = (t118 : Int).toNat then Ao38 else (Ao38 : Option Addr).map (·.add ((t118 : Int).toNat * 1))) := ⟨_, rfl⟩; obtain ⟨c45, hc45⟩ : ∃ c1, c1 = co38 - (t118 : Int).toNat := ⟨_, rfl⟩; have hy45 : y128.length = x0_2.length - (t118 : Int).toNat := (by rw [Ny128.out, List.length_drop] <;> omega); rw [show (x0_2).drop (t118 : Int).toNat = y128 from Ny128.out.symm] at hr45; replace hr45 : Kd.F (Kd.int .u8) _ _ A45 y128.length y128 := (by rw [hA45]; exact hr45); rw [← hy45, ← hA45, ← hc45] at hcut45; have HO132 := Aside0.mk (show Kd.V (Kd.int .u8) 5 _ w.heap.size _ (.slice A45 y128.length c45) y128 from Kd.V_mk (by rw [hy45, hc45]; exact Nat.sub_le_sub_right hroom45 _) hr45); have HC132 := Aside0.mk (show y128.length ≤ c45 from by rw [hy45, hc45]; exact Nat.sub_le_sub_right hroom45 _); clear hr45 hC45 hroom45 hi045 hsz45 hc45; have KY45 := Aside0.mk hy45; have KA45 := Aside0.mk hA45; clear hy45 hA45; replace q45 := eq_true q45))
                              go_roundg k2
                              case measure => have := HJ5.out; have := HK2.out; omega
                              case rel => exact ⟨(y128), (t125), (wrap64 (x8_2 + (wrap64 (Int.tdiv (wrap64 (x10_2 + t117)) (wrap64 ((x4_2.length : Int) + 1)))))), (t120), (wrap64 ((Int.tmod (wrap64 (x10_2 + t117)) (wrap64 ((x4_2.length : Int) + 1))) + 1)), (false), (by first | rfl | (simp; done) | (simp [*]; done)), (by first | rfl | (simp; done) | (simp [*]; done)), (by first | rfl | (simp; done) | (simp [*]; done)), (by first | rfl | (simp; done) | (simp [*]; done)), H', ⟨by have := HJ5.out; have := HK2.out; omega⟩, ⟨by (with_reducible repeat (first | apply Kd.V_alloc | apply Kd.V_drewN | apply Kd.V_drew)); exact HO132.out⟩, ⟨by (with_reducible repeat (first | apply Kd.R_alloc | apply Kd.R_drewN | apply Kd.R_drew)); exact HO127.out⟩, ⟨by repeat (first | (with_reducible first | exact HB.out | apply below_alloc | apply pw_below_drewN | apply below_drew1) | exact HB.out)⟩⟩
                            · rw [if_neg c37] at H
                              exact absurd H (by simp)
                          · rw [if_neg c36] at H
                            exact absurd H (by simp)
                        · replace c34 := Bool.eq_false_iff.mpr c34
                          subst c34
                          have H1 : (some (([] : List Int), 10)) = some (r1, r2) := by rw [if_neg (show ¬ (false = true) by decide)] at H; exact H
                          clear H
                          have H := H1
                          clear H1
                          simp only [Option.some.injEq, Prod.mk.injEq] at H
                          obtain ⟨rfl, rfl⟩ := H
                          obtain ⟨Ao46, co46, eo46⟩ := Kd.V_slice HO_0.out
                          subst eo46
                          go_wp2_with (first | ((with_reducible refine gate_callee (f := 65) rfl ?_); refine goesL_ (some 51) rfl rfl Try.func65 (by kernel_rfl) rfl #[.slice Ao46 x0_2.length co46, .int .i64 x9_2] rfl (by (try simp only [List.map_toArray, List.map_cons, List.map_nil]); first | done | rfl | (simp only [List.length_drop, List.length_take]; rfl)) ?_; (with_reducible refine (puny_read.calls k2 _ _ x0_2 x9_2 t117 t118 t119 _ ?side1 ?side2 A21.out).mono ?_); (case side1 => repeat (first | exact (Kd.V_reads' HO_0.out).2.2 | (with_reducible refine Kd.C_alloc ?_ _) | (with_reducible refine Kd.C_drewN ?_ _) | (with_reducible refine Kd.C_drew ?_))); (case side2 => exact (Kd.V_reads' HO_0.out).2.1); rintro e w47 ⟨rfl, hb⟩; refine ⟨_, rfl, ?_⟩; have n0_ := Aside0.mk (Kd.V_below (by (with_reducible repeat (first | apply Kd.V_alloc | apply Kd.V_drewN | apply Kd.V_drew)); exact HO_0.out) hb); have n1_ := Aside0.mk (Kd.R_below (by (with_reducible repeat (first | apply Kd.R_alloc | apply Kd.R_drewN | apply Kd.R_drew)); exact HO_4.out) hb); have n2_ := Aside0.mk (below_step (by repeat (first | (with_reducible first | exact HB.out | apply below_alloc | apply pw_below_drewN | apply below_drew1) | exact HB.out)) hb); clear HO_0; clear HO_4; clear HB; have HO_0 := n0_; have HO_4 := n1_; have HB := n2_; clear n0_ n1_ n2_; (try clear hb); (try clear hb2); (try clear hk); (try clear hi); obtain ⟨Ao48, co48, eo48⟩ := Kd.R_slice HO_4.out; subst eo48) | ((with_reducible refine gate_callee (f := 53) rfl ?_); refine goesL_ (some 71) rfl rfl Try.func53 (by kernel_rfl) rfl #[.int .i64 t117, .int .i64 (wrap64 ((x4_2.length : Int) + 1)), .bool x11_2] rfl (by (try simp only [List.map_toArray, List.map_cons, List.map_nil]); first | done | rfl | (simp only [List.length_drop, List.length_take]; rfl)) ?_; (with_reducible refine (puny_adapt.calls k2 t117 (wrap64 ((x4_2.length : Int) + 1)) x11_2 t120 _ A27.out).mono ?_); rintro e w' ⟨rfl, ⟨nd, rfl⟩⟩; refine ⟨_, rfl, ?_⟩) | ((with_reducible refine gate_callee (f := 39) rfl ?_); refine goesL_ (some 87) rfl rfl Try.func39 (by kernel_rfl) rfl #[.int .i64 (wrap64 (x8_2 + (wrap64 (Int.tdiv (wrap64 (x10_2 + t117)) (wrap64 ((x4_2.length : Int) + 1))))))] rfl (by (try simp only [List.map_toArray, List.map_cons, List.map_nil]); first | done | rfl | (simp only [List.length_drop, List.length_take]; rfl)) ?_; (with_reducible refine (utf_Scalar.calls (wrap64 (x8_2 + (wrap64 (Int.tdiv (wrap64 (x10_2 + t117)) (wrap64 ((x4_2.length : Int) + 1)))))) false _ A33.out).mono ?_); rintro e w' ⟨rfl, ⟨nd, rfl⟩⟩; refine ⟨_, rfl, ?_⟩))
                          go_ret2
                          exact ⟨_, by first | rfl | (simp [errW_none, errW_some] <;> rfl) | (simp [*, errW_none, errW_some] <;> rfl), by first | exact Kd.R_nil _ _ _ _ _ | exact Kd.N_nil _ _ _ _ _ | exact Kd.V_nil _ _ _ _ _ | exact Kd.Q_nil _ _ _ _ _ | exact Kd.S_nil _ _ _ _ _, by repeat (first | (with_reducible first | exact HB.out | apply below_alloc | apply pw_below_drewN | apply below_drew1) | exact HB.out)⟩
                · rw [if_neg c22] at H
                  have c22b0 : (t119 == 0) = false := beq_eq_false_iff_ne.mpr c22
                  have c22b1 : (t119 != 0) = true := bne_iff_ne.mpr c22
                  simp only [Option.some.injEq, Prod.mk.injEq] at H
                  obtain ⟨rfl, rfl⟩ := H
                  obtain ⟨Ao49, co49, eo49⟩ := Kd.V_slice HO_0.out
                  subst eo49
                  go_wp2_with (first | ((with_reducible refine gate_callee (f := 65) rfl ?_); refine goesL_ (some 51) rfl rfl Try.func65 (by kernel_rfl) rfl #[.slice Ao49 x0_2.length co49, .int .i64 x9_2] rfl (by (try simp only [List.map_toArray, List.map_cons, List.map_nil]); first | done | rfl | (simp only [List.length_drop, List.length_take]; rfl)) ?_; (with_reducible refine (puny_read.calls k2 _ _ x0_2 x9_2 t117 t118 t119 _ ?side1 ?side2 A21.out).mono ?_); (case side1 => repeat (first | exact (Kd.V_reads' HO_0.out).2.2 | (with_reducible refine Kd.C_alloc ?_ _) | (with_reducible refine Kd.C_drewN ?_ _) | (with_reducible refine Kd.C_drew ?_))); (case side2 => exact (Kd.V_reads' HO_0.out).2.1); rintro e w50 ⟨rfl, hb⟩; refine ⟨_, rfl, ?_⟩; have n0_ := Aside0.mk (Kd.V_below (by (with_reducible repeat (first | apply Kd.V_alloc | apply Kd.V_drewN | apply Kd.V_drew)); exact HO_0.out) hb); have n1_ := Aside0.mk (Kd.R_below (by (with_reducible repeat (first | apply Kd.R_alloc | apply Kd.R_drewN | apply Kd.R_drew)); exact HO_4.out) hb); have n2_ := Aside0.mk (below_step (by repeat (first | (with_reducible first | exact HB.out | apply below_alloc | apply pw_below_drewN | apply below_drew1) | exact HB.out)) hb); clear HO_0; clear HO_4; clear HB; have HO_0 := n0_; have HO_4 := n1_; have HB := n2_; clear n0_ n1_ n2_; (try clear hb); (try clear hb2); (try clear hk); (try clear hi)))
                  go_ret2
                  exact ⟨_, by first | rfl | (simp [errW_none, errW_some] <;> rfl) | (simp [*, errW_none, errW_some] <;> rfl), by first | exact Kd.R_nil _ _ _ _ _ | exact Kd.N_nil _ _ _ _ _ | exact Kd.V_nil _ _ _ _ _ | exact Kd.Q_nil _ _ _ _ _ | exact Kd.S_nil _ _ _ _ _, by repeat (first | (with_reducible first | exact HB.out | apply below_alloc | apply pw_below_drewN | apply below_drew1) | exact HB.out)⟩
              · rw [if_neg c20] at H
                have c20b0 : decide (0 < (x0_2.length : Int)) = false := decide_eq_false c20
                have c20b1 : decide (0 < x0_2.length) = false := decide_eq_false (by omega)
                clear c20
                simp only [Option.some.injEq, Prod.mk.injEq] at H
                obtain ⟨rfl, rfl⟩ := H
                obtain ⟨Ao51, co51, eo51⟩ := Kd.V_slice HO_0.out
                subst eo51
                go_wp2
                go_ret2
                exact ⟨_, by first | rfl | (simp [errW_none, errW_some] <;> rfl) | (simp [*, errW_none, errW_some] <;> rfl), by (with_reducible repeat (first | apply Kd.R_alloc | apply Kd.R_drewN | apply Kd.R_drew)); exact HO_4.out, by repeat (first | (with_reducible first | exact HB.out | apply below_alloc | apply pw_below_drewN | apply below_drew1) | exact HB.out)⟩

end Go.Proofs.Ytooiajkbpkfplaa.Q

-- from Qf40
-- Made by hp.py, a program of this session, with the kit's printer. Not trusted: Lean checks it.
namespace Go.Proofs.Ytooiajkbpkfplaa.Q
open Go.RowKit Go.Proofs.YtooiajkbpkfplaaW.PrintWords Go.Proofs.YtooiajkbpkfplaaW.PrintLast Go.Proofs.YtooiajkbpkfplaaW.PrintMore
attribute [local go_sem] max2_int min2_int max_two min_two max_three min_three max_four min_four   -- for this text's walks alone
set_option linter.unusedVariables false
set_option linter.unusedSimpArgs false

/-! ### paronymref01_Scalar: function 40 -/
def paronymref01_Scalar.f (a0 : Int) : Option (Bool) := if a0 ≥ 0 then (if a0 ≤ 1114111 then (if a0 < 55296 then (some true) else (some (decide (a0 > 57343)))) else (some false)) else (some false)
set_option maxHeartbeats 8000000 in
set_option maxRecDepth 100000 in
theorem paronymref01_Scalar.calls (a0 : Int) (r : Bool) (w : World) (h : paronymref01_Scalar.f a0 = some r) :
    Calls Try.prog 40 #[.int .i64 a0] w fun e w' => e = .returned (.bool r) ∧ Drawn0 w w' := by
  have H : (if a0 ≥ 0 then (if a0 ≤ 1114111 then (if a0 < 55296 then (some true) else (some (decide (a0 > 57343)))) else (some false)) else (some false)) = some r := h
  clear h
  by_cases c2 : a0 ≥ 0
  · rw [if_pos c2] at H
    have c2b0 : decide (0 ≤ a0) = true := decide_eq_true c2
    clear c2
    by_cases c3 : a0 ≤ 1114111
    · rw [if_pos c3] at H
      have c3b0 : decide (a0 ≤ 1114111) = true := decide_eq_true c3
      clear c3
      by_cases c4 : a0 < 55296
      · rw [if_pos c4] at H
        have c4b0 : decide (a0 < 55296) = true := decide_eq_true c4
        clear c4
        obtain rfl := Option.some.inj H
        go_enter Try.func40, Try.ntmps40
        go_wp2
        go_ret
        exact ⟨by first | rfl | (simp; done) | (simp [*]; done), by repeat (first | exact Drawn0.refl _ | apply Drawn0.step)⟩
      · rw [if_neg c4] at H
        have c4b0 : decide (a0 < 55296) = false := decide_eq_false c4
        clear c4
        obtain rfl := Option.some.inj H
        go_enter Try.func40, Try.ntmps40
        go_wp2
        go_ret
        exact ⟨by first | rfl | (simp; done) | (simp [*]; done), by repeat (first | exact Drawn0.refl _ | apply Drawn0.step)⟩
    · rw [if_neg c3] at H
      have c3b0 : decide (a0 ≤ 1114111) = false := decide_eq_false c3
      clear c3
      obtain rfl := Option.some.inj H
      go_enter Try.func40, Try.ntmps40
      go_wp2
      go_ret
      exact ⟨by first | rfl | (simp; done) | (simp [*]; done), by repeat (first | exact Drawn0.refl _ | apply Drawn0.step)⟩
  · rw [if_neg c2] at H
    have c2b0 : decide (0 ≤ a0) = false := decide_eq_false c2
    clear c2
    obtain rfl := Option.some.inj H
    go_enter Try.func40, Try.ntmps40
    go_wp2
    go_ret
    exact ⟨by first | rfl | (simp; done) | (simp [*]; done), by repeat (first | exact Drawn0.refl _ | apply Drawn0.step)⟩

end Go.Proofs.Ytooiajkbpkfplaa.Q

-- from Qf62
-- Made by hp.py, a program of this session, with the kit's printer. Not trusted: Lean checks it.
namespace Go.Proofs.Ytooiajkbpkfplaa.Q
open Go.RowKit Go.Proofs.YtooiajkbpkfplaaW.PrintWords Go.Proofs.YtooiajkbpkfplaaW.PrintLast Go.Proofs.YtooiajkbpkfplaaW.PrintMore
attribute [local go_sem] max2_int min2_int max_two min_two max_three min_three max_four min_four   -- for this text's walks alone
set_option linter.unusedVariables false
set_option linter.unusedSimpArgs false

/-! ### paronymref12_Bias: function 62 -/
mutual
def paronymref12_Bias.j0 : Nat → Int → Int → Option (Int)
  | 0, _, _ => none
  | k + 1, x0, x1 => if x1 = 0 then (none) else (paronymref12_Bias.l0 k (wrap64 (x0 + (wrap64 (Int.tdiv x0 x1)))) 0)
def paronymref12_Bias.l0 : Nat → Int → Int → Option (Int)
  | 0, _, _ => none
  | k + 1, x0, x7 => if x0 > 455 then (paronymref12_Bias.l0 k (wrap64 (Int.tdiv x0 35)) (wrap64 (x7 + 36))) else (if (wrap64 (x0 + 38)) = 0 then (none) else (some (wrap64 (x7 + (wrap64 (Int.tdiv (wrap64 (36 * x0)) (wrap64 (x0 + 38))))))))
end
def paronymref12_Bias.f (k : Nat) (a0 : Int) (a1 : Int) (a2 : Bool) : Option (Int) := if a2 = true then (paronymref12_Bias.j0 k (wrap64 (Int.tdiv a0 700)) a1) else (paronymref12_Bias.j0 k (wrap64 (Int.tdiv a0 2)) a1)
theorem paronymref12_Bias.mono_l : ∀ k, (∀ y0 y1, LeO (paronymref12_Bias.j0 k y0 y1) (paronymref12_Bias.j0 (k + 1) y0 y1)) ∧ (∀ y0 y1, LeO (paronymref12_Bias.l0 k y0 y1) (paronymref12_Bias.l0 (k + 1) y0 y1))
  | 0 => ⟨fun _ _ r h => by simp [paronymref12_Bias.j0] at h, fun _ _ r h => by simp [paronymref12_Bias.l0] at h⟩
  | k + 1 => by
    obtain ⟨ih0, ih1⟩ := paronymref12_Bias.mono_l k
    refine ⟨?_, ?_⟩
    · intro y0 y1
      unfold paronymref12_Bias.j0
      repeat' first
      | (with_reducible exact ih0 _ _)
      | (with_reducible exact ih1 _ _)
      | (with_reducible exact LeO.refl _)
      | (with_reducible exact LeO.none _)
      | (with_reducible refine LeO.ite ?_ ?_)
      | (with_reducible refine LeO.bind ?_ (fun _ => ?_))
      | exact ih0 _ _
      | exact ih1 _ _
      | exact LeO.none _
      | refine LeO.ite ?_ ?_
      | refine LeO.bind ?_ (fun _ => ?_)
    · intro y0 y1
      unfold paronymref12_Bias.l0
      repeat' first
      | (with_reducible exact ih0 _ _)
      | (with_reducible exact ih1 _ _)
      | (with_reducible exact LeO.refl _)
      | (with_reducible exact LeO.none _)
      | (with_reducible refine LeO.ite ?_ ?_)
      | (with_reducible refine LeO.bind ?_ (fun _ => ?_))
      | exact ih0 _ _
      | exact ih1 _ _
      | exact LeO.none _
      | refine LeO.ite ?_ ?_
      | refine LeO.bind ?_ (fun _ => ?_)
theorem paronymref12_Bias.mono : ∀ a0 a1 a2 k, LeO (paronymref12_Bias.f k a0 a1 a2) (paronymref12_Bias.f (k + 1) a0 a1 a2) := by
  intro a0 a1 a2 k
  obtain ⟨ih0, ih1⟩ := paronymref12_Bias.mono_l k
  unfold paronymref12_Bias.f
  repeat' first
      | (with_reducible exact ih0 _ _)
      | (with_reducible exact ih1 _ _)
      | (with_reducible exact LeO.refl _)
      | (with_reducible exact LeO.none _)
      | (with_reducible refine LeO.ite ?_ ?_)
      | (with_reducible refine LeO.bind ?_ (fun _ => ?_))
      | exact ih0 _ _
      | exact ih1 _ _
      | exact LeO.none _
      | refine LeO.ite ?_ ?_
      | refine LeO.bind ?_ (fun _ => ?_)
set_option maxHeartbeats 8000000 in
set_option maxRecDepth 100000 in
theorem paronymref12_Bias.calls (k : Nat) (a0 : Int) (a1 : Int) (a2 : Bool) (r : Int) (w : World) (h : paronymref12_Bias.f k a0 a1 a2 = some r) :
    Calls Try.prog 62 #[.int .i64 a0, .int .i64 a1, .bool a2] w fun e w' => e = .returned (.int .i64 r) ∧ Drawn0 w w' := by
  have H : (if a2 = true then (paronymref12_Bias.j0 k (wrap64 (Int.tdiv a0 700)) a1) else (paronymref12_Bias.j0 k (wrap64 (Int.tdiv a0 2)) a1)) = some r := h
  clear h
  have HC4 := Aside0.mk H
  clear H
  go_enter Try.func62, Try.ntmps62
  go_upto_if 8 with (fail)
  go_cut [0] (fun v0 wc => ∃ (kq : Nat) (x0_3 : Int), v0 = .int .i64 x0_3 ∧ Aside0 (paronymref12_Bias.j0 kq x0_3 a1 = some r) ∧ Aside0 (kq ≤ k) ∧ Drawn0 w wc)
  case first =>
    have H := HC4.out
    clear HC4
    by_cases c5 : a2 = true
    · subst c5
      have H1 : (paronymref12_Bias.j0 k (wrap64 (Int.tdiv a0 700)) a1) = some r := by rw [if_pos rfl] at H; exact H
      clear H
      have H := H1
      clear H1
      have H' := Aside0.mk H
      clear H
      go_wp2
      go_meet
      case rel => exact ⟨_, (wrap64 (Int.tdiv a0 700)), (by first | rfl | (simp; done) | (simp [*]; done)), H', ⟨by first | omega | exact Nat.le_refl _⟩, by repeat (first | exact Drawn0.refl _ | apply Drawn0.step)⟩
    · replace c5 := Bool.eq_false_iff.mpr c5
      subst c5
      have H1 : (paronymref12_Bias.j0 k (wrap64 (Int.tdiv a0 2)) a1) = some r := by rw [if_neg (show ¬ (false = true) by decide)] at H; exact H
      clear H
      have H := H1
      clear H1
      have H' := Aside0.mk H
      clear H
      go_wp2
      go_meet
      case rel => exact ⟨_, (wrap64 (Int.tdiv a0 2)), (by first | rfl | (simp; done) | (simp [*]; done)), H', ⟨by first | omega | exact Nat.le_refl _⟩, by repeat (first | exact Drawn0.refl _ | apply Drawn0.step)⟩
  case rest =>
    clear HC4
    try clear p2
    try clear c5
    obtain ⟨kq, x0_3, rfl, HA, HJ3, ⟨mc3, rfl⟩⟩ := hcut
    cases kq with
    | zero => exact absurd HA.out (by simp [paronymref12_Bias.j0])
    | succ kj3 =>
      have H := HA.out
      clear HA
      simp only [paronymref12_Bias.j0] at H
      by_cases c6 : a1 = 0
      · rw [if_pos c6] at H
        exact absurd H (by simp)
      · rw [if_neg c6] at H
        have c6b0 : (a1 == 0) = false := beq_eq_false_iff_ne.mpr c6
        have c6b1 : (a1 != 0) = true := bne_iff_ne.mpr c6
        have H' := Aside0.mk H
        clear H
        go_wp2
        go_loopg [0, 7] kj3 (fun kq v0 v7 w' => ∃ (x0_2 : Int) (x7_2 : Int), v0 = .int .i64 x0_2 ∧ v7 = .int .i64 x7_2 ∧ Aside0 (paronymref12_Bias.l0 kq x0_2 x7_2 = some r) ∧ Aside0 (kq ≤ kj3) ∧ Drawn0 w w')
        case atStart => exact ⟨(wrap64 (x0_3 + (wrap64 (Int.tdiv x0_3 a1)))), (0), (by first | rfl | (simp; done) | (simp [*]; done)), (by first | rfl | (simp; done) | (simp [*]; done)), H', ⟨Nat.le_refl _⟩, by repeat (first | exact Drawn0.refl _ | apply Drawn0.step)⟩
        case round =>
          clear H'
          try clear p2
          try clear c3
          try clear c5
          try clear c6
          try clear c6b0
          try clear c6b1
          try clear p6
          try clear p2
          obtain ⟨x0_2, x7_2, rfl, rfl, HA, HK2, ⟨m2, rfl⟩⟩ := hrel
          cases gk with
          | zero => exact absurd HA.out (by simp [paronymref12_Bias.l0])
          | succ k2 =>
            have H := HA.out
            clear HA
            simp only [paronymref12_Bias.l0] at H
            by_cases c7 : x0_2 > 455
            · rw [if_pos c7] at H
              have c7b0 : decide (455 < x0_2) = true := decide_eq_true c7
              clear c7
              have H' := Aside0.mk H
              clear H
              go_wp2
              go_roundg k2
              case measure => have := HJ3.out; have := HK2.out; omega
              case rel => exact ⟨(wrap64 (Int.tdiv x0_2 35)), (wrap64 (x7_2 + 36)), (by first | rfl | (simp; done) | (simp [*]; done)), (by first | rfl | (simp; done) | (simp [*]; done)), H', ⟨by have := HJ3.out; have := HK2.out; omega⟩, by repeat (first | exact Drawn0.refl _ | apply Drawn0.step)⟩
            · rw [if_neg c7] at H
              have c7b0 : decide (455 < x0_2) = false := decide_eq_false c7
              clear c7
              by_cases c8 : (wrap64 (x0_2 + 38)) = 0
              · rw [if_pos c8] at H
                exact absurd H (by simp)
              · rw [if_neg c8] at H
                have c8b0 : ((wrap64 (x0_2 + 38)) == 0) = false := beq_eq_false_iff_ne.mpr c8
                have c8b1 : ((wrap64 (x0_2 + 38)) != 0) = true := bne_iff_ne.mpr c8
                obtain rfl := Option.some.inj H
                go_wp2
                go_ret
                exact ⟨by first | rfl | (simp; done) | (simp [*]; done), by repeat (first | exact Drawn0.refl _ | apply Drawn0.step)⟩

end Go.Proofs.Ytooiajkbpkfplaa.Q

-- from Qf75
-- Made by hp.py, a program of this session, with the kit's printer. Not trusted: Lean checks it.
namespace Go.Proofs.Ytooiajkbpkfplaa.Q
open Go.RowKit Go.Proofs.YtooiajkbpkfplaaW.PrintWords Go.Proofs.YtooiajkbpkfplaaW.PrintLast Go.Proofs.YtooiajkbpkfplaaW.PrintMore
attribute [local go_sem] max2_int min2_int max_two min_two max_three min_three max_four min_four   -- for this text's walks alone
set_option linter.unusedVariables false
set_option linter.unusedSimpArgs false

/-! ### paronymref12_t: function 75 -/
def paronymref12_t.f (a0 : Int) (a1 : Int) : Option (Int) := if (wrap64 (a0 - a1)) < 1 then (some 1) else (if (wrap64 (a0 - a1)) > 26 then (some 26) else (some (wrap64 (a0 - a1))))
set_option maxHeartbeats 8000000 in
set_option maxRecDepth 100000 in
theorem paronymref12_t.calls (a0 : Int) (a1 : Int) (r : Int) (w : World) (h : paronymref12_t.f a0 a1 = some r) :
    Calls Try.prog 75 #[.int .i64 a0, .int .i64 a1] w fun e w' => e = .returned (.int .i64 r) ∧ Drawn0 w w' := by
  have H : (if (wrap64 (a0 - a1)) < 1 then (some 1) else (if (wrap64 (a0 - a1)) > 26 then (some 26) else (some (wrap64 (a0 - a1))))) = some r := h
  clear h
  by_cases c3 : (wrap64 (a0 - a1)) < 1
  · rw [if_pos c3] at H
    have c3b0 : decide ((wrap64 (a0 - a1)) < 1) = true := decide_eq_true c3
    clear c3
    obtain rfl := Option.some.inj H
    go_enter Try.func75, Try.ntmps75
    go_wp2
    go_ret
    exact ⟨by first | rfl | (simp; done) | (simp [*]; done), by repeat (first | exact Drawn0.refl _ | apply Drawn0.step)⟩
  · rw [if_neg c3] at H
    have c3b0 : decide ((wrap64 (a0 - a1)) < 1) = false := decide_eq_false c3
    clear c3
    by_cases c4 : (wrap64 (a0 - a1)) > 26
    · rw [if_pos c4] at H
      have c4b0 : decide (26 < (wrap64 (a0 - a1))) = true := decide_eq_true c4
      clear c4
      obtain rfl := Option.some.inj H
      go_enter Try.func75, Try.ntmps75
      go_wp2
      go_ret
      exact ⟨by first | rfl | (simp; done) | (simp [*]; done), by repeat (first | exact Drawn0.refl _ | apply Drawn0.step)⟩
    · rw [if_neg c4] at H
      have c4b0 : decide (26 < (wrap64 (a0 - a1))) = false := decide_eq_false c4
      clear c4
      obtain rfl := Option.some.inj H
      go_enter Try.func75, Try.ntmps75
      go_wp2
      go_ret
      exact ⟨by first | rfl | (simp; done) | (simp [*]; done), by repeat (first | exact Drawn0.refl _ | apply Drawn0.step)⟩

end Go.Proofs.Ytooiajkbpkfplaa.Q

-- from Qf81
-- Made by hp.py, a program of this session, with the kit's printer. Not trusted: Lean checks it.
namespace Go.Proofs.Ytooiajkbpkfplaa.Q
open Go.RowKit Go.Proofs.YtooiajkbpkfplaaW.PrintWords Go.Proofs.YtooiajkbpkfplaaW.PrintLast Go.Proofs.YtooiajkbpkfplaaW.PrintMore
attribute [local go_sem] max2_int min2_int max_two min_two max_three min_three max_four min_four   -- for this text's walks alone
set_option linter.unusedVariables false
set_option linter.unusedSimpArgs false

/-! ### paronymref12_digit: function 81 -/
mutual
def paronymref12_digit.j0 : Nat → Int → Bool → Option (Int)
  | 0, _, _ => none
  | k + 1, x0, x8 => if x8 = true then (some (wrap64 ((wrap64 (x0)) - 97))) else (if x0 ≥ 65 then (paronymref12_digit.j1 k x0 (decide (x0 ≤ 90))) else (paronymref12_digit.j1 k x0 false))
def paronymref12_digit.j1 : Nat → Int → Bool → Option (Int)
  | 0, _, _ => none
  | k + 1, x0, x17 => if x17 = true then (some (wrap64 ((wrap64 (x0)) - 65))) else (if x0 ≥ 48 then (if x0 ≤ 57 then (some (wrap64 ((wrap64 (x0)) - 22))) else (some (-1))) else (some (-1)))
end
def paronymref12_digit.f (k : Nat) (a0 : Int) : Option (Int) := if a0 ≥ 97 then (paronymref12_digit.j0 k a0 (decide (a0 ≤ 122))) else (paronymref12_digit.j0 k a0 false)
theorem paronymref12_digit.mono_l : ∀ k, (∀ y0 y1, LeO (paronymref12_digit.j0 k y0 y1) (paronymref12_digit.j0 (k + 1) y0 y1)) ∧ (∀ y0 y1, LeO (paronymref12_digit.j1 k y0 y1) (paronymref12_digit.j1 (k + 1) y0 y1))
  | 0 => ⟨fun _ _ r h => by simp [paronymref12_digit.j0] at h, fun _ _ r h => by simp [paronymref12_digit.j1] at h⟩
  | k + 1 => by
    obtain ⟨ih0, ih1⟩ := paronymref12_digit.mono_l k
    refine ⟨?_, ?_⟩
    · intro y0 y1
      unfold paronymref12_digit.j0
      repeat' first
      | (with_reducible exact ih0 _ _)
      | (with_reducible exact ih1 _ _)
      | (with_reducible exact LeO.refl _)
      | (with_reducible exact LeO.none _)
      | (with_reducible refine LeO.ite ?_ ?_)
      | (with_reducible refine LeO.bind ?_ (fun _ => ?_))
      | exact ih0 _ _
      | exact ih1 _ _
      | exact LeO.none _
      | refine LeO.ite ?_ ?_
      | refine LeO.bind ?_ (fun _ => ?_)
    · intro y0 y1
      unfold paronymref12_digit.j1
      repeat' first
      | (with_reducible exact ih0 _ _)
      | (with_reducible exact ih1 _ _)
      | (with_reducible exact LeO.refl _)
      | (with_reducible exact LeO.none _)
      | (with_reducible refine LeO.ite ?_ ?_)
      | (with_reducible refine LeO.bind ?_ (fun _ => ?_))
      | exact ih0 _ _
      | exact ih1 _ _
      | exact LeO.none _
      | refine LeO.ite ?_ ?_
      | refine LeO.bind ?_ (fun _ => ?_)
theorem paronymref12_digit.mono : ∀ a0 k, LeO (paronymref12_digit.f k a0) (paronymref12_digit.f (k + 1) a0) := by
  intro a0 k
  obtain ⟨ih0, ih1⟩ := paronymref12_digit.mono_l k
  unfold paronymref12_digit.f
  repeat' first
      | (with_reducible exact ih0 _ _)
      | (with_reducible exact ih1 _ _)
      | (with_reducible exact LeO.refl _)
      | (with_reducible exact LeO.none _)
      | (with_reducible refine LeO.ite ?_ ?_)
      | (with_reducible refine LeO.bind ?_ (fun _ => ?_))
      | exact ih0 _ _
      | exact ih1 _ _
      | exact LeO.none _
      | refine LeO.ite ?_ ?_
      | refine LeO.bind ?_ (fun _ => ?_)
set_option maxHeartbeats 8000000 in
set_option maxRecDepth 100000 in
theorem paronymref12_digit.calls (k : Nat) (a0 : Int) (r : Int) (w : World) (h : paronymref12_digit.f k a0 = some r) :
    Calls Try.prog 81 #[.int .u8 a0] w fun e w' => e = .returned (.int .i64 r) ∧ Drawn0 w w' := by
  have H : (if a0 ≥ 97 then (paronymref12_digit.j0 k a0 (decide (a0 ≤ 122))) else (paronymref12_digit.j0 k a0 false)) = some r := h
  clear h
  have HC2 := Aside0.mk H
  clear H
  go_enter Try.func81, Try.ntmps81
  go_upto_region 1 with (fail)
  go_cut [8] (fun v8 wc => ∃ (kq : Nat) (x8_1 : Bool), v8 = .bool x8_1 ∧ Aside0 (paronymref12_digit.j0 kq a0 x8_1 = some r) ∧ Aside0 (kq ≤ k) ∧ Drawn0 w wc)
  case first =>
    have H := HC2.out
    clear HC2
    by_cases c3 : a0 ≥ 97
    · rw [if_pos c3] at H
      have c3b0 : decide (97 ≤ a0) = true := decide_eq_true c3
      clear c3
      (first | rw [c3b0] | (simp only [i64_w, i32_w]; rw [c3b0]) | rw [c3b1] | (simp only [i64_w, i32_w]; rw [c3b1]) | skip)
      have H' := Aside0.mk H
      clear H
      go_wp2
      go_meet
      case rel => exact ⟨_, (decide (a0 ≤ 122)), (by first | rfl | (simp; done) | (simp [*]; done)), H', ⟨by first | omega | exact Nat.le_refl _⟩, by repeat (first | exact Drawn0.refl _ | apply Drawn0.step)⟩
    · rw [if_neg c3] at H
      have c3b0 : decide (97 ≤ a0) = false := decide_eq_false c3
      clear c3
      (first | rw [c3b0] | (simp only [i64_w, i32_w]; rw [c3b0]) | rw [c3b1] | (simp only [i64_w, i32_w]; rw [c3b1]) | skip)
      have H' := Aside0.mk H
      clear H
      go_wp2
      go_meet
      case rel => exact ⟨_, (false), (by first | rfl | (simp; done) | (simp [*]; done)), H', ⟨by first | omega | exact Nat.le_refl _⟩, by repeat (first | exact Drawn0.refl _ | apply Drawn0.step)⟩
  case rest =>
    clear HC2
    try clear p2
    try clear c3
    try clear c3b0
    try clear c3b1
    obtain ⟨kq, x8_1, rfl, HA, HJ1, ⟨mc1, rfl⟩⟩ := hcut
    cases kq with
    | zero => exact absurd HA.out (by simp [paronymref12_digit.j0])
    | succ kj1 =>
      have H := HA.out
      clear HA
      simp only [paronymref12_digit.j0] at H
      by_cases c4 : x8_1 = true
      · subst c4
        have H1 : (some (wrap64 ((wrap64 (a0)) - 97))) = some r := by rw [if_pos rfl] at H; exact H
        clear H
        have H := H1
        clear H1
        obtain rfl := Option.some.inj H
        go_wp2
        go_ret
        exact ⟨by first | rfl | (simp; done) | (simp [*]; done), by repeat (first | exact Drawn0.refl _ | apply Drawn0.step)⟩
      · replace c4 := Bool.eq_false_iff.mpr c4
        subst c4
        have H1 : (if a0 ≥ 65 then (paronymref12_digit.j1 kj1 a0 (decide (a0 ≤ 90))) else (paronymref12_digit.j1 kj1 a0 false)) = some r := by rw [if_neg (show ¬ (false = true) by decide)] at H; exact H
        clear H
        have H := H1
        clear H1
        have HC5 := Aside0.mk H
        clear H
        go_upto_region 3 with (fail)
        go_cut [17] (fun v17 wc => ∃ (kq : Nat) (x17_4 : Bool), v17 = .bool x17_4 ∧ Aside0 (paronymref12_digit.j1 kq a0 x17_4 = some r) ∧ Aside0 (kq ≤ kj1) ∧ Drawn0 w wc)
        case first =>
          have H := HC5.out
          clear HC5
          by_cases c6 : a0 ≥ 65
          · rw [if_pos c6] at H
            have c6b0 : decide (65 ≤ a0) = true := decide_eq_true c6
            clear c6
            (first | rw [c6b0] | (simp only [i64_w, i32_w]; rw [c6b0]) | rw [c6b1] | (simp only [i64_w, i32_w]; rw [c6b1]) | skip)
            have H' := Aside0.mk H
            clear H
            go_wp2
            go_meet
            case rel => exact ⟨_, (decide (a0 ≤ 90)), (by first | rfl | (simp; done) | (simp [*]; done)), H', ⟨by have := HJ1.out; first | omega | exact Nat.le_refl _⟩, by repeat (first | exact Drawn0.refl _ | apply Drawn0.step)⟩
          · rw [if_neg c6] at H
            have c6b0 : decide (65 ≤ a0) = false := decide_eq_false c6
            clear c6
            (first | rw [c6b0] | (simp only [i64_w, i32_w]; rw [c6b0]) | rw [c6b1] | (simp only [i64_w, i32_w]; rw [c6b1]) | skip)
            have H' := Aside0.mk H
            clear H
            go_wp2
            go_meet
            case rel => exact ⟨_, (false), (by first | rfl | (simp; done) | (simp [*]; done)), H', ⟨by have := HJ1.out; first | omega | exact Nat.le_refl _⟩, by repeat (first | exact Drawn0.refl _ | apply Drawn0.step)⟩
        case rest =>
          clear HC5
          try clear c1
          try clear p2
          try clear c3
          try clear c3b0
          try clear c3b1
          try clear c4
          try clear c6
          try clear c6b0
          try clear c6b1
          try clear p6
          try clear p2
          obtain ⟨kq, x17_4, rfl, HA, HJ4, ⟨mc4, rfl⟩⟩ := hcut
          cases kq with
          | zero => exact absurd HA.out (by simp [paronymref12_digit.j1])
          | succ kj4 =>
            have H := HA.out
            clear HA
            simp only [paronymref12_digit.j1] at H
            by_cases c7 : x17_4 = true
            · subst c7
              have H1 : (some (wrap64 ((wrap64 (a0)) - 65))) = some r := by rw [if_pos rfl] at H; exact H
              clear H
              have H := H1
              clear H1
              obtain rfl := Option.some.inj H
              go_wp2
              go_ret
              exact ⟨by first | rfl | (simp; done) | (simp [*]; done), by repeat (first | exact Drawn0.refl _ | apply Drawn0.step)⟩
            · replace c7 := Bool.eq_false_iff.mpr c7
              subst c7
              have H1 : (if a0 ≥ 48 then (if a0 ≤ 57 then (some (wrap64 ((wrap64 (a0)) - 22))) else (some (-1))) else (some (-1))) = some r := by rw [if_neg (show ¬ (false = true) by decide)] at H; exact H
              clear H
              have H := H1
              clear H1
              by_cases c8 : a0 ≥ 48
              · rw [if_pos c8] at H
                have c8b0 : decide (48 ≤ a0) = true := decide_eq_true c8
                clear c8
                by_cases c9 : a0 ≤ 57
                · rw [if_pos c9] at H
                  have c9b0 : decide (a0 ≤ 57) = true := decide_eq_true c9
                  clear c9
                  obtain rfl := Option.some.inj H
                  go_wp2
                  go_ret
                  exact ⟨by first | rfl | (simp; done) | (simp [*]; done), by repeat (first | exact Drawn0.refl _ | apply Drawn0.step)⟩
                · rw [if_neg c9] at H
                  have c9b0 : decide (a0 ≤ 57) = false := decide_eq_false c9
                  clear c9
                  obtain rfl := Option.some.inj H
                  go_wp2
                  go_ret
                  exact ⟨by first | rfl | (simp; done) | (simp [*]; done), by repeat (first | exact Drawn0.refl _ | apply Drawn0.step)⟩
              · rw [if_neg c8] at H
                have c8b0 : decide (48 ≤ a0) = false := decide_eq_false c8
                clear c8
                obtain rfl := Option.some.inj H
                go_wp2
                go_ret
                exact ⟨by first | rfl | (simp; done) | (simp [*]; done), by repeat (first | exact Drawn0.refl _ | apply Drawn0.step)⟩

end Go.Proofs.Ytooiajkbpkfplaa.Q

-- from Qf67
-- Made by hp.py, a program of this session, with the kit's printer. Not trusted: Lean checks it.
namespace Go.Proofs.Ytooiajkbpkfplaa.Q
open Go.RowKit Go.Proofs.YtooiajkbpkfplaaW.PrintWords Go.Proofs.YtooiajkbpkfplaaW.PrintLast Go.Proofs.YtooiajkbpkfplaaW.PrintMore
attribute [local go_sem] max2_int min2_int max_two min_two max_three min_three max_four min_four   -- for this text's walks alone
set_option linter.unusedVariables false
set_option linter.unusedSimpArgs false

/-! ### paronymref12_read: function 67 -/
def paronymref12_read.l0 : Nat → ByteArray → Int → Int → Int → Int → Option (Int × Int × Int)
  | 0, _, _, _, _, _ => none
  | k + 1, x0, x1, x7, x8, x9 => if x9 < (x0.size : Int) then (if 0 ≤ x9 then ((paronymref12_digit.f k (bt x0 x9)).bind fun t101 => (if t101 < 0 then (some (0, 0, 20)) else (if (wrap64 (x7 + (wrap64 (t101 * x8)))) > 2147483647 then (some (0, 0, 21)) else ((paronymref12_t.f (wrap64 ((wrap64 (36 * x9)) + 36)) x1).bind fun t102 => (if t101 < t102 then (some (wrap64 (x7 + (wrap64 (t101 * x8))), wrap64 (x9 + 1), 0)) else (if (wrap64 (x8 * (wrap64 (36 - t102)))) > 2147483647 then (some (0, 0, 21)) else (paronymref12_read.l0 k x0 x1 (wrap64 (x7 + (wrap64 (t101 * x8)))) (wrap64 (x8 * (wrap64 (36 - t102)))) (wrap64 (x9 + 1))))))))) else (none)) else (some (0, 0, 20))
def paronymref12_read.f (k : Nat) (a0 : ByteArray) (a1 : Int) : Option (Int × Int × Int) := paronymref12_read.l0 k a0 a1 0 1 0
theorem paronymref12_read.mono_l : ∀ k, (∀ y0 y1 y2 y3 y4, LeO (paronymref12_read.l0 k y0 y1 y2 y3 y4) (paronymref12_read.l0 (k + 1) y0 y1 y2 y3 y4))
  | 0 => fun _ _ _ _ _ r h => by simp [paronymref12_read.l0] at h
  | k + 1 => by
    have ih0 := paronymref12_read.mono_l k
    · intro y0 y1 y2 y3 y4
      unfold paronymref12_read.l0
      repeat' first
      | (with_reducible exact ih0 _ _ _ _ _)
      | (with_reducible exact paronymref12_digit.mono _ _)
      | (with_reducible exact LeO.refl _)
      | (with_reducible exact LeO.none _)
      | (with_reducible refine LeO.ite ?_ ?_)
      | (with_reducible refine LeO.bind ?_ (fun _ => ?_))
      | exact ih0 _ _ _ _ _
      | exact paronymref12_digit.mono _ _
      | exact LeO.none _
      | refine LeO.ite ?_ ?_
      | refine LeO.bind ?_ (fun _ => ?_)
theorem paronymref12_read.mono : ∀ a0 a1 k, LeO (paronymref12_read.f k a0 a1) (paronymref12_read.f (k + 1) a0 a1) := by
  intro a0 a1 k
  have ih0 := paronymref12_read.mono_l k
  unfold paronymref12_read.f
  repeat' first
      | (with_reducible exact ih0 _ _ _ _ _)
      | (with_reducible exact paronymref12_digit.mono _ _)
      | (with_reducible exact LeO.refl _)
      | (with_reducible exact LeO.none _)
      | (with_reducible refine LeO.ite ?_ ?_)
      | (with_reducible refine LeO.bind ?_ (fun _ => ?_))
      | exact ih0 _ _ _ _ _
      | exact paronymref12_digit.mono _ _
      | exact LeO.none _
      | refine LeO.ite ?_ ?_
      | refine LeO.bind ?_ (fun _ => ?_)
set_option maxHeartbeats 8000000 in
set_option maxRecDepth 100000 in
theorem paronymref12_read.calls (k : Nat) (a0 : ByteArray) (a1 : Int) (r1 : Int) (r2 : Int) (r3 : Int) (w : World) (h : paronymref12_read.f k a0 a1 = some (r1, r2, r3)) :
    Calls Try.prog 67 #[.string a0, .int .i64 a1] w fun e w' => e = .returned (.tuple #[.int .i64 r1, .int .i64 r2, .int .i64 r3]) ∧ Drawn0 w w' := by
  have H : (paronymref12_read.l0 k a0 a1 0 1 0) = some (r1, r2, r3) := h
  clear h
  have H' := Aside0.mk H
  clear H
  go_enter Try.func67, Try.ntmps67
  go_wp2
  go_loopg [7, 8, 9] k (fun kq v7 v8 v9 w' => ∃ (x7_1 : Int) (x8_1 : Int) (x9_1 : Int), v7 = .int .i64 x7_1 ∧ v8 = .int .i64 x8_1 ∧ v9 = .int .i64 x9_1 ∧ Aside0 (paronymref12_read.l0 kq a0 a1 x7_1 x8_1 x9_1 = some (r1, r2, r3)) ∧ Aside0 (kq ≤ k) ∧ Drawn0 w w')
  case atStart => exact ⟨(0), (1), (0), (by first | rfl | (simp; done) | (simp [*]; done)), (by first | rfl | (simp; done) | (simp [*]; done)), (by first | rfl | (simp; done) | (simp [*]; done)), H', ⟨Nat.le_refl _⟩, by repeat (first | exact Drawn0.refl _ | apply Drawn0.step)⟩
  case round =>
    clear H'
    try clear p2
    obtain ⟨x7_1, x8_1, x9_1, rfl, rfl, rfl, HA, HK1, ⟨m1, rfl⟩⟩ := hrel
    cases gk with
    | zero => exact absurd HA.out (by simp [paronymref12_read.l0])
    | succ k1 =>
      have H := HA.out
      clear HA
      simp only [paronymref12_read.l0] at H
      by_cases c3 : x9_1 < (a0.size : Int)
      · rw [if_pos c3] at H
        have c3b0 : decide (x9_1 < (a0.size : Int)) = true := decide_eq_true c3
        clear c3
        by_cases c4 : 0 ≤ x9_1
        · rw [if_pos c4] at H
          have c4b0 : decide (0 ≤ x9_1) = true := decide_eq_true c4
          clear c4
          replace H := Option.bind_eq_some_iff.mp H
          obtain ⟨t101, A60, H⟩ := H
          replace H : (if t101 < 0 then (some (0, 0, 20)) else (if (wrap64 (x7_1 + (wrap64 (t101 * x8_1)))) > 2147483647 then (some (0, 0, 21)) else ((paronymref12_t.f (wrap64 ((wrap64 (36 * x9_1)) + 36)) a1).bind fun t102 => (if t101 < t102 then (some (wrap64 (x7_1 + (wrap64 (t101 * x8_1))), wrap64 (x9_1 + 1), 0)) else (if (wrap64 (x8_1 * (wrap64 (36 - t102)))) > 2147483647 then (some (0, 0, 21)) else (paronymref12_read.l0 k1 a0 a1 (wrap64 (x7_1 + (wrap64 (t101 * x8_1)))) (wrap64 (x8_1 * (wrap64 (36 - t102)))) (wrap64 (x9_1 + 1)))))))) = some (r1, r2, r3) := H
          have A6 := Aside0.mk A60
          clear A60
          by_cases c7 : t101 < 0
          · rw [if_pos c7] at H
            have c7b0 : decide (t101 < 0) = true := decide_eq_true c7
            clear c7
            simp only [Option.some.injEq, Prod.mk.injEq] at H
            obtain ⟨rfl, rfl, rfl⟩ := H
            have p5 : 0 ≤ (x9_1 : Int) := of_decide_eq_true (by first | (with_reducible assumption) | assumption)
            have q5 : x9_1 < (a0.size : Int) := of_decide_eq_true (by first | (with_reducible assumption) | assumption)
            have hx5 := bt_at a0 x9_1
            replace p5 := eq_true p5
            replace q5 := eq_true q5
            go_wp2_with (first | ((with_reducible refine gate_callee (f := 81) rfl ?_); refine goesL_ (some 21) rfl rfl Try.func81 (by kernel_rfl) rfl #[.int .u8 (bt a0 x9_1)] rfl (by (try simp only [List.map_toArray, List.map_cons, List.map_nil]); first | done | rfl | (simp only [List.length_drop, List.length_take]; rfl)) ?_; (with_reducible refine (paronymref12_digit.calls k1 (bt a0 x9_1) t101 _ A6.out).mono ?_); rintro e w' ⟨rfl, ⟨nd, rfl⟩⟩; refine ⟨_, rfl, ?_⟩))
            go_ret3
            exact ⟨by first | rfl | (simp; done) | (simp [*]; done), by repeat (first | exact Drawn0.refl _ | apply Drawn0.step)⟩
          · rw [if_neg c7] at H
            have c7b0 : decide (t101 < 0) = false := decide_eq_false c7
            clear c7
            by_cases c8 : (wrap64 (x7_1 + (wrap64 (t101 * x8_1)))) > 2147483647
            · rw [if_pos c8] at H
              have c8b0 : decide (2147483647 < (wrap64 (x7_1 + (wrap64 (t101 * x8_1))))) = true := decide_eq_true c8
              clear c8
              simp only [Option.some.injEq, Prod.mk.injEq] at H
              obtain ⟨rfl, rfl, rfl⟩ := H
              have p5 : 0 ≤ (x9_1 : Int) := of_decide_eq_true (by first | (with_reducible assumption) | assumption)
              have q5 : x9_1 < (a0.size : Int) := of_decide_eq_true (by first | (with_reducible assumption) | assumption)
              have hx5 := bt_at a0 x9_1
              replace p5 := eq_true p5
              replace q5 := eq_true q5
              go_wp2_with (first | ((with_reducible refine gate_callee (f := 81) rfl ?_); refine goesL_ (some 21) rfl rfl Try.func81 (by kernel_rfl) rfl #[.int .u8 (bt a0 x9_1)] rfl (by (try simp only [List.map_toArray, List.map_cons, List.map_nil]); first | done | rfl | (simp only [List.length_drop, List.length_take]; rfl)) ?_; (with_reducible refine (paronymref12_digit.calls k1 (bt a0 x9_1) t101 _ A6.out).mono ?_); rintro e w' ⟨rfl, ⟨nd, rfl⟩⟩; refine ⟨_, rfl, ?_⟩))
              go_ret3
              exact ⟨by first | rfl | (simp; done) | (simp [*]; done), by repeat (first | exact Drawn0.refl _ | apply Drawn0.step)⟩
            · rw [if_neg c8] at H
              have c8b0 : decide (2147483647 < (wrap64 (x7_1 + (wrap64 (t101 * x8_1))))) = false := decide_eq_false c8
              clear c8
              replace H := Option.bind_eq_some_iff.mp H
              obtain ⟨t102, A90, H⟩ := H
              replace H : (if t101 < t102 then (some (wrap64 (x7_1 + (wrap64 (t101 * x8_1))), wrap64 (x9_1 + 1), 0)) else (if (wrap64 (x8_1 * (wrap64 (36 - t102)))) > 2147483647 then (some (0, 0, 21)) else (paronymref12_read.l0 k1 a0 a1 (wrap64 (x7_1 + (wrap64 (t101 * x8_1)))) (wrap64 (x8_1 * (wrap64 (36 - t102)))) (wrap64 (x9_1 + 1))))) = some (r1, r2, r3) := H
              have A9 := Aside0.mk A90
              clear A90
              by_cases c10 : t101 < t102
              · rw [if_pos c10] at H
                have c10b0 : decide (t101 < t102) = true := decide_eq_true c10
                clear c10
                simp only [Option.some.injEq, Prod.mk.injEq] at H
                obtain ⟨rfl, rfl, rfl⟩ := H
                have p5 : 0 ≤ (x9_1 : Int) := of_decide_eq_true (by first | (with_reducible assumption) | assumption)
                have q5 : x9_1 < (a0.size : Int) := of_decide_eq_true (by first | (with_reducible assumption) | assumption)
                have hx5 := bt_at a0 x9_1
                replace p5 := eq_true p5
                replace q5 := eq_true q5
                go_wp2_with (first | ((with_reducible refine gate_callee (f := 81) rfl ?_); refine goesL_ (some 21) rfl rfl Try.func81 (by kernel_rfl) rfl #[.int .u8 (bt a0 x9_1)] rfl (by (try simp only [List.map_toArray, List.map_cons, List.map_nil]); first | done | rfl | (simp only [List.length_drop, List.length_take]; rfl)) ?_; (with_reducible refine (paronymref12_digit.calls k1 (bt a0 x9_1) t101 _ A6.out).mono ?_); rintro e w' ⟨rfl, ⟨nd, rfl⟩⟩; refine ⟨_, rfl, ?_⟩) | ((with_reducible refine gate_callee (f := 75) rfl ?_); refine goesL_ (some 35) rfl rfl Try.func75 (by kernel_rfl) rfl #[.int .i64 (wrap64 ((wrap64 (36 * x9_1)) + 36)), .int .i64 a1] rfl (by (try simp only [List.map_toArray, List.map_cons, List.map_nil]); first | done | rfl | (simp only [List.length_drop, List.length_take]; rfl)) ?_; (with_reducible refine (paronymref12_t.calls (wrap64 ((wrap64 (36 * x9_1)) + 36)) a1 t102 _ A9.out).mono ?_); rintro e w' ⟨rfl, ⟨nd, rfl⟩⟩; refine ⟨_, rfl, ?_⟩))
                go_ret3
                exact ⟨by first | rfl | (simp; done) | (simp [*]; done), by repeat (first | exact Drawn0.refl _ | apply Drawn0.step)⟩
              · rw [if_neg c10] at H
                have c10b0 : decide (t101 < t102) = false := decide_eq_false c10
                clear c10
                by_cases c11 : (wrap64 (x8_1 * (wrap64 (36 - t102)))) > 2147483647
                · rw [if_pos c11] at H
                  have c11b0 : decide (2147483647 < (wrap64 (x8_1 * (wrap64 (36 - t102))))) = true := decide_eq_true c11
                  clear c11
                  simp only [Option.some.injEq, Prod.mk.injEq] at H
                  obtain ⟨rfl, rfl, rfl⟩ := H
                  have p5 : 0 ≤ (x9_1 : Int) := of_decide_eq_true (by first | (with_reducible assumption) | assumption)
                  have q5 : x9_1 < (a0.size : Int) := of_decide_eq_true (by first | (with_reducible assumption) | assumption)
                  have hx5 := bt_at a0 x9_1
                  replace p5 := eq_true p5
                  replace q5 := eq_true q5
                  go_wp2_with (first | ((with_reducible refine gate_callee (f := 81) rfl ?_); refine goesL_ (some 21) rfl rfl Try.func81 (by kernel_rfl) rfl #[.int .u8 (bt a0 x9_1)] rfl (by (try simp only [List.map_toArray, List.map_cons, List.map_nil]); first | done | rfl | (simp only [List.length_drop, List.length_take]; rfl)) ?_; (with_reducible refine (paronymref12_digit.calls k1 (bt a0 x9_1) t101 _ A6.out).mono ?_); rintro e w' ⟨rfl, ⟨nd, rfl⟩⟩; refine ⟨_, rfl, ?_⟩) | ((with_reducible refine gate_callee (f := 75) rfl ?_); refine goesL_ (some 35) rfl rfl Try.func75 (by kernel_rfl) rfl #[.int .i64 (wrap64 ((wrap64 (36 * x9_1)) + 36)), .int .i64 a1] rfl (by (try simp only [List.map_toArray, List.map_cons, List.map_nil]); first | done | rfl | (simp only [List.length_drop, List.length_take]; rfl)) ?_; (with_reducible refine (paronymref12_t.calls (wrap64 ((wrap64 (36 * x9_1)) + 36)) a1 t102 _ A9.out).mono ?_); rintro e w' ⟨rfl, ⟨nd, rfl⟩⟩; refine ⟨_, rfl, ?_⟩))
                  go_ret3
                  exact ⟨by first | rfl | (simp; done) | (simp [*]; done), by repeat (first | exact Drawn0.refl _ | apply Drawn0.step)⟩
                · rw [if_neg c11] at H
                  have c11b0 : decide (2147483647 < (wrap64 (x8_1 * (wrap64 (36 - t102))))) = false := decide_eq_false c11
                  clear c11
                  have H' := Aside0.mk H
                  clear H
                  have p5 : 0 ≤ (x9_1 : Int) := of_decide_eq_true (by first | (with_reducible assumption) | assumption)
                  have q5 : x9_1 < (a0.size : Int) := of_decide_eq_true (by first | (with_reducible assumption) | assumption)
                  have hx5 := bt_at a0 x9_1
                  replace p5 := eq_true p5
                  replace q5 := eq_true q5
                  go_wp2_with (first | ((with_reducible refine gate_callee (f := 81) rfl ?_); refine goesL_ (some 21) rfl rfl Try.func81 (by kernel_rfl) rfl #[.int .u8 (bt a0 x9_1)] rfl (by (try simp only [List.map_toArray, List.map_cons, List.map_nil]); first | done | rfl | (simp only [List.length_drop, List.length_take]; rfl)) ?_; (with_reducible refine (paronymref12_digit.calls k1 (bt a0 x9_1) t101 _ A6.out).mono ?_); rintro e w' ⟨rfl, ⟨nd, rfl⟩⟩; refine ⟨_, rfl, ?_⟩) | ((with_reducible refine gate_callee (f := 75) rfl ?_); refine goesL_ (some 35) rfl rfl Try.func75 (by kernel_rfl) rfl #[.int .i64 (wrap64 ((wrap64 (36 * x9_1)) + 36)), .int .i64 a1] rfl (by (try simp only [List.map_toArray, List.map_cons, List.map_nil]); first | done | rfl | (simp only [List.length_drop, List.length_take]; rfl)) ?_; (with_reducible refine (paronymref12_t.calls (wrap64 ((wrap64 (36 * x9_1)) + 36)) a1 t102 _ A9.out).mono ?_); rintro e w' ⟨rfl, ⟨nd, rfl⟩⟩; refine ⟨_, rfl, ?_⟩))
                  go_roundg k1
                  case measure => have := HK1.out; omega
                  case rel => exact ⟨(wrap64 (x7_1 + (wrap64 (t101 * x8_1)))), (wrap64 (x8_1 * (wrap64 (36 - t102)))), (wrap64 (x9_1 + 1)), (by first | rfl | (simp; done) | (simp [*]; done)), (by first | rfl | (simp; done) | (simp [*]; done)), (by first | rfl | (simp; done) | (simp [*]; done)), H', ⟨by have := HK1.out; omega⟩, by repeat (first | exact Drawn0.refl _ | apply Drawn0.step)⟩
        · rw [if_neg c4] at H
          exact absurd H (by simp)
      · rw [if_neg c3] at H
        have c3b0 : decide (x9_1 < (a0.size : Int)) = false := decide_eq_false c3
        clear c3
        simp only [Option.some.injEq, Prod.mk.injEq] at H
        obtain ⟨rfl, rfl, rfl⟩ := H
        go_wp2
        go_ret3
        exact ⟨by first | rfl | (simp; done) | (simp [*]; done), by repeat (first | exact Drawn0.refl _ | apply Drawn0.step)⟩

end Go.Proofs.Ytooiajkbpkfplaa.Q

-- from Qf44
-- Made by hp.py, a program of this session, with the kit's printer. Not trusted: Lean checks it.
namespace Go.Proofs.Ytooiajkbpkfplaa.Q
open Go.RowKit Go.Proofs.YtooiajkbpkfplaaW.PrintWords Go.Proofs.YtooiajkbpkfplaaW.PrintLast Go.Proofs.YtooiajkbpkfplaaW.PrintMore
attribute [local go_sem] max2_int min2_int max_two min_two max_three min_three max_four min_four   -- for this text's walks alone
set_option linter.unusedVariables false
set_option linter.unusedSimpArgs false

/-! ### paronymref12_Decode: function 44 -/
mutual
def paronymref12_Decode.l0 : Nat → ByteArray → Int → Int → Option (List Int × Int)
  | 0, _, _, _ => none
  | k + 1, x0, x4, x5 => if x5 < (x0.size : Int) then (if 0 ≤ x5 then (if (bt x0 x5) > 127 then (some (([] : List Int), 20)) else (if (bt x0 x5) = 45 then (paronymref12_Decode.l0 k x0 x5 (wrap64 (x5 + 1))) else (paronymref12_Decode.l0 k x0 x4 (wrap64 (x5 + 1))))) else (none)) else (if x4 > 0 then (paronymref12_Decode.l1 k x0 x4 ([] : List Int) 0) else (paronymref12_Decode.j2 k x0 ([] : List Int)))
def paronymref12_Decode.j2 : Nat → ByteArray → List Int → Option (List Int × Int)
  | 0, _, _ => none
  | k + 1, x0, x6 => paronymref12_Decode.l2 k x0 x6 128 72 0 true
def paronymref12_Decode.l2 : Nat → ByteArray → List Int → Int → Int → Int → Bool → Option (List Int × Int)
  | 0, _, _, _, _, _, _ => none
  | k + 1, x0, x6, x8, x9, x10, x11 => if (x0.size : Int) > 0 then ((paronymref12_read.f k x0 x9).bind fun bt104 => (if bt104.2.2 = 0 then (if (wrap64 (x10 + bt104.1)) > 2147483647 then (some (([] : List Int), 21)) else ((paronymref12_Bias.f k bt104.1 (wrap64 ((x6.length : Int) + 1)) x11).bind fun t107 => (if (wrap64 ((x6.length : Int) + 1)) = 0 then (none) else (if (wrap64 (x8 + (wrap64 (Int.tdiv (wrap64 (x10 + bt104.1)) (wrap64 ((x6.length : Int) + 1)))))) > 2147483647 then (some (([] : List Int), 21)) else ((paronymref01_Scalar.f (wrap64 (x8 + (wrap64 (Int.tdiv (wrap64 (x10 + bt104.1)) (wrap64 ((x6.length : Int) + 1))))))).bind fun t108 => (if t108 = true then (if 0 ≤ (Int.tmod (wrap64 (x10 + bt104.1)) (wrap64 ((x6.length : Int) + 1))) then (if (Int.tmod (wrap64 (x10 + bt104.1)) (wrap64 ((x6.length : Int) + 1))) ≤ (x6.length : Int) then ((some (x6.take ((Int.tmod (wrap64 (x10 + bt104.1)) (wrap64 ((x6.length : Int) + 1))) : Int).toNat : List Int)).bind fun y109 => (if ([] : List Int).length + y109.length < 17592186044416 then ((some (([] : List Int) ++ y109 : List Int)).bind fun y113 => (if y113.length < 17592186044416 then ((some (y113 ++ [wrap64 (x8 + (wrap64 (Int.tdiv (wrap64 (x10 + bt104.1)) (wrap64 ((x6.length : Int) + 1)))))] : List Int)).bind fun y116 => ((some (x6.drop ((Int.tmod (wrap64 (x10 + bt104.1)) (wrap64 ((x6.length : Int) + 1))) : Int).toNat : List Int)).bind fun y119 => (if y116.length + y119.length < 17592186044416 then (if 0 ≤ bt104.2.1 then (if bt104.2.1 ≤ (x0.size : Int) then (paronymref12_Decode.l2 k (x0.extract (bt104.2.1 : Int).toNat x0.size) (y116 ++ y119) (wrap64 (x8 + (wrap64 (Int.tdiv (wrap64 (x10 + bt104.1)) (wrap64 ((x6.length : Int) + 1)))))) t107 (wrap64 ((Int.tmod (wrap64 (x10 + bt104.1)) (wrap64 ((x6.length : Int) + 1))) + 1)) false) else (none)) else (none)) else (none)))) else (none))) else (none))) else (none)) else (none)) else (some (([] : List Int), 10)))))))) else (some (([] : List Int), bt104.2.2)))) else (some (x6, 0))
def paronymref12_Decode.l1 : Nat → ByteArray → Int → List Int → Int → Option (List Int × Int)
  | 0, _, _, _, _ => none
  | k + 1, x0, x4, x6, x7 => if x7 < x4 then (if 0 ≤ x7 then (if x7 < (x0.size : Int) then (if x6.length < 17592186044416 then (paronymref12_Decode.l1 k x0 x4 (x6 ++ [wrap64 (bt x0 x7)]) (wrap64 (x7 + 1))) else (none)) else (none)) else (none)) else (if 0 ≤ (wrap64 (x4 + 1)) then (if (wrap64 (x4 + 1)) ≤ (x0.size : Int) then (paronymref12_Decode.j2 k (x0.extract ((wrap64 (x4 + 1)) : Int).toNat x0.size) x6) else (none)) else (none))
end
def paronymref12_Decode.f (k : Nat) (a0 : ByteArray) : Option (List Int × Int) := if (a0.size : Int) > 12000 then (some (([] : List Int), 36)) else (paronymref12_Decode.l0 k a0 (-1) 0)
theorem paronymref12_Decode.mono_l : ∀ k, (∀ y0 y1 y2, LeO (paronymref12_Decode.l0 k y0 y1 y2) (paronymref12_Decode.l0 (k + 1) y0 y1 y2)) ∧ (∀ y0 y1, LeO (paronymref12_Decode.j2 k y0 y1) (paronymref12_Decode.j2 (k + 1) y0 y1)) ∧ (∀ y0 y1 y2 y3 y4 y5, LeO (paronymref12_Decode.l2 k y0 y1 y2 y3 y4 y5) (paronymref12_Decode.l2 (k + 1) y0 y1 y2 y3 y4 y5)) ∧ (∀ y0 y1 y2 y3, LeO (paronymref12_Decode.l1 k y0 y1 y2 y3) (paronymref12_Decode.l1 (k + 1) y0 y1 y2 y3))
  | 0 => ⟨fun _ _ _ r h => by simp [paronymref12_Decode.l0] at h, fun _ _ r h => by simp [paronymref12_Decode.j2] at h, fun _ _ _ _ _ _ r h => by simp [paronymref12_Decode.l2] at h, fun _ _ _ _ r h => by simp [paronymref12_Decode.l1] at h⟩
  | k + 1 => by
    obtain ⟨ih0, ih1, ih2, ih3⟩ := paronymref12_Decode.mono_l k
    refine ⟨?_, ?_, ?_, ?_⟩
    · intro y0 y1 y2
      unfold paronymref12_Decode.l0
      repeat' first
      | (with_reducible exact ih0 _ _ _)
      | (with_reducible exact ih1 _ _)
      | (with_reducible exact ih2 _ _ _ _ _ _)
      | (with_reducible exact ih3 _ _ _ _)
      | (with_reducible exact paronymref12_Bias.mono _ _ _ _)
      | (with_reducible exact paronymref12_read.mono _ _ _)
      | (with_reducible exact LeO.refl _)
      | (with_reducible exact LeO.none _)
      | (with_reducible refine LeO.ite ?_ ?_)
      | (with_reducible refine LeO.bind ?_ (fun _ => ?_))
      | exact ih0 _ _ _
      | exact ih1 _ _
      | exact ih2 _ _ _ _ _ _
      | exact ih3 _ _ _ _
      | exact paronymref12_Bias.mono _ _ _ _
      | exact paronymref12_read.mono _ _ _
      | exact LeO.none _
      | refine LeO.ite ?_ ?_
      | refine LeO.bind ?_ (fun _ => ?_)
    · intro y0 y1
      unfold paronymref12_Decode.j2
      repeat' first
      | (with_reducible exact ih0 _ _ _)
      | (with_reducible exact ih1 _ _)
      | (with_reducible exact ih2 _ _ _ _ _ _)
      | (with_reducible exact ih3 _ _ _ _)
      | (with_reducible exact paronymref12_Bias.mono _ _ _ _)
      | (with_reducible exact paronymref12_read.mono _ _ _)
      | (with_reducible exact LeO.refl _)
      | (with_reducible exact LeO.none _)
      | (with_reducible refine LeO.ite ?_ ?_)
      | (with_reducible refine LeO.bind ?_ (fun _ => ?_))
      | exact ih0 _ _ _
      | exact ih1 _ _
      | exact ih2 _ _ _ _ _ _
      | exact ih3 _ _ _ _
      | exact paronymref12_Bias.mono _ _ _ _
      | exact paronymref12_read.mono _ _ _
      | exact LeO.none _
      | refine LeO.ite ?_ ?_
      | refine LeO.bind ?_ (fun _ => ?_)
    · intro y0 y1 y2 y3 y4 y5
      unfold paronymref12_Decode.l2
      repeat' first
      | (with_reducible exact ih0 _ _ _)
      | (with_reducible exact ih1 _ _)
      | (with_reducible exact ih2 _ _ _ _ _ _)
      | (with_reducible exact ih3 _ _ _ _)
      | (with_reducible exact paronymref12_Bias.mono _ _ _ _)
      | (with_reducible exact paronymref12_read.mono _ _ _)
      | (with_reducible exact LeO.refl _)
      | (with_reducible exact LeO.none _)
      | (with_reducible refine LeO.ite ?_ ?_)
      | (with_reducible refine LeO.bind ?_ (fun _ => ?_))
      | exact ih0 _ _ _
      | exact ih1 _ _
      | exact ih2 _ _ _ _ _ _
      | exact ih3 _ _ _ _
      | exact paronymref12_Bias.mono _ _ _ _
      | exact paronymref12_read.mono _ _ _
      | exact LeO.none _
      | refine LeO.ite ?_ ?_
      | refine LeO.bind ?_ (fun _ => ?_)
    · intro y0 y1 y2 y3
      unfold paronymref12_Decode.l1
      repeat' first
      | (with_reducible exact ih0 _ _ _)
      | (with_reducible exact ih1 _ _)
      | (with_reducible exact ih2 _ _ _ _ _ _)
      | (with_reducible exact ih3 _ _ _ _)
      | (with_reducible exact paronymref12_Bias.mono _ _ _ _)
      | (with_reducible exact paronymref12_read.mono _ _ _)
      | (with_reducible exact LeO.refl _)
      | (with_reducible exact LeO.none _)
      | (with_reducible refine LeO.ite ?_ ?_)
      | (with_reducible refine LeO.bind ?_ (fun _ => ?_))
      | exact ih0 _ _ _
      | exact ih1 _ _
      | exact ih2 _ _ _ _ _ _
      | exact ih3 _ _ _ _
      | exact paronymref12_Bias.mono _ _ _ _
      | exact paronymref12_read.mono _ _ _
      | exact LeO.none _
      | refine LeO.ite ?_ ?_
      | refine LeO.bind ?_ (fun _ => ?_)
theorem paronymref12_Decode.mono : ∀ a0 k, LeO (paronymref12_Decode.f k a0) (paronymref12_Decode.f (k + 1) a0) := by
  intro a0 k
  obtain ⟨ih0, ih1, ih2, ih3⟩ := paronymref12_Decode.mono_l k
  unfold paronymref12_Decode.f
  repeat' first
      | (with_reducible exact ih0 _ _ _)
      | (with_reducible exact ih1 _ _)
      | (with_reducible exact ih2 _ _ _ _ _ _)
      | (with_reducible exact ih3 _ _ _ _)
      | (with_reducible exact paronymref12_Bias.mono _ _ _ _)
      | (with_reducible exact paronymref12_read.mono _ _ _)
      | (with_reducible exact LeO.refl _)
      | (with_reducible exact LeO.none _)
      | (with_reducible refine LeO.ite ?_ ?_)
      | (with_reducible refine LeO.bind ?_ (fun _ => ?_))
      | exact ih0 _ _ _
      | exact ih1 _ _
      | exact ih2 _ _ _ _ _ _
      | exact ih3 _ _ _ _
      | exact paronymref12_Bias.mono _ _ _ _
      | exact paronymref12_read.mono _ _ _
      | exact LeO.none _
      | refine LeO.ite ?_ ?_
      | refine LeO.bind ?_ (fun _ => ?_)
set_option maxHeartbeats 8000000 in
set_option maxRecDepth 100000 in
theorem paronymref12_Decode.calls (k : Nat) (a0 : ByteArray) (r1 : List Int) (r2 : Int) (w : World) (h : paronymref12_Decode.f k a0 = some (r1, r2)) :
    Calls Try.prog 44 #[.string a0] w fun e w' => ∃ v0_ : Value, e = .returned (.tuple #[v0_, .int .i64 r2]) ∧ Kd.R (Kd.int .i64) 3 w' w.heap.size (fun _ => True) v0_ r1 ∧ Below w.heap.size w w' := by
  have HB := Aside0.mk (Below.refl w.heap.size w)
  have H : (if (a0.size : Int) > 12000 then (some (([] : List Int), 36)) else (paronymref12_Decode.l0 k a0 (-1) 0)) = some (r1, r2) := h
  clear h
  by_cases c2 : (a0.size : Int) > 12000
  · rw [if_pos c2] at H
    have c2b0 : decide (12000 < (a0.size : Int)) = true := decide_eq_true c2
    have c2b1 : decide (12000 < a0.size) = true := decide_eq_true (by omega)
    clear c2
    simp only [Option.some.injEq, Prod.mk.injEq] at H
    obtain ⟨rfl, rfl⟩ := H
    go_enter Try.func44, Try.ntmps44
    go_wp2
    go_ret2
    exact ⟨_, by first | rfl | (simp [errW_none, errW_some] <;> rfl) | (simp [*, errW_none, errW_some] <;> rfl), by first | exact Kd.R_nil _ _ _ _ _ | exact Kd.N_nil _ _ _ _ _ | exact Kd.V_nil _ _ _ _ _ | exact Kd.Q_nil _ _ _ _ _ | exact Kd.S_nil _ _ _ _ _, by repeat (first | (with_reducible first | exact HB.out | apply below_alloc | apply pw_below_drewN | apply below_drew1) | exact HB.out)⟩
  · rw [if_neg c2] at H
    have c2b0 : decide (12000 < (a0.size : Int)) = false := decide_eq_false c2
    have c2b1 : decide (12000 < a0.size) = false := decide_eq_false (by omega)
    clear c2
    have H' := Aside0.mk H
    clear H
    go_enter Try.func44, Try.ntmps44
    go_wp2
    go_loopg [4, 5] k (fun kq v4 v5 w' => ∃ (x4_1 : Int) (x5_1 : Int), v4 = .int .i64 x4_1 ∧ v5 = .int .i64 x5_1 ∧ Aside0 (paronymref12_Decode.l0 kq a0 x4_1 x5_1 = some (r1, r2)) ∧ Aside0 (kq ≤ k) ∧ Aside0 (Below w.heap.size w w'))
    case atStart => exact ⟨((-1)), (0), (by first | rfl | (simp; done) | (simp [*]; done)), (by first | rfl | (simp; done) | (simp [*]; done)), H', ⟨Nat.le_refl _⟩, ⟨by repeat (first | (with_reducible first | exact HB.out | apply below_alloc | apply pw_below_drewN | apply below_drew1) | exact HB.out)⟩⟩
    case round =>
      clear H'
      try clear c2
      try clear c2b0
      try clear c2b1
      try clear p2
      obtain ⟨x4_1, x5_1, rfl, rfl, HA, HK1, HB⟩ := hrel
      cases gk with
      | zero => exact absurd HA.out (by simp [paronymref12_Decode.l0])
      | succ k1 =>
        have H := HA.out
        clear HA
        simp only [paronymref12_Decode.l0] at H
        by_cases c3 : x5_1 < (a0.size : Int)
        · rw [if_pos c3] at H
          have c3b0 : decide (x5_1 < (a0.size : Int)) = true := decide_eq_true c3
          clear c3
          by_cases c4 : 0 ≤ x5_1
          · rw [if_pos c4] at H
            have c4b0 : decide (0 ≤ x5_1) = true := decide_eq_true c4
            clear c4
            by_cases c6 : (bt a0 x5_1) > 127
            · rw [if_pos c6] at H
              have c6b0 : decide (127 < (bt a0 x5_1)) = true := decide_eq_true c6
              clear c6
              simp only [Option.some.injEq, Prod.mk.injEq] at H
              obtain ⟨rfl, rfl⟩ := H
              have p5 : 0 ≤ (x5_1 : Int) := of_decide_eq_true (by first | (with_reducible assumption) | assumption)
              have q5 : x5_1 < (a0.size : Int) := of_decide_eq_true (by first | (with_reducible assumption) | assumption)
              have hx5 := bt_at a0 x5_1
              replace p5 := eq_true p5
              replace q5 := eq_true q5
              go_wp2
              go_ret2
              exact ⟨_, by first | rfl | (simp [errW_none, errW_some] <;> rfl) | (simp [*, errW_none, errW_some] <;> rfl), by first | exact Kd.R_nil _ _ _ _ _ | exact Kd.N_nil _ _ _ _ _ | exact Kd.V_nil _ _ _ _ _ | exact Kd.Q_nil _ _ _ _ _ | exact Kd.S_nil _ _ _ _ _, by repeat (first | (with_reducible first | exact HB.out | apply below_alloc | apply pw_below_drewN | apply below_drew1) | exact HB.out)⟩
            · rw [if_neg c6] at H
              have c6b0 : decide (127 < (bt a0 x5_1)) = false := decide_eq_false c6
              clear c6
              by_cases c8 : (bt a0 x5_1) = 45
              · rw [if_pos c8] at H
                have c8b0 : ((bt a0 x5_1) == 45) = true := beq_iff_eq.mpr c8
                have c8b1 : ((bt a0 x5_1) != 45) = false := bne_eq_false_iff_eq.mpr c8
                clear c8
                have H' := Aside0.mk H
                clear H
                have p5 : 0 ≤ (x5_1 : Int) := of_decide_eq_true (by first | (with_reducible assumption) | assumption)
                have q5 : x5_1 < (a0.size : Int) := of_decide_eq_true (by first | (with_reducible assumption) | assumption)
                have hx5 := bt_at a0 x5_1
                replace p5 := eq_true p5
                replace q5 := eq_true q5
                have p7 : 0 ≤ (x5_1 : Int) := of_decide_eq_true (by first | (with_reducible assumption) | assumption)
                have q7 : x5_1 < (a0.size : Int) := of_decide_eq_true (by first | (with_reducible assumption) | assumption)
                have hx7 := bt_at a0 x5_1
                replace p7 := eq_true p7
                replace q7 := eq_true q7
                go_wp2
                go_roundg k1
                case measure => have := HK1.out; omega
                case rel => exact ⟨(x5_1), (wrap64 (x5_1 + 1)), (by first | rfl | (simp; done) | (simp [*]; done)), (by first | rfl | (simp; done) | (simp [*]; done)), H', ⟨by have := HK1.out; omega⟩, ⟨by repeat (first | (with_reducible first | exact HB.out | apply below_alloc | apply pw_below_drewN | apply below_drew1) | exact HB.out)⟩⟩
              · rw [if_neg c8] at H
                have c8b0 : ((bt a0 x5_1) == 45) = false := beq_eq_false_iff_ne.mpr c8
                have c8b1 : ((bt a0 x5_1) != 45) = true := bne_iff_ne.mpr c8
                have H' := Aside0.mk H
                clear H
                have p5 : 0 ≤ (x5_1 : Int) := of_decide_eq_true (by first | (with_reducible assumption) | assumption)
                have q5 : x5_1 < (a0.size : Int) := of_decide_eq_true (by first | (with_reducible assumption) | assumption)
                have hx5 := bt_at a0 x5_1
                replace p5 := eq_true p5
                replace q5 := eq_true q5
                have p7 : 0 ≤ (x5_1 : Int) := of_decide_eq_true (by first | (with_reducible assumption) | assumption)
                have q7 : x5_1 < (a0.size : Int) := of_decide_eq_true (by first | (with_reducible assumption) | assumption)
                have hx7 := bt_at a0 x5_1
                replace p7 := eq_true p7
                replace q7 := eq_true q7
                go_wp2
                go_roundg k1
                case measure => have := HK1.out; omega
                case rel => exact ⟨(x4_1), (wrap64 (x5_1 + 1)), (by first | rfl | (simp; done) | (simp [*]; done)), (by first | rfl | (simp; done) | (simp [*]; done)), H', ⟨by have := HK1.out; omega⟩, ⟨by repeat (first | (with_reducible first | exact HB.out | apply below_alloc | apply pw_below_drewN | apply below_drew1) | exact HB.out)⟩⟩
          · rw [if_neg c4] at H
            exact absurd H (by simp)
        · rw [if_neg c3] at H
          have c3b0 : decide (x5_1 < (a0.size : Int)) = false := decide_eq_false c3
          clear c3
          have HC9 := Aside0.mk H
          clear H
          go_upto_if 36 with (fail)
          go_cut [0, 6] (fun v0 v6 wc => ∃ (kq : Nat) (x0_8 : ByteArray) (x6_8 : List Int), v0 = .string x0_8 ∧ Aside0 (paronymref12_Decode.j2 kq x0_8 x6_8 = some (r1, r2)) ∧ Aside0 (kq ≤ k1) ∧ Aside0 (Kd.R (Kd.int .i64) 3 wc w.heap.size (fun _ => True) v6 x6_8) ∧ Aside0 (Below w.heap.size w wc))
          case first =>
            have H := HC9.out
            clear HC9
            by_cases c10 : x4_1 > 0
            · rw [if_pos c10] at H
              have c10b0 : decide (0 < x4_1) = true := decide_eq_true c10
              clear c10
              (first | rw [c10b0] | (simp only [i64_w, i32_w]; rw [c10b0]) | rw [c10b1] | (simp only [i64_w, i32_w]; rw [c10b1]) | skip)
              have H' := Aside0.mk H
              clear H
              go_wp2
              go_loopg [6, 7] k1 (fun kq v6 v7 w' => ∃ (x6_2 : List Int) (x7_2 : Int), v7 = .int .i64 x7_2 ∧ Aside0 (paronymref12_Decode.l1 kq a0 x4_1 x6_2 x7_2 = some (r1, r2)) ∧ Aside0 (kq ≤ k1) ∧ Aside0 (Kd.R (Kd.int .i64) 3 w' w.heap.size (fun _ => True) v6 x6_2) ∧ Aside0 (Below w.heap.size w w'))
              case atStart => exact ⟨(([] : List Int)), (0), (by first | rfl | (simp; done) | (simp [*]; done)), H', ⟨Nat.le_refl _⟩, ⟨by first | exact Kd.R_nil _ _ _ _ _ | exact Kd.N_nil _ _ _ _ _ | exact Kd.V_nil _ _ _ _ _ | exact Kd.Q_nil _ _ _ _ _ | exact Kd.S_nil _ _ _ _ _⟩, ⟨by repeat (first | (with_reducible first | exact HB.out | apply below_alloc | apply pw_below_drewN | apply below_drew1) | exact HB.out)⟩⟩
              case round =>
                clear H'
                try clear c1
                try clear c2
                try clear c2b0
                try clear c2b1
                try clear p2
                try clear c3
                try clear c3b0
                try clear c4
                try clear c4b0
                try clear p5
                try clear q5
                try clear hx5
                try clear c6
                try clear c6b0
                try clear p6
                try clear p7
                try clear q7
                try clear hx7
                try clear c8
                try clear c8b0
                try clear c8b1
                try clear c10
                try clear c10b0
                try clear c10b1
                try clear p2
                try clear p5
                try clear p7
                try clear q5
                try clear q7
                obtain ⟨x6_2, x7_2, rfl, HA, HK2, HO_6, HB⟩ := hrel
                cases gk with
                | zero => exact absurd HA.out (by simp [paronymref12_Decode.l1])
                | succ k2 =>
                  have H := HA.out
                  clear HA
                  simp only [paronymref12_Decode.l1] at H
                  by_cases c11 : x7_2 < x4_1
                  · rw [if_pos c11] at H
                    have c11b0 : decide (x7_2 < x4_1) = true := decide_eq_true c11
                    clear c11
                    by_cases c12 : 0 ≤ x7_2
                    · rw [if_pos c12] at H
                      have c12b0 : decide (0 ≤ x7_2) = true := decide_eq_true c12
                      clear c12
                      by_cases c13 : x7_2 < (a0.size : Int)
                      · rw [if_pos c13] at H
                        have c13b0 : decide (x7_2 < (a0.size : Int)) = true := decide_eq_true c13
                        clear c13
                        by_cases c15 : x6_2.length < 17592186044416
                        · rw [if_pos c15] at H
                          have LMc15 := Aside0.mk c15
                          clear c15
                          obtain ⟨y101, hy101⟩ : ∃ y_ : List Int, y_ = (x6_2 ++ [wrap64 (bt a0 x7_2)]) := ⟨_, rfl⟩
                          replace H : (paronymref12_Decode.l1 k2 a0 x4_1 y101 (wrap64 (x7_2 + 1))) = some (r1, r2) := by first | (rw [hy101]; with_reducible exact H) | (have H2_ := (Option.bind_some _ _).symm.trans H; rw [hy101]; with_reducible exact H2_) | (have H2_ := (Option.bind_some _ _).symm.trans H; with_reducible exact H2_) | with_reducible exact H | (rw [hy101]; exact H) | exact H
                          have Ny101 := Aside0.mk hy101
                          clear hy101
                          have H' := Aside0.mk H
                          clear H
                          have p14 : 0 ≤ (x7_2 : Int) := of_decide_eq_true (by first | (with_reducible assumption) | assumption)
                          have q14 : x7_2 < (a0.size : Int) := of_decide_eq_true (by first | (with_reducible assumption) | assumption)
                          have hx14 := bt_at a0 x7_2
                          replace p14 := eq_true p14
                          replace q14 := eq_true q14
                          go_wp2_with (first | ((with_reducible refine gate_builtin (b := .append) (xs := #[.tmp 42, .tmp 47]) rfl ?_); at_builtin; refine Kd.R_append (Kd.int .i64) (w0 := w) w.heap.size rfl (.tmp 42) (.tmp 47) 31 3 (.int .i64 0) 8 rfl Try.underlying31 info3 rfl (by decide) (by omega) u6 x6_2 (wrap64 (bt a0 x7_2)) [.int .i64 (wrap64 (bt a0 x7_2))] (fun _ => True) (fun _ => False) rfl rfl ?aP (fun _ hk => hk.elim) ?aF ?aO ?aB ?aS ?aL ?_; (case aP => exact rfl); (case aB => exact (by repeat (first | (with_reducible first | exact HB.out | apply below_alloc | apply pw_below_drewN | apply below_drew1) | exact HB.out))); (case aF => exact (fun _ _ => trivial)); (case aO => exact (by (with_reducible repeat (first | apply Kd.R_alloc | apply Kd.R_drewN | apply Kd.R_drew)); exact HO_6.out)); (case aS => exact (below_size (by repeat (first | (with_reducible first | exact HB.out | apply below_alloc | apply pw_below_drewN | apply below_drew1) | exact HB.out)))); (case aL => have := LMc15.out; omega); intro v102 w16 ho hb hg hat; rw [← Ny101.out] at ho; have n0_ := Aside0.mk (hb); have n1_ := Aside0.mk (ho); clear HB; clear HO_6; have HB := n0_; have HO103 := n1_; clear n0_ n1_; clear ho hb hg hat))
                          go_roundg k2
                          case measure => have := HK1.out; have := HK2.out; omega
                          case rel => exact ⟨(y101), (wrap64 (x7_2 + 1)), (by first | rfl | (simp; done) | (simp [*]; done)), H', ⟨by have := HK1.out; have := HK2.out; omega⟩, ⟨by (with_reducible repeat (first | apply Kd.R_alloc | apply Kd.R_drewN | apply Kd.R_drew)); exact HO103.out⟩, ⟨by repeat (first | (with_reducible first | exact HB.out | apply below_alloc | apply pw_below_drewN | apply below_drew1) | exact HB.out)⟩⟩
                        · rw [if_neg c15] at H
                          exact absurd H (by simp)
                      · rw [if_neg c13] at H
                        exact absurd H (by simp)
                    · rw [if_neg c12] at H
                      exact absurd H (by simp)
                  · rw [if_neg c11] at H
                    have c11b0 : decide (x7_2 < x4_1) = false := decide_eq_false c11
                    clear c11
                    obtain ⟨ji17, hji17⟩ : ∃ j_ : Int, (wrap64 (x4_1 + 1)) = j_ := ⟨_, rfl⟩
                    replace H : (if 0 ≤ (ji17) then (if (ji17) ≤ (a0.size : Int) then (paronymref12_Decode.j2 k2 (a0.extract ((ji17) : Int).toNat a0.size) x6_2) else (none)) else (none)) = some (r1, r2) := by first | (rw [hji17] at H; exact H) | (simp only [hji17] at H ⊢; exact H)
                    have hji17w : (IntKind.i64.wrap (x4_1 + 1)) = ji17 := (i64_w _).trans hji17
                    by_cases c18 : 0 ≤ (ji17)
                    · rw [if_pos c18] at H
                      have c18b0 := eq_true c18
                      have c18b1 : decide (0 ≤ (ji17)) = true := decide_eq_true c18
                      clear c18
                      by_cases c19 : (ji17) ≤ (a0.size : Int)
                      · rw [if_pos c19] at H
                        have c19b0 := eq_true c19
                        have c19b1 : decide ((ji17) ≤ (a0.size : Int)) = true := decide_eq_true c19
                        clear c19
                        have H' := Aside0.mk H
                        clear H
                        go_wp2
                        go_meet
                        case rel => exact ⟨_, (a0.extract ((ji17) : Int).toNat a0.size), (x6_2), (by first | rfl | (simp; done) | (simp only [← hji17] <;> (first | rfl | simp)) | (simp [*]; done)), H', ⟨by have := HK1.out; have := HK2.out; first | omega | exact Nat.le_refl _⟩, ⟨by (with_reducible repeat (first | apply Kd.R_alloc | apply Kd.R_drewN | apply Kd.R_drew)); exact HO_6.out⟩, ⟨by repeat (first | (with_reducible first | exact HB.out | apply below_alloc | apply pw_below_drewN | apply below_drew1) | exact HB.out)⟩⟩
                      · rw [if_neg c19] at H
                        exact absurd H (by simp)
                    · rw [if_neg c18] at H
                      exact absurd H (by simp)
            · rw [if_neg c10] at H
              have c10b0 : decide (0 < x4_1) = false := decide_eq_false c10
              clear c10
              (first | rw [c10b0] | (simp only [i64_w, i32_w]; rw [c10b0]) | rw [c10b1] | (simp only [i64_w, i32_w]; rw [c10b1]) | skip)
              have H' := Aside0.mk H
              clear H
              go_wp2
              go_meet
              case rel => exact ⟨_, (a0), (([] : List Int)), (by first | rfl | (simp; done) | (simp [*]; done)), H', ⟨by have := HK1.out; first | omega | exact Nat.le_refl _⟩, ⟨by first | exact Kd.R_nil _ _ _ _ _ | exact Kd.N_nil _ _ _ _ _ | exact Kd.V_nil _ _ _ _ _ | exact Kd.Q_nil _ _ _ _ _ | exact Kd.S_nil _ _ _ _ _⟩, ⟨by repeat (first | (with_reducible first | exact HB.out | apply below_alloc | apply pw_below_drewN | apply below_drew1) | exact HB.out)⟩⟩
          case rest =>
            clear HC9
            try clear c1
            try clear p1
            try clear q1
            try clear hx1
            try clear c2
            try clear c2b0
            try clear c2b1
            try clear p2
            try clear c3
            try clear c3b0
            try clear c4
            try clear c4b0
            try clear p5
            try clear q5
            try clear hx5
            try clear c6
            try clear c6b0
            try clear p6
            try clear p7
            try clear q7
            try clear hx7
            try clear c8
            try clear c8b0
            try clear c8b1
            try clear c10
            try clear c10b0
            try clear c10b1
            try clear c11
            try clear c11b0
            try clear c12
            try clear c12b0
            try clear c13
            try clear c13b0
            try clear p14
            try clear q14
            try clear hx14
            try clear c15
            try clear c18
            try clear c18b0
            try clear c18b1
            try clear c19
            try clear c19b0
            try clear c19b1
            try clear p14
            try clear p2
            try clear p5
            try clear p6
            try clear p7
            try clear q14
            try clear q5
            try clear q7
            obtain ⟨kq, x0_8, x6_8, rfl, HA, HJ8, HO_6, HB⟩ := hcut
            cases kq with
            | zero => exact absurd HA.out (by simp [paronymref12_Decode.j2])
            | succ kj8 =>
              have H := HA.out
              clear HA
              simp only [paronymref12_Decode.j2] at H
              have H' := Aside0.mk H
              clear H
              go_wp2
              go_loopg [0, 6, 8, 9, 10, 11] kj8 (fun kq v0 v6 v8 v9 v10 v11 w' => ∃ (x0_3 : ByteArray) (x6_3 : List Int) (x8_3 : Int) (x9_3 : Int) (x10_3 : Int) (x11_3 : Bool), v0 = .string x0_3 ∧ v8 = .int .i64 x8_3 ∧ v9 = .int .i64 x9_3 ∧ v10 = .int .i64 x10_3 ∧ v11 = .bool x11_3 ∧ Aside0 (paronymref12_Decode.l2 kq x0_3 x6_3 x8_3 x9_3 x10_3 x11_3 = some (r1, r2)) ∧ Aside0 (kq ≤ kj8) ∧ Aside0 (Kd.R (Kd.int .i64) 3 w' w.heap.size (fun _ => True) v6 x6_3) ∧ Aside0 (Below w.heap.size w w'))
              case atStart => exact ⟨(x0_8), (x6_8), (128), (72), (0), (true), (by first | rfl | (simp; done) | (simp [*]; done)), (by first | rfl | (simp; done) | (simp [*]; done)), (by first | rfl | (simp; done) | (simp [*]; done)), (by first | rfl | (simp; done) | (simp [*]; done)), (by first | rfl | (simp; done) | (simp [*]; done)), H', ⟨Nat.le_refl _⟩, ⟨by (with_reducible repeat (first | apply Kd.R_alloc | apply Kd.R_drewN | apply Kd.R_drew)); exact HO_6.out⟩, ⟨by repeat (first | (with_reducible first | exact HB.out | apply below_alloc | apply pw_below_drewN | apply below_drew1) | exact HB.out)⟩⟩
              case round =>
                clear H'
                try clear c1
                try clear p1
                try clear q1
                try clear hx1
                try clear c2
                try clear c2b0
                try clear c2b1
                try clear p2
                try clear c3
                try clear c3b0
                try clear c4
                try clear c4b0
                try clear p5
                try clear q5
                try clear hx5
                try clear c6
                try clear c6b0
                try clear p6
                try clear p7
                try clear q7
                try clear hx7
                try clear c8
                try clear c8b0
                try clear c8b1
                try clear c10
                try clear c10b0
                try clear c10b1
                try clear c11
                try clear c11b0
                try clear c12
                try clear c12b0
                try clear c13
                try clear c13b0
                try clear p14
                try clear q14
                try clear hx14
                try clear c15
                try clear c18
                try clear c18b0
                try clear c18b1
                try clear c19
                try clear c19b0
                try clear c19b1
                try clear p1
                try clear p14
                try clear p2
                try clear p5
                try clear p6
                try clear p7
                try clear q1
                try clear q14
                try clear q5
                try clear q7
                obtain ⟨x0_3, x6_3, x8_3, x9_3, x10_3, x11_3, rfl, rfl, rfl, rfl, rfl, HA, HK3, HO_6, HB⟩ := hrel
                cases gk with
                | zero => exact absurd HA.out (by simp [paronymref12_Decode.l2])
                | succ k3 =>
                  have H := HA.out
                  clear HA
                  simp only [paronymref12_Decode.l2] at H
                  by_cases c20 : (x0_3.size : Int) > 0
                  · rw [if_pos c20] at H
                    have c20b0 : decide (0 < (x0_3.size : Int)) = true := decide_eq_true c20
                    have c20b1 : decide (0 < x0_3.size) = true := decide_eq_true (by omega)
                    clear c20
                    replace H := Option.bind_eq_some_iff.mp H
                    obtain ⟨⟨t104, t105, t106⟩, A210, H⟩ := H
                    replace H : (if t106 = 0 then (if (wrap64 (x10_3 + t104)) > 2147483647 then (some (([] : List Int), 21)) else ((paronymref12_Bias.f k3 t104 (wrap64 ((x6_3.length : Int) + 1)) x11_3).bind fun t107 => (if (wrap64 ((x6_3.length : Int) + 1)) = 0 then (none) else (if (wrap64 (x8_3 + (wrap64 (Int.tdiv (wrap64 (x10_3 + t104)) (wrap64 ((x6_3.length : Int) + 1)))))) > 2147483647 then (some (([] : List Int), 21)) else ((paronymref01_Scalar.f (wrap64 (x8_3 + (wrap64 (Int.tdiv (wrap64 (x10_3 + t104)) (wrap64 ((x6_3.length : Int) + 1))))))).bind fun t108 => (if t108 = true then (if 0 ≤ (Int.tmod (wrap64 (x10_3 + t104)) (wrap64 ((x6_3.length : Int) + 1))) then (if (Int.tmod (wrap64 (x10_3 + t104)) (wrap64 ((x6_3.length : Int) + 1))) ≤ (x6_3.length : Int) then ((some (x6_3.take ((Int.tmod (wrap64 (x10_3 + t104)) (wrap64 ((x6_3.length : Int) + 1))) : Int).toNat : List Int)).bind fun y109 => (if ([] : List Int).length + y109.length < 17592186044416 then ((some (([] : List Int) ++ y109 : List Int)).bind fun y113 => (if y113.length < 17592186044416 then ((some (y113 ++ [wrap64 (x8_3 + (wrap64 (Int.tdiv (wrap64 (x10_3 + t104)) (wrap64 ((x6_3.length : Int) + 1)))))] : List Int)).bind fun y116 => ((some (x6_3.drop ((Int.tmod (wrap64 (x10_3 + t104)) (wrap64 ((x6_3.length : Int) + 1))) : Int).toNat : List Int)).bind fun y119 => (if y116.length + y119.length < 17592186044416 then (if 0 ≤ t105 then (if t105 ≤ (x0_3.size : Int) then (paronymref12_Decode.l2 k3 (x0_3.extract (t105 : Int).toNat x0_3.size) (y116 ++ y119) (wrap64 (x8_3 + (wrap64 (Int.tdiv (wrap64 (x10_3 + t104)) (wrap64 ((x6_3.length : Int) + 1)))))) t107 (wrap64 ((Int.tmod (wrap64 (x10_3 + t104)) (wrap64 ((x6_3.length : Int) + 1))) + 1)) false) else (none)) else (none)) else (none)))) else (none))) else (none))) else (none)) else (none)) else (some (([] : List Int), 10)))))))) else (some (([] : List Int), t106))) = some (r1, r2) := H
                    have A21 := Aside0.mk A210
                    clear A210
                    by_cases c22 : t106 = 0
                    · rw [if_pos c22] at H
                      have c22b0 : (t106 == 0) = true := beq_iff_eq.mpr c22
                      have c22b1 : (t106 != 0) = false := bne_eq_false_iff_eq.mpr c22
                      clear c22
                      by_cases c23 : (wrap64 (x10_3 + t104)) > 2147483647
                      · rw [if_pos c23] at H
                        have c23b0 : decide (2147483647 < (wrap64 (x10_3 + t104))) = true := decide_eq_true c23
                        clear c23
                        simp only [Option.some.injEq, Prod.mk.injEq] at H
                        obtain ⟨rfl, rfl⟩ := H
                        go_wp2_with (first | ((with_reducible refine gate_callee (f := 67) rfl ?_); refine goesL_ (some 59) rfl rfl Try.func67 (by kernel_rfl) rfl #[.string x0_3, .int .i64 x9_3] rfl (by (try simp only [List.map_toArray, List.map_cons, List.map_nil]); first | done | rfl | (simp only [List.length_drop, List.length_take]; rfl)) ?_; (with_reducible refine (paronymref12_read.calls k3 x0_3 x9_3 t104 t105 t106 _ A21.out).mono ?_); rintro e w' ⟨rfl, ⟨nd, rfl⟩⟩; refine ⟨_, rfl, ?_⟩))
                        go_ret2
                        exact ⟨_, by first | rfl | (simp [errW_none, errW_some] <;> rfl) | (simp [*, errW_none, errW_some] <;> rfl), by first | exact Kd.R_nil _ _ _ _ _ | exact Kd.N_nil _ _ _ _ _ | exact Kd.V_nil _ _ _ _ _ | exact Kd.Q_nil _ _ _ _ _ | exact Kd.S_nil _ _ _ _ _, by repeat (first | (with_reducible first | exact HB.out | apply below_alloc | apply pw_below_drewN | apply below_drew1) | exact HB.out)⟩
                      · rw [if_neg c23] at H
                        have c23b0 : decide (2147483647 < (wrap64 (x10_3 + t104))) = false := decide_eq_false c23
                        clear c23
                        replace H := Option.bind_eq_some_iff.mp H
                        obtain ⟨t107, A240, H⟩ := H
                        replace H : (if (wrap64 ((x6_3.length : Int) + 1)) = 0 then (none) else (if (wrap64 (x8_3 + (wrap64 (Int.tdiv (wrap64 (x10_3 + t104)) (wrap64 ((x6_3.length : Int) + 1)))))) > 2147483647 then (some (([] : List Int), 21)) else ((paronymref01_Scalar.f (wrap64 (x8_3 + (wrap64 (Int.tdiv (wrap64 (x10_3 + t104)) (wrap64 ((x6_3.length : Int) + 1))))))).bind fun t108 => (if t108 = true then (if 0 ≤ (Int.tmod (wrap64 (x10_3 + t104)) (wrap64 ((x6_3.length : Int) + 1))) then (if (Int.tmod (wrap64 (x10_3 + t104)) (wrap64 ((x6_3.length : Int) + 1))) ≤ (x6_3.length : Int) then ((some (x6_3.take ((Int.tmod (wrap64 (x10_3 + t104)) (wrap64 ((x6_3.length : Int) + 1))) : Int).toNat : List Int)).bind fun y109 => (if ([] : List Int).length + y109.length < 17592186044416 then ((some (([] : List Int) ++ y109 : List Int)).bind fun y113 => (if y113.length < 17592186044416 then ((some (y113 ++ [wrap64 (x8_3 + (wrap64 (Int.tdiv (wrap64 (x10_3 + t104)) (wrap64 ((x6_3.length : Int) + 1)))))] : List Int)).bind fun y116 => ((some (x6_3.drop ((Int.tmod (wrap64 (x10_3 + t104)) (wrap64 ((x6_3.length : Int) + 1))) : Int).toNat : List Int)).bind fun y119 => (if y116.length + y119.length < 17592186044416 then (if 0 ≤ t105 then (if t105 ≤ (x0_3.size : Int) then (paronymref12_Decode.l2 k3 (x0_3.extract (t105 : Int).toNat x0_3.size) (y116 ++ y119) (wrap64 (x8_3 + (wrap64 (Int.tdiv (wrap64 (x10_3 + t104)) (wrap64 ((x6_3.length : Int) + 1)))))) t107 (wrap64 ((Int.tmod (wrap64 (x10_3 + t104)) (wrap64 ((x6_3.length : Int) + 1))) + 1)) false) else (none)) else (none)) else (none)))) else (none))) else (none))) else (none)) else (none)) else (some (([] : List Int), 10)))))) = some (r1, r2) := H
                        have A24 := Aside0.mk A240
                        clear A240
                        by_cases c25 : (wrap64 ((x6_3.length : Int) + 1)) = 0
                        · rw [if_pos c25] at H
                          exact absurd H (by simp)
                        · rw [if_neg c25] at H
                          have c25b0 : ((wrap64 ((x6_3.length : Int) + 1)) == 0) = false := beq_eq_false_iff_ne.mpr c25
                          have c25b1 : ((wrap64 ((x6_3.length : Int) + 1)) != 0) = true := bne_iff_ne.mpr c25
                          by_cases c26 : (wrap64 (x8_3 + (wrap64 (Int.tdiv (wrap64 (x10_3 + t104)) (wrap64 ((x6_3.length : Int) + 1)))))) > 2147483647
                          · rw [if_pos c26] at H
                            have c26b0 : decide (2147483647 < (wrap64 (x8_3 + (wrap64 (Int.tdiv (wrap64 (x10_3 + t104)) (wrap64 ((x6_3.length : Int) + 1))))))) = true := decide_eq_true c26
                            clear c26
                            simp only [Option.some.injEq, Prod.mk.injEq] at H
                            obtain ⟨rfl, rfl⟩ := H
                            go_wp2_with (first | ((with_reducible refine gate_callee (f := 67) rfl ?_); refine goesL_ (some 59) rfl rfl Try.func67 (by kernel_rfl) rfl #[.string x0_3, .int .i64 x9_3] rfl (by (try simp only [List.map_toArray, List.map_cons, List.map_nil]); first | done | rfl | (simp only [List.length_drop, List.length_take]; rfl)) ?_; (with_reducible refine (paronymref12_read.calls k3 x0_3 x9_3 t104 t105 t106 _ A21.out).mono ?_); rintro e w' ⟨rfl, ⟨nd, rfl⟩⟩; refine ⟨_, rfl, ?_⟩; obtain ⟨Ao27, co27, eo27⟩ := Kd.R_slice HO_6.out; subst eo27) | ((with_reducible refine gate_callee (f := 62) rfl ?_); refine goesL_ (some 77) rfl rfl Try.func62 (by kernel_rfl) rfl #[.int .i64 t104, .int .i64 (wrap64 ((x6_3.length : Int) + 1)), .bool x11_3] rfl (by (try simp only [List.map_toArray, List.map_cons, List.map_nil]); first | done | rfl | (simp only [List.length_drop, List.length_take]; rfl)) ?_; (with_reducible refine (paronymref12_Bias.calls k3 t104 (wrap64 ((x6_3.length : Int) + 1)) x11_3 t107 _ A24.out).mono ?_); rintro e w' ⟨rfl, ⟨nd, rfl⟩⟩; refine ⟨_, rfl, ?_⟩))
                            go_ret2
                            exact ⟨_, by first | rfl | (simp [errW_none, errW_some] <;> rfl) | (simp [*, errW_none, errW_some] <;> rfl), by first | exact Kd.R_nil _ _ _ _ _ | exact Kd.N_nil _ _ _ _ _ | exact Kd.V_nil _ _ _ _ _ | exact Kd.Q_nil _ _ _ _ _ | exact Kd.S_nil _ _ _ _ _, by repeat (first | (with_reducible first | exact HB.out | apply below_alloc | apply pw_below_drewN | apply below_drew1) | exact HB.out)⟩
                          · rw [if_neg c26] at H
                            have c26b0 : decide (2147483647 < (wrap64 (x8_3 + (wrap64 (Int.tdiv (wrap64 (x10_3 + t104)) (wrap64 ((x6_3.length : Int) + 1))))))) = false := decide_eq_false c26
                            clear c26
                            replace H := Option.bind_eq_some_iff.mp H
                            obtain ⟨t108, A280, H⟩ := H
                            replace H : (if t108 = true then (if 0 ≤ (Int.tmod (wrap64 (x10_3 + t104)) (wrap64 ((x6_3.length : Int) + 1))) then (if (Int.tmod (wrap64 (x10_3 + t104)) (wrap64 ((x6_3.length : Int) + 1))) ≤ (x6_3.length : Int) then ((some (x6_3.take ((Int.tmod (wrap64 (x10_3 + t104)) (wrap64 ((x6_3.length : Int) + 1))) : Int).toNat : List Int)).bind fun y109 => (if ([] : List Int).length + y109.length < 17592186044416 then ((some (([] : List Int) ++ y109 : List Int)).bind fun y113 => (if y113.length < 17592186044416 then ((some (y113 ++ [wrap64 (x8_3 + (wrap64 (Int.tdiv (wrap64 (x10_3 + t104)) (wrap64 ((x6_3.length : Int) + 1)))))] : List Int)).bind fun y116 => ((some (x6_3.drop ((Int.tmod (wrap64 (x10_3 + t104)) (wrap64 ((x6_3.length : Int) + 1))) : Int).toNat : List Int)).bind fun y119 => (if y116.length + y119.length < 17592186044416 then (if 0 ≤ t105 then (if t105 ≤ (x0_3.size : Int) then (paronymref12_Decode.l2 k3 (x0_3.extract (t105 : Int).toNat x0_3.size) (y116 ++ y119) (wrap64 (x8_3 + (wrap64 (Int.tdiv (wrap64 (x10_3 + t104)) (wrap64 ((x6_3.length : Int) + 1)))))) t107 (wrap64 ((Int.tmod (wrap64 (x10_3 + t104)) (wrap64 ((x6_3.length : Int) + 1))) + 1)) false) else (none)) else (none)) else (none)))) else (none))) else (none))) else (none)) else (none)) else (some (([] : List Int), 10))) = some (r1, r2) := H
                            have A28 := Aside0.mk A280
                            clear A280
                            by_cases c29 : t108 = true
                            · subst c29
                              have H1 : (if 0 ≤ (Int.tmod (wrap64 (x10_3 + t104)) (wrap64 ((x6_3.length : Int) + 1))) then (if (Int.tmod (wrap64 (x10_3 + t104)) (wrap64 ((x6_3.length : Int) + 1))) ≤ (x6_3.length : Int) then ((some (x6_3.take ((Int.tmod (wrap64 (x10_3 + t104)) (wrap64 ((x6_3.length : Int) + 1))) : Int).toNat : List Int)).bind fun y109 => (if ([] : List Int).length + y109.length < 17592186044416 then ((some (([] : List Int) ++ y109 : List Int)).bind fun y113 => (if y113.length < 17592186044416 then ((some (y113 ++ [wrap64 (x8_3 + (wrap64 (Int.tdiv (wrap64 (x10_3 + t104)) (wrap64 ((x6_3.length : Int) + 1)))))] : List Int)).bind fun y116 => ((some (x6_3.drop ((Int.tmod (wrap64 (x10_3 + t104)) (wrap64 ((x6_3.length : Int) + 1))) : Int).toNat : List Int)).bind fun y119 => (if y116.length + y119.length < 17592186044416 then (if 0 ≤ t105 then (if t105 ≤ (x0_3.size : Int) then (paronymref12_Decode.l2 k3 (x0_3.extract (t105 : Int).toNat x0_3.size) (y116 ++ y119) (wrap64 (x8_3 + (wrap64 (Int.tdiv (wrap64 (x10_3 + t104)) (wrap64 ((x6_3.length : Int) + 1)))))) t107 (wrap64 ((Int.tmod (wrap64 (x10_3 + t104)) (wrap64 ((x6_3.length : Int) + 1))) + 1)) false) else (none)) else (none)) else (none)))) else (none))) else (none))) else (none)) else (none)) = some (r1, r2) := by rw [if_pos rfl] at H; exact H
                              clear H
                              have H := H1
                              clear H1
                              obtain ⟨ji30, hji30⟩ : ∃ j_ : Int, (Int.tmod (wrap64 (x10_3 + t104)) (wrap64 ((x6_3.length : Int) + 1))) = j_ := ⟨_, rfl⟩
                              replace H : (if 0 ≤ (ji30) then (if (ji30) ≤ (x6_3.length : Int) then ((some (x6_3.take ((ji30) : Int).toNat : List Int)).bind fun y109 => (if ([] : List Int).length + y109.length < 17592186044416 then ((some (([] : List Int) ++ y109 : List Int)).bind fun y113 => (if y113.length < 17592186044416 then ((some (y113 ++ [wrap64 (x8_3 + (wrap64 (Int.tdiv (wrap64 (x10_3 + t104)) (wrap64 ((x6_3.length : Int) + 1)))))] : List Int)).bind fun y116 => ((some (x6_3.drop ((ji30) : Int).toNat : List Int)).bind fun y119 => (if y116.length + y119.length < 17592186044416 then (if 0 ≤ t105 then (if t105 ≤ (x0_3.size : Int) then (paronymref12_Decode.l2 k3 (x0_3.extract (t105 : Int).toNat x0_3.size) (y116 ++ y119) (wrap64 (x8_3 + (wrap64 (Int.tdiv (wrap64 (x10_3 + t104)) (wrap64 ((x6_3.length : Int) + 1)))))) t107 (wrap64 ((ji30) + 1)) false) else (none)) else (none)) else (none)))) else (none))) else (none))) else (none)) else (none)) = some (r1, r2) := by first | (rw [hji30] at H; exact H) | (simp only [hji30] at H ⊢; exact H)
                              (try rw [hji30] at A21)
                              (try rw [hji30] at A24)
                              (try rw [hji30] at A28)
                              by_cases c31 : 0 ≤ (ji30)
                              · rw [if_pos c31] at H
                                have c31b0 := eq_true c31
                                have c31b1 : decide (0 ≤ (ji30)) = true := decide_eq_true c31
                                clear c31
                                by_cases c32 : (ji30) ≤ (x6_3.length : Int)
                                · rw [if_pos c32] at H
                                  have c32b0 := eq_true c32
                                  have c32b1 : decide ((ji30) ≤ (x6_3.length : Int)) = true := decide_eq_true c32
                                  clear c32
                                  obtain ⟨y109, hy109⟩ : ∃ y_ : List Int, y_ = (x6_3.take ((ji30) : Int).toNat) := ⟨_, rfl⟩
                                  replace H : (if ([] : List Int).length + y109.length < 17592186044416 then ((some (([] : List Int) ++ y109 : List Int)).bind fun y113 => (if y113.length < 17592186044416 then ((some (y113 ++ [wrap64 (x8_3 + (wrap64 (Int.tdiv (wrap64 (x10_3 + t104)) (wrap64 ((x6_3.length : Int) + 1)))))] : List Int)).bind fun y116 => ((some (x6_3.drop ((ji30) : Int).toNat : List Int)).bind fun y119 => (if y116.length + y119.length < 17592186044416 then (if 0 ≤ t105 then (if t105 ≤ (x0_3.size : Int) then (paronymref12_Decode.l2 k3 (x0_3.extract (t105 : Int).toNat x0_3.size) (y116 ++ y119) (wrap64 (x8_3 + (wrap64 (Int.tdiv (wrap64 (x10_3 + t104)) (wrap64 ((x6_3.length : Int) + 1)))))) t107 (wrap64 ((ji30) + 1)) false) else (none)) else (none)) else (none)))) else (none))) else (none)) = some (r1, r2) := by first | (rw [hy109]; with_reducible exact H) | (have H2_ := (Option.bind_some _ _).symm.trans H; rw [hy109]; with_reducible exact H2_) | (have H2_ := (Option.bind_some _ _).symm.trans H; with_reducible exact H2_) | with_reducible exact H | (rw [hy109]; exact H) | exact H
                                  have Ny109 := Aside0.mk hy109
                                  clear hy109
                                  by_cases c33 : ([] : List Int).length + y109.length < 17592186044416
                                  · rw [if_pos c33] at H
                                    have LMc33 := Aside0.mk c33
                                    clear c33
                                    obtain ⟨y113, hy113⟩ : ∃ y_ : List Int, y_ = (([] : List Int) ++ y109) := ⟨_, rfl⟩
                                    replace H : (if y113.length < 17592186044416 then ((some (y113 ++ [wrap64 (x8_3 + (wrap64 (Int.tdiv (wrap64 (x10_3 + t104)) (wrap64 ((x6_3.length : Int) + 1)))))] : List Int)).bind fun y116 => ((some (x6_3.drop ((ji30) : Int).toNat : List Int)).bind fun y119 => (if y116.length + y119.length < 17592186044416 then (if 0 ≤ t105 then (if t105 ≤ (x0_3.size : Int) then (paronymref12_Decode.l2 k3 (x0_3.extract (t105 : Int).toNat x0_3.size) (y116 ++ y119) (wrap64 (x8_3 + (wrap64 (Int.tdiv (wrap64 (x10_3 + t104)) (wrap64 ((x6_3.length : Int) + 1)))))) t107 (wrap64 ((ji30) + 1)) false) else (none)) else (none)) else (none)))) else (none)) = some (r1, r2) := by first | (rw [hy113]; with_reducible exact H) | (have H2_ := (Option.bind_some _ _).symm.trans H; rw [hy113]; with_reducible exact H2_) | (have H2_ := (Option.bind_some _ _).symm.trans H; with_reducible exact H2_) | with_reducible exact H | (rw [hy113]; exact H) | exact H
                                    have Ny113 := Aside0.mk hy113
                                    clear hy113
                                    by_cases c34 : y113.length < 17592186044416
                                    · rw [if_pos c34] at H
                                      have LMc34 := Aside0.mk c34
                                      clear c34
                                      obtain ⟨y116, hy116⟩ : ∃ y_ : List Int, y_ = (y113 ++ [wrap64 (x8_3 + (wrap64 (Int.tdiv (wrap64 (x10_3 + t104)) (wrap64 ((x6_3.length : Int) + 1)))))]) := ⟨_, rfl⟩
                                      replace H : ((some (x6_3.drop ((ji30) : Int).toNat : List Int)).bind fun y119 => (if y116.length + y119.length < 17592186044416 then (if 0 ≤ t105 then (if t105 ≤ (x0_3.size : Int) then (paronymref12_Decode.l2 k3 (x0_3.extract (t105 : Int).toNat x0_3.size) (y116 ++ y119) (wrap64 (x8_3 + (wrap64 (Int.tdiv (wrap64 (x10_3 + t104)) (wrap64 ((x6_3.length : Int) + 1)))))) t107 (wrap64 ((ji30) + 1)) false) else (none)) else (none)) else (none))) = some (r1, r2) := by first | (rw [hy116]; with_reducible exact H) | (have H2_ := (Option.bind_some _ _).symm.trans H; rw [hy116]; with_reducible exact H2_) | (have H2_ := (Option.bind_some _ _).symm.trans H; with_reducible exact H2_) | with_reducible exact H | (rw [hy116]; exact H) | exact H
                                      have Ny116 := Aside0.mk hy116
                                      clear hy116
                                      have c35b0 := eq_true (of_decide_eq_true (by first | (with_reducible assumption) | assumption) : 0 ≤ (ji30))
                                      have c36b0 := eq_true (of_decide_eq_true (by first | (with_reducible assumption) | assumption) : (ji30) ≤ (x6_3.length : Int))
                                      obtain ⟨y119, hy119⟩ : ∃ y_ : List Int, y_ = (x6_3.drop ((ji30) : Int).toNat) := ⟨_, rfl⟩
                                      replace H : (if y116.length + y119.length < 17592186044416 then (if 0 ≤ t105 then (if t105 ≤ (x0_3.size : Int) then (paronymref12_Decode.l2 k3 (x0_3.extract (t105 : Int).toNat x0_3.size) (y116 ++ y119) (wrap64 (x8_3 + (wrap64 (Int.tdiv (wrap64 (x10_3 + t104)) (wrap64 ((x6_3.length : Int) + 1)))))) t107 (wrap64 ((ji30) + 1)) false) else (none)) else (none)) else (none)) = some (r1, r2) := by first | (rw [hy119]; with_reducible exact H) | (have H2_ := (Option.bind_some _ _).symm.trans H; rw [hy119]; with_reducible exact H2_) | (have H2_ := (Option.bind_some _ _).symm.trans H; with_reducible exact H2_) | with_reducible exact H | (rw [hy119]; exact H) | exact H
                                      have Ny119 := Aside0.mk hy119
                                      clear hy119
                                      by_cases c37 : y116.length + y119.length < 17592186044416
                                      · rw [if_pos c37] at H
                                        have LMc37 := Aside0.mk c37
                                        clear c37
                                        obtain ⟨y123, hy123⟩ : ∃ y_ : List Int, y_ = (y116 ++ y119) := ⟨_, rfl⟩
                                        replace H : (if 0 ≤ t105 then (if t105 ≤ (x0_3.size : Int) then (paronymref12_Decode.l2 k3 (x0_3.extract (t105 : Int).toNat x0_3.size) y123 (wrap64 (x8_3 + (wrap64 (Int.tdiv (wrap64 (x10_3 + t104)) (wrap64 ((x6_3.length : Int) + 1)))))) t107 (wrap64 ((ji30) + 1)) false) else (none)) else (none)) = some (r1, r2) := by first | (rw [hy123]; with_reducible exact H) | (have H2_ := (Option.bind_some _ _).symm.trans H; rw [hy123]; with_reducible exact H2_) | (have H2_ := (Option.bind_some _ _).symm.trans H; with_reducible exact H2_) | with_reducible exact H | (rw [hy123]; exact H) | exact H
                                        have Ny123 := Aside0.mk hy123
                                        clear hy123
                                        by_cases c38 : 0 ≤ t105
                                        · rw [if_pos c38] at H
                                          have c38b0 := eq_true c38
                                          have c38b1 : decide (0 ≤ t105) = true := decide_eq_true c38
                                          clear c38
                                          by_cases c39 : t105 ≤ (x0_3.size : Int)
                                          · rw [if_pos c39] at H
                                            have c39b0 := eq_true c39
                                            have c39b1 : decide (t105 ≤ (x0_3.size : Int)) = true := decide_eq_true c39
                                            clear c39
                                            have H' := Aside0.mk H
                                            clear H
                                            go_wp2_with (first | ((with_reducible refine gate_callee (f := 67) rfl ?_); refine goesL_ (some 59) rfl rfl Try.func67 (by kernel_rfl) rfl #[.string x0_3, .int .i64 x9_3] rfl (by (try simp only [List.map_toArray, List.map_cons, List.map_nil]); first | done | rfl | (simp only [List.length_drop, List.length_take]; rfl)) ?_; (with_reducible refine (paronymref12_read.calls k3 x0_3 x9_3 t104 t105 t106 _ A21.out).mono ?_); rintro e w' ⟨rfl, ⟨nd, rfl⟩⟩; refine ⟨_, rfl, ?_⟩; obtain ⟨Ao40, co40, eo40⟩ := Kd.R_slice HO_6.out; subst eo40) | ((with_reducible refine gate_callee (f := 62) rfl ?_); refine goesL_ (some 77) rfl rfl Try.func62 (by kernel_rfl) rfl #[.int .i64 t104, .int .i64 (wrap64 ((x6_3.length : Int) + 1)), .bool x11_3] rfl (by (try simp only [List.map_toArray, List.map_cons, List.map_nil]); first | done | rfl | (simp only [List.length_drop, List.length_take]; rfl)) ?_; (with_reducible refine (paronymref12_Bias.calls k3 t104 (wrap64 ((x6_3.length : Int) + 1)) x11_3 t107 _ A24.out).mono ?_); rintro e w' ⟨rfl, ⟨nd, rfl⟩⟩; refine ⟨_, rfl, ?_⟩) | ((with_reducible refine gate_callee (f := 40) rfl ?_); refine goesL_ (some 86) rfl rfl Try.func40 (by kernel_rfl) rfl #[.int .i64 (wrap64 (x8_3 + (wrap64 (Int.tdiv (wrap64 (x10_3 + t104)) (wrap64 ((x6_3.length : Int) + 1))))))] rfl (by (try simp only [List.map_toArray, List.map_cons, List.map_nil]); first | done | rfl | (simp only [List.length_drop, List.length_take]; rfl)) ?_; (with_reducible refine (paronymref01_Scalar.calls (wrap64 (x8_3 + (wrap64 (Int.tdiv (wrap64 (x10_3 + t104)) (wrap64 ((x6_3.length : Int) + 1)))))) true _ A28.out).mono ?_); rintro e w' ⟨rfl, ⟨nd, rfl⟩⟩; refine ⟨_, rfl, ?_⟩; have q41 : ((ji30) : Int) ≤ ((x6_3.length : Int) : Int) := of_decide_eq_true (by first | (with_reducible assumption) | assumption); obtain ⟨i041, hi041, _, hsz41, _⟩ := info_parts info3; have hroom41 : x6_3.length ≤ co40 := (Kd.R_reads' HO_6.out).2.1; have hC41 : Kd.C (Kd.int .i64) _ Ao40 x6_3.length x6_3 := (Kd.R_reads' HO_6.out).2.2; have hcut41 := cut_to (P := Try.prog) 31 3 .i64 Try.underlying31 hi041 Ao40 x6_3.length co40 (ji30) (of_decide_eq_true (by first | (with_reducible assumption) | assumption)) q41 hroom41; have hr41 := Kd.C_take (m := ((ji30) : Int).toNat) hC41 (by omega); have hy41 : y109.length = ((ji30) : Int).toNat := (by rw [Ny109.out, List.length_take]; omega); rw [← Ny109.out] at hr41; rw [← hy41] at hcut41; have HR112 := Aside0.mk hr41; have HC112 := Aside0.mk (show y109.length ≤ co40 from by omega); clear hr41 hC41 hroom41 hi041 hsz41; have KY41 := Aside0.mk hy41; clear hy41; have KL41 := Aside0.mk (show ((ji30) : Int).toNat ≤ x6_3.length from by omega); replace q41 := eq_true q41) | ((with_reducible refine gate_builtin (b := .append) (xs := #[.tmp 91, .tmp 94]) rfl ?_); at_builtin; refine Kd.R_append_rows (Kd.int .i64) (w0 := w) w.heap.size rfl (.tmp 91) (.tmp 94) 31 3 (.int .i64 0) 8 rfl Try.underlying31 info3 rfl (by decide) (by omega) (.slice none 0 0) ([] : List Int) y109 _ _ _ (fun k_ => some k_ ≠ (.slice Ao40 x6_3.length co40 : Value).ownBlock) (fun _ => False) rfl rfl ?aO ?aR (fun _ _ h => h) (fun _ h => h.elim) ?aF ?aB ?aS ?aL ?_; (case aR => repeat (first | exact (by repeat (first | (with_reducible exact HR112.out) | (with_reducible refine Kd.C_alloc ?_ _) | (with_reducible refine Kd.C_drewN ?_ _) | (with_reducible refine Kd.C_drew ?_) | exact HR112.out)) | (with_reducible refine Kd.C_alloc ?_ _) | (with_reducible refine Kd.C_drewN ?_ _) | (with_reducible refine Kd.C_drew ?_))); (case aB => exact (by repeat (first | (with_reducible first | exact HB.out | apply below_alloc | apply pw_below_drewN | apply below_drew1) | exact HB.out))); (case aF => exact (fun k_ hk => Kd.fresh' (Kd.R_lt (by (with_reducible repeat (first | apply Kd.R_alloc | apply Kd.R_drewN | apply Kd.R_drew)); exact HO_6.out)) k_ hk)); (case aO => exact ((Kd.R_nil _ _ _ _ (fun k_ => some k_ ≠ (.slice Ao40 x6_3.length co40 : Value).ownBlock)))); (case aS => exact (below_size (by repeat (first | (with_reducible first | exact HB.out | apply below_alloc | apply pw_below_drewN | apply below_drew1) | exact HB.out)))); (case aL => have := LMc33.out; omega); intro v114 w42 ho hb hg hat; rw [← Ny113.out] at ho; have n0_ := Aside0.mk (Kd.R_after (Kd.R_apart_nil (by (with_reducible repeat (first | apply Kd.R_alloc | apply Kd.R_drewN | apply Kd.R_drew)); exact HO_6.out)) hg hat); have n1_ := Aside0.mk (hb); have n2_ := Aside0.mk ((show Kd.C (Kd.int .i64) w42 Ao40 y109.length y109 from by rw [Ny109.out]; exact Kd.C_take (m := ((ji30) : Int).toNat) ((Kd.R_reads' (Kd.R_after (Kd.R_apart_nil (by (with_reducible repeat (first | apply Kd.R_alloc | apply Kd.R_drewN | apply Kd.R_drew)); exact HO_6.out)) hg hat)).2.2) KL41.out)); have n3_ := Aside0.mk (ho); clear HO_6; clear HB; clear HR112; have HO_6 := n0_; have HB := n1_; have HR112 := n2_; have HO115 := n3_; clear n0_ n1_ n2_ n3_; clear ho hb hg hat) | ((with_reducible refine gate_builtin (b := .append) (xs := #[.tmp 96, .tmp 98]) rfl ?_); at_builtin; refine Kd.R_append (Kd.int .i64) (w0 := w) w.heap.size rfl (.tmp 96) (.tmp 98) 31 3 (.int .i64 0) 8 rfl Try.underlying31 info3 rfl (by decide) (by omega) v114 y113 (wrap64 (x8_3 + (wrap64 (Int.tdiv (wrap64 (x10_3 + t104)) (wrap64 ((x6_3.length : Int) + 1)))))) [.int .i64 (wrap64 (x8_3 + (wrap64 (Int.tdiv (wrap64 (x10_3 + t104)) (wrap64 ((x6_3.length : Int) + 1))))))] (fun k_ => some k_ ≠ (.slice Ao40 x6_3.length co40 : Value).ownBlock) (fun _ => False) rfl rfl ?aP (fun _ hk => hk.elim) ?aF ?aO ?aB ?aS ?aL ?_; (case aP => exact rfl); (case aB => exact (by repeat (first | (with_reducible first | exact HB.out | apply below_alloc | apply pw_below_drewN | apply below_drew1) | exact HB.out))); (case aF => exact (fun k_ hk => Kd.fresh' (Kd.R_lt (by (with_reducible repeat (first | apply Kd.R_alloc | apply Kd.R_drewN | apply Kd.R_drew)); exact HO_6.out)) k_ hk)); (case aO => exact (by (with_reducible repeat (first | apply Kd.R_alloc | apply Kd.R_drewN | apply Kd.R_drew)); exact HO115.out)); (case aS => exact (below_size (by repeat (first | (with_reducible first | exact HB.out | apply below_alloc | apply pw_below_drewN | apply below_drew1) | exact HB.out)))); (case aL => have := LMc34.out; omega); intro v117 w43 ho hb hg hat; rw [← Ny116.out] at ho; have n0_ := Aside0.mk (Kd.R_after (ok := (fun _ => True)) (by (with_reducible repeat (first | apply Kd.R_alloc | apply Kd.R_drewN | apply Kd.R_drew)); exact HO_6.out) hg hat); have n1_ := Aside0.mk (hb); have n2_ := Aside0.mk ((show Kd.C (Kd.int .i64) w43 Ao40 y109.length y109 from by rw [Ny109.out]; exact Kd.C_take (m := ((ji30) : Int).toNat) ((Kd.R_reads' (Kd.R_after (ok := (fun _ => True)) (by (with_reducible repeat (first | apply Kd.R_alloc | apply Kd.R_drewN | apply Kd.R_drew)); exact HO_6.out) hg hat)).2.2) KL41.out)); have n3_ := Aside0.mk (ho); clear HO_6; clear HB; clear HR112; clear HO115; have HO_6 := n0_; have HB := n1_; have HR112 := n2_; have HO118 := n3_; clear n0_ n1_ n2_ n3_; clear ho hb hg hat; have q44 : ((ji30) : Int) ≤ ((x6_3.length : Int) : Int) := of_decide_eq_true (by first | (with_reducible assumption) | assumption); obtain ⟨i044, hi044, _, hsz44, _⟩ := info_parts info3; have hroom44 : x6_3.length ≤ co40 := (Kd.R_reads' HO_6.out).2.1; have hC44 : Kd.C (Kd.int .i64) _ Ao40 x6_3.length x6_3 := (Kd.R_reads' HO_6.out).2.2; have q044 : (0 : Int) ≤ ((ji30) : Int) := of_decide_eq_true (by first | (with_reducible assumption) | assumption); have hcut44 := cut_from (P := Try.prog) 31 3 .i64 Try.underlying31 hi044 1 hsz44 Ao40 x6_3.length co40 (ji30) q044 q44; have hr44 := Kd.C_drop (m := ((ji30) : Int).toNat) (c := co40) hC44 (by omega) hroom44; obtain ⟨A44, hA44⟩ : ∃ A1, A1 = (if co40 = ((ji30) : Int).toNat then Ao40 else (Ao40 : Option Addr).map (·.add (((ji30) : Int).toNat * 1))) := ⟨_, rfl⟩; obtain ⟨c44, hc44⟩ : ∃ c1, c1 = co40 - ((ji30) : Int).toNat := ⟨_, rfl⟩; have hy44 : y119.length = x6_3.length - ((ji30) : Int).toNat := (by rw [Ny119.out, List.length_drop] <;> omega); rw [show (x6_3).drop ((ji30) : Int).toNat = y119 from Ny119.out.symm] at hr44; replace hr44 : Kd.C (Kd.int .i64) _ A44 y119.length y119 := (by rw [hA44]; exact hr44); rw [← hy44, ← hA44, ← hc44] at hcut44; have HR122 := Aside0.mk hr44; have HC122 := Aside0.mk (show y119.length ≤ c44 from by rw [hy44, hc44]; exact Nat.sub_le_sub_right hroom44 _); clear hr44 hC44 hroom44 hi044 hsz44 hc44; have KY44 := Aside0.mk hy44; have KA44 := Aside0.mk hA44; clear hy44 hA44; have KL44 := Aside0.mk (show ((ji30) : Int).toNat ≤ x6_3.length from by omega); replace q44 := eq_true q44) | ((with_reducible refine gate_builtin (b := .append) (xs := #[.tmp 100, .tmp 103]) rfl ?_); at_builtin; refine Kd.R_append_rows (Kd.int .i64) (w0 := w) w.heap.size rfl (.tmp 100) (.tmp 103) 31 3 (.int .i64 0) 8 rfl Try.underlying31 info3 rfl (by decide) (by omega) v117 y116 y119 _ _ _ (fun k_ => some k_ ≠ (.slice Ao40 x6_3.length co40 : Value).ownBlock) (fun _ => False) rfl rfl ?aO ?aR (fun _ _ h => h) (fun _ h => h.elim) ?aF ?aB ?aS ?aL ?_; (case aR => repeat (first | exact (by repeat (first | (with_reducible exact HR122.out) | (with_reducible refine Kd.C_alloc ?_ _) | (with_reducible refine Kd.C_drewN ?_ _) | (with_reducible refine Kd.C_drew ?_) | exact HR122.out)) | (with_reducible refine Kd.C_alloc ?_ _) | (with_reducible refine Kd.C_drewN ?_ _) | (with_reducible refine Kd.C_drew ?_))); (case aB => exact (by repeat (first | (with_reducible first | exact HB.out | apply below_alloc | apply pw_below_drewN | apply below_drew1) | exact HB.out))); (case aF => exact (fun k_ hk => Kd.fresh' (Kd.R_lt (by (with_reducible repeat (first | apply Kd.R_alloc | apply Kd.R_drewN | apply Kd.R_drew)); exact HO_6.out)) k_ hk)); (case aO => exact (by (with_reducible repeat (first | apply Kd.R_alloc | apply Kd.R_drewN | apply Kd.R_drew)); exact HO118.out)); (case aS => exact (below_size (by repeat (first | (with_reducible first | exact HB.out | apply below_alloc | apply pw_below_drewN | apply below_drew1) | exact HB.out)))); (case aL => have := LMc37.out; omega); intro v124 w45 ho hb hg hat; rw [← Ny123.out] at ho; have n0_ := Aside0.mk (Kd.R_after (ok := (fun _ => True)) (by (with_reducible repeat (first | apply Kd.R_alloc | apply Kd.R_drewN | apply Kd.R_drew)); exact HO_6.out) hg hat); have n1_ := Aside0.mk (hb); have n2_ := Aside0.mk ((show Kd.C (Kd.int .i64) w45 Ao40 y109.length y109 from by rw [Ny109.out]; exact Kd.C_take (m := ((ji30) : Int).toNat) ((Kd.R_reads' (Kd.R_after (ok := (fun _ => True)) (by (with_reducible repeat (first | apply Kd.R_alloc | apply Kd.R_drewN | apply Kd.R_drew)); exact HO_6.out) hg hat)).2.2) KL41.out)); have n3_ := Aside0.mk ((show Kd.C (Kd.int .i64) w45 A44 y119.length y119 from by rw [Ny119.out, KA44.out]; exact Kd.C_drop (m := ((ji30) : Int).toNat) (c := co40) ((Kd.R_reads' (Kd.R_after (ok := (fun _ => True)) (by (with_reducible repeat (first | apply Kd.R_alloc | apply Kd.R_drewN | apply Kd.R_drew)); exact HO_6.out) hg hat)).2.2) KL44.out ((Kd.R_reads' (Kd.R_after (ok := (fun _ => True)) (by (with_reducible repeat (first | apply Kd.R_alloc | apply Kd.R_drewN | apply Kd.R_drew)); exact HO_6.out) hg hat)).2.1))); have n4_ := Aside0.mk (ho); clear HO_6; clear HB; clear HR112; clear HR122; clear HO118; have HO_6 := n0_; have HB := n1_; have HR112 := n2_; have HR122 := n3_; have HO125 := n4_; clear n0_ n1_ n2_ n3_ n4_; clear ho hb hg hat))
                                            go_roundg k3
                                            case measure => have := HK1.out; have := HJ8.out; have := HK3.out; omega
                                            case rel => exact ⟨(x0_3.extract (t105 : Int).toNat x0_3.size), (y123), (wrap64 (x8_3 + (wrap64 (Int.tdiv (wrap64 (x10_3 + t104)) (wrap64 ((x6_3.length : Int) + 1)))))), (t107), (wrap64 ((ji30) + 1)), (false), (by first | rfl | (simp; done) | (simp [*]; done)), (by first | rfl | (simp; done) | (simp [*]; done)), (by first | rfl | (simp; done) | (simp [*]; done)), (by first | rfl | (simp; done) | (simp only [← hji30] <;> (first | rfl | simp)) | (simp [*]; done)), (by first | rfl | (simp; done) | (simp [*]; done)), H', ⟨by have := HK1.out; have := HJ8.out; have := HK3.out; omega⟩, ⟨by (with_reducible repeat (first | apply Kd.R_alloc | apply Kd.R_drewN | apply Kd.R_drew)); exact Kd.R_mono HO125.out (fun _ hk => trivial)⟩, ⟨by repeat (first | (with_reducible first | exact HB.out | apply below_alloc | apply pw_below_drewN | apply below_drew1) | exact HB.out)⟩⟩
                                          · rw [if_neg c39] at H
                                            exact absurd H (by simp)
                                        · rw [if_neg c38] at H
                                          exact absurd H (by simp)
                                      · rw [if_neg c37] at H
                                        exact absurd H (by simp)
                                    · rw [if_neg c34] at H
                                      exact absurd H (by simp)
                                  · rw [if_neg c33] at H
                                    exact absurd H (by simp)
                                · rw [if_neg c32] at H
                                  exact absurd H (by simp)
                              · rw [if_neg c31] at H
                                exact absurd H (by simp)
                            · replace c29 := Bool.eq_false_iff.mpr c29
                              subst c29
                              have H1 : (some (([] : List Int), 10)) = some (r1, r2) := by rw [if_neg (show ¬ (false = true) by decide)] at H; exact H
                              clear H
                              have H := H1
                              clear H1
                              simp only [Option.some.injEq, Prod.mk.injEq] at H
                              obtain ⟨rfl, rfl⟩ := H
                              go_wp2_with (first | ((with_reducible refine gate_callee (f := 67) rfl ?_); refine goesL_ (some 59) rfl rfl Try.func67 (by kernel_rfl) rfl #[.string x0_3, .int .i64 x9_3] rfl (by (try simp only [List.map_toArray, List.map_cons, List.map_nil]); first | done | rfl | (simp only [List.length_drop, List.length_take]; rfl)) ?_; (with_reducible refine (paronymref12_read.calls k3 x0_3 x9_3 t104 t105 t106 _ A21.out).mono ?_); rintro e w' ⟨rfl, ⟨nd, rfl⟩⟩; refine ⟨_, rfl, ?_⟩; obtain ⟨Ao46, co46, eo46⟩ := Kd.R_slice HO_6.out; subst eo46) | ((with_reducible refine gate_callee (f := 62) rfl ?_); refine goesL_ (some 77) rfl rfl Try.func62 (by kernel_rfl) rfl #[.int .i64 t104, .int .i64 (wrap64 ((x6_3.length : Int) + 1)), .bool x11_3] rfl (by (try simp only [List.map_toArray, List.map_cons, List.map_nil]); first | done | rfl | (simp only [List.length_drop, List.length_take]; rfl)) ?_; (with_reducible refine (paronymref12_Bias.calls k3 t104 (wrap64 ((x6_3.length : Int) + 1)) x11_3 t107 _ A24.out).mono ?_); rintro e w' ⟨rfl, ⟨nd, rfl⟩⟩; refine ⟨_, rfl, ?_⟩) | ((with_reducible refine gate_callee (f := 40) rfl ?_); refine goesL_ (some 86) rfl rfl Try.func40 (by kernel_rfl) rfl #[.int .i64 (wrap64 (x8_3 + (wrap64 (Int.tdiv (wrap64 (x10_3 + t104)) (wrap64 ((x6_3.length : Int) + 1))))))] rfl (by (try simp only [List.map_toArray, List.map_cons, List.map_nil]); first | done | rfl | (simp only [List.length_drop, List.length_take]; rfl)) ?_; (with_reducible refine (paronymref01_Scalar.calls (wrap64 (x8_3 + (wrap64 (Int.tdiv (wrap64 (x10_3 + t104)) (wrap64 ((x6_3.length : Int) + 1)))))) false _ A28.out).mono ?_); rintro e w' ⟨rfl, ⟨nd, rfl⟩⟩; refine ⟨_, rfl, ?_⟩))
                              go_ret2
                              exact ⟨_, by first | rfl | (simp [errW_none, errW_some] <;> rfl) | (simp [*, errW_none, errW_some] <;> rfl), by first | exact Kd.R_nil _ _ _ _ _ | exact Kd.N_nil _ _ _ _ _ | exact Kd.V_nil _ _ _ _ _ | exact Kd.Q_nil _ _ _ _ _ | exact Kd.S_nil _ _ _ _ _, by repeat (first | (with_reducible first | exact HB.out | apply below_alloc | apply pw_below_drewN | apply below_drew1) | exact HB.out)⟩
                    · rw [if_neg c22] at H
                      have c22b0 : (t106 == 0) = false := beq_eq_false_iff_ne.mpr c22
                      have c22b1 : (t106 != 0) = true := bne_iff_ne.mpr c22
                      simp only [Option.some.injEq, Prod.mk.injEq] at H
                      obtain ⟨rfl, rfl⟩ := H
                      go_wp2_with (first | ((with_reducible refine gate_callee (f := 67) rfl ?_); refine goesL_ (some 59) rfl rfl Try.func67 (by kernel_rfl) rfl #[.string x0_3, .int .i64 x9_3] rfl (by (try simp only [List.map_toArray, List.map_cons, List.map_nil]); first | done | rfl | (simp only [List.length_drop, List.length_take]; rfl)) ?_; (with_reducible refine (paronymref12_read.calls k3 x0_3 x9_3 t104 t105 t106 _ A21.out).mono ?_); rintro e w' ⟨rfl, ⟨nd, rfl⟩⟩; refine ⟨_, rfl, ?_⟩))
                      go_ret2
                      exact ⟨_, by first | rfl | (simp [errW_none, errW_some] <;> rfl) | (simp [*, errW_none, errW_some] <;> rfl), by first | exact Kd.R_nil _ _ _ _ _ | exact Kd.N_nil _ _ _ _ _ | exact Kd.V_nil _ _ _ _ _ | exact Kd.Q_nil _ _ _ _ _ | exact Kd.S_nil _ _ _ _ _, by repeat (first | (with_reducible first | exact HB.out | apply below_alloc | apply pw_below_drewN | apply below_drew1) | exact HB.out)⟩
                  · rw [if_neg c20] at H
                    have c20b0 : decide (0 < (x0_3.size : Int)) = false := decide_eq_false c20
                    have c20b1 : decide (0 < x0_3.size) = false := decide_eq_false (by omega)
                    clear c20
                    simp only [Option.some.injEq, Prod.mk.injEq] at H
                    obtain ⟨rfl, rfl⟩ := H
                    go_wp2
                    go_ret2
                    exact ⟨_, by first | rfl | (simp [errW_none, errW_some] <;> rfl) | (simp [*, errW_none, errW_some] <;> rfl), by (with_reducible repeat (first | apply Kd.R_alloc | apply Kd.R_drewN | apply Kd.R_drew)); exact HO_6.out, by repeat (first | (with_reducible first | exact HB.out | apply below_alloc | apply pw_below_drewN | apply below_drew1) | exact HB.out)⟩

end Go.Proofs.Ytooiajkbpkfplaa.Q

-- from Qf13
-- Made by hp.py, a program of this session, with the kit's printer. Not trusted: Lean checks it.
namespace Go.Proofs.Ytooiajkbpkfplaa.Q
open Go.RowKit Go.Proofs.YtooiajkbpkfplaaW.PrintWords Go.Proofs.YtooiajkbpkfplaaW.PrintLast Go.Proofs.YtooiajkbpkfplaaW.PrintMore
attribute [local go_sem] max2_int min2_int max_two min_two max_three min_three max_four min_four   -- for this text's walks alone
set_option linter.unusedVariables false
set_option linter.unusedSimpArgs false

/-! ### paronymlaw12_PunyDecodes: function 13 -/
def paronymlaw12_PunyDecodes.j0 : Nat → List Int → Bool → Option (Bool)
  | 0, _, _ => none
  | k + 1, x0, x14 => if x14 = true then ((paronymlaw12_awake.f k).bind fun t102 => (some t102)) else ((puny_Decode.f k x0).bind fun bt103 => ((paronymref12_Decode.f k (strOfNums x0)).bind fun bt107 => (if bt103.2 = bt107.2 then ((paronymref01_Same.f k bt103.1 bt107.1).bind fun t111 => (if t111 = true then (some ((strOfNums x0).toList == (strOfNums x0).toList)) else (some false))) else (some false))))
def paronymlaw12_PunyDecodes.f (k : Nat) (l0 : List Int) : Option (Bool) := (paronymlaw12_awake.f k).bind fun t101 => (if t101 = true then (paronymlaw12_PunyDecodes.j0 k l0 (decide ((l0.length : Int) > 300))) else (paronymlaw12_PunyDecodes.j0 k l0 true))
theorem paronymlaw12_PunyDecodes.mono_l : ∀ k, (∀ y0 y1, LeO (paronymlaw12_PunyDecodes.j0 k y0 y1) (paronymlaw12_PunyDecodes.j0 (k + 1) y0 y1))
  | 0 => fun _ _ r h => by simp [paronymlaw12_PunyDecodes.j0] at h
  | k + 1 => by
    have ih0 := paronymlaw12_PunyDecodes.mono_l k
    · intro y0 y1
      unfold paronymlaw12_PunyDecodes.j0
      repeat' first
      | (with_reducible exact ih0 _ _)
      | (with_reducible exact paronymlaw12_awake.mono _)
      | (with_reducible exact paronymref01_Same.mono _ _ _)
      | (with_reducible exact paronymref12_Decode.mono _ _)
      | (with_reducible exact puny_Decode.mono _ _)
      | (with_reducible exact LeO.refl _)
      | (with_reducible exact LeO.none _)
      | (with_reducible refine LeO.ite ?_ ?_)
      | (with_reducible refine LeO.bind ?_ (fun _ => ?_))
      | exact ih0 _ _
      | exact paronymlaw12_awake.mono _
      | exact paronymref01_Same.mono _ _ _
      | exact paronymref12_Decode.mono _ _
      | exact puny_Decode.mono _ _
      | exact LeO.none _
      | refine LeO.ite ?_ ?_
      | refine LeO.bind ?_ (fun _ => ?_)
theorem paronymlaw12_PunyDecodes.mono : ∀ a0 k, LeO (paronymlaw12_PunyDecodes.f k a0) (paronymlaw12_PunyDecodes.f (k + 1) a0) := by
  intro a0 k
  have ih0 := paronymlaw12_PunyDecodes.mono_l k
  unfold paronymlaw12_PunyDecodes.f
  repeat' first
      | (with_reducible exact ih0 _ _)
      | (with_reducible exact paronymlaw12_awake.mono _)
      | (with_reducible exact paronymref01_Same.mono _ _ _)
      | (with_reducible exact paronymref12_Decode.mono _ _)
      | (with_reducible exact puny_Decode.mono _ _)
      | (with_reducible exact LeO.refl _)
      | (with_reducible exact LeO.none _)
      | (with_reducible refine LeO.ite ?_ ?_)
      | (with_reducible refine LeO.bind ?_ (fun _ => ?_))
      | exact ih0 _ _
      | exact paronymlaw12_awake.mono _
      | exact paronymref01_Same.mono _ _ _
      | exact paronymref12_Decode.mono _ _
      | exact puny_Decode.mono _ _
      | exact LeO.none _
      | refine LeO.ite ?_ ?_
      | refine LeO.bind ?_ (fun _ => ?_)
set_option maxHeartbeats 8000000 in
set_option maxRecDepth 100000 in
theorem paronymlaw12_PunyDecodes.calls (k : Nat) (A0 : Option Addr) (c0 : Nat) (l0 : List Int) (r : Bool) (w : World) (hr0 : Kd.C (Kd.int .u8) w A0 l0.length l0) (hc0 : l0.length ≤ c0) (h : paronymlaw12_PunyDecodes.f k l0 = some r) :
    Calls Try.prog 13 #[.slice A0 l0.length c0] w fun e w' => e = .returned (.bool r) ∧ Below w.heap.size w w' := by
  have HR0 := Aside0.mk hr0
  have HC0 := Aside0.mk hc0
  clear hr0 hc0
  have HB := Aside0.mk (Below.refl w.heap.size w)
  have H : ((paronymlaw12_awake.f k).bind fun t101 => (if t101 = true then (paronymlaw12_PunyDecodes.j0 k l0 (decide ((l0.length : Int) > 300))) else (paronymlaw12_PunyDecodes.j0 k l0 true))) = some r := h
  clear h
  have HC2 := Aside0.mk H
  clear H
  go_enter Try.func13, Try.ntmps13
  go_upto_region 1 with (fail)
  go_cut [14] (fun v14 wc => ∃ (kq : Nat) (x14_1 : Bool), v14 = .bool x14_1 ∧ Aside0 (paronymlaw12_PunyDecodes.j0 kq l0 x14_1 = some r) ∧ Aside0 (kq ≤ k) ∧ Aside0 (Below w.heap.size w wc))
  case first =>
    have H := HC2.out
    clear HC2
    replace H := Option.bind_eq_some_iff.mp H
    obtain ⟨t101, A30, H⟩ := H
    replace H : (if t101 = true then (paronymlaw12_PunyDecodes.j0 k l0 (decide ((l0.length : Int) > 300))) else (paronymlaw12_PunyDecodes.j0 k l0 true)) = some r := H
    have A3 := Aside0.mk A30
    clear A30
    by_cases c4 : t101 = true
    · subst c4
      have H1 : (paronymlaw12_PunyDecodes.j0 k l0 (decide ((l0.length : Int) > 300))) = some r := by rw [if_pos rfl] at H; exact H
      clear H
      have H := H1
      clear H1
      have H' := Aside0.mk H
      clear H
      go_wp2_with (first | ((with_reducible refine gate_callee (f := 25) rfl ?_); refine goesL_ (some 8) rfl rfl Try.func25 (by kernel_rfl) rfl #[] rfl (by (try simp only [List.map_toArray, List.map_cons, List.map_nil]); first | done | rfl | (simp only [List.length_drop, List.length_take]; rfl)) ?_; (with_reducible refine (paronymlaw12_awake.calls k  true _ A3.out).mono ?_); rintro e w5 ⟨rfl, hb⟩; refine ⟨_, rfl, ?_⟩; have n0_ := Aside0.mk (below_step (by repeat (first | (with_reducible first | exact HB.out | apply below_alloc | apply pw_below_drewN | apply below_drew1) | exact HB.out)) hb); clear HB; have HB := n0_; clear n0_; (try clear hb); (try clear hb2); (try clear hk); (try clear hi)))
      go_meet
      case rel => exact ⟨_, (decide ((l0.length : Int) > 300)), (by first | rfl | (simp; done) | (simp [*]; done)), H', ⟨by first | omega | exact Nat.le_refl _⟩, ⟨by repeat (first | (with_reducible first | exact HB.out | apply below_alloc | apply pw_below_drewN | apply below_drew1) | exact HB.out)⟩⟩
    · replace c4 := Bool.eq_false_iff.mpr c4
      subst c4
      have H1 : (paronymlaw12_PunyDecodes.j0 k l0 true) = some r := by rw [if_neg (show ¬ (false = true) by decide)] at H; exact H
      clear H
      have H := H1
      clear H1
      have H' := Aside0.mk H
      clear H
      go_wp2_with (first | ((with_reducible refine gate_callee (f := 25) rfl ?_); refine goesL_ (some 8) rfl rfl Try.func25 (by kernel_rfl) rfl #[] rfl (by (try simp only [List.map_toArray, List.map_cons, List.map_nil]); first | done | rfl | (simp only [List.length_drop, List.length_take]; rfl)) ?_; (with_reducible refine (paronymlaw12_awake.calls k  false _ A3.out).mono ?_); rintro e w6 ⟨rfl, hb⟩; refine ⟨_, rfl, ?_⟩; have n0_ := Aside0.mk (below_step (by repeat (first | (with_reducible first | exact HB.out | apply below_alloc | apply pw_below_drewN | apply below_drew1) | exact HB.out)) hb); clear HB; have HB := n0_; clear n0_; (try clear hb); (try clear hb2); (try clear hk); (try clear hi)))
      go_meet
      case rel => exact ⟨_, (true), (by first | rfl | (simp; done) | (simp [*]; done)), H', ⟨by first | omega | exact Nat.le_refl _⟩, ⟨by repeat (first | (with_reducible first | exact HB.out | apply below_alloc | apply pw_below_drewN | apply below_drew1) | exact HB.out)⟩⟩
  case rest =>
    clear HC2
    try clear c1
    try clear c2
    try clear p2
    try clear c4
    obtain ⟨kq, x14_1, rfl, HA, HJ1, HB⟩ := hcut
    cases kq with
    | zero => exact absurd HA.out (by simp [paronymlaw12_PunyDecodes.j0])
    | succ kj1 =>
      have H := HA.out
      clear HA
      simp only [paronymlaw12_PunyDecodes.j0] at H
      by_cases c7 : x14_1 = true
      · subst c7
        have H1 : ((paronymlaw12_awake.f kj1).bind fun t102 => (some t102)) = some r := by rw [if_pos rfl] at H; exact H
        clear H
        have H := H1
        clear H1
        replace H := Option.bind_eq_some_iff.mp H
        obtain ⟨t102, A80, H⟩ := H
        replace H : (some t102) = some r := H
        have A8 := Aside0.mk A80
        clear A80
        obtain rfl := Option.some.inj H
        go_wp2_with (first | ((with_reducible refine gate_callee (f := 25) rfl ?_); refine goesL_ (some 15) rfl rfl Try.func25 (by kernel_rfl) rfl #[] rfl (by (try simp only [List.map_toArray, List.map_cons, List.map_nil]); first | done | rfl | (simp only [List.length_drop, List.length_take]; rfl)) ?_; (with_reducible refine (paronymlaw12_awake.calls kj1  t102 _ A8.out).mono ?_); rintro e w9 ⟨rfl, hb⟩; refine ⟨_, rfl, ?_⟩; have n0_ := Aside0.mk (below_step (by repeat (first | (with_reducible first | exact HB.out | apply below_alloc | apply pw_below_drewN | apply below_drew1) | exact HB.out)) hb); clear HB; have HB := n0_; clear n0_; (try clear hb); (try clear hb2); (try clear hk); (try clear hi)))
        go_ret
        exact ⟨by first | rfl | (simp [errW_none, errW_some] <;> rfl) | (simp [*, errW_none, errW_some] <;> rfl), by repeat (first | (with_reducible first | exact HB.out | apply below_alloc | apply pw_below_drewN | apply below_drew1) | exact HB.out)⟩
      · replace c7 := Bool.eq_false_iff.mpr c7
        subst c7
        have H1 : ((puny_Decode.f kj1 l0).bind fun bt103 => ((paronymref12_Decode.f kj1 (strOfNums l0)).bind fun bt107 => (if bt103.2 = bt107.2 then ((paronymref01_Same.f kj1 bt103.1 bt107.1).bind fun t111 => (if t111 = true then (some ((strOfNums l0).toList == (strOfNums l0).toList)) else (some false))) else (some false)))) = some r := by rw [if_neg (show ¬ (false = true) by decide)] at H; exact H
        clear H
        have H := H1
        clear H1
        replace H := Option.bind_eq_some_iff.mp H
        obtain ⟨⟨t103, t106⟩, A100, H⟩ := H
        replace H : ((paronymref12_Decode.f kj1 (strOfNums l0)).bind fun bt107 => (if t106 = bt107.2 then ((paronymref01_Same.f kj1 t103 bt107.1).bind fun t111 => (if t111 = true then (some ((strOfNums l0).toList == (strOfNums l0).toList)) else (some false))) else (some false))) = some r := H
        have A10 := Aside0.mk A100
        clear A100
        replace H := Option.bind_eq_some_iff.mp H
        obtain ⟨⟨t107, t108⟩, A110, H⟩ := H
        replace H : (if t106 = t108 then ((paronymref01_Same.f kj1 t103 t107).bind fun t111 => (if t111 = true then (some ((strOfNums l0).toList == (strOfNums l0).toList)) else (some false))) else (some false)) = some r := H
        have A11 := Aside0.mk A110
        clear A110
        by_cases c12 : t106 = t108
        · rw [if_pos c12] at H
          have c12b0 : (t106 == t108) = true := beq_iff_eq.mpr c12
          have c12b1 : (t106 != t108) = false := bne_eq_false_iff_eq.mpr c12
          clear c12
          replace H := Option.bind_eq_some_iff.mp H
          obtain ⟨t111, A130, H⟩ := H
          replace H : (if t111 = true then (some ((strOfNums l0).toList == (strOfNums l0).toList)) else (some false)) = some r := H
          have A13 := Aside0.mk A130
          clear A130
          by_cases c14 : t111 = true
          · subst c14
            have H1 : (some ((strOfNums l0).toList == (strOfNums l0).toList)) = some r := by rw [if_pos rfl] at H; exact H
            clear H
            have H := H1
            clear H1
            obtain rfl := Option.some.inj H
            have hcv15 := Kd.C_string (P := Try.prog) (A := A0) (c := c0) Try.underlying22 Try.underlying5 Try.underlying9 (Kd.C_below HR0.out HB.out)
            go_wp2_with (first | ((with_reducible refine gate_callee (f := 43) rfl ?_); refine goesL_ (some 20) rfl rfl Try.func43 (by kernel_rfl) rfl #[.slice A0 l0.length c0] rfl (by (try simp only [List.map_toArray, List.map_cons, List.map_nil]); first | done | rfl | (simp only [List.length_drop, List.length_take]; rfl)) ?_; (with_reducible refine (puny_Decode.calls kj1 (fun k_ => k_ < w.heap.size) _ _ l0 t103 t106 _ ?side1 A10.out).mono ?_); (case side1 => exact Kd.V_mk HC0.out (Kd.F_below (Kd.C_F (Kd.heap_int .u8) HR0.out) (by repeat (first | (with_reducible first | exact HB.out | apply below_alloc | apply pw_below_drewN | apply below_drew1) | exact HB.out)))); rintro e w16 ⟨v104, rfl, ho0, hb⟩; refine ⟨_, rfl, ?_⟩; have n0_ := Aside0.mk (Kd.R_lower (Kd.R_mono (ok' := fun k_ => True) ho0 (fun _ hk_ => trivial)) (below_size (by repeat (first | (with_reducible first | exact HB.out | apply below_alloc | apply pw_below_drewN | apply below_drew1) | exact HB.out)))); have n1_ := Aside0.mk (below_step (by repeat (first | (with_reducible first | exact HB.out | apply below_alloc | apply pw_below_drewN | apply below_drew1) | exact HB.out)) hb); clear HB; have HO105 := n0_; have HB := n1_; clear n0_ n1_; (try clear hb); (try clear hb2); (try clear hk); (try clear hi); (try have hcv15 := Kd.C_string (P := Try.prog) (A := A0) (c := c0) Try.underlying22 Try.underlying5 Try.underlying9 (Kd.C_below HR0.out HB.out)); (try clear ho0)) | ((with_reducible refine gate_callee (f := 44) rfl ?_); refine goesL_ (some 25) rfl rfl Try.func44 (by kernel_rfl) rfl #[.string (strOfNums l0)] rfl (by (try simp only [List.map_toArray, List.map_cons, List.map_nil]); first | done | rfl | (simp only [List.length_drop, List.length_take]; rfl)) ?_; (with_reducible refine (paronymref12_Decode.calls kj1 (strOfNums l0) t107 t108 _ A11.out).mono ?_); rintro e w17 ⟨v109, rfl, ho0, hb⟩; refine ⟨_, rfl, ?_⟩; have n0_ := Aside0.mk (Kd.R_elder' (by (with_reducible repeat (first | apply Kd.R_alloc | apply Kd.R_drewN | apply Kd.R_drew)); exact HO105.out) (Kd.R_base ho0) hb); have n1_ := Aside0.mk (Kd.R_lower (Kd.R_new' ho0 (Kd.R_lt (by (with_reducible repeat (first | apply Kd.R_alloc | apply Kd.R_drewN | apply Kd.R_drew)); exact HO105.out))) (below_size (by repeat (first | (with_reducible first | exact HB.out | apply below_alloc | apply pw_below_drewN | apply below_drew1) | exact HB.out)))); have n2_ := Aside0.mk (below_step (by repeat (first | (with_reducible first | exact HB.out | apply below_alloc | apply pw_below_drewN | apply below_drew1) | exact HB.out)) hb); clear HO105; clear HB; have HO105 := n0_; have HO110 := n1_; have HB := n2_; clear n0_ n1_ n2_; (try clear hb); (try clear hb2); (try clear hk); (try clear hi); (try have hcv15 := Kd.C_string (P := Try.prog) (A := A0) (c := c0) Try.underlying22 Try.underlying5 Try.underlying9 (Kd.C_below HR0.out HB.out)); (try clear ho0); obtain ⟨Ao18, co18, eo18⟩ := Kd.R_slice HO105.out; subst eo18; obtain ⟨Ao19, co19, eo19⟩ := Kd.R_slice HO110.out; subst eo19) | (go_at_call 31; (with_reducible refine (paronymref01_Same.calls kj1 _ _ t103 _ _ t107 true _ ?side1 ?side2 ?side3 ?side4 A13.out).mono ?_); (case side1 => repeat (first | exact (Kd.R_reads' HO105.out).2.2 | (with_reducible refine Kd.C_alloc ?_ _) | (with_reducible refine Kd.C_drewN ?_ _) | (with_reducible refine Kd.C_drew ?_))); (case side2 => exact (Kd.R_reads' HO105.out).2.1); (case side3 => repeat (first | exact (Kd.R_reads' HO110.out).2.2 | (with_reducible refine Kd.C_alloc ?_ _) | (with_reducible refine Kd.C_drewN ?_ _) | (with_reducible refine Kd.C_drew ?_))); (case side4 => exact (Kd.R_reads' HO110.out).2.1); rintro e w' ⟨rfl, ⟨nd, rfl⟩⟩; have hcv20 := Kd.C_string (P := Try.prog) (A := A0) (c := c0) Try.underlying22 Try.underlying5 Try.underlying9 (Kd.C_below HR0.out HB.out); have hcv20n := Kd.C_string (P := Try.prog) (A := A0) (c := c0) Try.underlying22 Try.underlying5 Try.underlying9 (Kd.C_below HR0.out (pw_below_drewN HB.out nd))))
            go_ret
            exact ⟨by first | rfl | (simp [errW_none, errW_some] <;> rfl) | (simp [*, errW_none, errW_some] <;> rfl), by repeat (first | (with_reducible first | exact HB.out | apply below_alloc | apply pw_below_drewN | apply below_drew1) | exact HB.out)⟩
          · replace c14 := Bool.eq_false_iff.mpr c14
            subst c14
            have H1 : (some false) = some r := by rw [if_neg (show ¬ (false = true) by decide)] at H; exact H
            clear H
            have H := H1
            clear H1
            obtain rfl := Option.some.inj H
            have hcv21 := Kd.C_string (P := Try.prog) (A := A0) (c := c0) Try.underlying22 Try.underlying5 Try.underlying9 (Kd.C_below HR0.out HB.out)
            go_wp2_with (first | ((with_reducible refine gate_callee (f := 43) rfl ?_); refine goesL_ (some 20) rfl rfl Try.func43 (by kernel_rfl) rfl #[.slice A0 l0.length c0] rfl (by (try simp only [List.map_toArray, List.map_cons, List.map_nil]); first | done | rfl | (simp only [List.length_drop, List.length_take]; rfl)) ?_; (with_reducible refine (puny_Decode.calls kj1 (fun k_ => k_ < w.heap.size) _ _ l0 t103 t106 _ ?side1 A10.out).mono ?_); (case side1 => exact Kd.V_mk HC0.out (Kd.F_below (Kd.C_F (Kd.heap_int .u8) HR0.out) (by repeat (first | (with_reducible first | exact HB.out | apply below_alloc | apply pw_below_drewN | apply below_drew1) | exact HB.out)))); rintro e w22 ⟨v104, rfl, ho0, hb⟩; refine ⟨_, rfl, ?_⟩; have n0_ := Aside0.mk (Kd.R_lower (Kd.R_mono (ok' := fun k_ => True) ho0 (fun _ hk_ => trivial)) (below_size (by repeat (first | (with_reducible first | exact HB.out | apply below_alloc | apply pw_below_drewN | apply below_drew1) | exact HB.out)))); have n1_ := Aside0.mk (below_step (by repeat (first | (with_reducible first | exact HB.out | apply below_alloc | apply pw_below_drewN | apply below_drew1) | exact HB.out)) hb); clear HB; have HO105 := n0_; have HB := n1_; clear n0_ n1_; (try clear hb); (try clear hb2); (try clear hk); (try clear hi); (try have hcv21 := Kd.C_string (P := Try.prog) (A := A0) (c := c0) Try.underlying22 Try.underlying5 Try.underlying9 (Kd.C_below HR0.out HB.out)); (try clear ho0)) | ((with_reducible refine gate_callee (f := 44) rfl ?_); refine goesL_ (some 25) rfl rfl Try.func44 (by kernel_rfl) rfl #[.string (strOfNums l0)] rfl (by (try simp only [List.map_toArray, List.map_cons, List.map_nil]); first | done | rfl | (simp only [List.length_drop, List.length_take]; rfl)) ?_; (with_reducible refine (paronymref12_Decode.calls kj1 (strOfNums l0) t107 t108 _ A11.out).mono ?_); rintro e w23 ⟨v109, rfl, ho0, hb⟩; refine ⟨_, rfl, ?_⟩; have n0_ := Aside0.mk (Kd.R_elder' (by (with_reducible repeat (first | apply Kd.R_alloc | apply Kd.R_drewN | apply Kd.R_drew)); exact HO105.out) (Kd.R_base ho0) hb); have n1_ := Aside0.mk (Kd.R_lower (Kd.R_new' ho0 (Kd.R_lt (by (with_reducible repeat (first | apply Kd.R_alloc | apply Kd.R_drewN | apply Kd.R_drew)); exact HO105.out))) (below_size (by repeat (first | (with_reducible first | exact HB.out | apply below_alloc | apply pw_below_drewN | apply below_drew1) | exact HB.out)))); have n2_ := Aside0.mk (below_step (by repeat (first | (with_reducible first | exact HB.out | apply below_alloc | apply pw_below_drewN | apply below_drew1) | exact HB.out)) hb); clear HO105; clear HB; have HO105 := n0_; have HO110 := n1_; have HB := n2_; clear n0_ n1_ n2_; (try clear hb); (try clear hb2); (try clear hk); (try clear hi); (try have hcv21 := Kd.C_string (P := Try.prog) (A := A0) (c := c0) Try.underlying22 Try.underlying5 Try.underlying9 (Kd.C_below HR0.out HB.out)); (try clear ho0); obtain ⟨Ao24, co24, eo24⟩ := Kd.R_slice HO105.out; subst eo24; obtain ⟨Ao25, co25, eo25⟩ := Kd.R_slice HO110.out; subst eo25) | (go_at_call 31; (with_reducible refine (paronymref01_Same.calls kj1 _ _ t103 _ _ t107 false _ ?side1 ?side2 ?side3 ?side4 A13.out).mono ?_); (case side1 => repeat (first | exact (Kd.R_reads' HO105.out).2.2 | (with_reducible refine Kd.C_alloc ?_ _) | (with_reducible refine Kd.C_drewN ?_ _) | (with_reducible refine Kd.C_drew ?_))); (case side2 => exact (Kd.R_reads' HO105.out).2.1); (case side3 => repeat (first | exact (Kd.R_reads' HO110.out).2.2 | (with_reducible refine Kd.C_alloc ?_ _) | (with_reducible refine Kd.C_drewN ?_ _) | (with_reducible refine Kd.C_drew ?_))); (case side4 => exact (Kd.R_reads' HO110.out).2.1); rintro e w' ⟨rfl, ⟨nd, rfl⟩⟩))
            go_ret
            exact ⟨by first | rfl | (simp [errW_none, errW_some] <;> rfl) | (simp [*, errW_none, errW_some] <;> rfl), by repeat (first | (with_reducible first | exact HB.out | apply below_alloc | apply pw_below_drewN | apply below_drew1) | exact HB.out)⟩
        · rw [if_neg c12] at H
          have c12b0 : (t106 == t108) = false := beq_eq_false_iff_ne.mpr c12
          have c12b1 : (t106 != t108) = true := bne_iff_ne.mpr c12
          obtain rfl := Option.some.inj H
          have hcv26 := Kd.C_string (P := Try.prog) (A := A0) (c := c0) Try.underlying22 Try.underlying5 Try.underlying9 (Kd.C_below HR0.out HB.out)
          go_wp2_with (first | ((with_reducible refine gate_callee (f := 43) rfl ?_); refine goesL_ (some 20) rfl rfl Try.func43 (by kernel_rfl) rfl #[.slice A0 l0.length c0] rfl (by (try simp only [List.map_toArray, List.map_cons, List.map_nil]); first | done | rfl | (simp only [List.length_drop, List.length_take]; rfl)) ?_; (with_reducible refine (puny_Decode.calls kj1 (fun k_ => k_ < w.heap.size) _ _ l0 t103 t106 _ ?side1 A10.out).mono ?_); (case side1 => exact Kd.V_mk HC0.out (Kd.F_below (Kd.C_F (Kd.heap_int .u8) HR0.out) (by repeat (first | (with_reducible first | exact HB.out | apply below_alloc | apply pw_below_drewN | apply below_drew1) | exact HB.out)))); rintro e w27 ⟨v104, rfl, ho0, hb⟩; refine ⟨_, rfl, ?_⟩; have n0_ := Aside0.mk (Kd.R_lower (Kd.R_mono (ok' := fun k_ => True) ho0 (fun _ hk_ => trivial)) (below_size (by repeat (first | (with_reducible first | exact HB.out | apply below_alloc | apply pw_below_drewN | apply below_drew1) | exact HB.out)))); have n1_ := Aside0.mk (below_step (by repeat (first | (with_reducible first | exact HB.out | apply below_alloc | apply pw_below_drewN | apply below_drew1) | exact HB.out)) hb); clear HB; have HO105 := n0_; have HB := n1_; clear n0_ n1_; (try clear hb); (try clear hb2); (try clear hk); (try clear hi); (try have hcv26 := Kd.C_string (P := Try.prog) (A := A0) (c := c0) Try.underlying22 Try.underlying5 Try.underlying9 (Kd.C_below HR0.out HB.out)); (try clear ho0)) | ((with_reducible refine gate_callee (f := 44) rfl ?_); refine goesL_ (some 25) rfl rfl Try.func44 (by kernel_rfl) rfl #[.string (strOfNums l0)] rfl (by (try simp only [List.map_toArray, List.map_cons, List.map_nil]); first | done | rfl | (simp only [List.length_drop, List.length_take]; rfl)) ?_; (with_reducible refine (paronymref12_Decode.calls kj1 (strOfNums l0) t107 t108 _ A11.out).mono ?_); rintro e w28 ⟨v109, rfl, ho0, hb⟩; refine ⟨_, rfl, ?_⟩; have n0_ := Aside0.mk (Kd.R_elder' (by (with_reducible repeat (first | apply Kd.R_alloc | apply Kd.R_drewN | apply Kd.R_drew)); exact HO105.out) (Kd.R_base ho0) hb); have n1_ := Aside0.mk (Kd.R_lower (Kd.R_new' ho0 (Kd.R_lt (by (with_reducible repeat (first | apply Kd.R_alloc | apply Kd.R_drewN | apply Kd.R_drew)); exact HO105.out))) (below_size (by repeat (first | (with_reducible first | exact HB.out | apply below_alloc | apply pw_below_drewN | apply below_drew1) | exact HB.out)))); have n2_ := Aside0.mk (below_step (by repeat (first | (with_reducible first | exact HB.out | apply below_alloc | apply pw_below_drewN | apply below_drew1) | exact HB.out)) hb); clear HO105; clear HB; have HO105 := n0_; have HO110 := n1_; have HB := n2_; clear n0_ n1_ n2_; (try clear hb); (try clear hb2); (try clear hk); (try clear hi); (try have hcv26 := Kd.C_string (P := Try.prog) (A := A0) (c := c0) Try.underlying22 Try.underlying5 Try.underlying9 (Kd.C_below HR0.out HB.out)); (try clear ho0)))
          go_ret
          exact ⟨by first | rfl | (simp [errW_none, errW_some] <;> rfl) | (simp [*, errW_none, errW_some] <;> rfl), by repeat (first | (with_reducible first | exact HB.out | apply below_alloc | apply pw_below_drewN | apply below_drew1) | exact HB.out)⟩

/-- THE ONE PURE STATEMENT of paronymlaw12_PunyDecodes: yours. -/
def paronymlaw12_PunyDecodes.Pure : Prop := ∀ (l0 : List Int), l0.length ≤ maxLen → l0.length * 1 ≤ 140737488351232 → (∀ x ∈ l0, (Lit.int .u8 x).wf = true) → ∃ k, paronymlaw12_PunyDecodes.f k l0 = some true
theorem paronymlaw12_PunyDecodes.walk (P : paronymlaw12_PunyDecodes.Pure) (a0 : Option Addr) (len0 cap0 : Nat) (z0 : List Int) (w : World) (w0 : (a0 = none ∧ len0 = 0 ∧ cap0 = 0 ∧ z0 = []) ∨ ∃ x, a0 = some x ∧ len0 ≤ cap0 ∧ cap0 ≤ maxLen ∧ z0.length = cap0 ∧ (∀ i, i < z0.length → w.cell? (x.add i) = some (.int .u8 (z0.getD i 0))) ∧ ∀ n ∈ z0, (Lit.int .u8 n).wf = true) (y0 : len0 * 1 ≤ 140737488351232) :
    Calls Try.prog 13 #[.slice a0 len0 cap0] w fun e w' => e = .returned (.bool true) ∧ Below w.heap.size w w' := by
  obtain ⟨l0, rfl, hr0, hm0, hw0, hc0⟩ := ReadsInt.ofRowC w0
  obtain ⟨k, h⟩ := P l0 hm0 y0 hw0
  refine (paronymlaw12_PunyDecodes.calls k _ _ l0 true w (Kd.C_of_reads (d := (0 : Int)) (h1 := fun _ => rfl) hr0) hc0 h).mono ?_
  rintro e w' ⟨rfl, hd⟩
  exact ⟨rfl, hd⟩

end Go.Proofs.Ytooiajkbpkfplaa.Q

-- from K
/- Small lemmas on lists, octets and rounds, for the plain laws of this seat. No condition. -/
namespace Go.Proofs.Ytooiajkbpkfplaa.K
set_option linter.unusedVariables false
set_option linter.unusedSimpArgs false
open Go.RowKit Go.Proofs.YtooiajkbpkfplaaW.PrintWords

theorem w64 {n : Int} (h0 : -9223372036854775808 ≤ n) (h1 : n ≤ 9223372036854775807) : wrap64 n = n := by unfold wrap64; omega
theorem rd_nat (l : List Int) (i : Nat) (h : i < l.length) : rd l (i : Int) = l[i] := by
  unfold rd; simp [List.getD_eq_getElem?_getD, List.getElem?_eq_getElem h]
theorem rd_mem {l : List Int} {i : Int} (h0 : 0 ≤ i) (h1 : i < (l.length : Int)) : rd l i ∈ l := by
  obtain ⟨n, rfl⟩ := Int.eq_ofNat_of_zero_le h0
  rw [rd_nat l n (by omega)]
  exact List.getElem_mem _
theorem rd_append_left {l m : List Int} {i : Int} (h0 : 0 ≤ i) (h1 : i < (l.length : Int)) : rd (l ++ m) i = rd l i := by
  unfold rd
  simp only [List.getD_eq_getElem?_getD]
  rw [List.getElem?_append_left (by omega)]
theorem rd_append_right {l m : List Int} {i : Int} (h0 : (l.length : Int) ≤ i) : rd (l ++ m) i = rd m (i - l.length) := by
  unfold rd
  simp only [List.getD_eq_getElem?_getD]
  rw [List.getElem?_append_right (by omega)]
  congr 2
  omega
theorem rd_map {f : Int → Int} {l : List Int} {i : Int} (h0 : 0 ≤ i) (h1 : i < (l.length : Int)) : rd (l.map f) i = f (rd l i) := by
  obtain ⟨n, rfl⟩ := Int.eq_ofNat_of_zero_le h0
  rw [rd_nat _ n (by simpa using h1), rd_nat l n (by omega)]
  simp
theorem rd_cons_zero (x : Int) (l : List Int) : rd (x :: l) 0 = x := rfl
theorem rd_drop {l : List Int} {n : Nat} {i : Int} (h0 : 0 ≤ i) : rd (l.drop n) i = rd l (n + i) := by
  unfold rd
  simp only [List.getD_eq_getElem?_getD, List.getElem?_drop]
  congr 2
  omega
theorem rd_take {l : List Int} {n : Nat} {i : Int} (h0 : 0 ≤ i) (h1 : i < (n : Int)) : rd (l.take n) i = rd l i := by
  unfold rd
  simp only [List.getD_eq_getElem?_getD]
  rw [List.getElem?_take_of_lt (by omega)]
theorem take_snoc (l : List Int) (i : Nat) (h : i < l.length) : l.take (i + 1) = l.take i ++ [rd l (i : Int)] := by
  rw [rd_nat l i h, List.take_succ_eq_append_getElem h]
theorem drop_cons (l : List Int) (i : Nat) (h : i < l.length) : l.drop i = rd l (i : Int) :: l.drop (i + 1) := by
  rw [rd_nat l i h, List.drop_eq_getElem_cons h]

/-! octets -/
def Oct (l : List Int) : Prop := ∀ x ∈ l, 0 ≤ x ∧ x ≤ 255
theorem oct_of_wf {l : List Int} (h : ∀ x ∈ l, (Lit.int .u8 x).wf = true) : Oct l := fun x hx => by
  have := h x hx
  simp only [Lit.wf, Bool.and_eq_true, decide_eq_true_eq] at this
  have e1 : IntKind.u8.min = 0 := rfl
  have e2 : IntKind.u8.max = 255 := rfl
  omega
theorem i64_of_wf {x : Int} (h : (Lit.int .i64 x).wf = true) : -9223372036854775808 ≤ x ∧ x ≤ 9223372036854775807 := by
  simp only [Lit.wf, Bool.and_eq_true, decide_eq_true_eq] at h
  have e1 : IntKind.i64.min = -9223372036854775808 := rfl
  have e2 : IntKind.i64.max = 9223372036854775807 := rfl
  omega
theorem u8_of_wf {x : Int} (h : (Lit.int .u8 x).wf = true) : 0 ≤ x ∧ x ≤ 255 := by
  simp only [Lit.wf, Bool.and_eq_true, decide_eq_true_eq] at h
  have e1 : IntKind.u8.min = 0 := rfl
  have e2 : IntKind.u8.max = 255 := rfl
  omega
theorem Oct.map {l : List Int} {f : Int → Int} (h : ∀ x, 0 ≤ x → x ≤ 255 → 0 ≤ f x ∧ f x ≤ 255) (hl : Oct l) : Oct (l.map f) := fun y hy => by
  obtain ⟨x, hx, rfl⟩ := List.mem_map.1 hy
  exact h x (hl x hx).1 (hl x hx).2
theorem Oct.append {l m : List Int} (h : Oct l) (k : Oct m) : Oct (l ++ m) := fun x hx => by
  rcases List.mem_append.1 hx with hx | hx
  · exact h x hx
  · exact k x hx
theorem Oct.take {l : List Int} (h : Oct l) (n : Nat) : Oct (l.take n) := fun x hx => h x (List.mem_of_mem_take hx)
theorem Oct.drop {l : List Int} (h : Oct l) (n : Nat) : Oct (l.drop n) := fun x hx => h x (List.mem_of_mem_drop hx)
theorem Oct.rd {l : List Int} (h : Oct l) {i : Int} (h0 : 0 ≤ i) (h1 : i < (l.length : Int)) : 0 ≤ rd l i ∧ rd l i ≤ 255 := h _ (rd_mem h0 h1)
theorem u8_back {x : Int} (h : 0 ≤ x ∧ x ≤ 255) : ((UInt8.ofNat x.toNat).toNat : Int) = x := by
  simp only [UInt8.toNat_ofNat']
  omega
theorem bt_str {l : List Int} (h : Oct l) {i : Int} (h0 : 0 ≤ i) (h1 : i < (l.length : Int)) : bt (strOfNums l) i = rd l i := by
  obtain ⟨n, rfl⟩ := Int.eq_ofNat_of_zero_le h0
  have hn : n < l.length := by omega
  have hs : n < (strOfNums l).size := by rw [strOfNums_size]; exact hn
  have hb := h.rd h0 h1
  rw [rd_nat l n hn] at hb ⊢
  unfold bt
  simp only [Int.toNat_natCast, hs, dif_pos]
  have : (strOfNums l)[n] = UInt8.ofNat (l[n]).toNat := by
    show (strOfNums l).data[n] = _
    simp [strOfNums]
  rw [this]
  exact u8_back hb
theorem size_str (l : List Int) : (strOfNums l).size = l.length := strOfNums_size l
theorem str_inj {l m : List Int} (hl : Oct l) (hm : Oct m) (h : strOfNums l = strOfNums m) : l = m := by
  have hlen : l.length = m.length := by rw [← size_str l, ← size_str m, h]
  apply List.ext_getElem hlen
  intro i h1 h2
  have a := bt_str hl (i := (i : Int)) (by omega) (by omega)
  have b := bt_str hm (i := (i : Int)) (by omega) (by omega)
  rw [rd_nat l i h1] at a
  rw [rd_nat m i h2] at b
  rw [← a, ← b, h]
theorem ba_toList (s : ByteArray) : s.toList = s.data.toList := ByteArray.toList_eq s
theorem toList_inj {s t : ByteArray} (h : s.toList = t.toList) : s = t := by
  rw [ba_toList, ba_toList] at h
  cases s; cases t
  simp at h
  exact congrArg _ h
theorem toList_eq_iff {s t : ByteArray} : s.toList = t.toList ↔ s = t := ⟨toList_inj, fun h => by rw [h]⟩
theorem str_append (l m : List Int) : strOfNums l ++ strOfNums m = strOfNums (l ++ m) := by
  apply toList_inj
  rw [ba_toList, ba_toList]
  simp [strOfNums]
theorem bytesOf_str {l : List Int} (h : Oct l) : Go.Proofs.YtooiajkbpkfplaaW.PrintWords.bytesOf (strOfNums l) = l := by
  unfold Go.Proofs.YtooiajkbpkfplaaW.PrintWords.bytesOf
  rw [strOfNums_data, List.map_map]
  conv => rhs; rw [← List.map_id l]
  apply List.map_congr_left
  intro x hx
  exact u8_back (h x hx)
theorem oct_bytesOf (s : ByteArray) : Oct (Go.Proofs.YtooiajkbpkfplaaW.PrintWords.bytesOf s) := fun x hx => by
  unfold Go.Proofs.YtooiajkbpkfplaaW.PrintWords.bytesOf at hx
  obtain ⟨b, _, rfl⟩ := List.mem_map.1 hx
  have := b.toNat_lt
  omega
theorem str_bytesOf (s : ByteArray) : strOfNums (Go.Proofs.YtooiajkbpkfplaaW.PrintWords.bytesOf s) = s := by
  unfold Go.Proofs.YtooiajkbpkfplaaW.PrintWords.bytesOf strOfNums
  cases s with
  | mk a =>
    congr 1
    apply Array.ext'
    simp [Function.comp_def]
theorem extract_str {l : List Int} {a b : Nat} : (strOfNums l).extract a b = strOfNums ((l.take b).drop a) := by
  apply toList_inj
  rw [ba_toList, ba_toList]
  rw [ByteArray.data_extract]
  simp [strOfNums, List.map_drop, List.map_take, List.drop_take]

/-! rounds -/
theorem Ev.pos {α : Type} {c : Prop} [Decidable c] {f g : Nat → Option α} {r : α} (h : c) (k : Ev f r) : Ev (fun n => if c then f n else g n) r := Ev.congr (fun _ => if_pos h) k
theorem Ev.neg {α : Type} {c : Prop} [Decidable c] {f g : Nat → Option α} {r : α} (h : ¬ c) (k : Ev g r) : Ev (fun n => if c then f n else g n) r := Ev.congr (fun _ => if_neg h) k
theorem Ev.bindS {α β : Type} {o : Option α} {f : Nat → α → Option β} {a : α} {r : β} (h : o = some a) (k : Ev (fun n => f n a) r) : Ev (fun n => o.bind (f n)) r := by
  subst h; exact k
theorem Ev.ret {α : Type} {a r : α} (h : a = r) : Ev (fun _ => some a) r := by subst h; exact Ev.now _
theorem Ev.val {α : Type} {o : Option α} {r : α} (h : o = some r) : Ev (fun _ => o) r := ⟨0, fun _ _ => h⟩

/-- 'slices.IndexFunc', as it is printed at a function value: the place of the first element that the predicate takes, or -1. -/
def firstAt (q : Int → Bool) : List Int → Int → Int
  | [], _ => -1
  | x :: l, i => if q x = true then i else firstAt q l (i + 1)
theorem index_loop {p : Int → Option Bool} {q : Int → Bool} {l : Nat → List Int → Int → Int → Option Int}
    (hl : ∀ k x n i, l (k + 1) x n i = if i < n then (if 0 ≤ i then (if i < (x.length : Int) then ((p (rd x i)).bind fun t => (if t = true then (some i) else (l k x n (wrap64 (i + 1))))) else none) else none) else some (-1))
    (x : List Int) (hx : x.length ≤ 9223372036854775806) (hp : ∀ y ∈ x, p y = some (q y)) : ∀ (d i : Nat), x.length - i = d → i ≤ x.length → Ev (fun k => l k x (x.length : Int) (i : Int)) (firstAt q (x.drop i) i) := by
  intro d
  induction d with
  | zero =>
    intro i h1 h2
    have : i = x.length := by omega
    subst this
    refine Ev.step (fun k => hl k _ _ _) (Ev.neg (by omega) ?_)
    simp only [List.drop_length, firstAt]
    exact Ev.now _
  | succ d ih =>
    intro i h1 h2
    have hi : i < x.length := by omega
    refine Ev.step (fun k => hl k _ _ _) (Ev.pos (by omega) (Ev.pos (by omega) (Ev.pos (by omega) (Ev.bindS (hp _ (rd_mem (by omega) (by omega))) ?_))))
    rw [drop_cons x i hi]
    simp only [firstAt]
    by_cases hq : q (rd x i) = true
    · rw [if_pos hq]
      exact Ev.pos hq (Ev.now _)
    · rw [if_neg hq]
      refine Ev.neg hq ?_
      have := ih (i + 1) (by omega) (by omega)
      rw [w64 (by omega) (by omega)]
      exact this
theorem firstAt_any (q : Int → Bool) : ∀ (l : List Int) (i : Int), 0 ≤ i → decide (firstAt q l i ≥ 0) = l.any q
  | [], _, _ => by simp [firstAt]
  | x :: l, i, h => by
    by_cases hq : q x = true
    · simp [firstAt, hq, h]
    · have ih := firstAt_any q l (i + 1) (by omega)
      simp only [Bool.not_eq_true] at hq
      simp [firstAt, hq]
      simpa using ih
/-- 'slices.ContainsFunc' at a function value. -/
theorem contains_ev {p : Int → Option Bool} {q : Int → Bool} {l : Nat → List Int → Int → Int → Option Int}
    (hl : ∀ k x n i, l (k + 1) x n i = if i < n then (if 0 ≤ i then (if i < (x.length : Int) then ((p (rd x i)).bind fun t => (if t = true then (some i) else (l k x n (wrap64 (i + 1))))) else none) else none) else some (-1))
    (x : List Int) (hx : x.length ≤ 9223372036854775806) (hp : ∀ y ∈ x, p y = some (q y)) : Ev (fun k => (l k x (x.length : Int) 0).bind fun t => some (decide (t ≥ 0))) (x.any q) := by
  have h := index_loop hl x hx hp x.length 0 (by omega) (by omega)
  refine Ev.bind h (Ev.ret ?_)
  rw [firstAt_any q _ _ (by simp)]
  simp

end Go.Proofs.Ytooiajkbpkfplaa.K

-- from Ppuny0
/- PunyPlain's part: the document's example of layer 12, scalars. -/
namespace Go.Proofs.Ytooiajkbpkfplaa.K
set_option linter.unusedVariables false
set_option linter.unusedSimpArgs false
open Go.RowKit Go.Proofs.YtooiajkbpkfplaaW.PrintWords Go.Proofs.Ytooiajkbpkfplaa.Q

theorem awake12 : paronymlaw12_awake.f 60 = some true := by decide +kernel
theorem awake12_ev : Ev (fun k => paronymlaw12_awake.f k) true := Ev.of (fun k => paronymlaw12_awake.mono k) awake12
def scalar (c : Int) : Bool := decide (0 ≤ c) && (decide (c ≤ 1114111) && (decide (c < 55296) || decide (c > 57343)))
theorem utf_Scalar_is (c : Int) : utf_Scalar.f c = some (scalar c) := by
  unfold utf_Scalar.f scalar
  by_cases a : c ≥ 0
  · have a' : 0 ≤ c := a
    rw [if_pos a]
    by_cases b : c ≤ 1114111
    · rw [if_pos b]
      by_cases d : c < 55296
      · rw [if_pos d]; simp [a', b, d]
      · rw [if_neg d]; simp [a', b, d]
    · rw [if_neg b]; simp [b]
  · have a' : ¬ 0 ≤ c := a
    rw [if_neg a]; simp [a']
theorem unscalar_is (c : Int) : puny_Encode_1.f c = some (!scalar c) := by unfold puny_Encode_1.f; rw [utf_Scalar_is]; rfl
theorem any_unscalar_ev (l : List Int) (hl : l.length ≤ 1099511627776) : Ev (fun k => slices_ContainsFunc_int_int_at_puny_Encode_1.f k l) (l.any fun c => !scalar c) := by
  unfold slices_ContainsFunc_int_int_at_puny_Encode_1.f slices_IndexFunc_int_int_at_puny_Encode_1.f
  exact contains_ev (p := puny_Encode_1.f) (q := fun c => !scalar c) (fun k x n i => rfl) l (by omega) (fun y _ => unscalar_is y)

end Go.Proofs.Ytooiajkbpkfplaa.K

-- from Ppuny1
/- Layer 12 on lists of numbers: digits, thresholds, biases, a number read. The program's and the reference's come to the same. -/
namespace Go.Proofs.Ytooiajkbpkfplaa.K
set_option linter.unusedVariables false
set_option linter.unusedSimpArgs false
open Go.RowKit Go.Proofs.YtooiajkbpkfplaaW.PrintWords Go.Proofs.YtooiajkbpkfplaaW.PrintMore Go.Proofs.Ytooiajkbpkfplaa.Q

/-! digits -/
def dig (c : Int) : Int := if 97 ≤ c ∧ c ≤ 122 then c - 97 else if 65 ≤ c ∧ c ≤ 90 then c - 65 else if 48 ≤ c ∧ c ≤ 57 then c - 22 else -1
theorem dig_le (c : Int) : -1 ≤ dig c ∧ dig c ≤ 35 := by
  unfold dig
  split
  · omega
  · split
    · omega
    · split <;> omega
theorem puny_digit_is {c : Int} (h0 : 0 ≤ c) (h1 : c ≤ 255) : puny_digit.f c = some (dig c) := by
  have h : ∀ i : Fin 256, puny_digit.f (i.val : Int) = some (dig (i.val : Int)) := by decide +kernel
  have := h ⟨c.toNat, by omega⟩
  simpa [Int.toNat_of_nonneg h0] using this
theorem refDigit_ev {c : Int} (h0 : 0 ≤ c) (h1 : c ≤ 255) : Ev (fun k => paronymref12_digit.f k c) (dig c) := by
  have h : ∀ i : Fin 256, paronymref12_digit.f 5 (i.val : Int) = some (dig (i.val : Int)) := by decide +kernel
  have := h ⟨c.toNat, by omega⟩
  rw [show (((⟨c.toNat, by omega⟩ : Fin 256).val : Nat) : Int) = c from Int.toNat_of_nonneg h0] at this
  exact Ev.of (fun k => paronymref12_digit.mono c k) this

/-! thresholds -/
def thr (k b : Int) : Int := if k - b < 1 then 1 else if k - b > 26 then 26 else k - b
theorem thr_le (k b : Int) : 1 ≤ thr k b ∧ thr k b ≤ 26 := by
  unfold thr
  split
  · omega
  · split <;> omega
theorem thr_is {k b : Int} (h : -1099511627776 ≤ k - b) (h' : k - b ≤ 1099511627776) : puny_threshold.f k b = some (thr k b) := by
  unfold puny_threshold.f thr
  rw [w64 (by omega) (by omega)]
  unfold mn mx
  congr 1
  split <;> split <;> (try split) <;> omega
theorem reft_is {k b : Int} (h : -1099511627776 ≤ k - b) (h' : k - b ≤ 1099511627776) : paronymref12_t.f k b = some (thr k b) := by
  unfold paronymref12_t.f thr
  rw [w64 (by omega) (by omega)]
  split
  · rfl
  · split <;> rfl

/-! biases -/
def biaL (x y : Int) : Int := if h : x > 455 then biaL (x / 35) (y + 36) else y + 36 * x / (x + 38)
termination_by x.toNat
decreasing_by omega
def bia (d p : Int) (first : Bool) : Int := let e := if first = true then d / 700 else d / 2; biaL (e + e / p) 0
theorem bias_same : ∀ k x y, puny_adapt.l0 k x y = paronymref12_Bias.l0 k x y
  | 0, _, _ => rfl
  | k + 1, x, y => by
    unfold puny_adapt.l0 paronymref12_Bias.l0
    rw [bias_same k]
theorem bias_same' (k : Nat) (a b : Int) (c : Bool) : puny_adapt.f k a b c = paronymref12_Bias.f k a b c := by
  unfold puny_adapt.f paronymref12_Bias.f
  cases k with
  | zero => rfl
  | succ k =>
    unfold puny_adapt.j0 paronymref12_Bias.j0
    simp only [bias_same]
theorem biaL_ev : ∀ (n : Nat) (x y : Int), x.toNat ≤ n → 0 ≤ x → x ≤ 1099511627776 → 0 ≤ y → y ≤ 1099511627776 - x → Ev (fun k => puny_adapt.l0 k x y) (biaL x y) ∧ y ≤ biaL x y ∧ biaL x y ≤ y + 36 * (x + 1) := by
  intro n
  induction n with
  | zero =>
    intro x y hn h0 h1 h2 h3
    have : x = 0 := by omega
    subst this
    rw [biaL, dif_neg (by omega)]
    refine ⟨Ev.step (fun k => rfl) (Ev.neg (by omega) (Ev.neg (by rw [w64 (by omega) (by omega)]; omega) (Ev.ret ?_))), by omega, by omega⟩
    have e1 : wrap64 (36 * (0 : Int)) = 0 := by decide +kernel
    have e2 : wrap64 ((0 : Int) + 38) = 38 := by decide +kernel
    rw [e1, e2]
    rw [show Int.tdiv 0 38 = 0 by decide +kernel, show wrap64 0 = 0 by decide +kernel, w64 (by omega) (by omega)]
    omega
  | succ n ih =>
    intro x y hn h0 h1 h2 h3
    rw [biaL]
    by_cases h : x > 455
    · rw [dif_pos h]
      have := ih (x / 35) (y + 36) (by omega) (by omega) (by omega) (by omega) (by omega)
      refine ⟨Ev.step (fun k => rfl) (Ev.pos h ?_), by omega, by omega⟩
      rw [Int.tdiv_eq_ediv_of_nonneg h0, w64 (n := x / 35) (by omega) (by omega), w64 (n := y + 36) (by omega) (by omega)]
      exact this.1
    · rw [dif_neg h]
      have hq : 0 ≤ 36 * x / (x + 38) ∧ 36 * x / (x + 38) ≤ 36 := by
        constructor
        · exact Int.ediv_nonneg (by omega) (by omega)
        · have := Int.ediv_le_ediv (c := x + 38) (by omega) (show 36 * x ≤ 36 * (x + 38) by omega)
          rw [Int.mul_ediv_cancel _ (by omega)] at this
          exact this
      refine ⟨Ev.step (fun k => rfl) (Ev.neg h (Ev.neg (by rw [w64 (by omega) (by omega)]; omega) (Ev.ret ?_))), by omega, by omega⟩
      rw [w64 (n := 36 * x) (by omega) (by omega), w64 (n := x + 38) (by omega) (by omega), Int.tdiv_eq_ediv_of_nonneg (by omega), w64 (n := 36 * x / (x + 38)) (by omega) (by omega), w64 (by omega) (by omega)]
theorem bia_ev {d p : Int} {first : Bool} (h0 : 0 ≤ d) (h1 : d ≤ 2147483647) (hp : 1 ≤ p) : Ev (fun k => puny_adapt.f k d p first) (bia d p first) ∧ 0 ≤ bia d p first ∧ bia d p first ≤ 309237645312 := by
  have key : ∀ e : Int, 0 ≤ e → e ≤ 2147483647 → Ev (fun k => puny_adapt.j0 k e p) (biaL (e + e / p) 0) ∧ 0 ≤ biaL (e + e / p) 0 ∧ biaL (e + e / p) 0 ≤ 309237645312 := by
    intro e he0 he1
    have hq : 0 ≤ e / p ∧ e / p ≤ e := ⟨Int.ediv_nonneg he0 (by omega), Int.ediv_le_self _ he0⟩
    have := biaL_ev _ (e + e / p) 0 (Nat.le_refl _) (by omega) (by omega) (by omega) (by omega)
    refine ⟨Ev.step (fun k => rfl) (Ev.neg (by omega) ?_), by omega, by omega⟩
    rw [Int.tdiv_eq_ediv_of_nonneg he0, w64 (n := e / p) (by omega) (by omega), w64 (by omega) (by omega)]
    exact this.1
  unfold bia puny_adapt.f
  cases first with
  | true =>
    have := key (d / 700) (by omega) (by omega)
    refine ⟨Ev.pos rfl ?_, this.2⟩
    rw [Int.tdiv_eq_ediv_of_nonneg h0, w64 (by omega) (by omega)]
    exact this.1
  | false =>
    have := key (d / 2) (by omega) (by omega)
    refine ⟨Ev.neg (by decide) ?_, this.2⟩
    rw [Int.tdiv_eq_ediv_of_nonneg h0, w64 (by omega) (by omega)]
    exact this.1

/-! a number read -/
def rdn (b : Int) : List Int → Int → Int → Int → Int × Int × Int
  | [], _, _, _ => (0, 0, 20)
  | c :: l, i, q, w => if dig c < 0 then (0, 0, 20) else if dig c * w > 2147483647 - q then (0, 0, 21) else if dig c < thr (36 * (i + 1)) b then (q + dig c * w, i + 1, 0) else if w * (36 - thr (36 * (i + 1)) b) > 2147483647 then (0, 0, 21) else rdn b l (i + 1) (q + dig c * w) (w * (36 - thr (36 * (i + 1)) b))
theorem read_ev {l : List Int} {b : Int} (ho : Oct l) (hl : l.length ≤ 100000) (hb0 : 0 ≤ b) (hb1 : b ≤ 309237645312) : ∀ (d i : Nat) (q w : Int), l.length - i = d → i ≤ l.length → 0 ≤ q → q ≤ 2147483647 → 1 ≤ w → w ≤ 2147483647 →
    Ev (fun k => puny_read.l0 k b q w l l.length i) (rdn b (l.drop i) i q w) ∧ Ev (fun k => paronymref12_read.l0 k (strOfNums l) b q w i) (rdn b (l.drop i) i q w) := by
  intro d
  induction d with
  | zero =>
    intro i q w h1 h2 h3 h4 h5 h6
    have : i = l.length := by omega
    subst this
    rw [List.drop_length]
    exact ⟨Ev.step (fun k => rfl) (Ev.neg (by omega) (Ev.now _)), Ev.step (fun k => rfl) (Ev.neg (by rw [size_str]; omega) (Ev.now _))⟩
  | succ d ih =>
    intro i q w h1 h2 h3 h4 h5 h6
    have hi : i < l.length := by omega
    have a1 : (i : Int) < (l.length : Int) := by omega
    have a2 : (0 : Int) ≤ (i : Int) := by omega
    have a3 : (i : Int) < ((strOfNums l).size : Int) := by rw [size_str]; exact a1
    have hc := ho.rd (i := (i : Int)) (by omega) (by omega)
    have hd := dig_le (rd l i)
    have ht := thr_le (36 * ((i : Int) + 1)) b
    rw [drop_cons l i hi]
    have et : puny_threshold.f (wrap64 (36 * (wrap64 ((i : Int) + 1)))) b = some (thr (36 * ((i : Int) + 1)) b) := by
      rw [w64 (n := (i : Int) + 1) (by omega) (by omega), w64 (by omega) (by omega)]
      exact thr_is (by omega) (by omega)
    have et2 : paronymref12_t.f (wrap64 ((wrap64 (36 * (i : Int))) + 36)) b = some (thr (36 * ((i : Int) + 1)) b) := by
      rw [w64 (n := 36 * (i : Int)) (by omega) (by omega), w64 (by omega) (by omega), show 36 * (i : Int) + 36 = 36 * ((i : Int) + 1) by omega]
      exact reft_is (by omega) (by omega)
    have eb : Ev (fun k => paronymref12_digit.f k (bt (strOfNums l) (i : Int))) (dig (rd l i)) := by
      rw [bt_str ho (by omega) (by omega)]
      exact refDigit_ev hc.1 hc.2
    unfold rdn
    generalize thr (36 * ((i : Int) + 1)) b = t at *
    have hw0 : ¬ w = 0 := by omega
    have hprod : 0 ≤ dig (rd l i) → 0 ≤ dig (rd l i) * w ∧ dig (rd l i) * w ≤ 35 * 2147483647 := fun h => ⟨Int.mul_nonneg h (by omega), Int.mul_le_mul hd.2 h6 (by omega) (by omega)⟩
    by_cases c1 : dig (rd l i) < 0
    · rw [if_pos c1]
      exact ⟨Ev.step (fun k => rfl) (Ev.pos a1 (Ev.pos a2 (Ev.pos a1 (Ev.bindS (puny_digit_is hc.1 hc.2) (Ev.bindS et (Ev.pos c1 (Ev.now _))))))),
        Ev.step (fun k => rfl) (Ev.pos a3 (Ev.pos a2 (Ev.bind eb (Ev.pos c1 (Ev.now _)))))⟩
    · rw [if_neg c1]
      have hp := hprod (by omega)
      generalize hD : dig (rd l i) = D at *
      have ediv : wrap64 (Int.tdiv (wrap64 (2147483647 - q)) w) = (2147483647 - q) / w := by
        have h0 : 0 ≤ (2147483647 - q) / w := Int.ediv_nonneg (by omega) (by omega)
        have h1 : (2147483647 - q) / w ≤ 2147483647 - q := Int.ediv_le_self _ (by omega)
        rw [w64 (n := 2147483647 - q) (by omega) (by omega), Int.tdiv_eq_ediv_of_nonneg (by omega), w64 (by omega) (by omega)]
      have ecmp : D > (2147483647 - q) / w ↔ D * w > 2147483647 - q := by
        constructor
        · intro h
          exact (Int.ediv_lt_iff_lt_mul (by omega)).1 h
        · intro h
          exact (Int.ediv_lt_iff_lt_mul (by omega)).2 h
      have es : wrap64 (q + wrap64 (D * w)) = q + D * w := by
        rw [w64 (n := D * w) (by omega) (by omega), w64 (by omega) (by omega)]
      by_cases c2 : D * w > 2147483647 - q
      · rw [if_pos c2]
        exact ⟨Ev.step (fun k => rfl) (Ev.pos a1 (Ev.pos a2 (Ev.pos a1 (Ev.bindS (hD ▸ puny_digit_is hc.1 hc.2) (Ev.bindS et (Ev.neg c1 (Ev.neg hw0 (Ev.pos (by rw [ediv]; exact ecmp.2 c2) (Ev.now _))))))))),
          Ev.step (fun k => rfl) (Ev.pos a3 (Ev.pos a2 (Ev.bind eb (Ev.neg c1 (Ev.pos (by rw [es]; omega) (Ev.now _))))))⟩
      · rw [if_neg c2]
        by_cases c3 : D < t
        · rw [if_pos c3]
          exact ⟨Ev.step (fun k => rfl) (Ev.pos a1 (Ev.pos a2 (Ev.pos a1 (Ev.bindS (hD ▸ puny_digit_is hc.1 hc.2) (Ev.bindS et (Ev.neg c1 (Ev.neg hw0 (Ev.neg (by rw [ediv]; exact fun h => c2 (ecmp.1 h)) (Ev.pos c3 (Ev.ret (by rw [es, w64 (n := (i : Int) + 1) (by omega) (by omega)]))))))))))),
            Ev.step (fun k => rfl) (Ev.pos a3 (Ev.pos a2 (Ev.bind eb (Ev.neg c1 (Ev.neg (by rw [es]; omega) (Ev.bindS et2 (Ev.pos c3 (Ev.ret (by rw [es, w64 (n := (i : Int) + 1) (by omega) (by omega)])))))))))⟩
        · rw [if_neg c3]
          have e36 : wrap64 (36 - t) = 36 - t := w64 (by omega) (by omega)
          have hp2 : 0 ≤ w * (36 - t) ∧ w * (36 - t) ≤ 2147483647 * 35 := ⟨Int.mul_nonneg (by omega) (by omega), Int.mul_le_mul h6 (by omega) (by omega) (by omega)⟩
          have ew : wrap64 (w * (wrap64 (36 - t))) = w * (36 - t) := by rw [e36, w64 (by omega) (by omega)]
          have ediv2 : wrap64 (Int.tdiv (2147483647 : Int) (wrap64 (36 - t))) = 2147483647 / (36 - t) := by
            have h0 : 0 ≤ (2147483647 : Int) / (36 - t) := Int.ediv_nonneg (by omega) (by omega)
            have h1 : (2147483647 : Int) / (36 - t) ≤ 2147483647 := Int.ediv_le_self _ (by omega)
            rw [e36, Int.tdiv_eq_ediv_of_nonneg (by omega), w64 (by omega) (by omega)]
          have ecmp2 : w > 2147483647 / (36 - t) ↔ w * (36 - t) > 2147483647 := by
            constructor
            · intro h
              exact (Int.ediv_lt_iff_lt_mul (by omega)).1 h
            · intro h
              exact (Int.ediv_lt_iff_lt_mul (by omega)).2 h
          by_cases c4 : w * (36 - t) > 2147483647
          · rw [if_pos c4]
            exact ⟨Ev.step (fun k => rfl) (Ev.pos a1 (Ev.pos a2 (Ev.pos a1 (Ev.bindS (hD ▸ puny_digit_is hc.1 hc.2) (Ev.bindS et (Ev.neg c1 (Ev.neg hw0 (Ev.neg (by rw [ediv]; exact fun h => c2 (ecmp.1 h)) (Ev.neg c3 (Ev.neg (by rw [e36]; omega) (Ev.pos (by rw [ediv2]; exact ecmp2.2 c4) (Ev.now _)))))))))))),
              Ev.step (fun k => rfl) (Ev.pos a3 (Ev.pos a2 (Ev.bind eb (Ev.neg c1 (Ev.neg (by rw [es]; omega) (Ev.bindS et2 (Ev.neg c3 (Ev.pos (by rw [ew]; exact c4) (Ev.now _)))))))))⟩
          · rw [if_neg c4]
            have hw1 : 1 ≤ w * (36 - t) := by
              have := Int.mul_le_mul h5 (show (1 : Int) ≤ 36 - t by omega) (by omega) (by omega)
              omega
            have := ih (i + 1) (q + D * w) (w * (36 - t)) (by omega) (by omega) (by omega) (by omega) hw1 (by omega)
            have en : wrap64 ((i : Int) + 1) = ((i + 1 : Nat) : Int) := w64 (by omega) (by omega)
            refine ⟨Ev.step (fun k => rfl) (Ev.pos a1 (Ev.pos a2 (Ev.pos a1 (Ev.bindS (hD ▸ puny_digit_is hc.1 hc.2) (Ev.bindS et (Ev.neg c1 (Ev.neg hw0 (Ev.neg (by rw [ediv]; exact fun h => c2 (ecmp.1 h)) (Ev.neg c3 (Ev.neg (by rw [e36]; omega) (Ev.neg (by rw [ediv2]; exact fun h => c4 (ecmp2.1 h)) ?_))))))))))),
              Ev.step (fun k => rfl) (Ev.pos a3 (Ev.pos a2 (Ev.bind eb (Ev.neg c1 (Ev.neg (by rw [es]; omega) (Ev.bindS et2 (Ev.neg c3 (Ev.neg (by rw [ew]; exact c4) ?_))))))))⟩
            · rw [es, ew, en]; exact this.1
            · rw [es, ew, en]; exact this.2

end Go.Proofs.Ytooiajkbpkfplaa.K

-- from Ppuny2
/- Layer 12: a form read back, on lists: the program's and the reference's Decode come to the same. -/
namespace Go.Proofs.Ytooiajkbpkfplaa.K
set_option linter.unusedVariables false
set_option linter.unusedSimpArgs false
open Go.RowKit Go.Proofs.YtooiajkbpkfplaaW.PrintWords Go.Proofs.YtooiajkbpkfplaaW.PrintMore Go.Proofs.Ytooiajkbpkfplaa.Q

theorem rdn_bound (b : Int) : ∀ (l : List Int) (i q w : Int), 0 ≤ q → q ≤ 2147483647 → 1 ≤ w → (rdn b l i q w).2.2 = 0 → 0 ≤ (rdn b l i q w).1 ∧ (rdn b l i q w).1 ≤ 2147483647 ∧ i < (rdn b l i q w).2.1 ∧ (rdn b l i q w).2.1 ≤ i + l.length
  | [], i, q, w, _, _, _, h => by simp [rdn] at h
  | c :: l, i, q, w, h0, h1, h2, h => by
    unfold rdn at h ⊢
    by_cases c1 : dig c < 0
    · rw [if_pos c1] at h; simp at h
    · rw [if_neg c1] at h ⊢
      have hp : 0 ≤ dig c * w := Int.mul_nonneg (by omega) (by omega)
      by_cases c2 : dig c * w > 2147483647 - q
      · rw [if_pos c2] at h; simp at h
      · rw [if_neg c2] at h ⊢
        by_cases c3 : dig c < thr (36 * (i + 1)) b
        · rw [if_pos c3]
          simp
          omega
        · rw [if_neg c3] at h ⊢
          by_cases c4 : w * (36 - thr (36 * (i + 1)) b) > 2147483647
          · rw [if_pos c4] at h; simp at h
          · rw [if_neg c4] at h ⊢
            have ht := thr_le (36 * (i + 1)) b
            have hw1 : 1 ≤ w * (36 - thr (36 * (i + 1)) b) := by
              have := Int.mul_le_mul h2 (show (1 : Int) ≤ 36 - thr (36 * (i + 1)) b by omega) (by omega) (by omega)
              omega
            have := rdn_bound b l (i + 1) (q + dig c * w) (w * (36 - thr (36 * (i + 1)) b)) (by omega) (by omega) hw1 h
            simp only [List.length_cons]
            omega
def dec : Nat → List Int → List Int → Int → Int → Int → Bool → List Int × Int
  | 0, _, out, _, _, _, _ => (out, 0)
  | f + 1, l, out, n, b, i, first =>
    if l.length = 0 then (out, 0) else
    if (rdn b l 0 0 1).2.2 = 0 then
      if i + (rdn b l 0 0 1).1 > 2147483647 then ([], 21) else
      if n + (i + (rdn b l 0 0 1).1) / ((out.length : Int) + 1) > 2147483647 then ([], 21) else
      if scalar (n + (i + (rdn b l 0 0 1).1) / ((out.length : Int) + 1)) = true then
        dec f (l.drop (rdn b l 0 0 1).2.1.toNat) (out.take ((i + (rdn b l 0 0 1).1) % ((out.length : Int) + 1)).toNat ++ [n + (i + (rdn b l 0 0 1).1) / ((out.length : Int) + 1)] ++ out.drop ((i + (rdn b l 0 0 1).1) % ((out.length : Int) + 1)).toNat) (n + (i + (rdn b l 0 0 1).1) / ((out.length : Int) + 1)) (bia (rdn b l 0 0 1).1 ((out.length : Int) + 1) first) ((i + (rdn b l 0 0 1).1) % ((out.length : Int) + 1) + 1) false
      else ([], 10)
    else ([], (rdn b l 0 0 1).2.2)
theorem refScalar_is' (c : Int) : paronymref01_Scalar.f c = some (scalar c) := utf_Scalar_is c
theorem w31 {x : Int} (h0 : 0 ≤ x) (h1 : x ≤ 2147483647) : wrap64 (2147483647 - x) = 2147483647 - x := w64 (by omega) (by omega)
/-- The numbers of one step; not taken apart where numbers are compared. -/
def DecN (n i q L : Int) : Prop := wrap64 L = L ∧ wrap64 (i + q) = i + q ∧ wrap64 (Int.tdiv (wrap64 (i + q)) (wrap64 L)) = (i + q) / L ∧ Int.tmod (wrap64 (i + q)) (wrap64 L) = (i + q) % L ∧ wrap64 (n + (i + q) / L) = n + (i + q) / L ∧ wrap64 ((i + q) % L + 1) = (i + q) % L + 1
theorem dec_n {n i q L : Int} (hL1 : 1 ≤ L) (hL2 : L ≤ 100001) (hn0 : 0 ≤ n) (hn1 : n ≤ 2147483647) (hi0 : 0 ≤ i) (hi1 : i ≤ 2147483647) (hq0 : 0 ≤ q) (hq1 : q ≤ 2147483647) : DecN n i q L ∧ 0 ≤ (i + q) / L ∧ (i + q) / L ≤ i + q ∧ 0 ≤ (i + q) % L ∧ (i + q) % L < L := by
  have hm0 : 0 ≤ (i + q) / L := Int.ediv_nonneg (by omega) (by omega)
  have hm1 : (i + q) / L ≤ i + q := Int.ediv_le_self _ (by omega)
  have hr0 : 0 ≤ (i + q) % L := Int.emod_nonneg _ (by omega)
  have hr3 : (i + q) % L < L := Int.emod_lt_of_pos _ (by omega)
  refine ⟨⟨w64 (by omega) (by omega), w64 (by omega) (by omega), ?_, ?_, w64 (by omega) (by omega), w64 (by omega) (by omega)⟩, hm0, hm1, hr0, hr3⟩
  · rw [w64 (n := i + q) (by omega) (by omega), w64 (n := L) (by omega) (by omega), Int.tdiv_eq_ediv_of_nonneg (by omega), w64 (by omega) (by omega)]
  · rw [w64 (n := i + q) (by omega) (by omega), w64 (n := L) (by omega) (by omega), Int.tmod_eq_emod_of_nonneg (by omega)]
theorem gt_sub {a b c : Int} (h : a + b > c) : b > c - a := by omega
theorem ngt_sub {a b c : Int} (h : ¬ a + b > c) : ¬ b > c - a := by omega
theorem dec_ev : ∀ (f : Nat) (l out : List Int) (n b i : Int) (first : Bool), l.length ≤ f → Oct l → l.length ≤ 12000 → out.length + l.length ≤ 100000 → 0 ≤ n → n ≤ 2147483647 → 0 ≤ b → b ≤ 309237645312 → 0 ≤ i → i ≤ 2147483647 →
    Ev (fun k => puny_Decode.l1 k l out n b i first) (dec f l out n b i first) ∧ Ev (fun k => paronymref12_Decode.l2 k (strOfNums l) out n b i first) (dec f l out n b i first) := by
  intro f
  induction f with
  | zero =>
    intro l out n b i first hl ho hl2 hol hn0 hn1 hb0 hb1 hi0 hi1
    have z : l = [] := List.eq_nil_of_length_eq_zero (by omega)
    subst z
    exact ⟨Ev.step (fun k => rfl) (Ev.neg (by simp) (Ev.now _)), Ev.step (fun k => rfl) (Ev.neg (by rw [size_str]; simp) (Ev.now _))⟩
  | succ f ih =>
    intro l out n b i first hl ho hl2 hol hn0 hn1 hb0 hb1 hi0 hi1
    unfold dec
    by_cases z : l.length = 0
    · rw [if_pos z]
      exact ⟨Ev.step (fun k => rfl) (Ev.neg (by omega) (Ev.now _)), Ev.step (fun k => rfl) (Ev.neg (by rw [size_str]; omega) (Ev.now _))⟩
    · rw [if_neg z]
      have hr := read_ev ho (by omega) hb0 hb1 l.length 0 0 1 (by omega) (by omega) (by omega) (by omega) (by omega) (by omega)
      rw [List.drop_zero] at hr
      have hr1 : Ev (fun k => puny_read.f k l b) (rdn b l 0 0 1) := hr.1
      have hr2 : Ev (fun k => paronymref12_read.f k (strOfNums l) b) (rdn b l 0 0 1) := hr.2
      have hbd := rdn_bound b l 0 0 1 (by omega) (by omega) (by omega)
      clear hr
      generalize rdn b l 0 0 1 = r at *
      obtain ⟨q, s, e⟩ := r
      simp only at hbd ⊢
      have z1 : (l.length : Int) > 0 := by omega
      have z2 : ((strOfNums l).size : Int) > 0 := by rw [size_str]; exact z1
      by_cases ce : e = 0
      · have hb := hbd ce
        clear hbd
        rw [if_pos ce]
        have hLl : (1 : Int) ≤ (out.length : Int) + 1 := Int.le_add_of_nonneg_left (Int.natCast_nonneg _)
        have hLu : (out.length : Int) + 1 ≤ 100001 := by clear hb0 hb1 hn0 hn1 hi0 hi1 hb ih hr1 hr2; omega
        obtain ⟨hD, hm0, hm1, hr0, hr3⟩ := dec_n hLl hLu hn0 hn1 hi0 hi1 hb.1 hb.2.1
        have hbia := bia_ev (d := q) (p := (out.length : Int) + 1) (first := first) hb.1 hb.2.1 (Int.le_add_of_nonneg_left (Int.natCast_nonneg _))
        have hbia2 : Ev (fun k => paronymref12_Bias.f k q ((out.length : Int) + 1) first) (bia q ((out.length : Int) + 1) first) := Ev.congr (fun k => (bias_same' k _ _ _).symm) hbia.1
        by_cases c1 : i + q > 2147483647
        · rw [if_pos c1]
          exact ⟨Ev.step (fun k => rfl) (Ev.pos z1 (Ev.bind hr1 (Ev.pos ce (Ev.pos (by rw [w31 hi0 hi1]; exact gt_sub c1) (Ev.now _))))),
            Ev.step (fun k => rfl) (Ev.pos z2 (Ev.bind hr2 (Ev.pos ce (Ev.pos (by rw [hD.2.1]; exact c1) (Ev.now _)))))⟩
        · rw [if_neg c1]
          have hpz : ¬ wrap64 ((out.length : Int) + 1) = 0 := by rw [hD.1]; omega
          have hg1 : Ev (fun k => puny_adapt.f k q (wrap64 ((out.length : Int) + 1)) first) (bia q ((out.length : Int) + 1) first) := by rw [hD.1]; exact hbia.1
          have hg2 : Ev (fun k => paronymref12_Bias.f k q (wrap64 ((out.length : Int) + 1)) first) (bia q ((out.length : Int) + 1) first) := by rw [hD.1]; exact hbia2
          by_cases c2 : n + (i + q) / ((out.length : Int) + 1) > 2147483647
          · rw [if_pos c2]
            exact ⟨Ev.step (fun k => rfl) (Ev.pos z1 (Ev.bind hr1 (Ev.pos ce (Ev.neg (by rw [w31 hi0 hi1]; exact ngt_sub c1) (Ev.bind hg1 (Ev.neg hpz (Ev.pos (by show wrap64 (Int.tdiv (wrap64 (i + q)) _) > _; rw [hD.2.2.1, w31 hn0 hn1]; exact gt_sub c2) (Ev.now _)))))))),
              Ev.step (fun k => rfl) (Ev.pos z2 (Ev.bind hr2 (Ev.pos ce (Ev.neg (by rw [hD.2.1]; exact c1) (Ev.bind hg2 (Ev.neg hpz (Ev.pos (by show wrap64 (n + wrap64 (Int.tdiv (wrap64 (i + q)) _)) > _; rw [hD.2.2.1, hD.2.2.2.2.1]; exact c2) (Ev.now _))))))))⟩
          · rw [if_neg c2]
            have hsc : utf_Scalar.f (wrap64 (n + wrap64 (Int.tdiv (wrap64 (i + q)) (wrap64 ((out.length : Int) + 1))))) = some (scalar (n + (i + q) / ((out.length : Int) + 1))) := by rw [hD.2.2.1, hD.2.2.2.2.1]; exact utf_Scalar_is _
            have hsc2 : paronymref01_Scalar.f (wrap64 (n + wrap64 (Int.tdiv (wrap64 (i + q)) (wrap64 ((out.length : Int) + 1))))) = some (scalar (n + (i + q) / ((out.length : Int) + 1))) := hsc
            by_cases c3 : scalar (n + (i + q) / ((out.length : Int) + 1)) = true
            · rw [if_pos c3]
              have hlen : (out.take ((i + q) % ((out.length : Int) + 1)).toNat ++ [n + (i + q) / ((out.length : Int) + 1)] ++ out.drop ((i + q) % ((out.length : Int) + 1)).toNat).length = out.length + 1 := by
                simp; omega
              have hdl : (l.drop s.toNat).length = l.length - s.toNat := List.length_drop
              have := ih (l.drop s.toNat) (out.take ((i + q) % ((out.length : Int) + 1)).toNat ++ [n + (i + q) / ((out.length : Int) + 1)] ++ out.drop ((i + q) % ((out.length : Int) + 1)).toNat) (n + (i + q) / ((out.length : Int) + 1)) (bia q ((out.length : Int) + 1) first) ((i + q) % ((out.length : Int) + 1) + 1) false (by omega) (ho.drop _) (by omega) (by omega) (by omega) (by omega) hbia.2.1 hbia.2.2 (by omega) (by omega)
              have hins : slices_Insert_int_int.f out (Int.tmod (wrap64 (i + q)) (wrap64 ((out.length : Int) + 1))) [wrap64 (n + wrap64 (Int.tdiv (wrap64 (i + q)) (wrap64 ((out.length : Int) + 1))))] = some (out.take ((i + q) % ((out.length : Int) + 1)).toNat ++ [n + (i + q) / ((out.length : Int) + 1)] ++ out.drop ((i + q) % ((out.length : Int) + 1)).toNat) := by
                rw [hD.2.2.2.1, hD.2.2.1, hD.2.2.2.2.1]
                unfold slices_Insert_int_int.f
                exact if_pos ⟨hr0, by omega, by simp, by simp; omega⟩
              have hsl : s ≤ (l.length : Int) := by omega
              refine ⟨Ev.step (fun k => rfl) (Ev.pos z1 (Ev.bind hr1 (Ev.pos ce (Ev.neg (by rw [w31 hi0 hi1]; exact ngt_sub c1) (Ev.bind hg1 (Ev.neg hpz (Ev.neg (by show ¬ wrap64 (Int.tdiv (wrap64 (i + q)) _) > _; rw [hD.2.2.1, w31 hn0 hn1]; exact ngt_sub c2) (Ev.bindS hsc (Ev.pos c3 (Ev.bindS hins (Ev.pos (show 0 ≤ s by omega) (Ev.pos (show s ≤ (l.length : Int) from hsl) ?_)))))))))))),
                Ev.step (fun k => rfl) (Ev.pos z2 (Ev.bind hr2 (Ev.pos ce (Ev.neg (by rw [hD.2.1]; exact c1) (Ev.bind hg2 (Ev.neg hpz (Ev.neg (by show ¬ wrap64 (n + wrap64 (Int.tdiv (wrap64 (i + q)) _)) > _; rw [hD.2.2.1, hD.2.2.2.2.1]; exact c2) (Ev.bindS hsc2 (Ev.pos c3 (Ev.pos (by show 0 ≤ Int.tmod (wrap64 (i + q)) _; rw [hD.2.2.2.1]; exact hr0) (Ev.pos (by show Int.tmod (wrap64 (i + q)) _ ≤ _; rw [hD.2.2.2.1]; omega) (Ev.bindS rfl (Ev.pos ?a1 (Ev.bindS rfl (Ev.pos ?a2 (Ev.bindS rfl (Ev.bindS rfl (Ev.pos ?a3 (Ev.pos (show 0 ≤ s by omega) (Ev.pos (by show s ≤ ((strOfNums l).size : Int); rw [size_str]; exact hsl) ?_))))))))))))))))))))⟩
              · show Ev (fun k => puny_Decode.l1 k (l.drop s.toNat) _ (wrap64 (n + wrap64 (Int.tdiv (wrap64 (i + q)) (wrap64 ((out.length : Int) + 1))))) _ (wrap64 (Int.tmod (wrap64 (i + q)) (wrap64 ((out.length : Int) + 1)) + 1)) false) _
                rw [hD.2.2.2.1, hD.2.2.1, hD.2.2.2.2.1, hD.2.2.2.2.2]
                exact this.1
              case a1 => simp; omega
              case a2 => simp; omega
              case a3 => simp; omega
              · show Ev (fun k => paronymref12_Decode.l2 k ((strOfNums l).extract s.toNat (strOfNums l).size) (([] ++ out.take (Int.tmod (wrap64 (i + q)) (wrap64 ((out.length : Int) + 1))).toNat ++ [wrap64 (n + wrap64 (Int.tdiv (wrap64 (i + q)) (wrap64 ((out.length : Int) + 1))))]) ++ out.drop (Int.tmod (wrap64 (i + q)) (wrap64 ((out.length : Int) + 1))).toNat) (wrap64 (n + wrap64 (Int.tdiv (wrap64 (i + q)) (wrap64 ((out.length : Int) + 1))))) _ (wrap64 (Int.tmod (wrap64 (i + q)) (wrap64 ((out.length : Int) + 1)) + 1)) false) _
                rw [hD.2.2.2.1, hD.2.2.1, hD.2.2.2.2.1, hD.2.2.2.2.2, extract_str, size_str, List.take_length, List.nil_append]
                exact this.2
            · rw [if_neg c3]
              exact ⟨Ev.step (fun k => rfl) (Ev.pos z1 (Ev.bind hr1 (Ev.pos ce (Ev.neg (by rw [w31 hi0 hi1]; exact ngt_sub c1) (Ev.bind hg1 (Ev.neg hpz (Ev.neg (by show ¬ wrap64 (Int.tdiv (wrap64 (i + q)) _) > _; rw [hD.2.2.1, w31 hn0 hn1]; exact ngt_sub c2) (Ev.bindS hsc (Ev.neg c3 (Ev.now _)))))))))),
                Ev.step (fun k => rfl) (Ev.pos z2 (Ev.bind hr2 (Ev.pos ce (Ev.neg (by rw [hD.2.1]; exact c1) (Ev.bind hg2 (Ev.neg hpz (Ev.neg (by show ¬ wrap64 (n + wrap64 (Int.tdiv (wrap64 (i + q)) _)) > _; rw [hD.2.2.1, hD.2.2.2.2.1]; exact c2) (Ev.bindS hsc2 (Ev.neg c3 (Ev.now _))))))))))⟩
      · rw [if_neg ce]
        exact ⟨Ev.step (fun k => rfl) (Ev.pos z1 (Ev.bind hr1 (Ev.neg ce (Ev.now _)))), Ev.step (fun k => rfl) (Ev.pos z2 (Ev.bind hr2 (Ev.neg ce (Ev.now _))))⟩

end Go.Proofs.Ytooiajkbpkfplaa.K

-- from Ppuny3
/- Layer 12: Decode from its start: the last hyphen, the plain part. -/
namespace Go.Proofs.Ytooiajkbpkfplaa.K
set_option linter.unusedVariables false
set_option linter.unusedSimpArgs false
open Go.RowKit Go.Proofs.YtooiajkbpkfplaaW.PrintWords Go.Proofs.YtooiajkbpkfplaaW.PrintMore Go.Proofs.Ytooiajkbpkfplaa.Q

/-- The place of the last hyphen of the first i octets; none: -1. -/
def lastH (l : List Int) : Nat → Int
  | 0 => -1
  | i + 1 => if rd l (i : Int) = 45 then (i : Int) else lastH l i
theorem lastH_le (l : List Int) : ∀ i, -1 ≤ lastH l i ∧ lastH l i < (i : Int)
  | 0 => by simp [lastH]
  | i + 1 => by
    unfold lastH
    have := lastH_le l i
    split <;> omega
theorem last_ev {l : List Int} (hl : l.length ≤ 1099511627776) : ∀ (i : Nat), i ≤ l.length → Ev (fun k => bytealg_LastIndexByte.l0 k l 45 ((i : Int) - 1)) (lastH l i) := by
  intro i
  induction i with
  | zero =>
    intro h
    exact Ev.step (fun k => rfl) (Ev.neg (by omega) (Ev.now _))
  | succ i ih =>
    intro h
    have e : ((i + 1 : Nat) : Int) - 1 = (i : Int) := by omega
    rw [e]
    unfold lastH
    refine Ev.step (fun k => rfl) (Ev.pos (by omega) (Ev.pos (by omega) (Ev.pos (by omega) ?_)))
    by_cases c : rd l (i : Int) = 45
    · rw [if_pos c]
      exact Ev.pos c (Ev.now _)
    · rw [if_neg c]
      refine Ev.neg c ?_
      rw [w64 (by omega) (by omega)]
      exact ih (by omega)
theorem LastIndexByte_ev {l : List Int} (hl : l.length ≤ 1099511627776) : Ev (fun k => bytes_LastIndexByte.f k l 45) (lastH l l.length) := by
  unfold bytes_LastIndexByte.f bytealg_LastIndexByte.f
  refine Ev.bind ?_ (Ev.ret rfl)
  rw [w64 (by omega) (by omega)]
  exact last_ev hl l.length (Nat.le_refl _)
theorem any_high_ev (l : List Int) (hl : l.length ≤ 1099511627776) : Ev (fun k => slices_ContainsFunc_byte_byte_at_puny_Decode_1.f k l) (l.any fun c => decide (c ≥ 128)) := by
  unfold slices_ContainsFunc_byte_byte_at_puny_Decode_1.f slices_IndexFunc_byte_byte_at_puny_Decode_1.f
  exact contains_ev (p := puny_Decode_1.f) (q := fun c => decide (c ≥ 128)) (fun k x n i => rfl) l (by omega) (fun y _ => rfl)
/-- What a form is read to. -/
def decode (l : List Int) : List Int × Int :=
  if l.length > 12000 then ([], 36) else if (l.any fun c => decide (c ≥ 128)) = true then ([], 20) else if lastH l l.length > 0 then dec l.length (l.drop ((lastH l l.length).toNat + 1)) (l.take (lastH l l.length).toNat) 128 72 0 true else dec l.length l [] 128 72 0 true
theorem Decode12_ev {l : List Int} (ho : Oct l) (hl : l.length ≤ 1099511627776) : Ev (fun k => puny_Decode.f k l) (decode l) := by
  unfold decode puny_Decode.f
  by_cases c1 : l.length > 12000
  · rw [if_pos c1]
    exact Ev.pos (by omega) (Ev.now _)
  rw [if_neg c1]
  refine Ev.neg (by omega) (Ev.bind (any_high_ev l hl) ?_)
  by_cases c2 : (l.any fun c => decide (c ≥ 128)) = true
  · rw [if_pos c2]
    exact Ev.pos c2 (Ev.now _)
  rw [if_neg c2]
  refine Ev.neg c2 (Ev.bind (LastIndexByte_ev hl) ?_)
  have hle := lastH_le l l.length
  by_cases c3 : lastH l l.length > 0
  · rw [if_pos c3]
    refine Ev.pos c3 (Ev.pos (by omega) (Ev.pos (by omega) (Ev.bindS rfl ?_)))
    have hh : ∃ h : Nat, lastH l l.length = (h : Int) := ⟨(lastH l l.length).toNat, by omega⟩
    obtain ⟨h, hh⟩ := hh
    rw [hh] at hle c3 ⊢
    rw [Int.toNat_natCast]
    have hlt : (l.take h).length = h := by rw [List.length_take]; omega
    have key : ∀ (d i : Nat), h - i = d → i ≤ h → Ev (fun k => puny_Decode.l0 k l ((l.take h).take i) h (l.take h) h i) (dec l.length (l.drop (h + 1)) (l.take h) 128 72 0 true) := by
      intro d
      induction d with
      | zero =>
        intro i h1 h2
        have : i = h := by omega
        subst this
        have e1 : wrap64 ((i : Int) + 1) = ((i + 1 : Nat) : Int) := w64 (by omega) (by omega)
        refine Ev.step (fun k => rfl) (Ev.neg (by omega) (Ev.pos (by rw [e1]; omega) (Ev.pos (by rw [e1]; omega) ?_)))
        rw [e1, Int.toNat_natCast, List.take_take, Nat.min_self]
        refine Ev.step (fun k => rfl) ?_
        exact (dec_ev l.length (l.drop (i + 1)) (l.take i) 128 72 0 true (by rw [List.length_drop]; omega) (ho.drop _) (by rw [List.length_drop]; omega) (by rw [List.length_drop, List.length_take]; omega) (by omega) (by omega) (by omega) (by omega) (by omega) (by omega)).1
      | succ d ih =>
        intro i h1 h2
        have hx := (ho.take h).rd (i := (i : Int)) (by omega) (by omega)
        refine Ev.step (fun k => rfl) (Ev.pos (by omega) (Ev.pos (by omega) (Ev.pos (by omega) (Ev.pos (by rw [List.length_take]; omega) ?_))))
        rw [w64 (n := rd (l.take h) i) (by omega) (by omega), ← take_snoc (l.take h) i (by omega), w64 (by omega) (by omega)]
        exact ih (i + 1) (by omega) (by omega)
    have := key h 0 (by omega) (by omega)
    rw [hlt]
    simpa using this
  · rw [if_neg c3]
    refine Ev.neg c3 (Ev.step (fun k => rfl) ?_)
    exact (dec_ev l.length l [] 128 72 0 true (by omega) ho (by omega) (by simp; omega) (by omega) (by omega) (by omega) (by omega) (by omega) (by omega)).1
theorem refDecode12_ev {l : List Int} (ho : Oct l) (hl : l.length ≤ 1099511627776) : Ev (fun k => paronymref12_Decode.f k (strOfNums l)) (decode l) := by
  unfold decode paronymref12_Decode.f
  by_cases c1 : l.length > 12000
  · rw [if_pos c1]
    exact Ev.pos (by rw [size_str]; omega) (Ev.now _)
  rw [if_neg c1]
  refine Ev.neg (by rw [size_str]; omega) ?_
  have hle := lastH_le l l.length
  have last : Ev (fun k => if lastH l l.length > 0 then paronymref12_Decode.l1 k (strOfNums l) (lastH l l.length) [] 0 else paronymref12_Decode.j2 k (strOfNums l) []) (if lastH l l.length > 0 then dec l.length (l.drop ((lastH l l.length).toNat + 1)) (l.take (lastH l l.length).toNat) 128 72 0 true else dec l.length l [] 128 72 0 true) := by
    by_cases c3 : lastH l l.length > 0
    · rw [if_pos c3]
      refine Ev.pos c3 ?_
      have hh : ∃ h : Nat, lastH l l.length = (h : Int) := ⟨(lastH l l.length).toNat, by omega⟩
      obtain ⟨h, hh⟩ := hh
      rw [hh] at hle c3 ⊢
      rw [Int.toNat_natCast]
      have key : ∀ (d i : Nat), h - i = d → i ≤ h → Ev (fun k => paronymref12_Decode.l1 k (strOfNums l) h (l.take i) i) (dec l.length (l.drop (h + 1)) (l.take h) 128 72 0 true) := by
        intro d
        induction d with
        | zero =>
          intro i h1 h2
          have : i = h := by omega
          subst this
          have e1 : wrap64 ((i : Int) + 1) = ((i + 1 : Nat) : Int) := w64 (by omega) (by omega)
          refine Ev.step (fun k => rfl) (Ev.neg (by omega) (Ev.pos (by rw [e1]; omega) (Ev.pos (by rw [e1, size_str]; omega) ?_)))
          rw [e1, Int.toNat_natCast, extract_str, size_str, List.take_length]
          refine Ev.step (fun k => rfl) ?_
          exact (dec_ev l.length (l.drop (i + 1)) (l.take i) 128 72 0 true (by rw [List.length_drop]; omega) (ho.drop _) (by rw [List.length_drop]; omega) (by rw [List.length_drop, List.length_take]; omega) (by omega) (by omega) (by omega) (by omega) (by omega) (by omega)).2
        | succ d ih =>
          intro i h1 h2
          have hx := ho.rd (i := (i : Int)) (by omega) (by omega)
          refine Ev.step (fun k => rfl) (Ev.pos (by omega) (Ev.pos (by omega) (Ev.pos (by rw [size_str]; omega) (Ev.pos (by rw [List.length_take]; omega) ?_))))
          rw [bt_str ho (by omega) (by omega), w64 (n := rd l i) (by omega) (by omega), ← take_snoc l i (by omega), w64 (by omega) (by omega)]
          exact ih (i + 1) (by omega) (by omega)
      have := key h 0 (by omega) (by omega)
      simpa using this
    · rw [if_neg c3]
      refine Ev.neg c3 (Ev.step (fun k => rfl) ?_)
      exact (dec_ev l.length l [] 128 72 0 true (by omega) ho (by omega) (by simp; omega) (by omega) (by omega) (by omega) (by omega) (by omega) (by omega)).2
  have key : ∀ (d i : Nat), l.length - i = d → i ≤ l.length → Ev (fun k => paronymref12_Decode.l0 k (strOfNums l) (lastH l i) i) (if ((l.drop i).any fun c => decide (c ≥ 128)) = true then ([], 20) else if lastH l l.length > 0 then dec l.length (l.drop ((lastH l l.length).toNat + 1)) (l.take (lastH l l.length).toNat) 128 72 0 true else dec l.length l [] 128 72 0 true) := by
    intro d
    induction d with
    | zero =>
      intro i h1 h2
      have : i = l.length := by omega
      subst this
      rw [List.drop_length]
      exact Ev.step (fun k => rfl) (Ev.neg (by rw [size_str]; omega) last)
    | succ d ih =>
      intro i h1 h2
      have hi : i < l.length := by omega
      have hx := ho.rd (i := (i : Int)) (by omega) (by omega)
      have hb : bt (strOfNums l) (i : Int) = rd l i := bt_str ho (by omega) (by omega)
      rw [drop_cons l i hi, List.any_cons]
      refine Ev.step (fun k => rfl) (Ev.pos (by rw [size_str]; omega) (Ev.pos (by omega) ?_))
      by_cases c : rd l (i : Int) > 127
      · have e : decide (rd l (i : Int) ≥ 128) = true := decide_eq_true (by omega)
        rw [e]
        exact Ev.pos (by rw [hb]; exact c) (Ev.ret (by simp))
      · have e : decide (rd l (i : Int) ≥ 128) = false := decide_eq_false (by omega)
        rw [e, Bool.false_or]
        refine Ev.neg (by rw [hb]; exact c) ?_
        have en : wrap64 ((i : Int) + 1) = ((i + 1 : Nat) : Int) := w64 (by omega) (by omega)
        have := ih (i + 1) (by omega) (by omega)
        by_cases c2 : rd l (i : Int) = 45
        · have el : lastH l (i + 1) = (i : Int) := by unfold lastH; rw [if_pos c2]
          rw [el] at this
          refine Ev.pos (by rw [hb]; exact c2) ?_
          rw [en]
          exact this
        · have el : lastH l (i + 1) = lastH l i := by rw [lastH, if_neg c2]
          rw [el] at this
          refine Ev.neg (by rw [hb]; exact c2) ?_
          rw [en]
          exact this
  have := key l.length 0 (by omega) (by omega)
  rw [List.drop_zero] at this
  exact this

end Go.Proofs.Ytooiajkbpkfplaa.K
