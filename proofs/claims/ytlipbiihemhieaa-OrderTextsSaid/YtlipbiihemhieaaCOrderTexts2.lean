/- Part 2 of 3 of the proof of OrderTexts: for every list of code points, every depth and every bound, order.All tells the reference's texts in their order, order.Count and order.First agree with it, and the law is true For every input; no condition. -/
import Derived.Test.YtlipbiihemhieaaCOrderTexts1
import Derived.Deep.RegionHeld3
import Derived.Lib.Bytes

-- from Qf16
-- Made by hp.py, a program of this session, with the kit's printer. Not trusted: Lean checks it.
namespace Go.Proofs.Ytlipbiihemhieaa.Q
open Go.RowKit Go.Proofs.YtlipbiihemhieaaW.PrintWords Go.Proofs.YtlipbiihemhieaaW.PrintLast Go.Proofs.YtlipbiihemhieaaW.PrintMore
attribute [local go_sem] max2_int min2_int max_two min_two max_three min_three max_four min_four   -- for this text's walks alone
set_option linter.unusedVariables false
set_option linter.unusedSimpArgs false

/-! ### paronymref19_All: function 16 -/
mutual
def paronymref19_All.j0 : Nat → List Int → List Int → Int → List (List Int) → Option ((List (List Int)))
  | 0, _, _, _, _ => none
  | k + 1, x0, x1, x2, x7 => if (x1.length : Int) ≥ x2 then (some x7) else (paronymref19_All.l0 k x0 x1 x2 x7 0)
def paronymref19_All.l0 : Nat → List Int → List Int → Int → List (List Int) → Int → Option ((List (List Int)))
  | 0, _, _, _, _, _ => none
  | k + 1, x0, x1, x2, x7, x8 => if x8 < (x0.length : Int) then ((some (([] : List Int) : List Int)).bind fun y107 => (if y107.length + x1.length < 17592186044416 then ((some (y107 ++ x1 : List Int)).bind fun y110 => (if 0 ≤ x8 then ((some (([rd x0 x8] : List Int) : List Int)).bind fun y114 => (if y110.length + y114.length < 17592186044416 then ((paronymref19_All.f k x0 (y110 ++ y114) x2).bind fun t120 => (if x7.length + t120.length < 5864062014805 then (paronymref19_All.l0 k x0 x1 x2 (x7 ++ t120) (wrap64 (x8 + 1))) else (none))) else (none))) else (none))) else (none))) else (some x7)
def paronymref19_All.f : Nat → List Int → List Int → Int → Option ((List (List Int)))
  | 0, _, _, _ => none
  | k + 1, l0, l1, a2 => if (l1.length : Int) > 0 then ((some (([l1] : List (List Int)) : List (List Int))).bind fun y101 => (if ([] : List (List Int)).length + y101.length < 5864062014805 then (paronymref19_All.j0 k l0 l1 a2 (([] : List (List Int)) ++ y101)) else (none))) else (paronymref19_All.j0 k l0 l1 a2 ([] : List (List Int)))
end
theorem paronymref19_All.mono_l : ∀ k, (∀ y0 y1 y2, LeO (paronymref19_All.f k y0 y1 y2) (paronymref19_All.f (k + 1) y0 y1 y2)) ∧ (∀ y0 y1 y2 y3, LeO (paronymref19_All.j0 k y0 y1 y2 y3) (paronymref19_All.j0 (k + 1) y0 y1 y2 y3)) ∧ (∀ y0 y1 y2 y3 y4, LeO (paronymref19_All.l0 k y0 y1 y2 y3 y4) (paronymref19_All.l0 (k + 1) y0 y1 y2 y3 y4))
  | 0 => ⟨fun _ _ _ r h => by simp [paronymref19_All.f] at h, fun _ _ _ _ r h => by simp [paronymref19_All.j0] at h, fun _ _ _ _ _ r h => by simp [paronymref19_All.l0] at h⟩
  | k + 1 => by
    obtain ⟨ih0, ih1, ih2⟩ := paronymref19_All.mono_l k
    refine ⟨?_, ?_, ?_⟩
    · intro y0 y1 y2
      unfold paronymref19_All.f
      repeat' first
      | (with_reducible exact ih0 _ _ _)
      | (with_reducible exact ih1 _ _ _ _)
      | (with_reducible exact ih2 _ _ _ _ _)
      | (with_reducible exact LeO.refl _)
      | (with_reducible exact LeO.none _)
      | (with_reducible refine LeO.ite ?_ ?_)
      | (with_reducible refine LeO.bind ?_ (fun _ => ?_))
      | exact ih0 _ _ _
      | exact ih1 _ _ _ _
      | exact ih2 _ _ _ _ _
      | exact LeO.none _
      | refine LeO.ite ?_ ?_
      | refine LeO.bind ?_ (fun _ => ?_)
    · intro y0 y1 y2 y3
      unfold paronymref19_All.j0
      repeat' first
      | (with_reducible exact ih0 _ _ _)
      | (with_reducible exact ih1 _ _ _ _)
      | (with_reducible exact ih2 _ _ _ _ _)
      | (with_reducible exact LeO.refl _)
      | (with_reducible exact LeO.none _)
      | (with_reducible refine LeO.ite ?_ ?_)
      | (with_reducible refine LeO.bind ?_ (fun _ => ?_))
      | exact ih0 _ _ _
      | exact ih1 _ _ _ _
      | exact ih2 _ _ _ _ _
      | exact LeO.none _
      | refine LeO.ite ?_ ?_
      | refine LeO.bind ?_ (fun _ => ?_)
    · intro y0 y1 y2 y3 y4
      unfold paronymref19_All.l0
      repeat' first
      | (with_reducible exact ih0 _ _ _)
      | (with_reducible exact ih1 _ _ _ _)
      | (with_reducible exact ih2 _ _ _ _ _)
      | (with_reducible exact LeO.refl _)
      | (with_reducible exact LeO.none _)
      | (with_reducible refine LeO.ite ?_ ?_)
      | (with_reducible refine LeO.bind ?_ (fun _ => ?_))
      | exact ih0 _ _ _
      | exact ih1 _ _ _ _
      | exact ih2 _ _ _ _ _
      | exact LeO.none _
      | refine LeO.ite ?_ ?_
      | refine LeO.bind ?_ (fun _ => ?_)
theorem paronymref19_All.mono : ∀ a0 a1 a2 k, LeO (paronymref19_All.f k a0 a1 a2) (paronymref19_All.f (k + 1) a0 a1 a2) := by
  intro a0 a1 a2 k
  obtain ⟨ih0, ih1, ih2⟩ := paronymref19_All.mono_l k
  exact ih0 a0 a1 a2
def paronymref19_All.T9 : Bool × List (List Nat × List Nat) := (true, [([], []), ([], []), ([0, 1], [0, 1]), ([], []), ([], []), ([3, 4], [3, 4]), ([5], [5]), ([6], [6]), ([2, 7, 2], [2, 7]), ([8, 8, 0, 1, 2, 3, 4, 5, 6, 7, 8], [8])])
def paronymref19_All.B9 : List Nat := [0, 0, 3, 0, 0, 24, 56, 120, 255, 511]
theorem paronymref19_All.tab9 : rtab .any (opsOf Try.f16 9) = paronymref19_All.T9 := by kernel_rfl
theorem paronymref19_All.bits9 : waitsOk paronymref19_All.T9.2 paronymref19_All.B9 = true := by kernel_rfl
set_option maxHeartbeats 8000000 in
set_option maxRecDepth 100000 in
theorem paronymref19_All.calls (k : Nat) : ∀ (A0 : Option Addr) (c0 : Nat) (l0 : List Int) (P1_ : Nat → Prop) (A1 : Option Addr) (c1 : Nat) (l1 : List Int) (a2 : Int) (r : List (List Int)) (w : World) (hr0 : Kd.C (Kd.int .i64) w A0 l0.length l0) (hc0 : l0.length ≤ c0) (hs1 : Kd.V (Kd.int .i64) 3 w w.heap.size (fun k_ => P1_ k_) (.slice A1 l1.length c1) l1) (h : paronymref19_All.f k l0 l1 a2 = some r),
    Calls Try.prog 16 #[.slice A0 l0.length c0, .slice A1 l1.length c1, .int .i64 a2] w fun e w' => ∃ v0_ : Value, e = .returned (v0_) ∧ Kd.N (Kd.slice 3 (Kd.int .i64)) 22 w' w.heap.size (fun k_ => (P1_ k_ ∨ w.heap.size ≤ k_)) v0_ r ∧ Below w.heap.size w w' := by
  induction k using Nat.strongRecOn with
  | _ k ih =>
  intro A0 c0 l0 P1_ A1 c1 l1 a2 r w hr0 hc0 hs1 h
  cases k with
  | zero => exact absurd h (by simp [paronymref19_All.f])
  | succ k =>
  simp only [paronymref19_All.f] at h
  have HR0 := Aside0.mk hr0
  have HC0 := Aside0.mk hc0
  clear hr0 hc0
  have HO1 := Aside0.mk (show Kd.V (Kd.int .i64) 3 w w.heap.size (fun k_ => (P1_ k_ ∨ w.heap.size ≤ k_)) (.slice A1 l1.length c1) l1 from Kd.V_mono hs1 (fun k_ hk => .inl hk))
  have HB := Aside0.mk (Below.refl w.heap.size w)
  have H : (if (l1.length : Int) > 0 then ((some (([l1] : List (List Int)) : List (List Int))).bind fun y101 => (if ([] : List (List Int)).length + y101.length < 5864062014805 then (paronymref19_All.j0 k l0 l1 a2 (([] : List (List Int)) ++ y101)) else (none))) else (paronymref19_All.j0 k l0 l1 a2 ([] : List (List Int)))) = some r := h
  clear h
  have HC4 := Aside0.mk H
  clear H
  go_enter Try.func16, Try.ntmps16
  go_upto_if 12 with (fail)
  go_cut [7] (fun v7 wc => ∃ (kq : Nat) (x7_3 : List (List Int)), Aside0 (paronymref19_All.j0 kq l0 l1 a2 x7_3 = some r) ∧ Aside0 (kq ≤ k) ∧ Aside0 (Kd.V (Kd.int .i64) 3 wc w.heap.size (fun k_ => (P1_ k_ ∨ w.heap.size ≤ k_) ∧ some k_ ≠ (v7 : Value).ownBlock) (.slice A1 l1.length c1) l1) ∧ Aside0 (Kd.N (Kd.slice 3 (Kd.int .i64)) 22 wc w.heap.size (fun k_ => (P1_ k_ ∨ w.heap.size ≤ k_)) v7 x7_3) ∧ Aside0 (Below w.heap.size w wc))
  case first =>
    have H := HC4.out
    clear HC4
    by_cases c5 : (l1.length : Int) > 0
    · rw [if_pos c5] at H
      have c5b0 : decide (0 < (l1.length : Int)) = true := decide_eq_true c5
      have c5b1 : decide (0 < l1.length) = true := decide_eq_true (by omega)
      clear c5
      (first | rw [c5b0] | (simp only [i64_w, i32_w]; rw [c5b0]) | rw [c5b1] | (simp only [i64_w, i32_w]; rw [c5b1]) | skip)
      obtain ⟨y101, hy101⟩ : ∃ y_ : List (List Int), y_ = (([l1] : List (List Int))) := ⟨_, rfl⟩
      replace H : (if ([] : List (List Int)).length + y101.length < 5864062014805 then (paronymref19_All.j0 k l0 l1 a2 (([] : List (List Int)) ++ y101)) else (none)) = some r := by first | (rw [hy101]; with_reducible exact H) | (have H2_ := (Option.bind_some _ _).symm.trans H; rw [hy101]; with_reducible exact H2_) | (have H2_ := (Option.bind_some _ _).symm.trans H; with_reducible exact H2_) | with_reducible exact H | (rw [hy101]; exact H) | exact H
      have Ny101 := Aside0.mk hy101
      clear hy101
      by_cases c6 : ([] : List (List Int)).length + y101.length < 5864062014805
      · rw [if_pos c6] at H
        have LMc6 := Aside0.mk c6
        clear c6
        obtain ⟨y104, hy104⟩ : ∃ y_ : List (List Int), y_ = (([] : List (List Int)) ++ y101) := ⟨_, rfl⟩
        replace H : (paronymref19_All.j0 k l0 l1 a2 y104) = some r := by first | (rw [hy104]; with_reducible exact H) | (have H2_ := (Option.bind_some _ _).symm.trans H; rw [hy104]; with_reducible exact H2_) | (have H2_ := (Option.bind_some _ _).symm.trans H; with_reducible exact H2_) | with_reducible exact H | (rw [hy104]; exact H) | exact H
        have Ny104 := Aside0.mk hy104
        clear hy104
        have H' := Aside0.mk H
        clear H
        go_wp2_with (first | ((with_reducible refine gate_dst (N := 15) rfl ?_); refine Kd.N_lit (Kd.slice 3 (Kd.int .i64)) _ 22 ?hg (N' := 15) ?hd (xs := ([l1] : List (List Int))) (inner := [.slice A1 l1.length c1]) (ok := (fun k_ => (P1_ k_ ∨ w.heap.size ≤ k_))) (okp := (fun k_ => (P1_ k_ ∨ w.heap.size ≤ k_))) ?hr ?hp (fun _ hk => hk) ((show ∀ k_, w.heap.size ≤ k_ → (fun k_ => (P1_ k_ ∨ w.heap.size ≤ k_)) k_ from fun k_ hk => (.inr (Nat.le_trans (below_size (by repeat (first | (with_reducible first | exact HB.out | apply below_alloc | apply pw_below_drewN | apply below_drew1) | exact HB.out))) hk))) _ (Nat.le_refl _)) (Below.refl _ _) (Nat.le_refl _) (by simp) ?_; (case hd => rfl); (case hg => rfl); (case hr => first | (go_simp; done) | (go_simp; rfl)); (case hp => exact (Reps.one (show Kd.FK (Kd.slice 3 (Kd.int .i64)) _ _ l1 [.slice A1 l1.length c1] from (Kd.FK_slice_mk (Kd.V_reads' (Kd.V_mono (ok' := (fun k_ => (P1_ k_ ∨ w.heap.size ≤ k_))) (HO1.out) (fun k_ hk => hk))).2.1 (Kd.V_F (Kd.V_mono (ok' := (fun k_ => (P1_ k_ ∨ w.heap.size ≤ k_))) (HO1.out) (fun k_ hk => hk))))) (Reps.none _ _))); intro v102 w7 ho8 hb hg_ hnew_; clear hg_ hnew_; (first | rw [← Ny101.out] at ho8 | (simp only [Int.reduceToNat] at ho8; rw [← Ny101.out] at ho8)); have n0_ := Aside0.mk (Kd.V_elder' (by (with_reducible repeat (first | apply Kd.V_alloc | apply Kd.V_drewN | apply Kd.V_drew)); exact HO1.out) (Kd.N_base ho8) hb); have n1_ := Aside0.mk (Kd.N_lower ho8 (below_size (by repeat (first | (with_reducible first | exact HB.out | apply below_alloc | apply pw_below_drewN | apply below_drew1) | exact HB.out)))); have n2_ := Aside0.mk (below_step (by repeat (first | (with_reducible first | exact HB.out | apply below_alloc | apply pw_below_drewN | apply below_drew1) | exact HB.out)) hb); clear HO1; clear HB; have HO1 := n0_; have HO103 := n1_; have HB := n2_; clear n0_ n1_ n2_; clear hb ho8; obtain ⟨Ao10, co10, eo10⟩ := Kd.N_slice HO103.out; subst eo10) | ((with_reducible refine gate_builtin (b := .append) (xs := #[.tmp 13, .tmp 15]) rfl ?_); at_builtin; refine Kd.N_append_rows (Kd.slice 3 (Kd.int .i64)) (w0 := w) w.heap.size rfl (.tmp 13) (.tmp 15) 24 22 (.slice none 0 0) 24 rfl Try.underlying24 info22 rfl (by decide) (by omega) (.slice none 0 0) ([] : List (List Int)) y101 _ _ _ (fun k_ => (P1_ k_ ∨ w.heap.size ≤ k_)) (fun k_ => ((fun k_ => (P1_ k_ ∨ w.heap.size ≤ k_))) k_ ∧ some k_ ≠ (.slice none 0 0 : Value).ownBlock) rfl rfl ?aO ?aR (fun _ hk => hk) ?aF ?aB ?aS ?aL ?_; (case aR => exact (by skip; exact Kd.N_F (Kd.N_mono (ok' := (fun k_ => ((fun k_ => (P1_ k_ ∨ w.heap.size ≤ k_))) k_ ∧ some k_ ≠ (.slice none 0 0 : Value).ownBlock)) (HO103.out) (fun k_ hk => ⟨hk, (by simp [Value.ownBlock])⟩)))); (case aB => exact (by repeat (first | (with_reducible first | exact HB.out | apply below_alloc | apply pw_below_drewN | apply below_drew1) | exact HB.out))); (case aF => exact (fun k_ hk => (.inr (Nat.le_trans (below_size (by repeat (first | (with_reducible first | exact HB.out | apply below_alloc | apply pw_below_drewN | apply below_drew1) | exact HB.out))) hk)))); (case aO => exact ((Kd.N_nil _ _ _ _ (fun k_ => (P1_ k_ ∨ w.heap.size ≤ k_))))); (case aS => exact (below_size (by repeat (first | (with_reducible first | exact HB.out | apply below_alloc | apply pw_below_drewN | apply below_drew1) | exact HB.out)))); (case aL => have := LMc6.out; omega); intro v105 w9 ho hb hg hat; rw [← Ny104.out] at ho; have n0_ := Aside0.mk (Kd.V_afterv (Kd.V_apart_nil (by (with_reducible repeat (first | apply Kd.V_alloc | apply Kd.V_drewN | apply Kd.V_drew)); exact HO1.out)) hg hat); have n1_ := Aside0.mk (Kd.N_afterv (Kd.N_apart_nil (by (with_reducible repeat (first | apply Kd.N_alloc | apply Kd.N_drewN | apply Kd.N_drew)); exact HO103.out)) hg hat); have n2_ := Aside0.mk (hb); have n3_ := Aside0.mk (ho); clear HO1; clear HO103; clear HB; have HO1 := n0_; have HO103 := n1_; have HB := n2_; have HO106 := n3_; clear n0_ n1_ n2_ n3_; clear ho hb hg hat))
        go_meet
        case rel => exact ⟨_, (y104), H', ⟨by first | omega | exact Nat.le_refl _⟩, ⟨by (with_reducible repeat (first | apply Kd.V_alloc | apply Kd.V_drewN | apply Kd.V_drew)); exact Kd.V_mono HO1.out (fun _ hk => ⟨hk.1.1, hk.2⟩)⟩, ⟨by (with_reducible repeat (first | apply Kd.N_alloc | apply Kd.N_drewN | apply Kd.N_drew)); exact HO106.out⟩, ⟨by repeat (first | (with_reducible first | exact HB.out | apply below_alloc | apply pw_below_drewN | apply below_drew1) | exact HB.out)⟩⟩
      · rw [if_neg c6] at H
        exact absurd H (by simp)
    · rw [if_neg c5] at H
      have c5b0 : decide (0 < (l1.length : Int)) = false := decide_eq_false c5
      have c5b1 : decide (0 < l1.length) = false := decide_eq_false (by omega)
      clear c5
      (first | rw [c5b0] | (simp only [i64_w, i32_w]; rw [c5b0]) | rw [c5b1] | (simp only [i64_w, i32_w]; rw [c5b1]) | skip)
      have H' := Aside0.mk H
      clear H
      go_wp2
      go_meet
      case rel => exact ⟨_, (([] : List (List Int))), H', ⟨by first | omega | exact Nat.le_refl _⟩, ⟨by (with_reducible repeat (first | apply Kd.V_alloc | apply Kd.V_drewN | apply Kd.V_drew)); exact Kd.V_mono HO1.out (fun _ hk => ⟨hk, (by simp [Value.ownBlock])⟩)⟩, ⟨by first | exact Kd.S_nil _ _ _ _ _ | exact Kd.N_nil _ _ _ _ _ | exact Kd.V_nil _ _ _ _ _ | exact Kd.Q_nil _ _ _ _ _ | exact Kd.R_nil _ _ _ _ _⟩, ⟨by repeat (first | (with_reducible first | exact HB.out | apply below_alloc | apply pw_below_drewN | apply below_drew1) | exact HB.out)⟩⟩
  case rest =>
    clear HC4
    try clear c1
    try clear p2
    try clear c5
    try clear c5b0
    try clear c5b1
    try clear c6
    obtain ⟨kq, x7_3, HA, HJ3, HO_1, HO_7, HB⟩ := hcut
    cases kq with
    | zero => exact absurd HA.out (by simp [paronymref19_All.j0])
    | succ kj3 =>
      have H := HA.out
      clear HA
      simp only [paronymref19_All.j0] at H
      by_cases c11 : (l1.length : Int) ≥ a2
      · rw [if_pos c11] at H
        have c11b0 : decide (a2 ≤ (l1.length : Int)) = true := decide_eq_true c11
        clear c11
        obtain rfl := Option.some.inj H
        go_wp2
        go_ret
        exact ⟨_, by first | rfl | (simp [errW_none, errW_some] <;> rfl) | (simp [*, errW_none, errW_some] <;> rfl), by (with_reducible repeat (first | apply Kd.N_alloc | apply Kd.N_drewN | apply Kd.N_drew)); exact HO_7.out, by repeat (first | (with_reducible first | exact HB.out | apply below_alloc | apply pw_below_drewN | apply below_drew1) | exact HB.out)⟩
      · rw [if_neg c11] at H
        have c11b0 : decide (a2 ≤ (l1.length : Int)) = false := decide_eq_false c11
        clear c11
        have H' := Aside0.mk H
        clear H
        go_wp2
        go_loopg [7, 8] kj3 (fun kq v7 v8 w' => ∃ (x7_2 : List (List Int)) (x8_2 : Int), v8 = .int .i64 x8_2 ∧ Aside0 (paronymref19_All.l0 kq l0 l1 a2 x7_2 x8_2 = some r) ∧ Aside0 (kq ≤ kj3) ∧ Aside0 (Kd.V (Kd.int .i64) 3 w' w.heap.size (fun k_ => (P1_ k_ ∨ w.heap.size ≤ k_) ∧ some k_ ≠ (v7 : Value).ownBlock) (.slice A1 l1.length c1) l1) ∧ Aside0 (Kd.N (Kd.slice 3 (Kd.int .i64)) 22 w' w.heap.size (fun k_ => (P1_ k_ ∨ w.heap.size ≤ k_)) v7 x7_2) ∧ Aside0 (Below w.heap.size w w'))
        case atStart => exact ⟨(x7_3), (0), (by first | rfl | (simp; done) | (simp [*]; done)), H', ⟨Nat.le_refl _⟩, ⟨by (with_reducible repeat (first | apply Kd.V_alloc | apply Kd.V_drewN | apply Kd.V_drew)); exact HO_1.out⟩, ⟨by (with_reducible repeat (first | apply Kd.N_alloc | apply Kd.N_drewN | apply Kd.N_drew)); exact HO_7.out⟩, ⟨by repeat (first | (with_reducible first | exact HB.out | apply below_alloc | apply pw_below_drewN | apply below_drew1) | exact HB.out)⟩⟩
        case round =>
          clear H'
          try clear c1
          try clear p2
          try clear c5
          try clear c5b0
          try clear c5b1
          try clear c6
          try clear c11
          try clear c11b0
          try clear p2
          obtain ⟨x7_2, x8_2, rfl, HA, HK2, HO_1, HO_7, HB⟩ := hrel
          cases gk with
          | zero => exact absurd HA.out (by simp [paronymref19_All.l0])
          | succ k2 =>
            have H := HA.out
            clear HA
            simp only [paronymref19_All.l0] at H
            by_cases c12 : x8_2 < (l0.length : Int)
            · rw [if_pos c12] at H
              have c12b0 : decide (x8_2 < (l0.length : Int)) = true := decide_eq_true c12
              clear c12
              obtain ⟨y107, hy107⟩ : ∃ y_ : List Int, y_ = (([] : List Int)) := ⟨_, rfl⟩
              replace H : (if y107.length + l1.length < 17592186044416 then ((some (y107 ++ l1 : List Int)).bind fun y110 => (if 0 ≤ x8_2 then ((some (([rd l0 x8_2] : List Int) : List Int)).bind fun y114 => (if y110.length + y114.length < 17592186044416 then ((paronymref19_All.f k2 l0 (y110 ++ y114) a2).bind fun t120 => (if x7_2.length + t120.length < 5864062014805 then (paronymref19_All.l0 k2 l0 l1 a2 (x7_2 ++ t120) (wrap64 (x8_2 + 1))) else (none))) else (none))) else (none))) else (none)) = some r := by first | (rw [hy107]; with_reducible exact H) | (have H2_ := (Option.bind_some _ _).symm.trans H; rw [hy107]; with_reducible exact H2_) | (have H2_ := (Option.bind_some _ _).symm.trans H; with_reducible exact H2_) | with_reducible exact H | (rw [hy107]; exact H) | exact H
              have Ny107 := Aside0.mk hy107
              clear hy107
              by_cases c13 : y107.length + l1.length < 17592186044416
              · rw [if_pos c13] at H
                have LMc13 := Aside0.mk c13
                clear c13
                obtain ⟨y110, hy110⟩ : ∃ y_ : List Int, y_ = (y107 ++ l1) := ⟨_, rfl⟩
                replace H : (if 0 ≤ x8_2 then ((some (([rd l0 x8_2] : List Int) : List Int)).bind fun y114 => (if y110.length + y114.length < 17592186044416 then ((paronymref19_All.f k2 l0 (y110 ++ y114) a2).bind fun t120 => (if x7_2.length + t120.length < 5864062014805 then (paronymref19_All.l0 k2 l0 l1 a2 (x7_2 ++ t120) (wrap64 (x8_2 + 1))) else (none))) else (none))) else (none)) = some r := by first | (rw [hy110]; with_reducible exact H) | (have H2_ := (Option.bind_some _ _).symm.trans H; rw [hy110]; with_reducible exact H2_) | (have H2_ := (Option.bind_some _ _).symm.trans H; with_reducible exact H2_) | with_reducible exact H | (rw [hy110]; exact H) | exact H
                have Ny110 := Aside0.mk hy110
                clear hy110
                by_cases c14 : 0 ≤ x8_2
                · rw [if_pos c14] at H
                  have c14b0 : decide (0 ≤ x8_2) = true := decide_eq_true c14
                  clear c14
                  obtain ⟨y114, hy114⟩ : ∃ y_ : List Int, y_ = (([rd l0 x8_2] : List Int)) := ⟨_, rfl⟩
                  replace H : (if y110.length + y114.length < 17592186044416 then ((paronymref19_All.f k2 l0 (y110 ++ y114) a2).bind fun t120 => (if x7_2.length + t120.length < 5864062014805 then (paronymref19_All.l0 k2 l0 l1 a2 (x7_2 ++ t120) (wrap64 (x8_2 + 1))) else (none))) else (none)) = some r := by first | (rw [hy114]; with_reducible exact H) | (have H2_ := (Option.bind_some _ _).symm.trans H; rw [hy114]; with_reducible exact H2_) | (have H2_ := (Option.bind_some _ _).symm.trans H; with_reducible exact H2_) | with_reducible exact H | (rw [hy114]; exact H) | exact H
                  have Ny114 := Aside0.mk hy114
                  clear hy114
                  by_cases c15 : y110.length + y114.length < 17592186044416
                  · rw [if_pos c15] at H
                    have LMc15 := Aside0.mk c15
                    clear c15
                    obtain ⟨y117, hy117⟩ : ∃ y_ : List Int, y_ = (y110 ++ y114) := ⟨_, rfl⟩
                    replace H : ((paronymref19_All.f k2 l0 y117 a2).bind fun t120 => (if x7_2.length + t120.length < 5864062014805 then (paronymref19_All.l0 k2 l0 l1 a2 (x7_2 ++ t120) (wrap64 (x8_2 + 1))) else (none))) = some r := by first | (rw [hy117]; with_reducible exact H) | (have H2_ := (Option.bind_some _ _).symm.trans H; rw [hy117]; with_reducible exact H2_) | (have H2_ := (Option.bind_some _ _).symm.trans H; with_reducible exact H2_) | with_reducible exact H | (rw [hy117]; exact H) | exact H
                    have Ny117 := Aside0.mk hy117
                    clear hy117
                    replace H := Option.bind_eq_some_iff.mp H
                    obtain ⟨t120, A160, H⟩ := H
                    replace H : (if x7_2.length + t120.length < 5864062014805 then (paronymref19_All.l0 k2 l0 l1 a2 (x7_2 ++ t120) (wrap64 (x8_2 + 1))) else (none)) = some r := H
                    have A16 := Aside0.mk A160
                    clear A160
                    by_cases c17 : x7_2.length + t120.length < 5864062014805
                    · rw [if_pos c17] at H
                      have LMc17 := Aside0.mk c17
                      clear c17
                      obtain ⟨y123, hy123⟩ : ∃ y_ : List (List Int), y_ = (x7_2 ++ t120) := ⟨_, rfl⟩
                      replace H : (paronymref19_All.l0 k2 l0 l1 a2 y123 (wrap64 (x8_2 + 1))) = some r := by first | (rw [hy123]; with_reducible exact H) | (have H2_ := (Option.bind_some _ _).symm.trans H; rw [hy123]; with_reducible exact H2_) | (have H2_ := (Option.bind_some _ _).symm.trans H; with_reducible exact H2_) | with_reducible exact H | (rw [hy123]; exact H) | exact H
                      have Ny123 := Aside0.mk hy123
                      clear hy123
                      have H' := Aside0.mk H
                      clear H
                      try go_wp2
                      have n0_ := Aside0.mk (Kd.V_drew HO_1.out)
                      have n1_ := Aside0.mk (Kd.N_drew HO_7.out)
                      have n2_ := Aside0.mk (below_drew1 HB.out)
                      clear HO_1
                      clear HO_7
                      clear HB
                      have HO_1 := n0_
                      have HO_7 := n1_
                      have HB := n2_
                      clear n0_ n1_ n2_
                      have p113 : 0 ≤ (x8_2 : Int) := of_decide_eq_true (by first | (with_reducible assumption) | assumption)
                      have q113 : x8_2 < (l0.length : Int) := of_decide_eq_true (by first | (with_reducible assumption) | assumption)
                      obtain ⟨ad113, e113, hx113_0⟩ := Kd.at_int HR0.out x8_2 p113 q113
                      have hw113_0 := hx113_0
                      cases e113
                      replace hx113_0 := (HB.out.cell (World.block_lt_of_cell? w _ hx113_0)).trans hx113_0
                      replace p113 := eq_true p113
                      replace q113 := eq_true q113
                      refine start_ (n := 10) (S := fun w' => w'.cell? (ad113.add (x8_2).toNat) = some (.int .i64 (rd l0 x8_2))) (ds := []) #[false, false, false, false, false, false, false, false, false, false] (by kernel_rfl) rfl rfl (((HB.out.cell (World.block_lt_of_cell? w _ hw113_0)).trans hw113_0)) (fun hHeld => ?_); refine with_tabW paronymref19_All.tab9 paronymref19_All.bits9 (fun HT_ HW_ => ?_)
                      generalize wr.drew = w18 at HO_1 HO_7 HB hx113_0 hHeld ⊢
                      refine pure_ (i := 1) (N := some 29) (v := ?_) (a' := ?_) #[false, true, false, false, false, false, false, false, false, false] rfl rfl (any_of HT_.out (by kernel_rfl)) (fun _ _ _ h => h) (Or.inl ⟨by rfl, ?_⟩) ?_ ?_
                      rotate_left
                      · intro w'
                        go_simp
                        with_reducible rfl
                      rotate_left
                      · simp only [Act.put, List.setIfInBounds_toArray, List.set_cons_zero, List.set_cons_succ, i64_w, i32_w]
                        rfl
                      refine pure_ (i := 3) (N := some 31) (v := ?_) (a' := ?_) #[false, true, false, true, false, false, false, false, false, false] rfl rfl (any_of HT_.out (by kernel_rfl)) (fun _ _ _ h => h) (Or.inl ⟨by rfl, ?_⟩) ?_ ?_
                      rotate_left
                      · intro w'
                        go_simp
                        with_reducible rfl
                      rotate_left
                      · simp only [Act.put, List.setIfInBounds_toArray, List.set_cons_zero, List.set_cons_succ, i64_w, i32_w]
                        rfl
                      refine pure_ (i := 4) (N := some 32) (v := ?_) (a' := ?_) #[false, true, false, true, true, false, false, false, false, false] rfl rfl (any_of HT_.out (by kernel_rfl)) (fun _ _ _ h => h) (Or.inl ⟨by rfl, ?_⟩) ?_ ?_
                      rotate_left
                      · intro w'
                        go_simp
                        with_reducible rfl
                      rotate_left
                      · simp only [Act.put, List.setIfInBounds_toArray, List.set_cons_zero, List.set_cons_succ, i64_w, i32_w]
                        rfl
                      refine pure_ (i := 5) (N := some 33) (v := ?_) (a' := ?_) #[false, true, false, true, true, true, false, false, false, false] rfl rfl (any_of HT_.out (by kernel_rfl)) (fun _ _ _ h => h) (Or.inl ⟨by rfl, ?_⟩) ?_ ?_
                      rotate_left
                      · intro w'
                        go_simp
                        with_reducible rfl
                      rotate_left
                      · simp only [Act.put, List.setIfInBounds_toArray, List.set_cons_zero, List.set_cons_succ, i64_w, i32_w]
                        rfl
                      refine take_ (i := 6) (N := some 34) (v := ?_) (a' := ?_) #[false, true, false, true, true, true, true, false, false, false] rfl rfl (take_ofW HT_.out HW_.out (by kernel_rfl)) (fun _ _ _ h => h) (Or.inl ⟨by rfl, ?_⟩) hHeld ?_ ?_
                      rotate_left
                      · intro w' s0
                        go_simp
                        with_reducible rfl
                      rotate_left
                      · simp only [Act.put, List.setIfInBounds_toArray, List.set_cons_zero, List.set_cons_succ, i64_w, i32_w]
                        rfl
                      refine join_ (σ := Value × Value × Value) 2 #[true, true, true, true, true, true, true, true, false, false] (fun s_ => [(28, s_.1), (30, s_.2.1), (35, s_.2.2)]) (fun s_ w' => (w'.cell? (ad113.add (x8_2).toNat) = some (.int .i64 (rd l0 x8_2))) ∧ (Kd.R (Kd.int .i64) 3 w' w.heap.size (fun k_ => (w.heap.size ≤ k_) ∧ some k_ ≠ (s_.2.2 : Value).ownBlock) s_.2.1 y110) ∧ (Kd.R (Kd.int .i64) 3 w' w.heap.size (fun k_ => (w.heap.size ≤ k_) ∧ some k_ ≠ (s_.2.1 : Value).ownBlock) s_.2.2 y114) ∧ (Kd.V (Kd.int .i64) 3 w' w.heap.size (fun k_ => (P1_ k_ ∨ w.heap.size ≤ k_) ∧ some k_ ≠ (s_.2.1 : Value).ownBlock ∧ some k_ ≠ (s_.2.2 : Value).ownBlock ∧ some k_ ≠ (u7 : Value).ownBlock) (.slice A1 l1.length c1) l1) ∧ (Kd.N (Kd.slice 3 (Kd.int .i64)) 22 w' w.heap.size (fun k_ => (P1_ k_ ∨ w.heap.size ≤ k_) ∧ some k_ ≠ (s_.2.1 : Value).ownBlock ∧ some k_ ≠ (s_.2.2 : Value).ownBlock) u7 x7_2) ∧ (Below w.heap.size w w')) ?_ ?_
                      rotate_left
                      · intro hCont
                        refine two_ (i := 0) (j := 7) (Ni := some 28) (Nj := some 35) #[true, true, false, true, true, true, true, false, false, false] #[false, true, false, true, true, true, true, true, false, false] rfl rfl rfl rfl (two_of HT_.out (by kernel_rfl)) (by decide) (by decide) (fun K hK => ?_) (fun K hK => ?_)
                        · skip
                          refine Kd.R_lit_step (Kd.int .i64) _ 3 ?hg (N := 28) ?hd (xs := ([] : List Int)) (inner := []) (ok := fun _ => True) (okp := fun _ => True) ?hr ?hp (fun _ hk => hk) trivial (Below.refl _ _) (Nat.le_refl _) (by simp) ?_; (case hd => rfl); (case hg => rfl); (case hr => first | (go_simp; done) | (go_simp; rfl)); (case hp => exact (Reps.none _ _))
                          intro v108 w19 ho20 hb hg_ hnew_
                          clear hg_ hnew_
                          (first | rw [← Ny107.out] at ho20 | (simp only [Int.reduceToNat] at ho20; rw [← Ny107.out] at ho20))
                          have n0_ := Aside0.mk (Kd.V_elder' (by (with_reducible repeat (first | apply Kd.V_alloc | apply Kd.V_drewN | apply Kd.V_drew)); exact HO_1.out) (Kd.R_base ho20) hb)
                          have n1_ := Aside0.mk (Kd.N_elder' (by (with_reducible repeat (first | apply Kd.N_alloc | apply Kd.N_drewN | apply Kd.N_drew)); exact HO_7.out) (Kd.R_base ho20) hb)
                          have n2_ := Aside0.mk (Kd.R_lower (Kd.R_newM (M := fun k_ => (w.heap.size ≤ k_)) ho20 (below_size (by repeat (first | (with_reducible first | exact HB.out | apply below_alloc | apply pw_below_drewN | apply below_drew1) | exact HB.out))) (fun k_ h_ => h_)) (below_size (by repeat (first | (with_reducible first | exact HB.out | apply below_alloc | apply pw_below_drewN | apply below_drew1) | exact HB.out))))
                          have n3_ := Aside0.mk (below_step (by repeat (first | (with_reducible first | exact HB.out | apply below_alloc | apply pw_below_drewN | apply below_drew1) | exact HB.out)) hb)
                          clear HO_1
                          clear HO_7
                          clear HB
                          have HO_1 := n0_
                          have HO_7 := n1_
                          have HO109 := n2_
                          have HB := n3_
                          clear n0_ n1_ n2_ n3_
                          clear hb ho20
                          refine hK.out _ _ (((HB.out.cell (World.block_lt_of_cell? w _ hw113_0)).trans hw113_0)) (fun hHeld => ?_)
                          clear hK K
                          refine norm_ (a' := ?_) ?_ ?_
                          rotate_left
                          · show Act.put _ (some 28) _ = _
                            simp only [Act.put, List.setIfInBounds_toArray, List.set_cons_zero, List.set_cons_succ, i64_w, i32_w]
                            rfl
                          refine two_ (i := 2) (j := 7) (Ni := some 30) (Nj := some 35) #[true, true, true, true, true, true, true, false, false, false] #[true, true, false, true, true, true, true, true, false, false] rfl rfl rfl rfl (two_of HT_.out (by kernel_rfl)) (by decide) (by decide) (fun K hK => ?_) (fun K hK => ?_)
                          · skip
                            refine Kd.R_append_rows_step (Kd.int .i64) (w0 := w) w.heap.size (by rfl) (.tmp 28) (.tmp 29) 22 3 (.int .i64 0) 8 rfl Try.underlying22 info3 rfl (by decide) (by omega) v108 y107 l1 _ _ _ (fun k_ => (w.heap.size ≤ k_)) (fun _ => False) rfl rfl ?aO ?aR (fun _ _ h => h) (fun _ h => h.elim) ?aF ?aB ?aS ?aL ?_
                            (case aR => repeat (first | exact (Kd.V_reads' HO_1.out).2.2 | (with_reducible refine Kd.C_alloc ?_ _) | (with_reducible refine Kd.C_drewN ?_ _) | (with_reducible refine Kd.C_drew ?_)))
                            (case aB => exact (by repeat (first | (with_reducible first | exact HB.out | apply below_alloc | apply pw_below_drewN | apply below_drew1) | exact HB.out)))
                            (case aF => exact (fun k_ hk => (Nat.le_trans (below_size (by repeat (first | (with_reducible first | exact HB.out | apply below_alloc | apply pw_below_drewN | apply below_drew1) | exact HB.out))) hk)))
                            (case aO => exact (by (with_reducible repeat (first | apply Kd.R_alloc | apply Kd.R_drewN | apply Kd.R_drew)); exact Kd.R_mono HO109.out (fun _ hk => hk.1)))
                            (case aS => exact (below_size (by repeat (first | (with_reducible first | exact HB.out | apply below_alloc | apply pw_below_drewN | apply below_drew1) | exact HB.out))))
                            (case aL => have := LMc13.out; omega)
                            intro v111 w21 ho hb hg hat
                            rw [← Ny110.out] at ho
                            have n0_ := Aside0.mk (Kd.V_afterv (ok := (fun k_ => (P1_ k_ ∨ w.heap.size ≤ k_) ∧ some k_ ≠ (u7 : Value).ownBlock)) (by (with_reducible repeat (first | apply Kd.V_alloc | apply Kd.V_drewN | apply Kd.V_drew)); exact HO_1.out) hg hat)
                            have n1_ := Aside0.mk (Kd.N_afterv (ok := (fun k_ => (P1_ k_ ∨ w.heap.size ≤ k_))) (by (with_reducible repeat (first | apply Kd.N_alloc | apply Kd.N_drewN | apply Kd.N_drew)); exact HO_7.out) hg hat)
                            have n2_ := Aside0.mk (hb)
                            have n3_ := Aside0.mk (ho)
                            clear HO_1
                            clear HO_7
                            clear HB
                            clear HO109
                            have HO_1 := n0_
                            have HO_7 := n1_
                            have HB := n2_
                            have HO112 := n3_
                            clear n0_ n1_ n2_ n3_
                            clear ho hb hg hat
                            refine hK.out _ _ (((HB.out.cell (World.block_lt_of_cell? w _ hw113_0)).trans hw113_0)) (fun hHeld => ?_)
                            clear hK K
                            refine norm_ (a' := ?_) ?_ ?_
                            rotate_left
                            · show Act.put _ (some 30) _ = _
                              simp only [Act.put, List.setIfInBounds_toArray, List.set_cons_zero, List.set_cons_succ, i64_w, i32_w]
                              rfl
                            refine one_ (i := 7) (N := some 35) #[true, true, true, true, true, true, true, true, false, false] rfl rfl (one_of HT_.out (by kernel_rfl)) (by decide) (fun K hK => ?_)
                            refine Kd.R_lit_step (Kd.int .i64) _ 3 ?hg (N := 35) ?hd (xs := ([rd l0 x8_2] : List Int)) (inner := [.int .i64 (rd l0 x8_2)]) (ok := fun _ => True) (okp := fun _ => True) ?hr ?hp (fun _ hk => hk) trivial (Below.refl _ _) (Nat.le_refl _) (by simp) ?_; (case hd => rfl); (case hg => rfl); (case hr => first | (go_simp; done) | (go_simp; rfl)); (case hp => exact (Reps.one (show Kd.M (Kd.int .i64) _ _ _ (rd l0 x8_2) [.int .i64 (rd l0 x8_2)] from rfl) (Reps.none _ _)))
                            intro v115 w22 ho23 hb hg_ hnew_
                            clear hg_ hnew_
                            (first | rw [← Ny114.out] at ho23 | (simp only [Int.reduceToNat] at ho23; rw [← Ny114.out] at ho23))
                            have n0_ := Aside0.mk (Kd.V_elder' (by (with_reducible repeat (first | apply Kd.V_alloc | apply Kd.V_drewN | apply Kd.V_drew)); exact HO_1.out) (Kd.R_base ho23) hb)
                            have n1_ := Aside0.mk (Kd.N_elder' (by (with_reducible repeat (first | apply Kd.N_alloc | apply Kd.N_drewN | apply Kd.N_drew)); exact HO_7.out) (Kd.R_base ho23) hb)
                            have n2_ := Aside0.mk (Kd.R_elder' (by (with_reducible repeat (first | apply Kd.R_alloc | apply Kd.R_drewN | apply Kd.R_drew)); exact HO112.out) (Kd.R_base ho23) hb)
                            have n3_ := Aside0.mk (Kd.R_lower (Kd.R_new' (Kd.R_newM (M := fun k_ => (w.heap.size ≤ k_)) ho23 (below_size (by repeat (first | (with_reducible first | exact HB.out | apply below_alloc | apply pw_below_drewN | apply below_drew1) | exact HB.out))) (fun k_ h_ => h_)) (Kd.R_lt (by (with_reducible repeat (first | apply Kd.R_alloc | apply Kd.R_drewN | apply Kd.R_drew)); exact HO112.out))) (below_size (by repeat (first | (with_reducible first | exact HB.out | apply below_alloc | apply pw_below_drewN | apply below_drew1) | exact HB.out))))
                            have n4_ := Aside0.mk (below_step (by repeat (first | (with_reducible first | exact HB.out | apply below_alloc | apply pw_below_drewN | apply below_drew1) | exact HB.out)) hb)
                            clear HO_1
                            clear HO_7
                            clear HO112
                            clear HB
                            have HO_1 := n0_
                            have HO_7 := n1_
                            have HO112 := n2_
                            have HO116 := n3_
                            have HB := n4_
                            clear n0_ n1_ n2_ n3_ n4_
                            clear hb ho23
                            refine hK.out _ _ (((HB.out.cell (World.block_lt_of_cell? w _ hw113_0)).trans hw113_0)) (fun hHeld => ?_)
                            clear hK K
                            refine norm_ (a' := ?_) ?_ ?_
                            rotate_left
                            · show Act.put _ (some 35) _ = _
                              simp only [Act.put, List.setIfInBounds_toArray, List.set_cons_zero, List.set_cons_succ, i64_w, i32_w]
                              rfl
                            exact norm_ (by simp only [putAll, Act.put, List.setIfInBounds_toArray, List.set_cons_zero, List.set_cons_succ]) (hCont (v108, v111, v115) _ ⟨hHeld, (by (with_reducible repeat (first | apply Kd.R_alloc | apply Kd.R_drewN | apply Kd.R_drew)); exact HO112.out), (by (with_reducible repeat (first | apply Kd.R_alloc | apply Kd.R_drewN | apply Kd.R_drew)); exact Kd.R_mono HO116.out (fun _ hk => ⟨hk.1.1, hk.2⟩)), (by (with_reducible repeat (first | apply Kd.V_alloc | apply Kd.V_drewN | apply Kd.V_drew)); exact Kd.V_mono HO_1.out (fun _ hk => ⟨hk.1.1.1, ⟨hk.1.2, ⟨hk.2, hk.1.1.2⟩⟩⟩)), (by (with_reducible repeat (first | apply Kd.N_alloc | apply Kd.N_drewN | apply Kd.N_drew)); exact Kd.N_mono HO_7.out (fun _ hk => ⟨hk.1.1, ⟨hk.1.2, hk.2⟩⟩)), (by repeat (first | (with_reducible first | exact HB.out | apply below_alloc | apply pw_below_drewN | apply below_drew1) | exact HB.out))⟩)
                          · skip
                            refine Kd.R_lit_step (Kd.int .i64) _ 3 ?hg (N := 35) ?hd (xs := ([rd l0 x8_2] : List Int)) (inner := [.int .i64 (rd l0 x8_2)]) (ok := fun _ => True) (okp := fun _ => True) ?hr ?hp (fun _ hk => hk) trivial (Below.refl _ _) (Nat.le_refl _) (by simp) ?_; (case hd => rfl); (case hg => rfl); (case hr => first | (go_simp; done) | (go_simp; rfl)); (case hp => exact (Reps.one (show Kd.M (Kd.int .i64) _ _ _ (rd l0 x8_2) [.int .i64 (rd l0 x8_2)] from rfl) (Reps.none _ _)))
                            intro v115 w21 ho22 hb hg_ hnew_
                            clear hg_ hnew_
                            (first | rw [← Ny114.out] at ho22 | (simp only [Int.reduceToNat] at ho22; rw [← Ny114.out] at ho22))
                            have n0_ := Aside0.mk (Kd.V_elder' (by (with_reducible repeat (first | apply Kd.V_alloc | apply Kd.V_drewN | apply Kd.V_drew)); exact HO_1.out) (Kd.R_base ho22) hb)
                            have n1_ := Aside0.mk (Kd.N_elder' (by (with_reducible repeat (first | apply Kd.N_alloc | apply Kd.N_drewN | apply Kd.N_drew)); exact HO_7.out) (Kd.R_base ho22) hb)
                            have n2_ := Aside0.mk (Kd.R_elder' (by (with_reducible repeat (first | apply Kd.R_alloc | apply Kd.R_drewN | apply Kd.R_drew)); exact HO109.out) (Kd.R_base ho22) hb)
                            have n3_ := Aside0.mk (Kd.R_lower (Kd.R_new' (Kd.R_newM (M := fun k_ => (w.heap.size ≤ k_)) ho22 (below_size (by repeat (first | (with_reducible first | exact HB.out | apply below_alloc | apply pw_below_drewN | apply below_drew1) | exact HB.out))) (fun k_ h_ => h_)) (Kd.R_lt (by (with_reducible repeat (first | apply Kd.R_alloc | apply Kd.R_drewN | apply Kd.R_drew)); exact HO109.out))) (below_size (by repeat (first | (with_reducible first | exact HB.out | apply below_alloc | apply pw_below_drewN | apply below_drew1) | exact HB.out))))
                            have n4_ := Aside0.mk (below_step (by repeat (first | (with_reducible first | exact HB.out | apply below_alloc | apply pw_below_drewN | apply below_drew1) | exact HB.out)) hb)
                            clear HO_1
                            clear HO_7
                            clear HO109
                            clear HB
                            have HO_1 := n0_
                            have HO_7 := n1_
                            have HO109 := n2_
                            have HO116 := n3_
                            have HB := n4_
                            clear n0_ n1_ n2_ n3_ n4_
                            clear hb ho22
                            refine hK.out _ _ (((HB.out.cell (World.block_lt_of_cell? w _ hw113_0)).trans hw113_0)) (fun hHeld => ?_)
                            clear hK K
                            refine norm_ (a' := ?_) ?_ ?_
                            rotate_left
                            · show Act.put _ (some 35) _ = _
                              simp only [Act.put, List.setIfInBounds_toArray, List.set_cons_zero, List.set_cons_succ, i64_w, i32_w]
                              rfl
                            refine one_ (i := 2) (N := some 30) #[true, true, true, true, true, true, true, true, false, false] rfl rfl (one_of HT_.out (by kernel_rfl)) (by decide) (fun K hK => ?_)
                            refine Kd.R_append_rows_step (Kd.int .i64) (w0 := w) w.heap.size (by rfl) (.tmp 28) (.tmp 29) 22 3 (.int .i64 0) 8 rfl Try.underlying22 info3 rfl (by decide) (by omega) v108 y107 l1 _ _ _ (fun k_ => (w.heap.size ≤ k_) ∧ some k_ ≠ (v115 : Value).ownBlock) (fun _ => False) rfl rfl ?aO ?aR (fun _ _ h => h) (fun _ h => h.elim) ?aF ?aB ?aS ?aL ?_
                            (case aR => repeat (first | exact (Kd.V_reads' HO_1.out).2.2 | (with_reducible refine Kd.C_alloc ?_ _) | (with_reducible refine Kd.C_drewN ?_ _) | (with_reducible refine Kd.C_drew ?_)))
                            (case aB => exact (by repeat (first | (with_reducible first | exact HB.out | apply below_alloc | apply pw_below_drewN | apply below_drew1) | exact HB.out)))
                            (case aF => exact (fun k_ hk => ⟨(Nat.le_trans (below_size (by repeat (first | (with_reducible first | exact HB.out | apply below_alloc | apply pw_below_drewN | apply below_drew1) | exact HB.out))) hk), Kd.fresh' (Kd.R_lt (by (with_reducible repeat (first | apply Kd.R_alloc | apply Kd.R_drewN | apply Kd.R_drew)); exact HO116.out)) k_ hk⟩))
                            (case aO => exact (by (with_reducible repeat (first | apply Kd.R_alloc | apply Kd.R_drewN | apply Kd.R_drew)); exact Kd.R_mono HO109.out (fun _ hk => ⟨hk.1.1, hk.2⟩)))
                            (case aS => exact (below_size (by repeat (first | (with_reducible first | exact HB.out | apply below_alloc | apply pw_below_drewN | apply below_drew1) | exact HB.out))))
                            (case aL => have := LMc13.out; omega)
                            intro v111 w23 ho hb hg hat
                            rw [← Ny110.out] at ho
                            have n0_ := Aside0.mk (Kd.V_afterv (ok := (fun k_ => (P1_ k_ ∨ w.heap.size ≤ k_) ∧ some k_ ≠ (u7 : Value).ownBlock ∧ some k_ ≠ (v115 : Value).ownBlock)) (by (with_reducible repeat (first | apply Kd.V_alloc | apply Kd.V_drewN | apply Kd.V_drew)); exact Kd.V_mono HO_1.out (fun _ hk => ⟨⟨hk.1.1.1, ⟨hk.1.1.2, hk.2⟩⟩, hk.1.2⟩)) hg hat)
                            have n1_ := Aside0.mk (Kd.N_afterv (ok := (fun k_ => (P1_ k_ ∨ w.heap.size ≤ k_) ∧ some k_ ≠ (v115 : Value).ownBlock)) (by (with_reducible repeat (first | apply Kd.N_alloc | apply Kd.N_drewN | apply Kd.N_drew)); exact Kd.N_mono HO_7.out (fun _ hk => ⟨⟨hk.1.1, hk.2⟩, hk.1.2⟩)) hg hat)
                            have n2_ := Aside0.mk (Kd.R_after (ok := (fun k_ => (w.heap.size ≤ k_))) (by (with_reducible repeat (first | apply Kd.R_alloc | apply Kd.R_drewN | apply Kd.R_drew)); exact Kd.R_mono HO116.out (fun _ hk => ⟨hk.1.1, hk.2⟩)) hg hat)
                            have n3_ := Aside0.mk (hb)
                            have n4_ := Aside0.mk (ho)
                            clear HO_1
                            clear HO_7
                            clear HO116
                            clear HB
                            clear HO109
                            have HO_1 := n0_
                            have HO_7 := n1_
                            have HO116 := n2_
                            have HB := n3_
                            have HO112 := n4_
                            clear n0_ n1_ n2_ n3_ n4_
                            clear ho hb hg hat
                            refine hK.out _ _ (((HB.out.cell (World.block_lt_of_cell? w _ hw113_0)).trans hw113_0)) (fun hHeld => ?_)
                            clear hK K
                            refine norm_ (a' := ?_) ?_ ?_
                            rotate_left
                            · show Act.put _ (some 30) _ = _
                              simp only [Act.put, List.setIfInBounds_toArray, List.set_cons_zero, List.set_cons_succ, i64_w, i32_w]
                              rfl
                            exact norm_ (by simp only [putAll, Act.put, List.setIfInBounds_toArray, List.set_cons_zero, List.set_cons_succ]) (hCont (v108, v111, v115) _ ⟨hHeld, (by (with_reducible repeat (first | apply Kd.R_alloc | apply Kd.R_drewN | apply Kd.R_drew)); exact HO112.out), (by (with_reducible repeat (first | apply Kd.R_alloc | apply Kd.R_drewN | apply Kd.R_drew)); exact HO116.out), (by (with_reducible repeat (first | apply Kd.V_alloc | apply Kd.V_drewN | apply Kd.V_drew)); exact Kd.V_mono HO_1.out (fun _ hk => ⟨hk.1.1, ⟨hk.2, ⟨hk.1.2.2, hk.1.2.1⟩⟩⟩)), (by (with_reducible repeat (first | apply Kd.N_alloc | apply Kd.N_drewN | apply Kd.N_drew)); exact Kd.N_mono HO_7.out (fun _ hk => ⟨hk.1.1, ⟨hk.2, hk.1.2⟩⟩)), (by repeat (first | (with_reducible first | exact HB.out | apply below_alloc | apply pw_below_drewN | apply below_drew1) | exact HB.out))⟩)
                        · skip
                          refine Kd.R_lit_step (Kd.int .i64) _ 3 ?hg (N := 35) ?hd (xs := ([rd l0 x8_2] : List Int)) (inner := [.int .i64 (rd l0 x8_2)]) (ok := fun _ => True) (okp := fun _ => True) ?hr ?hp (fun _ hk => hk) trivial (Below.refl _ _) (Nat.le_refl _) (by simp) ?_; (case hd => rfl); (case hg => rfl); (case hr => first | (go_simp; done) | (go_simp; rfl)); (case hp => exact (Reps.one (show Kd.M (Kd.int .i64) _ _ _ (rd l0 x8_2) [.int .i64 (rd l0 x8_2)] from rfl) (Reps.none _ _)))
                          intro v115 w19 ho20 hb hg_ hnew_
                          clear hg_ hnew_
                          (first | rw [← Ny114.out] at ho20 | (simp only [Int.reduceToNat] at ho20; rw [← Ny114.out] at ho20))
                          have n0_ := Aside0.mk (Kd.V_elder' (by (with_reducible repeat (first | apply Kd.V_alloc | apply Kd.V_drewN | apply Kd.V_drew)); exact HO_1.out) (Kd.R_base ho20) hb)
                          have n1_ := Aside0.mk (Kd.N_elder' (by (with_reducible repeat (first | apply Kd.N_alloc | apply Kd.N_drewN | apply Kd.N_drew)); exact HO_7.out) (Kd.R_base ho20) hb)
                          have n2_ := Aside0.mk (Kd.R_lower (Kd.R_newM (M := fun k_ => (w.heap.size ≤ k_)) ho20 (below_size (by repeat (first | (with_reducible first | exact HB.out | apply below_alloc | apply pw_below_drewN | apply below_drew1) | exact HB.out))) (fun k_ h_ => h_)) (below_size (by repeat (first | (with_reducible first | exact HB.out | apply below_alloc | apply pw_below_drewN | apply below_drew1) | exact HB.out))))
                          have n3_ := Aside0.mk (below_step (by repeat (first | (with_reducible first | exact HB.out | apply below_alloc | apply pw_below_drewN | apply below_drew1) | exact HB.out)) hb)
                          clear HO_1
                          clear HO_7
                          clear HB
                          have HO_1 := n0_
                          have HO_7 := n1_
                          have HO116 := n2_
                          have HB := n3_
                          clear n0_ n1_ n2_ n3_
                          clear hb ho20
                          refine hK.out _ _ (((HB.out.cell (World.block_lt_of_cell? w _ hw113_0)).trans hw113_0)) (fun hHeld => ?_)
                          clear hK K
                          refine norm_ (a' := ?_) ?_ ?_
                          rotate_left
                          · show Act.put _ (some 35) _ = _
                            simp only [Act.put, List.setIfInBounds_toArray, List.set_cons_zero, List.set_cons_succ, i64_w, i32_w]
                            rfl
                          refine one_ (i := 0) (N := some 28) #[true, true, false, true, true, true, true, true, false, false] rfl rfl (one_of HT_.out (by kernel_rfl)) (by decide) (fun K hK => ?_)
                          refine Kd.R_lit_step (Kd.int .i64) _ 3 ?hg (N := 28) ?hd (xs := ([] : List Int)) (inner := []) (ok := fun _ => True) (okp := fun _ => True) ?hr ?hp (fun _ hk => hk) trivial (Below.refl _ _) (Nat.le_refl _) (by simp) ?_; (case hd => rfl); (case hg => rfl); (case hr => first | (go_simp; done) | (go_simp; rfl)); (case hp => exact (Reps.none _ _))
                          intro v108 w21 ho22 hb hg_ hnew_
                          clear hg_ hnew_
                          (first | rw [← Ny107.out] at ho22 | (simp only [Int.reduceToNat] at ho22; rw [← Ny107.out] at ho22))
                          have n0_ := Aside0.mk (Kd.V_elder' (by (with_reducible repeat (first | apply Kd.V_alloc | apply Kd.V_drewN | apply Kd.V_drew)); exact HO_1.out) (Kd.R_base ho22) hb)
                          have n1_ := Aside0.mk (Kd.N_elder' (by (with_reducible repeat (first | apply Kd.N_alloc | apply Kd.N_drewN | apply Kd.N_drew)); exact HO_7.out) (Kd.R_base ho22) hb)
                          have n2_ := Aside0.mk (Kd.R_elder' (by (with_reducible repeat (first | apply Kd.R_alloc | apply Kd.R_drewN | apply Kd.R_drew)); exact HO116.out) (Kd.R_base ho22) hb)
                          have n3_ := Aside0.mk (Kd.R_lower (Kd.R_new' (Kd.R_newM (M := fun k_ => (w.heap.size ≤ k_)) ho22 (below_size (by repeat (first | (with_reducible first | exact HB.out | apply below_alloc | apply pw_below_drewN | apply below_drew1) | exact HB.out))) (fun k_ h_ => h_)) (Kd.R_lt (by (with_reducible repeat (first | apply Kd.R_alloc | apply Kd.R_drewN | apply Kd.R_drew)); exact HO116.out))) (below_size (by repeat (first | (with_reducible first | exact HB.out | apply below_alloc | apply pw_below_drewN | apply below_drew1) | exact HB.out))))
                          have n4_ := Aside0.mk (below_step (by repeat (first | (with_reducible first | exact HB.out | apply below_alloc | apply pw_below_drewN | apply below_drew1) | exact HB.out)) hb)
                          clear HO_1
                          clear HO_7
                          clear HO116
                          clear HB
                          have HO_1 := n0_
                          have HO_7 := n1_
                          have HO116 := n2_
                          have HO109 := n3_
                          have HB := n4_
                          clear n0_ n1_ n2_ n3_ n4_
                          clear hb ho22
                          refine hK.out _ _ (((HB.out.cell (World.block_lt_of_cell? w _ hw113_0)).trans hw113_0)) (fun hHeld => ?_)
                          clear hK K
                          refine norm_ (a' := ?_) ?_ ?_
                          rotate_left
                          · show Act.put _ (some 28) _ = _
                            simp only [Act.put, List.setIfInBounds_toArray, List.set_cons_zero, List.set_cons_succ, i64_w, i32_w]
                            rfl
                          refine one_ (i := 2) (N := some 30) #[true, true, true, true, true, true, true, true, false, false] rfl rfl (one_of HT_.out (by kernel_rfl)) (by decide) (fun K hK => ?_)
                          refine Kd.R_append_rows_step (Kd.int .i64) (w0 := w) w.heap.size (by rfl) (.tmp 28) (.tmp 29) 22 3 (.int .i64 0) 8 rfl Try.underlying22 info3 rfl (by decide) (by omega) v108 y107 l1 _ _ _ (fun k_ => (w.heap.size ≤ k_) ∧ some k_ ≠ (v115 : Value).ownBlock) (fun _ => False) rfl rfl ?aO ?aR (fun _ _ h => h) (fun _ h => h.elim) ?aF ?aB ?aS ?aL ?_
                          (case aR => repeat (first | exact (Kd.V_reads' HO_1.out).2.2 | (with_reducible refine Kd.C_alloc ?_ _) | (with_reducible refine Kd.C_drewN ?_ _) | (with_reducible refine Kd.C_drew ?_)))
                          (case aB => exact (by repeat (first | (with_reducible first | exact HB.out | apply below_alloc | apply pw_below_drewN | apply below_drew1) | exact HB.out)))
                          (case aF => exact (fun k_ hk => ⟨(Nat.le_trans (below_size (by repeat (first | (with_reducible first | exact HB.out | apply below_alloc | apply pw_below_drewN | apply below_drew1) | exact HB.out))) hk), Kd.fresh' (Kd.R_lt (by (with_reducible repeat (first | apply Kd.R_alloc | apply Kd.R_drewN | apply Kd.R_drew)); exact HO116.out)) k_ hk⟩))
                          (case aO => exact (by (with_reducible repeat (first | apply Kd.R_alloc | apply Kd.R_drewN | apply Kd.R_drew)); exact Kd.R_mono HO109.out (fun _ hk => ⟨hk.1.1, hk.2⟩)))
                          (case aS => exact (below_size (by repeat (first | (with_reducible first | exact HB.out | apply below_alloc | apply pw_below_drewN | apply below_drew1) | exact HB.out))))
                          (case aL => have := LMc13.out; omega)
                          intro v111 w23 ho hb hg hat
                          rw [← Ny110.out] at ho
                          have n0_ := Aside0.mk (Kd.V_afterv (ok := (fun k_ => (P1_ k_ ∨ w.heap.size ≤ k_) ∧ some k_ ≠ (u7 : Value).ownBlock ∧ some k_ ≠ (v115 : Value).ownBlock)) (by (with_reducible repeat (first | apply Kd.V_alloc | apply Kd.V_drewN | apply Kd.V_drew)); exact Kd.V_mono HO_1.out (fun _ hk => ⟨⟨hk.1.1.1, ⟨hk.1.1.2, hk.1.2⟩⟩, hk.2⟩)) hg hat)
                          have n1_ := Aside0.mk (Kd.N_afterv (ok := (fun k_ => (P1_ k_ ∨ w.heap.size ≤ k_) ∧ some k_ ≠ (v115 : Value).ownBlock)) (by (with_reducible repeat (first | apply Kd.N_alloc | apply Kd.N_drewN | apply Kd.N_drew)); exact HO_7.out) hg hat)
                          have n2_ := Aside0.mk (Kd.R_after (ok := (fun k_ => (w.heap.size ≤ k_))) (by (with_reducible repeat (first | apply Kd.R_alloc | apply Kd.R_drewN | apply Kd.R_drew)); exact Kd.R_mono HO116.out (fun _ hk => ⟨hk.1.1, hk.2⟩)) hg hat)
                          have n3_ := Aside0.mk (hb)
                          have n4_ := Aside0.mk (ho)
                          clear HO_1
                          clear HO_7
                          clear HO116
                          clear HB
                          clear HO109
                          have HO_1 := n0_
                          have HO_7 := n1_
                          have HO116 := n2_
                          have HB := n3_
                          have HO112 := n4_
                          clear n0_ n1_ n2_ n3_ n4_
                          clear ho hb hg hat
                          refine hK.out _ _ (((HB.out.cell (World.block_lt_of_cell? w _ hw113_0)).trans hw113_0)) (fun hHeld => ?_)
                          clear hK K
                          refine norm_ (a' := ?_) ?_ ?_
                          rotate_left
                          · show Act.put _ (some 30) _ = _
                            simp only [Act.put, List.setIfInBounds_toArray, List.set_cons_zero, List.set_cons_succ, i64_w, i32_w]
                            rfl
                          exact norm_ (by simp only [putAll, Act.put, List.setIfInBounds_toArray, List.set_cons_zero, List.set_cons_succ]) (hCont (v108, v111, v115) _ ⟨hHeld, (by (with_reducible repeat (first | apply Kd.R_alloc | apply Kd.R_drewN | apply Kd.R_drew)); exact HO112.out), (by (with_reducible repeat (first | apply Kd.R_alloc | apply Kd.R_drewN | apply Kd.R_drew)); exact HO116.out), (by (with_reducible repeat (first | apply Kd.V_alloc | apply Kd.V_drewN | apply Kd.V_drew)); exact Kd.V_mono HO_1.out (fun _ hk => ⟨hk.1.1, ⟨hk.2, ⟨hk.1.2.2, hk.1.2.1⟩⟩⟩)), (by (with_reducible repeat (first | apply Kd.N_alloc | apply Kd.N_drewN | apply Kd.N_drew)); exact Kd.N_mono HO_7.out (fun _ hk => ⟨hk.1.1, ⟨hk.2, hk.1.2⟩⟩)), (by repeat (first | (with_reducible first | exact HB.out | apply below_alloc | apply pw_below_drewN | apply below_drew1) | exact HB.out))⟩)
                      rintro ⟨v108, v111, v115⟩ w24 ⟨hS_, h0_, h1_, h2_, h3_, h4_⟩
                      have n0_ : Aside0 (Kd.R (Kd.int .i64) 3 w24 w.heap.size (fun k_ => (w.heap.size ≤ k_) ∧ some k_ ≠ (v115 : Value).ownBlock) v111 y110) := ⟨h0_⟩
                      have n1_ : Aside0 (Kd.R (Kd.int .i64) 3 w24 w.heap.size (fun k_ => (w.heap.size ≤ k_) ∧ some k_ ≠ (v111 : Value).ownBlock) v115 y114) := ⟨h1_⟩
                      have n2_ : Aside0 (Kd.V (Kd.int .i64) 3 w24 w.heap.size (fun k_ => (P1_ k_ ∨ w.heap.size ≤ k_) ∧ some k_ ≠ (v111 : Value).ownBlock ∧ some k_ ≠ (v115 : Value).ownBlock ∧ some k_ ≠ (u7 : Value).ownBlock) (.slice A1 l1.length c1) l1) := ⟨h2_⟩
                      have n3_ : Aside0 (Kd.N (Kd.slice 3 (Kd.int .i64)) 22 w24 w.heap.size (fun k_ => (P1_ k_ ∨ w.heap.size ≤ k_) ∧ some k_ ≠ (v111 : Value).ownBlock ∧ some k_ ≠ (v115 : Value).ownBlock) u7 x7_2) := ⟨h3_⟩
                      have n4_ : Aside0 (Below w.heap.size w w24) := ⟨h4_⟩
                      clear HO_1
                      clear HO_7
                      clear HB
                      clear h0_ h1_ h2_ h3_ h4_
                      have HO112 := n0_
                      have HO116 := n1_
                      have HO_1 := n2_
                      have HO_7 := n3_
                      have HB := n4_
                      clear n0_ n1_ n2_ n3_ n4_
                      have hHeld : w24.cell? (ad113.add (x8_2).toNat) = some (.int .i64 (rd l0 x8_2)) := hS_
                      obtain ⟨Ao26, co26, eo26⟩ := Kd.R_slice HO116.out
                      (first | subst eo26 | (injection eo26 with f1_ f2_ f3_; have f4_ := f1_.symm; have f5_ := f3_.symm; clear f1_ f2_ f3_; subst f4_; subst f5_))
                      refine norm_ (a' := ?_) ?_ ?_
                      rotate_left
                      · simp only [putAll, Act.put, List.setIfInBounds_toArray, List.set_cons_zero, List.set_cons_succ]
                        rfl
                      refine one_ (i := 8) (N := some 36) #[true, true, true, true, true, true, true, true, true, false] rfl rfl (one_of HT_.out (by kernel_rfl)) (by decide) (fun K hK => ?_)
                      refine Kd.R_append_rows_step (Kd.int .i64) (w0 := w) w.heap.size (by rfl) (.tmp 30) (.tmp 35) 22 3 (.int .i64 0) 8 rfl Try.underlying22 info3 rfl (by decide) (by omega) v111 y110 y114 _ _ _ (fun k_ => (w.heap.size ≤ k_) ∧ some k_ ≠ (.slice Ao26 y114.length co26 : Value).ownBlock) (fun _ => False) rfl rfl ?aO ?aR (fun _ _ h => h) (fun _ h => h.elim) ?aF ?aB ?aS ?aL ?_
                      (case aR => repeat (first | exact (Kd.R_reads' HO116.out).2.2 | (with_reducible refine Kd.C_alloc ?_ _) | (with_reducible refine Kd.C_drewN ?_ _) | (with_reducible refine Kd.C_drew ?_)))
                      (case aB => exact (by repeat (first | (with_reducible first | exact HB.out | apply below_alloc | apply pw_below_drewN | apply below_drew1) | exact HB.out)))
                      (case aF => exact (fun k_ hk => ⟨(Nat.le_trans (below_size (by repeat (first | (with_reducible first | exact HB.out | apply below_alloc | apply pw_below_drewN | apply below_drew1) | exact HB.out))) hk), Kd.fresh' (Kd.R_lt (by (with_reducible repeat (first | apply Kd.R_alloc | apply Kd.R_drewN | apply Kd.R_drew)); exact HO116.out)) k_ hk⟩))
                      (case aO => exact (by (with_reducible repeat (first | apply Kd.R_alloc | apply Kd.R_drewN | apply Kd.R_drew)); exact HO112.out))
                      (case aS => exact (below_size (by repeat (first | (with_reducible first | exact HB.out | apply below_alloc | apply pw_below_drewN | apply below_drew1) | exact HB.out))))
                      (case aL => have := LMc15.out; omega)
                      intro v118 w25 ho hb hg hat
                      rw [← Ny117.out] at ho
                      have n0_ := Aside0.mk (Kd.V_afterv (ok := (fun k_ => (P1_ k_ ∨ w.heap.size ≤ k_) ∧ some k_ ≠ (u7 : Value).ownBlock ∧ some k_ ≠ (.slice Ao26 y114.length co26 : Value).ownBlock)) (by (with_reducible repeat (first | apply Kd.V_alloc | apply Kd.V_drewN | apply Kd.V_drew)); exact Kd.V_mono HO_1.out (fun _ hk => ⟨⟨hk.1, ⟨hk.2.2.2, hk.2.2.1⟩⟩, hk.2.1⟩)) hg hat)
                      have n1_ := Aside0.mk (Kd.N_afterv (ok := (fun k_ => (P1_ k_ ∨ w.heap.size ≤ k_) ∧ some k_ ≠ (.slice Ao26 y114.length co26 : Value).ownBlock)) (by (with_reducible repeat (first | apply Kd.N_alloc | apply Kd.N_drewN | apply Kd.N_drew)); exact Kd.N_mono HO_7.out (fun _ hk => ⟨⟨hk.1, hk.2.2⟩, hk.2.1⟩)) hg hat)
                      have n2_ := Aside0.mk (Kd.R_after (ok := (fun k_ => (w.heap.size ≤ k_))) (by (with_reducible repeat (first | apply Kd.R_alloc | apply Kd.R_drewN | apply Kd.R_drew)); exact HO116.out) hg hat)
                      have n3_ := Aside0.mk (hb)
                      have n4_ := Aside0.mk (ho)
                      clear HO_1
                      clear HO_7
                      clear HO116
                      clear HB
                      clear HO112
                      have HO_1 := n0_
                      have HO_7 := n1_
                      have HO116 := n2_
                      have HB := n3_
                      have HO119 := n4_
                      clear n0_ n1_ n2_ n3_ n4_
                      clear ho hb hg hat
                      refine hK.out _ _ (((HB.out.cell (World.block_lt_of_cell? w _ hw113_0)).trans hw113_0)) (fun hHeld => ?_)
                      clear hK K
                      refine norm_ (a' := ?_) ?_ ?_
                      rotate_left
                      · show Act.put _ (some 36) _ = _
                        simp only [Act.put, List.setIfInBounds_toArray, List.set_cons_zero, List.set_cons_succ, i64_w, i32_w]
                        rfl
                      refine pure_ (i := 9) (N := some 9) (v := ?_) (a' := ?_) #[true, true, true, true, true, true, true, true, true, true] rfl rfl (any_of HT_.out (by kernel_rfl)) (fun _ _ _ h => h) (Or.inl ⟨by rfl, ?_⟩) ?_ ?_
                      rotate_left
                      · intro w'
                        go_simp
                        with_reducible rfl
                      rotate_left
                      · simp only [Act.put, List.setIfInBounds_toArray, List.set_cons_zero, List.set_cons_succ, i64_w, i32_w]
                        rfl
                      refine done_ (done_of HT_.out (by kernel_rfl)) ?_
                      obtain ⟨Ao27, co27, eo27⟩ := Kd.R_slice HO119.out
                      subst eo27
                      try go_wp2_with (first | ((with_reducible refine gate_callee (f := 16) rfl ?_); refine goesL_ (some 41) rfl rfl Try.func16 (by kernel_rfl) rfl #[.slice (some ad113) l0.length c0, .slice Ao27 y117.length co27, .int .i64 a2] rfl (by (try simp only [List.map_toArray, List.map_cons, List.map_nil]); first | done | rfl | (simp only [List.length_drop, List.length_take]; rfl)) ?_; (with_reducible refine (ih k2 (by have := HJ3.out; have := HK2.out; omega) _ _ l0 (fun k_ => some k_ = (.slice Ao27 y117.length co27 : Value).ownBlock) _ _ y117 a2 t120 _ ?side1 ?side2 ?side3 A16.out).mono ?_); (case side1 => repeat (first | exact (Kd.C_below HR0.out HB.out) | (with_reducible refine Kd.C_alloc ?_ _) | (with_reducible refine Kd.C_drewN ?_ _) | (with_reducible refine Kd.C_drew ?_))); (case side2 => exact HC0.out); (case side3 => exact Kd.R_V (Kd.R_tight rfl (Kd.R_apart' (HO119.out) (Kd.N_typed HO_7.out) (by decide)))); rintro e w28 ⟨v121, rfl, ho0, hb⟩; refine ⟨_, rfl, ?_⟩; have n0_ := Aside0.mk (Kd.V_elder' (by (with_reducible repeat (first | apply Kd.V_alloc | apply Kd.V_drewN | apply Kd.V_drew)); exact HO_1.out) (Kd.N_base ho0) hb); have n1_ := Aside0.mk (Kd.N_elder' (by (with_reducible repeat (first | apply Kd.N_alloc | apply Kd.N_drewN | apply Kd.N_drew)); exact HO_7.out) (Kd.N_base ho0) hb); have n2_ := Aside0.mk (Kd.R_below (by (with_reducible repeat (first | apply Kd.R_alloc | apply Kd.R_drewN | apply Kd.R_drew)); exact HO116.out) hb); have n3_ := Aside0.mk (Kd.R_below (by (with_reducible repeat (first | apply Kd.R_alloc | apply Kd.R_drewN | apply Kd.R_drew)); exact HO119.out) hb); have n4_ := Aside0.mk (Kd.N_lower (Kd.N_mono (ok' := fun k_ => (P1_ k_ ∨ w.heap.size ≤ k_) ∧ some k_ ≠ (u7 : Value).ownBlock ∧ some k_ ≠ (.slice Ao26 y114.length co26 : Value).ownBlock) ho0 (fun k_ hk_ => ⟨Or.elim hk_ (fun hs_ => (.inr (((Kd.R_apart' (HO119.out) (Kd.N_typed HO_7.out) (by decide)).1 k_ hs_.symm).1.1))) (fun hn_ => (.inr (Nat.le_trans (below_size (by repeat (first | (with_reducible first | exact HB.out | apply below_alloc | apply pw_below_drewN | apply below_drew1) | exact HB.out))) hn_))), Or.elim hk_ (fun hs_ => ((Kd.R_apart' (HO119.out) (Kd.N_typed HO_7.out) (by decide)).1 k_ hs_.symm).2) (fun hn_ => (Kd.fresh' (Kd.N_lt (by (with_reducible repeat (first | apply Kd.N_alloc | apply Kd.N_drewN | apply Kd.N_drew)); exact HO_7.out)) k_ hn_)), Or.elim hk_ (fun hs_ => ((Kd.R_apart' (HO119.out) (Kd.N_typed HO_7.out) (by decide)).1 k_ hs_.symm).1.2) (fun hn_ => (Kd.fresh' (Kd.R_lt (by (with_reducible repeat (first | apply Kd.R_alloc | apply Kd.R_drewN | apply Kd.R_drew)); exact HO116.out)) k_ hn_))⟩)) (below_size (by repeat (first | (with_reducible first | exact HB.out | apply below_alloc | apply pw_below_drewN | apply below_drew1) | exact HB.out)))); have n5_ := Aside0.mk (below_step (by repeat (first | (with_reducible first | exact HB.out | apply below_alloc | apply pw_below_drewN | apply below_drew1) | exact HB.out)) hb); clear HO_1; clear HO_7; clear HO116; clear HO119; clear HB; have HO_1 := n0_; have HO_7 := n1_; have HO116 := n2_; have HO119 := n3_; have HO122 := n4_; have HB := n5_; clear n0_ n1_ n2_ n3_ n4_ n5_; (try clear hb); (try clear hb2); (try clear hk); (try clear hi); (try clear ho0); obtain ⟨Ao30, co30, eo30⟩ := Kd.N_slice HO122.out; subst eo30) | ((with_reducible refine gate_builtin (b := .append) (xs := #[.tmp 37, .tmp 41]) rfl ?_); at_builtin; refine Kd.N_append_rows (Kd.slice 3 (Kd.int .i64)) (w0 := w) w.heap.size rfl (.tmp 37) (.tmp 41) 24 22 (.slice none 0 0) 24 rfl Try.underlying24 info22 rfl (by decide) (by omega) u7 x7_2 t120 _ _ _ (fun k_ => (P1_ k_ ∨ w.heap.size ≤ k_) ∧ some k_ ≠ (.slice Ao26 y114.length co26 : Value).ownBlock) (fun k_ => ((fun k_ => (P1_ k_ ∨ w.heap.size ≤ k_) ∧ some k_ ≠ (.slice Ao26 y114.length co26 : Value).ownBlock)) k_ ∧ some k_ ≠ (u7 : Value).ownBlock) rfl rfl ?aO ?aR (fun _ hk => hk) ?aF ?aB ?aS ?aL ?_; (case aR => exact (by skip; exact Kd.N_F (Kd.N_mono (ok' := (fun k_ => ((fun k_ => (P1_ k_ ∨ w.heap.size ≤ k_) ∧ some k_ ≠ (.slice Ao26 y114.length co26 : Value).ownBlock)) k_ ∧ some k_ ≠ (u7 : Value).ownBlock)) (HO122.out) (fun k_ hk => ⟨⟨hk.1, hk.2.2⟩, hk.2.1⟩)))); (case aB => exact (by repeat (first | (with_reducible first | exact HB.out | apply below_alloc | apply pw_below_drewN | apply below_drew1) | exact HB.out))); (case aF => exact (fun k_ hk => ⟨(.inr (Nat.le_trans (below_size (by repeat (first | (with_reducible first | exact HB.out | apply below_alloc | apply pw_below_drewN | apply below_drew1) | exact HB.out))) hk)), Kd.fresh' (Kd.R_lt (by (with_reducible repeat (first | apply Kd.R_alloc | apply Kd.R_drewN | apply Kd.R_drew)); exact HO116.out)) k_ hk⟩)); (case aO => exact (by (with_reducible repeat (first | apply Kd.N_alloc | apply Kd.N_drewN | apply Kd.N_drew)); exact Kd.N_mono HO_7.out (fun _ hk => ⟨hk.1.1.1, hk.1.1.2⟩))); (case aS => exact (below_size (by repeat (first | (with_reducible first | exact HB.out | apply below_alloc | apply pw_below_drewN | apply below_drew1) | exact HB.out)))); (case aL => have := LMc17.out; omega); intro v124 w29 ho hb hg hat; rw [← Ny123.out] at ho; have n0_ := Aside0.mk (Kd.V_afterv (ok := (fun k_ => (P1_ k_ ∨ w.heap.size ≤ k_) ∧ some k_ ≠ (.slice Ao26 y114.length co26 : Value).ownBlock ∧ some k_ ≠ (.slice Ao27 y117.length co27 : Value).ownBlock ∧ some k_ ≠ (.slice Ao30 t120.length co30 : Value).ownBlock)) (by (with_reducible repeat (first | apply Kd.V_alloc | apply Kd.V_drewN | apply Kd.V_drew)); exact Kd.V_mono HO_1.out (fun _ hk => ⟨⟨hk.1.1.1, ⟨hk.1.1.2.2, ⟨hk.1.2, hk.2⟩⟩⟩, hk.1.1.2.1⟩)) hg hat); have n1_ := Aside0.mk (Kd.R_over' (by (with_reducible repeat (first | apply Kd.R_alloc | apply Kd.R_drewN | apply Kd.R_drew)); exact HO116.out) (Kd.N_typed (by (with_reducible repeat (first | apply Kd.N_alloc | apply Kd.N_drewN | apply Kd.N_drew)); exact HO_7.out)) (by decide) hg); have n2_ := Aside0.mk (Kd.R_over' (by (with_reducible repeat (first | apply Kd.R_alloc | apply Kd.R_drewN | apply Kd.R_drew)); exact HO119.out) (Kd.N_typed (by (with_reducible repeat (first | apply Kd.N_alloc | apply Kd.N_drewN | apply Kd.N_drew)); exact HO_7.out)) (by decide) hg); have n3_ := Aside0.mk (Kd.N_afterv (ok := (fun k_ => (P1_ k_ ∨ w.heap.size ≤ k_) ∧ some k_ ≠ (.slice Ao26 y114.length co26 : Value).ownBlock)) (by (with_reducible repeat (first | apply Kd.N_alloc | apply Kd.N_drewN | apply Kd.N_drew)); exact Kd.N_mono HO122.out (fun _ hk => ⟨⟨hk.1, hk.2.2⟩, hk.2.1⟩)) hg hat); have n4_ := Aside0.mk (hb); have n5_ := Aside0.mk (ho); clear HO_1; clear HO116; clear HO119; clear HO122; clear HB; clear HO_7; have HO_1 := n0_; have HO116 := n1_; have HO119 := n2_; have HO122 := n3_; have HB := n4_; have HO125 := n5_; clear n0_ n1_ n2_ n3_ n4_ n5_; clear ho hb hg hat))
                      go_roundg k2
                      case measure => have := HJ3.out; have := HK2.out; omega
                      case rel => exact ⟨(y123), (wrap64 (x8_2 + 1)), (by first | rfl | (simp; done) | (simp [*]; done)), H', ⟨by have := HJ3.out; have := HK2.out; omega⟩, ⟨by (with_reducible repeat (first | apply Kd.V_alloc | apply Kd.V_drewN | apply Kd.V_drew)); exact Kd.V_mono HO_1.out (fun _ hk => ⟨hk.1.1, hk.2⟩)⟩, ⟨by (with_reducible repeat (first | apply Kd.N_alloc | apply Kd.N_drewN | apply Kd.N_drew)); exact Kd.N_mono HO125.out (fun _ hk => hk.1)⟩, ⟨by repeat (first | (with_reducible first | exact HB.out | apply below_alloc | apply pw_below_drewN | apply below_drew1) | exact HB.out)⟩⟩
                    · rw [if_neg c17] at H
                      exact absurd H (by simp)
                  · rw [if_neg c15] at H
                    exact absurd H (by simp)
                · rw [if_neg c14] at H
                  exact absurd H (by simp)
              · rw [if_neg c13] at H
                exact absurd H (by simp)
            · rw [if_neg c12] at H
              have c12b0 : decide (x8_2 < (l0.length : Int)) = false := decide_eq_false c12
              clear c12
              obtain rfl := Option.some.inj H
              go_wp2
              go_ret
              exact ⟨_, by first | rfl | (simp [errW_none, errW_some] <;> rfl) | (simp [*, errW_none, errW_some] <;> rfl), by (with_reducible repeat (first | apply Kd.N_alloc | apply Kd.N_drewN | apply Kd.N_drew)); exact HO_7.out, by repeat (first | (with_reducible first | exact HB.out | apply below_alloc | apply pw_below_drewN | apply below_drew1) | exact HB.out)⟩

end Go.Proofs.Ytlipbiihemhieaa.Q

-- from Qf25
-- Made by hp.py, a program of this session, with the kit's printer. Not trusted: Lean checks it.
namespace Go.Proofs.Ytlipbiihemhieaa.Q
open Go.RowKit Go.Proofs.YtlipbiihemhieaaW.PrintWords Go.Proofs.YtlipbiihemhieaaW.PrintLast Go.Proofs.YtlipbiihemhieaaW.PrintMore
attribute [local go_sem] max2_int min2_int max_two min_two max_three min_three max_four min_four   -- for this text's walks alone
set_option linter.unusedVariables false
set_option linter.unusedSimpArgs false

/-! ### order_Count: function 25 -/
mutual
def order_Count.j0 : Nat → List Int → Int → Int → Bool → Option (Int)
  | 0, _, _, _, _ => none
  | k + 1, x0, x1, x2, x17 => if x17 = true then (some 0) else (order_Count.l0 k x0 x1 x2 0 1 0)
def order_Count.l0 : Nat → List Int → Int → Int → Int → Int → Int → Option (Int)
  | 0, _, _, _, _, _, _ => none
  | k + 1, x0, x1, x2, x7, x8, x9 => if x9 < x1 then (order_Count.j2 k x0 x1 x2 x7 x8 x9 (decide (x7 < x2))) else (order_Count.j2 k x0 x1 x2 x7 x8 x9 false)
def order_Count.j2 : Nat → List Int → Int → Int → Int → Int → Int → Bool → Option (Int)
  | 0, _, _, _, _, _, _, _ => none
  | k + 1, x0, x1, x2, x7, x8, x9, x25 => if x25 = true then (if (x0.length : Int) = 0 then (none) else (if x8 > (wrap64 (Int.tdiv x2 (x0.length : Int))) then (some x2) else (order_Count.l0 k x0 x1 x2 (wrap64 (x7 + (mn (wrap64 (x8 * (x0.length : Int))) (wrap64 (x2 - x7))))) (wrap64 (x8 * (x0.length : Int))) (wrap64 (x9 + 1))))) else (some x7)
end
def order_Count.f (k : Nat) (l0 : List Int) (a1 : Int) (a2 : Int) : Option (Int) := if (l0.length : Int) = 0 then (order_Count.j0 k l0 a1 a2 true) else ((order_Alphabet.f k l0).bind fun t101 => (order_Count.j0 k l0 a1 a2 (!t101)))
theorem order_Count.mono_l : ∀ k, (∀ y0 y1 y2 y3, LeO (order_Count.j0 k y0 y1 y2 y3) (order_Count.j0 (k + 1) y0 y1 y2 y3)) ∧ (∀ y0 y1 y2 y3 y4 y5, LeO (order_Count.l0 k y0 y1 y2 y3 y4 y5) (order_Count.l0 (k + 1) y0 y1 y2 y3 y4 y5)) ∧ (∀ y0 y1 y2 y3 y4 y5 y6, LeO (order_Count.j2 k y0 y1 y2 y3 y4 y5 y6) (order_Count.j2 (k + 1) y0 y1 y2 y3 y4 y5 y6))
  | 0 => ⟨fun _ _ _ _ r h => by simp [order_Count.j0] at h, fun _ _ _ _ _ _ r h => by simp [order_Count.l0] at h, fun _ _ _ _ _ _ _ r h => by simp [order_Count.j2] at h⟩
  | k + 1 => by
    obtain ⟨ih0, ih1, ih2⟩ := order_Count.mono_l k
    refine ⟨?_, ?_, ?_⟩
    · intro y0 y1 y2 y3
      unfold order_Count.j0
      repeat' first
      | (with_reducible exact ih0 _ _ _ _)
      | (with_reducible exact ih1 _ _ _ _ _ _)
      | (with_reducible exact ih2 _ _ _ _ _ _ _)
      | (with_reducible exact order_Alphabet.mono _ _)
      | (with_reducible exact LeO.refl _)
      | (with_reducible exact LeO.none _)
      | (with_reducible refine LeO.ite ?_ ?_)
      | (with_reducible refine LeO.bind ?_ (fun _ => ?_))
      | exact ih0 _ _ _ _
      | exact ih1 _ _ _ _ _ _
      | exact ih2 _ _ _ _ _ _ _
      | exact order_Alphabet.mono _ _
      | exact LeO.none _
      | refine LeO.ite ?_ ?_
      | refine LeO.bind ?_ (fun _ => ?_)
    · intro y0 y1 y2 y3 y4 y5
      unfold order_Count.l0
      repeat' first
      | (with_reducible exact ih0 _ _ _ _)
      | (with_reducible exact ih1 _ _ _ _ _ _)
      | (with_reducible exact ih2 _ _ _ _ _ _ _)
      | (with_reducible exact order_Alphabet.mono _ _)
      | (with_reducible exact LeO.refl _)
      | (with_reducible exact LeO.none _)
      | (with_reducible refine LeO.ite ?_ ?_)
      | (with_reducible refine LeO.bind ?_ (fun _ => ?_))
      | exact ih0 _ _ _ _
      | exact ih1 _ _ _ _ _ _
      | exact ih2 _ _ _ _ _ _ _
      | exact order_Alphabet.mono _ _
      | exact LeO.none _
      | refine LeO.ite ?_ ?_
      | refine LeO.bind ?_ (fun _ => ?_)
    · intro y0 y1 y2 y3 y4 y5 y6
      unfold order_Count.j2
      repeat' first
      | (with_reducible exact ih0 _ _ _ _)
      | (with_reducible exact ih1 _ _ _ _ _ _)
      | (with_reducible exact ih2 _ _ _ _ _ _ _)
      | (with_reducible exact order_Alphabet.mono _ _)
      | (with_reducible exact LeO.refl _)
      | (with_reducible exact LeO.none _)
      | (with_reducible refine LeO.ite ?_ ?_)
      | (with_reducible refine LeO.bind ?_ (fun _ => ?_))
      | exact ih0 _ _ _ _
      | exact ih1 _ _ _ _ _ _
      | exact ih2 _ _ _ _ _ _ _
      | exact order_Alphabet.mono _ _
      | exact LeO.none _
      | refine LeO.ite ?_ ?_
      | refine LeO.bind ?_ (fun _ => ?_)
theorem order_Count.mono : ∀ a0 a1 a2 k, LeO (order_Count.f k a0 a1 a2) (order_Count.f (k + 1) a0 a1 a2) := by
  intro a0 a1 a2 k
  obtain ⟨ih0, ih1, ih2⟩ := order_Count.mono_l k
  unfold order_Count.f
  repeat' first
      | (with_reducible exact ih0 _ _ _ _)
      | (with_reducible exact ih1 _ _ _ _ _ _)
      | (with_reducible exact ih2 _ _ _ _ _ _ _)
      | (with_reducible exact order_Alphabet.mono _ _)
      | (with_reducible exact LeO.refl _)
      | (with_reducible exact LeO.none _)
      | (with_reducible refine LeO.ite ?_ ?_)
      | (with_reducible refine LeO.bind ?_ (fun _ => ?_))
      | exact ih0 _ _ _ _
      | exact ih1 _ _ _ _ _ _
      | exact ih2 _ _ _ _ _ _ _
      | exact order_Alphabet.mono _ _
      | exact LeO.none _
      | refine LeO.ite ?_ ?_
      | refine LeO.bind ?_ (fun _ => ?_)
set_option maxHeartbeats 8000000 in
set_option maxRecDepth 100000 in
theorem order_Count.calls (k : Nat) (A0 : Option Addr) (c0 : Nat) (l0 : List Int) (a1 : Int) (a2 : Int) (r : Int) (w : World) (hr0 : Kd.C (Kd.int .i64) w A0 l0.length l0) (hc0 : l0.length ≤ c0) (h : order_Count.f k l0 a1 a2 = some r) :
    Calls Try.prog 25 #[.slice A0 l0.length c0, .int .i64 a1, .int .i64 a2] w fun e w' => e = .returned (.int .i64 r) ∧ Below w.heap.size w w' := by
  have HR0 := Aside0.mk hr0
  have HC0 := Aside0.mk hc0
  clear hr0 hc0
  have HB := Aside0.mk (Below.refl w.heap.size w)
  have H : (if (l0.length : Int) = 0 then (order_Count.j0 k l0 a1 a2 true) else ((order_Alphabet.f k l0).bind fun t101 => (order_Count.j0 k l0 a1 a2 (!t101)))) = some r := h
  clear h
  have HC4 := Aside0.mk H
  clear H
  go_enter Try.func25, Try.ntmps25
  go_upto_region 1 with (fail)
  go_cut [17] (fun v17 wc => ∃ (kq : Nat) (x17_3 : Bool), v17 = .bool x17_3 ∧ Aside0 (order_Count.j0 kq l0 a1 a2 x17_3 = some r) ∧ Aside0 (kq ≤ k) ∧ Aside0 (Below w.heap.size w wc))
  case first =>
    have H := HC4.out
    clear HC4
    by_cases c5 : (l0.length : Int) = 0
    · rw [if_pos c5] at H
      have c5b0 : ((l0.length : Int) == 0) = true := beq_iff_eq.mpr c5
      have c5b1 : ((l0.length : Int) != 0) = false := bne_eq_false_iff_eq.mpr c5
      clear c5
      (first | rw [c5b0] | (simp only [i64_w, i32_w]; rw [c5b0]) | rw [c5b1] | (simp only [i64_w, i32_w]; rw [c5b1]) | skip)
      have H' := Aside0.mk H
      clear H
      go_wp2
      go_meet
      case rel => exact ⟨_, (true), (by first | rfl | (simp; done) | (simp [*]; done)), H', ⟨by first | omega | exact Nat.le_refl _⟩, ⟨by repeat (first | (with_reducible first | exact HB.out | apply below_alloc | apply pw_below_drewN | apply below_drew1) | exact HB.out)⟩⟩
    · rw [if_neg c5] at H
      have c5b0 : ((l0.length : Int) == 0) = false := beq_eq_false_iff_ne.mpr c5
      have c5b1 : ((l0.length : Int) != 0) = true := bne_iff_ne.mpr c5
      have c5b2 : ¬ (l0 = []) := fun h_ => c5 (by rw [h_]; rfl)
      (first | rw [c5b0] | (simp only [i64_w, i32_w]; rw [c5b0]) | rw [c5b1] | (simp only [i64_w, i32_w]; rw [c5b1]) | skip)
      replace H := Option.bind_eq_some_iff.mp H
      obtain ⟨t101, A60, H⟩ := H
      replace H : (order_Count.j0 k l0 a1 a2 (!t101)) = some r := H
      have A6 := Aside0.mk A60
      clear A60
      have H' := Aside0.mk H
      clear H
      go_wp2_with (first | (go_at_call 24; (with_reducible refine (order_Alphabet.calls k _ _ l0 t101 _ ?side1 ?side2 A6.out).mono ?_); (case side1 => repeat (first | exact (Kd.C_below HR0.out HB.out) | (with_reducible refine Kd.C_alloc ?_ _) | (with_reducible refine Kd.C_drewN ?_ _) | (with_reducible refine Kd.C_drew ?_))); (case side2 => exact HC0.out); rintro e w' ⟨rfl, ⟨nd, rfl⟩⟩))
      go_meet
      case rel => exact ⟨_, (!t101), (by first | rfl | (simp; done) | (simp [*]; done)), H', ⟨by first | omega | exact Nat.le_refl _⟩, ⟨by repeat (first | (with_reducible first | exact HB.out | apply below_alloc | apply pw_below_drewN | apply below_drew1) | exact HB.out)⟩⟩
  case rest =>
    clear HC4
    try clear c2
    try clear p2
    try clear c5
    try clear c5b0
    try clear c5b1
    try clear c5b2
    obtain ⟨kq, x17_3, rfl, HA, HJ3, HB⟩ := hcut
    cases kq with
    | zero => exact absurd HA.out (by simp [order_Count.j0])
    | succ kj3 =>
      have H := HA.out
      clear HA
      simp only [order_Count.j0] at H
      by_cases c7 : x17_3 = true
      · subst c7
        have H1 : (some 0) = some r := by rw [if_pos rfl] at H; exact H
        clear H
        have H := H1
        clear H1
        obtain rfl := Option.some.inj H
        go_wp2
        go_ret
        exact ⟨by first | rfl | (simp [errW_none, errW_some] <;> rfl) | (simp [*, errW_none, errW_some] <;> rfl), by repeat (first | (with_reducible first | exact HB.out | apply below_alloc | apply pw_below_drewN | apply below_drew1) | exact HB.out)⟩
      · replace c7 := Bool.eq_false_iff.mpr c7
        subst c7
        have H1 : (order_Count.l0 kj3 l0 a1 a2 0 1 0) = some r := by rw [if_neg (show ¬ (false = true) by decide)] at H; exact H
        clear H
        have H := H1
        clear H1
        have H' := Aside0.mk H
        clear H
        go_wp2
        go_loopg [7, 8, 9] kj3 (fun kq v7 v8 v9 w' => ∃ (x7_2 : Int) (x8_2 : Int) (x9_2 : Int), v7 = .int .i64 x7_2 ∧ v8 = .int .i64 x8_2 ∧ v9 = .int .i64 x9_2 ∧ Aside0 (order_Count.l0 kq l0 a1 a2 x7_2 x8_2 x9_2 = some r) ∧ Aside0 (kq ≤ kj3) ∧ Aside0 (Below w.heap.size w w'))
        case atStart => exact ⟨(0), (1), (0), (by first | rfl | (simp; done) | (simp [*]; done)), (by first | rfl | (simp; done) | (simp [*]; done)), (by first | rfl | (simp; done) | (simp [*]; done)), H', ⟨Nat.le_refl _⟩, ⟨by repeat (first | (with_reducible first | exact HB.out | apply below_alloc | apply pw_below_drewN | apply below_drew1) | exact HB.out)⟩⟩
        case round =>
          clear H'
          try clear c2
          try clear p2
          try clear c5
          try clear c5b0
          try clear c5b1
          try clear c5b2
          try clear c7
          try clear p2
          obtain ⟨x7_2, x8_2, x9_2, rfl, rfl, rfl, HA, HK2, HB⟩ := hrel
          cases gk with
          | zero => exact absurd HA.out (by simp [order_Count.l0])
          | succ k2 =>
            have H := HA.out
            clear HA
            simp only [order_Count.l0] at H
            have HC8 := Aside0.mk H
            clear H
            go_upto_region 5 with (fail)
            go_cut [25] (fun v25 wc => ∃ (kq : Nat) (x25_7 : Bool), v25 = .bool x25_7 ∧ Aside0 (order_Count.j2 kq l0 a1 a2 x7_2 x8_2 x9_2 x25_7 = some r) ∧ Aside0 (kq ≤ k2) ∧ Aside0 (Below w.heap.size w wc))
            case first =>
              have H := HC8.out
              clear HC8
              by_cases c9 : x9_2 < a1
              · rw [if_pos c9] at H
                have c9b0 : decide (x9_2 < a1) = true := decide_eq_true c9
                clear c9
                (first | rw [c9b0] | (simp only [i64_w, i32_w]; rw [c9b0]) | rw [c9b1] | (simp only [i64_w, i32_w]; rw [c9b1]) | skip)
                have H' := Aside0.mk H
                clear H
                go_wp2
                go_meet
                case rel => exact ⟨_, (decide (x7_2 < a2)), (by first | rfl | (simp; done) | (simp [*]; done)), H', ⟨by have := HJ3.out; have := HK2.out; first | omega | exact Nat.le_refl _⟩, ⟨by repeat (first | (with_reducible first | exact HB.out | apply below_alloc | apply pw_below_drewN | apply below_drew1) | exact HB.out)⟩⟩
              · rw [if_neg c9] at H
                have c9b0 : decide (x9_2 < a1) = false := decide_eq_false c9
                clear c9
                (first | rw [c9b0] | (simp only [i64_w, i32_w]; rw [c9b0]) | rw [c9b1] | (simp only [i64_w, i32_w]; rw [c9b1]) | skip)
                have H' := Aside0.mk H
                clear H
                go_wp2
                go_meet
                case rel => exact ⟨_, (false), (by first | rfl | (simp; done) | (simp [*]; done)), H', ⟨by have := HJ3.out; have := HK2.out; first | omega | exact Nat.le_refl _⟩, ⟨by repeat (first | (with_reducible first | exact HB.out | apply below_alloc | apply pw_below_drewN | apply below_drew1) | exact HB.out)⟩⟩
            case rest =>
              clear HC8
              try clear c2
              try clear p2
              try clear c5
              try clear c5b0
              try clear c5b1
              try clear c5b2
              try clear c7
              try clear c9
              try clear c9b0
              try clear c9b1
              try clear p2
              obtain ⟨kq, x25_7, rfl, HA, HJ7, HB⟩ := hcut
              cases kq with
              | zero => exact absurd HA.out (by simp [order_Count.j2])
              | succ kj7 =>
                have H := HA.out
                clear HA
                simp only [order_Count.j2] at H
                by_cases c10 : x25_7 = true
                · subst c10
                  have H1 : (if (l0.length : Int) = 0 then (none) else (if x8_2 > (wrap64 (Int.tdiv a2 (l0.length : Int))) then (some a2) else (order_Count.l0 kj7 l0 a1 a2 (wrap64 (x7_2 + (mn (wrap64 (x8_2 * (l0.length : Int))) (wrap64 (a2 - x7_2))))) (wrap64 (x8_2 * (l0.length : Int))) (wrap64 (x9_2 + 1))))) = some r := by rw [if_pos rfl] at H; exact H
                  clear H
                  have H := H1
                  clear H1
                  by_cases c11 : (l0.length : Int) = 0
                  · rw [if_pos c11] at H
                    exact absurd H (by simp)
                  · rw [if_neg c11] at H
                    have c11b0 : ((l0.length : Int) == 0) = false := beq_eq_false_iff_ne.mpr c11
                    have c11b1 : ((l0.length : Int) != 0) = true := bne_iff_ne.mpr c11
                    have c11b2 : ¬ (l0 = []) := fun h_ => c11 (by rw [h_]; rfl)
                    by_cases c12 : x8_2 > (wrap64 (Int.tdiv a2 (l0.length : Int)))
                    · rw [if_pos c12] at H
                      have c12b0 : decide ((wrap64 (Int.tdiv a2 (l0.length : Int))) < x8_2) = true := decide_eq_true c12
                      clear c12
                      obtain rfl := Option.some.inj H
                      go_wp2
                      go_ret
                      exact ⟨by first | rfl | (simp [errW_none, errW_some] <;> rfl) | (simp [*, errW_none, errW_some] <;> rfl), by repeat (first | (with_reducible first | exact HB.out | apply below_alloc | apply pw_below_drewN | apply below_drew1) | exact HB.out)⟩
                    · rw [if_neg c12] at H
                      have c12b0 : decide ((wrap64 (Int.tdiv a2 (l0.length : Int))) < x8_2) = false := decide_eq_false c12
                      clear c12
                      obtain ⟨ji13, hji13⟩ : ∃ j_ : Int, (mn (wrap64 (x8_2 * (l0.length : Int))) (wrap64 (a2 - x7_2))) = j_ := ⟨_, rfl⟩
                      replace H : (order_Count.l0 kj7 l0 a1 a2 (wrap64 (x7_2 + (ji13))) (wrap64 (x8_2 * (l0.length : Int))) (wrap64 (x9_2 + 1))) = some r := by first | (rw [hji13] at H; exact H) | (simp only [hji13] at H ⊢; exact H)
                      have hji13_ : (if (wrap64 (a2 - x7_2)) < (wrap64 (x8_2 * (l0.length : Int))) then (wrap64 (a2 - x7_2)) else (wrap64 (x8_2 * (l0.length : Int)))) = ji13 := hji13
                      have H' := Aside0.mk H
                      clear H
                      go_wp2
                      go_roundg kj7
                      case measure => have := HJ3.out; have := HK2.out; have := HJ7.out; omega
                      case rel => exact ⟨(wrap64 (x7_2 + (ji13))), (wrap64 (x8_2 * (l0.length : Int))), (wrap64 (x9_2 + 1)), (by first | rfl | (simp; done) | (simp only [← hji13] <;> (first | rfl | simp)) | (simp [*]; done)), (by first | rfl | (simp; done) | (simp [*]; done)), (by first | rfl | (simp; done) | (simp [*]; done)), H', ⟨by have := HJ3.out; have := HK2.out; have := HJ7.out; omega⟩, ⟨by repeat (first | (with_reducible first | exact HB.out | apply below_alloc | apply pw_below_drewN | apply below_drew1) | exact HB.out)⟩⟩
                · replace c10 := Bool.eq_false_iff.mpr c10
                  subst c10
                  have H1 : (some x7_2) = some r := by rw [if_neg (show ¬ (false = true) by decide)] at H; exact H
                  clear H
                  have H := H1
                  clear H1
                  obtain rfl := Option.some.inj H
                  go_wp2
                  go_ret
                  exact ⟨by first | rfl | (simp [errW_none, errW_some] <;> rfl) | (simp [*, errW_none, errW_some] <;> rfl), by repeat (first | (with_reducible first | exact HB.out | apply below_alloc | apply pw_below_drewN | apply below_drew1) | exact HB.out)⟩

end Go.Proofs.Ytlipbiihemhieaa.Q

-- from Qf22
-- Made by hp.py, a program of this session, with the kit's printer. Not trusted: Lean checks it.
namespace Go.Proofs.Ytlipbiihemhieaa.Q
open Go.RowKit Go.Proofs.YtlipbiihemhieaaW.PrintWords Go.Proofs.YtlipbiihemhieaaW.PrintLast Go.Proofs.YtlipbiihemhieaaW.PrintMore
attribute [local go_sem] max2_int min2_int max_two min_two max_three min_three max_four min_four   -- for this text's walks alone
set_option linter.unusedVariables false
set_option linter.unusedSimpArgs false

/-! ### paronymref01_Compare: function 22 -/
mutual
def paronymref01_Compare.l0 : Nat → List Int → List Int → Int → Option (Int)
  | 0, _, _, _ => none
  | k + 1, x0, x1, x5 => if x5 < (x0.length : Int) then (paronymref01_Compare.j1 k x0 x1 x5 (decide (x5 < (x1.length : Int)))) else (paronymref01_Compare.j1 k x0 x1 x5 false)
def paronymref01_Compare.j1 : Nat → List Int → List Int → Int → Bool → Option (Int)
  | 0, _, _, _, _ => none
  | k + 1, x0, x1, x5, x15 => if x15 = true then (if 0 ≤ x5 then (if x5 < (x0.length : Int) then (if x5 < (x1.length : Int) then (if (rd x0 x5) < (rd x1 x5) then (some (-1)) else (if (rd x0 x5) > (rd x1 x5) then (some 1) else (paronymref01_Compare.l0 k x0 x1 (wrap64 (x5 + 1))))) else (none)) else (none)) else (none)) else (if (x0.length : Int) < (x1.length : Int) then (some (-1)) else (if (x0.length : Int) > (x1.length : Int) then (some 1) else (some 0)))
end
def paronymref01_Compare.f (k : Nat) (l0 : List Int) (l1 : List Int) : Option (Int) := paronymref01_Compare.l0 k l0 l1 0
theorem paronymref01_Compare.mono_l : ∀ k, (∀ y0 y1 y2, LeO (paronymref01_Compare.l0 k y0 y1 y2) (paronymref01_Compare.l0 (k + 1) y0 y1 y2)) ∧ (∀ y0 y1 y2 y3, LeO (paronymref01_Compare.j1 k y0 y1 y2 y3) (paronymref01_Compare.j1 (k + 1) y0 y1 y2 y3))
  | 0 => ⟨fun _ _ _ r h => by simp [paronymref01_Compare.l0] at h, fun _ _ _ _ r h => by simp [paronymref01_Compare.j1] at h⟩
  | k + 1 => by
    obtain ⟨ih0, ih1⟩ := paronymref01_Compare.mono_l k
    refine ⟨?_, ?_⟩
    · intro y0 y1 y2
      unfold paronymref01_Compare.l0
      repeat' first
      | (with_reducible exact ih0 _ _ _)
      | (with_reducible exact ih1 _ _ _ _)
      | (with_reducible exact LeO.refl _)
      | (with_reducible exact LeO.none _)
      | (with_reducible refine LeO.ite ?_ ?_)
      | (with_reducible refine LeO.bind ?_ (fun _ => ?_))
      | exact ih0 _ _ _
      | exact ih1 _ _ _ _
      | exact LeO.none _
      | refine LeO.ite ?_ ?_
      | refine LeO.bind ?_ (fun _ => ?_)
    · intro y0 y1 y2 y3
      unfold paronymref01_Compare.j1
      repeat' first
      | (with_reducible exact ih0 _ _ _)
      | (with_reducible exact ih1 _ _ _ _)
      | (with_reducible exact LeO.refl _)
      | (with_reducible exact LeO.none _)
      | (with_reducible refine LeO.ite ?_ ?_)
      | (with_reducible refine LeO.bind ?_ (fun _ => ?_))
      | exact ih0 _ _ _
      | exact ih1 _ _ _ _
      | exact LeO.none _
      | refine LeO.ite ?_ ?_
      | refine LeO.bind ?_ (fun _ => ?_)
theorem paronymref01_Compare.mono : ∀ a0 a1 k, LeO (paronymref01_Compare.f k a0 a1) (paronymref01_Compare.f (k + 1) a0 a1) := by
  intro a0 a1 k
  obtain ⟨ih0, ih1⟩ := paronymref01_Compare.mono_l k
  unfold paronymref01_Compare.f
  repeat' first
      | (with_reducible exact ih0 _ _ _)
      | (with_reducible exact ih1 _ _ _ _)
      | (with_reducible exact LeO.refl _)
      | (with_reducible exact LeO.none _)
      | (with_reducible refine LeO.ite ?_ ?_)
      | (with_reducible refine LeO.bind ?_ (fun _ => ?_))
      | exact ih0 _ _ _
      | exact ih1 _ _ _ _
      | exact LeO.none _
      | refine LeO.ite ?_ ?_
      | refine LeO.bind ?_ (fun _ => ?_)
set_option maxHeartbeats 8000000 in
set_option maxRecDepth 100000 in
theorem paronymref01_Compare.calls (k : Nat) (A0 : Option Addr) (c0 : Nat) (l0 : List Int) (A1 : Option Addr) (c1 : Nat) (l1 : List Int) (r : Int) (w : World) (hr0 : Kd.C (Kd.int .i64) w A0 l0.length l0) (hc0 : l0.length ≤ c0) (hr1 : Kd.C (Kd.int .i64) w A1 l1.length l1) (hc1 : l1.length ≤ c1) (h : paronymref01_Compare.f k l0 l1 = some r) :
    Calls Try.prog 22 #[.slice A0 l0.length c0, .slice A1 l1.length c1] w fun e w' => e = .returned (.int .i64 r) ∧ Drawn0 w w' := by
  have HR0 := Aside0.mk hr0
  have HC0 := Aside0.mk hc0
  clear hr0 hc0
  have HR1 := Aside0.mk hr1
  have HC1 := Aside0.mk hc1
  clear hr1 hc1
  have H : (paronymref01_Compare.l0 k l0 l1 0) = some r := h
  clear h
  have H' := Aside0.mk H
  clear H
  go_enter Try.func22, Try.ntmps22
  go_wp2
  repeat (go_quiet (fail); try go_wp2)
  go_loopg [5] k (fun kq v5 w' => ∃ (x5_1 : Int), v5 = .int .i64 x5_1 ∧ Aside0 (paronymref01_Compare.l0 kq l0 l1 x5_1 = some r) ∧ Aside0 (kq ≤ k) ∧ Drawn0 w w')
  case atStart => exact ⟨(0), (by first | rfl | (simp; done) | (simp [*]; done)), H', ⟨Nat.le_refl _⟩, by repeat (first | exact Drawn0.refl _ | apply Drawn0.step)⟩
  case round =>
    clear H'
    try clear c1
    try clear c2
    try clear p2
    obtain ⟨x5_1, rfl, HA, HK1, ⟨m1, rfl⟩⟩ := hrel
    cases gk with
    | zero => exact absurd HA.out (by simp [paronymref01_Compare.l0])
    | succ k1 =>
      have H := HA.out
      clear HA
      simp only [paronymref01_Compare.l0] at H
      have HC3 := Aside0.mk H
      clear H
      go_upto_region 2 with (fail)
      repeat (go_quiet (fail); go_upto_region 2 with (fail))
      go_cut [15] (fun v15 wc => ∃ (kq : Nat) (x15_2 : Bool), v15 = .bool x15_2 ∧ Aside0 (paronymref01_Compare.j1 kq l0 l1 x5_1 x15_2 = some r) ∧ Aside0 (kq ≤ k1) ∧ Drawn0 w wc)
      case first =>
        have H := HC3.out
        clear HC3
        by_cases c4 : x5_1 < (l0.length : Int)
        · rw [if_pos c4] at H
          have c4b0 : decide (x5_1 < (l0.length : Int)) = true := decide_eq_true c4
          clear c4
          (first | rw [c4b0] | (simp only [i64_w, i32_w]; rw [c4b0]) | rw [c4b1] | (simp only [i64_w, i32_w]; rw [c4b1]) | skip)
          have H' := Aside0.mk H
          clear H
          go_wp2
          repeat (go_quiet (fail); try go_wp2)
          go_meet
          case rel => exact ⟨_, (decide (x5_1 < (l1.length : Int))), (by first | rfl | (simp; done) | (simp [*]; done)), H', ⟨by have := HK1.out; first | omega | exact Nat.le_refl _⟩, by repeat (first | exact Drawn0.refl _ | apply Drawn0.step)⟩
        · rw [if_neg c4] at H
          have c4b0 : decide (x5_1 < (l0.length : Int)) = false := decide_eq_false c4
          clear c4
          (first | rw [c4b0] | (simp only [i64_w, i32_w]; rw [c4b0]) | rw [c4b1] | (simp only [i64_w, i32_w]; rw [c4b1]) | skip)
          have H' := Aside0.mk H
          clear H
          go_wp2
          repeat (go_quiet (fail); try go_wp2)
          go_meet
          case rel => exact ⟨_, (false), (by first | rfl | (simp; done) | (simp [*]; done)), H', ⟨by have := HK1.out; first | omega | exact Nat.le_refl _⟩, by repeat (first | exact Drawn0.refl _ | apply Drawn0.step)⟩
      case rest =>
        clear HC3
        try clear c1
        try clear c2
        try clear p2
        try clear c4
        try clear c4b0
        try clear c4b1
        try clear p2
        obtain ⟨kq, x15_2, rfl, HA, HJ2, ⟨mc2, rfl⟩⟩ := hcut
        cases kq with
        | zero => exact absurd HA.out (by simp [paronymref01_Compare.j1])
        | succ kj2 =>
          have H := HA.out
          clear HA
          simp only [paronymref01_Compare.j1] at H
          by_cases c5 : x15_2 = true
          · subst c5
            have H1 : (if 0 ≤ x5_1 then (if x5_1 < (l0.length : Int) then (if x5_1 < (l1.length : Int) then (if (rd l0 x5_1) < (rd l1 x5_1) then (some (-1)) else (if (rd l0 x5_1) > (rd l1 x5_1) then (some 1) else (paronymref01_Compare.l0 kj2 l0 l1 (wrap64 (x5_1 + 1))))) else (none)) else (none)) else (none)) = some r := by rw [if_pos rfl] at H; exact H
            clear H
            have H := H1
            clear H1
            by_cases c6 : 0 ≤ x5_1
            · rw [if_pos c6] at H
              have c6b0 : decide (0 ≤ x5_1) = true := decide_eq_true c6
              clear c6
              by_cases c7 : x5_1 < (l0.length : Int)
              · rw [if_pos c7] at H
                have c7b0 : decide (x5_1 < (l0.length : Int)) = true := decide_eq_true c7
                clear c7
                by_cases c8 : x5_1 < (l1.length : Int)
                · rw [if_pos c8] at H
                  have c8b0 : decide (x5_1 < (l1.length : Int)) = true := decide_eq_true c8
                  clear c8
                  by_cases c9 : (rd l0 x5_1) < (rd l1 x5_1)
                  · rw [if_pos c9] at H
                    have c9b0 : decide ((rd l0 x5_1) < (rd l1 x5_1)) = true := decide_eq_true c9
                    clear c9
                    obtain rfl := Option.some.inj H
                    have p101 : 0 ≤ (x5_1 : Int) := of_decide_eq_true (by first | (with_reducible assumption) | assumption)
                    have q101 : x5_1 < (l0.length : Int) := of_decide_eq_true (by first | (with_reducible assumption) | assumption)
                    obtain ⟨ad101, e101, hx101_0⟩ := Kd.at_int HR0.out x5_1 p101 q101
                    cases e101
                    replace p101 := eq_true p101
                    replace q101 := eq_true q101
                    have p102 : 0 ≤ (x5_1 : Int) := of_decide_eq_true (by first | (with_reducible assumption) | assumption)
                    have q102 : x5_1 < (l1.length : Int) := of_decide_eq_true (by first | (with_reducible assumption) | assumption)
                    obtain ⟨ad102, e102, hx102_0⟩ := Kd.at_int HR1.out x5_1 p102 q102
                    cases e102
                    replace p102 := eq_true p102
                    replace q102 := eq_true q102
                    go_wp2
                    repeat (go_quiet (fail); try go_wp2)
                    go_ret
                    exact ⟨by first | rfl | (simp; done) | (simp [*]; done), by repeat (first | exact Drawn0.refl _ | apply Drawn0.step)⟩
                  · rw [if_neg c9] at H
                    have c9b0 : decide ((rd l0 x5_1) < (rd l1 x5_1)) = false := decide_eq_false c9
                    clear c9
                    by_cases c10 : (rd l0 x5_1) > (rd l1 x5_1)
                    · rw [if_pos c10] at H
                      have c10b0 : decide ((rd l1 x5_1) < (rd l0 x5_1)) = true := decide_eq_true c10
                      clear c10
                      obtain rfl := Option.some.inj H
                      have p101 : 0 ≤ (x5_1 : Int) := of_decide_eq_true (by first | (with_reducible assumption) | assumption)
                      have q101 : x5_1 < (l0.length : Int) := of_decide_eq_true (by first | (with_reducible assumption) | assumption)
                      obtain ⟨ad101, e101, hx101_0⟩ := Kd.at_int HR0.out x5_1 p101 q101
                      cases e101
                      replace p101 := eq_true p101
                      replace q101 := eq_true q101
                      have p102 : 0 ≤ (x5_1 : Int) := of_decide_eq_true (by first | (with_reducible assumption) | assumption)
                      have q102 : x5_1 < (l1.length : Int) := of_decide_eq_true (by first | (with_reducible assumption) | assumption)
                      obtain ⟨ad102, e102, hx102_0⟩ := Kd.at_int HR1.out x5_1 p102 q102
                      cases e102
                      replace p102 := eq_true p102
                      replace q102 := eq_true q102
                      have p103 : 0 ≤ (x5_1 : Int) := of_decide_eq_true (by first | (with_reducible assumption) | assumption)
                      have q103 : x5_1 < (l0.length : Int) := of_decide_eq_true (by first | (with_reducible assumption) | assumption)
                      obtain ⟨ad103, e103, hx103_0⟩ := Kd.at_int HR0.out x5_1 p103 q103
                      obtain rfl : ad101 = ad103 := (by injection e103)
                      replace p103 := eq_true p103
                      replace q103 := eq_true q103
                      have p104 : 0 ≤ (x5_1 : Int) := of_decide_eq_true (by first | (with_reducible assumption) | assumption)
                      have q104 : x5_1 < (l1.length : Int) := of_decide_eq_true (by first | (with_reducible assumption) | assumption)
                      obtain ⟨ad104, e104, hx104_0⟩ := Kd.at_int HR1.out x5_1 p104 q104
                      obtain rfl : ad102 = ad104 := (by injection e104)
                      replace p104 := eq_true p104
                      replace q104 := eq_true q104
                      go_wp2
                      repeat (go_quiet (fail); try go_wp2)
                      go_ret
                      exact ⟨by first | rfl | (simp; done) | (simp [*]; done), by repeat (first | exact Drawn0.refl _ | apply Drawn0.step)⟩
                    · rw [if_neg c10] at H
                      have c10b0 : decide ((rd l1 x5_1) < (rd l0 x5_1)) = false := decide_eq_false c10
                      clear c10
                      have H' := Aside0.mk H
                      clear H
                      have p101 : 0 ≤ (x5_1 : Int) := of_decide_eq_true (by first | (with_reducible assumption) | assumption)
                      have q101 : x5_1 < (l0.length : Int) := of_decide_eq_true (by first | (with_reducible assumption) | assumption)
                      obtain ⟨ad101, e101, hx101_0⟩ := Kd.at_int HR0.out x5_1 p101 q101
                      cases e101
                      replace p101 := eq_true p101
                      replace q101 := eq_true q101
                      have p102 : 0 ≤ (x5_1 : Int) := of_decide_eq_true (by first | (with_reducible assumption) | assumption)
                      have q102 : x5_1 < (l1.length : Int) := of_decide_eq_true (by first | (with_reducible assumption) | assumption)
                      obtain ⟨ad102, e102, hx102_0⟩ := Kd.at_int HR1.out x5_1 p102 q102
                      cases e102
                      replace p102 := eq_true p102
                      replace q102 := eq_true q102
                      have p103 : 0 ≤ (x5_1 : Int) := of_decide_eq_true (by first | (with_reducible assumption) | assumption)
                      have q103 : x5_1 < (l0.length : Int) := of_decide_eq_true (by first | (with_reducible assumption) | assumption)
                      obtain ⟨ad103, e103, hx103_0⟩ := Kd.at_int HR0.out x5_1 p103 q103
                      obtain rfl : ad101 = ad103 := (by injection e103)
                      replace p103 := eq_true p103
                      replace q103 := eq_true q103
                      have p104 : 0 ≤ (x5_1 : Int) := of_decide_eq_true (by first | (with_reducible assumption) | assumption)
                      have q104 : x5_1 < (l1.length : Int) := of_decide_eq_true (by first | (with_reducible assumption) | assumption)
                      obtain ⟨ad104, e104, hx104_0⟩ := Kd.at_int HR1.out x5_1 p104 q104
                      obtain rfl : ad102 = ad104 := (by injection e104)
                      replace p104 := eq_true p104
                      replace q104 := eq_true q104
                      go_wp2
                      repeat (go_quiet (fail); try go_wp2)
                      go_roundg kj2
                      case measure => have := HK1.out; have := HJ2.out; omega
                      case rel => exact ⟨(wrap64 (x5_1 + 1)), (by first | rfl | (simp; done) | (simp [*]; done)), H', ⟨by have := HK1.out; have := HJ2.out; omega⟩, by repeat (first | exact Drawn0.refl _ | apply Drawn0.step)⟩
                · rw [if_neg c8] at H
                  exact absurd H (by simp)
              · rw [if_neg c7] at H
                exact absurd H (by simp)
            · rw [if_neg c6] at H
              exact absurd H (by simp)
          · replace c5 := Bool.eq_false_iff.mpr c5
            subst c5
            have H1 : (if (l0.length : Int) < (l1.length : Int) then (some (-1)) else (if (l0.length : Int) > (l1.length : Int) then (some 1) else (some 0))) = some r := by rw [if_neg (show ¬ (false = true) by decide)] at H; exact H
            clear H
            have H := H1
            clear H1
            by_cases c11 : (l0.length : Int) < (l1.length : Int)
            · rw [if_pos c11] at H
              have c11b0 : decide ((l0.length : Int) < (l1.length : Int)) = true := decide_eq_true c11
              have c11b1 : decide (l0.length < l1.length) = true := decide_eq_true (Int.ofNat_lt.mp c11)
              clear c11
              obtain rfl := Option.some.inj H
              go_wp2
              repeat (go_quiet (fail); try go_wp2)
              go_ret
              exact ⟨by first | rfl | (simp; done) | (simp [*]; done), by repeat (first | exact Drawn0.refl _ | apply Drawn0.step)⟩
            · rw [if_neg c11] at H
              have c11b0 : decide ((l0.length : Int) < (l1.length : Int)) = false := decide_eq_false c11
              have c11b1 : decide (l0.length < l1.length) = false := decide_eq_false (fun h => c11 (Int.ofNat_lt.mpr h))
              clear c11
              by_cases c12 : (l0.length : Int) > (l1.length : Int)
              · rw [if_pos c12] at H
                have c12b0 : decide ((l1.length : Int) < (l0.length : Int)) = true := decide_eq_true c12
                have c12b1 : decide (l1.length < l0.length) = true := decide_eq_true (Int.ofNat_lt.mp c12)
                clear c12
                obtain rfl := Option.some.inj H
                go_wp2
                repeat (go_quiet (fail); try go_wp2)
                go_ret
                exact ⟨by first | rfl | (simp; done) | (simp [*]; done), by repeat (first | exact Drawn0.refl _ | apply Drawn0.step)⟩
              · rw [if_neg c12] at H
                have c12b0 : decide ((l1.length : Int) < (l0.length : Int)) = false := decide_eq_false c12
                have c12b1 : decide (l1.length < l0.length) = false := decide_eq_false (fun h => c12 (Int.ofNat_lt.mpr h))
                clear c12
                obtain rfl := Option.some.inj H
                go_wp2
                repeat (go_quiet (fail); try go_wp2)
                go_ret
                exact ⟨by first | rfl | (simp; done) | (simp [*]; done), by repeat (first | exact Drawn0.refl _ | apply Drawn0.step)⟩

end Go.Proofs.Ytlipbiihemhieaa.Q

-- from Qf20
-- Made by hp.py, a program of this session, with the kit's printer. Not trusted: Lean checks it.
namespace Go.Proofs.Ytlipbiihemhieaa.Q
open Go.RowKit Go.Proofs.YtlipbiihemhieaaW.PrintWords Go.Proofs.YtlipbiihemhieaaW.PrintLast Go.Proofs.YtlipbiihemhieaaW.PrintMore
attribute [local go_sem] max2_int min2_int max_two min_two max_three min_three max_four min_four   -- for this text's walks alone
set_option linter.unusedVariables false
set_option linter.unusedSimpArgs false

/-! ### paronymref01_Same: function 20 -/
def paronymref01_Same.f (k : Nat) (l0 : List Int) (l1 : List Int) : Option (Bool) := (paronymref01_Compare.f k l0 l1).bind fun t101 => (some (t101 == 0))
theorem paronymref01_Same.mono : ∀ a0 a1 k, LeO (paronymref01_Same.f k a0 a1) (paronymref01_Same.f (k + 1) a0 a1) := by
  intro a0 a1 k
  unfold paronymref01_Same.f
  repeat' first
      | (with_reducible exact paronymref01_Compare.mono _ _ _)
      | (with_reducible exact LeO.refl _)
      | (with_reducible exact LeO.none _)
      | (with_reducible refine LeO.ite ?_ ?_)
      | (with_reducible refine LeO.bind ?_ (fun _ => ?_))
      | exact paronymref01_Compare.mono _ _ _
      | exact LeO.none _
      | refine LeO.ite ?_ ?_
      | refine LeO.bind ?_ (fun _ => ?_)
set_option maxHeartbeats 8000000 in
set_option maxRecDepth 100000 in
theorem paronymref01_Same.calls (k : Nat) (A0 : Option Addr) (c0 : Nat) (l0 : List Int) (A1 : Option Addr) (c1 : Nat) (l1 : List Int) (r : Bool) (w : World) (hr0 : Kd.C (Kd.int .i64) w A0 l0.length l0) (hc0 : l0.length ≤ c0) (hr1 : Kd.C (Kd.int .i64) w A1 l1.length l1) (hc1 : l1.length ≤ c1) (h : paronymref01_Same.f k l0 l1 = some r) :
    Calls Try.prog 20 #[.slice A0 l0.length c0, .slice A1 l1.length c1] w fun e w' => e = .returned (.bool r) ∧ Drawn0 w w' := by
  have HR0 := Aside0.mk hr0
  have HC0 := Aside0.mk hc0
  clear hr0 hc0
  have HR1 := Aside0.mk hr1
  have HC1 := Aside0.mk hc1
  clear hr1 hc1
  have H : ((paronymref01_Compare.f k l0 l1).bind fun t101 => (some (t101 == 0))) = some r := h
  clear h
  replace H := Option.bind_eq_some_iff.mp H
  obtain ⟨t101, A30, H⟩ := H
  replace H : (some (t101 == 0)) = some r := H
  have A3 := Aside0.mk A30
  clear A30
  obtain rfl := Option.some.inj H
  go_enter Try.func20, Try.ntmps20
  go_wp2_with (first | ((with_reducible refine gate_callee (f := 22) rfl ?_); refine goesL_ (some 7) rfl rfl Try.func22 (by kernel_rfl) rfl #[.slice A0 l0.length c0, .slice A1 l1.length c1] rfl (by (try simp only [List.map_toArray, List.map_cons, List.map_nil]); first | done | rfl | (simp only [List.length_drop, List.length_take]; rfl)) ?_; (with_reducible refine (paronymref01_Compare.calls k _ _ l0 _ _ l1 t101 _ ?side1 ?side2 ?side3 ?side4 A3.out).mono ?_); (case side1 => repeat (first | exact HR0.out | (with_reducible refine Kd.C_alloc ?_ _) | (with_reducible refine Kd.C_drewN ?_ _) | (with_reducible refine Kd.C_drew ?_))); (case side2 => exact HC0.out); (case side3 => repeat (first | exact HR1.out | (with_reducible refine Kd.C_alloc ?_ _) | (with_reducible refine Kd.C_drewN ?_ _) | (with_reducible refine Kd.C_drew ?_))); (case side4 => exact HC1.out); rintro e w' ⟨rfl, ⟨nd, rfl⟩⟩; refine ⟨_, rfl, ?_⟩))
  go_ret
  exact ⟨by first | rfl | (simp; done) | (simp [*]; done), by repeat (first | exact Drawn0.refl _ | apply Drawn0.step)⟩

end Go.Proofs.Ytlipbiihemhieaa.Q

-- from HtxtL
/- OrderTexts: what the walk names, and the last region. -/
namespace Go.Proofs.Ytlipbiihemhieaa.Q
open Go.RowKit Go.Shelf Go.Proofs.YtlipbiihemhieaaW.PrintWords Go.Proofs.YtlipbiihemhieaaW.PrintLast Go.Proofs.YtlipbiihemhieaaW.PrintMore
set_option linter.unusedVariables false
set_option linter.unusedSimpArgs false
attribute [local go_sem] Oper.semAt_some
theorem min2_mn (k k' : IntKind) (x y : Int) : Builtin.min2 (.int k x) (.int k' y) = pure (.int k (mn x y)) := min2_int k k' x y
theorem max2_mx (k k' : IntKind) (x y : Int) : Builtin.max2 (.int k x) (.int k' y) = pure (.int k (mx x y)) := max2_int k k' x y
attribute [local go_sem] max2_mx min2_mn max_two min_two

/-- What is known of the law's input: xs are all texts; m is how many may come. -/
structure TextsAt (k : Nat) (l : List Int) (n : Int) (m : Int) (xs : List (List Int)) (al : Bool) (s0 : List Int) : Prop where
  ref : paronymref19_Alphabet.f k l = some al
  all : al = true → paronymref19_All.f k l [] n = some xs
  none_ : al = false → xs = []
  pts : order_All.pts k l n = some xs
  clone : slices_Clone_int_int.f l = some l
  alpha : order_Alphabet.f k l = some al
  same : ∀ s ∈ xs, paronymref01_Same.f k s s = some true
  comp : ∀ i : Nat, i + 1 < xs.length → paronymref01_Compare.f k (rd_L1 xs (i : Int)) (rd_L1 xs ((i + 1 : Nat) : Int)) = some (-1)
  first : order_First.f k l n = some (s0, decide (0 < xs.length))
  head : 0 < xs.length → s0 = rd_L1 xs 0
  count : order_Count.f k l n m = some (if (xs.length : Int) < m then (xs.length : Int) else m)
  len : xs.length ≤ 400

theorem rdL_mem (X : List (List Int)) (i : Nat) (h : i < X.length) : rd_L1 X (i : Int) ∈ X := by
  unfold rd_L1
  rw [Int.toNat_natCast, List.getD_eq_getElem?_getD, List.getElem?_eq_getElem h]
  exact List.getElem_mem _
/-- What lasts up to the loop: the result's variable; nothing older is touched. -/
def txSt (w W : World) : Prop := Boxed W w.heap.size 4 (.bool false) ∧ Below w.heap.size w W ∧ w.heap.size < W.heap.size
theorem txSt.start (w : World) : txSt w (w.alloc (.cells #[.bool false] 4)) := ⟨Boxed.new w _ _, (Below.refl _ w).alloc (Nat.le_refl _) _, by simp⟩
theorem txSt.step {w W W' : World} (h : txSt w W) (hb : Below W.heap.size W W') : txSt w W' := ⟨(hb.block _ h.2.2).trans h.1, h.2.1.trans (hb.mono (by have := h.2.2; omega)), Nat.lt_of_lt_of_le h.2.2 hb.size⟩
theorem txSt.set {w W : World} (h : txSt w W) {b : Nat} (hp : w.heap.size < b) (v : Value) : txSt w (W.setCell ⟨b, 0, none⟩ v) := ⟨h.1.other (Nat.ne_of_lt hp) v, h.2.1.setCell (p := ⟨b, 0, none⟩) (Nat.le_of_lt hp) v, by simp; exact h.2.2⟩
/-- All blocks but b are as they were. -/
def Same6 (b : Nat) (V w' : World) : Prop := V.heap.size ≤ w'.heap.size ∧ ∀ k, k ≠ b → k < V.heap.size → w'.heap[k]? = V.heap[k]?
theorem Same6.refl (b : Nat) (V : World) : Same6 b V V := ⟨Nat.le_refl _, fun _ _ _ => rfl⟩
theorem Same6.drew {b : Nat} {V w' : World} (h : Same6 b V w') : Same6 b V w'.drew := h
theorem Same6.drewN {b : Nat} {V w' : World} (h : Same6 b V w') (n : Nat) : Same6 b V (w'.drewN n) := by
  have hd := pw_below_drewN (Below.refl w'.heap.size w') n
  exact ⟨Nat.le_trans h.1 hd.size, fun k hk hlt => (hd.block k (Nat.lt_of_lt_of_le hlt h.1)).trans (h.2 k hk hlt)⟩
theorem Same6.set {b : Nat} {V w' : World} (h : Same6 b V w') (v : Value) : Same6 b V (w'.setCell ⟨b, 0, none⟩ v) := ⟨by simp; exact h.1, fun k hk hlt => (Below.heap_setCell w' ⟨b, 0, none⟩ v k hk).trans (h.2 k hk hlt)⟩
theorem Same6.boxed {b : Nat} {V w' : World} (h : Same6 b V w') {k : Nat} {t : TypeId} {v : Value} (hk : k ≠ b) (hb : Boxed V k t v) : Boxed w' k t v := (h.2 k hk hb.lt).trans hb
theorem Same6.cell {b : Nat} {V w' : World} (h : Same6 b V w') {a : Addr} {v : Value} (hk : b < a.block) (hc : V.cell? a = some v) : w'.cell? a = some v := by
  have hlt := World.block_lt_of_cell? V a hc
  have he := h.2 a.block (Nat.ne_of_gt hk) hlt
  rw [← hc]
  unfold World.cell?
  rw [he]
/-- What lies in the result's variable. -/
def t6v (b : Nat) (w' : World) : Value := (w'.cell? ⟨b, 0, none⟩).getD undef
theorem t6_of {b : Nat} {w' : World} {v : Value} (h : w'.cell? ⟨b, 0, none⟩ = some v) : w'.cell? ⟨b, 0, none⟩ = some (t6v b w') := by unfold t6v; rw [h]; rfl
theorem t6v_drewN (b : Nat) (w' : World) (n : Nat) : t6v b (w'.drewN n) = t6v b w' := by unfold t6v; simp [go_sem]
theorem t6v_drew (b : Nat) (w' : World) : t6v b w'.drew = t6v b w' := rfl
theorem t6_set {b : Nat} {w' : World} {v x : Value} (h : w'.cell? ⟨b, 0, none⟩ = some v) : (w'.setCell ⟨b, 0, none⟩ x).cell? ⟨b, 0, none⟩ = some x := by simp [go_sem, h]
/-- What holds through the last region. -/
def TxS (w w5 w' : World) : Prop := Same6 w.heap.size w5 w' ∧ Below w.heap.size w w' ∧ ∃ v, Boxed w' w.heap.size 4 v
theorem TxS.below {w w5 w' w7 : World} (h : TxS w w5 w') (hb : Below w'.heap.size w' w7) : TxS w w5 w7 := by
  obtain ⟨h1, h2, v, h3⟩ := h
  exact ⟨⟨Nat.le_trans h1.1 hb.size, fun k hk hlt => (hb.block k (Nat.lt_of_lt_of_le hlt h1.1)).trans (h1.2 k hk hlt)⟩, h2.trans (hb.mono h2.size), v, (hb.block _ h3.lt).trans h3⟩
theorem TxS.drewN {w w5 w' : World} (h : TxS w w5 w') (n : Nat) : TxS w w5 (w'.drewN n) := h.below (pw_below_drewN (Below.refl _ _) n)
theorem TxS.set {w w5 w' : World} (h : TxS w w5 w') (x : Bool) : TxS w w5 (w'.setCell ⟨w.heap.size, 0, none⟩ (.bool x)) := by
  obtain ⟨h1, h2, v, h3⟩ := h
  exact ⟨h1.set _, h2.setCell (p := ⟨w.heap.size, 0, none⟩) (Nat.le_refl _) _, _, Boxed.set _ h3⟩
theorem drawn_below {W w7 : World} (h : Drawn0 W w7) : Below W.heap.size W w7 := by
  obtain ⟨n, rfl⟩ := h
  exact pw_below_drewN (Below.refl _ _) n
/-- What a round leaves. -/
theorem txPost {W wM w4 : World} {t nd : Nat} {m : Int} {pre : List (Value × List Int)} {x : Value × List Int} {act : Act} {Ix : Code → List (Value × List Int) → World → Prop} (hN : Boxed W t 3 (.int .i64 (pre.length : Int))) (hB : Below wM.heap.size wM W) (hS : w4.heap.size ≤ W.heap.size) (ht : wM.heap.size ≤ t) (h4 : t < w4.heap.size) (hm : (pre.length : Int) < m) {q : Int} (hq : q = (pre.length : Int) + 1) :
    ownPostG w4.heap.size (KeepC fun k => k = t) (fun (pre : List (Value × List Int)) W => ((Boxed W t 3 (.int .i64 (pre.length : Int)) ∧ Below wM.heap.size wM W) ∧ w4.heap.size ≤ W.heap.size) ∧ (pre.length : Int) ≤ m) Ix (pre ++ [x]) W Exit.normal act ((W.drewN nd).setCell ⟨t, 0, none⟩ (.int .i64 q)) := by
  have hd := pw_below_drewN (Below.refl W.heap.size W) nd
  have hNd : Boxed (W.drewN nd) t 3 (.int .i64 (pre.length : Int)) := (hd.block _ hN.lt).trans hN
  have ev : q = ((pre ++ [x]).length : Int) := by
    rw [List.length_append, hq]
    simp
  refine ⟨((KeepsOthers.of_grownBy (grownBy_none_of_below hd) (fun j o e => by cases e)).trans (KeepsOthers.setCell _ _ _)).from _, (KeepC.of_below hd).trans (KeepC.of_set rfl), ⟨⟨⟨?_, ?_⟩, ?_⟩, ?_⟩⟩
  · rw [ev]; exact Boxed.set _ hNd
  · exact (hB.trans (hd.mono hB.size)).setCell (p := ⟨t, 0, none⟩) ht _
  · simp; exact hS
  · rw [List.length_append]; simp; omega

/-- The law's body, and what is left of it behind each of its steps. -/
def codeOf : Option Code → Code | some c => c | none => .skip
def sn : Code → Code | .seq _ b => b | c => c
def fs : Code → Code | .seq a _ => a | c => c
abbrev txQ (w : World) : Exit → Act → World → Prop := bodyPostM Fence.wide 10 Try.prog Try.f4 fun e w' => e = .returned (.bool true) ∧ Below w.heap.size w w'
noncomputable abbrev txC7 : Code := sn (sn (sn (sn (sn (sn (sn (codeOf Try.f4.body)))))))
noncomputable abbrev txC9 : Code := sn (sn txC7)
set_option maxHeartbeats 2000000 in
set_option maxRecDepth 100000 in
theorem txLast0 {K : Act → World → Prop} {t1 t2 t3 t4 t5 t11 t14 t15 t16 t17 t18 t19 t20 t21 t22 t23 t24 t25 t26 t27 t28 t29 t30 t31 t32 t33 t34 t35 t36 t37 t38 t39 t40 t41 t42 t43 t44 t45 t46 t47 t48 t49 t50 t51 t52 t53 t54 t55 t56 t57 t58 t59 t60 t61 t62 t63 t64 t65 t66 t67 t68 t69 t70 t71 t72 t73 t74 : Value} (k : Nat) (A0 : Option Addr) (c0 : Nat) (l : List Int) (a1 m : Int) (al : Bool) (s0 : List Int) (A3 : Option Addr) (c3 : Nat) (A7 : Option Addr) (c7 : Nat) (b8 b9 b10 D : Nat) (w w5 : World)
    (HR : Aside0 (Kd.C (Kd.int .i64) w A0 l.length l)) (HC : Aside0 (l.length ≤ c0)) (HRA : Aside0 (paronymref19_Alphabet.f k l = some al)) (HAL : Aside0 (order_Alphabet.f k l = some al)) (HCT : Aside0 (order_Count.f k l (wrap64 (a1.tmod 5)) m = some (mn m 0)))
    (H8 : Aside0 (Boxed w5 b8 24 (.slice A3 0 c3))) (H9 : Aside0 (Boxed w5 b9 3 (.int .i64 m))) (H10 : Aside0 (Boxed w5 b10 3 (.int .i64 (mn m 0)))) (H6 : Aside0 (Boxed w5 w.heap.size 4 (.bool false))) (HLB : Aside0 (Below w.heap.size w w5))
    (hb8 : w.heap.size < b8) (hb9 : w.heap.size < b9) (hb10 : w.heap.size < b10) (hbD : w.heap.size < D) (HKD : Aside0 (w5.heap[D]? = some (.deferred (some []))))
    (hK0 : ∀ (a : Act) (w' : World), Code.wpIn Fence.wide 10 Try.prog Code.ret (txQ w) a w' → K a w') :
    Code.wpIn Fence.wide 10 Try.prog (fs txC9) (Exit.then K (txQ w)) { tmps := #[.slice A0 l.length c0, t1, t2, t3, t4, t5, .pointer (some ⟨w.heap.size, 0, none⟩), .int .i64 (wrap64 (a1.tmod 5)), .pointer (some ⟨b8, 0, none⟩), .pointer (some ⟨b9, 0, none⟩), .pointer (some ⟨b10, 0, none⟩), t11, .slice A7 s0.length c7, .bool false, t14, t15, t16, t17, t18, t19, t20, t21, t22, t23, t24, t25, t26, t27, t28, t29, t30, t31, t32, t33, t34, t35, t36, t37, t38, t39, t40, t41, t42, t43, t44, t45, t46, t47, t48, t49, t50, t51, t52, t53, t54, t55, t56, t57, t58, t59, t60, t61, t62, t63, t64, t65, t66, t67, t68, t69, t70, t71, t72, t73, t74, undef, undef, undef, undef, undef, undef, undef, undef, undef, undef, undef, undef, undef, undef, undef, undef, undef, undef, undef, undef, undef, undef, undef, undef, undef, undef, undef, undef, undef, undef, undef, undef, undef, undef, undef, undef, undef, undef, undef, undef, undef, undef], defers := [{ target := .collected D, args := #[] }] } w5 := by
  have hS : TxS w w5 w5.drew := ⟨Same6.refl _ _, HLB.out.drew, _, H6.out⟩
  show Code.wpIn _ _ _ (Code.region _ _ _) _ _ _
  refine wpIn_wide.2 ?_
  refine wp_region_noPanic ?_
  refine wp_region_held (S := TxS w w5) (by kernel_rfl) ?_
  show wpAnyH _ _ _ _ _ _ _ _ w5.drew
  refine wpAnyH_take (i := 0) (v := .int .i64 (mn m 0)) rfl (by kernel_rfl) (by kernel_rfl) (by kernel_rfl) (fun _ _ _ h => h) (.inl ⟨by kernel_rfl, fun w' hS => by have q_ := (hS.1.boxed (by omega) H10.out).cell; go_simp⟩) hS ?_
  try simp only [List.getElem_toArray, List.getElem_cons_succ, List.getElem_cons_zero, Act.put, List.setIfInBounds_toArray, List.set_cons_zero, List.set_cons_succ]
  refine wpAnyH_take (i := 1) (v := .int .i64 m) rfl (by kernel_rfl) (by kernel_rfl) (by kernel_rfl) (fun _ _ _ h => h) (.inl ⟨by kernel_rfl, fun w' hS => by have q_ := (hS.1.boxed (by omega) H9.out).cell; go_simp⟩) hS ?_
  try simp only [List.getElem_toArray, List.getElem_cons_succ, List.getElem_cons_zero, Act.put, List.setIfInBounds_toArray, List.set_cons_zero, List.set_cons_succ]
  refine wpAnyH_take (i := 2) (v := .slice A3 0 c3) rfl (by kernel_rfl) (by kernel_rfl) (by kernel_rfl) (fun _ _ _ h => h) (.inl ⟨by kernel_rfl, fun w' hS => by have q_ := (hS.1.boxed (by omega) H8.out).cell; go_simp⟩) hS ?_
  try simp only [List.getElem_toArray, List.getElem_cons_succ, List.getElem_cons_zero, Act.put, List.setIfInBounds_toArray, List.set_cons_zero, List.set_cons_succ]
  refine wpAnyH_take (i := 3) (v := .int .i64 0) rfl (by kernel_rfl) (by kernel_rfl) (by kernel_rfl) (fun _ _ _ h => h) (.inl ⟨by kernel_rfl, fun w' hS => by go_simp⟩) hS ?_
  try simp only [List.getElem_toArray, List.getElem_cons_succ, List.getElem_cons_zero, Act.put, List.setIfInBounds_toArray, List.set_cons_zero, List.set_cons_succ]
  refine wpAnyH_take (i := 4) (v := .int .i64 (mn m 0)) rfl (by kernel_rfl) (by kernel_rfl) (by kernel_rfl) (fun _ _ _ h => h) (.inl ⟨by kernel_rfl, fun w' hS => by go_simp⟩) hS ?_
  try simp only [List.getElem_toArray, List.getElem_cons_succ, List.getElem_cons_zero, Act.put, List.setIfInBounds_toArray, List.set_cons_zero, List.set_cons_succ]
  refine wpAnyH_take (i := 5) (v := .bool true) rfl (by kernel_rfl) (by kernel_rfl) (by kernel_rfl) (fun _ _ _ h => h) (.inl ⟨by kernel_rfl, fun w' hS => by go_simp⟩) hS ?_
  try simp only [List.getElem_toArray, List.getElem_cons_succ, List.getElem_cons_zero, Act.put, List.setIfInBounds_toArray, List.set_cons_zero, List.set_cons_succ]
  refine wpAnyH_take (i := 6) (v := .bool true) rfl (by kernel_rfl) (by kernel_rfl) (by kernel_rfl) (fun _ _ _ h => h) (.inl ⟨by kernel_rfl, fun w' hS => by go_simp⟩) hS ?_
  try simp only [List.getElem_toArray, List.getElem_cons_succ, List.getElem_cons_zero, Act.put, List.setIfInBounds_toArray, List.set_cons_zero, List.set_cons_succ]
  refine wpAnyH_take (i := 7) (v := .slice A0 l.length c0) rfl (by kernel_rfl) (by kernel_rfl) (by kernel_rfl) (fun _ _ _ h => h) (.inl ⟨by kernel_rfl, fun w' hS => by go_simp⟩) hS ?_
  try simp only [List.getElem_toArray, List.getElem_cons_succ, List.getElem_cons_zero, Act.put, List.setIfInBounds_toArray, List.set_cons_zero, List.set_cons_succ]
  refine wpAnyH_take (i := 9) (v := .slice A0 l.length c0) rfl (by kernel_rfl) (by kernel_rfl) (by kernel_rfl) (fun _ _ _ h => h) (.inl ⟨by kernel_rfl, fun w' hS => by go_simp⟩) hS ?_
  try simp only [List.getElem_toArray, List.getElem_cons_succ, List.getElem_cons_zero, Act.put, List.setIfInBounds_toArray, List.set_cons_zero, List.set_cons_succ]
  refine wpAnyH_ready (rs := [8]) (by kernel_rfl) (by simp) (AllReadyH.cons rfl (fun K' hK => ?_) AllReadyH.nil)
  rw [if_pos (by kernel_rfl)]
  go_simp
  go_at_call 24
  refine (order_Alphabet.calls k A0 c0 l al _ (Kd.C_below HR.out hS.2.1) HC.out HAL.out).mono ?_
  rintro e w7 ⟨rfl, hd7⟩
  have hS' : TxS w w5 w7 := TxS.below hS (drawn_below hd7)
  refine hK.out _ _ hS' (fun _ => ?_)
  clear hK hS
  have hS := hS'
  clear hS'
  try simp only [List.getElem_toArray, List.getElem_cons_succ, List.getElem_cons_zero, Act.put, List.setIfInBounds_toArray, List.set_cons_zero, List.set_cons_succ]
  refine wpAnyH_ready (rs := [10]) (by kernel_rfl) (by simp) (AllReadyH.cons rfl (fun K' hK => ?_) AllReadyH.nil)
  rw [if_pos (by kernel_rfl)]
  go_simp
  go_at_call 15
  refine (paronymref19_Alphabet.calls k A0 c0 l al _ (Kd.C_below HR.out hS.2.1) HC.out HRA.out).mono ?_
  rintro e w7 ⟨rfl, hd7⟩
  have hS' : TxS w w5 w7 := TxS.below hS (drawn_below hd7)
  refine hK.out _ _ hS' (fun _ => ?_)
  clear hK hS
  have hS := hS'
  clear hS'
  try simp only [List.getElem_toArray, List.getElem_cons_succ, List.getElem_cons_zero, Act.put, List.setIfInBounds_toArray, List.set_cons_zero, List.set_cons_succ]
  refine wpAnyH_take (i := 11) (v := .bool true) rfl (by kernel_rfl) (by kernel_rfl) (by kernel_rfl) (fun _ _ _ h => h) (.inl ⟨by kernel_rfl, fun w' hS => by go_simp⟩) hS ?_
  try simp only [List.getElem_toArray, List.getElem_cons_succ, List.getElem_cons_zero, Act.put, List.setIfInBounds_toArray, List.set_cons_zero, List.set_cons_succ]
  refine wpAnyH_take (i := 12) (v := .bool true) rfl (by kernel_rfl) (by kernel_rfl) (by kernel_rfl) (fun _ _ _ h => h) (.inl ⟨by kernel_rfl, fun w' hS => by go_simp⟩) hS ?_
  try simp only [List.getElem_toArray, List.getElem_cons_succ, List.getElem_cons_zero, Act.put, List.setIfInBounds_toArray, List.set_cons_zero, List.set_cons_succ]
  refine wpAnyH_take (i := 13) (v := .bool true) rfl (by kernel_rfl) (by kernel_rfl) (by kernel_rfl) (fun _ _ _ h => h) (.inl ⟨by kernel_rfl, fun w' hS => by go_simp⟩) hS ?_
  try simp only [List.getElem_toArray, List.getElem_cons_succ, List.getElem_cons_zero, Act.put, List.setIfInBounds_toArray, List.set_cons_zero, List.set_cons_succ]
  refine wpAnyH_take (i := 14) (v := .slice A0 l.length c0) rfl (by kernel_rfl) (by kernel_rfl) (by kernel_rfl) (fun _ _ _ h => h) (.inl ⟨by kernel_rfl, fun w' hS => by go_simp⟩) hS ?_
  try simp only [List.getElem_toArray, List.getElem_cons_succ, List.getElem_cons_zero, Act.put, List.setIfInBounds_toArray, List.set_cons_zero, List.set_cons_succ]
  refine wpAnyH_take (i := 15) (v := .int .i64 (wrap64 (a1.tmod 5))) rfl (by kernel_rfl) (by kernel_rfl) (by kernel_rfl) (fun _ _ _ h => h) (.inl ⟨by kernel_rfl, fun w' hS => by go_simp⟩) hS ?_
  try simp only [List.getElem_toArray, List.getElem_cons_succ, List.getElem_cons_zero, Act.put, List.setIfInBounds_toArray, List.set_cons_zero, List.set_cons_succ]
  refine wpAnyH_take (i := 16) (v := .int .i64 m) rfl (by kernel_rfl) (by kernel_rfl) (by kernel_rfl) (fun _ _ _ h => h) (.inl ⟨by kernel_rfl, fun w' hS => by have q_ := (hS.1.boxed (by omega) H9.out).cell; go_simp⟩) hS ?_
  try simp only [List.getElem_toArray, List.getElem_cons_succ, List.getElem_cons_zero, Act.put, List.setIfInBounds_toArray, List.set_cons_zero, List.set_cons_succ]
  refine wpAnyH_take (i := 18) (v := .int .i64 m) rfl (by kernel_rfl) (by kernel_rfl) (by kernel_rfl) (fun _ _ _ h => h) (.inl ⟨by kernel_rfl, fun w' hS => by have q_ := (hS.1.boxed (by omega) H9.out).cell; go_simp⟩) hS ?_
  try simp only [List.getElem_toArray, List.getElem_cons_succ, List.getElem_cons_zero, Act.put, List.setIfInBounds_toArray, List.set_cons_zero, List.set_cons_succ]
  refine wpAnyH_take (i := 19) (v := .slice A3 0 c3) rfl (by kernel_rfl) (by kernel_rfl) (by kernel_rfl) (fun _ _ _ h => h) (.inl ⟨by kernel_rfl, fun w' hS => by have q_ := (hS.1.boxed (by omega) H8.out).cell; go_simp⟩) hS ?_
  try simp only [List.getElem_toArray, List.getElem_cons_succ, List.getElem_cons_zero, Act.put, List.setIfInBounds_toArray, List.set_cons_zero, List.set_cons_succ]
  refine wpAnyH_take (i := 20) (v := .int .i64 0) rfl (by kernel_rfl) (by kernel_rfl) (by kernel_rfl) (fun _ _ _ h => h) (.inl ⟨by kernel_rfl, fun w' hS => by go_simp⟩) hS ?_
  try simp only [List.getElem_toArray, List.getElem_cons_succ, List.getElem_cons_zero, Act.put, List.setIfInBounds_toArray, List.set_cons_zero, List.set_cons_succ]
  refine wpAnyH_take (i := 21) (v := .int .i64 (mn m 0)) rfl (by kernel_rfl) (by kernel_rfl) (by kernel_rfl) (fun _ _ _ h => h) (.inl ⟨by kernel_rfl, fun w' hS => by go_simp⟩) hS ?_
  try simp only [List.getElem_toArray, List.getElem_cons_succ, List.getElem_cons_zero, Act.put, List.setIfInBounds_toArray, List.set_cons_zero, List.set_cons_succ]
  refine wpAnyH_ready (rs := [17]) (by kernel_rfl) (by simp) (AllReadyH.cons rfl (fun K' hK => ?_) AllReadyH.nil)
  rw [if_pos (by kernel_rfl)]
  go_simp
  go_at_call 25
  refine (order_Count.calls k A0 c0 l _ m _ _ (Kd.C_below HR.out hS.2.1) HC.out HCT.out).mono ?_
  rintro e w7 ⟨rfl, hb7⟩
  have hS' : TxS w w5 w7 := TxS.below hS hb7
  refine hK.out _ _ hS' (fun _ => ?_)
  clear hK hS
  have hS := hS'
  clear hS'
  try simp only [List.getElem_toArray, List.getElem_cons_succ, List.getElem_cons_zero, Act.put, List.setIfInBounds_toArray, List.set_cons_zero, List.set_cons_succ]
  refine wpAnyH_take (i := 22) (v := .bool true) rfl (by kernel_rfl) (by kernel_rfl) (by kernel_rfl) (fun _ _ _ h => h) (.inl ⟨by kernel_rfl, fun w' hS => by go_simp⟩) hS ?_
  try simp only [List.getElem_toArray, List.getElem_cons_succ, List.getElem_cons_zero, Act.put, List.setIfInBounds_toArray, List.set_cons_zero, List.set_cons_succ]
  refine wpAnyH_take (i := 23) (v := .bool true) rfl (by kernel_rfl) (by kernel_rfl) (by kernel_rfl) (fun _ _ _ h => h) (.inl ⟨by kernel_rfl, fun w' hS => by go_simp⟩) hS ?_
  try simp only [List.getElem_toArray, List.getElem_cons_succ, List.getElem_cons_zero, Act.put, List.setIfInBounds_toArray, List.set_cons_zero, List.set_cons_succ]
  refine wpAnyH_take (i := 24) (v := .bool true) rfl (by kernel_rfl) (by kernel_rfl) (by kernel_rfl) (fun _ _ _ h => h) (.inl ⟨by kernel_rfl, fun w' hS => by go_simp⟩) hS ?_
  try simp only [List.getElem_toArray, List.getElem_cons_succ, List.getElem_cons_zero, Act.put, List.setIfInBounds_toArray, List.set_cons_zero, List.set_cons_succ]
  refine wpAnyH_take (i := 25) (v := .bool false) rfl (by kernel_rfl) (by kernel_rfl) (by kernel_rfl) (fun _ _ _ h => h) (.inl ⟨by kernel_rfl, fun w' hS => by go_simp⟩) hS ?_
  try simp only [List.getElem_toArray, List.getElem_cons_succ, List.getElem_cons_zero, Act.put, List.setIfInBounds_toArray, List.set_cons_zero, List.set_cons_succ]
  refine wpAnyH_take (i := 26) (v := .slice A3 0 c3) rfl (by kernel_rfl) (by kernel_rfl) (by kernel_rfl) (fun _ _ _ h => h) (.inl ⟨by kernel_rfl, fun w' hS => by have q_ := (hS.1.boxed (by omega) H8.out).cell; go_simp⟩) hS ?_
  try simp only [List.getElem_toArray, List.getElem_cons_succ, List.getElem_cons_zero, Act.put, List.setIfInBounds_toArray, List.set_cons_zero, List.set_cons_succ]
  refine wpAnyH_take (i := 27) (v := .int .i64 0) rfl (by kernel_rfl) (by kernel_rfl) (by kernel_rfl) (fun _ _ _ h => h) (.inl ⟨by kernel_rfl, fun w' hS => by go_simp⟩) hS ?_
  try simp only [List.getElem_toArray, List.getElem_cons_succ, List.getElem_cons_zero, Act.put, List.setIfInBounds_toArray, List.set_cons_zero, List.set_cons_succ]
  refine wpAnyH_take (i := 28) (v := .bool false) rfl (by kernel_rfl) (by kernel_rfl) (by kernel_rfl) (fun _ _ _ h => h) (.inl ⟨by kernel_rfl, fun w' hS => by go_simp⟩) hS ?_
  try simp only [List.getElem_toArray, List.getElem_cons_succ, List.getElem_cons_zero, Act.put, List.setIfInBounds_toArray, List.set_cons_zero, List.set_cons_succ]
  refine wpAnyH_take (i := 29) (v := .bool true) rfl (by kernel_rfl) (by kernel_rfl) (by kernel_rfl) (fun _ _ _ h => h) (.inl ⟨by kernel_rfl, fun w' hS => by go_simp⟩) hS ?_
  try simp only [List.getElem_toArray, List.getElem_cons_succ, List.getElem_cons_zero, Act.put, List.setIfInBounds_toArray, List.set_cons_zero, List.set_cons_succ]
  refine wpAnyH_take (i := 30) (v := .bool true) rfl (by kernel_rfl) (by kernel_rfl) (by kernel_rfl) (fun _ _ _ h => h) (.inl ⟨by kernel_rfl, fun w' hS => by go_simp⟩) hS ?_
  try simp only [List.getElem_toArray, List.getElem_cons_succ, List.getElem_cons_zero, Act.put, List.setIfInBounds_toArray, List.set_cons_zero, List.set_cons_succ]
  refine wpAnyH_take (i := 31) (v := .bool true) rfl (by kernel_rfl) (by kernel_rfl) (by kernel_rfl) (fun _ _ _ h => h) (.inl ⟨by kernel_rfl, fun w' hS => by go_simp⟩) hS ?_
  try simp only [List.getElem_toArray, List.getElem_cons_succ, List.getElem_cons_zero, Act.put, List.setIfInBounds_toArray, List.set_cons_zero, List.set_cons_succ]
  refine wpAnyH_take (i := 32) (v := .bool false) rfl (by kernel_rfl) (by kernel_rfl) (by kernel_rfl) (fun _ _ _ h => h) (.inl ⟨by kernel_rfl, fun w' hS => by go_simp⟩) hS ?_
  try simp only [List.getElem_toArray, List.getElem_cons_succ, List.getElem_cons_zero, Act.put, List.setIfInBounds_toArray, List.set_cons_zero, List.set_cons_succ]
  refine wpAnyH_take (i := 33) (v := .bool true) rfl (by kernel_rfl) (by kernel_rfl) (by kernel_rfl) (fun _ _ _ h => h) (.inl ⟨by kernel_rfl, fun w' hS => by go_simp⟩) hS ?_
  try simp only [List.getElem_toArray, List.getElem_cons_succ, List.getElem_cons_zero, Act.put, List.setIfInBounds_toArray, List.set_cons_zero, List.set_cons_succ]
  refine wpAnyH_take (i := 34) (v := .bool true) rfl (by kernel_rfl) (by kernel_rfl) (by kernel_rfl) (fun _ _ _ h => h) (.inl ⟨by kernel_rfl, fun w' hS => by go_simp⟩) hS ?_
  try simp only [List.getElem_toArray, List.getElem_cons_succ, List.getElem_cons_zero, Act.put, List.setIfInBounds_toArray, List.set_cons_zero, List.set_cons_succ]
  refine wpAnyH_take (i := 35) (v := undef) rfl (by kernel_rfl) (by kernel_rfl) (by kernel_rfl) (fun _ _ _ h => h) (.inr ⟨by kernel_rfl, rfl⟩) hS ?_
  try simp only [List.getElem_toArray, List.getElem_cons_succ, List.getElem_cons_zero, Act.put, List.setIfInBounds_toArray, List.set_cons_zero, List.set_cons_succ]
  refine wpAnyH_take (i := 36) (v := undef) rfl (by kernel_rfl) (by kernel_rfl) (by kernel_rfl) (fun _ _ _ h => h) (.inr ⟨by kernel_rfl, rfl⟩) hS ?_
  try simp only [List.getElem_toArray, List.getElem_cons_succ, List.getElem_cons_zero, Act.put, List.setIfInBounds_toArray, List.set_cons_zero, List.set_cons_succ]
  refine wpAnyH_take (i := 37) (v := undef) rfl (by kernel_rfl) (by kernel_rfl) (by kernel_rfl) (fun _ _ _ h => h) (.inr ⟨by kernel_rfl, rfl⟩) hS ?_
  try simp only [List.getElem_toArray, List.getElem_cons_succ, List.getElem_cons_zero, Act.put, List.setIfInBounds_toArray, List.set_cons_zero, List.set_cons_succ]
  refine wpAnyH_take (i := 38) (v := undef) rfl (by kernel_rfl) (by kernel_rfl) (by kernel_rfl) (fun _ _ _ h => h) (.inr ⟨by kernel_rfl, rfl⟩) hS ?_
  try simp only [List.getElem_toArray, List.getElem_cons_succ, List.getElem_cons_zero, Act.put, List.setIfInBounds_toArray, List.set_cons_zero, List.set_cons_succ]
  refine wpAnyH_take (i := 39) (v := undef) rfl (by kernel_rfl) (by kernel_rfl) (by kernel_rfl) (fun _ _ _ h => h) (.inr ⟨by kernel_rfl, rfl⟩) hS ?_
  try simp only [List.getElem_toArray, List.getElem_cons_succ, List.getElem_cons_zero, Act.put, List.setIfInBounds_toArray, List.set_cons_zero, List.set_cons_succ]
  refine wpAnyH_take (i := 40) (v := .bool true) rfl (by kernel_rfl) (by kernel_rfl) (by kernel_rfl) (fun _ _ _ h => h) (.inl ⟨by kernel_rfl, fun w' hS => by go_simp⟩) hS ?_
  try simp only [List.getElem_toArray, List.getElem_cons_succ, List.getElem_cons_zero, Act.put, List.setIfInBounds_toArray, List.set_cons_zero, List.set_cons_succ]
  refine wpAnyH_take (i := 41) (v := .bool true) rfl (by kernel_rfl) (by kernel_rfl) (by kernel_rfl) (fun _ _ _ h => h) (.inl ⟨by kernel_rfl, fun w' hS => by go_simp⟩) hS ?_
  try simp only [List.getElem_toArray, List.getElem_cons_succ, List.getElem_cons_zero, Act.put, List.setIfInBounds_toArray, List.set_cons_zero, List.set_cons_succ]
  refine wpAnyH_ready (rs := [42]) (by kernel_rfl) (by simp) (AllReadyH.cons rfl (fun K' hK => ?_) AllReadyH.nil)
  rw [if_pos (by kernel_rfl)]
  obtain ⟨v6, hb6⟩ := hS.2.2
  have hc6 := hb6.cell
  have hf6 := hb6.frozen
  go_simp
  have hS' := TxS.set hS true
  refine hK.out _ _ hS' (fun _ => ?_)
  try simp only [List.getElem_toArray, List.getElem_cons_succ, List.getElem_cons_zero, Act.put, List.setIfInBounds_toArray, List.set_cons_zero, List.set_cons_succ]
  refine wpAnyH_done (by kernel_rfl) ?_ _
  refine NoPanic.normal ?_
  have hDlt : D < w5.heap.size := (Array.getElem?_eq_some_iff.1 HKD.out).1
  have hD7 : w7.heap[D]? = some (.deferred (some [])) := (hS.1.2 D (by omega) hDlt).trans HKD.out
  have hDs : (w7.setCell ⟨w.heap.size, 0, none⟩ (.bool true)).heap[D]? = some (.deferred (some [])) := (Below.heap_setCell w7 ⟨w.heap.size, 0, none⟩ _ D (by show D ≠ w.heap.size; omega)).trans hD7
  have hres : Boxed ((w7.setCell ⟨w.heap.size, 0, none⟩ (.bool true)).putObj D (.deferred none)) w.heap.size 4 (.bool true) := (World.putObj_heap_other (by omega)).trans (Boxed.set _ hb6)
  have hcr := hres.cell
  gi_wp2
  refine ⟨by simp, .inl ⟨_, _, rfl, run_takeDeferred (w := (w7.setCell ⟨w.heap.size, 0, none⟩ (.bool true))) hDs, ?_⟩⟩
  exact ⟨_, by simp [results, Try.results4, go_sem, hcr], rfl, hS'.2.1.trans (belowK_b (w := w) (Nat.le_refl _) _ D _ _ (by omega) hDs rfl rfl)⟩
set_option maxHeartbeats 2000000 in
set_option maxRecDepth 100000 in
theorem txLast1 {K : Act → World → Prop} {t1 t2 t3 t4 t5 t11 t14 t15 t16 t17 t18 t19 t20 t21 t22 t23 t24 t25 t26 t27 t28 t29 t30 t31 t32 t33 t34 t35 t36 t37 t38 t39 t40 t41 t42 t43 t44 t45 t46 t47 t48 t49 t50 t51 t52 t53 t54 t55 t56 t57 t58 t59 t60 t61 t62 t63 t64 t65 t66 t67 t68 t69 t70 t71 t72 t73 t74 : Value} (k : Nat) (A0 : Option Addr) (c0 : Nat) (l : List Int) (a1 m : Int) (al : Bool) (s0 : List Int) (xs : List (List Int)) (ad : Addr) (A6 : Option Addr) (c6 : Nat) (c3 : Nat) (A7 : Option Addr) (c7 : Nat) (b8 b9 b10 D : Nat) (w w5 : World)
    (HR : Aside0 (Kd.C (Kd.int .i64) w A0 l.length l)) (HC : Aside0 (l.length ≤ c0)) (HRA : Aside0 (paronymref19_Alphabet.f k l = some al)) (HAL : Aside0 (order_Alphabet.f k l = some al)) (HCT : Aside0 (order_Count.f k l (wrap64 (a1.tmod 5)) m = some (mn m (xs.length : Int))))
    (H8 : Aside0 (Boxed w5 b8 24 (.slice (some ad) xs.length c3))) (H9 : Aside0 (Boxed w5 b9 3 (.int .i64 m))) (H10 : Aside0 (Boxed w5 b10 3 (.int .i64 (mn m (xs.length : Int))))) (H6 : Aside0 (Boxed w5 w.heap.size 4 (.bool false))) (HLB : Aside0 (Below w.heap.size w w5))
    (hb8 : w.heap.size < b8) (hb9 : w.heap.size < b9) (hb10 : w.heap.size < b10) (hbD : w.heap.size < D) (HKD : Aside0 (w5.heap[D]? = some (.deferred (some []))))
    (hz : 0 < xs.length) (hbd : w.heap.size < ad.block) (HC6 : Aside0 (w5.cell? ad = some (.slice A6 s0.length c6))) (HL6 : Aside0 (s0.length ≤ c6)) (HL7 : Aside0 (s0.length ≤ c7)) (HF6 : Aside0 (Kd.F (Kd.int .i64) w5 (fun k => w.heap.size < k) A6 s0.length s0)) (HF7 : Aside0 (Kd.F (Kd.int .i64) w5 (fun k => w.heap.size < k) A7 s0.length s0)) (HSM : Aside0 (paronymref01_Same.f k s0 s0 = some true))
    (hK0 : ∀ (a : Act) (w' : World), Code.wpIn Fence.wide 10 Try.prog Code.ret (txQ w) a w' → K a w') :
    Code.wpIn Fence.wide 10 Try.prog (fs txC9) (Exit.then K (txQ w)) { tmps := #[.slice A0 l.length c0, t1, t2, t3, t4, t5, .pointer (some ⟨w.heap.size, 0, none⟩), .int .i64 (wrap64 (a1.tmod 5)), .pointer (some ⟨b8, 0, none⟩), .pointer (some ⟨b9, 0, none⟩), .pointer (some ⟨b10, 0, none⟩), t11, .slice A7 s0.length c7, .bool true, t14, t15, t16, t17, t18, t19, t20, t21, t22, t23, t24, t25, t26, t27, t28, t29, t30, t31, t32, t33, t34, t35, t36, t37, t38, t39, t40, t41, t42, t43, t44, t45, t46, t47, t48, t49, t50, t51, t52, t53, t54, t55, t56, t57, t58, t59, t60, t61, t62, t63, t64, t65, t66, t67, t68, t69, t70, t71, t72, t73, t74, undef, undef, undef, undef, undef, undef, undef, undef, undef, undef, undef, undef, undef, undef, undef, undef, undef, undef, undef, undef, undef, undef, undef, undef, undef, undef, undef, undef, undef, undef, undef, undef, undef, undef, undef, undef, undef, undef, undef, undef, undef, undef], defers := [{ target := .collected D, args := #[] }] } w5 := by
  have hS : TxS w w5 w5.drew := ⟨Same6.refl _ _, HLB.out.drew, _, H6.out⟩
  show Code.wpIn _ _ _ (Code.region _ _ _) _ _ _
  refine wpIn_wide.2 ?_
  refine wp_region_noPanic ?_
  refine wp_region_held (S := TxS w w5) (by kernel_rfl) ?_
  show wpAnyH _ _ _ _ _ _ _ _ w5.drew
  refine wpAnyH_take (i := 0) (v := .int .i64 (mn m (xs.length : Int))) rfl (by kernel_rfl) (by kernel_rfl) (by kernel_rfl) (fun _ _ _ h => h) (.inl ⟨by kernel_rfl, fun w' hS => by have q_ := (hS.1.boxed (by omega) H10.out).cell; go_simp⟩) hS ?_
  try simp only [List.getElem_toArray, List.getElem_cons_succ, List.getElem_cons_zero, Act.put, List.setIfInBounds_toArray, List.set_cons_zero, List.set_cons_succ]
  refine wpAnyH_take (i := 1) (v := .int .i64 m) rfl (by kernel_rfl) (by kernel_rfl) (by kernel_rfl) (fun _ _ _ h => h) (.inl ⟨by kernel_rfl, fun w' hS => by have q_ := (hS.1.boxed (by omega) H9.out).cell; go_simp⟩) hS ?_
  try simp only [List.getElem_toArray, List.getElem_cons_succ, List.getElem_cons_zero, Act.put, List.setIfInBounds_toArray, List.set_cons_zero, List.set_cons_succ]
  refine wpAnyH_take (i := 2) (v := .slice (some ad) xs.length c3) rfl (by kernel_rfl) (by kernel_rfl) (by kernel_rfl) (fun _ _ _ h => h) (.inl ⟨by kernel_rfl, fun w' hS => by have q_ := (hS.1.boxed (by omega) H8.out).cell; go_simp⟩) hS ?_
  try simp only [List.getElem_toArray, List.getElem_cons_succ, List.getElem_cons_zero, Act.put, List.setIfInBounds_toArray, List.set_cons_zero, List.set_cons_succ]
  refine wpAnyH_take (i := 3) (v := .int .i64 (xs.length : Int)) rfl (by kernel_rfl) (by kernel_rfl) (by kernel_rfl) (fun _ _ _ h => h) (.inl ⟨by kernel_rfl, fun w' hS => by go_simp⟩) hS ?_
  try simp only [List.getElem_toArray, List.getElem_cons_succ, List.getElem_cons_zero, Act.put, List.setIfInBounds_toArray, List.set_cons_zero, List.set_cons_succ]
  refine wpAnyH_take (i := 4) (v := .int .i64 (mn m (xs.length : Int))) rfl (by kernel_rfl) (by kernel_rfl) (by kernel_rfl) (fun _ _ _ h => h) (.inl ⟨by kernel_rfl, fun w' hS => by go_simp⟩) hS ?_
  try simp only [List.getElem_toArray, List.getElem_cons_succ, List.getElem_cons_zero, Act.put, List.setIfInBounds_toArray, List.set_cons_zero, List.set_cons_succ]
  refine wpAnyH_take (i := 5) (v := .bool true) rfl (by kernel_rfl) (by kernel_rfl) (by kernel_rfl) (fun _ _ _ h => h) (.inl ⟨by kernel_rfl, fun w' hS => by go_simp⟩) hS ?_
  try simp only [List.getElem_toArray, List.getElem_cons_succ, List.getElem_cons_zero, Act.put, List.setIfInBounds_toArray, List.set_cons_zero, List.set_cons_succ]
  refine wpAnyH_take (i := 6) (v := .bool true) rfl (by kernel_rfl) (by kernel_rfl) (by kernel_rfl) (fun _ _ _ h => h) (.inl ⟨by kernel_rfl, fun w' hS => by go_simp⟩) hS ?_
  try simp only [List.getElem_toArray, List.getElem_cons_succ, List.getElem_cons_zero, Act.put, List.setIfInBounds_toArray, List.set_cons_zero, List.set_cons_succ]
  refine wpAnyH_take (i := 7) (v := .slice A0 l.length c0) rfl (by kernel_rfl) (by kernel_rfl) (by kernel_rfl) (fun _ _ _ h => h) (.inl ⟨by kernel_rfl, fun w' hS => by go_simp⟩) hS ?_
  try simp only [List.getElem_toArray, List.getElem_cons_succ, List.getElem_cons_zero, Act.put, List.setIfInBounds_toArray, List.set_cons_zero, List.set_cons_succ]
  refine wpAnyH_take (i := 9) (v := .slice A0 l.length c0) rfl (by kernel_rfl) (by kernel_rfl) (by kernel_rfl) (fun _ _ _ h => h) (.inl ⟨by kernel_rfl, fun w' hS => by go_simp⟩) hS ?_
  try simp only [List.getElem_toArray, List.getElem_cons_succ, List.getElem_cons_zero, Act.put, List.setIfInBounds_toArray, List.set_cons_zero, List.set_cons_succ]
  refine wpAnyH_ready (rs := [8]) (by kernel_rfl) (by simp) (AllReadyH.cons rfl (fun K' hK => ?_) AllReadyH.nil)
  rw [if_pos (by kernel_rfl)]
  go_simp
  go_at_call 24
  refine (order_Alphabet.calls k A0 c0 l al _ (Kd.C_below HR.out hS.2.1) HC.out HAL.out).mono ?_
  rintro e w7 ⟨rfl, hd7⟩
  have hS' : TxS w w5 w7 := TxS.below hS (drawn_below hd7)
  refine hK.out _ _ hS' (fun _ => ?_)
  clear hK hS
  have hS := hS'
  clear hS'
  try simp only [List.getElem_toArray, List.getElem_cons_succ, List.getElem_cons_zero, Act.put, List.setIfInBounds_toArray, List.set_cons_zero, List.set_cons_succ]
  refine wpAnyH_ready (rs := [10]) (by kernel_rfl) (by simp) (AllReadyH.cons rfl (fun K' hK => ?_) AllReadyH.nil)
  rw [if_pos (by kernel_rfl)]
  go_simp
  go_at_call 15
  refine (paronymref19_Alphabet.calls k A0 c0 l al _ (Kd.C_below HR.out hS.2.1) HC.out HRA.out).mono ?_
  rintro e w7 ⟨rfl, hd7⟩
  have hS' : TxS w w5 w7 := TxS.below hS (drawn_below hd7)
  refine hK.out _ _ hS' (fun _ => ?_)
  clear hK hS
  have hS := hS'
  clear hS'
  try simp only [List.getElem_toArray, List.getElem_cons_succ, List.getElem_cons_zero, Act.put, List.setIfInBounds_toArray, List.set_cons_zero, List.set_cons_succ]
  refine wpAnyH_take (i := 11) (v := .bool true) rfl (by kernel_rfl) (by kernel_rfl) (by kernel_rfl) (fun _ _ _ h => h) (.inl ⟨by kernel_rfl, fun w' hS => by go_simp⟩) hS ?_
  try simp only [List.getElem_toArray, List.getElem_cons_succ, List.getElem_cons_zero, Act.put, List.setIfInBounds_toArray, List.set_cons_zero, List.set_cons_succ]
  refine wpAnyH_take (i := 12) (v := .bool true) rfl (by kernel_rfl) (by kernel_rfl) (by kernel_rfl) (fun _ _ _ h => h) (.inl ⟨by kernel_rfl, fun w' hS => by go_simp⟩) hS ?_
  try simp only [List.getElem_toArray, List.getElem_cons_succ, List.getElem_cons_zero, Act.put, List.setIfInBounds_toArray, List.set_cons_zero, List.set_cons_succ]
  refine wpAnyH_take (i := 13) (v := .bool true) rfl (by kernel_rfl) (by kernel_rfl) (by kernel_rfl) (fun _ _ _ h => h) (.inl ⟨by kernel_rfl, fun w' hS => by go_simp⟩) hS ?_
  try simp only [List.getElem_toArray, List.getElem_cons_succ, List.getElem_cons_zero, Act.put, List.setIfInBounds_toArray, List.set_cons_zero, List.set_cons_succ]
  refine wpAnyH_take (i := 14) (v := .slice A0 l.length c0) rfl (by kernel_rfl) (by kernel_rfl) (by kernel_rfl) (fun _ _ _ h => h) (.inl ⟨by kernel_rfl, fun w' hS => by go_simp⟩) hS ?_
  try simp only [List.getElem_toArray, List.getElem_cons_succ, List.getElem_cons_zero, Act.put, List.setIfInBounds_toArray, List.set_cons_zero, List.set_cons_succ]
  refine wpAnyH_take (i := 15) (v := .int .i64 (wrap64 (a1.tmod 5))) rfl (by kernel_rfl) (by kernel_rfl) (by kernel_rfl) (fun _ _ _ h => h) (.inl ⟨by kernel_rfl, fun w' hS => by go_simp⟩) hS ?_
  try simp only [List.getElem_toArray, List.getElem_cons_succ, List.getElem_cons_zero, Act.put, List.setIfInBounds_toArray, List.set_cons_zero, List.set_cons_succ]
  refine wpAnyH_take (i := 16) (v := .int .i64 m) rfl (by kernel_rfl) (by kernel_rfl) (by kernel_rfl) (fun _ _ _ h => h) (.inl ⟨by kernel_rfl, fun w' hS => by have q_ := (hS.1.boxed (by omega) H9.out).cell; go_simp⟩) hS ?_
  try simp only [List.getElem_toArray, List.getElem_cons_succ, List.getElem_cons_zero, Act.put, List.setIfInBounds_toArray, List.set_cons_zero, List.set_cons_succ]
  refine wpAnyH_take (i := 18) (v := .int .i64 m) rfl (by kernel_rfl) (by kernel_rfl) (by kernel_rfl) (fun _ _ _ h => h) (.inl ⟨by kernel_rfl, fun w' hS => by have q_ := (hS.1.boxed (by omega) H9.out).cell; go_simp⟩) hS ?_
  try simp only [List.getElem_toArray, List.getElem_cons_succ, List.getElem_cons_zero, Act.put, List.setIfInBounds_toArray, List.set_cons_zero, List.set_cons_succ]
  refine wpAnyH_take (i := 19) (v := .slice (some ad) xs.length c3) rfl (by kernel_rfl) (by kernel_rfl) (by kernel_rfl) (fun _ _ _ h => h) (.inl ⟨by kernel_rfl, fun w' hS => by have q_ := (hS.1.boxed (by omega) H8.out).cell; go_simp⟩) hS ?_
  try simp only [List.getElem_toArray, List.getElem_cons_succ, List.getElem_cons_zero, Act.put, List.setIfInBounds_toArray, List.set_cons_zero, List.set_cons_succ]
  refine wpAnyH_take (i := 20) (v := .int .i64 (xs.length : Int)) rfl (by kernel_rfl) (by kernel_rfl) (by kernel_rfl) (fun _ _ _ h => h) (.inl ⟨by kernel_rfl, fun w' hS => by go_simp⟩) hS ?_
  try simp only [List.getElem_toArray, List.getElem_cons_succ, List.getElem_cons_zero, Act.put, List.setIfInBounds_toArray, List.set_cons_zero, List.set_cons_succ]
  refine wpAnyH_take (i := 21) (v := .int .i64 (mn m (xs.length : Int))) rfl (by kernel_rfl) (by kernel_rfl) (by kernel_rfl) (fun _ _ _ h => h) (.inl ⟨by kernel_rfl, fun w' hS => by go_simp⟩) hS ?_
  try simp only [List.getElem_toArray, List.getElem_cons_succ, List.getElem_cons_zero, Act.put, List.setIfInBounds_toArray, List.set_cons_zero, List.set_cons_succ]
  refine wpAnyH_ready (rs := [17]) (by kernel_rfl) (by simp) (AllReadyH.cons rfl (fun K' hK => ?_) AllReadyH.nil)
  rw [if_pos (by kernel_rfl)]
  go_simp
  go_at_call 25
  refine (order_Count.calls k A0 c0 l _ m _ _ (Kd.C_below HR.out hS.2.1) HC.out HCT.out).mono ?_
  rintro e w7 ⟨rfl, hb7⟩
  have hS' : TxS w w5 w7 := TxS.below hS hb7
  refine hK.out _ _ hS' (fun _ => ?_)
  clear hK hS
  have hS := hS'
  clear hS'
  try simp only [List.getElem_toArray, List.getElem_cons_succ, List.getElem_cons_zero, Act.put, List.setIfInBounds_toArray, List.set_cons_zero, List.set_cons_succ]
  refine wpAnyH_take (i := 22) (v := .bool true) rfl (by kernel_rfl) (by kernel_rfl) (by kernel_rfl) (fun _ _ _ h => h) (.inl ⟨by kernel_rfl, fun w' hS => by go_simp⟩) hS ?_
  try simp only [List.getElem_toArray, List.getElem_cons_succ, List.getElem_cons_zero, Act.put, List.setIfInBounds_toArray, List.set_cons_zero, List.set_cons_succ]
  refine wpAnyH_take (i := 23) (v := .bool true) rfl (by kernel_rfl) (by kernel_rfl) (by kernel_rfl) (fun _ _ _ h => h) (.inl ⟨by kernel_rfl, fun w' hS => by go_simp⟩) hS ?_
  try simp only [List.getElem_toArray, List.getElem_cons_succ, List.getElem_cons_zero, Act.put, List.setIfInBounds_toArray, List.set_cons_zero, List.set_cons_succ]
  refine wpAnyH_take (i := 24) (v := .bool true) rfl (by kernel_rfl) (by kernel_rfl) (by kernel_rfl) (fun _ _ _ h => h) (.inl ⟨by kernel_rfl, fun w' hS => by go_simp⟩) hS ?_
  try simp only [List.getElem_toArray, List.getElem_cons_succ, List.getElem_cons_zero, Act.put, List.setIfInBounds_toArray, List.set_cons_zero, List.set_cons_succ]
  refine wpAnyH_take (i := 25) (v := .bool true) rfl (by kernel_rfl) (by kernel_rfl) (by kernel_rfl) (fun _ _ _ h => h) (.inl ⟨by kernel_rfl, fun w' hS => by go_simp⟩) hS ?_
  try simp only [List.getElem_toArray, List.getElem_cons_succ, List.getElem_cons_zero, Act.put, List.setIfInBounds_toArray, List.set_cons_zero, List.set_cons_succ]
  refine wpAnyH_take (i := 26) (v := .slice (some ad) xs.length c3) rfl (by kernel_rfl) (by kernel_rfl) (by kernel_rfl) (fun _ _ _ h => h) (.inl ⟨by kernel_rfl, fun w' hS => by have q_ := (hS.1.boxed (by omega) H8.out).cell; go_simp⟩) hS ?_
  try simp only [List.getElem_toArray, List.getElem_cons_succ, List.getElem_cons_zero, Act.put, List.setIfInBounds_toArray, List.set_cons_zero, List.set_cons_succ]
  refine wpAnyH_take (i := 27) (v := .int .i64 (xs.length : Int)) rfl (by kernel_rfl) (by kernel_rfl) (by kernel_rfl) (fun _ _ _ h => h) (.inl ⟨by kernel_rfl, fun w' hS => by go_simp⟩) hS ?_
  try simp only [List.getElem_toArray, List.getElem_cons_succ, List.getElem_cons_zero, Act.put, List.setIfInBounds_toArray, List.set_cons_zero, List.set_cons_succ]
  refine wpAnyH_take (i := 28) (v := .bool true) rfl (by kernel_rfl) (by kernel_rfl) (by kernel_rfl) (fun _ _ _ h => h) (.inl ⟨by kernel_rfl, fun w' hS => by go_simp; try simp [hz]⟩) hS ?_
  try simp only [List.getElem_toArray, List.getElem_cons_succ, List.getElem_cons_zero, Act.put, List.setIfInBounds_toArray, List.set_cons_zero, List.set_cons_succ]
  refine wpAnyH_take (i := 29) (v := .bool true) rfl (by kernel_rfl) (by kernel_rfl) (by kernel_rfl) (fun _ _ _ h => h) (.inl ⟨by kernel_rfl, fun w' hS => by go_simp⟩) hS ?_
  try simp only [List.getElem_toArray, List.getElem_cons_succ, List.getElem_cons_zero, Act.put, List.setIfInBounds_toArray, List.set_cons_zero, List.set_cons_succ]
  refine wpAnyH_take (i := 30) (v := .bool true) rfl (by kernel_rfl) (by kernel_rfl) (by kernel_rfl) (fun _ _ _ h => h) (.inl ⟨by kernel_rfl, fun w' hS => by go_simp⟩) hS ?_
  try simp only [List.getElem_toArray, List.getElem_cons_succ, List.getElem_cons_zero, Act.put, List.setIfInBounds_toArray, List.set_cons_zero, List.set_cons_succ]
  refine wpAnyH_take (i := 31) (v := .bool true) rfl (by kernel_rfl) (by kernel_rfl) (by kernel_rfl) (fun _ _ _ h => h) (.inl ⟨by kernel_rfl, fun w' hS => by go_simp⟩) hS ?_
  try simp only [List.getElem_toArray, List.getElem_cons_succ, List.getElem_cons_zero, Act.put, List.setIfInBounds_toArray, List.set_cons_zero, List.set_cons_succ]
  refine wpAnyH_take (i := 32) (v := .bool true) rfl (by kernel_rfl) (by kernel_rfl) (by kernel_rfl) (fun _ _ _ h => h) (.inl ⟨by kernel_rfl, fun w' hS => by go_simp⟩) hS ?_
  try simp only [List.getElem_toArray, List.getElem_cons_succ, List.getElem_cons_zero, Act.put, List.setIfInBounds_toArray, List.set_cons_zero, List.set_cons_succ]
  refine wpAnyH_take (i := 33) (v := .bool false) rfl (by kernel_rfl) (by kernel_rfl) (by kernel_rfl) (fun _ _ _ h => h) (.inl ⟨by kernel_rfl, fun w' hS => by go_simp⟩) hS ?_
  try simp only [List.getElem_toArray, List.getElem_cons_succ, List.getElem_cons_zero, Act.put, List.setIfInBounds_toArray, List.set_cons_zero, List.set_cons_succ]
  refine wpAnyH_take (i := 34) (v := .bool false) rfl (by kernel_rfl) (by kernel_rfl) (by kernel_rfl) (fun _ _ _ h => h) (.inl ⟨by kernel_rfl, fun w' hS => by go_simp⟩) hS ?_
  try simp only [List.getElem_toArray, List.getElem_cons_succ, List.getElem_cons_zero, Act.put, List.setIfInBounds_toArray, List.set_cons_zero, List.set_cons_succ]
  refine wpAnyH_take (i := 35) (v := .slice A7 s0.length c7) rfl (by kernel_rfl) (by kernel_rfl) (by kernel_rfl) (fun _ _ _ h => h) (.inl ⟨by kernel_rfl, fun w' hS => by go_simp⟩) hS ?_
  try simp only [List.getElem_toArray, List.getElem_cons_succ, List.getElem_cons_zero, Act.put, List.setIfInBounds_toArray, List.set_cons_zero, List.set_cons_succ]
  refine wpAnyH_take (i := 36) (v := .slice (some ad) xs.length c3) rfl (by kernel_rfl) (by kernel_rfl) (by kernel_rfl) (fun _ _ _ h => h) (.inl ⟨by kernel_rfl, fun w' hS => by have q_ := (hS.1.boxed (by omega) H8.out).cell; go_simp⟩) hS ?_
  try simp only [List.getElem_toArray, List.getElem_cons_succ, List.getElem_cons_zero, Act.put, List.setIfInBounds_toArray, List.set_cons_zero, List.set_cons_succ]
  refine wpAnyH_take (i := 37) (v := .pointer (some ad)) rfl (by kernel_rfl) (by kernel_rfl) (by kernel_rfl) (fun _ _ _ h => h) (.inl ⟨by kernel_rfl, fun w' hS => by go_simp⟩) hS ?_
  try simp only [List.getElem_toArray, List.getElem_cons_succ, List.getElem_cons_zero, Act.put, List.setIfInBounds_toArray, List.set_cons_zero, List.set_cons_succ]
  refine wpAnyH_take (i := 38) (v := .slice A6 s0.length c6) rfl (by kernel_rfl) (by kernel_rfl) (by kernel_rfl) (fun _ _ _ h => h) (.inl ⟨by kernel_rfl, fun w' hS => by have q_ := (hS.1.cell (by omega) HC6.out); go_simp⟩) hS ?_
  try simp only [List.getElem_toArray, List.getElem_cons_succ, List.getElem_cons_zero, Act.put, List.setIfInBounds_toArray, List.set_cons_zero, List.set_cons_succ]
  refine wpAnyH_ready (rs := [39]) (by kernel_rfl) (by simp) (AllReadyH.cons rfl (fun K' hK => ?_) AllReadyH.nil)
  rw [if_pos (by kernel_rfl)]
  go_simp
  go_at_call 20
  refine (paronymref01_Same.calls k A7 c7 s0 A6 c6 s0 true _ (Kd.F_now (Kd.F_step HF7.out (fun k hk hlt => hS.1.2 k (Nat.ne_of_gt hk) hlt))) HL7.out (Kd.F_now (Kd.F_step HF6.out (fun k hk hlt => hS.1.2 k (Nat.ne_of_gt hk) hlt))) HL6.out HSM.out).mono ?_
  rintro e w7 ⟨rfl, hd7⟩
  have hS' : TxS w w5 w7 := TxS.below hS (drawn_below hd7)
  refine hK.out _ _ hS' (fun _ => ?_)
  clear hK hS
  have hS := hS'
  clear hS'
  try simp only [List.getElem_toArray, List.getElem_cons_succ, List.getElem_cons_zero, Act.put, List.setIfInBounds_toArray, List.set_cons_zero, List.set_cons_succ]
  refine wpAnyH_take (i := 40) (v := .bool true) rfl (by kernel_rfl) (by kernel_rfl) (by kernel_rfl) (fun _ _ _ h => h) (.inl ⟨by kernel_rfl, fun w' hS => by go_simp⟩) hS ?_
  try simp only [List.getElem_toArray, List.getElem_cons_succ, List.getElem_cons_zero, Act.put, List.setIfInBounds_toArray, List.set_cons_zero, List.set_cons_succ]
  refine wpAnyH_take (i := 41) (v := .bool true) rfl (by kernel_rfl) (by kernel_rfl) (by kernel_rfl) (fun _ _ _ h => h) (.inl ⟨by kernel_rfl, fun w' hS => by go_simp⟩) hS ?_
  try simp only [List.getElem_toArray, List.getElem_cons_succ, List.getElem_cons_zero, Act.put, List.setIfInBounds_toArray, List.set_cons_zero, List.set_cons_succ]
  refine wpAnyH_ready (rs := [42]) (by kernel_rfl) (by simp) (AllReadyH.cons rfl (fun K' hK => ?_) AllReadyH.nil)
  rw [if_pos (by kernel_rfl)]
  obtain ⟨v6, hb6⟩ := hS.2.2
  have hc6 := hb6.cell
  have hf6 := hb6.frozen
  go_simp
  have hS' := TxS.set hS true
  refine hK.out _ _ hS' (fun _ => ?_)
  try simp only [List.getElem_toArray, List.getElem_cons_succ, List.getElem_cons_zero, Act.put, List.setIfInBounds_toArray, List.set_cons_zero, List.set_cons_succ]
  refine wpAnyH_done (by kernel_rfl) ?_ _
  refine NoPanic.normal ?_
  have hDlt : D < w5.heap.size := (Array.getElem?_eq_some_iff.1 HKD.out).1
  have hD7 : w7.heap[D]? = some (.deferred (some [])) := (hS.1.2 D (by omega) hDlt).trans HKD.out
  have hDs : (w7.setCell ⟨w.heap.size, 0, none⟩ (.bool true)).heap[D]? = some (.deferred (some [])) := (Below.heap_setCell w7 ⟨w.heap.size, 0, none⟩ _ D (by show D ≠ w.heap.size; omega)).trans hD7
  have hres : Boxed ((w7.setCell ⟨w.heap.size, 0, none⟩ (.bool true)).putObj D (.deferred none)) w.heap.size 4 (.bool true) := (World.putObj_heap_other (by omega)).trans (Boxed.set _ hb6)
  have hcr := hres.cell
  gi_wp2
  refine ⟨by simp, .inl ⟨_, _, rfl, run_takeDeferred (w := (w7.setCell ⟨w.heap.size, 0, none⟩ (.bool true))) hDs, ?_⟩⟩
  exact ⟨_, by simp [results, Try.results4, go_sem, hcr], rfl, hS'.2.1.trans (belowK_b (w := w) (Nat.le_refl _) _ D _ _ (by omega) hDs rfl rfl)⟩

end Go.Proofs.Ytlipbiihemhieaa.Q

-- from HtxtB
/- OrderTexts: what is behind the loop. -/
namespace Go.Proofs.Ytlipbiihemhieaa.Q
open Go.RowKit Go.Shelf Go.Proofs.YtlipbiihemhieaaW.PrintWords Go.Proofs.YtlipbiihemhieaaW.PrintLast Go.Proofs.YtlipbiihemhieaaW.PrintMore
set_option linter.unusedVariables false
set_option linter.unusedSimpArgs false
attribute [local go_sem] Oper.semAt_some
attribute [local go_sem] max2_mx min2_mn max_two min_two
set_option maxHeartbeats 2000000 in
set_option maxRecDepth 100000 in
theorem txBehind {t1 t2 t3 t4 t5 t12 t13 t14 t15 t16 t17 t18 t19 t20 t21 t22 t23 t24 t25 t26 t27 t28 t29 t30 t31 t32 t33 t34 : Value} (k : Nat) (A0 : Option Addr) (c0 : Nat) (l : List Int) (a1 m q : Int) (al : Bool) (xs : List (List Int)) (s0 : List Int) (A3 : Option Addr) (c3 : Nat) (b8 b9 D : Nat) (w wM W : World)
    (HR : Aside0 (Kd.C (Kd.int .i64) w A0 l.length l)) (HC : Aside0 (l.length ≤ c0)) (HRA : Aside0 (paronymref19_Alphabet.f k l = some al)) (HAL : Aside0 (order_Alphabet.f k l = some al))
    (HCN : Aside0 (order_Count.f k l (wrap64 (a1.tmod 5)) m = some (if (xs.length : Int) < m then (xs.length : Int) else m)))
    (HSM : Aside0 (∀ s ∈ xs, paronymref01_Same.f k s s = some true)) (HFI : Aside0 (order_First.f k l (wrap64 (a1.tmod 5)) = some (s0, decide (0 < xs.length)))) (HHD : Aside0 (0 < xs.length → s0 = rd_L1 xs 0))
    (HS4 : Aside0 (txSt w wM)) (HX : Aside0 (Kd.F (Kd.slice 3 (Kd.int .i64)) wM (fun k => w.heap.size < k) A3 xs.length xs))
    (H8M : Aside0 (Boxed wM b8 24 (.slice A3 xs.length c3))) (H9M : Aside0 (Boxed wM b9 3 (.int .i64 m))) (hszM : wM.heap.size = b9 + 1) (hb8 : w.heap.size < b8) (hb89 : b8 < b9) (hmx0 : 0 ≤ m)
    (hN : Boxed W (b9 + 1) 3 (.int .i64 q)) (hq : q = mn m (xs.length : Int)) (hB : Below wM.heap.size wM W) (hbD : b9 < D) (HKD : Aside0 (W.heap[D]? = some (.deferred (some [])))) :
    Code.wpIn Fence.wide 10 Try.prog (sn txC7) (txQ w) { tmps := #[(.slice A0 l.length c0 : Value), (t1 : Value), (t2 : Value), (t3 : Value), (t4 : Value), (t5 : Value), (.pointer (some ⟨w.heap.size, 0, none⟩) : Value), (.int .i64 (wrap64 (a1.tmod 5)) : Value), (.pointer (some ⟨b8, 0, none⟩) : Value), (.pointer (some ⟨b9, 0, none⟩) : Value), (.pointer (some ⟨b9 + 1, 0, none⟩) : Value), (undef : Value), (t12 : Value), (t13 : Value), (t14 : Value), (t15 : Value), (t16 : Value), (t17 : Value), (t18 : Value), (t19 : Value), (t20 : Value), (t21 : Value), (t22 : Value), (t23 : Value), (t24 : Value), (t25 : Value), (t26 : Value), (t27 : Value), (t28 : Value), (t29 : Value), (t30 : Value), (t31 : Value), (t32 : Value), (t33 : Value), (t34 : Value), (.func (.func 60) #[] #[.pointer (some ⟨b9 + 2, 0, none⟩), .pointer (some ⟨b9 + 2 + 1, 0, none⟩)] : Value), (undef : Value), (undef : Value), (undef : Value), (undef : Value), (undef : Value), (undef : Value), (undef : Value), (undef : Value), (undef : Value), (undef : Value), (undef : Value), (undef : Value), (undef : Value), (undef : Value), (undef : Value), (undef : Value), (undef : Value), (undef : Value), (undef : Value), (undef : Value), (undef : Value), (undef : Value), (undef : Value), (undef : Value), (undef : Value), (undef : Value), (undef : Value), (undef : Value), (undef : Value), (undef : Value), (undef : Value), (undef : Value), (undef : Value), (undef : Value), (undef : Value), (undef : Value), (undef : Value), (undef : Value), (undef : Value), (undef : Value), (undef : Value), (undef : Value), (undef : Value), (undef : Value), (undef : Value), (undef : Value), (undef : Value), (undef : Value), (undef : Value), (undef : Value), (undef : Value), (undef : Value), (undef : Value), (undef : Value), (undef : Value), (undef : Value), (undef : Value), (undef : Value), (undef : Value), (undef : Value), (undef : Value), (undef : Value), (undef : Value), (undef : Value), (undef : Value), (undef : Value), (undef : Value), (undef : Value), (undef : Value), (undef : Value), (undef : Value), (undef : Value), (undef : Value), (undef : Value), (undef : Value), (undef : Value), (undef : Value), (undef : Value), (undef : Value), (undef : Value), (undef : Value)], defers := [{ target := .collected D, args := #[] }] } W := by
  show Code.wpIn _ _ _ (Code.seq (Code.region _ _ _) (Code.seq (Code.region _ _ _) _)) _ _ _
  have hszB := hB.size
  have h9 : Boxed W b9 3 (.int .i64 m) := (hB.block _ (by omega)).trans H9M.out
  have h8 : Boxed W b8 24 (.slice A3 xs.length c3) := (hB.block _ (by omega)).trans H8M.out
  have hlW : Kd.C (Kd.int .i64) W A0 l.length l := Kd.C_below HR.out (HS4.out.2.1.trans (hB.mono (by have := HS4.out.2.2; omega)))
  have hcnt : order_Count.f k l (wrap64 (a1.tmod 5)) m = some (mn m (xs.length : Int)) := by
    rw [HCN.out]; congr 1
  have hXW : Kd.F (Kd.slice 3 (Kd.int .i64)) W (fun k => w.heap.size < k) A3 xs.length xs := Kd.F_step HX.out (fun k hk hlt => hB.block k hlt)
  have h6 : Boxed W w.heap.size 4 (.bool false) := (hB.block _ (by have := HS4.out.2.2; omega)).trans HS4.out.1
  have hlB : Below w.heap.size w W := HS4.out.2.1.trans (hB.mono (by have := HS4.out.2.2; omega))
  subst hq
  have HLW := Aside0.mk hlW
  have HCT := Aside0.mk hcnt
  have HXW := Aside0.mk hXW
  have HN := Aside0.mk hN
  have H9 := Aside0.mk h9
  have H8 := Aside0.mk h8
  have H6 := Aside0.mk h6
  have HLB := Aside0.mk hlB
  have HLBs := Aside0.mk hszB
  clear hlW hcnt hXW hN h9 h8 h6 hlB hB hszB HCN
  by_cases z : 0 < xs.length
  · have hfi := HFI.out
    rw [decide_eq_true z] at hfi
    have HFI' := Aside0.mk hfi
    have hs0 := HHD.out z
    have hsm := HSM.out _ (rdL_mem xs 0 z)
    rw [show ((0 : Nat) : Int) = 0 from rfl, ← hs0] at hsm
    have HSS := Aside0.mk hsm
    have HS0 := Aside0.mk hs0
    clear hfi hs0 hsm HFI HHD HSM
    gi_wp2_with (first
      | (refine ⟨trivial, ?_⟩
         gi_at_call 23
         refine (callsIn_wide.2 (order_First.calls k A0 c0 l _ s0 true _ HLW.out HC.out HFI'.out)).mono ?_
         rintro e w5 ⟨v5, rfl, hv5, hb5⟩
         obtain ⟨A7, c7, rfl⟩ := Kd.R_slice hv5
         have HV5 := Aside0.mk hv5
         have HB5 := Aside0.mk hb5
         clear hv5 hb5))
    have hb5 := HB5.out
    have hW := HLBs.out
    have hX5 : Kd.F (Kd.slice 3 (Kd.int .i64)) w5 (fun k => w.heap.size < k) A3 xs.length xs := Kd.F_step HXW.out (fun k hk hlt => hb5.block k hlt)
    obtain ⟨ad, cc, rfl, hcl, hK, hcc, hok⟩ := Kd.F_get hX5 [] 0 (by omega) (by omega)
    have hs0 := HS0.out
    have hrd : xs.getD (Int.toNat 0) [] = s0 := by rw [hs0]; rfl
    rw [hrd] at hK
    obtain ⟨A6, c6, rfl, hl6, hF6⟩ := Kd.FK_slice_open hK
    have hc6 := hcc 0 _ rfl
    have hbd : w.heap.size < ad.block := hok (by show 0 < 1; omega)
    have hc6' : w5.cell? ad = some (.slice A6 s0.length c6) := hc6
    have hF7 : Kd.F (Kd.int .i64) w5 (fun k => w.heap.size < k) A7 s0.length s0 := Kd.N_F (Kd.R_N (Kd.R_mono (Kd.R_bound HV5.out) (fun j hj => by have := hj.2.1; have := HS4.out.2.2; omega)))
    have hw := HS4.out.2.2
    have hDlt := (Array.getElem?_eq_some_iff.1 HKD.out).1
    exact txLast1 k A0 c0 l a1 m al s0 xs ad A6 c6 c3 A7 c7 b8 b9 (b9 + 1) D w w5 HR HC HRA HAL HCT ⟨(hb5.block _ (by omega)).trans H8.out⟩ ⟨(hb5.block _ (by omega)).trans H9.out⟩ ⟨(hb5.block _ HN.out.lt).trans HN.out⟩ ⟨(hb5.block _ (by omega)).trans H6.out⟩ ⟨HLB.out.trans (hb5.mono (by omega))⟩ hb8 (by omega) (by omega) (by omega) ⟨(hb5.block _ hDlt).trans HKD.out⟩ z hbd ⟨hc6'⟩ ⟨hl6⟩ ⟨(Kd.R_reads' HV5.out).2.1⟩ ⟨hF6⟩ ⟨hF7⟩ HSS (by assumption)
  · have hx0 : xs.length = 0 := by omega
    have hfi := HFI.out
    rw [decide_eq_false z] at hfi
    have HFI' := Aside0.mk hfi
    have h8 := H8.out
    have hn := HN.out
    have hcnt := HCT.out
    rw [hx0] at h8 hn hcnt
    replace hn : Boxed W (b9 + 1) 3 (.int .i64 (mn m 0)) := hn
    replace hcnt : order_Count.f k l (wrap64 (a1.tmod 5)) m = some (mn m 0) := hcnt
    have H8' := Aside0.mk h8
    have HN' := Aside0.mk hn
    have HCT' := Aside0.mk hcnt
    clear hfi h8 hn hcnt HFI HHD HSM
    gi_wp2_with (first
      | (refine ⟨trivial, ?_⟩
         gi_at_call 23
         refine (callsIn_wide.2 (order_First.calls k A0 c0 l _ s0 false _ HLW.out HC.out HFI'.out)).mono ?_
         rintro e w5 ⟨v5, rfl, hv5, hb5⟩
         obtain ⟨A7, c7, rfl⟩ := Kd.R_slice hv5
         have HB5 := Aside0.mk hb5
         clear hv5 hb5))
    have hb5 := HB5.out
    have hW := HLBs.out
    have hw := HS4.out.2.2
    have hDlt := (Array.getElem?_eq_some_iff.1 HKD.out).1
    exact txLast0 k A0 c0 l a1 m al s0 A3 c3 A7 c7 b8 b9 (b9 + 1) D w w5 HR HC HRA HAL HCT' ⟨(hb5.block _ (by omega)).trans H8'.out⟩ ⟨(hb5.block _ (by omega)).trans H9.out⟩ ⟨(hb5.block _ HN'.out.lt).trans HN'.out⟩ ⟨(hb5.block _ (by omega)).trans H6.out⟩ ⟨HLB.out.trans (hb5.mono (by omega))⟩ hb8 (by omega) (by omega) (by omega) ⟨(hb5.block _ hDlt).trans HKD.out⟩ (by assumption)

end Go.Proofs.Ytlipbiihemhieaa.Q

-- from HtxtM
/- OrderTexts: the loop. -/
namespace Go.Proofs.Ytlipbiihemhieaa.Q
open Go.RowKit Go.Shelf Go.Proofs.YtlipbiihemhieaaW.PrintWords Go.Proofs.YtlipbiihemhieaaW.PrintLast Go.Proofs.YtlipbiihemhieaaW.PrintMore
set_option linter.unusedVariables false
set_option linter.unusedSimpArgs false
attribute [local go_sem] Oper.semAt_some
attribute [local go_sem] max2_mx min2_mn max_two min_two
noncomputable abbrev txR : Code := (match sn (fs txC7) with | .block _ c => c | c => c)
set_option maxHeartbeats 2000000 in
set_option maxRecDepth 100000 in
theorem txLoop {K0 : Act → World → Prop} {t1 t2 t3 t4 t5 t12 t13 t14 t15 t16 t17 t18 t19 t20 t21 t22 t23 t24 t25 t26 t27 t28 t29 t30 t31 t32 t33 t34 : Value} (k : Nat) (A0 : Option Addr) (c0 : Nat) (l : List Int) (a1 m : Int) (al : Bool) (xs : List (List Int)) (s0 : List Int) (A3 A4 : Option Addr) (c3 c4 : Nat) (b8 b9 : Nat) (w wM w4 : World)
    (HR : Aside0 (Kd.C (Kd.int .i64) w A0 l.length l)) (HC : Aside0 (l.length ≤ c0)) (HRA : Aside0 (paronymref19_Alphabet.f k l = some al)) (HAL : Aside0 (order_Alphabet.f k l = some al))
    (HCN : Aside0 (order_Count.f k l (wrap64 (a1.tmod 5)) m = some (if (xs.length : Int) < m then (xs.length : Int) else m)))
    (HSM : Aside0 (∀ s ∈ xs, paronymref01_Same.f k s s = some true)) (HFI : Aside0 (order_First.f k l (wrap64 (a1.tmod 5)) = some (s0, decide (0 < xs.length)))) (HHD : Aside0 (0 < xs.length → s0 = rd_L1 xs 0))
    (HS4 : Aside0 (txSt w wM)) (HX : Aside0 (Kd.F (Kd.slice 3 (Kd.int .i64)) wM (fun k => w.heap.size < k) A3 xs.length xs))
    (H8M : Aside0 (Boxed wM b8 24 (.slice A3 xs.length c3))) (H9M : Aside0 (Boxed wM b9 3 (.int .i64 m))) (hszM : wM.heap.size = b9 + 1) (hb8 : w.heap.size < b8) (hb89 : b8 < b9) (hmx0 : 0 ≤ m)
    (HPTS : Aside0 (order_All.pts k l (wrap64 (a1.tmod 5)) = some xs)) (HCM : Aside0 (∀ i : Nat, i + 1 < xs.length → paronymref01_Compare.f k (rd_L1 xs (i : Int)) (rd_L1 xs ((i + 1 : Nat) : Int)) = some (-1))) (HLN : Aside0 (xs.length ≤ 400))
    (hszI : b9 + 2 + 2 ≤ w4.heap.size) (hM4 : Below wM.heap.size wM w4) (h10 : Boxed w4 (b9 + 1) 3 (.int .i64 0)) (HBX : Aside0 (Boxed w4 (b9 + 2) 22 (.slice A4 l.length c4))) (HBN : Aside0 (Boxed w4 (b9 + 2 + 1) 3 (.int .i64 (wrap64 (a1.tmod 5))))) (HV : Aside0 (Kd.R (Kd.int .i64) 3 w4 (b9 + 2 + 2) (fun _ => True) (.slice A4 l.length c4) l))
    (hK0 : ∀ (a : Act) (w' : World), Code.wpIn Fence.wide 10 Try.prog (sn txC7) (txQ w) a w' → K0 a w') :
    Code.wpIn Fence.wide 10 Try.prog txR (Exit.inBlock 0 (Exit.then K0 (txQ w))) { tmps := #[(.slice A0 l.length c0 : Value), (t1 : Value), (t2 : Value), (t3 : Value), (t4 : Value), (t5 : Value), (.pointer (some ⟨w.heap.size, 0, none⟩) : Value), (.int .i64 (wrap64 (a1.tmod 5)) : Value), (.pointer (some ⟨b8, 0, none⟩) : Value), (.pointer (some ⟨b9, 0, none⟩) : Value), (.pointer (some ⟨b9 + 1, 0, none⟩) : Value), (undef : Value), (t12 : Value), (t13 : Value), (t14 : Value), (t15 : Value), (t16 : Value), (t17 : Value), (t18 : Value), (t19 : Value), (t20 : Value), (t21 : Value), (t22 : Value), (t23 : Value), (t24 : Value), (t25 : Value), (t26 : Value), (t27 : Value), (t28 : Value), (t29 : Value), (t30 : Value), (t31 : Value), (t32 : Value), (t33 : Value), (t34 : Value), (.func (.func 60) #[] #[.pointer (some ⟨b9 + 2, 0, none⟩), .pointer (some ⟨b9 + 2 + 1, 0, none⟩)] : Value), (undef : Value), (undef : Value), (undef : Value), (undef : Value), (undef : Value), (undef : Value), (undef : Value), (undef : Value), (undef : Value), (undef : Value), (undef : Value), (undef : Value), (undef : Value), (undef : Value), (undef : Value), (undef : Value), (undef : Value), (undef : Value), (undef : Value), (undef : Value), (undef : Value), (undef : Value), (undef : Value), (undef : Value), (undef : Value), (undef : Value), (undef : Value), (undef : Value), (undef : Value), (undef : Value), (undef : Value), (undef : Value), (undef : Value), (undef : Value), (undef : Value), (undef : Value), (undef : Value), (undef : Value), (undef : Value), (undef : Value), (undef : Value), (undef : Value), (undef : Value), (undef : Value), (undef : Value), (undef : Value), (undef : Value), (undef : Value), (undef : Value), (undef : Value), (undef : Value), (undef : Value), (undef : Value), (undef : Value), (undef : Value), (undef : Value), (undef : Value), (undef : Value), (undef : Value), (undef : Value), (undef : Value), (undef : Value), (undef : Value), (undef : Value), (undef : Value), (undef : Value), (undef : Value), (undef : Value), (undef : Value), (undef : Value), (undef : Value), (undef : Value), (undef : Value), (undef : Value), (undef : Value), (undef : Value), (undef : Value), (undef : Value), (undef : Value), (undef : Value), (undef : Value)], defers := [] } w4 := by
  show Code.wpIn _ _ _ (Code.rangeFunc _ _ _ _) _ _ _
  refine wpIn_range_pr rfl (by omega) (gf := 60) (lb := #[Value.pointer (some { block := b9 + 2, off := 0 }), Value.pointer (some { block := b9 + 2 + 1, off := 0 })]) rfl trivial (enters_of Try.func60 (by kernel_rfl) rfl)
    (order_All.stops k l _ _ HPTS.out (b9 + 2) A4 c4 (fun k => k = b9 + 1) w4 (fun k hk => by omega) ⟨by omega, by omega⟩ HBX.out HBN.out (Kd.R_lower (Kd.R_mono (Kd.R_bound HV.out) (fun j hj e => by have := hj.2.1; omega)) (Nat.zero_le _)) _ (by omega)) KeepC.trans keepC_put (Below.refl _ _) (fun _ => rfl) (fun x => row_own)
    (fun pre W => ((Boxed W (b9 + 1) 3 (.int .i64 (pre.length : Int)) ∧ Below wM.heap.size wM W) ∧ w4.heap.size ≤ W.heap.size) ∧ (pre.length : Int) ≤ m)
    (fun c ys W => ((Boxed W (b9 + 1) 3 (.int .i64 m) ∧ Below wM.heap.size wM W) ∧ w4.heap.size ≤ W.heap.size) ∧ (c = .exit 0 ∧ m < (ys.length : Int)))
    (OwnFrom.and (OwnFrom.and (OwnFrom.and (Own.from (boxed_own (b9 + 1) 3 (fun pre : List (Value × List Int) => .int .i64 (pre.length : Int))) _) (ownFrom_below (Nat.le_refl _) (by omega))) (fun s W W' row hs hg hr => Nat.le_trans hs hg.size)) (fun _ _ _ _ hs _ _ => hs))
    (fun c s W W' row hs hg hr => by
      obtain ⟨⟨⟨h1, h2⟩, h3⟩, h4⟩ := hs
      exact ⟨⟨⟨boxed_own (b9 + 1) 3 (fun _ : Unit => .int .i64 m) () W W' row h1 hg (fun r e => (hr r e).2), ownFrom_below (β := Unit) (Nat.le_refl _) (by omega) () W W' row h2 hg hr⟩, Nat.le_trans h3 hg.size⟩, h4⟩)
    ⟨⟨⟨by simpa using h10, hM4⟩, Nat.le_refl _⟩, by simpa using hmx0⟩
    (fun x : Value × List Int => { tmps := #[(.slice A0 l.length c0 : Value), (t1 : Value), (t2 : Value), (t3 : Value), (t4 : Value), (t5 : Value), (.pointer (some ⟨w.heap.size, 0, none⟩) : Value), (.int .i64 (wrap64 (a1.tmod 5)) : Value), (.pointer (some ⟨b8, 0, none⟩) : Value), (.pointer (some ⟨b9, 0, none⟩) : Value), (.pointer (some ⟨b9 + 1, 0, none⟩) : Value), (x.1 : Value), (t12 : Value), (t13 : Value), (t14 : Value), (t15 : Value), (t16 : Value), (t17 : Value), (t18 : Value), (t19 : Value), (t20 : Value), (t21 : Value), (t22 : Value), (t23 : Value), (t24 : Value), (t25 : Value), (t26 : Value), (t27 : Value), (t28 : Value), (t29 : Value), (t30 : Value), (t31 : Value), (t32 : Value), (t33 : Value), (t34 : Value), (.func (.func 60) #[] #[.pointer (some ⟨b9 + 2, 0, none⟩), .pointer (some ⟨b9 + 2 + 1, 0, none⟩)] : Value), (x.1 : Value), (undef : Value), (undef : Value), (undef : Value), (undef : Value), (undef : Value), (undef : Value), (undef : Value), (undef : Value), (undef : Value), (undef : Value), (undef : Value), (undef : Value), (undef : Value), (undef : Value), (undef : Value), (undef : Value), (undef : Value), (undef : Value), (undef : Value), (undef : Value), (undef : Value), (undef : Value), (undef : Value), (undef : Value), (undef : Value), (undef : Value), (undef : Value), (undef : Value), (undef : Value), (undef : Value), (undef : Value), (undef : Value), (undef : Value), (undef : Value), (undef : Value), (undef : Value), (undef : Value), (undef : Value), (undef : Value), (undef : Value), (undef : Value), (undef : Value), (undef : Value), (undef : Value), (undef : Value), (undef : Value), (undef : Value), (undef : Value), (undef : Value), (undef : Value), (undef : Value), (undef : Value), (undef : Value), (undef : Value), (undef : Value), (undef : Value), (undef : Value), (undef : Value), (undef : Value), (undef : Value), (undef : Value), (undef : Value), (undef : Value), (undef : Value), (undef : Value), (undef : Value), (undef : Value), (undef : Value), (undef : Value), (undef : Value), (undef : Value), (undef : Value), (undef : Value), (undef : Value), (undef : Value), (undef : Value), (undef : Value), (undef : Value), (undef : Value), (undef : Value)], defers := [] }) ?assign ?body ?done ?stop
  case assign =>
    intro l x W K hK
    gi_wp2
    exact hK
  case body =>
    rintro l' pre ⟨v, s⟩ W ⟨⟨⟨hN, hB⟩, hS⟩, hm⟩ hpr hsp
    obtain ⟨A5, c5, e5⟩ := Kd.R_slice hpr
    simp only at e5
    subst e5
    obtain ⟨tl, htl⟩ := hsp
    have hlen : pre.length < xs.length := by rw [← htl]; simp
    have hsx : s = rd_L1 xs (pre.length : Int) := by
      rw [← htl]
      unfold rd_L1
      simp [List.getD_eq_getElem?_getD]
    clear htl
    subst hsx
    have hszM' := hB.size
    have h9 : Boxed W b9 3 (.int .i64 m) := (hB.block _ (by omega)).trans H9M.out
    have h8 : Boxed W b8 24 (.slice A3 xs.length c3) := (hB.block _ (by omega)).trans H8M.out
    have hXW : Kd.C (Kd.slice 3 (Kd.int .i64)) W A3 xs.length xs := Kd.F_now (Kd.F_step HX.out (fun k hk hlt => hB.block k hlt))
    have hs5 := (Kd.R_reads' hpr).2
    have p0 : (0 : Int) ≤ (pre.length : Int) := by omega
    have q0 : (pre.length : Int) < (xs.length : Int) := by omega
    obtain ⟨ad, A6, c6, e6, hx6, hl6, hi6⟩ := at_L1 hXW (pre.length : Int) p0 q0
    cases e6
    rw [Int.toNat_natCast] at hx6
    have hsm : paronymref01_Same.f k (rd_L1 xs (pre.length : Int)) (rd_L1 xs (pre.length : Int)) = some true := HSM.out _ (rdL_mem xs pre.length hlen)
    have hc9 := h9.cell
    have hc8 := h8.cell
    have hc10 := hN.cell
    have hf10 := hN.frozen
    have HN := Aside0.mk hN
    have HB := Aside0.mk hB
    have HB' : Aside0 (Below (b9 + 1) wM W) := ⟨hszM ▸ hB⟩
    have HS := Aside0.mk hS
    have HM := Aside0.mk hm
    have HS5' := Aside0.mk hs5
    have HI6 := Aside0.mk hi6
    have HL6 := Aside0.mk hl6
    have HSS := Aside0.mk hsm
    have HXW := Aside0.mk hXW
    clear hN hB hS hm hs5 hi6 hl6 hsm h8 h9 hpr hXW hszM'
    by_cases g1 : (pre.length : Int) < m
    · by_cases z : (0 : Int) < (pre.length : Int)
      · have p1 : (0 : Int) ≤ (pre.length : Int) - 1 := by omega
        have q1 : (pre.length : Int) - 1 < (xs.length : Int) := by omega
        obtain ⟨ad7, A7, c7, e7, hx7, hl7, hi7⟩ := at_L1 HXW.out ((pre.length : Int) - 1) p1 q1
        cases e7
        have hwr : IntKind.i64.wrap ((pre.length : Int) - 1) = (pre.length : Int) - 1 := by have := HLN.out; rw [i64_w]; unfold wrap64; omega
        have hcmp : paronymref01_Compare.f k (rd_L1 xs ((pre.length : Int) - 1)) (rd_L1 xs (pre.length : Int)) = some (-1) := by
          have := HCM.out (pre.length - 1) (by omega)
          have e1 : ((pre.length - 1 : Nat) : Int) = (pre.length : Int) - 1 := by omega
          have e2 : ((pre.length - 1 + 1 : Nat) : Int) = (pre.length : Int) := by omega
          rw [e1, e2] at this
          exact this
        have HI7 := Aside0.mk hi7
        have HL7 := Aside0.mk hl7
        have HCP := Aside0.mk hcmp
        have hx7n : W.cell? (ad.add (pre.length - 1)) = some (.slice A7 (rd_L1 xs ((pre.length : Int) - 1)).length c7) := by rw [← hx7]; congr 2; omega
        clear hi7 hl7 hcmp
        gi_wp2_with (first
          | (refine ⟨trivial, ?_⟩
             gi_at_call 20
             refine (CallsIn.inRound l' (callsIn_wide.2 (paronymref01_Same.calls k A5 c5 (rd_L1 xs (pre.length : Int)) A6 c6 (rd_L1 xs (pre.length : Int)) true _ HS5'.out.2 HS5'.out.1 HI6.out HL6.out HSS.out))).mono ?_
             rintro e w5 ⟨rfl, ⟨nd5, rfl⟩⟩)
          | (refine ⟨trivial, ?_⟩
             gi_at_call 22
             refine (CallsIn.inRound l' (callsIn_wide.2 (paronymref01_Compare.calls k A7 c7 (rd_L1 xs ((pre.length : Int) - 1)) A5 c5 (rd_L1 xs (pre.length : Int)) (-1) _ (Kd.C_drewN HI7.out _) HL7.out (Kd.C_drewN HS5'.out.2 _) HS5'.out.1 HCP.out))).mono ?_
             rintro e w5 ⟨rfl, ⟨nd6, rfl⟩⟩))
        exact txPost HN.out HB.out HS.out (by omega) (by omega) g1 (by have := HLN.out; unfold wrap64; omega)
      · have z1 : (pre.length : Int) ≤ 0 := by omega
        gi_wp2_with (first
          | (refine ⟨trivial, ?_⟩
             gi_at_call 20
             refine (CallsIn.inRound l' (callsIn_wide.2 (paronymref01_Same.calls k A5 c5 (rd_L1 xs (pre.length : Int)) A6 c6 (rd_L1 xs (pre.length : Int)) true _ HS5'.out.2 HS5'.out.1 HI6.out HL6.out HSS.out))).mono ?_
             rintro e w5 ⟨rfl, ⟨nd5, rfl⟩⟩))
        refine ⟨trivial, ?_⟩
        gi_wp2
        exact txPost HN.out HB.out HS.out (by omega) (by omega) g1 rfl
    · have em : (pre.length : Int) = m := by have := HM.out; omega
      gi_wp2
      refine ⟨KeepsFrom.refl _ _, ⟨⟨⟨?_, HB'.out⟩, HS.out⟩, rfl, ?_⟩⟩
      · rw [← em]; exact HN.out
      · rw [List.length_append]; simp; omega
  case done =>
    rintro D ys W hD hys ⟨⟨⟨hN, hB⟩, hS⟩, hm⟩ hK
    have hylen : (ys.length : Int) = (xs.length : Int) := by rw [← hys]; simp
    rw [hylen] at hN hm
    refine hK0 _ _ ?_
    exact txBehind k A0 c0 l a1 m (xs.length : Int) al xs s0 A3 c3 b8 b9 D w wM W HR HC HRA HAL HCN HSM HFI HHD HS4 HX H8M H9M hszM hb8 hb89 hmx0 hN (by unfold mn; split <;> omega) hB (by omega) ⟨hK⟩
  case stop =>
    rintro D c pre W hD hSp ⟨⟨⟨hN, hB⟩, hS⟩, rfl, hm⟩ hK
    obtain ⟨tl, htl⟩ := hSp
    have hlen : m < (xs.length : Int) := by
      rw [← htl]; simp; omega
    gi_wp2
    exact txBehind k A0 c0 l a1 m m al xs s0 A3 c3 b8 b9 D w wM W HR HC HRA HAL HCN HSM HFI HHD HS4 HX H8M H9M hszM hb8 hb89 hmx0 hN (by unfold mn; split <;> omega) hB (by omega) ⟨hK⟩

end Go.Proofs.Ytlipbiihemhieaa.Q

-- from Htxt
/- OrderTexts: the walk. -/
namespace Go.Proofs.Ytlipbiihemhieaa.Q
open Go.RowKit Go.Shelf Go.Proofs.YtlipbiihemhieaaW.PrintWords Go.Proofs.YtlipbiihemhieaaW.PrintLast Go.Proofs.YtlipbiihemhieaaW.PrintMore
set_option linter.unusedVariables false
set_option linter.unusedSimpArgs false
attribute [local go_sem] Oper.semAt_some
attribute [local go_sem] max2_mx min2_mn max_two min_two
set_option maxHeartbeats 2000000 in
set_option maxRecDepth 100000 in
theorem paronymlaw19_OrderTexts.calls (k : Nat) (A0 : Option Addr) (c0 : Nat) (l : List Int) (a1 a2 : Int) (xs : List (List Int)) (al : Bool) (s0 : List Int) (w : World) (hr0 : Kd.C (Kd.int .i64) w A0 l.length l) (hc0 : l.length ≤ c0)
    (H : l.length ≤ 4 → TextsAt k l (wrap64 (Int.tmod a1 5)) (mx 0 (mn a2 2000)) xs al s0) :
    Calls Try.prog 4 #[.slice A0 l.length c0, .int .u8 a1, .int .i64 a2] w fun e w' => e = .returned (.bool true) ∧ Below w.heap.size w w' := by
  have HR := Aside0.mk hr0
  have HC := Aside0.mk hc0
  have HT := Aside0.mk H
  clear hr0 hc0 H
  have HST := Aside0.mk (txSt.start w)
  refine (callsIn_wide (n := 10)).1 ?_
  refine callsIn_of_wp_marks Try.func4 rfl trivial ?_ rfl
  simp only [Try.ntmps4, List.size_toArray, List.length_cons, List.length_nil, Nat.reduceAdd, Nat.reduceSub, Array.replicate_succ, Array.replicate_zero, List.push_toArray, List.append_toArray, List.nil_append, List.cons_append]
  by_cases big : (l.length : Int) > 4
  · gi_wp2_with (first
      | (refine ⟨trivial, ?_⟩
         gi_at_call 14
         refine (callsIn_wide.2 (paronymlaw19_awake.calls0 _)).mono ?_
         rintro e w1 ⟨rfl, hb1⟩
         have n0 := Aside0.mk (HST.out.step hb1)
         clear HST hb1
         have HST := n0
         clear n0
         have hcell := HST.out.1.cell
         have hfz := HST.out.1.frozen))
    exact ⟨_, by simp [results, Try.results4, go_sem, hcell, hfz], rfl, HST.out.2.1.setCell (p := ⟨w.heap.size, 0, none⟩) (Nat.le_refl _) _⟩
  · have hle : l.length ≤ 4 := by omega
    obtain ⟨hra, hall, hnone, hpts, hclone, halpha, hsame, hcomp, hfirst, hhead, hcount, hlen⟩ := HT.out hle
    have HRA := Aside0.mk hra
    have HALL := Aside0.mk hall
    have HNONE := Aside0.mk hnone
    have HPTS := Aside0.mk hpts
    have HCL := Aside0.mk hclone
    have HAL := Aside0.mk halpha
    have HSM := Aside0.mk hsame
    have HCM := Aside0.mk hcomp
    have HFI := Aside0.mk hfirst
    have HHD := Aside0.mk hhead
    have HCN := Aside0.mk hcount
    have HLN := Aside0.mk hlen
    clear hra hall hnone hpts hclone halpha hsame hcomp hfirst hhead hcount hlen HT
    cases al with
    | true =>
      gi_wp2_with (first
        | (refine ⟨trivial, ?_⟩
           gi_at_call 14
           refine (callsIn_wide.2 (paronymlaw19_awake.calls0 _)).mono ?_
           rintro e w1 ⟨rfl, hb1⟩
           have n0 := Aside0.mk (HST.out.step hb1)
           clear HST hb1
           have HST := n0
           clear n0
           have HWS := Aside0.mk HST.out.2.2
           have HS8 := Aside0.mk (HST.out.step ((Below.refl _ w1).alloc (Nat.le_refl _) (.cells #[.slice none 0 0] 24)))
           have H8 : Aside0 (Boxed (w1.alloc (.cells #[.slice none 0 0] 24)) w1.heap.size 24 (.slice none 0 0)) := ⟨Boxed.new w1 _ _⟩
           clear HST
           have HST := HS8
           clear HS8)
        | (refine ⟨trivial, ?_⟩
           gi_at_call 15
           refine (callsIn_wide.2 (paronymref19_Alphabet.calls k A0 c0 l true _ (Kd.C_below HR.out HST.out.2.1) HC.out HRA.out)).mono ?_
           rintro e w2 ⟨rfl, ⟨nd, rfl⟩⟩
           have HS8 := Aside0.mk (HST.out.step (pw_below_drewN (Below.refl _ _) nd))
           clear HST
           have HST := HS8
           clear HS8
           have HB8 := Aside0.mk (pw_below_drewN (Below.refl (w1.alloc (.cells #[.slice none 0 0] 24)).heap.size (w1.alloc (.cells #[.slice none 0 0] 24))) nd))
        | (refine ⟨trivial, ?_⟩
           gi_at_call 16
           refine (callsIn_wide.2 (paronymref19_All.calls k A0 c0 l (fun _ => False) none 0 [] _ xs _ (Kd.C_below HR.out HST.out.2.1) HC.out (Kd.V_nil _ _ _ _ _) (HALL.out trivial))).mono ?_
           rintro e w3 ⟨v, rfl, hv, hb⟩
           obtain ⟨A3, c3, rfl, hl3, hC3⟩ := Kd.N_reads hv
           have hsz1 : w1.heap.size < (w1.alloc (.cells #[.slice none 0 0] 24)).heap.size := by simp
           have hszd : ((w1.alloc (.cells #[.slice none 0 0] 24)).drewN nd).heap.size = w1.heap.size + 1 := by simp
           have hlt3 := hb.size
           have HF : Aside0 (Kd.F (Kd.slice 3 (Kd.int .i64)) w3 (fun k => w1.heap.size < k) A3 xs.length xs) := ⟨Kd.F_mono (Kd.N_F hv) (fun k hk => hk.elim (fun h => False.elim h) (fun h => by omega))⟩
           have HXl := Aside0.mk hl3
           have HS3 := Aside0.mk (HST.out.step hb)
           have h83 : Boxed w3 w1.heap.size 24 (.slice none 0 0) := (hb.block _ (by omega)).trans ((HB8.out.block _ hsz1).trans H8.out)
           have hcell8 := h83.cell
           have hfz8 := h83.frozen
           have H83 := Aside0.mk h83
           have HSZ3 : Aside0 (w1.heap.size < w3.heap.size) := ⟨by omega⟩
           have HW1 : Aside0 (w.heap.size < w1.heap.size) := HWS
           clear HST hv hb hC3 hl3 h83 HB8 hszd hlt3 hsz1)
        | (refine ⟨trivial, ?_⟩
           gi_at_call 21
           have hsM : ((w3.setCell ⟨w1.heap.size, 0, none⟩ (.slice A3 xs.length c3)).alloc (.cells #[.int .i64 (mx 0 (mn a2 2000))] 3)).heap.size = w3.heap.size + 1 := by simp
           have hsI : (((w3.setCell ⟨w1.heap.size, 0, none⟩ (.slice A3 xs.length c3)).alloc (.cells #[.int .i64 (mx 0 (mn a2 2000))] 3)).alloc (.cells #[.int .i64 0] 3)).heap.size = w3.heap.size + 2 := by simp
           have HS4 := Aside0.mk ((HS3.out.set HW1.out (.slice A3 xs.length c3)).step ((Below.refl _ _).alloc (Nat.le_refl _) (.cells #[.int .i64 (mx 0 (mn a2 2000))] 3)))
           have HS5 := Aside0.mk (HS4.out.step ((Below.refl _ _).alloc (Nat.le_refl _) (.cells #[.int .i64 0] 3)))
           refine (callsIn_wide.2 (order_All.calls A0 c0 l _ l _ (Kd.C_below HR.out HS5.out.2.1) HC.out HCL.out)).mono ?_
           rintro e w4 ⟨v, rfl, hbx, hbn, hv, hb, hsz⟩))
      have hmx0 : 0 ≤ mx 0 (mn a2 2000) := by unfold mx; split <;> omega
      obtain ⟨wM, hWM⟩ : ∃ wM, (w3.setCell ⟨w1.heap.size, 0, none⟩ (.slice A3 xs.length c3)).alloc (.cells #[.int .i64 (mx 0 (mn a2 2000))] 3) = wM := ⟨_, rfl⟩
      have h8M : Boxed wM w1.heap.size 24 (.slice A3 xs.length c3) := by rw [← hWM]; exact (H83.out.set _).alloc _
      have h9M : Boxed wM w3.heap.size 3 (.int .i64 (mx 0 (mn a2 2000))) := by rw [← hWM]; have := Boxed.new (w3.setCell ⟨w1.heap.size, 0, none⟩ (.slice A3 xs.length c3)) 3 (.int .i64 (mx 0 (mn a2 2000))); simpa using this
      have hXM : Kd.F (Kd.slice 3 (Kd.int .i64)) wM (fun k => w.heap.size < k) A3 xs.length xs := by
        rw [← hWM]
        refine Kd.F_mono (ok := fun k => w1.heap.size < k) ?_ (fun k hk => Nat.lt_trans HW1.out hk)
        exact Kd.F_step HF.out (fun k hk hlt => by
          have h1 : ((w3.setCell ⟨w1.heap.size, 0, none⟩ (.slice A3 xs.length c3)).alloc (.cells #[.int .i64 (mx 0 (mn a2 2000))] 3)).heap[k]? = (w3.setCell ⟨w1.heap.size, 0, none⟩ (.slice A3 xs.length c3)).heap[k]? := Below.heap_alloc _ _ _ (by simp; exact hlt)
          exact h1.trans (Below.heap_setCell w3 ⟨w1.heap.size, 0, none⟩ _ k (by show k ≠ w1.heap.size; omega)))
      rw [hWM] at hsM hsI HS4 HS5 hbx hbn hv hb hsz

      obtain ⟨A4, c4, rfl⟩ := Kd.R_slice hv.out
      have hszM : wM.heap.size = w3.heap.size + 1 := hsM
      have h8lt := HSZ3.out
      rw [hsI] at hbx hbn hv hb hsz
      have hszI := hsz.out
      have hMI : Below wM.heap.size wM (wM.alloc (.cells #[.int .i64 0] 3)) := (Below.refl _ _).alloc (Nat.le_refl _) _
      have hM4 : Below wM.heap.size wM w4 := hMI.trans (hb.out.mono (by omega))
      have h10 : Boxed w4 (w3.heap.size + 1) 3 (.int .i64 0) := by
        have h1 := Boxed.new wM 3 (.int .i64 0)
        rw [hszM] at h1
        exact (hb.out.block _ (by omega)).trans h1
      have HXM := Aside0.mk hXM
      generalize hmm : mx 0 (mn a2 2000) = m at *
      exact txLoop k A0 c0 l a1 m true xs s0 A3 A4 c3 c4 w1.heap.size w3.heap.size w wM w4 HR HC HRA HAL HCN HSM HFI HHD HS4 ⟨hXM⟩ ⟨h8M⟩ ⟨h9M⟩ hszM HW1.out HSZ3.out hmx0 HPTS HCM HLN hszI hM4 h10 hbx hbn hv (by assumption)
    | false =>
      have hxs := HNONE.out rfl
      subst hxs
      gi_wp2_with (first
        | (refine ⟨trivial, ?_⟩
           gi_at_call 14
           refine (callsIn_wide.2 (paronymlaw19_awake.calls0 _)).mono ?_
           rintro e w1 ⟨rfl, hb1⟩
           have n0 := Aside0.mk (HST.out.step hb1)
           clear HST hb1
           have HST := n0
           clear n0
           have HWS := Aside0.mk HST.out.2.2
           have HS8 := Aside0.mk (HST.out.step ((Below.refl _ w1).alloc (Nat.le_refl _) (.cells #[.slice none 0 0] 24)))
           have H8 : Aside0 (Boxed (w1.alloc (.cells #[.slice none 0 0] 24)) w1.heap.size 24 (.slice none 0 0)) := ⟨Boxed.new w1 _ _⟩
           clear HST
           have HST := HS8
           clear HS8)
        | (refine ⟨trivial, ?_⟩
           gi_at_call 15
           refine (callsIn_wide.2 (paronymref19_Alphabet.calls k A0 c0 l false _ (Kd.C_below HR.out HST.out.2.1) HC.out HRA.out)).mono ?_
           rintro e w2 ⟨rfl, ⟨nd, rfl⟩⟩
           have HS8 := Aside0.mk (HST.out.step (pw_below_drewN (Below.refl _ _) nd))
           clear HST
           have HST := HS8
           clear HS8
           have hszd : ((w1.alloc (.cells #[.slice none 0 0] 24)).drewN nd).heap.size = w1.heap.size + 1 := by simp
           have hsz1 : w1.heap.size < (w1.alloc (.cells #[.slice none 0 0] 24)).heap.size := by simp
           have h83 : Boxed ((w1.alloc (.cells #[.slice none 0 0] 24)).drewN nd) w1.heap.size 24 (.slice none 0 0) := ((pw_below_drewN (Below.refl (w1.alloc (.cells #[.slice none 0 0] 24)).heap.size (w1.alloc (.cells #[.slice none 0 0] 24))) nd).block _ hsz1).trans H8.out
           obtain ⟨w3, hW3⟩ : ∃ w3, (w1.alloc (.cells #[.slice none 0 0] 24)).drewN nd = w3 := ⟨_, rfl⟩
           rw [hW3] at hszd h83 HST ⊢
           have hcell8 := h83.cell
           have H83 := Aside0.mk h83
           have HSZ3 : Aside0 (w1.heap.size < w3.heap.size) := ⟨by omega⟩
           have HW1 : Aside0 (w.heap.size < w1.heap.size) := HWS
           have HS3 := HST
           clear HST h83 hszd hsz1 hW3)
        | (refine ⟨trivial, ?_⟩
           gi_at_call 21
           have hsM : (w3.alloc (.cells #[.int .i64 (mx 0 (mn a2 2000))] 3)).heap.size = w3.heap.size + 1 := by simp
           have hsI : ((w3.alloc (.cells #[.int .i64 (mx 0 (mn a2 2000))] 3)).alloc (.cells #[.int .i64 0] 3)).heap.size = w3.heap.size + 2 := by simp
           have HS4 := Aside0.mk (HS3.out.step ((Below.refl _ _).alloc (Nat.le_refl _) (.cells #[.int .i64 (mx 0 (mn a2 2000))] 3)))
           have HS5 := Aside0.mk (HS4.out.step ((Below.refl _ _).alloc (Nat.le_refl _) (.cells #[.int .i64 0] 3)))
           refine (callsIn_wide.2 (order_All.calls A0 c0 l _ l _ (Kd.C_below HR.out HS5.out.2.1) HC.out HCL.out)).mono ?_
           rintro e w4 ⟨v, rfl, hbx, hbn, hv, hb, hsz⟩))
      have hmx0 : 0 ≤ mx 0 (mn a2 2000) := by unfold mx; split <;> omega
      obtain ⟨wM, hWM⟩ : ∃ wM, w3.alloc (.cells #[.int .i64 (mx 0 (mn a2 2000))] 3) = wM := ⟨_, rfl⟩
      have h8M : Boxed wM w1.heap.size 24 (.slice none 0 0) := by rw [← hWM]; exact H83.out.alloc _
      have h9M : Boxed wM w3.heap.size 3 (.int .i64 (mx 0 (mn a2 2000))) := by rw [← hWM]; have := Boxed.new w3 3 (.int .i64 (mx 0 (mn a2 2000))); simpa using this
      have hXM : Kd.F (Kd.slice 3 (Kd.int .i64)) wM (fun k => w.heap.size < k) none ([] : List (List Int)).length [] := Kd.N_F (Kd.N_nil (Kd.slice 3 (Kd.int .i64)) 0 wM 0 (fun k => w.heap.size < k))
      rw [hWM] at hsM hsI HS4 HS5 hbx hbn hv hb hsz

      obtain ⟨A4, c4, rfl⟩ := Kd.R_slice hv.out
      have hszM : wM.heap.size = w3.heap.size + 1 := hsM
      have h8lt := HSZ3.out
      rw [hsI] at hbx hbn hv hb hsz
      have hszI := hsz.out
      have hMI : Below wM.heap.size wM (wM.alloc (.cells #[.int .i64 0] 3)) := (Below.refl _ _).alloc (Nat.le_refl _) _
      have hM4 : Below wM.heap.size wM w4 := hMI.trans (hb.out.mono (by omega))
      have h10 : Boxed w4 (w3.heap.size + 1) 3 (.int .i64 0) := by
        have h1 := Boxed.new wM 3 (.int .i64 0)
        rw [hszM] at h1
        exact (hb.out.block _ (by omega)).trans h1
      have HXM := Aside0.mk hXM
      generalize hmm : mx 0 (mn a2 2000) = m at *
      exact txLoop k A0 c0 l a1 m false [] s0 none A4 0 c4 w1.heap.size w3.heap.size w wM w4 HR HC HRA HAL HCN HSM HFI HHD HS4 ⟨hXM⟩ ⟨h8M⟩ ⟨h9M⟩ hszM HW1.out HSZ3.out hmx0 HPTS HCM HLN hszI hM4 h10 hbx hbn hv (by assumption)

end Go.Proofs.Ytlipbiihemhieaa.Q

-- from Qf5
-- Made by hp.py, a program of this session, with the kit's printer. Not trusted: Lean checks it.
namespace Go.Proofs.Ytlipbiihemhieaa.Q
open Go.RowKit Go.Proofs.YtlipbiihemhieaaW.PrintWords Go.Proofs.YtlipbiihemhieaaW.PrintLast Go.Proofs.YtlipbiihemhieaaW.PrintMore
attribute [local go_sem] max2_int min2_int max_two min_two max_three min_three max_four min_four   -- for this text's walks alone
set_option linter.unusedVariables false
set_option linter.unusedSimpArgs false

/-! ### paronymlaw19_OrderCounts: function 5 -/
mutual
def paronymlaw19_OrderCounts.j0 : Nat → List Int → Int → Int → Bool → Option (Bool)
  | 0, _, _, _, _ => none
  | k + 1, x0, x1, x2, x24 => if x24 = true then ((paronymlaw19_awake.f k).bind fun t102 => (some t102)) else (paronymlaw19_OrderCounts.l0 k x0 x1 x2 0 1 0)
def paronymlaw19_OrderCounts.l0 : Nat → List Int → Int → Int → Int → Int → Int → Option (Bool)
  | 0, _, _, _, _, _, _ => none
  | k + 1, x0, x1, x2, x7, x8, x9 => if x9 < x1 then (if x7 < x2 then (if (x0.length : Int) > 0 then ((paronymref19_Alphabet.f k x0).bind fun t103 => (if t103 = true then (paronymlaw19_OrderCounts.l0 k x0 x1 x2 (wrap64 (x7 + (mn (wrap64 (x8 * (x0.length : Int))) 2000000))) (mn (wrap64 (x8 * (x0.length : Int))) 2000000) (wrap64 (x9 + 1))) else ((order_Count.f k x0 x1 x2).bind fun t104 => (some (t104 == (mx 0 (mn x7 x2))))))) else ((order_Count.f k x0 x1 x2).bind fun t105 => (some (t105 == (mx 0 (mn x7 x2)))))) else ((order_Count.f k x0 x1 x2).bind fun t106 => (some (t106 == (mx 0 (mn x7 x2)))))) else ((order_Count.f k x0 x1 x2).bind fun t107 => (some (t107 == (mx 0 (mn x7 x2)))))
end
def paronymlaw19_OrderCounts.f (k : Nat) (l0 : List Int) (a1 : Int) (a2 : Int) : Option (Bool) := (paronymlaw19_awake.f k).bind fun t101 => (if t101 = true then (if (l0.length : Int) > 60 then (paronymlaw19_OrderCounts.j0 k l0 a1 a2 true) else (if a1 > 200 then (paronymlaw19_OrderCounts.j0 k l0 a1 a2 true) else (paronymlaw19_OrderCounts.j0 k l0 a1 a2 (decide (a2 > 1000000))))) else (paronymlaw19_OrderCounts.j0 k l0 a1 a2 true))
theorem paronymlaw19_OrderCounts.mono_l : ∀ k, (∀ y0 y1 y2 y3, LeO (paronymlaw19_OrderCounts.j0 k y0 y1 y2 y3) (paronymlaw19_OrderCounts.j0 (k + 1) y0 y1 y2 y3)) ∧ (∀ y0 y1 y2 y3 y4 y5, LeO (paronymlaw19_OrderCounts.l0 k y0 y1 y2 y3 y4 y5) (paronymlaw19_OrderCounts.l0 (k + 1) y0 y1 y2 y3 y4 y5))
  | 0 => ⟨fun _ _ _ _ r h => by simp [paronymlaw19_OrderCounts.j0] at h, fun _ _ _ _ _ _ r h => by simp [paronymlaw19_OrderCounts.l0] at h⟩
  | k + 1 => by
    obtain ⟨ih0, ih1⟩ := paronymlaw19_OrderCounts.mono_l k
    refine ⟨?_, ?_⟩
    · intro y0 y1 y2 y3
      unfold paronymlaw19_OrderCounts.j0
      repeat' first
      | (with_reducible exact ih0 _ _ _ _)
      | (with_reducible exact ih1 _ _ _ _ _ _)
      | (with_reducible exact order_Count.mono _ _ _ _)
      | (with_reducible exact paronymlaw19_awake.mono _)
      | (with_reducible exact paronymref19_Alphabet.mono _ _)
      | (with_reducible exact LeO.refl _)
      | (with_reducible exact LeO.none _)
      | (with_reducible refine LeO.ite ?_ ?_)
      | (with_reducible refine LeO.bind ?_ (fun _ => ?_))
      | exact ih0 _ _ _ _
      | exact ih1 _ _ _ _ _ _
      | exact order_Count.mono _ _ _ _
      | exact paronymlaw19_awake.mono _
      | exact paronymref19_Alphabet.mono _ _
      | exact LeO.none _
      | refine LeO.ite ?_ ?_
      | refine LeO.bind ?_ (fun _ => ?_)
    · intro y0 y1 y2 y3 y4 y5
      unfold paronymlaw19_OrderCounts.l0
      repeat' first
      | (with_reducible exact ih0 _ _ _ _)
      | (with_reducible exact ih1 _ _ _ _ _ _)
      | (with_reducible exact order_Count.mono _ _ _ _)
      | (with_reducible exact paronymlaw19_awake.mono _)
      | (with_reducible exact paronymref19_Alphabet.mono _ _)
      | (with_reducible exact LeO.refl _)
      | (with_reducible exact LeO.none _)
      | (with_reducible refine LeO.ite ?_ ?_)
      | (with_reducible refine LeO.bind ?_ (fun _ => ?_))
      | exact ih0 _ _ _ _
      | exact ih1 _ _ _ _ _ _
      | exact order_Count.mono _ _ _ _
      | exact paronymlaw19_awake.mono _
      | exact paronymref19_Alphabet.mono _ _
      | exact LeO.none _
      | refine LeO.ite ?_ ?_
      | refine LeO.bind ?_ (fun _ => ?_)
theorem paronymlaw19_OrderCounts.mono : ∀ a0 a1 a2 k, LeO (paronymlaw19_OrderCounts.f k a0 a1 a2) (paronymlaw19_OrderCounts.f (k + 1) a0 a1 a2) := by
  intro a0 a1 a2 k
  obtain ⟨ih0, ih1⟩ := paronymlaw19_OrderCounts.mono_l k
  unfold paronymlaw19_OrderCounts.f
  repeat' first
      | (with_reducible exact ih0 _ _ _ _)
      | (with_reducible exact ih1 _ _ _ _ _ _)
      | (with_reducible exact order_Count.mono _ _ _ _)
      | (with_reducible exact paronymlaw19_awake.mono _)
      | (with_reducible exact paronymref19_Alphabet.mono _ _)
      | (with_reducible exact LeO.refl _)
      | (with_reducible exact LeO.none _)
      | (with_reducible refine LeO.ite ?_ ?_)
      | (with_reducible refine LeO.bind ?_ (fun _ => ?_))
      | exact ih0 _ _ _ _
      | exact ih1 _ _ _ _ _ _
      | exact order_Count.mono _ _ _ _
      | exact paronymlaw19_awake.mono _
      | exact paronymref19_Alphabet.mono _ _
      | exact LeO.none _
      | refine LeO.ite ?_ ?_
      | refine LeO.bind ?_ (fun _ => ?_)
set_option maxHeartbeats 8000000 in
set_option maxRecDepth 100000 in
theorem paronymlaw19_OrderCounts.calls (k : Nat) (A0 : Option Addr) (c0 : Nat) (l0 : List Int) (a1 : Int) (a2 : Int) (r : Bool) (w : World) (hr0 : Kd.C (Kd.int .i64) w A0 l0.length l0) (hc0 : l0.length ≤ c0) (h : paronymlaw19_OrderCounts.f k l0 a1 a2 = some r) :
    Calls Try.prog 5 #[.slice A0 l0.length c0, .int .i64 a1, .int .i64 a2] w fun e w' => e = .returned (.bool r) ∧ Below w.heap.size w w' := by
  have HR0 := Aside0.mk hr0
  have HC0 := Aside0.mk hc0
  clear hr0 hc0
  have HB := Aside0.mk (Below.refl w.heap.size w)
  have H : ((paronymlaw19_awake.f k).bind fun t101 => (if t101 = true then (if (l0.length : Int) > 60 then (paronymlaw19_OrderCounts.j0 k l0 a1 a2 true) else (if a1 > 200 then (paronymlaw19_OrderCounts.j0 k l0 a1 a2 true) else (paronymlaw19_OrderCounts.j0 k l0 a1 a2 (decide (a2 > 1000000))))) else (paronymlaw19_OrderCounts.j0 k l0 a1 a2 true))) = some r := h
  clear h
  have HC4 := Aside0.mk H
  clear H
  go_enter Try.func5, Try.ntmps5
  go_upto_region 1 with (fail)
  go_cut [24] (fun v24 wc => ∃ (kq : Nat) (x24_3 : Bool), v24 = .bool x24_3 ∧ Aside0 (paronymlaw19_OrderCounts.j0 kq l0 a1 a2 x24_3 = some r) ∧ Aside0 (kq ≤ k) ∧ Aside0 (Below w.heap.size w wc))
  case first =>
    have H := HC4.out
    clear HC4
    replace H := Option.bind_eq_some_iff.mp H
    obtain ⟨t101, A50, H⟩ := H
    replace H : (if t101 = true then (if (l0.length : Int) > 60 then (paronymlaw19_OrderCounts.j0 k l0 a1 a2 true) else (if a1 > 200 then (paronymlaw19_OrderCounts.j0 k l0 a1 a2 true) else (paronymlaw19_OrderCounts.j0 k l0 a1 a2 (decide (a2 > 1000000))))) else (paronymlaw19_OrderCounts.j0 k l0 a1 a2 true)) = some r := H
    have A5 := Aside0.mk A50
    clear A50
    by_cases c6 : t101 = true
    · subst c6
      have H1 : (if (l0.length : Int) > 60 then (paronymlaw19_OrderCounts.j0 k l0 a1 a2 true) else (if a1 > 200 then (paronymlaw19_OrderCounts.j0 k l0 a1 a2 true) else (paronymlaw19_OrderCounts.j0 k l0 a1 a2 (decide (a2 > 1000000))))) = some r := by rw [if_pos rfl] at H; exact H
      clear H
      have H := H1
      clear H1
      by_cases c7 : (l0.length : Int) > 60
      · rw [if_pos c7] at H
        have c7b0 : decide (60 < (l0.length : Int)) = true := decide_eq_true c7
        have c7b1 : decide (60 < l0.length) = true := decide_eq_true (by omega)
        clear c7
        (first | rw [c7b0] | (simp only [i64_w, i32_w]; rw [c7b0]) | rw [c7b1] | (simp only [i64_w, i32_w]; rw [c7b1]) | skip)
        have H' := Aside0.mk H
        clear H
        go_wp2_with (first | ((with_reducible refine gate_callee (f := 14) rfl ?_); refine goesL_ (some 10) rfl rfl Try.func14 (by kernel_rfl) rfl #[] rfl (by (try simp only [List.map_toArray, List.map_cons, List.map_nil]); first | done | rfl | (simp only [List.length_drop, List.length_take]; rfl)) ?_; (with_reducible refine (paronymlaw19_awake.calls k  true _ A5.out).mono ?_); rintro e w8 ⟨rfl, hb⟩; refine ⟨_, rfl, ?_⟩; have n0_ := Aside0.mk (below_step (by repeat (first | (with_reducible first | exact HB.out | apply below_alloc | apply pw_below_drewN | apply below_drew1) | exact HB.out)) hb); clear HB; have HB := n0_; clear n0_; (try clear hb); (try clear hb2); (try clear hk); (try clear hi)))
        go_meet
        case rel => exact ⟨_, (true), (by first | rfl | (simp; done) | (simp [*]; done)), H', ⟨by first | omega | exact Nat.le_refl _⟩, ⟨by repeat (first | (with_reducible first | exact HB.out | apply below_alloc | apply pw_below_drewN | apply below_drew1) | exact HB.out)⟩⟩
      · rw [if_neg c7] at H
        have c7b0 : decide (60 < (l0.length : Int)) = false := decide_eq_false c7
        have c7b1 : decide (60 < l0.length) = false := decide_eq_false (by omega)
        clear c7
        (first | rw [c7b0] | (simp only [i64_w, i32_w]; rw [c7b0]) | rw [c7b1] | (simp only [i64_w, i32_w]; rw [c7b1]) | skip)
        by_cases c9 : a1 > 200
        · rw [if_pos c9] at H
          have c9b0 : decide (200 < a1) = true := decide_eq_true c9
          clear c9
          have H' := Aside0.mk H
          clear H
          go_wp2_with (first | ((with_reducible refine gate_callee (f := 14) rfl ?_); refine goesL_ (some 10) rfl rfl Try.func14 (by kernel_rfl) rfl #[] rfl (by (try simp only [List.map_toArray, List.map_cons, List.map_nil]); first | done | rfl | (simp only [List.length_drop, List.length_take]; rfl)) ?_; (with_reducible refine (paronymlaw19_awake.calls k  true _ A5.out).mono ?_); rintro e w10 ⟨rfl, hb⟩; refine ⟨_, rfl, ?_⟩; have n0_ := Aside0.mk (below_step (by repeat (first | (with_reducible first | exact HB.out | apply below_alloc | apply pw_below_drewN | apply below_drew1) | exact HB.out)) hb); clear HB; have HB := n0_; clear n0_; (try clear hb); (try clear hb2); (try clear hk); (try clear hi)))
          go_meet
          case rel => exact ⟨_, (true), (by first | rfl | (simp; done) | (simp [*]; done)), H', ⟨by first | omega | exact Nat.le_refl _⟩, ⟨by repeat (first | (with_reducible first | exact HB.out | apply below_alloc | apply pw_below_drewN | apply below_drew1) | exact HB.out)⟩⟩
        · rw [if_neg c9] at H
          have c9b0 : decide (200 < a1) = false := decide_eq_false c9
          clear c9
          have H' := Aside0.mk H
          clear H
          go_wp2_with (first | ((with_reducible refine gate_callee (f := 14) rfl ?_); refine goesL_ (some 10) rfl rfl Try.func14 (by kernel_rfl) rfl #[] rfl (by (try simp only [List.map_toArray, List.map_cons, List.map_nil]); first | done | rfl | (simp only [List.length_drop, List.length_take]; rfl)) ?_; (with_reducible refine (paronymlaw19_awake.calls k  true _ A5.out).mono ?_); rintro e w11 ⟨rfl, hb⟩; refine ⟨_, rfl, ?_⟩; have n0_ := Aside0.mk (below_step (by repeat (first | (with_reducible first | exact HB.out | apply below_alloc | apply pw_below_drewN | apply below_drew1) | exact HB.out)) hb); clear HB; have HB := n0_; clear n0_; (try clear hb); (try clear hb2); (try clear hk); (try clear hi)))
          go_meet
          case rel => exact ⟨_, (decide (a2 > 1000000)), (by first | rfl | (simp; done) | (simp [*]; done)), H', ⟨by first | omega | exact Nat.le_refl _⟩, ⟨by repeat (first | (with_reducible first | exact HB.out | apply below_alloc | apply pw_below_drewN | apply below_drew1) | exact HB.out)⟩⟩
    · replace c6 := Bool.eq_false_iff.mpr c6
      subst c6
      have H1 : (paronymlaw19_OrderCounts.j0 k l0 a1 a2 true) = some r := by rw [if_neg (show ¬ (false = true) by decide)] at H; exact H
      clear H
      have H := H1
      clear H1
      have H' := Aside0.mk H
      clear H
      go_wp2_with (first | ((with_reducible refine gate_callee (f := 14) rfl ?_); refine goesL_ (some 10) rfl rfl Try.func14 (by kernel_rfl) rfl #[] rfl (by (try simp only [List.map_toArray, List.map_cons, List.map_nil]); first | done | rfl | (simp only [List.length_drop, List.length_take]; rfl)) ?_; (with_reducible refine (paronymlaw19_awake.calls k  false _ A5.out).mono ?_); rintro e w12 ⟨rfl, hb⟩; refine ⟨_, rfl, ?_⟩; have n0_ := Aside0.mk (below_step (by repeat (first | (with_reducible first | exact HB.out | apply below_alloc | apply pw_below_drewN | apply below_drew1) | exact HB.out)) hb); clear HB; have HB := n0_; clear n0_; (try clear hb); (try clear hb2); (try clear hk); (try clear hi)))
      go_meet
      case rel => exact ⟨_, (true), (by first | rfl | (simp; done) | (simp [*]; done)), H', ⟨by first | omega | exact Nat.le_refl _⟩, ⟨by repeat (first | (with_reducible first | exact HB.out | apply below_alloc | apply pw_below_drewN | apply below_drew1) | exact HB.out)⟩⟩
  case rest =>
    clear HC4
    try clear c1
    try clear p2
    try clear c5
    try clear c6
    try clear c7
    try clear c7b0
    try clear c7b1
    try clear c9
    try clear c9b0
    obtain ⟨kq, x24_3, rfl, HA, HJ3, HB⟩ := hcut
    cases kq with
    | zero => exact absurd HA.out (by simp [paronymlaw19_OrderCounts.j0])
    | succ kj3 =>
      have H := HA.out
      clear HA
      simp only [paronymlaw19_OrderCounts.j0] at H
      by_cases c13 : x24_3 = true
      · subst c13
        have H1 : ((paronymlaw19_awake.f kj3).bind fun t102 => (some t102)) = some r := by rw [if_pos rfl] at H; exact H
        clear H
        have H := H1
        clear H1
        replace H := Option.bind_eq_some_iff.mp H
        obtain ⟨t102, A140, H⟩ := H
        replace H : (some t102) = some r := H
        have A14 := Aside0.mk A140
        clear A140
        obtain rfl := Option.some.inj H
        go_wp2_with (first | ((with_reducible refine gate_callee (f := 14) rfl ?_); refine goesL_ (some 25) rfl rfl Try.func14 (by kernel_rfl) rfl #[] rfl (by (try simp only [List.map_toArray, List.map_cons, List.map_nil]); first | done | rfl | (simp only [List.length_drop, List.length_take]; rfl)) ?_; (with_reducible refine (paronymlaw19_awake.calls kj3  t102 _ A14.out).mono ?_); rintro e w15 ⟨rfl, hb⟩; refine ⟨_, rfl, ?_⟩; have n0_ := Aside0.mk (below_step (by repeat (first | (with_reducible first | exact HB.out | apply below_alloc | apply pw_below_drewN | apply below_drew1) | exact HB.out)) hb); clear HB; have HB := n0_; clear n0_; (try clear hb); (try clear hb2); (try clear hk); (try clear hi)))
        go_ret
        exact ⟨by first | rfl | (simp [errW_none, errW_some] <;> rfl) | (simp [*, errW_none, errW_some] <;> rfl), by repeat (first | (with_reducible first | exact HB.out | apply below_alloc | apply pw_below_drewN | apply below_drew1) | exact HB.out)⟩
      · replace c13 := Bool.eq_false_iff.mpr c13
        subst c13
        have H1 : (paronymlaw19_OrderCounts.l0 kj3 l0 a1 a2 0 1 0) = some r := by rw [if_neg (show ¬ (false = true) by decide)] at H; exact H
        clear H
        have H := H1
        clear H1
        have H' := Aside0.mk H
        clear H
        go_wp2
        go_loopg [7, 8, 9] kj3 (fun kq v7 v8 v9 w' => ∃ (x7_2 : Int) (x8_2 : Int) (x9_2 : Int), v7 = .int .i64 x7_2 ∧ v8 = .int .i64 x8_2 ∧ v9 = .int .i64 x9_2 ∧ Aside0 (paronymlaw19_OrderCounts.l0 kq l0 a1 a2 x7_2 x8_2 x9_2 = some r) ∧ Aside0 (kq ≤ kj3) ∧ Aside0 (Below w.heap.size w w'))
        case atStart => exact ⟨(0), (1), (0), (by first | rfl | (simp; done) | (simp [*]; done)), (by first | rfl | (simp; done) | (simp [*]; done)), (by first | rfl | (simp; done) | (simp [*]; done)), H', ⟨Nat.le_refl _⟩, ⟨by repeat (first | (with_reducible first | exact HB.out | apply below_alloc | apply pw_below_drewN | apply below_drew1) | exact HB.out)⟩⟩
        case round =>
          clear H'
          try clear c1
          try clear p2
          try clear c5
          try clear c6
          try clear c7
          try clear c7b0
          try clear c7b1
          try clear c9
          try clear c9b0
          try clear c13
          try clear c14
          try clear p2
          obtain ⟨x7_2, x8_2, x9_2, rfl, rfl, rfl, HA, HK2, HB⟩ := hrel
          cases gk with
          | zero => exact absurd HA.out (by simp [paronymlaw19_OrderCounts.l0])
          | succ k2 =>
            have H := HA.out
            clear HA
            simp only [paronymlaw19_OrderCounts.l0] at H
            by_cases c16 : x9_2 < a1
            · rw [if_pos c16] at H
              have c16b0 : decide (x9_2 < a1) = true := decide_eq_true c16
              clear c16
              by_cases c17 : x7_2 < a2
              · rw [if_pos c17] at H
                have c17b0 : decide (x7_2 < a2) = true := decide_eq_true c17
                clear c17
                by_cases c18 : (l0.length : Int) > 0
                · rw [if_pos c18] at H
                  have c18b0 : decide (0 < (l0.length : Int)) = true := decide_eq_true c18
                  have c18b1 : decide (0 < l0.length) = true := decide_eq_true (by omega)
                  clear c18
                  replace H := Option.bind_eq_some_iff.mp H
                  obtain ⟨t103, A190, H⟩ := H
                  replace H : (if t103 = true then (paronymlaw19_OrderCounts.l0 k2 l0 a1 a2 (wrap64 (x7_2 + (mn (wrap64 (x8_2 * (l0.length : Int))) 2000000))) (mn (wrap64 (x8_2 * (l0.length : Int))) 2000000) (wrap64 (x9_2 + 1))) else ((order_Count.f k2 l0 a1 a2).bind fun t104 => (some (t104 == (mx 0 (mn x7_2 a2)))))) = some r := H
                  have A19 := Aside0.mk A190
                  clear A190
                  by_cases c20 : t103 = true
                  · subst c20
                    have H1 : (paronymlaw19_OrderCounts.l0 k2 l0 a1 a2 (wrap64 (x7_2 + (mn (wrap64 (x8_2 * (l0.length : Int))) 2000000))) (mn (wrap64 (x8_2 * (l0.length : Int))) 2000000) (wrap64 (x9_2 + 1))) = some r := by rw [if_pos rfl] at H; exact H
                    clear H
                    have H := H1
                    clear H1
                    obtain ⟨ji21, hji21⟩ : ∃ j_ : Int, (mn (wrap64 (x8_2 * (l0.length : Int))) 2000000) = j_ := ⟨_, rfl⟩
                    replace H : (paronymlaw19_OrderCounts.l0 k2 l0 a1 a2 (wrap64 (x7_2 + (ji21))) ji21 (wrap64 (x9_2 + 1))) = some r := by first | (rw [hji21] at H; exact H) | (simp only [hji21] at H ⊢; exact H)
                    (try rw [hji21] at A19)
                    have hji21_ : (if 2000000 < (wrap64 (x8_2 * (l0.length : Int))) then 2000000 else (wrap64 (x8_2 * (l0.length : Int)))) = ji21 := hji21
                    have H' := Aside0.mk H
                    clear H
                    go_wp2_with (first | (go_at_call 15; (with_reducible refine (paronymref19_Alphabet.calls k2 _ _ l0 true _ ?side1 ?side2 A19.out).mono ?_); (case side1 => repeat (first | exact (Kd.C_below HR0.out HB.out) | (with_reducible refine Kd.C_alloc ?_ _) | (with_reducible refine Kd.C_drewN ?_ _) | (with_reducible refine Kd.C_drew ?_))); (case side2 => exact HC0.out); rintro e w' ⟨rfl, ⟨nd, rfl⟩⟩))
                    go_roundg k2
                    case measure => have := HJ3.out; have := HK2.out; omega
                    case rel => exact ⟨(wrap64 (x7_2 + (ji21))), (ji21), (wrap64 (x9_2 + 1)), (by first | rfl | (simp; done) | (simp only [← hji21] <;> (first | rfl | simp)) | (simp [*]; done)), (by first | rfl | (simp; done) | (simp only [← hji21] <;> (first | rfl | simp)) | (simp [*]; done)), (by first | rfl | (simp; done) | (simp [*]; done)), H', ⟨by have := HJ3.out; have := HK2.out; omega⟩, ⟨by repeat (first | (with_reducible first | exact HB.out | apply below_alloc | apply pw_below_drewN | apply below_drew1) | exact HB.out)⟩⟩
                  · replace c20 := Bool.eq_false_iff.mpr c20
                    subst c20
                    have H1 : ((order_Count.f k2 l0 a1 a2).bind fun t104 => (some (t104 == (mx 0 (mn x7_2 a2))))) = some r := by rw [if_neg (show ¬ (false = true) by decide)] at H; exact H
                    clear H
                    have H := H1
                    clear H1
                    replace H := Option.bind_eq_some_iff.mp H
                    obtain ⟨t104, A220, H⟩ := H
                    replace H : (some (t104 == (mx 0 (mn x7_2 a2)))) = some r := H
                    have A22 := Aside0.mk A220
                    clear A220
                    obtain ⟨ji23, hji23⟩ : ∃ j_ : Int, (mn x7_2 a2) = j_ := ⟨_, rfl⟩
                    replace H : (some (t104 == (mx 0 (ji23)))) = some r := by first | (rw [hji23] at H; exact H) | (simp only [hji23] at H ⊢; exact H)
                    (try rw [hji23] at A19)
                    (try rw [hji23] at A22)
                    have hji23_ : (if a2 < x7_2 then a2 else x7_2) = ji23 := hji23
                    obtain ⟨ji24, hji24⟩ : ∃ j_ : Int, (mx 0 (ji23)) = j_ := ⟨_, rfl⟩
                    replace H : (some (t104 == (ji24))) = some r := by first | (rw [hji24] at H; exact H) | (simp only [hji24] at H ⊢; exact H)
                    (try rw [hji24] at A19)
                    (try rw [hji24] at A22)
                    have hji24_ : (if 0 < (ji23) then (ji23) else 0) = ji24 := hji24
                    obtain rfl := Option.some.inj H
                    go_wp2_with (first | (go_at_call 15; (with_reducible refine (paronymref19_Alphabet.calls k2 _ _ l0 false _ ?side1 ?side2 A19.out).mono ?_); (case side1 => repeat (first | exact (Kd.C_below HR0.out HB.out) | (with_reducible refine Kd.C_alloc ?_ _) | (with_reducible refine Kd.C_drewN ?_ _) | (with_reducible refine Kd.C_drew ?_))); (case side2 => exact HC0.out); rintro e w' ⟨rfl, ⟨nd, rfl⟩⟩) | ((with_reducible refine gate_callee (f := 25) rfl ?_); refine goesL_ (some 56) rfl rfl Try.func25 (by kernel_rfl) rfl #[.slice A0 l0.length c0, .int .i64 a1, .int .i64 a2] rfl (by (try simp only [List.map_toArray, List.map_cons, List.map_nil]); first | done | rfl | (simp only [List.length_drop, List.length_take]; rfl)) ?_; (with_reducible refine (order_Count.calls k2 _ _ l0 a1 a2 t104 _ ?side1 ?side2 A22.out).mono ?_); (case side1 => repeat (first | exact (Kd.C_below HR0.out (by repeat (first | (with_reducible first | exact HB.out | apply below_alloc | apply pw_below_drewN | apply below_drew1) | exact HB.out))) | (with_reducible refine Kd.C_alloc ?_ _) | (with_reducible refine Kd.C_drewN ?_ _) | (with_reducible refine Kd.C_drew ?_))); (case side2 => exact HC0.out); rintro e w25 ⟨rfl, hb⟩; refine ⟨_, rfl, ?_⟩; have n0_ := Aside0.mk (below_step (by repeat (first | (with_reducible first | exact HB.out | apply below_alloc | apply pw_below_drewN | apply below_drew1) | exact HB.out)) hb); clear HB; have HB := n0_; clear n0_; (try clear hb); (try clear hb2); (try clear hk); (try clear hi)))
                    go_ret
                    exact ⟨by first | rfl | (simp [errW_none, errW_some] <;> rfl) | (simp only [← hji23, ← hji24]; first | rfl | (simp [errW_none, errW_some] <;> rfl)) | (simp [*, errW_none, errW_some] <;> rfl), by repeat (first | (with_reducible first | exact HB.out | apply below_alloc | apply pw_below_drewN | apply below_drew1) | exact HB.out)⟩
                · rw [if_neg c18] at H
                  have c18b0 : decide (0 < (l0.length : Int)) = false := decide_eq_false c18
                  have c18b1 : decide (0 < l0.length) = false := decide_eq_false (by omega)
                  clear c18
                  replace H := Option.bind_eq_some_iff.mp H
                  obtain ⟨t105, A260, H⟩ := H
                  replace H : (some (t105 == (mx 0 (mn x7_2 a2)))) = some r := H
                  have A26 := Aside0.mk A260
                  clear A260
                  obtain ⟨ji27, hji27⟩ : ∃ j_ : Int, (mn x7_2 a2) = j_ := ⟨_, rfl⟩
                  replace H : (some (t105 == (mx 0 (ji27)))) = some r := by first | (rw [hji27] at H; exact H) | (simp only [hji27] at H ⊢; exact H)
                  (try rw [hji27] at A26)
                  have hji27_ : (if a2 < x7_2 then a2 else x7_2) = ji27 := hji27
                  obtain ⟨ji28, hji28⟩ : ∃ j_ : Int, (mx 0 (ji27)) = j_ := ⟨_, rfl⟩
                  replace H : (some (t105 == (ji28))) = some r := by first | (rw [hji28] at H; exact H) | (simp only [hji28] at H ⊢; exact H)
                  (try rw [hji28] at A26)
                  have hji28_ : (if 0 < (ji27) then (ji27) else 0) = ji28 := hji28
                  obtain rfl := Option.some.inj H
                  go_wp2_with (first | ((with_reducible refine gate_callee (f := 25) rfl ?_); refine goesL_ (some 56) rfl rfl Try.func25 (by kernel_rfl) rfl #[.slice A0 l0.length c0, .int .i64 a1, .int .i64 a2] rfl (by (try simp only [List.map_toArray, List.map_cons, List.map_nil]); first | done | rfl | (simp only [List.length_drop, List.length_take]; rfl)) ?_; (with_reducible refine (order_Count.calls k2 _ _ l0 a1 a2 t105 _ ?side1 ?side2 A26.out).mono ?_); (case side1 => repeat (first | exact (Kd.C_below HR0.out HB.out) | (with_reducible refine Kd.C_alloc ?_ _) | (with_reducible refine Kd.C_drewN ?_ _) | (with_reducible refine Kd.C_drew ?_))); (case side2 => exact HC0.out); rintro e w29 ⟨rfl, hb⟩; refine ⟨_, rfl, ?_⟩; have n0_ := Aside0.mk (below_step (by repeat (first | (with_reducible first | exact HB.out | apply below_alloc | apply pw_below_drewN | apply below_drew1) | exact HB.out)) hb); clear HB; have HB := n0_; clear n0_; (try clear hb); (try clear hb2); (try clear hk); (try clear hi)))
                  go_ret
                  exact ⟨by first | rfl | (simp [errW_none, errW_some] <;> rfl) | (simp only [← hji27, ← hji28]; first | rfl | (simp [errW_none, errW_some] <;> rfl)) | (simp [*, errW_none, errW_some] <;> rfl), by repeat (first | (with_reducible first | exact HB.out | apply below_alloc | apply pw_below_drewN | apply below_drew1) | exact HB.out)⟩
              · rw [if_neg c17] at H
                have c17b0 : decide (x7_2 < a2) = false := decide_eq_false c17
                clear c17
                replace H := Option.bind_eq_some_iff.mp H
                obtain ⟨t106, A300, H⟩ := H
                replace H : (some (t106 == (mx 0 (mn x7_2 a2)))) = some r := H
                have A30 := Aside0.mk A300
                clear A300
                obtain ⟨ji31, hji31⟩ : ∃ j_ : Int, (mn x7_2 a2) = j_ := ⟨_, rfl⟩
                replace H : (some (t106 == (mx 0 (ji31)))) = some r := by first | (rw [hji31] at H; exact H) | (simp only [hji31] at H ⊢; exact H)
                (try rw [hji31] at A30)
                have hji31_ : (if a2 < x7_2 then a2 else x7_2) = ji31 := hji31
                obtain ⟨ji32, hji32⟩ : ∃ j_ : Int, (mx 0 (ji31)) = j_ := ⟨_, rfl⟩
                replace H : (some (t106 == (ji32))) = some r := by first | (rw [hji32] at H; exact H) | (simp only [hji32] at H ⊢; exact H)
                (try rw [hji32] at A30)
                have hji32_ : (if 0 < (ji31) then (ji31) else 0) = ji32 := hji32
                obtain rfl := Option.some.inj H
                go_wp2_with (first | ((with_reducible refine gate_callee (f := 25) rfl ?_); refine goesL_ (some 56) rfl rfl Try.func25 (by kernel_rfl) rfl #[.slice A0 l0.length c0, .int .i64 a1, .int .i64 a2] rfl (by (try simp only [List.map_toArray, List.map_cons, List.map_nil]); first | done | rfl | (simp only [List.length_drop, List.length_take]; rfl)) ?_; (with_reducible refine (order_Count.calls k2 _ _ l0 a1 a2 t106 _ ?side1 ?side2 A30.out).mono ?_); (case side1 => repeat (first | exact (Kd.C_below HR0.out HB.out) | (with_reducible refine Kd.C_alloc ?_ _) | (with_reducible refine Kd.C_drewN ?_ _) | (with_reducible refine Kd.C_drew ?_))); (case side2 => exact HC0.out); rintro e w33 ⟨rfl, hb⟩; refine ⟨_, rfl, ?_⟩; have n0_ := Aside0.mk (below_step (by repeat (first | (with_reducible first | exact HB.out | apply below_alloc | apply pw_below_drewN | apply below_drew1) | exact HB.out)) hb); clear HB; have HB := n0_; clear n0_; (try clear hb); (try clear hb2); (try clear hk); (try clear hi)))
                go_ret
                exact ⟨by first | rfl | (simp [errW_none, errW_some] <;> rfl) | (simp only [← hji31, ← hji32]; first | rfl | (simp [errW_none, errW_some] <;> rfl)) | (simp [*, errW_none, errW_some] <;> rfl), by repeat (first | (with_reducible first | exact HB.out | apply below_alloc | apply pw_below_drewN | apply below_drew1) | exact HB.out)⟩
            · rw [if_neg c16] at H
              have c16b0 : decide (x9_2 < a1) = false := decide_eq_false c16
              clear c16
              replace H := Option.bind_eq_some_iff.mp H
              obtain ⟨t107, A340, H⟩ := H
              replace H : (some (t107 == (mx 0 (mn x7_2 a2)))) = some r := H
              have A34 := Aside0.mk A340
              clear A340
              obtain ⟨ji35, hji35⟩ : ∃ j_ : Int, (mn x7_2 a2) = j_ := ⟨_, rfl⟩
              replace H : (some (t107 == (mx 0 (ji35)))) = some r := by first | (rw [hji35] at H; exact H) | (simp only [hji35] at H ⊢; exact H)
              (try rw [hji35] at A34)
              have hji35_ : (if a2 < x7_2 then a2 else x7_2) = ji35 := hji35
              obtain ⟨ji36, hji36⟩ : ∃ j_ : Int, (mx 0 (ji35)) = j_ := ⟨_, rfl⟩
              replace H : (some (t107 == (ji36))) = some r := by first | (rw [hji36] at H; exact H) | (simp only [hji36] at H ⊢; exact H)
              (try rw [hji36] at A34)
              have hji36_ : (if 0 < (ji35) then (ji35) else 0) = ji36 := hji36
              obtain rfl := Option.some.inj H
              go_wp2_with (first | ((with_reducible refine gate_callee (f := 25) rfl ?_); refine goesL_ (some 56) rfl rfl Try.func25 (by kernel_rfl) rfl #[.slice A0 l0.length c0, .int .i64 a1, .int .i64 a2] rfl (by (try simp only [List.map_toArray, List.map_cons, List.map_nil]); first | done | rfl | (simp only [List.length_drop, List.length_take]; rfl)) ?_; (with_reducible refine (order_Count.calls k2 _ _ l0 a1 a2 t107 _ ?side1 ?side2 A34.out).mono ?_); (case side1 => repeat (first | exact (Kd.C_below HR0.out HB.out) | (with_reducible refine Kd.C_alloc ?_ _) | (with_reducible refine Kd.C_drewN ?_ _) | (with_reducible refine Kd.C_drew ?_))); (case side2 => exact HC0.out); rintro e w37 ⟨rfl, hb⟩; refine ⟨_, rfl, ?_⟩; have n0_ := Aside0.mk (below_step (by repeat (first | (with_reducible first | exact HB.out | apply below_alloc | apply pw_below_drewN | apply below_drew1) | exact HB.out)) hb); clear HB; have HB := n0_; clear n0_; (try clear hb); (try clear hb2); (try clear hk); (try clear hi)))
              go_ret
              exact ⟨by first | rfl | (simp [errW_none, errW_some] <;> rfl) | (simp only [← hji35, ← hji36]; first | rfl | (simp [errW_none, errW_some] <;> rfl)) | (simp [*, errW_none, errW_some] <;> rfl), by repeat (first | (with_reducible first | exact HB.out | apply below_alloc | apply pw_below_drewN | apply below_drew1) | exact HB.out)⟩

/-- THE ONE PURE STATEMENT of paronymlaw19_OrderCounts: yours. -/
def paronymlaw19_OrderCounts.Pure : Prop := ∀ (l0 : List Int) (a1 : Int) (a2 : Int), l0.length ≤ maxLen → l0.length * 8 ≤ 140737488351232 → (∀ x ∈ l0, (Lit.int .i64 x).wf = true) → (Lit.int .i64 a1).wf = true → (Lit.int .i64 a2).wf = true → ∃ k, paronymlaw19_OrderCounts.f k l0 a1 a2 = some true
theorem paronymlaw19_OrderCounts.walk (P : paronymlaw19_OrderCounts.Pure) (a0 : Option Addr) (len0 cap0 : Nat) (z0 : List Int) (a1 : Int) (a2 : Int) (w : World) (w0 : (a0 = none ∧ len0 = 0 ∧ cap0 = 0 ∧ z0 = []) ∨ ∃ x, a0 = some x ∧ len0 ≤ cap0 ∧ cap0 ≤ maxLen ∧ z0.length = cap0 ∧ (∀ i, i < z0.length → w.cell? (x.add i) = some (.int .i64 (z0.getD i 0))) ∧ ∀ n ∈ z0, (Lit.int .i64 n).wf = true) (y0 : len0 * 8 ≤ 140737488351232) (w1 : (Lit.int .i64 a1).wf = true) (w2 : (Lit.int .i64 a2).wf = true) :
    Calls Try.prog 5 #[.slice a0 len0 cap0, .int .i64 a1, .int .i64 a2] w fun e w' => e = .returned (.bool true) ∧ Below w.heap.size w w' := by
  obtain ⟨l0, rfl, hr0, hm0, hw0, hc0⟩ := ReadsInt.ofRowC w0
  obtain ⟨k, h⟩ := P l0 a1 a2 hm0 y0 hw0 w1 w2
  refine (paronymlaw19_OrderCounts.calls k _ _ l0 a1 a2 true w (Kd.C_of_reads (d := (0 : Int)) (h1 := fun _ => rfl) hr0) hc0 h).mono ?_
  rintro e w' ⟨rfl, hd⟩
  exact ⟨rfl, hd⟩

end Go.Proofs.Ytlipbiihemhieaa.Q

-- from K
/- Small lemmas on lists, octets and rounds, for the plain laws of this seat. No condition. -/
namespace Go.Proofs.Ytlipbiihemhieaa.K
set_option linter.unusedVariables false
set_option linter.unusedSimpArgs false
open Go.RowKit Go.Proofs.YtlipbiihemhieaaW.PrintWords

theorem w64 {n : Int} (h0 : -9223372036854775808 ≤ n) (h1 : n ≤ 9223372036854775807) : wrap64 n = n := by unfold wrap64; omega
theorem rd_nat (l : List Int) (i : Nat) (h : i < l.length) : rd l (i : Int) = l[i] := by
  unfold rd; simp [List.getD_eq_getElem?_getD, List.getElem?_eq_getElem h]
theorem rd_mem {l : List Int} {i : Int} (h0 : 0 ≤ i) (h1 : i < (l.length : Int)) : rd l i ∈ l := by
  obtain ⟨n, rfl⟩ := Int.eq_ofNat_of_zero_le h0
  rw [rd_nat l n (by omega)]
  exact List.getElem_mem _
theorem rd_append_left {l m : List Int} {i : Int} (h0 : 0 ≤ i) (h1 : i < (l.length : Int)) : rd (l ++ m) i = rd l i := by
  unfold rd
  simp only [List.getD_eq_getElem?_getD]
  rw [List.getElem?_append_left (by omega)]
theorem rd_append_right {l m : List Int} {i : Int} (h0 : (l.length : Int) ≤ i) : rd (l ++ m) i = rd m (i - l.length) := by
  unfold rd
  simp only [List.getD_eq_getElem?_getD]
  rw [List.getElem?_append_right (by omega)]
  congr 2
  omega
theorem rd_map {f : Int → Int} {l : List Int} {i : Int} (h0 : 0 ≤ i) (h1 : i < (l.length : Int)) : rd (l.map f) i = f (rd l i) := by
  obtain ⟨n, rfl⟩ := Int.eq_ofNat_of_zero_le h0
  rw [rd_nat _ n (by simpa using h1), rd_nat l n (by omega)]
  simp
theorem rd_cons_zero (x : Int) (l : List Int) : rd (x :: l) 0 = x := rfl
theorem rd_drop {l : List Int} {n : Nat} {i : Int} (h0 : 0 ≤ i) : rd (l.drop n) i = rd l (n + i) := by
  unfold rd
  simp only [List.getD_eq_getElem?_getD, List.getElem?_drop]
  congr 2
  omega
theorem rd_take {l : List Int} {n : Nat} {i : Int} (h0 : 0 ≤ i) (h1 : i < (n : Int)) : rd (l.take n) i = rd l i := by
  unfold rd
  simp only [List.getD_eq_getElem?_getD]
  rw [List.getElem?_take_of_lt (by omega)]
theorem take_snoc (l : List Int) (i : Nat) (h : i < l.length) : l.take (i + 1) = l.take i ++ [rd l (i : Int)] := by
  rw [rd_nat l i h, List.take_succ_eq_append_getElem h]
theorem drop_cons (l : List Int) (i : Nat) (h : i < l.length) : l.drop i = rd l (i : Int) :: l.drop (i + 1) := by
  rw [rd_nat l i h, List.drop_eq_getElem_cons h]

/-! octets -/
def Oct (l : List Int) : Prop := ∀ x ∈ l, 0 ≤ x ∧ x ≤ 255
theorem oct_of_wf {l : List Int} (h : ∀ x ∈ l, (Lit.int .u8 x).wf = true) : Oct l := fun x hx => by
  have := h x hx
  simp only [Lit.wf, Bool.and_eq_true, decide_eq_true_eq] at this
  have e1 : IntKind.u8.min = 0 := rfl
  have e2 : IntKind.u8.max = 255 := rfl
  omega
theorem i64_of_wf {x : Int} (h : (Lit.int .i64 x).wf = true) : -9223372036854775808 ≤ x ∧ x ≤ 9223372036854775807 := by
  simp only [Lit.wf, Bool.and_eq_true, decide_eq_true_eq] at h
  have e1 : IntKind.i64.min = -9223372036854775808 := rfl
  have e2 : IntKind.i64.max = 9223372036854775807 := rfl
  omega
theorem u8_of_wf {x : Int} (h : (Lit.int .u8 x).wf = true) : 0 ≤ x ∧ x ≤ 255 := by
  simp only [Lit.wf, Bool.and_eq_true, decide_eq_true_eq] at h
  have e1 : IntKind.u8.min = 0 := rfl
  have e2 : IntKind.u8.max = 255 := rfl
  omega
theorem Oct.map {l : List Int} {f : Int → Int} (h : ∀ x, 0 ≤ x → x ≤ 255 → 0 ≤ f x ∧ f x ≤ 255) (hl : Oct l) : Oct (l.map f) := fun y hy => by
  obtain ⟨x, hx, rfl⟩ := List.mem_map.1 hy
  exact h x (hl x hx).1 (hl x hx).2
theorem Oct.append {l m : List Int} (h : Oct l) (k : Oct m) : Oct (l ++ m) := fun x hx => by
  rcases List.mem_append.1 hx with hx | hx
  · exact h x hx
  · exact k x hx
theorem Oct.take {l : List Int} (h : Oct l) (n : Nat) : Oct (l.take n) := fun x hx => h x (List.mem_of_mem_take hx)
theorem Oct.drop {l : List Int} (h : Oct l) (n : Nat) : Oct (l.drop n) := fun x hx => h x (List.mem_of_mem_drop hx)
theorem Oct.rd {l : List Int} (h : Oct l) {i : Int} (h0 : 0 ≤ i) (h1 : i < (l.length : Int)) : 0 ≤ rd l i ∧ rd l i ≤ 255 := h _ (rd_mem h0 h1)
theorem u8_back {x : Int} (h : 0 ≤ x ∧ x ≤ 255) : ((UInt8.ofNat x.toNat).toNat : Int) = x := by
  simp only [UInt8.toNat_ofNat']
  omega
theorem bt_str {l : List Int} (h : Oct l) {i : Int} (h0 : 0 ≤ i) (h1 : i < (l.length : Int)) : bt (strOfNums l) i = rd l i := by
  obtain ⟨n, rfl⟩ := Int.eq_ofNat_of_zero_le h0
  have hn : n < l.length := by omega
  have hs : n < (strOfNums l).size := by rw [strOfNums_size]; exact hn
  have hb := h.rd h0 h1
  rw [rd_nat l n hn] at hb ⊢
  unfold bt
  simp only [Int.toNat_natCast, hs, dif_pos]
  have : (strOfNums l)[n] = UInt8.ofNat (l[n]).toNat := by
    show (strOfNums l).data[n] = _
    simp [strOfNums]
  rw [this]
  exact u8_back hb
theorem size_str (l : List Int) : (strOfNums l).size = l.length := strOfNums_size l
theorem str_inj {l m : List Int} (hl : Oct l) (hm : Oct m) (h : strOfNums l = strOfNums m) : l = m := by
  have hlen : l.length = m.length := by rw [← size_str l, ← size_str m, h]
  apply List.ext_getElem hlen
  intro i h1 h2
  have a := bt_str hl (i := (i : Int)) (by omega) (by omega)
  have b := bt_str hm (i := (i : Int)) (by omega) (by omega)
  rw [rd_nat l i h1] at a
  rw [rd_nat m i h2] at b
  rw [← a, ← b, h]
theorem ba_toList (s : ByteArray) : s.toList = s.data.toList := ByteArray.toList_eq s
theorem toList_inj {s t : ByteArray} (h : s.toList = t.toList) : s = t := by
  rw [ba_toList, ba_toList] at h
  cases s; cases t
  simp at h
  exact congrArg _ h
theorem toList_eq_iff {s t : ByteArray} : s.toList = t.toList ↔ s = t := ⟨toList_inj, fun h => by rw [h]⟩
theorem str_append (l m : List Int) : strOfNums l ++ strOfNums m = strOfNums (l ++ m) := by
  apply toList_inj
  rw [ba_toList, ba_toList]
  simp [strOfNums]
theorem bytesOf_str {l : List Int} (h : Oct l) : Go.Proofs.YtlipbiihemhieaaW.PrintWords.bytesOf (strOfNums l) = l := by
  unfold Go.Proofs.YtlipbiihemhieaaW.PrintWords.bytesOf
  rw [strOfNums_data, List.map_map]
  conv => rhs; rw [← List.map_id l]
  apply List.map_congr_left
  intro x hx
  exact u8_back (h x hx)
theorem oct_bytesOf (s : ByteArray) : Oct (Go.Proofs.YtlipbiihemhieaaW.PrintWords.bytesOf s) := fun x hx => by
  unfold Go.Proofs.YtlipbiihemhieaaW.PrintWords.bytesOf at hx
  obtain ⟨b, _, rfl⟩ := List.mem_map.1 hx
  have := b.toNat_lt
  omega
theorem str_bytesOf (s : ByteArray) : strOfNums (Go.Proofs.YtlipbiihemhieaaW.PrintWords.bytesOf s) = s := by
  unfold Go.Proofs.YtlipbiihemhieaaW.PrintWords.bytesOf strOfNums
  cases s with
  | mk a =>
    congr 1
    apply Array.ext'
    simp [Function.comp_def]
theorem extract_str {l : List Int} {a b : Nat} : (strOfNums l).extract a b = strOfNums ((l.take b).drop a) := by
  apply toList_inj
  rw [ba_toList, ba_toList]
  rw [ByteArray.data_extract]
  simp [strOfNums, List.map_drop, List.map_take, List.drop_take]

/-! rounds -/
theorem Ev.pos {α : Type} {c : Prop} [Decidable c] {f g : Nat → Option α} {r : α} (h : c) (k : Ev f r) : Ev (fun n => if c then f n else g n) r := Ev.congr (fun _ => if_pos h) k
theorem Ev.neg {α : Type} {c : Prop} [Decidable c] {f g : Nat → Option α} {r : α} (h : ¬ c) (k : Ev g r) : Ev (fun n => if c then f n else g n) r := Ev.congr (fun _ => if_neg h) k
theorem Ev.bindS {α β : Type} {o : Option α} {f : Nat → α → Option β} {a : α} {r : β} (h : o = some a) (k : Ev (fun n => f n a) r) : Ev (fun n => o.bind (f n)) r := by
  subst h; exact k
theorem Ev.ret {α : Type} {a r : α} (h : a = r) : Ev (fun _ => some a) r := by subst h; exact Ev.now _
theorem Ev.val {α : Type} {o : Option α} {r : α} (h : o = some r) : Ev (fun _ => o) r := ⟨0, fun _ _ => h⟩

/-- 'slices.IndexFunc', as it is printed at a function value: the place of the first element that the predicate takes, or -1. -/
def firstAt (q : Int → Bool) : List Int → Int → Int
  | [], _ => -1
  | x :: l, i => if q x = true then i else firstAt q l (i + 1)
theorem index_loop {p : Int → Option Bool} {q : Int → Bool} {l : Nat → List Int → Int → Int → Option Int}
    (hl : ∀ k x n i, l (k + 1) x n i = if i < n then (if 0 ≤ i then (if i < (x.length : Int) then ((p (rd x i)).bind fun t => (if t = true then (some i) else (l k x n (wrap64 (i + 1))))) else none) else none) else some (-1))
    (x : List Int) (hx : x.length ≤ 9223372036854775806) (hp : ∀ y ∈ x, p y = some (q y)) : ∀ (d i : Nat), x.length - i = d → i ≤ x.length → Ev (fun k => l k x (x.length : Int) (i : Int)) (firstAt q (x.drop i) i) := by
  intro d
  induction d with
  | zero =>
    intro i h1 h2
    have : i = x.length := by omega
    subst this
    refine Ev.step (fun k => hl k _ _ _) (Ev.neg (by omega) ?_)
    simp only [List.drop_length, firstAt]
    exact Ev.now _
  | succ d ih =>
    intro i h1 h2
    have hi : i < x.length := by omega
    refine Ev.step (fun k => hl k _ _ _) (Ev.pos (by omega) (Ev.pos (by omega) (Ev.pos (by omega) (Ev.bindS (hp _ (rd_mem (by omega) (by omega))) ?_))))
    rw [drop_cons x i hi]
    simp only [firstAt]
    by_cases hq : q (rd x i) = true
    · rw [if_pos hq]
      exact Ev.pos hq (Ev.now _)
    · rw [if_neg hq]
      refine Ev.neg hq ?_
      have := ih (i + 1) (by omega) (by omega)
      rw [w64 (by omega) (by omega)]
      exact this
theorem firstAt_any (q : Int → Bool) : ∀ (l : List Int) (i : Int), 0 ≤ i → decide (firstAt q l i ≥ 0) = l.any q
  | [], _, _ => by simp [firstAt]
  | x :: l, i, h => by
    by_cases hq : q x = true
    · simp [firstAt, hq, h]
    · have ih := firstAt_any q l (i + 1) (by omega)
      simp only [Bool.not_eq_true] at hq
      simp [firstAt, hq]
      simpa using ih
/-- 'slices.ContainsFunc' at a function value. -/
theorem contains_ev {p : Int → Option Bool} {q : Int → Bool} {l : Nat → List Int → Int → Int → Option Int}
    (hl : ∀ k x n i, l (k + 1) x n i = if i < n then (if 0 ≤ i then (if i < (x.length : Int) then ((p (rd x i)).bind fun t => (if t = true then (some i) else (l k x n (wrap64 (i + 1))))) else none) else none) else some (-1))
    (x : List Int) (hx : x.length ≤ 9223372036854775806) (hp : ∀ y ∈ x, p y = some (q y)) : Ev (fun k => (l k x (x.length : Int) 0).bind fun t => some (decide (t ≥ 0))) (x.any q) := by
  have h := index_loop hl x hx hp x.length 0 (by omega) (by omega)
  refine Ev.bind h (Ev.ret ?_)
  rw [firstAt_any q _ _ (by simp)]
  simp

end Go.Proofs.Ytlipbiihemhieaa.K

-- from Pord
/- Layer 19: numbers that rise: the program's Alphabet and the reference's. -/
namespace Go.Proofs.Ytlipbiihemhieaa.K
set_option linter.unusedVariables false
set_option linter.unusedSimpArgs false
open Go.RowKit Go.Proofs.YtlipbiihemhieaaW.PrintWords Go.Proofs.YtlipbiihemhieaaW.PrintMore Go.Proofs.Ytlipbiihemhieaa.Q

/-- The first i numbers rise. -/
def riseTo (l : List Int) (i : Nat) : Prop := ∀ a b : Nat, a < b → b < i → rd l (a : Int) < rd l (b : Int)
theorem riseTo_one (l : List Int) : riseTo l 1 := fun a b h1 h2 => by omega
theorem riseTo_zero (l : List Int) : riseTo l 0 := fun a b h1 h2 => by omega
theorem riseTo_le {l : List Int} {i j : Nat} (h : riseTo l j) (hij : i ≤ j) : riseTo l i := fun a b h1 h2 => h a b h1 (by omega)
theorem riseTo_snoc {l : List Int} {i : Nat} (h : riseTo l i) (hn : ∀ a : Nat, a < i → rd l (a : Int) < rd l (i : Int)) : riseTo l (i + 1) := fun a b h1 h2 => by
  by_cases e : b = i
  · rw [e]; exact hn a (by omega)
  · exact h a b h1 (by omega)
theorem riseTo_next {l : List Int} {i : Nat} (h : riseTo l (i + 1)) (hn : rd l (i : Int) < rd l ((i + 1 : Nat) : Int)) : riseTo l (i + 1 + 1) := riseTo_snoc h fun a ha => by
  by_cases e : a = i
  · rw [e]; exact hn
  · have := h a i (by omega) (by omega)
    omega
theorem Alphabet_ev {l : List Int} (hl : l.length ≤ 1099511627776) : ∃ b : Bool, (b = true ↔ riseTo l l.length) ∧ Ev (fun k => order_Alphabet.f k l) b := by
  have key : ∀ (d i : Nat), l.length - i = d → riseTo l (i + 1) → ∃ b : Bool, (b = true ↔ riseTo l l.length) ∧ Ev (fun k => order_Alphabet.l0 k l ((i + 1 : Nat) : Int)) b := by
    intro d
    induction d with
    | zero =>
      intro i h1 h2
      exact ⟨true, ⟨fun _ => riseTo_le h2 (by omega), fun _ => rfl⟩, Ev.step (fun k => rfl) (Ev.neg (by omega) (Ev.now _))⟩
    | succ d ih =>
      intro i h1 h2
      by_cases hi : i + 1 < l.length
      · have e1 : wrap64 (((i + 1 : Nat) : Int) - 1) = (i : Int) := by rw [w64 (by omega) (by omega)]; omega
        have e2 : wrap64 (((i + 1 : Nat) : Int) + 1) = ((i + 1 + 1 : Nat) : Int) := w64 (by omega) (by omega)
        by_cases c : rd l ((i + 1 : Nat) : Int) ≤ rd l (i : Int)
        · refine ⟨false, ⟨fun h => (by cases h), fun h => ?_⟩, Ev.step (fun k => rfl) (Ev.pos (by omega) (Ev.pos (by omega) (Ev.pos (by rw [e1]; omega) (Ev.pos (by rw [e1]; omega) (Ev.pos (by rw [e1]; exact c) (Ev.now _))))))⟩
          have := h i (i + 1) (by omega) hi
          omega
        · obtain ⟨b, hb, he⟩ := ih (i + 1) (by omega) (riseTo_next h2 (by omega))
          refine ⟨b, hb, Ev.step (fun k => rfl) (Ev.pos (by omega) (Ev.pos (by omega) (Ev.pos (by rw [e1]; omega) (Ev.pos (by rw [e1]; omega) (Ev.neg (by rw [e1]; exact c) ?_)))))⟩
          rw [e2]
          exact he
      · exact ⟨true, ⟨fun _ => riseTo_le h2 (by omega), fun _ => rfl⟩, Ev.step (fun k => rfl) (Ev.neg (by omega) (Ev.now _))⟩
  exact key l.length 0 (by omega) (riseTo_one l)
theorem refAlphabet_ev {l : List Int} (hl : l.length ≤ 1099511627776) : ∃ b : Bool, (b = true ↔ riseTo l l.length) ∧ Ev (fun k => paronymref19_Alphabet.f k l) b := by
  have key : ∀ (d i : Nat), l.length - i = d → i ≤ l.length → riseTo l i → ∃ b : Bool, (b = true ↔ riseTo l l.length) ∧ Ev (fun k => paronymref19_Alphabet.l0 k l (i : Int)) b := by
    intro d
    induction d with
    | zero =>
      intro i h1 h2 h3
      exact ⟨true, ⟨fun _ => riseTo_le h3 (by omega), fun _ => rfl⟩, Ev.step (fun k => rfl) (Ev.neg (by omega) (Ev.now _))⟩
    | succ d ih =>
      intro i h1 h2 h3
      have hi : i < l.length := by omega
      have inner : ∀ (m j : Nat), i - j = m → j ≤ i → (∀ a : Nat, a < j → rd l (a : Int) < rd l (i : Int)) → ∃ b : Bool, (b = true ↔ riseTo l l.length) ∧ Ev (fun k => paronymref19_Alphabet.l1 k l (i : Int) (j : Int)) b := by
        intro m
        induction m with
        | zero =>
          intro j g1 g2 g3
          have : j = i := by omega
          subst this
          obtain ⟨b, hb, he⟩ := ih (j + 1) (by omega) (by omega) (riseTo_snoc h3 g3)
          refine ⟨b, hb, Ev.step (fun k => rfl) (Ev.neg (by omega) ?_)⟩
          rw [show wrap64 ((j : Int) + 1) = ((j + 1 : Nat) : Int) from w64 (by omega) (by omega)]
          exact he
        | succ m ihm =>
          intro j g1 g2 g3
          have hj : j < i := by omega
          by_cases c : rd l (j : Int) ≥ rd l (i : Int)
          · refine ⟨false, ⟨fun h => (by cases h), fun h => ?_⟩, Ev.step (fun k => rfl) (Ev.pos (by omega) (Ev.pos (by omega) (Ev.pos (by omega) (Ev.pos (by omega) (Ev.pos (by omega) (Ev.pos c (Ev.now _)))))))⟩
            have := h j i hj hi
            omega
          · obtain ⟨b, hb, he⟩ := ihm (j + 1) (by omega) (by omega) (fun a ha => by
              by_cases e : a = j
              · rw [e]; omega
              · exact g3 a (by omega))
            refine ⟨b, hb, Ev.step (fun k => rfl) (Ev.pos (by omega) (Ev.pos (by omega) (Ev.pos (by omega) (Ev.pos (by omega) (Ev.pos (by omega) (Ev.neg c ?_))))))⟩
            rw [show wrap64 ((j : Int) + 1) = ((j + 1 : Nat) : Int) from w64 (by omega) (by omega)]
            exact he
      obtain ⟨b, hb, he⟩ := inner i 0 (by omega) (by omega) (fun a ha => by omega)
      exact ⟨b, hb, Ev.step (fun k => rfl) (Ev.pos (by omega) he)⟩
  exact key l.length 0 (by omega) (by omega) (riseTo_zero l)
/-- Both tell the same. -/
theorem alphabets_ev {l : List Int} (hl : l.length ≤ 1099511627776) : ∃ b : Bool, (b = true ↔ riseTo l l.length) ∧ Ev (fun k => order_Alphabet.f k l) b ∧ Ev (fun k => paronymref19_Alphabet.f k l) b := by
  obtain ⟨b, h1, h2⟩ := Alphabet_ev hl
  obtain ⟨c, h3, h4⟩ := refAlphabet_ev hl
  have : c = b := by
    cases b <;> cases c
    · rfl
    · have := h1.2 (h3.1 rfl); cases this
    · have := h3.2 (h1.1 rfl); cases this
    · rfl
  subst this
  exact ⟨c, h1, h2, h4⟩

end Go.Proofs.Ytlipbiihemhieaa.K

-- from PureOrderCounts
/- OrderCounts: for every input. -/
namespace Go.Proofs.Ytlipbiihemhieaa.Pure
set_option linter.unusedVariables false
set_option linter.unusedSimpArgs false
open Go.RowKit Go.Proofs.Ytlipbiihemhieaa.Q Go.Proofs.YtlipbiihemhieaaW.PrintWords Go.Proofs.YtlipbiihemhieaaW.PrintLast Go.Proofs.Ytlipbiihemhieaa.K

/-- What Count tells from a round on. -/
def cl (L most : Int) : Nat → Int → Int → Int
  | 0, s, _ => s
  | d + 1, s, o => if s < most then (if o * L > most then most else cl L most d (s + (if most - s < o * L then most - s else o * L)) (o * L)) else s
theorem cl_top (L most : Int) : ∀ (d : Nat) (o : Int), cl L most d most o = most
  | 0, _ => rfl
  | d + 1, o => by rw [cl, if_neg (by omega)]
theorem count_ev {l : List Int} {n most : Int} (h0 : 1 ≤ l.length) (h1 : l.length ≤ 60) (hn : n ≤ 200) (hn0 : -9223372036854775808 ≤ n) (hm : most ≤ 1000000) : ∀ (d : Nat) (i : Int) (s o : Int), (n - i).toNat = d → 0 ≤ i → i ≤ 201 → 0 ≤ s → (s ≤ most ∨ s = 0) → 1 ≤ o → o ≤ 1000000 →
    Ev (fun k => order_Count.l0 k l n most s o i) (cl l.length most d s o) := by
  intro d
  induction d with
  | zero =>
    intro i s o hd hi0 hi1 hs0 hs1 ho0 ho1
    refine Ev.step (fun k => rfl) (Ev.neg (by omega) (Ev.step (fun k => rfl) ?_))
    exact Ev.now _
  | succ d ih =>
    intro i s o hd hi0 hi1 hs0 hs1 ho0 ho1
    have hin : i < n := by omega
    refine Ev.step (fun k => rfl) (Ev.pos hin ?_)
    rw [cl]
    by_cases c : s < most
    · rw [if_pos c, decide_eq_true c]
      have hL : (1 : Int) ≤ (l.length : Int) := by omega
      have hL2 : (l.length : Int) ≤ 60 := by omega
      have hp0 : 1 * 1 ≤ o * (l.length : Int) := Int.mul_le_mul ho0 hL (by omega) (by omega)
      have hp1 : o * (l.length : Int) ≤ 1000000 * 60 := Int.mul_le_mul ho1 hL2 (by omega) (by omega)
      have hq0 : 0 ≤ most / (l.length : Int) := Int.ediv_nonneg (by omega) (by omega)
      have hq1 : most / (l.length : Int) ≤ most := Int.ediv_le_self _ (by omega)
      have ed : wrap64 (Int.tdiv most (l.length : Int)) = most / (l.length : Int) := by rw [Int.tdiv_eq_ediv_of_nonneg (by omega), w64 (by omega) (by omega)]
      have hcmp : o > most / (l.length : Int) ↔ o * (l.length : Int) > most := Int.ediv_lt_iff_lt_mul (by omega)
      refine Ev.step (fun k => rfl) (Ev.neg (by omega) ?_)
      rw [ed]
      generalize o * (l.length : Int) = p at *
      by_cases c2 : p > most
      · rw [if_pos c2]
        exact Ev.pos (hcmp.2 c2) (Ev.now _)
      · rw [if_neg c2]
        refine Ev.neg (fun h => c2 (hcmp.1 h)) ?_
        have e1 : wrap64 (s + mn (wrap64 p) (wrap64 (most - s))) = s + (if most - s < p then most - s else p) := by
          rw [w64 (n := p) (by omega) (by omega), w64 (n := most - s) (by omega) (by omega)]
          unfold mn
          split <;> exact w64 (by omega) (by omega)
        rw [e1, w64 (n := p) (by omega) (by omega), w64 (n := i + 1) (by omega) (by omega)]
        exact ih (i + 1) _ p (by omega) (by omega) (by omega) (by split <;> omega) (by split <;> omega) (by omega) (by omega)
    · rw [if_neg c, decide_eq_false c]
      exact Ev.step (fun k => rfl) (Ev.now _)

theorem OrderCounts : paronymlaw19_OrderCounts.Pure := by
  intro l n most _ hl8 _ hnw hmw
  have hn := i64_of_wf hnw
  have hmo := i64_of_wf hmw
  apply Ev.rounds
  unfold paronymlaw19_OrderCounts.f
  refine Ev.bind (Ev.now true) (Ev.pos rfl ?_)
  have yes : Ev (fun k => paronymlaw19_OrderCounts.j0 k l n most true) true := Ev.step (fun k => rfl) (Ev.bind (Ev.now true) (Ev.now _))
  by_cases c1 : (l.length : Int) > 60
  · exact Ev.pos c1 yes
  refine Ev.neg c1 ?_
  by_cases c2 : n > 200
  · exact Ev.pos c2 yes
  refine Ev.neg c2 ?_
  by_cases c3 : most > 1000000
  · rw [decide_eq_true c3]; exact yes
  rw [decide_eq_false c3]
  refine Ev.step (fun k => rfl) ?_
  obtain ⟨al, _, ha, hra⟩ := alphabets_ev (l := l) (by omega)
  -- the end of the law's loop
  have fin : ∀ (C W : Int), Ev (fun k => order_Count.f k l n most) C → C = mx 0 (mn W most) → Ev (fun k => (order_Count.f k l n most).bind fun t => some (t == mx 0 (mn W most))) true := fun C W hC he => Ev.bind hC (Ev.ret (by rw [he]; simp))
  by_cases z : (l.length : Int) = 0
  · have hC : Ev (fun k => order_Count.f k l n most) 0 := by
      unfold order_Count.f
      exact Ev.pos z (Ev.step (fun k => rfl) (Ev.now _))
    have h0 : (0 : Int) = mx 0 (mn 0 most) := by unfold mx mn; split <;> split <;> omega
    refine Ev.step (fun k => rfl) ?_
    by_cases g1 : (0 : Int) < n
    · refine Ev.pos g1 ?_
      by_cases g2 : (0 : Int) < most
      · exact Ev.pos g2 (Ev.neg (by omega) (fin 0 0 hC h0))
      · exact Ev.neg g2 (fin 0 0 hC h0)
    · exact Ev.neg g1 (fin 0 0 hC h0)
  cases al with
  | false =>
    have hC : Ev (fun k => order_Count.f k l n most) 0 := by
      unfold order_Count.f
      exact Ev.neg z (Ev.bind ha (Ev.step (fun k => rfl) (Ev.now _)))
    have h0 : (0 : Int) = mx 0 (mn 0 most) := by unfold mx mn; split <;> split <;> omega
    refine Ev.step (fun k => rfl) ?_
    by_cases g1 : (0 : Int) < n
    · refine Ev.pos g1 ?_
      by_cases g2 : (0 : Int) < most
      · exact Ev.pos g2 (Ev.pos (by omega) (Ev.bind hra (Ev.neg (by simp) (fin 0 0 hC h0))))
      · exact Ev.neg g2 (fin 0 0 hC h0)
    · exact Ev.neg g1 (fin 0 0 hC h0)
  | true =>
    have hC : Ev (fun k => order_Count.f k l n most) (cl l.length most (n - 0).toNat 0 1) := by
      unfold order_Count.f
      refine Ev.neg z (Ev.bind ha (Ev.step (fun k => rfl) ?_))
      exact count_ev (by omega) (by omega) (by omega) (by omega) (by omega) _ 0 0 1 rfl (by omega) (by omega) (by omega) (by omega) (by omega) (by omega)
    obtain ⟨C, hCe⟩ : ∃ C, cl l.length most (n - 0).toNat 0 1 = C := ⟨_, rfl⟩
    rw [hCe] at hC
    have key : ∀ (d : Nat) (i : Int) (s o : Int), (n - i).toNat = d → 0 ≤ i → i ≤ 201 → 0 ≤ s → (s ≤ most ∨ s = 0) → 1 ≤ o → o ≤ 1000000 → cl l.length most d s o = C →
        Ev (fun k => paronymlaw19_OrderCounts.l0 k l n most s o i) true := by
      -- where the law's number is beyond the most
      have over : ∀ (i W o : Int), 0 ≤ most → most ≤ W → C = most → Ev (fun k => paronymlaw19_OrderCounts.l0 k l n most W o i) true := by
        intro i W o h0 h1 h2
        have he : C = mx 0 (mn W most) := by rw [h2]; unfold mx mn; split <;> split <;> omega
        refine Ev.step (fun k => rfl) ?_
        by_cases g1 : i < n
        · exact Ev.pos g1 (Ev.neg (by omega) (fin C W hC he))
        · exact Ev.neg g1 (fin C W hC he)
      intro d
      induction d with
      | zero =>
        intro i s o hd hi0 hi1 hs0 hs1 ho0 ho1 hcl
        rw [cl] at hcl
        refine Ev.step (fun k => rfl) (Ev.neg (by omega) (fin C s hC ?_))
        rw [← hcl]; unfold mx mn; split <;> split <;> omega
      | succ d ih =>
        intro i s o hd hi0 hi1 hs0 hs1 ho0 ho1 hcl
        have hin : i < n := by omega
        rw [cl] at hcl
        refine Ev.step (fun k => rfl) (Ev.pos hin ?_)
        by_cases c : s < most
        · rw [if_pos c] at hcl
          have hL : (1 : Int) ≤ (l.length : Int) := by omega
          have hL2 : (l.length : Int) ≤ 60 := by omega
          have hp0 : 1 * 1 ≤ o * (l.length : Int) := Int.mul_le_mul ho0 hL (by omega) (by omega)
          have hp1 : o * (l.length : Int) ≤ 1000000 * 60 := Int.mul_le_mul ho1 hL2 (by omega) (by omega)
          refine Ev.pos c (Ev.pos (by omega) (Ev.bind hra (Ev.pos rfl ?_)))
          generalize o * (l.length : Int) = p at *
          have em : mn (wrap64 p) 2000000 = if 2000000 < p then 2000000 else p := by
            rw [w64 (n := p) (by omega) (by omega)]; rfl
          rw [em, w64 (n := i + 1) (by omega) (by omega)]
          by_cases c4 : p > most
          · rw [if_pos c4] at hcl
            refine over _ _ _ (by omega) ?_ hcl.symm
            rw [w64 (by split <;> omega) (by split <;> omega)]
            split <;> omega
          · rw [if_neg c4] at hcl
            rw [if_neg (by omega), w64 (by omega) (by omega)]
            by_cases c5 : most - s < p
            · rw [if_pos c5] at hcl
              have e : s + (most - s) = most := by omega
              rw [e, cl_top] at hcl
              exact over _ _ _ (by omega) (by omega) hcl.symm
            · rw [if_neg c5] at hcl
              exact ih (i + 1) (s + p) p (by omega) (by omega) (by omega) (by omega) (by omega) (by omega) (by omega) hcl
        · rw [if_neg c] at hcl
          refine Ev.neg c (fin C s hC ?_)
          rw [← hcl]; unfold mx mn; split <;> split <;> omega
    exact key _ 0 0 1 rfl (by omega) (by omega) (by omega) (Or.inr rfl) (by omega) (by omega) hCe

end Go.Proofs.Ytlipbiihemhieaa.Pure

-- from Qf59
-- Made by hp.py, a program of this session, with the kit's printer. Not trusted: Lean checks it.
namespace Go.Proofs.Ytlipbiihemhieaa.Q
open Go.RowKit Go.Proofs.YtlipbiihemhieaaW.PrintWords Go.Proofs.YtlipbiihemhieaaW.PrintLast Go.Proofs.YtlipbiihemhieaaW.PrintMore
attribute [local go_sem] max2_int min2_int max_two min_two max_three min_three max_four min_four   -- for this text's walks alone
set_option linter.unusedVariables false
set_option linter.unusedSimpArgs false

/-! ### paronymref19_Begins: function 59 -/
def paronymref19_Begins.f (k : Nat) (l0 : List Int) (l1 : List Int) : Option (Bool) := if (l0.length : Int) ≤ (l1.length : Int) then (if 0 ≤ (l0.length : Int) then ((paronymref01_Same.f k l0 (l1.take ((l0.length : Int) : Int).toNat)).bind fun t105 => (some t105)) else (none)) else (some false)
theorem paronymref19_Begins.mono : ∀ a0 a1 k, LeO (paronymref19_Begins.f k a0 a1) (paronymref19_Begins.f (k + 1) a0 a1) := by
  intro a0 a1 k
  unfold paronymref19_Begins.f
  repeat' first
      | (with_reducible exact paronymref01_Same.mono _ _ _)
      | (with_reducible exact LeO.refl _)
      | (with_reducible exact LeO.none _)
      | (with_reducible refine LeO.ite ?_ ?_)
      | (with_reducible refine LeO.bind ?_ (fun _ => ?_))
      | exact paronymref01_Same.mono _ _ _
      | exact LeO.none _
      | refine LeO.ite ?_ ?_
      | refine LeO.bind ?_ (fun _ => ?_)
set_option maxHeartbeats 8000000 in
set_option maxRecDepth 100000 in
theorem paronymref19_Begins.calls (k : Nat) (A0 : Option Addr) (c0 : Nat) (l0 : List Int) (A1 : Option Addr) (c1 : Nat) (l1 : List Int) (r : Bool) (w : World) (hr0 : Kd.C (Kd.int .i64) w A0 l0.length l0) (hc0 : l0.length ≤ c0) (hr1 : Kd.C (Kd.int .i64) w A1 l1.length l1) (hc1 : l1.length ≤ c1) (h : paronymref19_Begins.f k l0 l1 = some r) :
    Calls Try.prog 59 #[.slice A0 l0.length c0, .slice A1 l1.length c1] w fun e w' => e = .returned (.bool r) ∧ Drawn0 w w' := by
  have HR0 := Aside0.mk hr0
  have HC0 := Aside0.mk hc0
  clear hr0 hc0
  have HR1 := Aside0.mk hr1
  have HC1 := Aside0.mk hc1
  clear hr1 hc1
  have H : (if (l0.length : Int) ≤ (l1.length : Int) then (if 0 ≤ (l0.length : Int) then ((paronymref01_Same.f k l0 (l1.take ((l0.length : Int) : Int).toNat)).bind fun t105 => (some t105)) else (none)) else (some false)) = some r := h
  clear h
  by_cases c3 : (l0.length : Int) ≤ (l1.length : Int)
  · rw [if_pos c3] at H
    have c3b0 : decide ((l0.length : Int) ≤ (l1.length : Int)) = true := decide_eq_true c3
    have c3b1 : decide (l0.length ≤ l1.length) = true := decide_eq_true (Int.ofNat_le.mp c3)
    clear c3
    by_cases c4 : 0 ≤ (l0.length : Int)
    · rw [if_pos c4] at H
      have c4b0 := eq_true c4
      have c4b1 : decide (0 ≤ (l0.length : Int)) = true := decide_eq_true c4
      clear c4
      have c5b0 := eq_true (of_decide_eq_true (by first | (with_reducible assumption) | assumption) : (l0.length : Int) ≤ (l1.length : Int))
      obtain ⟨y101, hy101⟩ : ∃ y_ : List Int, y_ = (l1.take ((l0.length : Int) : Int).toNat) := ⟨_, rfl⟩
      replace H : ((paronymref01_Same.f k l0 y101).bind fun t105 => (some t105)) = some r := by first | (rw [hy101]; with_reducible exact H) | (have H2_ := (Option.bind_some _ _).symm.trans H; rw [hy101]; with_reducible exact H2_) | (have H2_ := (Option.bind_some _ _).symm.trans H; with_reducible exact H2_) | with_reducible exact H | (rw [hy101]; exact H) | exact H
      have Ny101 := Aside0.mk hy101
      clear hy101
      replace H := Option.bind_eq_some_iff.mp H
      obtain ⟨t105, A60, H⟩ := H
      replace H : (some t105) = some r := H
      have A6 := Aside0.mk A60
      clear A60
      obtain rfl := Option.some.inj H
      have q7 : ((l0.length : Int) : Int) ≤ ((l1.length : Int) : Int) := of_decide_eq_true (by first | (with_reducible assumption) | assumption)
      obtain ⟨i07, hi07, _, hsz7, _⟩ := info_parts info3
      have hroom7 : l1.length ≤ c1 := HC1.out
      have hC7 : Kd.C (Kd.int .i64) _ A1 l1.length l1 := HR1.out
      have hcut7 := cut_to (P := Try.prog) 22 3 .i64 Try.underlying22 hi07 A1 l1.length c1 (l0.length : Int) (of_decide_eq_true (by first | (with_reducible assumption) | assumption)) q7 hroom7
      have hr7 := Kd.C_take (m := ((l0.length : Int) : Int).toNat) hC7 (by omega)
      have hy7 : y101.length = ((l0.length : Int) : Int).toNat := (by rw [Ny101.out, List.length_take]; omega)
      rw [← Ny101.out] at hr7
      rw [← hy7] at hcut7
      have HR104 := Aside0.mk hr7
      have HC104 := Aside0.mk (show y101.length ≤ c1 from by omega)
      clear hr7 hC7 hroom7 hi07 hsz7
      have KY7 := Aside0.mk hy7
      clear hy7
      replace q7 := eq_true q7
      go_enter Try.func59, Try.ntmps59
      go_wp2_with (first | (go_at_call 20; (with_reducible refine (paronymref01_Same.calls k _ _ l0 _ _ y101 t105 _ ?side1 ?side2 ?side3 ?side4 A6.out).mono ?_); (case side1 => repeat (first | exact HR0.out | (with_reducible refine Kd.C_alloc ?_ _) | (with_reducible refine Kd.C_drewN ?_ _) | (with_reducible refine Kd.C_drew ?_))); (case side2 => exact HC0.out); (case side3 => repeat (first | exact HR104.out | (with_reducible refine Kd.C_alloc ?_ _) | (with_reducible refine Kd.C_drewN ?_ _) | (with_reducible refine Kd.C_drew ?_))); (case side4 => exact HC104.out); rintro e w' ⟨rfl, ⟨nd, rfl⟩⟩))
      go_ret
      exact ⟨by first | rfl | (simp; done) | (simp [*]; done), by repeat (first | exact Drawn0.refl _ | apply Drawn0.step)⟩
    · rw [if_neg c4] at H
      exact absurd H (by simp)
  · rw [if_neg c3] at H
    have c3b0 : decide ((l0.length : Int) ≤ (l1.length : Int)) = false := decide_eq_false c3
    have c3b1 : decide (l0.length ≤ l1.length) = false := decide_eq_false (fun h => c3 (Int.ofNat_le.mpr h))
    clear c3
    obtain rfl := Option.some.inj H
    go_enter Try.func59, Try.ntmps59
    go_wp2
    go_ret
    exact ⟨by first | rfl | (simp; done) | (simp [*]; done), by repeat (first | exact Drawn0.refl _ | apply Drawn0.step)⟩

end Go.Proofs.Ytlipbiihemhieaa.Q
