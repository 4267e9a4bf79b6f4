/- Part 2 of 4 of the proof of ZoneRises: a zone's labels rise For every input; no condition. -/
import Derived.Test.YtdnfmilnkoocdaaDoorCZoneRises1
import Derived.Ground.NamesProg
import Derived.Ground.SlbSplitProg
import Derived.Ground.SlbCloneProg
import Derived.Shelf.Lay
import Derived.Shelf.Bytes.SlClone
import Derived.Shelf.Bytes.SlSplit
import Derived.Shelf.Bytes.SlSplitNil
import Derived.Shelf.Bytes.SlSmallAll
import Derived.Lib.Split
import Derived.Lib.CountLaws
import Derived.Lib.Bytes

-- from Qf18
-- Made by hp.py, a program of this session, with the kit's printer. Not trusted: Lean checks it.
namespace Go.Proofs.YtdnfmilnkoocdaaDoor.Q
open Go.RowKit Go.Proofs.YtdnfmilnkoocdaaDoorW.PrintWords Go.Proofs.YtdnfmilnkoocdaaDoorW.PrintLast Go.Proofs.YtdnfmilnkoocdaaDoorW.PrintMore
attribute [local go_sem] max2_int min2_int max_two min_two max_three min_three max_four min_four   -- for this text's walks alone
set_option linter.unusedVariables false
set_option linter.unusedSimpArgs false

/-! ### paronymref25_Escaped: function 18 -/
mutual
def paronymref25_Escaped.l0 : Nat → ByteArray → List Int → Int → Option (ByteArray)
  | 0, _, _, _ => none
  | k + 1, x0, x3, x4 => if x4 < (x0.size : Int) then (if 0 ≤ x4 then (if (bt x0 x4) = 34 then (paronymref25_Escaped.j1 k x0 x3 x4 (bt x0 x4) true) else (if (bt x0 x4) = 59 then (paronymref25_Escaped.j1 k x0 x3 x4 (bt x0 x4) true) else (if (bt x0 x4) = 40 then (paronymref25_Escaped.j1 k x0 x3 x4 (bt x0 x4) true) else (if (bt x0 x4) = 41 then (paronymref25_Escaped.j1 k x0 x3 x4 (bt x0 x4) true) else (if (bt x0 x4) = 92 then (paronymref25_Escaped.j1 k x0 x3 x4 (bt x0 x4) true) else (paronymref25_Escaped.j1 k x0 x3 x4 (bt x0 x4) ((bt x0 x4) == 46))))))) else (none)) else (some (strOfNums x3))
def paronymref25_Escaped.j1 : Nat → ByteArray → List Int → Int → Int → Bool → Option (ByteArray)
  | 0, _, _, _, _, _ => none
  | k + 1, x0, x3, x4, x5, x36 => if x36 = true then ((some (([92, x5] : List Int) : List Int)).bind fun y101 => (if x3.length + y101.length < 140737488355328 then (paronymref25_Escaped.l0 k x0 (x3 ++ y101) (wrap64 (x4 + 1))) else (none))) else (if x5 > 32 then (if x5 < 127 then (if x3.length < 140737488355328 then (paronymref25_Escaped.l0 k x0 (x3 ++ [x5]) (wrap64 (x4 + 1))) else (none)) else ((some (([92, (48 + ((Int.tdiv x5 100) % 256)) % 256, 48 + (((Int.tdiv x5 10) % 256) % 10), (48 + (Int.tmod x5 10)) % 256] : List Int) : List Int)).bind fun y110 => (if x3.length + y110.length < 140737488355328 then (paronymref25_Escaped.l0 k x0 (x3 ++ y110) (wrap64 (x4 + 1))) else (none)))) else ((some (([92, (48 + ((Int.tdiv x5 100) % 256)) % 256, 48 + (((Int.tdiv x5 10) % 256) % 10), (48 + (Int.tmod x5 10)) % 256] : List Int) : List Int)).bind fun y116 => (if x3.length + y116.length < 140737488355328 then (paronymref25_Escaped.l0 k x0 (x3 ++ y116) (wrap64 (x4 + 1))) else (none))))
end
def paronymref25_Escaped.f (k : Nat) (a0 : ByteArray) : Option (ByteArray) := paronymref25_Escaped.l0 k a0 ([] : List Int) 0
theorem paronymref25_Escaped.mono_l : ∀ k, (∀ y0 y1 y2, LeO (paronymref25_Escaped.l0 k y0 y1 y2) (paronymref25_Escaped.l0 (k + 1) y0 y1 y2)) ∧ (∀ y0 y1 y2 y3 y4, LeO (paronymref25_Escaped.j1 k y0 y1 y2 y3 y4) (paronymref25_Escaped.j1 (k + 1) y0 y1 y2 y3 y4))
  | 0 => ⟨fun _ _ _ r h => by simp [paronymref25_Escaped.l0] at h, fun _ _ _ _ _ r h => by simp [paronymref25_Escaped.j1] at h⟩
  | k + 1 => by
    obtain ⟨ih0, ih1⟩ := paronymref25_Escaped.mono_l k
    refine ⟨?_, ?_⟩
    · intro y0 y1 y2
      unfold paronymref25_Escaped.l0
      repeat' first
      | (with_reducible exact ih0 _ _ _)
      | (with_reducible exact ih1 _ _ _ _ _)
      | (with_reducible exact LeO.refl _)
      | (with_reducible exact LeO.none _)
      | (with_reducible refine LeO.ite ?_ ?_)
      | (with_reducible refine LeO.bind ?_ (fun _ => ?_))
      | exact ih0 _ _ _
      | exact ih1 _ _ _ _ _
      | exact LeO.none _
      | refine LeO.ite ?_ ?_
      | refine LeO.bind ?_ (fun _ => ?_)
    · intro y0 y1 y2 y3 y4
      unfold paronymref25_Escaped.j1
      repeat' first
      | (with_reducible exact ih0 _ _ _)
      | (with_reducible exact ih1 _ _ _ _ _)
      | (with_reducible exact LeO.refl _)
      | (with_reducible exact LeO.none _)
      | (with_reducible refine LeO.ite ?_ ?_)
      | (with_reducible refine LeO.bind ?_ (fun _ => ?_))
      | exact ih0 _ _ _
      | exact ih1 _ _ _ _ _
      | exact LeO.none _
      | refine LeO.ite ?_ ?_
      | refine LeO.bind ?_ (fun _ => ?_)
theorem paronymref25_Escaped.mono : ∀ a0 k, LeO (paronymref25_Escaped.f k a0) (paronymref25_Escaped.f (k + 1) a0) := by
  intro a0 k
  obtain ⟨ih0, ih1⟩ := paronymref25_Escaped.mono_l k
  unfold paronymref25_Escaped.f
  repeat' first
      | (with_reducible exact ih0 _ _ _)
      | (with_reducible exact ih1 _ _ _ _ _)
      | (with_reducible exact LeO.refl _)
      | (with_reducible exact LeO.none _)
      | (with_reducible refine LeO.ite ?_ ?_)
      | (with_reducible refine LeO.bind ?_ (fun _ => ?_))
      | exact ih0 _ _ _
      | exact ih1 _ _ _ _ _
      | exact LeO.none _
      | refine LeO.ite ?_ ?_
      | refine LeO.bind ?_ (fun _ => ?_)
set_option maxHeartbeats 8000000 in
set_option maxRecDepth 100000 in
theorem paronymref25_Escaped.calls (k : Nat) (a0 : ByteArray) (r : ByteArray) (w : World) (h : paronymref25_Escaped.f k a0 = some r) :
    Calls Tryd.prog 18 #[.string a0] w fun e w' => e = .returned (.string r) ∧ Below w.heap.size w w' := by
  have HB := Aside0.mk (Below.refl w.heap.size w)
  have H : (paronymref25_Escaped.l0 k a0 ([] : List Int) 0) = some r := h
  clear h
  have H' := Aside0.mk H
  clear H
  go_enter Tryd.func18, Tryd.ntmps18
  go_wp2
  go_loopg [3, 4] k (fun kq v3 v4 w' => ∃ (x3_1 : List Int) (x4_1 : Int), v4 = .int .i64 x4_1 ∧ Aside0 (paronymref25_Escaped.l0 kq a0 x3_1 x4_1 = some r) ∧ Aside0 (kq ≤ k) ∧ Aside0 (Kd.R (Kd.int .u8) 5 w' w.heap.size (fun _ => True) v3 x3_1) ∧ Aside0 (Below w.heap.size w w'))
  case atStart => exact ⟨(([] : List Int)), (0), (by first | rfl | (simp; done) | (simp [*]; done)), H', ⟨Nat.le_refl _⟩, ⟨by first | exact Kd.R_nil _ _ _ _ _ | exact Kd.N_nil _ _ _ _ _ | exact Kd.V_nil _ _ _ _ _ | exact Kd.Q_nil _ _ _ _ _ | exact Kd.S_nil _ _ _ _ _⟩, ⟨by repeat (first | (with_reducible first | exact HB.out | apply below_alloc | apply pw_below_drewN | apply below_drew1) | exact HB.out)⟩⟩
  case round =>
    clear H'
    try clear c1
    obtain ⟨x3_1, x4_1, rfl, HA, HK1, HO_3, HB⟩ := hrel
    cases gk with
    | zero => exact absurd HA.out (by simp [paronymref25_Escaped.l0])
    | succ k1 =>
      have H := HA.out
      clear HA
      simp only [paronymref25_Escaped.l0] at H
      by_cases c2 : x4_1 < (a0.size : Int)
      · rw [if_pos c2] at H
        have c2b0 : decide (x4_1 < (a0.size : Int)) = true := decide_eq_true c2
        clear c2
        by_cases c3 : 0 ≤ x4_1
        · rw [if_pos c3] at H
          have c3b0 : decide (0 ≤ x4_1) = true := decide_eq_true c3
          clear c3
          have HC5 := Aside0.mk H
          clear H
          have p4 : 0 ≤ (x4_1 : Int) := of_decide_eq_true (by first | (with_reducible assumption) | assumption)
          have q4 : x4_1 < (a0.size : Int) := of_decide_eq_true (by first | (with_reducible assumption) | assumption)
          have hx4 := bt_at a0 x4_1
          replace p4 := eq_true p4
          replace q4 := eq_true q4
          go_upto_region 6 with (fail)
          go_cut [36] (fun v36 wc => ∃ (kq : Nat) (x36_4 : Bool), v36 = .bool x36_4 ∧ Aside0 (paronymref25_Escaped.j1 kq a0 x3_1 x4_1 (bt a0 x4_1) x36_4 = some r) ∧ Aside0 (kq ≤ k1) ∧ Aside0 (Kd.R (Kd.int .u8) 5 wc w.heap.size (fun _ => True) u3 x3_1) ∧ Aside0 (Below w.heap.size w wc))
          case first =>
            have H := HC5.out
            clear HC5
            by_cases c6 : (bt a0 x4_1) = 34
            · rw [if_pos c6] at H
              have c6b0 : ((bt a0 x4_1) == 34) = true := beq_iff_eq.mpr c6
              have c6b1 : ((bt a0 x4_1) != 34) = false := bne_eq_false_iff_eq.mpr c6
              clear c6
              (first | rw [c6b0] | (simp only [i64_w, i32_w]; rw [c6b0]) | rw [c6b1] | (simp only [i64_w, i32_w]; rw [c6b1]) | skip)
              have H' := Aside0.mk H
              clear H
              go_wp2
              go_meet
              case rel => exact ⟨_, (true), (by first | rfl | (simp; done) | (simp [*]; done)), H', ⟨by have := HK1.out; first | omega | exact Nat.le_refl _⟩, ⟨by (with_reducible repeat (first | apply Kd.R_alloc | apply Kd.R_drewN | apply Kd.R_drew)); exact HO_3.out⟩, ⟨by repeat (first | (with_reducible first | exact HB.out | apply below_alloc | apply pw_below_drewN | apply below_drew1) | exact HB.out)⟩⟩
            · rw [if_neg c6] at H
              have c6b0 : ((bt a0 x4_1) == 34) = false := beq_eq_false_iff_ne.mpr c6
              have c6b1 : ((bt a0 x4_1) != 34) = true := bne_iff_ne.mpr c6
              (first | rw [c6b0] | (simp only [i64_w, i32_w]; rw [c6b0]) | rw [c6b1] | (simp only [i64_w, i32_w]; rw [c6b1]) | skip)
              by_cases c7 : (bt a0 x4_1) = 59
              · rw [if_pos c7] at H
                have c7b0 : ((bt a0 x4_1) == 59) = true := beq_iff_eq.mpr c7
                have c7b1 : ((bt a0 x4_1) != 59) = false := bne_eq_false_iff_eq.mpr c7
                clear c7
                have H' := Aside0.mk H
                clear H
                go_wp2
                go_meet
                case rel => exact ⟨_, (true), (by first | rfl | (simp; done) | (simp [*]; done)), H', ⟨by have := HK1.out; first | omega | exact Nat.le_refl _⟩, ⟨by (with_reducible repeat (first | apply Kd.R_alloc | apply Kd.R_drewN | apply Kd.R_drew)); exact HO_3.out⟩, ⟨by repeat (first | (with_reducible first | exact HB.out | apply below_alloc | apply pw_below_drewN | apply below_drew1) | exact HB.out)⟩⟩
              · rw [if_neg c7] at H
                have c7b0 : ((bt a0 x4_1) == 59) = false := beq_eq_false_iff_ne.mpr c7
                have c7b1 : ((bt a0 x4_1) != 59) = true := bne_iff_ne.mpr c7
                by_cases c8 : (bt a0 x4_1) = 40
                · rw [if_pos c8] at H
                  have c8b0 : ((bt a0 x4_1) == 40) = true := beq_iff_eq.mpr c8
                  have c8b1 : ((bt a0 x4_1) != 40) = false := bne_eq_false_iff_eq.mpr c8
                  clear c8
                  have H' := Aside0.mk H
                  clear H
                  go_wp2
                  go_meet
                  case rel => exact ⟨_, (true), (by first | rfl | (simp; done) | (simp [*]; done)), H', ⟨by have := HK1.out; first | omega | exact Nat.le_refl _⟩, ⟨by (with_reducible repeat (first | apply Kd.R_alloc | apply Kd.R_drewN | apply Kd.R_drew)); exact HO_3.out⟩, ⟨by repeat (first | (with_reducible first | exact HB.out | apply below_alloc | apply pw_below_drewN | apply below_drew1) | exact HB.out)⟩⟩
                · rw [if_neg c8] at H
                  have c8b0 : ((bt a0 x4_1) == 40) = false := beq_eq_false_iff_ne.mpr c8
                  have c8b1 : ((bt a0 x4_1) != 40) = true := bne_iff_ne.mpr c8
                  by_cases c9 : (bt a0 x4_1) = 41
                  · rw [if_pos c9] at H
                    have c9b0 : ((bt a0 x4_1) == 41) = true := beq_iff_eq.mpr c9
                    have c9b1 : ((bt a0 x4_1) != 41) = false := bne_eq_false_iff_eq.mpr c9
                    clear c9
                    have H' := Aside0.mk H
                    clear H
                    go_wp2
                    go_meet
                    case rel => exact ⟨_, (true), (by first | rfl | (simp; done) | (simp [*]; done)), H', ⟨by have := HK1.out; first | omega | exact Nat.le_refl _⟩, ⟨by (with_reducible repeat (first | apply Kd.R_alloc | apply Kd.R_drewN | apply Kd.R_drew)); exact HO_3.out⟩, ⟨by repeat (first | (with_reducible first | exact HB.out | apply below_alloc | apply pw_below_drewN | apply below_drew1) | exact HB.out)⟩⟩
                  · rw [if_neg c9] at H
                    have c9b0 : ((bt a0 x4_1) == 41) = false := beq_eq_false_iff_ne.mpr c9
                    have c9b1 : ((bt a0 x4_1) != 41) = true := bne_iff_ne.mpr c9
                    by_cases c10 : (bt a0 x4_1) = 92
                    · rw [if_pos c10] at H
                      have c10b0 : ((bt a0 x4_1) == 92) = true := beq_iff_eq.mpr c10
                      have c10b1 : ((bt a0 x4_1) != 92) = false := bne_eq_false_iff_eq.mpr c10
                      clear c10
                      have H' := Aside0.mk H
                      clear H
                      go_wp2
                      go_meet
                      case rel => exact ⟨_, (true), (by first | rfl | (simp; done) | (simp [*]; done)), H', ⟨by have := HK1.out; first | omega | exact Nat.le_refl _⟩, ⟨by (with_reducible repeat (first | apply Kd.R_alloc | apply Kd.R_drewN | apply Kd.R_drew)); exact HO_3.out⟩, ⟨by repeat (first | (with_reducible first | exact HB.out | apply below_alloc | apply pw_below_drewN | apply below_drew1) | exact HB.out)⟩⟩
                    · rw [if_neg c10] at H
                      have c10b0 : ((bt a0 x4_1) == 92) = false := beq_eq_false_iff_ne.mpr c10
                      have c10b1 : ((bt a0 x4_1) != 92) = true := bne_iff_ne.mpr c10
                      have H' := Aside0.mk H
                      clear H
                      go_wp2
                      go_meet
                      case rel => exact ⟨_, (((bt a0 x4_1) == 46)), (by first | rfl | (simp; done) | (simp [*]; done)), H', ⟨by have := HK1.out; first | omega | exact Nat.le_refl _⟩, ⟨by (with_reducible repeat (first | apply Kd.R_alloc | apply Kd.R_drewN | apply Kd.R_drew)); exact HO_3.out⟩, ⟨by repeat (first | (with_reducible first | exact HB.out | apply below_alloc | apply pw_below_drewN | apply below_drew1) | exact HB.out)⟩⟩
          case rest =>
            clear HC5
            try clear c1
            try clear c2
            try clear c2b0
            try clear p2
            try clear c3
            try clear c3b0
            try clear p4
            try clear q4
            try clear hx4
            try clear c6
            try clear c6b0
            try clear c6b1
            try clear c7
            try clear c7b0
            try clear c7b1
            try clear c8
            try clear c8b0
            try clear c8b1
            try clear c9
            try clear c9b0
            try clear c9b1
            try clear c10
            try clear c10b0
            try clear c10b1
            try clear p4
            try clear q4
            obtain ⟨kq, x36_4, rfl, HA, HJ4, HO_3, HB⟩ := hcut
            cases kq with
            | zero => exact absurd HA.out (by simp [paronymref25_Escaped.j1])
            | succ kj4 =>
              have H := HA.out
              clear HA
              simp only [paronymref25_Escaped.j1] at H
              by_cases c11 : x36_4 = true
              · subst c11
                have H1 : ((some (([92, (bt a0 x4_1)] : List Int) : List Int)).bind fun y101 => (if x3_1.length + y101.length < 140737488355328 then (paronymref25_Escaped.l0 kj4 a0 (x3_1 ++ y101) (wrap64 (x4_1 + 1))) else (none))) = some r := by rw [if_pos rfl] at H; exact H
                clear H
                have H := H1
                clear H1
                obtain ⟨y101, hy101⟩ : ∃ y_ : List Int, y_ = (([92, (bt a0 x4_1)] : List Int)) := ⟨_, rfl⟩
                replace H : (if x3_1.length + y101.length < 140737488355328 then (paronymref25_Escaped.l0 kj4 a0 (x3_1 ++ y101) (wrap64 (x4_1 + 1))) else (none)) = some r := by first | (rw [hy101]; with_reducible exact H) | (have H2_ := (Option.bind_some _ _).symm.trans H; rw [hy101]; with_reducible exact H2_) | (have H2_ := (Option.bind_some _ _).symm.trans H; with_reducible exact H2_) | with_reducible exact H | (rw [hy101]; exact H) | exact H
                have Ny101 := Aside0.mk hy101
                clear hy101
                by_cases c12 : x3_1.length + y101.length < 140737488355328
                · rw [if_pos c12] at H
                  have LMc12 := Aside0.mk c12
                  clear c12
                  obtain ⟨y104, hy104⟩ : ∃ y_ : List Int, y_ = (x3_1 ++ y101) := ⟨_, rfl⟩
                  replace H : (paronymref25_Escaped.l0 kj4 a0 y104 (wrap64 (x4_1 + 1))) = some r := by first | (rw [hy104]; with_reducible exact H) | (have H2_ := (Option.bind_some _ _).symm.trans H; rw [hy104]; with_reducible exact H2_) | (have H2_ := (Option.bind_some _ _).symm.trans H; with_reducible exact H2_) | with_reducible exact H | (rw [hy104]; exact H) | exact H
                  have Ny104 := Aside0.mk hy104
                  clear hy104
                  have H' := Aside0.mk H
                  clear H
                  go_wp2_with (first | ((with_reducible refine gate_dst (N := 39) rfl ?_); refine Kd.R_lit (Kd.int .u8) _ 5 ?hg (N := 39) ?hd (xs := ([92, (bt a0 x4_1)] : List Int)) (inner := [.int .u8 92, .int .u8 (bt a0 x4_1)]) (ok := fun _ => True) (okp := fun _ => True) ?hr ?hp (fun _ hk => hk) trivial (Below.refl _ _) (Nat.le_refl _) (by simp) ?_; (case hd => rfl); (case hg => rfl); (case hr => first | (go_simp; done) | (go_simp; rfl)); (case hp => exact (Reps.one (show Kd.M (Kd.int .u8) _ _ _ 92 [.int .u8 92] from rfl) (Reps.one (show Kd.M (Kd.int .u8) _ _ _ (bt a0 x4_1) [.int .u8 (bt a0 x4_1)] from rfl) (Reps.none _ _)))); intro v102 w13 ho14 hb hg_ hnew_; clear hg_ hnew_; (first | rw [← Ny101.out] at ho14 | (simp only [Int.reduceToNat] at ho14; rw [← Ny101.out] at ho14)); have n0_ := Aside0.mk (Kd.R_elder' (by (with_reducible repeat (first | apply Kd.R_alloc | apply Kd.R_drewN | apply Kd.R_drew)); exact HO_3.out) (Kd.R_base ho14) hb); have n1_ := Aside0.mk (Kd.R_lower (Kd.R_new' ho14 (Kd.R_lt (by (with_reducible repeat (first | apply Kd.R_alloc | apply Kd.R_drewN | apply Kd.R_drew)); exact HO_3.out))) (below_size (by repeat (first | (with_reducible first | exact HB.out | apply below_alloc | apply pw_below_drewN | apply below_drew1) | exact HB.out)))); have n2_ := Aside0.mk (below_step (by repeat (first | (with_reducible first | exact HB.out | apply below_alloc | apply pw_below_drewN | apply below_drew1) | exact HB.out)) hb); clear HO_3; clear HB; have HO_3 := n0_; have HO103 := n1_; have HB := n2_; clear n0_ n1_ n2_; clear hb ho14; obtain ⟨Ao16, co16, eo16⟩ := Kd.R_slice HO103.out; subst eo16) | ((with_reducible refine gate_builtin (b := .append) (xs := #[.tmp 37, .tmp 39]) rfl ?_); at_builtin; refine Kd.R_append_rows (Kd.int .u8) (w0 := w) w.heap.size rfl (.tmp 37) (.tmp 39) 22 5 (.int .u8 0) 1 rfl Tryd.underlying22 info5 rfl (by decide) (by omega) u3 x3_1 y101 _ _ _ (fun k_ => some k_ ≠ (.slice Ao16 y101.length co16 : Value).ownBlock) (fun _ => False) rfl rfl ?aO ?aR (fun _ _ h => h) (fun _ h => h.elim) ?aF ?aB ?aS ?aL ?_; (case aR => repeat (first | exact (Kd.R_reads' HO103.out).2.2 | (with_reducible refine Kd.C_alloc ?_ _) | (with_reducible refine Kd.C_drewN ?_ _) | (with_reducible refine Kd.C_drew ?_))); (case aB => exact (by repeat (first | (with_reducible first | exact HB.out | apply below_alloc | apply pw_below_drewN | apply below_drew1) | exact HB.out))); (case aF => exact (fun k_ hk => Kd.fresh' (Kd.R_lt (by (with_reducible repeat (first | apply Kd.R_alloc | apply Kd.R_drewN | apply Kd.R_drew)); exact HO103.out)) k_ hk)); (case aO => exact (by (with_reducible repeat (first | apply Kd.R_alloc | apply Kd.R_drewN | apply Kd.R_drew)); exact Kd.R_mono HO_3.out (fun _ hk => hk.2))); (case aS => exact (below_size (by repeat (first | (with_reducible first | exact HB.out | apply below_alloc | apply pw_below_drewN | apply below_drew1) | exact HB.out)))); (case aL => have := LMc12.out; omega); intro v105 w15 ho hb hg hat; rw [← Ny104.out] at ho; have n0_ := Aside0.mk (Kd.R_after (ok := (fun _ => True)) (by (with_reducible repeat (first | apply Kd.R_alloc | apply Kd.R_drewN | apply Kd.R_drew)); exact HO103.out) hg hat); have n1_ := Aside0.mk (hb); have n2_ := Aside0.mk (ho); clear HO103; clear HB; clear HO_3; have HO103 := n0_; have HB := n1_; have HO106 := n2_; clear n0_ n1_ n2_; clear ho hb hg hat))
                  go_roundg kj4
                  case measure => have := HK1.out; have := HJ4.out; omega
                  case rel => exact ⟨(y104), (wrap64 (x4_1 + 1)), (by first | rfl | (simp; done) | (simp [*]; done)), H', ⟨by have := HK1.out; have := HJ4.out; omega⟩, ⟨by (with_reducible repeat (first | apply Kd.R_alloc | apply Kd.R_drewN | apply Kd.R_drew)); exact Kd.R_mono HO106.out (fun _ hk => trivial)⟩, ⟨by repeat (first | (with_reducible first | exact HB.out | apply below_alloc | apply pw_below_drewN | apply below_drew1) | exact HB.out)⟩⟩
                · rw [if_neg c12] at H
                  exact absurd H (by simp)
              · replace c11 := Bool.eq_false_iff.mpr c11
                subst c11
                have H1 : (if (bt a0 x4_1) > 32 then (if (bt a0 x4_1) < 127 then (if x3_1.length < 140737488355328 then (paronymref25_Escaped.l0 kj4 a0 (x3_1 ++ [(bt a0 x4_1)]) (wrap64 (x4_1 + 1))) else (none)) else ((some (([92, (48 + ((Int.tdiv (bt a0 x4_1) 100) % 256)) % 256, 48 + (((Int.tdiv (bt a0 x4_1) 10) % 256) % 10), (48 + (Int.tmod (bt a0 x4_1) 10)) % 256] : List Int) : List Int)).bind fun y110 => (if x3_1.length + y110.length < 140737488355328 then (paronymref25_Escaped.l0 kj4 a0 (x3_1 ++ y110) (wrap64 (x4_1 + 1))) else (none)))) else ((some (([92, (48 + ((Int.tdiv (bt a0 x4_1) 100) % 256)) % 256, 48 + (((Int.tdiv (bt a0 x4_1) 10) % 256) % 10), (48 + (Int.tmod (bt a0 x4_1) 10)) % 256] : List Int) : List Int)).bind fun y116 => (if x3_1.length + y116.length < 140737488355328 then (paronymref25_Escaped.l0 kj4 a0 (x3_1 ++ y116) (wrap64 (x4_1 + 1))) else (none)))) = some r := by rw [if_neg (show ¬ (false = true) by decide)] at H; exact H
                clear H
                have H := H1
                clear H1
                by_cases c17 : (bt a0 x4_1) > 32
                · rw [if_pos c17] at H
                  have c17b0 : decide (32 < (bt a0 x4_1)) = true := decide_eq_true c17
                  clear c17
                  by_cases c18 : (bt a0 x4_1) < 127
                  · rw [if_pos c18] at H
                    have c18b0 : decide ((bt a0 x4_1) < 127) = true := decide_eq_true c18
                    clear c18
                    by_cases c19 : x3_1.length < 140737488355328
                    · rw [if_pos c19] at H
                      have LMc19 := Aside0.mk c19
                      clear c19
                      obtain ⟨y107, hy107⟩ : ∃ y_ : List Int, y_ = (x3_1 ++ [(bt a0 x4_1)]) := ⟨_, rfl⟩
                      replace H : (paronymref25_Escaped.l0 kj4 a0 y107 (wrap64 (x4_1 + 1))) = some r := by first | (rw [hy107]; with_reducible exact H) | (have H2_ := (Option.bind_some _ _).symm.trans H; rw [hy107]; with_reducible exact H2_) | (have H2_ := (Option.bind_some _ _).symm.trans H; with_reducible exact H2_) | with_reducible exact H | (rw [hy107]; exact H) | exact H
                      have Ny107 := Aside0.mk hy107
                      clear hy107
                      have H' := Aside0.mk H
                      clear H
                      go_wp2_with (first | ((with_reducible refine gate_builtin (b := .append) (xs := #[.tmp 47, .tmp 49]) rfl ?_); at_builtin; refine Kd.R_append (Kd.int .u8) (w0 := w) w.heap.size rfl (.tmp 47) (.tmp 49) 22 5 (.int .u8 0) 1 rfl Tryd.underlying22 info5 rfl (by decide) (by omega) u3 x3_1 (bt a0 x4_1) [.int .u8 (bt a0 x4_1)] (fun _ => True) (fun _ => False) rfl rfl ?aP (fun _ hk => hk.elim) ?aF ?aO ?aB ?aS ?aL ?_; (case aP => exact rfl); (case aB => exact (by repeat (first | (with_reducible first | exact HB.out | apply below_alloc | apply pw_below_drewN | apply below_drew1) | exact HB.out))); (case aF => exact (fun _ _ => trivial)); (case aO => exact (by (with_reducible repeat (first | apply Kd.R_alloc | apply Kd.R_drewN | apply Kd.R_drew)); exact HO_3.out)); (case aS => exact (below_size (by repeat (first | (with_reducible first | exact HB.out | apply below_alloc | apply pw_below_drewN | apply below_drew1) | exact HB.out)))); (case aL => have := LMc19.out; omega); intro v108 w20 ho hb hg hat; rw [← Ny107.out] at ho; have n0_ := Aside0.mk (hb); have n1_ := Aside0.mk (ho); clear HB; clear HO_3; have HB := n0_; have HO109 := n1_; clear n0_ n1_; clear ho hb hg hat))
                      go_roundg kj4
                      case measure => have := HK1.out; have := HJ4.out; omega
                      case rel => exact ⟨(y107), (wrap64 (x4_1 + 1)), (by first | rfl | (simp; done) | (simp [*]; done)), H', ⟨by have := HK1.out; have := HJ4.out; omega⟩, ⟨by (with_reducible repeat (first | apply Kd.R_alloc | apply Kd.R_drewN | apply Kd.R_drew)); exact HO109.out⟩, ⟨by repeat (first | (with_reducible first | exact HB.out | apply below_alloc | apply pw_below_drewN | apply below_drew1) | exact HB.out)⟩⟩
                    · rw [if_neg c19] at H
                      exact absurd H (by simp)
                  · rw [if_neg c18] at H
                    have c18b0 : decide ((bt a0 x4_1) < 127) = false := decide_eq_false c18
                    clear c18
                    obtain ⟨y110, hy110⟩ : ∃ y_ : List Int, y_ = (([92, (48 + ((Int.tdiv (bt a0 x4_1) 100) % 256)) % 256, 48 + (((Int.tdiv (bt a0 x4_1) 10) % 256) % 10), (48 + (Int.tmod (bt a0 x4_1) 10)) % 256] : List Int)) := ⟨_, rfl⟩
                    replace H : (if x3_1.length + y110.length < 140737488355328 then (paronymref25_Escaped.l0 kj4 a0 (x3_1 ++ y110) (wrap64 (x4_1 + 1))) else (none)) = some r := by first | (rw [hy110]; with_reducible exact H) | (have H2_ := (Option.bind_some _ _).symm.trans H; rw [hy110]; with_reducible exact H2_) | (have H2_ := (Option.bind_some _ _).symm.trans H; with_reducible exact H2_) | with_reducible exact H | (rw [hy110]; exact H) | exact H
                    have Ny110 := Aside0.mk hy110
                    clear hy110
                    by_cases c21 : x3_1.length + y110.length < 140737488355328
                    · rw [if_pos c21] at H
                      have LMc21 := Aside0.mk c21
                      clear c21
                      obtain ⟨y113, hy113⟩ : ∃ y_ : List Int, y_ = (x3_1 ++ y110) := ⟨_, rfl⟩
                      replace H : (paronymref25_Escaped.l0 kj4 a0 y113 (wrap64 (x4_1 + 1))) = some r := by first | (rw [hy113]; with_reducible exact H) | (have H2_ := (Option.bind_some _ _).symm.trans H; rw [hy113]; with_reducible exact H2_) | (have H2_ := (Option.bind_some _ _).symm.trans H; with_reducible exact H2_) | with_reducible exact H | (rw [hy113]; exact H) | exact H
                      have Ny113 := Aside0.mk hy113
                      clear hy113
                      have H' := Aside0.mk H
                      clear H
                      go_wp2_with (first | ((with_reducible refine gate_dst (N := 62) rfl ?_); refine Kd.R_lit (Kd.int .u8) _ 5 ?hg (N := 62) ?hd (xs := ([92, (48 + ((Int.tdiv (bt a0 x4_1) 100) % 256)) % 256, 48 + (((Int.tdiv (bt a0 x4_1) 10) % 256) % 10), (48 + (Int.tmod (bt a0 x4_1) 10)) % 256] : List Int)) (inner := [.int .u8 92, .int .u8 ((48 + ((Int.tdiv (bt a0 x4_1) 100) % 256)) % 256), .int .u8 (48 + (((Int.tdiv (bt a0 x4_1) 10) % 256) % 10)), .int .u8 ((48 + (Int.tmod (bt a0 x4_1) 10)) % 256)]) (ok := fun _ => True) (okp := fun _ => True) ?hr ?hp (fun _ hk => hk) trivial (Below.refl _ _) (Nat.le_refl _) (by simp) ?_; (case hd => rfl); (case hg => rfl); (case hr => first | (go_simp; done) | (go_simp; rfl)); (case hp => exact (Reps.one (show Kd.M (Kd.int .u8) _ _ _ 92 [.int .u8 92] from rfl) (Reps.one (show Kd.M (Kd.int .u8) _ _ _ ((48 + ((Int.tdiv (bt a0 x4_1) 100) % 256)) % 256) [.int .u8 ((48 + ((Int.tdiv (bt a0 x4_1) 100) % 256)) % 256)] from rfl) (Reps.one (show Kd.M (Kd.int .u8) _ _ _ (48 + (((Int.tdiv (bt a0 x4_1) 10) % 256) % 10)) [.int .u8 (48 + (((Int.tdiv (bt a0 x4_1) 10) % 256) % 10))] from rfl) (Reps.one (show Kd.M (Kd.int .u8) _ _ _ ((48 + (Int.tmod (bt a0 x4_1) 10)) % 256) [.int .u8 ((48 + (Int.tmod (bt a0 x4_1) 10)) % 256)] from rfl) (Reps.none _ _)))))); intro v111 w22 ho23 hb hg_ hnew_; clear hg_ hnew_; (first | rw [← Ny110.out] at ho23 | (simp only [Int.reduceToNat] at ho23; rw [← Ny110.out] at ho23)); have n0_ := Aside0.mk (Kd.R_elder' (by (with_reducible repeat (first | apply Kd.R_alloc | apply Kd.R_drewN | apply Kd.R_drew)); exact HO_3.out) (Kd.R_base ho23) hb); have n1_ := Aside0.mk (Kd.R_lower (Kd.R_new' ho23 (Kd.R_lt (by (with_reducible repeat (first | apply Kd.R_alloc | apply Kd.R_drewN | apply Kd.R_drew)); exact HO_3.out))) (below_size (by repeat (first | (with_reducible first | exact HB.out | apply below_alloc | apply pw_below_drewN | apply below_drew1) | exact HB.out)))); have n2_ := Aside0.mk (below_step (by repeat (first | (with_reducible first | exact HB.out | apply below_alloc | apply pw_below_drewN | apply below_drew1) | exact HB.out)) hb); clear HO_3; clear HB; have HO_3 := n0_; have HO112 := n1_; have HB := n2_; clear n0_ n1_ n2_; clear hb ho23; obtain ⟨Ao25, co25, eo25⟩ := Kd.R_slice HO112.out; subst eo25) | ((with_reducible refine gate_builtin (b := .append) (xs := #[.tmp 51, .tmp 62]) rfl ?_); at_builtin; refine Kd.R_append_rows (Kd.int .u8) (w0 := w) w.heap.size rfl (.tmp 51) (.tmp 62) 22 5 (.int .u8 0) 1 rfl Tryd.underlying22 info5 rfl (by decide) (by omega) u3 x3_1 y110 _ _ _ (fun k_ => some k_ ≠ (.slice Ao25 y110.length co25 : Value).ownBlock) (fun _ => False) rfl rfl ?aO ?aR (fun _ _ h => h) (fun _ h => h.elim) ?aF ?aB ?aS ?aL ?_; (case aR => repeat (first | exact (Kd.R_reads' HO112.out).2.2 | (with_reducible refine Kd.C_alloc ?_ _) | (with_reducible refine Kd.C_drewN ?_ _) | (with_reducible refine Kd.C_drew ?_))); (case aB => exact (by repeat (first | (with_reducible first | exact HB.out | apply below_alloc | apply pw_below_drewN | apply below_drew1) | exact HB.out))); (case aF => exact (fun k_ hk => Kd.fresh' (Kd.R_lt (by (with_reducible repeat (first | apply Kd.R_alloc | apply Kd.R_drewN | apply Kd.R_drew)); exact HO112.out)) k_ hk)); (case aO => exact (by (with_reducible repeat (first | apply Kd.R_alloc | apply Kd.R_drewN | apply Kd.R_drew)); exact Kd.R_mono HO_3.out (fun _ hk => hk.2))); (case aS => exact (below_size (by repeat (first | (with_reducible first | exact HB.out | apply below_alloc | apply pw_below_drewN | apply below_drew1) | exact HB.out)))); (case aL => have := LMc21.out; omega); intro v114 w24 ho hb hg hat; rw [← Ny113.out] at ho; have n0_ := Aside0.mk (Kd.R_after (ok := (fun _ => True)) (by (with_reducible repeat (first | apply Kd.R_alloc | apply Kd.R_drewN | apply Kd.R_drew)); exact HO112.out) hg hat); have n1_ := Aside0.mk (hb); have n2_ := Aside0.mk (ho); clear HO112; clear HB; clear HO_3; have HO112 := n0_; have HB := n1_; have HO115 := n2_; clear n0_ n1_ n2_; clear ho hb hg hat))
                      go_roundg kj4
                      case measure => have := HK1.out; have := HJ4.out; omega
                      case rel => exact ⟨(y113), (wrap64 (x4_1 + 1)), (by first | rfl | (simp; done) | (simp [*]; done)), H', ⟨by have := HK1.out; have := HJ4.out; omega⟩, ⟨by (with_reducible repeat (first | apply Kd.R_alloc | apply Kd.R_drewN | apply Kd.R_drew)); exact Kd.R_mono HO115.out (fun _ hk => trivial)⟩, ⟨by repeat (first | (with_reducible first | exact HB.out | apply below_alloc | apply pw_below_drewN | apply below_drew1) | exact HB.out)⟩⟩
                    · rw [if_neg c21] at H
                      exact absurd H (by simp)
                · rw [if_neg c17] at H
                  have c17b0 : decide (32 < (bt a0 x4_1)) = false := decide_eq_false c17
                  clear c17
                  obtain ⟨y116, hy116⟩ : ∃ y_ : List Int, y_ = (([92, (48 + ((Int.tdiv (bt a0 x4_1) 100) % 256)) % 256, 48 + (((Int.tdiv (bt a0 x4_1) 10) % 256) % 10), (48 + (Int.tmod (bt a0 x4_1) 10)) % 256] : List Int)) := ⟨_, rfl⟩
                  replace H : (if x3_1.length + y116.length < 140737488355328 then (paronymref25_Escaped.l0 kj4 a0 (x3_1 ++ y116) (wrap64 (x4_1 + 1))) else (none)) = some r := by first | (rw [hy116]; with_reducible exact H) | (have H2_ := (Option.bind_some _ _).symm.trans H; rw [hy116]; with_reducible exact H2_) | (have H2_ := (Option.bind_some _ _).symm.trans H; with_reducible exact H2_) | with_reducible exact H | (rw [hy116]; exact H) | exact H
                  have Ny116 := Aside0.mk hy116
                  clear hy116
                  by_cases c26 : x3_1.length + y116.length < 140737488355328
                  · rw [if_pos c26] at H
                    have LMc26 := Aside0.mk c26
                    clear c26
                    obtain ⟨y119, hy119⟩ : ∃ y_ : List Int, y_ = (x3_1 ++ y116) := ⟨_, rfl⟩
                    replace H : (paronymref25_Escaped.l0 kj4 a0 y119 (wrap64 (x4_1 + 1))) = some r := by first | (rw [hy119]; with_reducible exact H) | (have H2_ := (Option.bind_some _ _).symm.trans H; rw [hy119]; with_reducible exact H2_) | (have H2_ := (Option.bind_some _ _).symm.trans H; with_reducible exact H2_) | with_reducible exact H | (rw [hy119]; exact H) | exact H
                    have Ny119 := Aside0.mk hy119
                    clear hy119
                    have H' := Aside0.mk H
                    clear H
                    go_wp2_with (first | ((with_reducible refine gate_dst (N := 62) rfl ?_); refine Kd.R_lit (Kd.int .u8) _ 5 ?hg (N := 62) ?hd (xs := ([92, (48 + ((Int.tdiv (bt a0 x4_1) 100) % 256)) % 256, 48 + (((Int.tdiv (bt a0 x4_1) 10) % 256) % 10), (48 + (Int.tmod (bt a0 x4_1) 10)) % 256] : List Int)) (inner := [.int .u8 92, .int .u8 ((48 + ((Int.tdiv (bt a0 x4_1) 100) % 256)) % 256), .int .u8 (48 + (((Int.tdiv (bt a0 x4_1) 10) % 256) % 10)), .int .u8 ((48 + (Int.tmod (bt a0 x4_1) 10)) % 256)]) (ok := fun _ => True) (okp := fun _ => True) ?hr ?hp (fun _ hk => hk) trivial (Below.refl _ _) (Nat.le_refl _) (by simp) ?_; (case hd => rfl); (case hg => rfl); (case hr => first | (go_simp; done) | (go_simp; rfl)); (case hp => exact (Reps.one (show Kd.M (Kd.int .u8) _ _ _ 92 [.int .u8 92] from rfl) (Reps.one (show Kd.M (Kd.int .u8) _ _ _ ((48 + ((Int.tdiv (bt a0 x4_1) 100) % 256)) % 256) [.int .u8 ((48 + ((Int.tdiv (bt a0 x4_1) 100) % 256)) % 256)] from rfl) (Reps.one (show Kd.M (Kd.int .u8) _ _ _ (48 + (((Int.tdiv (bt a0 x4_1) 10) % 256) % 10)) [.int .u8 (48 + (((Int.tdiv (bt a0 x4_1) 10) % 256) % 10))] from rfl) (Reps.one (show Kd.M (Kd.int .u8) _ _ _ ((48 + (Int.tmod (bt a0 x4_1) 10)) % 256) [.int .u8 ((48 + (Int.tmod (bt a0 x4_1) 10)) % 256)] from rfl) (Reps.none _ _)))))); intro v117 w27 ho28 hb hg_ hnew_; clear hg_ hnew_; (first | rw [← Ny116.out] at ho28 | (simp only [Int.reduceToNat] at ho28; rw [← Ny116.out] at ho28)); have n0_ := Aside0.mk (Kd.R_elder' (by (with_reducible repeat (first | apply Kd.R_alloc | apply Kd.R_drewN | apply Kd.R_drew)); exact HO_3.out) (Kd.R_base ho28) hb); have n1_ := Aside0.mk (Kd.R_lower (Kd.R_new' ho28 (Kd.R_lt (by (with_reducible repeat (first | apply Kd.R_alloc | apply Kd.R_drewN | apply Kd.R_drew)); exact HO_3.out))) (below_size (by repeat (first | (with_reducible first | exact HB.out | apply below_alloc | apply pw_below_drewN | apply below_drew1) | exact HB.out)))); have n2_ := Aside0.mk (below_step (by repeat (first | (with_reducible first | exact HB.out | apply below_alloc | apply pw_below_drewN | apply below_drew1) | exact HB.out)) hb); clear HO_3; clear HB; have HO_3 := n0_; have HO118 := n1_; have HB := n2_; clear n0_ n1_ n2_; clear hb ho28; obtain ⟨Ao30, co30, eo30⟩ := Kd.R_slice HO118.out; subst eo30) | ((with_reducible refine gate_builtin (b := .append) (xs := #[.tmp 51, .tmp 62]) rfl ?_); at_builtin; refine Kd.R_append_rows (Kd.int .u8) (w0 := w) w.heap.size rfl (.tmp 51) (.tmp 62) 22 5 (.int .u8 0) 1 rfl Tryd.underlying22 info5 rfl (by decide) (by omega) u3 x3_1 y116 _ _ _ (fun k_ => some k_ ≠ (.slice Ao30 y116.length co30 : Value).ownBlock) (fun _ => False) rfl rfl ?aO ?aR (fun _ _ h => h) (fun _ h => h.elim) ?aF ?aB ?aS ?aL ?_; (case aR => repeat (first | exact (Kd.R_reads' HO118.out).2.2 | (with_reducible refine Kd.C_alloc ?_ _) | (with_reducible refine Kd.C_drewN ?_ _) | (with_reducible refine Kd.C_drew ?_))); (case aB => exact (by repeat (first | (with_reducible first | exact HB.out | apply below_alloc | apply pw_below_drewN | apply below_drew1) | exact HB.out))); (case aF => exact (fun k_ hk => Kd.fresh' (Kd.R_lt (by (with_reducible repeat (first | apply Kd.R_alloc | apply Kd.R_drewN | apply Kd.R_drew)); exact HO118.out)) k_ hk)); (case aO => exact (by (with_reducible repeat (first | apply Kd.R_alloc | apply Kd.R_drewN | apply Kd.R_drew)); exact Kd.R_mono HO_3.out (fun _ hk => hk.2))); (case aS => exact (below_size (by repeat (first | (with_reducible first | exact HB.out | apply below_alloc | apply pw_below_drewN | apply below_drew1) | exact HB.out)))); (case aL => have := LMc26.out; omega); intro v120 w29 ho hb hg hat; rw [← Ny119.out] at ho; have n0_ := Aside0.mk (Kd.R_after (ok := (fun _ => True)) (by (with_reducible repeat (first | apply Kd.R_alloc | apply Kd.R_drewN | apply Kd.R_drew)); exact HO118.out) hg hat); have n1_ := Aside0.mk (hb); have n2_ := Aside0.mk (ho); clear HO118; clear HB; clear HO_3; have HO118 := n0_; have HB := n1_; have HO121 := n2_; clear n0_ n1_ n2_; clear ho hb hg hat))
                    go_roundg kj4
                    case measure => have := HK1.out; have := HJ4.out; omega
                    case rel => exact ⟨(y119), (wrap64 (x4_1 + 1)), (by first | rfl | (simp; done) | (simp [*]; done)), H', ⟨by have := HK1.out; have := HJ4.out; omega⟩, ⟨by (with_reducible repeat (first | apply Kd.R_alloc | apply Kd.R_drewN | apply Kd.R_drew)); exact Kd.R_mono HO121.out (fun _ hk => trivial)⟩, ⟨by repeat (first | (with_reducible first | exact HB.out | apply below_alloc | apply pw_below_drewN | apply below_drew1) | exact HB.out)⟩⟩
                  · rw [if_neg c26] at H
                    exact absurd H (by simp)
        · rw [if_neg c3] at H
          exact absurd H (by simp)
      · rw [if_neg c2] at H
        have c2b0 : decide (x4_1 < (a0.size : Int)) = false := decide_eq_false c2
        clear c2
        obtain rfl := Option.some.inj H
        have hcv31 := own_string (P := Tryd.prog) Tryd.underlying22 Tryd.underlying5 Tryd.underlying9 (Kd.own_of_R HO_3.out)
        have hcv32 := fun (nd_ : Nat) => own_string (P := Tryd.prog) Tryd.underlying22 Tryd.underlying5 Tryd.underlying9 (Kd.own_of_R (Kd.R_drewN HO_3.out nd_))
        go_wp2
        go_ret
        exact ⟨by first | rfl | (simp [errW_none, errW_some] <;> rfl) | (simp [*, errW_none, errW_some] <;> rfl), by repeat (first | (with_reducible first | exact HB.out | apply below_alloc | apply pw_below_drewN | apply below_drew1) | exact HB.out)⟩

end Go.Proofs.YtdnfmilnkoocdaaDoor.Q

-- from Pesc
/- Texts made of units: an octet as it is, a backslash and an octet, a backslash and three digits. -/
namespace Go.Proofs.YtdnfmilnkoocdaaDoor.K
set_option linter.unusedVariables false
set_option linter.unusedSimpArgs false
open Go.RowKit Go.Proofs.YtdnfmilnkoocdaaDoor.Q Go.Proofs.YtdnfmilnkoocdaaDoorW.PrintWords Go.Proofs.YtdnfmilnkoocdaaDoorW.PrintLast

theorem bof_is {L : List Int} (ho : Oct L) (hL : L.length ≤ 1000000) : Q.bytesOf.f (strOfNums L) = some L := by
  unfold Q.bytesOf.f
  rw [if_pos (by rw [size_str]; omega)]
  congr 1
  exact bytesOf_str ho
inductive Uni : List Int × Int → Prop
  | esc (c : Int) : dig c = false → 0 ≤ c → c ≤ 255 → Uni ([92, c], c)
  | one (c : Int) : c ≠ 92 → c ≠ 34 → c ≠ 40 → c ≠ 41 → sep c = false → 0 ≤ c → c ≤ 255 → Uni ([c], c)
  | num (c d1 d2 d3 : Int) : dig d1 = true → dig d2 = true → dig d3 = true → (d1 - 48) * 100 + (d2 - 48) * 10 + (d3 - 48) = c → 0 ≤ c → c ≤ 255 → Uni ([92, d1, d2, d3], c)
def flat (us : List (List Int × Int)) : List Int := us.flatMap (·.1)
theorem flat_cons (u : List Int × Int) (us : List (List Int × Int)) : flat (u :: us) = u.1 ++ flat us := by unfold flat; rw [List.flatMap_cons]
theorem special_nodig {c : Int} (h : special c = true) : dig c = false := by
  have := of_decide_eq_true h
  exact decide_eq_false (by omega)
theorem esc1_uni {c : Int} (h : 0 ≤ c ∧ c ≤ 255) : Uni (esc1 c, c) := by
  unfold esc1
  by_cases sp : special c = true
  · rw [if_pos sp]; exact .esc c (special_nodig sp) h.1 h.2
  have sp' : special c = false := by simpa using sp
  rw [if_neg sp]
  by_cases g : 32 < c ∧ c ≤ 126
  · rw [if_pos g]
    have := of_decide_eq_false sp'
    exact .one c (by omega) (by omega) (by omega) (by omega) (decide_eq_false (by omega)) h.1 h.2
  · rw [if_neg g]
    exact .num c _ _ _ (decide_eq_true (by omega)) (decide_eq_true (by omega)) (decide_eq_true (by omega)) (by omega) h.1 h.2
theorem dot_uni : Uni ([46], 46) := .one 46 (by decide) (by decide) (by decide) (by decide) (by decide) (by decide) (by decide)
def units (b : List Int) : List (List Int × Int) := b.map fun c => (esc1 c, c)
theorem flat_units (b : List Int) : flat (units b) = b.flatMap esc1 := by unfold flat units; rw [List.flatMap_map]
theorem units_snd (b : List Int) : (units b).map (·.2) = b := by unfold units; rw [List.map_map]; simp [Function.comp_def]
theorem units_uni {b : List Int} (ho : Oct b) : ∀ u ∈ units b, Uni u := fun u hu => by
  obtain ⟨c, hc, rfl⟩ := List.mem_map.1 hu
  exact esc1_uni (ho c hc)
theorem Uni.oct {u : List Int × Int} (h : Uni u) : Oct u.1 := by
  cases h with
  | esc c h1 h2 h3 => intro x hx; simp at hx; omega
  | one c => intro x hx; simp at hx; omega
  | num c d1 d2 d3 h1 h2 h3 =>
    have a1 := of_decide_eq_true h1
    have a2 := of_decide_eq_true h2
    have a3 := of_decide_eq_true h3
    intro x hx; simp at hx; omega
theorem flat_oct {us : List (List Int × Int)} (h : ∀ u ∈ us, Uni u) : Oct (flat us) := fun x hx => by
  obtain ⟨u, hu, hx⟩ := List.mem_flatMap.1 hx
  exact (h u hu).oct x hx
theorem escL_nodig {a c : Int} (r : List Int) (h : dig c = false) : escL (a :: c :: r) = 2 := by
  have h' : ¬ dig c = true := by simp [h]
  match r with
  | [] => rw [escL_2, if_neg h']
  | [x] => rw [escL_3, if_neg h']
  | x :: y :: r => rw [escL_4, if_neg h']
def addn : Nat → Sum Int Nat → Sum Int Nat
  | 0, x => x
  | n + 1, x => bump (addn n x)
theorem addn_add (m n : Nat) (x : Sum Int Nat) : addn m (addn n x) = addn (m + n) x := by
  induction m with
  | zero => rw [Nat.zero_add]; rfl
  | succ m ih => rw [addn, ih, show m + 1 + n = (m + n) + 1 by omega, addn]
theorem addn_inr (n m : Nat) : addn n (.inr m) = .inr (m + n) := by
  induction n with
  | zero => rfl
  | succ n ih => rw [addn, ih]; rfl
theorem scan_us : ∀ (us : List (List Int × Int)) (r : List Int), (∀ u ∈ us, Uni u) → scan false 0 (flat us ++ r) = addn (flat us).length (scan false 0 r)
  | [], r, _ => rfl
  | u :: us, r, h => by
    have ih := scan_us us r (fun x hx => h x (List.mem_cons_of_mem _ hx))
    rw [flat_cons, List.append_assoc, List.length_append]
    generalize flat us ++ r = R at *
    cases h u List.mem_cons_self with
    | esc c h1 h2 h3 =>
      show scan false 0 (92 :: c :: R) = addn (2 + _) _
      rw [scan_0, if_pos rfl, escL_nodig R h1, if_neg (by decide)]
      show bump (scan false 1 (c :: R)) = _
      rw [scan, ih, ← addn_add]
      rfl
    | one c g1 g2 g3 g4 g5 =>
      show scan false 0 (c :: R) = addn (1 + _) _
      rw [scan_0, if_neg g1, if_neg (by simp), if_neg g2, if_neg (by omega), if_neg (by simp [g5]), ih, ← addn_add]
      rfl
    | num c d1 d2 d3 h1 h2 h3 hv hc0 hc1 =>
      show scan false 0 (92 :: d1 :: d2 :: d3 :: R) = addn (4 + _) _
      have he : escL (92 :: d1 :: d2 :: d3 :: R) = 4 := by rw [escL_4, if_pos h1, if_pos ⟨h2, h3, by omega⟩]
      rw [scan_0, if_pos rfl, he, if_neg (by decide)]
      show bump (scan false 3 (d1 :: d2 :: d3 :: R)) = _
      rw [scan, scan, scan, ih, ← addn_add]
      rfl
/-- A unit's first octet is no blank, no semicolon, no quote. -/
theorem Uni.head {u : List Int × Int} (h : Uni u) : ∃ x t, u.1 = x :: t ∧ blank x = false ∧ x ≠ 59 ∧ x ≠ 34 := by
  cases h with
  | esc c => exact ⟨92, _, rfl, by decide, by decide, by decide⟩
  | one c g1 g2 g3 g4 g5 =>
    have := of_decide_eq_false g5
    exact ⟨c, _, rfl, decide_eq_false (by omega), by omega, g2⟩
  | num c => exact ⟨92, _, rfl, by decide, by decide, by decide⟩
theorem wordL_us {us : List (List Int × Int)} {r : List Int} {m : Nat} (h : ∀ u ∈ us, Uni u) (hne : us ≠ []) (hr : scan false 0 r = .inr m) : ∃ x t, flat us = x :: t ∧ blank x = false ∧ x ≠ 59 ∧ x ≠ 34 ∧ wordL (flat us ++ r) = .inr (m + (flat us).length) := by
  cases us with
  | nil => exact absurd rfl hne
  | cons u us =>
    obtain ⟨x, t, e, h1, h2, h3⟩ := (h u List.mem_cons_self).head
    have hs := scan_us (u :: us) r h
    rw [hr, addn_inr] at hs
    refine ⟨x, t ++ flat us, by rw [flat_cons, e]; rfl, h1, h2, h3, ?_⟩
    rw [← hs, flat_cons, e]
    show wordL (x :: (t ++ _ ++ r)) = _
    rw [wordL_cons, if_neg h3]
    rfl
theorem Spl_us {us : List (List Int × Int)} (h : ∀ u ∈ us, Uni u) (hne : us ≠ []) : Spl (flat us) (.inr [flat us]) := by
  obtain ⟨x, u, e, h1, h2, h3, hw⟩ := wordL_us (r := []) (m := 0) h hne rfl
  rw [List.append_nil, Nat.zero_add] at hw
  have hd : (flat us).dropWhile blank = x :: u := by rw [e, List.dropWhile_cons, if_neg (by simp [h1])]
  rw [e] at hw
  have := Spl.more hd h2 hw (r := .inr []) (Spl.nil (by rw [List.drop_length]; rfl))
  rw [List.take_length] at this
  rw [← e] at this
  exact this
theorem Spl_us_rem {us : List (List Int × Int)} (rest : List Int) (h : ∀ u ∈ us, Uni u) (hne : us ≠ []) : Spl (flat us ++ 32 :: 59 :: rest) (.inr [flat us]) := by
  obtain ⟨x, u, e, h1, h2, h3, hw⟩ := wordL_us (r := 32 :: 59 :: rest) (m := 0) h hne (by rfl)
  rw [Nat.zero_add] at hw
  have hx : flat us ++ 32 :: 59 :: rest = x :: (u ++ 32 :: 59 :: rest) := by rw [e]; rfl
  have hd : (flat us ++ 32 :: 59 :: rest).dropWhile blank = x :: (u ++ 32 :: 59 :: rest) := by rw [hx, List.dropWhile_cons, if_neg (by simp [h1])]
  have tail : Spl (32 :: 59 :: rest) (.inr []) := Spl.rem (u := rest) (by rfl)
  rw [hx] at hw
  have := Spl.more hd h2 hw (r := .inr []) (by rw [← hx, List.drop_left]; exact tail)
  rw [← hx, List.take_left] at this
  exact this

/-! what an escape stands for -/
theorem esc_val2 {c : Int} {r : List Int} (ho : Oct (92 :: c :: r)) (hd : dig c = false) : Ev (fun k => token_escape.f k (strOfNums (92 :: c :: r))) (c, 2) := by
  unfold token_escape.f
  have hs : ((strOfNums (92 :: c :: r)).size : Int) = (r.length : Int) + 2 := by rw [size_str]; simp; omega
  have hb : bt (strOfNums (92 :: c :: r)) 1 = c := by rw [bt_str ho (by omega) (by simp; omega)]; rfl
  rw [hs, hb, digit_is]
  exact Ev.neg (by omega) (Ev.pos (by omega) (Ev.bind (Ev.now _) (Ev.neg (by simp [hd]) (Ev.now _))))
theorem esc_val4 {c d1 d2 d3 : Int} {r : List Int} (ho : Oct (92 :: d1 :: d2 :: d3 :: r)) (h1 : dig d1 = true) (h2 : dig d2 = true) (h3 : dig d3 = true) (hv : (d1 - 48) * 100 + (d2 - 48) * 10 + (d3 - 48) = c) (hc : 0 ≤ c ∧ c ≤ 255) :
    Ev (fun k => token_escape.f k (strOfNums (92 :: d1 :: d2 :: d3 :: r))) (c, 4) := by
  unfold token_escape.f
  have hs : ((strOfNums (92 :: d1 :: d2 :: d3 :: r)).size : Int) = (r.length : Int) + 4 := by rw [size_str]; simp; omega
  have e1 : bt (strOfNums (92 :: d1 :: d2 :: d3 :: r)) 1 = d1 := by rw [bt_str ho (by omega) (by simp; omega)]; rfl
  have e2 : bt (strOfNums (92 :: d1 :: d2 :: d3 :: r)) 2 = d2 := by rw [bt_str ho (by omega) (by simp; omega)]; rfl
  have e3 : bt (strOfNums (92 :: d1 :: d2 :: d3 :: r)) 3 = d3 := by rw [bt_str ho (by omega) (by simp; omega)]; rfl
  have b1 := of_decide_eq_true h1
  have b2 := of_decide_eq_true h2
  have b3 := of_decide_eq_true h3
  have m1 : (d1 - 48) % 256 = d1 - 48 := by omega
  have m2 : (d2 - 48) % 256 = d2 - 48 := by omega
  have m3 : (d3 - 48) % 256 = d3 - 48 := by omega
  have j0 : ∀ q : Bool, q = false → Ev (fun k => token_escape.j0 k (strOfNums (92 :: d1 :: d2 :: d3 :: r)) q) (c, 4) := by
    intro q hq
    refine Ev.step (fun k => rfl) (Ev.neg (by simp [hq]) (Ev.pos (by omega) (Ev.pos (by omega) (Ev.pos (by omega) ?_))))
    rw [e1, e2, e3, m1, m2, m3, hv]
    exact Ev.neg (by omega) (Ev.ret (by rw [show c % 256 = c by omega]))
  rw [hs, e1, e2, e3, digit_is, digit_is, digit_is]
  refine Ev.neg (by omega) (Ev.pos (by omega) (Ev.bind (Ev.now _) (Ev.pos h1 (Ev.neg (by omega) (Ev.pos (by omega) (Ev.bind (Ev.now _) (Ev.pos h2 (Ev.pos (by omega) (Ev.bind (Ev.now _) ?_)))))))))
  rw [h3]
  exact j0 false rfl
theorem plain_us : ∀ (us : List (List Int × Int)), (∀ u ∈ us, Uni u) → ∀ acc : List Int, acc.length + us.length ≤ 100000 → Ev (fun k => token_Plain.l0 k (strOfNums (flat us)) acc) (acc ++ us.map (·.2), 0)
  | [], h, acc, hl => Ev.step (fun k => rfl) (Ev.neg (by rw [size_str]; simp [flat]) (Ev.ret (by simp)))
  | u :: us, h, acc, hl => by
    have hob : ∀ x ∈ us, Uni x := fun x hx => h x (List.mem_cons_of_mem _ hx)
    have ih := plain_us us hob (acc ++ [u.2]) (by rw [List.length_append]; simp only [List.length_cons, List.length_nil] at hl ⊢; omega)
    rw [List.append_assoc, show [u.2] ++ us.map (·.2) = (u :: us).map (·.2) from rfl] at ih
    rw [List.length_cons] at hl
    have hoe := flat_oct h
    rw [flat_cons] at hoe ⊢
    generalize hR : flat us = R at *
    refine Ev.succ ?_
    simp only [token_Plain.l0]
    cases h u List.mem_cons_self with
    | esc c sp c0 c1 =>
      simp only [List.cons_append, List.nil_append] at hoe ih ⊢
      have hs : ((strOfNums (92 :: c :: R)).size : Int) = (R.length : Int) + 2 := by rw [size_str]; simp; omega
      have hb : bt (strOfNums (92 :: c :: R)) 0 = 92 := by rw [bt_str hoe (by omega) (by simp; omega)]; rfl
      rw [hs]
      refine Ev.pos (by omega) (Ev.pos (by omega) (Ev.pos hb (Ev.bind (esc_val2 hoe sp) (Ev.pos (by omega) (Ev.pos (by show (0 : Int) ≤ 2; omega) (Ev.pos (by show (2 : Int) ≤ _; omega) ?_))))))
      show Ev (fun k => token_Plain.l0 k ((strOfNums (92 :: c :: R)).extract 2 (strOfNums (92 :: c :: R)).size) (acc ++ [c])) _
      rw [extract_str, size_str, List.take_length]
      exact ih
    | one c g1 g2 g3 g4 g5 c0 c1 =>
      simp only [List.cons_append, List.nil_append] at hoe ih ⊢
      have hs : ((strOfNums (c :: R)).size : Int) = (R.length : Int) + 1 := by rw [size_str]; simp
      have hb : bt (strOfNums (c :: R)) 0 = c := by rw [bt_str hoe (by omega) (by rw [List.length_cons]; omega)]; rfl
      rw [hs, hb]
      refine Ev.pos (by omega) (Ev.pos (by omega) (Ev.neg g1 (Ev.pos (by omega) (Ev.pos (by omega) ?_))))
      show Ev (fun k => token_Plain.l0 k ((strOfNums (c :: R)).extract 1 (strOfNums (c :: R)).size) (acc ++ [c])) _
      rw [extract_str, size_str, List.take_length]
      exact ih
    | num c d1 d2 d3 h1' h2' h3' hv c0 c1 =>
      simp only [List.cons_append, List.nil_append] at hoe ih ⊢
      have hs : ((strOfNums (92 :: d1 :: d2 :: d3 :: R)).size : Int) = (R.length : Int) + 4 := by rw [size_str]; simp; omega
      have hb : bt (strOfNums (92 :: d1 :: d2 :: d3 :: R)) 0 = 92 := by rw [bt_str hoe (by omega) (by simp; omega)]; rfl
      rw [hs]
      refine Ev.pos (by omega) (Ev.pos (by omega) (Ev.pos hb (Ev.bind (esc_val4 hoe h1' h2' h3' hv ⟨c0, c1⟩) (Ev.pos (by omega) (Ev.pos (by show (0 : Int) ≤ 4; omega) (Ev.pos (by show (4 : Int) ≤ _; omega) ?_))))))
      show Ev (fun k => token_Plain.l0 k ((strOfNums (92 :: d1 :: d2 :: d3 :: R)).extract 4 (strOfNums (92 :: d1 :: d2 :: d3 :: R)).size) (acc ++ [c])) _
      rw [extract_str, size_str, List.take_length]
      exact ih
theorem plain_ev {us : List (List Int × Int)} (h : ∀ u ∈ us, Uni u) (hb : (flat us).length ≤ 1000000) (hu : us.length ≤ 90000) (hne : us ≠ []) : Ev (fun k => token_Plain.f k (strOfNums (flat us))) (us.map (·.2), 0) := by
  have hoe := flat_oct h
  obtain ⟨x, u, e, h1, h2, h3, _⟩ := wordL_us (r := []) (m := 0) h hne rfl
  have hspl := Split_ev (Spl_us h hne) hoe (by omega)
  have hpos : 0 < (flat us).length := by rw [e]; simp
  have hbt : bt (strOfNums (flat us)) 0 = x := by rw [bt_str hoe (by omega) (by omega), e]; rfl
  unfold token_Plain.f
  rw [bof_is hoe (by omega), hbt]
  refine Ev.bind (Ev.now _) (Ev.bind hspl (Ev.pos rfl (Ev.pos rfl (Ev.pos (by show (0 : Int) < 1; omega) (Ev.pos rfl (Ev.pos (by rw [size_str]; omega) (Ev.neg h3 ?_)))))))
  exact Ev.step (fun k => rfl) (plain_us us h [] (by simp; omega))

/-! the document's escape -/
theorem tdiv_c {c : Int} (h : 0 ≤ c) (n : Int) : Int.tdiv c n = c / n := Int.tdiv_eq_ediv_of_nonneg h
/-- The three ways of an octet. -/
theorem esc1_ways {c : Int} (h : 0 ≤ c ∧ c ≤ 255) :
    (special c = true ∧ esc1 c = [92, c]) ∨ (special c = false ∧ 32 < c ∧ c ≤ 126 ∧ esc1 c = [c]) ∨
    (∃ d1 d2 d3 : Int, esc1 c = [92, d1, d2, d3] ∧ dig d1 = true ∧ dig d2 = true ∧ dig d3 = true ∧ (d1 - 48) * 100 + (d2 - 48) * 10 + (d3 - 48) = c) := by
  unfold esc1
  by_cases sp : special c = true
  · exact .inl ⟨sp, if_pos sp⟩
  have sp' : special c = false := by simpa using sp
  rw [if_neg sp]
  by_cases g : 32 < c ∧ c ≤ 126
  · exact .inr (.inl ⟨sp', g.1, g.2, if_pos g⟩)
  · rw [if_neg g]
    refine .inr (.inr ⟨_, _, _, rfl, ?_, ?_, ?_, ?_⟩)
    · exact decide_eq_true (by omega)
    · exact decide_eq_true (by omega)
    · exact decide_eq_true (by omega)
    · omega
theorem escaped_loop {b : List Int} (ho : Oct b) (hb : b.length ≤ 1000) : ∀ (d i : Nat), b.length - i = d → i ≤ b.length → Ev (fun k => paronymref25_Escaped.l0 k (strOfNums b) ((b.take i).flatMap esc1) (i : Int)) (strOfNums (b.flatMap esc1)) := by
  intro d
  induction d with
  | zero =>
    intro i h1 h2
    rw [List.take_of_length_le (by omega)]
    exact Ev.step (fun k => rfl) (Ev.neg (by rw [size_str]; omega) (Ev.now _))
  | succ d ih =>
    intro i h1 h2
    have hlt : i < b.length := by omega
    have hc := ho.rd (i := (i : Int)) (by omega) (by omega)
    have hbt : bt (strOfNums b) (i : Int) = rd b (i : Int) := bt_str ho (by omega) (by omega)
    have htk := take_snoc b i hlt
    have next := ih (i + 1) (by omega) (by omega)
    rw [htk, List.flatMap_append, List.flatMap_singleton] at next
    have hacc : ((b.take i).flatMap esc1).length ≤ 4000 := by
      have := esc_len (b.take i)
      rw [List.length_take] at this
      omega
    generalize hcc : rd b (i : Int) = c at *
    have hw : wrap64 ((i : Int) + 1) = ((i + 1 : Nat) : Int) := by rw [w64 (by omega) (by omega)]; omega
    generalize (b.take i).flatMap esc1 = acc at *
    have j1 : ∀ q : Bool, special c = q → Ev (fun k => paronymref25_Escaped.j1 k (strOfNums b) acc (i : Int) c q) (strOfNums (b.flatMap esc1)) := by
      intro q hq
      rcases esc1_ways hc with ⟨sp, e⟩ | ⟨sp, g1, g2, e⟩ | ⟨d1, d2, d3, e, h1', h2', h3', hv⟩
      · rw [e] at next
        refine Ev.step (fun k => rfl) (Ev.pos (by rw [← hq, sp]) (Ev.bind (Ev.now _) (Ev.pos (by simp; omega) ?_)))
        rw [hw]; exact next
      · rw [e] at next
        refine Ev.step (fun k => rfl) (Ev.neg (by rw [← hq, sp]; simp) (Ev.pos (by omega) (Ev.pos (by omega) (Ev.pos (by omega) ?_))))
        rw [hw]; exact next
      · have hsf : ¬ q = true := by
          intro h
          rw [h] at hq
          unfold esc1 at e
          rw [if_pos hq] at e
          simp at e
        have hng : ¬ (32 < c ∧ c ≤ 126) := by
          intro h
          unfold esc1 at e
          rw [if_neg (by rw [hq]; exact hsf), if_pos h] at e
          simp at e
        have e2 : esc1 c = [92, 48 + c / 100, 48 + c / 10 % 10, 48 + c % 10] := by
          unfold esc1
          rw [if_neg (by rw [hq]; exact hsf), if_neg hng]
        rw [e2] at next
        have hm : Int.tmod c 10 = c % 10 := Int.tmod_eq_emod_of_nonneg (by omega)
        have v1 : (48 + ((Int.tdiv c 100) % 256)) % 256 = 48 + c / 100 := by rw [tdiv_c (by omega)]; omega
        have v2 : 48 + (((Int.tdiv c 10) % 256) % 10) = 48 + c / 10 % 10 := by rw [tdiv_c (by omega)]; omega
        have v3 : (48 + (Int.tmod c 10)) % 256 = 48 + c % 10 := by rw [hm]; omega
        refine Ev.step (fun k => rfl) (Ev.neg hsf ?_)
        rw [v1, v2, v3]
        by_cases g1 : c > 32
        · refine Ev.pos g1 (Ev.neg (by omega) (Ev.bind (Ev.now _) (Ev.pos (by simp; omega) ?_)))
          rw [hw]; exact next
        · refine Ev.neg g1 (Ev.bind (Ev.now _) (Ev.pos (by simp; omega) ?_))
          rw [hw]; exact next
    refine Ev.step (fun k => rfl) (Ev.pos (by rw [size_str]; omega) (Ev.pos (by omega) ?_))
    rw [hbt]
    have spt : (c = 34 ∨ c = 59 ∨ c = 40 ∨ c = 41 ∨ c = 92 ∨ c = 46) → special c = true := fun h => decide_eq_true h
    by_cases q1 : c = 34
    · exact Ev.pos q1 (j1 true (spt (by omega)))
    refine Ev.neg q1 ?_
    by_cases q2 : c = 59
    · exact Ev.pos q2 (j1 true (spt (by omega)))
    refine Ev.neg q2 ?_
    by_cases q3 : c = 40
    · exact Ev.pos q3 (j1 true (spt (by omega)))
    refine Ev.neg q3 ?_
    by_cases q4 : c = 41
    · exact Ev.pos q4 (j1 true (spt (by omega)))
    refine Ev.neg q4 ?_
    by_cases q5 : c = 92
    · exact Ev.pos q5 (j1 true (spt (by omega)))
    refine Ev.neg q5 (j1 _ ?_)
    by_cases q6 : c = 46
    · rw [spt (by omega)]; simp [q6]
    · rw [show (c == 46) = false by simpa using q6]
      exact decide_eq_false (by omega)
theorem escaped_ev {b : List Int} (ho : Oct b) (hb : b.length ≤ 1000) : Ev (fun k => paronymref25_Escaped.f k (strOfNums b)) (strOfNums (b.flatMap esc1)) := escaped_loop ho hb b.length 0 (by omega) (Nat.zero_le _)

end Go.Proofs.YtdnfmilnkoocdaaDoor.K

-- from Qf54
-- Made by hp.py, a program of this session, with the kit's printer. Not trusted: Lean checks it.
namespace Go.Proofs.YtdnfmilnkoocdaaDoor.Q
open Go.RowKit Go.Proofs.YtdnfmilnkoocdaaDoorW.PrintWords Go.Proofs.YtdnfmilnkoocdaaDoorW.PrintLast Go.Proofs.YtdnfmilnkoocdaaDoorW.PrintMore
attribute [local go_sem] max2_int min2_int max_two min_two max_three min_three max_four min_four   -- for this text's walks alone
set_option linter.unusedVariables false
set_option linter.unusedSimpArgs false

/-! ### owner_cut: function 54 -/
def owner_cut.l0 : Nat → ByteArray → List ByteArray → Int → Int → Option (List ByteArray)
  | 0, _, _, _, _ => none
  | k + 1, x0, x3, x4, x5 => if x5 < (x0.size : Int) then (if 0 ≤ x5 then (if (bt x0 x5) = 92 then (owner_cut.l0 k x0 x3 x4 (wrap64 ((wrap64 (x5 + 1)) + 1))) else (if (bt x0 x5) = 46 then (if 0 ≤ x4 then (if x4 ≤ x5 then (if x5 ≤ (x0.size : Int) then (if x3.length < 8796093022208 then (owner_cut.l0 k x0 (x3 ++ [x0.extract (x4 : Int).toNat (x5 : Int).toNat]) (wrap64 (x5 + 1)) (wrap64 (x5 + 1))) else (none)) else (none)) else (none)) else (none)) else (owner_cut.l0 k x0 x3 x4 (wrap64 (x5 + 1))))) else (none)) else (if 0 ≤ x4 then (if x4 ≤ (x0.size : Int) then (if x3.length < 8796093022208 then (some (x3 ++ [x0.extract (x4 : Int).toNat x0.size])) else (none)) else (none)) else (none))
def owner_cut.f (k : Nat) (a0 : ByteArray) : Option (List ByteArray) := owner_cut.l0 k a0 ([] : List ByteArray) 0 0
theorem owner_cut.mono_l : ∀ k, (∀ y0 y1 y2 y3, LeO (owner_cut.l0 k y0 y1 y2 y3) (owner_cut.l0 (k + 1) y0 y1 y2 y3))
  | 0 => fun _ _ _ _ r h => by simp [owner_cut.l0] at h
  | k + 1 => by
    have ih0 := owner_cut.mono_l k
    · intro y0 y1 y2 y3
      unfold owner_cut.l0
      repeat' first
      | (with_reducible exact ih0 _ _ _ _)
      | (with_reducible exact LeO.refl _)
      | (with_reducible exact LeO.none _)
      | (with_reducible refine LeO.ite ?_ ?_)
      | (with_reducible refine LeO.bind ?_ (fun _ => ?_))
      | exact ih0 _ _ _ _
      | exact LeO.none _
      | refine LeO.ite ?_ ?_
      | refine LeO.bind ?_ (fun _ => ?_)
theorem owner_cut.mono : ∀ a0 k, LeO (owner_cut.f k a0) (owner_cut.f (k + 1) a0) := by
  intro a0 k
  have ih0 := owner_cut.mono_l k
  unfold owner_cut.f
  repeat' first
      | (with_reducible exact ih0 _ _ _ _)
      | (with_reducible exact LeO.refl _)
      | (with_reducible exact LeO.none _)
      | (with_reducible refine LeO.ite ?_ ?_)
      | (with_reducible refine LeO.bind ?_ (fun _ => ?_))
      | exact ih0 _ _ _ _
      | exact LeO.none _
      | refine LeO.ite ?_ ?_
      | refine LeO.bind ?_ (fun _ => ?_)
set_option maxHeartbeats 8000000 in
set_option maxRecDepth 100000 in
theorem owner_cut.calls (k : Nat) (a0 : ByteArray) (r : List ByteArray) (w : World) (h : owner_cut.f k a0 = some r) :
    Calls Tryd.prog 54 #[.string a0] w fun e w' => ∃ v0_ : Value, e = .returned (v0_) ∧ Kd.R Kd.string 9 w' w.heap.size (fun _ => True) v0_ r ∧ Below w.heap.size w w' := by
  have HB := Aside0.mk (Below.refl w.heap.size w)
  have H : (owner_cut.l0 k a0 ([] : List ByteArray) 0 0) = some r := h
  clear h
  have H' := Aside0.mk H
  clear H
  go_enter Tryd.func54, Tryd.ntmps54
  go_wp2
  go_loopg [3, 4, 5] k (fun kq v3 v4 v5 w' => ∃ (x3_1 : List ByteArray) (x4_1 : Int) (x5_1 : Int), v4 = .int .i64 x4_1 ∧ v5 = .int .i64 x5_1 ∧ Aside0 (owner_cut.l0 kq a0 x3_1 x4_1 x5_1 = some r) ∧ Aside0 (kq ≤ k) ∧ Aside0 (Kd.R Kd.string 9 w' w.heap.size (fun _ => True) v3 x3_1) ∧ Aside0 (Below w.heap.size w w'))
  case atStart => exact ⟨(([] : List ByteArray)), (0), (0), (by first | rfl | (simp; done) | (simp [*]; done)), (by first | rfl | (simp; done) | (simp [*]; done)), H', ⟨Nat.le_refl _⟩, ⟨by first | exact Kd.R_nil _ _ _ _ _ | exact Kd.N_nil _ _ _ _ _ | exact Kd.V_nil _ _ _ _ _ | exact Kd.Q_nil _ _ _ _ _ | exact Kd.S_nil _ _ _ _ _⟩, ⟨by repeat (first | (with_reducible first | exact HB.out | apply below_alloc | apply pw_below_drewN | apply below_drew1) | exact HB.out)⟩⟩
  case round =>
    clear H'
    obtain ⟨x3_1, x4_1, x5_1, rfl, rfl, HA, HK1, HO_3, HB⟩ := hrel
    cases gk with
    | zero => exact absurd HA.out (by simp [owner_cut.l0])
    | succ k1 =>
      have H := HA.out
      clear HA
      simp only [owner_cut.l0] at H
      by_cases c2 : x5_1 < (a0.size : Int)
      · rw [if_pos c2] at H
        have c2b0 : decide (x5_1 < (a0.size : Int)) = true := decide_eq_true c2
        clear c2
        by_cases c3 : 0 ≤ x5_1
        · rw [if_pos c3] at H
          have c3b0 : decide (0 ≤ x5_1) = true := decide_eq_true c3
          clear c3
          by_cases c5 : (bt a0 x5_1) = 92
          · rw [if_pos c5] at H
            have c5b0 : ((bt a0 x5_1) == 92) = true := beq_iff_eq.mpr c5
            have c5b1 : ((bt a0 x5_1) != 92) = false := bne_eq_false_iff_eq.mpr c5
            clear c5
            have H' := Aside0.mk H
            clear H
            have p4 : 0 ≤ (x5_1 : Int) := of_decide_eq_true (by first | (with_reducible assumption) | assumption)
            have q4 : x5_1 < (a0.size : Int) := of_decide_eq_true (by first | (with_reducible assumption) | assumption)
            have hx4 := bt_at a0 x5_1
            replace p4 := eq_true p4
            replace q4 := eq_true q4
            go_wp2
            go_roundg k1
            case measure => have := HK1.out; omega
            case rel => exact ⟨(x3_1), (x4_1), (wrap64 ((wrap64 (x5_1 + 1)) + 1)), (by first | rfl | (simp; done) | (simp [*]; done)), (by first | rfl | (simp; done) | (simp [*]; done)), H', ⟨by have := HK1.out; omega⟩, ⟨by (with_reducible repeat (first | apply Kd.R_alloc | apply Kd.R_drewN | apply Kd.R_drew)); exact HO_3.out⟩, ⟨by repeat (first | (with_reducible first | exact HB.out | apply below_alloc | apply pw_below_drewN | apply below_drew1) | exact HB.out)⟩⟩
          · rw [if_neg c5] at H
            have c5b0 : ((bt a0 x5_1) == 92) = false := beq_eq_false_iff_ne.mpr c5
            have c5b1 : ((bt a0 x5_1) != 92) = true := bne_iff_ne.mpr c5
            by_cases c6 : (bt a0 x5_1) = 46
            · rw [if_pos c6] at H
              have c6b0 : ((bt a0 x5_1) == 46) = true := beq_iff_eq.mpr c6
              have c6b1 : ((bt a0 x5_1) != 46) = false := bne_eq_false_iff_eq.mpr c6
              clear c6
              by_cases c7 : 0 ≤ x4_1
              · rw [if_pos c7] at H
                have c7b0 := eq_true c7
                have c7b1 : decide (0 ≤ x4_1) = true := decide_eq_true c7
                clear c7
                by_cases c8 : x4_1 ≤ x5_1
                · rw [if_pos c8] at H
                  have c8b0 := eq_true c8
                  have c8b1 : decide (x4_1 ≤ x5_1) = true := decide_eq_true c8
                  clear c8
                  by_cases c9 : x5_1 ≤ (a0.size : Int)
                  · rw [if_pos c9] at H
                    have c9b0 := eq_true c9
                    have c9b1 : decide (x5_1 ≤ (a0.size : Int)) = true := decide_eq_true c9
                    clear c9
                    by_cases c10 : x3_1.length < 8796093022208
                    · rw [if_pos c10] at H
                      have LMc10 := Aside0.mk c10
                      clear c10
                      obtain ⟨y104, hy104⟩ : ∃ y_ : List ByteArray, y_ = (x3_1 ++ [a0.extract (x4_1 : Int).toNat (x5_1 : Int).toNat]) := ⟨_, rfl⟩
                      replace H : (owner_cut.l0 k1 a0 y104 (wrap64 (x5_1 + 1)) (wrap64 (x5_1 + 1))) = some r := by first | (rw [hy104]; with_reducible exact H) | (have H2_ := (Option.bind_some _ _).symm.trans H; rw [hy104]; with_reducible exact H2_) | (have H2_ := (Option.bind_some _ _).symm.trans H; with_reducible exact H2_) | with_reducible exact H | (rw [hy104]; exact H) | exact H
                      have Ny104 := Aside0.mk hy104
                      clear hy104
                      have H' := Aside0.mk H
                      clear H
                      have p4 : 0 ≤ (x5_1 : Int) := of_decide_eq_true (by first | (with_reducible assumption) | assumption)
                      have q4 : x5_1 < (a0.size : Int) := of_decide_eq_true (by first | (with_reducible assumption) | assumption)
                      have hx4 := bt_at a0 x5_1
                      replace p4 := eq_true p4
                      replace q4 := eq_true q4
                      go_wp2_with (first | ((with_reducible refine gate_builtin (b := .append) (xs := #[.tmp 21, .tmp 26]) rfl ?_); at_builtin; refine Kd.R_append Kd.string (w0 := w) w.heap.size rfl (.tmp 21) (.tmp 26) 24 9 (.string ⟨#[]⟩) 16 rfl Tryd.underlying24 info9 rfl (by decide) (by omega) u3 x3_1 (a0.extract (x4_1 : Int).toNat (x5_1 : Int).toNat) [.string (a0.extract (x4_1 : Int).toNat (x5_1 : Int).toNat)] (fun _ => True) (fun _ => False) rfl rfl ?aP (fun _ hk => hk.elim) ?aF ?aO ?aB ?aS ?aL ?_; (case aP => exact rfl); (case aB => exact (by repeat (first | (with_reducible first | exact HB.out | apply below_alloc | apply pw_below_drewN | apply below_drew1) | exact HB.out))); (case aF => exact (fun _ _ => trivial)); (case aO => exact (by (with_reducible repeat (first | apply Kd.R_alloc | apply Kd.R_drewN | apply Kd.R_drew)); exact HO_3.out)); (case aS => exact (below_size (by repeat (first | (with_reducible first | exact HB.out | apply below_alloc | apply pw_below_drewN | apply below_drew1) | exact HB.out)))); (case aL => have := LMc10.out; omega); intro v105 w11 ho hb hg hat; rw [← Ny104.out] at ho; have n0_ := Aside0.mk (hb); have n1_ := Aside0.mk (ho); clear HB; clear HO_3; have HB := n0_; have HO106 := n1_; clear n0_ n1_; clear ho hb hg hat))
                      go_roundg k1
                      case measure => have := HK1.out; omega
                      case rel => exact ⟨(y104), (wrap64 (x5_1 + 1)), (wrap64 (x5_1 + 1)), (by first | rfl | (simp; done) | (simp [*]; done)), (by first | rfl | (simp; done) | (simp [*]; done)), H', ⟨by have := HK1.out; omega⟩, ⟨by (with_reducible repeat (first | apply Kd.R_alloc | apply Kd.R_drewN | apply Kd.R_drew)); exact HO106.out⟩, ⟨by repeat (first | (with_reducible first | exact HB.out | apply below_alloc | apply pw_below_drewN | apply below_drew1) | exact HB.out)⟩⟩
                    · rw [if_neg c10] at H
                      exact absurd H (by simp)
                  · rw [if_neg c9] at H
                    exact absurd H (by simp)
                · rw [if_neg c8] at H
                  exact absurd H (by simp)
              · rw [if_neg c7] at H
                exact absurd H (by simp)
            · rw [if_neg c6] at H
              have c6b0 : ((bt a0 x5_1) == 46) = false := beq_eq_false_iff_ne.mpr c6
              have c6b1 : ((bt a0 x5_1) != 46) = true := bne_iff_ne.mpr c6
              have H' := Aside0.mk H
              clear H
              have p4 : 0 ≤ (x5_1 : Int) := of_decide_eq_true (by first | (with_reducible assumption) | assumption)
              have q4 : x5_1 < (a0.size : Int) := of_decide_eq_true (by first | (with_reducible assumption) | assumption)
              have hx4 := bt_at a0 x5_1
              replace p4 := eq_true p4
              replace q4 := eq_true q4
              go_wp2
              go_roundg k1
              case measure => have := HK1.out; omega
              case rel => exact ⟨(x3_1), (x4_1), (wrap64 (x5_1 + 1)), (by first | rfl | (simp; done) | (simp [*]; done)), (by first | rfl | (simp; done) | (simp [*]; done)), H', ⟨by have := HK1.out; omega⟩, ⟨by (with_reducible repeat (first | apply Kd.R_alloc | apply Kd.R_drewN | apply Kd.R_drew)); exact HO_3.out⟩, ⟨by repeat (first | (with_reducible first | exact HB.out | apply below_alloc | apply pw_below_drewN | apply below_drew1) | exact HB.out)⟩⟩
        · rw [if_neg c3] at H
          exact absurd H (by simp)
      · rw [if_neg c2] at H
        have c2b0 : decide (x5_1 < (a0.size : Int)) = false := decide_eq_false c2
        clear c2
        by_cases c12 : 0 ≤ x4_1
        · rw [if_pos c12] at H
          have c12b0 := eq_true c12
          have c12b1 : decide (0 ≤ x4_1) = true := decide_eq_true c12
          clear c12
          by_cases c13 : x4_1 ≤ (a0.size : Int)
          · rw [if_pos c13] at H
            have c13b0 := eq_true c13
            have c13b1 : decide (x4_1 ≤ (a0.size : Int)) = true := decide_eq_true c13
            clear c13
            by_cases c14 : x3_1.length < 8796093022208
            · rw [if_pos c14] at H
              have LMc14 := Aside0.mk c14
              clear c14
              obtain ⟨y101, hy101⟩ : ∃ y_ : List ByteArray, y_ = (x3_1 ++ [a0.extract (x4_1 : Int).toNat a0.size]) := ⟨_, rfl⟩
              replace H : (some y101) = some r := by first | (rw [hy101]; with_reducible exact H) | (have H2_ := (Option.bind_some _ _).symm.trans H; rw [hy101]; with_reducible exact H2_) | (have H2_ := (Option.bind_some _ _).symm.trans H; with_reducible exact H2_) | with_reducible exact H | (rw [hy101]; exact H) | exact H
              have Ny101 := Aside0.mk hy101
              clear hy101
              obtain rfl := Option.some.inj H
              go_wp2_with (first | ((with_reducible refine gate_builtin (b := .append) (xs := #[.tmp 30, .tmp 34]) rfl ?_); at_builtin; refine Kd.R_append Kd.string (w0 := w) w.heap.size rfl (.tmp 30) (.tmp 34) 24 9 (.string ⟨#[]⟩) 16 rfl Tryd.underlying24 info9 rfl (by decide) (by omega) u3 x3_1 (a0.extract (x4_1 : Int).toNat a0.size) [.string (a0.extract (x4_1 : Int).toNat a0.size)] (fun _ => True) (fun _ => False) rfl rfl ?aP (fun _ hk => hk.elim) ?aF ?aO ?aB ?aS ?aL ?_; (case aP => exact rfl); (case aB => exact (by repeat (first | (with_reducible first | exact HB.out | apply below_alloc | apply pw_below_drewN | apply below_drew1) | exact HB.out))); (case aF => exact (fun _ _ => trivial)); (case aO => exact (by (with_reducible repeat (first | apply Kd.R_alloc | apply Kd.R_drewN | apply Kd.R_drew)); exact HO_3.out)); (case aS => exact (below_size (by repeat (first | (with_reducible first | exact HB.out | apply below_alloc | apply pw_below_drewN | apply below_drew1) | exact HB.out)))); (case aL => have := LMc14.out; omega); intro v102 w15 ho hb hg hat; rw [← Ny101.out] at ho; have n0_ := Aside0.mk (hb); have n1_ := Aside0.mk (ho); clear HB; clear HO_3; have HB := n0_; have HO103 := n1_; clear n0_ n1_; clear ho hb hg hat))
              go_ret
              exact ⟨_, by first | rfl | (simp [errW_none, errW_some] <;> rfl) | (simp [*, errW_none, errW_some] <;> rfl), by (with_reducible repeat (first | apply Kd.R_alloc | apply Kd.R_drewN | apply Kd.R_drew)); exact HO103.out, by repeat (first | (with_reducible first | exact HB.out | apply below_alloc | apply pw_below_drewN | apply below_drew1) | exact HB.out)⟩
            · rw [if_neg c14] at H
              exact absurd H (by simp)
          · rw [if_neg c13] at H
            exact absurd H (by simp)
        · rw [if_neg c12] at H
          exact absurd H (by simp)

end Go.Proofs.YtdnfmilnkoocdaaDoor.Q

-- from Qf24
-- Made by hp.py, a program of this session, with the kit's printer. Not trusted: Lean checks it.
namespace Go.Proofs.YtdnfmilnkoocdaaDoor.Q
open Go.RowKit Go.Proofs.YtdnfmilnkoocdaaDoorW.PrintWords Go.Proofs.YtdnfmilnkoocdaaDoorW.PrintLast Go.Proofs.YtdnfmilnkoocdaaDoorW.PrintMore
attribute [local go_sem] max2_int min2_int max_two min_two max_three min_three max_four min_four   -- for this text's walks alone
set_option linter.unusedVariables false
set_option linter.unusedSimpArgs false

/-! ### owner_Labels: function 24 -/
mutual
def owner_Labels.j0 : Nat → List ByteArray → Bool → Option ((List (List Int)) × Bool × Int)
  | 0, _, _ => none
  | k + 1, x7, x8 => owner_Labels.l0 k x8 ([] : List (List Int)) x7 (x7.length : Int) 0
def owner_Labels.l0 : Nat → Bool → List (List Int) → List ByteArray → Int → Int → Option ((List (List Int)) × Bool × Int)
  | 0, _, _, _, _, _ => none
  | k + 1, x8, x9, x44, x45, x46 => if x46 < x45 then (if 0 ≤ x46 then (if x46 < (x44.length : Int) then ((token_Plain.f k (rdOf ByteArray.empty x44 x46)).bind fun bt113 => (if x9.length < 5864062014805 then (owner_Labels.l0 k x8 (x9 ++ [bt113.1]) x44 x45 (wrap64 (x46 + 1))) else (none))) else (none)) else (none)) else ((owner_right.f k x9).bind fun t120 => (if t120 = true then (some (x9, x8, 0)) else (some (([] : List (List Int)), false, 62))))
end
def owner_Labels.f (k : Nat) (a0 : ByteArray) : Option ((List (List Int)) × Bool × Int) := (token_Plain.f k a0).bind fun bt101 => (if bt101.2 = 0 then (if 0 < (a0.size : Int) then (if (bt a0 0) = 34 then (some (([] : List (List Int)), false, 62)) else (if a0.toList = ([46] : List UInt8) then (some (([] : List (List Int)), true, 0)) else ((owner_cut.f k a0).bind fun t105 => (if 0 ≤ (wrap64 ((t105.length : Int) - 1)) then (if (wrap64 ((t105.length : Int) - 1)) < (t105.length : Int) then (if (rdOf ByteArray.empty t105 (wrap64 ((t105.length : Int) - 1))).toList = ([] : List UInt8) then (if (wrap64 ((t105.length : Int) - 1)) ≤ (t105.length : Int) then (owner_Labels.j0 k (t105.take ((wrap64 ((t105.length : Int) - 1)) : Int).toNat) ((rdOf ByteArray.empty t105 (wrap64 ((t105.length : Int) - 1))).toList == ([] : List UInt8))) else (none)) else (owner_Labels.j0 k t105 ((rdOf ByteArray.empty t105 (wrap64 ((t105.length : Int) - 1))).toList == ([] : List UInt8)))) else (none)) else (none))))) else (none)) else (some (([] : List (List Int)), false, bt101.2)))
theorem owner_Labels.mono_l : ∀ k, (∀ y0 y1, LeO (owner_Labels.j0 k y0 y1) (owner_Labels.j0 (k + 1) y0 y1)) ∧ (∀ y0 y1 y2 y3 y4, LeO (owner_Labels.l0 k y0 y1 y2 y3 y4) (owner_Labels.l0 (k + 1) y0 y1 y2 y3 y4))
  | 0 => ⟨fun _ _ r h => by simp [owner_Labels.j0] at h, fun _ _ _ _ _ r h => by simp [owner_Labels.l0] at h⟩
  | k + 1 => by
    obtain ⟨ih0, ih1⟩ := owner_Labels.mono_l k
    refine ⟨?_, ?_⟩
    · intro y0 y1
      unfold owner_Labels.j0
      repeat' first
      | (with_reducible exact ih0 _ _)
      | (with_reducible exact ih1 _ _ _ _ _)
      | (with_reducible exact owner_cut.mono _ _)
      | (with_reducible exact owner_right.mono _ _)
      | (with_reducible exact token_Plain.mono _ _)
      | (with_reducible exact LeO.refl _)
      | (with_reducible exact LeO.none _)
      | (with_reducible refine LeO.ite ?_ ?_)
      | (with_reducible refine LeO.bind ?_ (fun _ => ?_))
      | exact ih0 _ _
      | exact ih1 _ _ _ _ _
      | exact owner_cut.mono _ _
      | exact owner_right.mono _ _
      | exact token_Plain.mono _ _
      | exact LeO.none _
      | refine LeO.ite ?_ ?_
      | refine LeO.bind ?_ (fun _ => ?_)
    · intro y0 y1 y2 y3 y4
      unfold owner_Labels.l0
      repeat' first
      | (with_reducible exact ih0 _ _)
      | (with_reducible exact ih1 _ _ _ _ _)
      | (with_reducible exact owner_cut.mono _ _)
      | (with_reducible exact owner_right.mono _ _)
      | (with_reducible exact token_Plain.mono _ _)
      | (with_reducible exact LeO.refl _)
      | (with_reducible exact LeO.none _)
      | (with_reducible refine LeO.ite ?_ ?_)
      | (with_reducible refine LeO.bind ?_ (fun _ => ?_))
      | exact ih0 _ _
      | exact ih1 _ _ _ _ _
      | exact owner_cut.mono _ _
      | exact owner_right.mono _ _
      | exact token_Plain.mono _ _
      | exact LeO.none _
      | refine LeO.ite ?_ ?_
      | refine LeO.bind ?_ (fun _ => ?_)
theorem owner_Labels.mono : ∀ a0 k, LeO (owner_Labels.f k a0) (owner_Labels.f (k + 1) a0) := by
  intro a0 k
  obtain ⟨ih0, ih1⟩ := owner_Labels.mono_l k
  unfold owner_Labels.f
  repeat' first
      | (with_reducible exact ih0 _ _)
      | (with_reducible exact ih1 _ _ _ _ _)
      | (with_reducible exact owner_cut.mono _ _)
      | (with_reducible exact owner_right.mono _ _)
      | (with_reducible exact token_Plain.mono _ _)
      | (with_reducible exact LeO.refl _)
      | (with_reducible exact LeO.none _)
      | (with_reducible refine LeO.ite ?_ ?_)
      | (with_reducible refine LeO.bind ?_ (fun _ => ?_))
      | exact ih0 _ _
      | exact ih1 _ _ _ _ _
      | exact owner_cut.mono _ _
      | exact owner_right.mono _ _
      | exact token_Plain.mono _ _
      | exact LeO.none _
      | refine LeO.ite ?_ ?_
      | refine LeO.bind ?_ (fun _ => ?_)
set_option maxHeartbeats 8000000 in
set_option maxRecDepth 100000 in
theorem owner_Labels.calls (k : Nat) (a0 : ByteArray) (r1 : List (List Int)) (r2 : Bool) (r3 : Int) (w : World) (h : owner_Labels.f k a0 = some (r1, r2, r3)) :
    Calls Tryd.prog 24 #[.string a0] w fun e w' => ∃ v0_ : Value, e = .returned (.tuple #[v0_, .bool r2, .int .i64 r3]) ∧ Kd.S (Kd.slice 5 (Kd.int .u8)) 22 w' w.heap.size (fun _ => True) v0_ r1 ∧ Below w.heap.size w w' := by
  have HB := Aside0.mk (Below.refl w.heap.size w)
  have H : ((token_Plain.f k a0).bind fun bt101 => (if bt101.2 = 0 then (if 0 < (a0.size : Int) then (if (bt a0 0) = 34 then (some (([] : List (List Int)), false, 62)) else (if a0.toList = ([46] : List UInt8) then (some (([] : List (List Int)), true, 0)) else ((owner_cut.f k a0).bind fun t105 => (if 0 ≤ (wrap64 ((t105.length : Int) - 1)) then (if (wrap64 ((t105.length : Int) - 1)) < (t105.length : Int) then (if (rdOf ByteArray.empty t105 (wrap64 ((t105.length : Int) - 1))).toList = ([] : List UInt8) then (if (wrap64 ((t105.length : Int) - 1)) ≤ (t105.length : Int) then (owner_Labels.j0 k (t105.take ((wrap64 ((t105.length : Int) - 1)) : Int).toNat) ((rdOf ByteArray.empty t105 (wrap64 ((t105.length : Int) - 1))).toList == ([] : List UInt8))) else (none)) else (owner_Labels.j0 k t105 ((rdOf ByteArray.empty t105 (wrap64 ((t105.length : Int) - 1))).toList == ([] : List UInt8)))) else (none)) else (none))))) else (none)) else (some (([] : List (List Int)), false, bt101.2)))) = some (r1, r2, r3) := h
  clear h
  replace H := Option.bind_eq_some_iff.mp H
  obtain ⟨⟨t101, t102⟩, A20, H⟩ := H
  replace H : (if t102 = 0 then (if 0 < (a0.size : Int) then (if (bt a0 0) = 34 then (some (([] : List (List Int)), false, 62)) else (if a0.toList = ([46] : List UInt8) then (some (([] : List (List Int)), true, 0)) else ((owner_cut.f k a0).bind fun t105 => (if 0 ≤ (wrap64 ((t105.length : Int) - 1)) then (if (wrap64 ((t105.length : Int) - 1)) < (t105.length : Int) then (if (rdOf ByteArray.empty t105 (wrap64 ((t105.length : Int) - 1))).toList = ([] : List UInt8) then (if (wrap64 ((t105.length : Int) - 1)) ≤ (t105.length : Int) then (owner_Labels.j0 k (t105.take ((wrap64 ((t105.length : Int) - 1)) : Int).toNat) ((rdOf ByteArray.empty t105 (wrap64 ((t105.length : Int) - 1))).toList == ([] : List UInt8))) else (none)) else (owner_Labels.j0 k t105 ((rdOf ByteArray.empty t105 (wrap64 ((t105.length : Int) - 1))).toList == ([] : List UInt8)))) else (none)) else (none))))) else (none)) else (some (([] : List (List Int)), false, t102))) = some (r1, r2, r3) := H
  have A2 := Aside0.mk A20
  clear A20
  by_cases c3 : t102 = 0
  · rw [if_pos c3] at H
    have c3b0 : (t102 == 0) = true := beq_iff_eq.mpr c3
    have c3b1 : (t102 != 0) = false := bne_eq_false_iff_eq.mpr c3
    clear c3
    by_cases c4 : 0 < (a0.size : Int)
    · rw [if_pos c4] at H
      have c4b0 : decide (0 < (a0.size : Int)) = true := decide_eq_true c4
      have c4b1 : decide (0 < a0.size) = true := decide_eq_true (by omega)
      clear c4
      by_cases c6 : (bt a0 0) = 34
      · rw [if_pos c6] at H
        have c6b0 : ((bt a0 0) == 34) = true := beq_iff_eq.mpr c6
        have c6b1 : ((bt a0 0) != 34) = false := bne_eq_false_iff_eq.mpr c6
        clear c6
        simp only [Option.some.injEq, Prod.mk.injEq] at H
        obtain ⟨rfl, rfl, rfl⟩ := H
        go_enter Tryd.func24, Tryd.ntmps24
        go_wp2_with (first | ((with_reducible refine gate_callee (f := 19) rfl ?_); refine goesL_ (some 16) rfl rfl Tryd.func19 (by kernel_rfl) rfl #[.string a0] rfl (by (try simp only [List.map_toArray, List.map_cons, List.map_nil]); first | done | rfl | (simp only [List.length_drop, List.length_take]; rfl)) ?_; (with_reducible refine (token_Plain.calls k a0 t101 t102 _ A2.out).mono ?_); rintro e w7 ⟨v103, rfl, ho0, hb⟩; refine ⟨_, rfl, ?_⟩; have n0_ := Aside0.mk (Kd.R_lower ho0 (below_size (by repeat (first | (with_reducible first | exact HB.out | apply below_alloc | apply pw_below_drewN | apply below_drew1) | exact HB.out)))); have n1_ := Aside0.mk (below_step (by repeat (first | (with_reducible first | exact HB.out | apply below_alloc | apply pw_below_drewN | apply below_drew1) | exact HB.out)) hb); clear HB; have HO104 := n0_; have HB := n1_; clear n0_ n1_; (try clear hb); (try clear hb2); (try clear hk); (try clear hi); (try clear ho0); have p5 : 0 ≤ (0 : Int) := (by omega); have q5 : 0 < a0.size := (by have : (0 : Int) < (a0.size : Int) := of_decide_eq_true (by first | (with_reducible assumption) | assumption); omega); have hx5 : ∀ h : 0 < a0.size, ((a0[0]'h).toNat : Int) = bt a0 0 := bt_at a0 0; clear p5; have qi5 : (0 < (a0.size : Int)) = True := eq_true (of_decide_eq_true (by first | (with_reducible assumption) | assumption)); replace q5 := eq_true q5))
        go_ret3
        exact ⟨_, by first | rfl | (simp [errW_none, errW_some] <;> rfl) | (simp [*, errW_none, errW_some] <;> rfl), by first | exact Kd.S_nil _ _ _ _ _ | exact Kd.N_nil _ _ _ _ _ | exact Kd.V_nil _ _ _ _ _ | exact Kd.Q_nil _ _ _ _ _ | exact Kd.R_nil _ _ _ _ _, by repeat (first | (with_reducible first | exact HB.out | apply below_alloc | apply pw_below_drewN | apply below_drew1) | exact HB.out)⟩
      · rw [if_neg c6] at H
        have c6b0 : ((bt a0 0) == 34) = false := beq_eq_false_iff_ne.mpr c6
        have c6b1 : ((bt a0 0) != 34) = true := bne_iff_ne.mpr c6
        by_cases c8 : a0.toList = ([46] : List UInt8)
        · rw [if_pos c8] at H
          have c8b0 : (a0.toList == ([46] : List UInt8)) = true := beq_iff_eq.mpr c8
          have c8b1 : (a0.toList != ([46] : List UInt8)) = false := bne_eq_false_iff_eq.mpr c8
          clear c8
          simp only [Option.some.injEq, Prod.mk.injEq] at H
          obtain ⟨rfl, rfl, rfl⟩ := H
          go_enter Tryd.func24, Tryd.ntmps24
          go_wp2_with (first | ((with_reducible refine gate_callee (f := 19) rfl ?_); refine goesL_ (some 16) rfl rfl Tryd.func19 (by kernel_rfl) rfl #[.string a0] rfl (by (try simp only [List.map_toArray, List.map_cons, List.map_nil]); first | done | rfl | (simp only [List.length_drop, List.length_take]; rfl)) ?_; (with_reducible refine (token_Plain.calls k a0 t101 t102 _ A2.out).mono ?_); rintro e w9 ⟨v103, rfl, ho0, hb⟩; refine ⟨_, rfl, ?_⟩; have n0_ := Aside0.mk (Kd.R_lower ho0 (below_size (by repeat (first | (with_reducible first | exact HB.out | apply below_alloc | apply pw_below_drewN | apply below_drew1) | exact HB.out)))); have n1_ := Aside0.mk (below_step (by repeat (first | (with_reducible first | exact HB.out | apply below_alloc | apply pw_below_drewN | apply below_drew1) | exact HB.out)) hb); clear HB; have HO104 := n0_; have HB := n1_; clear n0_ n1_; (try clear hb); (try clear hb2); (try clear hk); (try clear hi); (try clear ho0); have p5 : 0 ≤ (0 : Int) := (by omega); have q5 : 0 < a0.size := (by have : (0 : Int) < (a0.size : Int) := of_decide_eq_true (by first | (with_reducible assumption) | assumption); omega); have hx5 : ∀ h : 0 < a0.size, ((a0[0]'h).toNat : Int) = bt a0 0 := bt_at a0 0; clear p5; have qi5 : (0 < (a0.size : Int)) = True := eq_true (of_decide_eq_true (by first | (with_reducible assumption) | assumption)); replace q5 := eq_true q5))
          go_ret3
          exact ⟨_, by first | rfl | (simp [errW_none, errW_some] <;> rfl) | (simp [*, errW_none, errW_some] <;> rfl), by first | exact Kd.S_nil _ _ _ _ _ | exact Kd.N_nil _ _ _ _ _ | exact Kd.V_nil _ _ _ _ _ | exact Kd.Q_nil _ _ _ _ _ | exact Kd.R_nil _ _ _ _ _, by repeat (first | (with_reducible first | exact HB.out | apply below_alloc | apply pw_below_drewN | apply below_drew1) | exact HB.out)⟩
        · rw [if_neg c8] at H
          have c8b0 : (a0.toList == ([46] : List UInt8)) = false := beq_eq_false_iff_ne.mpr c8
          have c8b1 : (a0.toList != ([46] : List UInt8)) = true := bne_iff_ne.mpr c8
          replace H := Option.bind_eq_some_iff.mp H
          obtain ⟨t105, A100, H⟩ := H
          replace H : (if 0 ≤ (wrap64 ((t105.length : Int) - 1)) then (if (wrap64 ((t105.length : Int) - 1)) < (t105.length : Int) then (if (rdOf ByteArray.empty t105 (wrap64 ((t105.length : Int) - 1))).toList = ([] : List UInt8) then (if (wrap64 ((t105.length : Int) - 1)) ≤ (t105.length : Int) then (owner_Labels.j0 k (t105.take ((wrap64 ((t105.length : Int) - 1)) : Int).toNat) ((rdOf ByteArray.empty t105 (wrap64 ((t105.length : Int) - 1))).toList == ([] : List UInt8))) else (none)) else (owner_Labels.j0 k t105 ((rdOf ByteArray.empty t105 (wrap64 ((t105.length : Int) - 1))).toList == ([] : List UInt8)))) else (none)) else (none)) = some (r1, r2, r3) := H
          have A10 := Aside0.mk A100
          clear A100
          obtain ⟨ji11, hji11⟩ : ∃ j_ : Int, (wrap64 ((t105.length : Int) - 1)) = j_ := ⟨_, rfl⟩
          replace H : (if 0 ≤ (ji11) then (if (ji11) < (t105.length : Int) then (if (rdOf ByteArray.empty t105 (ji11)).toList = ([] : List UInt8) then (if (ji11) ≤ (t105.length : Int) then (owner_Labels.j0 k (t105.take ((ji11) : Int).toNat) ((rdOf ByteArray.empty t105 (ji11)).toList == ([] : List UInt8))) else (none)) else (owner_Labels.j0 k t105 ((rdOf ByteArray.empty t105 (ji11)).toList == ([] : List UInt8)))) else (none)) else (none)) = some (r1, r2, r3) := by first | (rw [hji11] at H; exact H) | (simp only [hji11] at H ⊢; exact H)
          (try rw [hji11] at A2)
          (try rw [hji11] at A10)
          have hji11w : (IntKind.i64.wrap ((t105.length : Int) - 1)) = ji11 := (i64_w _).trans hji11
          by_cases c12 : 0 ≤ (ji11)
          · rw [if_pos c12] at H
            have c12b0 : decide (0 ≤ (ji11)) = true := decide_eq_true c12
            clear c12
            by_cases c13 : (ji11) < (t105.length : Int)
            · rw [if_pos c13] at H
              have c13b0 : decide ((ji11) < (t105.length : Int)) = true := decide_eq_true c13
              clear c13
              have HC14 := Aside0.mk H
              clear H
              go_enter Tryd.func24, Tryd.ntmps24
              go_upto_if 38 with (first | ((with_reducible refine gate_callee (f := 19) rfl ?_); refine goesL_ (some 16) rfl rfl Tryd.func19 (by kernel_rfl) rfl #[.string a0] rfl (by (try simp only [List.map_toArray, List.map_cons, List.map_nil]); first | done | rfl | (simp only [List.length_drop, List.length_take]; rfl)) ?_; (with_reducible refine (token_Plain.calls k a0 t101 t102 _ A2.out).mono ?_); rintro e w15 ⟨v103, rfl, ho0, hb⟩; refine ⟨_, rfl, ?_⟩; have n0_ := Aside0.mk (Kd.R_lower ho0 (below_size (by repeat (first | (with_reducible first | exact HB.out | apply below_alloc | apply pw_below_drewN | apply below_drew1) | exact HB.out)))); have n1_ := Aside0.mk (below_step (by repeat (first | (with_reducible first | exact HB.out | apply below_alloc | apply pw_below_drewN | apply below_drew1) | exact HB.out)) hb); clear HB; have HO104 := n0_; have HB := n1_; clear n0_ n1_; (try clear hb); (try clear hb2); (try clear hk); (try clear hi); (try clear ho0); have p5 : 0 ≤ (0 : Int) := (by omega); have q5 : 0 < a0.size := (by have : (0 : Int) < (a0.size : Int) := of_decide_eq_true (by first | (with_reducible assumption) | assumption); omega); have hx5 : ∀ h : 0 < a0.size, ((a0[0]'h).toNat : Int) = bt a0 0 := bt_at a0 0; clear p5; have qi5 : (0 < (a0.size : Int)) = True := eq_true (of_decide_eq_true (by first | (with_reducible assumption) | assumption)); replace q5 := eq_true q5) | ((with_reducible refine gate_callee (f := 54) rfl ?_); refine goesL_ (some 30) rfl rfl Tryd.func54 (by kernel_rfl) rfl #[.string a0] rfl (by (try simp only [List.map_toArray, List.map_cons, List.map_nil]); first | done | rfl | (simp only [List.length_drop, List.length_take]; rfl)) ?_; (with_reducible refine (owner_cut.calls k a0 t105 _ A10.out).mono ?_); rintro e w16 ⟨v106, rfl, ho0, hb⟩; refine ⟨_, rfl, ?_⟩; have n0_ := Aside0.mk (Kd.R_below (by (with_reducible repeat (first | apply Kd.R_alloc | apply Kd.R_drewN | apply Kd.R_drew)); exact HO104.out) hb); have n1_ := Aside0.mk (Kd.R_lower ho0 (below_size (by repeat (first | (with_reducible first | exact HB.out | apply below_alloc | apply pw_below_drewN | apply below_drew1) | exact HB.out)))); have n2_ := Aside0.mk (below_step (by repeat (first | (with_reducible first | exact HB.out | apply below_alloc | apply pw_below_drewN | apply below_drew1) | exact HB.out)) hb); clear HO104; clear HB; have HO104 := n0_; have HO107 := n1_; have HB := n2_; clear n0_ n1_ n2_; (try clear hb); (try clear hb2); (try clear hk); (try clear hi); (try clear ho0); obtain ⟨Ao17, co17, eo17⟩ := Kd.R_slice HO107.out; subst eo17; have p108 : 0 ≤ ((ji11) : Int) := of_decide_eq_true (by first | (with_reducible assumption) | assumption); have q108 : (ji11) < (t105.length : Int) := of_decide_eq_true (by first | (with_reducible assumption) | assumption); obtain ⟨ad108, e108, hx108_0⟩ := Kd.at_string (Kd.R_reads' HO107.out).2.2 (ji11) p108 q108; cases e108; replace p108 := eq_true p108; replace q108 := eq_true q108))
              (try simp only [Act.put, List.setIfInBounds_toArray, List.set_cons_zero, List.set_cons_succ])
              have hem_ : ∀ l_ : List UInt8, l_.isEmpty = (l_ == ([] : List UInt8)) := fun l_ => by cases l_ <;> rfl
              (try rw [hem_])
              (try simp only [hem_])
              clear hem_
              generalize hb8 : ((rdOf ByteArray.empty t105 (ji11)).toList == ([] : List UInt8)) = b8 at *
              go_cut [7] (fun v7 wc => ∃ (kq : Nat) (x7_13 : List ByteArray), Aside0 (owner_Labels.j0 kq x7_13 b8 = some (r1, r2, r3)) ∧ Aside0 (kq ≤ k) ∧ Aside0 (Kd.R Kd.string 9 wc w.heap.size (fun _ => True) v7 x7_13) ∧ Aside0 (Below w.heap.size w wc))
              case first =>
                have H := HC14.out
                clear HC14
                by_cases c18 : (rdOf ByteArray.empty t105 (ji11)).toList = ([] : List UInt8)
                · rw [if_pos c18] at H
                  have c18b0 : b8 = true := hb8.symm.trans (beq_iff_eq.mpr c18)
                  have c18b1 : ((rdOf ByteArray.empty t105 (ji11)).toList != ([] : List UInt8)) = false := bne_eq_false_iff_eq.mpr c18
                  clear c18
                  subst c18b0
                  by_cases c19 : (ji11) ≤ (t105.length : Int)
                  · rw [if_pos c19] at H
                    have c19b0 := eq_true c19
                    have c19b1 : decide ((ji11) ≤ (t105.length : Int)) = true := decide_eq_true c19
                    clear c19
                    obtain ⟨y109, hy109⟩ : ∃ y_ : List ByteArray, y_ = (t105.take ((ji11) : Int).toNat) := ⟨_, rfl⟩
                    replace H : (owner_Labels.j0 k y109 true) = some (r1, r2, r3) := by first | (rw [hy109]; with_reducible exact H) | (have H2_ := (Option.bind_some _ _).symm.trans H; rw [hy109]; with_reducible exact H2_) | (have H2_ := (Option.bind_some _ _).symm.trans H; with_reducible exact H2_) | with_reducible exact H | (rw [hy109]; exact H) | exact H
                    have Ny109 := Aside0.mk hy109
                    clear hy109
                    have H' := Aside0.mk H
                    clear H
                    have q20 : ((ji11) : Int) ≤ ((t105.length : Int) : Int) := of_decide_eq_true (by first | (with_reducible assumption) | assumption)
                    obtain ⟨i020, hi020, _, hsz20, _⟩ := info_parts info9
                    have hcut20 := cut_to (P := Tryd.prog) 24 9 .i64 Tryd.underlying24 hi020 (some ad108) t105.length co17 (ji11) (of_decide_eq_true (by first | (with_reducible assumption) | assumption)) q20 (Kd.R_reads' HO107.out).2.1
                    have hr20 := Kd.R_take (m := ((ji11) : Int).toNat) HO107.out (by omega)
                    have hy20 : y109.length = ((ji11) : Int).toNat := (by rw [Ny109.out, List.length_take]; omega)
                    rw [← Ny109.out] at hr20
                    rw [← hy20] at hr20 hcut20
                    clear hy20 hi020 hsz20 HO107
                    have HO111 := Aside0.mk hr20
                    clear hr20
                    replace q20 := eq_true q20
                    go_wp2
                    go_meet
                    case rel => exact ⟨_, (y109), H', ⟨by first | omega | exact Nat.le_refl _⟩, ⟨by (with_reducible repeat (first | apply Kd.R_alloc | apply Kd.R_drewN | apply Kd.R_drew)); exact HO111.out⟩, ⟨by repeat (first | (with_reducible first | exact HB.out | apply below_alloc | apply pw_below_drewN | apply below_drew1) | exact HB.out)⟩⟩
                  · rw [if_neg c19] at H
                    exact absurd H (by simp)
                · rw [if_neg c18] at H
                  have c18b0 : b8 = false := hb8.symm.trans (beq_eq_false_iff_ne.mpr c18)
                  have c18b1 : ((rdOf ByteArray.empty t105 (ji11)).toList != ([] : List UInt8)) = true := bne_iff_ne.mpr c18
                  subst c18b0
                  have H' := Aside0.mk H
                  clear H
                  go_wp2
                  go_meet
                  case rel => exact ⟨_, (t105), H', ⟨by first | omega | exact Nat.le_refl _⟩, ⟨by (with_reducible repeat (first | apply Kd.R_alloc | apply Kd.R_drewN | apply Kd.R_drew)); exact HO107.out⟩, ⟨by repeat (first | (with_reducible first | exact HB.out | apply below_alloc | apply pw_below_drewN | apply below_drew1) | exact HB.out)⟩⟩
              case rest =>
                clear HC14
                try clear c1
                try clear p1
                try clear q1
                try clear hx1
                try clear c2
                try clear p2
                try clear q2
                try clear c3
                try clear c3b0
                try clear c3b1
                try clear c4
                try clear c4b0
                try clear c4b1
                try clear c5
                try clear p5
                try clear q5
                try clear hx5
                try clear qi5
                try clear c6
                try clear c6b0
                try clear c6b1
                try clear p6
                try clear c8
                try clear c8b0
                try clear c8b1
                try clear p10
                try clear q10
                try clear hx10
                try clear c12
                try clear c12b0
                try clear c13
                try clear c13b0
                try clear c18
                try clear c18b0
                try clear c18b1
                try clear c19
                try clear c19b0
                try clear c19b1
                try clear q20
                try clear hx108_0
                try clear p108
                try clear p5
                try clear q108
                try clear q20
                try clear q5
                obtain ⟨kq, x7_13, HA, HJ13, HO_7, HB⟩ := hcut
                cases kq with
                | zero => exact absurd HA.out (by simp [owner_Labels.j0])
                | succ kj13 =>
                  have H := HA.out
                  clear HA
                  simp only [owner_Labels.j0] at H
                  have H' := Aside0.mk H
                  clear H
                  obtain ⟨Ao21, co21, eo21⟩ := Kd.R_slice HO_7.out
                  subst eo21
                  go_wp2
                  go_loopg [9, 46] kj13 (fun kq v9 v46 w' => ∃ (x9_2 : List (List Int)) (x46_2 : Int), v46 = .int .i64 x46_2 ∧ Aside0 (owner_Labels.l0 kq b8 x9_2 x7_13 (x7_13.length : Int) x46_2 = some (r1, r2, r3)) ∧ Aside0 (kq ≤ kj13) ∧ Aside0 (Kd.S (Kd.slice 5 (Kd.int .u8)) 22 w' w.heap.size (fun _ => True) v9 x9_2) ∧ Aside0 (Kd.R Kd.string 9 w' w.heap.size (fun _ => True) (.slice Ao21 x7_13.length co21) x7_13) ∧ Aside0 (Below w.heap.size w w'))
                  case atStart => exact ⟨(([] : List (List Int))), (0), (by first | rfl | (simp; done) | (simp [*]; done)), H', ⟨Nat.le_refl _⟩, ⟨by first | exact Kd.S_nil _ _ _ _ _ | exact Kd.N_nil _ _ _ _ _ | exact Kd.V_nil _ _ _ _ _ | exact Kd.Q_nil _ _ _ _ _ | exact Kd.R_nil _ _ _ _ _⟩, ⟨by (with_reducible repeat (first | apply Kd.R_alloc | apply Kd.R_drewN | apply Kd.R_drew)); exact HO_7.out⟩, ⟨by repeat (first | (with_reducible first | exact HB.out | apply below_alloc | apply pw_below_drewN | apply below_drew1) | exact HB.out)⟩⟩
                  case round =>
                    clear H'
                    try clear c1
                    try clear p1
                    try clear q1
                    try clear hx1
                    try clear c2
                    try clear p2
                    try clear q2
                    try clear c3
                    try clear c3b0
                    try clear c3b1
                    try clear c4
                    try clear c4b0
                    try clear c4b1
                    try clear c5
                    try clear p5
                    try clear q5
                    try clear hx5
                    try clear qi5
                    try clear c6
                    try clear c6b0
                    try clear c6b1
                    try clear p6
                    try clear c8
                    try clear c8b0
                    try clear c8b1
                    try clear p10
                    try clear q10
                    try clear hx10
                    try clear c12
                    try clear c12b0
                    try clear c13
                    try clear c13b0
                    try clear c18
                    try clear c18b0
                    try clear c18b1
                    try clear c19
                    try clear c19b0
                    try clear c19b1
                    try clear q20
                    try clear hx108_0
                    try clear p1
                    try clear p10
                    try clear p108
                    try clear p2
                    try clear p5
                    try clear p6
                    try clear q1
                    try clear q10
                    try clear q108
                    try clear q2
                    try clear q20
                    try clear q5
                    obtain ⟨x9_2, x46_2, rfl, HA, HK2, HO_9, HO_44, HB⟩ := hrel
                    cases gk with
                    | zero => exact absurd HA.out (by simp [owner_Labels.l0])
                    | succ k2 =>
                      have H := HA.out
                      clear HA
                      simp only [owner_Labels.l0] at H
                      by_cases c22 : x46_2 < (x7_13.length : Int)
                      · rw [if_pos c22] at H
                        have c22b0 : decide (x46_2 < (x7_13.length : Int)) = true := decide_eq_true c22
                        clear c22
                        by_cases c23 : 0 ≤ x46_2
                        · rw [if_pos c23] at H
                          have c23b0 : decide (0 ≤ x46_2) = true := decide_eq_true c23
                          clear c23
                          by_cases c24 : x46_2 < (x7_13.length : Int)
                          · rw [if_pos c24] at H
                            have c24b0 : decide (x46_2 < (x7_13.length : Int)) = true := decide_eq_true c24
                            clear c24
                            replace H := Option.bind_eq_some_iff.mp H
                            obtain ⟨⟨t113, t114⟩, A250, H⟩ := H
                            replace H : (if x9_2.length < 5864062014805 then (owner_Labels.l0 k2 b8 (x9_2 ++ [t113]) x7_13 (x7_13.length : Int) (wrap64 (x46_2 + 1))) else (none)) = some (r1, r2, r3) := H
                            have A25 := Aside0.mk A250
                            clear A250
                            by_cases c26 : x9_2.length < 5864062014805
                            · rw [if_pos c26] at H
                              have LMc26 := Aside0.mk c26
                              clear c26
                              obtain ⟨y117, hy117⟩ : ∃ y_ : List (List Int), y_ = (x9_2 ++ [t113]) := ⟨_, rfl⟩
                              replace H : (owner_Labels.l0 k2 b8 y117 x7_13 (x7_13.length : Int) (wrap64 (x46_2 + 1))) = some (r1, r2, r3) := by first | (rw [hy117]; with_reducible exact H) | (have H2_ := (Option.bind_some _ _).symm.trans H; rw [hy117]; with_reducible exact H2_) | (have H2_ := (Option.bind_some _ _).symm.trans H; with_reducible exact H2_) | with_reducible exact H | (rw [hy117]; exact H) | exact H
                              have Ny117 := Aside0.mk hy117
                              clear hy117
                              have H' := Aside0.mk H
                              clear H
                              have p112 : 0 ≤ (x46_2 : Int) := of_decide_eq_true (by first | (with_reducible assumption) | assumption)
                              have q112 : x46_2 < (x7_13.length : Int) := of_decide_eq_true (by first | (with_reducible assumption) | assumption)
                              obtain ⟨ad112, e112, hx112_0⟩ := Kd.at_string (Kd.R_reads' HO_44.out).2.2 x46_2 p112 q112
                              cases e112
                              replace p112 := eq_true p112
                              replace q112 := eq_true q112
                              go_wp2_with (first | ((with_reducible refine gate_callee (f := 19) rfl ?_); refine goesL_ (some 52) rfl rfl Tryd.func19 (by kernel_rfl) rfl #[.string (rdOf ByteArray.empty x7_13 x46_2)] rfl (by (try simp only [List.map_toArray, List.map_cons, List.map_nil]); first | done | rfl | (simp only [List.length_drop, List.length_take]; rfl)) ?_; (with_reducible refine (token_Plain.calls k2 (rdOf ByteArray.empty x7_13 x46_2) t113 t114 _ A25.out).mono ?_); rintro e w27 ⟨v115, rfl, ho0, hb⟩; refine ⟨_, rfl, ?_⟩; have n0_ := Aside0.mk (Kd.S_elder' (by (with_reducible repeat (first | apply Kd.S_alloc | apply Kd.S_drewN | apply Kd.S_drew)); exact HO_9.out) (Kd.R_base ho0) hb); have n1_ := Aside0.mk (Kd.R_below (by (with_reducible repeat (first | apply Kd.R_alloc | apply Kd.R_drewN | apply Kd.R_drew)); exact HO_44.out) hb); have n2_ := Aside0.mk (Kd.R_lower ho0 (below_size (by repeat (first | (with_reducible first | exact HB.out | apply below_alloc | apply pw_below_drewN | apply below_drew1) | exact HB.out)))); have n3_ := Aside0.mk (below_step (by repeat (first | (with_reducible first | exact HB.out | apply below_alloc | apply pw_below_drewN | apply below_drew1) | exact HB.out)) hb); clear HO_9; clear HO_44; clear HB; have HO_9 := n0_; have HO_44 := n1_; have HO116 := n2_; have HB := n3_; clear n0_ n1_ n2_ n3_; (try clear hb); (try clear hb2); (try clear hk); (try clear hi); (try clear ho0); obtain ⟨Ao29, co29, eo29⟩ := Kd.R_slice HO116.out; subst eo29) | ((with_reducible refine gate_builtin (b := .append) (xs := #[.tmp 55, .tmp 57]) rfl ?_); at_builtin; refine Kd.S_append (Kd.slice 5 (Kd.int .u8)) (w0 := w) w.heap.size rfl (.tmp 55) (.tmp 57) 36 22 (.slice none 0 0) 24 rfl Tryd.underlying36 info22 rfl (by decide) (by omega) u9 x9_2 t113 [.slice Ao29 t113.length co29] (fun _ => True) (fun k_ => some k_ = (.slice Ao29 t113.length co29 : Value).ownBlock) rfl rfl ?aP (fun k_ hk_ => ((Kd.R_mono (ok' := fun k_ => ((fun _ => True)) k_ ∧ some k_ ≠ (u9 : Value).ownBlock) (Kd.R_apart' (HO116.out) (Kd.S_typed HO_9.out) (by decide)) (fun k_ hk => ⟨trivial, hk.2⟩))).1 k_ hk_.symm) ?aF ?aO ?aB ?aS ?aL ?_; (case aP => exact Kd.M_row (Kd.R_mono (Kd.R_tight rfl (Kd.R_mono (ok' := fun k_ => ((fun _ => True)) k_ ∧ some k_ ≠ (u9 : Value).ownBlock) (Kd.R_apart' (HO116.out) (Kd.S_typed HO_9.out) (by decide)) (fun k_ hk => ⟨trivial, hk.2⟩))) (fun _ h_ => h_))); (case aB => exact (by repeat (first | (with_reducible first | exact HB.out | apply below_alloc | apply pw_below_drewN | apply below_drew1) | exact HB.out))); (case aF => exact (fun _ _ => trivial)); (case aO => exact (by (with_reducible repeat (first | apply Kd.S_alloc | apply Kd.S_drewN | apply Kd.S_drew)); exact Kd.S_mono HO_9.out (fun k_ hk => ⟨trivial, fun e_ => hk.2 e_⟩))); (case aS => exact (below_size (by repeat (first | (with_reducible first | exact HB.out | apply below_alloc | apply pw_below_drewN | apply below_drew1) | exact HB.out)))); (case aL => have := LMc26.out; omega); intro v118 w28 ho hb hg hat; rw [← Ny117.out] at ho; have n0_ := Aside0.mk (Kd.R_over' (by (with_reducible repeat (first | apply Kd.R_alloc | apply Kd.R_drewN | apply Kd.R_drew)); exact HO_44.out) (Kd.S_typed (by (with_reducible repeat (first | apply Kd.S_alloc | apply Kd.S_drewN | apply Kd.S_drew)); exact HO_9.out)) (by decide) hg); have n1_ := Aside0.mk (hb); have n2_ := Aside0.mk (ho); clear HO_44; clear HB; clear HO_9; clear HO116; have HO_44 := n0_; have HB := n1_; have HO119 := n2_; clear n0_ n1_ n2_; clear ho hb hg hat))
                              go_roundg k2
                              case measure => have := HJ13.out; have := HK2.out; omega
                              case rel => exact ⟨(y117), (wrap64 (x46_2 + 1)), (by first | rfl | (simp; done) | (simp [*]; done)), H', ⟨by have := HJ13.out; have := HK2.out; omega⟩, ⟨by (with_reducible repeat (first | apply Kd.S_alloc | apply Kd.S_drewN | apply Kd.S_drew)); exact HO119.out⟩, ⟨by (with_reducible repeat (first | apply Kd.R_alloc | apply Kd.R_drewN | apply Kd.R_drew)); exact HO_44.out⟩, ⟨by repeat (first | (with_reducible first | exact HB.out | apply below_alloc | apply pw_below_drewN | apply below_drew1) | exact HB.out)⟩⟩
                            · rw [if_neg c26] at H
                              exact absurd H (by simp)
                          · rw [if_neg c24] at H
                            exact absurd H (by simp)
                        · rw [if_neg c23] at H
                          exact absurd H (by simp)
                      · rw [if_neg c22] at H
                        have c22b0 : decide (x46_2 < (x7_13.length : Int)) = false := decide_eq_false c22
                        clear c22
                        replace H := Option.bind_eq_some_iff.mp H
                        obtain ⟨t120, A300, H⟩ := H
                        replace H : (if t120 = true then (some (x9_2, b8, 0)) else (some (([] : List (List Int)), false, 62))) = some (r1, r2, r3) := H
                        have A30 := Aside0.mk A300
                        clear A300
                        by_cases c31 : t120 = true
                        · subst c31
                          have H1 : (some (x9_2, b8, 0)) = some (r1, r2, r3) := by rw [if_pos rfl] at H; exact H
                          clear H
                          have H := H1
                          clear H1
                          simp only [Option.some.injEq, Prod.mk.injEq] at H
                          obtain ⟨rfl, rfl, rfl⟩ := H
                          obtain ⟨Ao32, co32, eo32⟩ := Kd.S_slice HO_9.out
                          subst eo32
                          go_wp2_with (first | ((with_reducible refine gate_callee (f := 52) rfl ?_); refine goesL_ (some 61) rfl rfl Tryd.func52 (by kernel_rfl) rfl #[.slice Ao32 x9_2.length co32] rfl (by (try simp only [List.map_toArray, List.map_cons, List.map_nil]); first | done | rfl | (simp only [List.length_drop, List.length_take]; rfl)) ?_; (with_reducible refine (owner_right.calls k2 _ _ x9_2 true _ ?side1 ?side2 A30.out).mono ?_); (case side1 => repeat (first | exact (Kd.S_reads' HO_9.out).2.2 | (with_reducible refine Kd.C_alloc ?_ _) | (with_reducible refine Kd.C_drewN ?_ _) | (with_reducible refine Kd.C_drew ?_))); (case side2 => exact (Kd.S_reads' HO_9.out).2.1); rintro e w' ⟨rfl, ⟨nd, rfl⟩⟩; refine ⟨_, rfl, ?_⟩))
                          go_ret3
                          exact ⟨_, by first | rfl | (simp [errW_none, errW_some] <;> rfl) | (simp only [← hji11]; first | rfl | (simp [errW_none, errW_some] <;> rfl)) | (simp [*, errW_none, errW_some] <;> rfl), by (with_reducible repeat (first | apply Kd.S_alloc | apply Kd.S_drewN | apply Kd.S_drew)); exact HO_9.out, by repeat (first | (with_reducible first | exact HB.out | apply below_alloc | apply pw_below_drewN | apply below_drew1) | exact HB.out)⟩
                        · replace c31 := Bool.eq_false_iff.mpr c31
                          subst c31
                          have H1 : (some (([] : List (List Int)), false, 62)) = some (r1, r2, r3) := by rw [if_neg (show ¬ (false = true) by decide)] at H; exact H
                          clear H
                          have H := H1
                          clear H1
                          simp only [Option.some.injEq, Prod.mk.injEq] at H
                          obtain ⟨rfl, rfl, rfl⟩ := H
                          obtain ⟨Ao33, co33, eo33⟩ := Kd.S_slice HO_9.out
                          subst eo33
                          go_wp2_with (first | ((with_reducible refine gate_callee (f := 52) rfl ?_); refine goesL_ (some 61) rfl rfl Tryd.func52 (by kernel_rfl) rfl #[.slice Ao33 x9_2.length co33] rfl (by (try simp only [List.map_toArray, List.map_cons, List.map_nil]); first | done | rfl | (simp only [List.length_drop, List.length_take]; rfl)) ?_; (with_reducible refine (owner_right.calls k2 _ _ x9_2 false _ ?side1 ?side2 A30.out).mono ?_); (case side1 => repeat (first | exact (Kd.S_reads' HO_9.out).2.2 | (with_reducible refine Kd.C_alloc ?_ _) | (with_reducible refine Kd.C_drewN ?_ _) | (with_reducible refine Kd.C_drew ?_))); (case side2 => exact (Kd.S_reads' HO_9.out).2.1); rintro e w' ⟨rfl, ⟨nd, rfl⟩⟩; refine ⟨_, rfl, ?_⟩))
                          go_ret3
                          exact ⟨_, by first | rfl | (simp [errW_none, errW_some] <;> rfl) | (simp only [← hji11]; first | rfl | (simp [errW_none, errW_some] <;> rfl)) | (simp [*, errW_none, errW_some] <;> rfl), by first | exact Kd.S_nil _ _ _ _ _ | exact Kd.N_nil _ _ _ _ _ | exact Kd.V_nil _ _ _ _ _ | exact Kd.Q_nil _ _ _ _ _ | exact Kd.R_nil _ _ _ _ _, by repeat (first | (with_reducible first | exact HB.out | apply below_alloc | apply pw_below_drewN | apply below_drew1) | exact HB.out)⟩
            · rw [if_neg c13] at H
              exact absurd H (by simp)
          · rw [if_neg c12] at H
            exact absurd H (by simp)
    · rw [if_neg c4] at H
      exact absurd H (by simp)
  · rw [if_neg c3] at H
    have c3b0 : (t102 == 0) = false := beq_eq_false_iff_ne.mpr c3
    have c3b1 : (t102 != 0) = true := bne_iff_ne.mpr c3
    simp only [Option.some.injEq, Prod.mk.injEq] at H
    obtain ⟨rfl, rfl, rfl⟩ := H
    go_enter Tryd.func24, Tryd.ntmps24
    go_wp2_with (first | ((with_reducible refine gate_callee (f := 19) rfl ?_); refine goesL_ (some 16) rfl rfl Tryd.func19 (by kernel_rfl) rfl #[.string a0] rfl (by (try simp only [List.map_toArray, List.map_cons, List.map_nil]); first | done | rfl | (simp only [List.length_drop, List.length_take]; rfl)) ?_; (with_reducible refine (token_Plain.calls k a0 t101 t102 _ A2.out).mono ?_); rintro e w34 ⟨v103, rfl, ho0, hb⟩; refine ⟨_, rfl, ?_⟩; have n0_ := Aside0.mk (Kd.R_lower ho0 (below_size (by repeat (first | (with_reducible first | exact HB.out | apply below_alloc | apply pw_below_drewN | apply below_drew1) | exact HB.out)))); have n1_ := Aside0.mk (below_step (by repeat (first | (with_reducible first | exact HB.out | apply below_alloc | apply pw_below_drewN | apply below_drew1) | exact HB.out)) hb); clear HB; have HO104 := n0_; have HB := n1_; clear n0_ n1_; (try clear hb); (try clear hb2); (try clear hk); (try clear hi); (try clear ho0)))
    go_ret3
    exact ⟨_, by first | rfl | (simp [errW_none, errW_some] <;> rfl) | (simp [*, errW_none, errW_some] <;> rfl), by first | exact Kd.S_nil _ _ _ _ _ | exact Kd.N_nil _ _ _ _ _ | exact Kd.V_nil _ _ _ _ _ | exact Kd.Q_nil _ _ _ _ _ | exact Kd.R_nil _ _ _ _ _, by repeat (first | (with_reducible first | exact HB.out | apply below_alloc | apply pw_below_drewN | apply below_drew1) | exact HB.out)⟩

end Go.Proofs.YtdnfmilnkoocdaaDoor.Q

-- from Qf55
-- Made by hp.py, a program of this session, with the kit's printer. Not trusted: Lean checks it.
namespace Go.Proofs.YtdnfmilnkoocdaaDoor.Q
open Go.RowKit Go.Proofs.YtdnfmilnkoocdaaDoorW.PrintWords Go.Proofs.YtdnfmilnkoocdaaDoorW.PrintLast Go.Proofs.YtdnfmilnkoocdaaDoorW.PrintMore
attribute [local go_sem] max2_int min2_int max_two min_two max_three min_three max_four min_four   -- for this text's walks alone
set_option linter.unusedVariables false
set_option linter.unusedSimpArgs false

/-! ### token_Indented: function 55 -/
def token_Indented.f (l0 : List Int) : Option (Bool) := if (l0.length : Int) > 0 then (if 0 < (l0.length : Int) then ((strings_IndexByte.f (⟨#[32, 9]⟩ : ByteArray) (rd l0 0)).bind fun t102 => (some (decide (t102 ≥ 0)))) else (none)) else (some false)
set_option maxHeartbeats 8000000 in
set_option maxRecDepth 100000 in
theorem token_Indented.calls (A0 : Option Addr) (c0 : Nat) (l0 : List Int) (r : Bool) (w : World) (hr0 : Kd.C (Kd.int .u8) w A0 l0.length l0) (hc0 : l0.length ≤ c0) (h : token_Indented.f l0 = some r) :
    Calls Tryd.prog 55 #[.slice A0 l0.length c0] w fun e w' => e = .returned (.bool r) ∧ Drawn0 w w' := by
  have HR0 := Aside0.mk hr0
  have HC0 := Aside0.mk hc0
  clear hr0 hc0
  have H : (if (l0.length : Int) > 0 then (if 0 < (l0.length : Int) then ((strings_IndexByte.f (⟨#[32, 9]⟩ : ByteArray) (rd l0 0)).bind fun t102 => (some (decide (t102 ≥ 0)))) else (none)) else (some false)) = some r := h
  clear h
  by_cases c2 : (l0.length : Int) > 0
  · rw [if_pos c2] at H
    have c2b0 : decide (0 < (l0.length : Int)) = true := decide_eq_true c2
    have c2b1 : decide (0 < l0.length) = true := decide_eq_true (by omega)
    clear c2
    by_cases c3 : 0 < (l0.length : Int)
    · rw [if_pos c3] at H
      have c3b0 : decide (0 < (l0.length : Int)) = true := decide_eq_true c3
      have c3b1 : decide (0 < l0.length) = true := decide_eq_true (by omega)
      clear c3
      replace H := Option.bind_eq_some_iff.mp H
      obtain ⟨t102, A40, H⟩ := H
      replace H : (some (decide (t102 ≥ 0))) = some r := H
      have A4 := Aside0.mk A40
      clear A40
      obtain rfl := Option.some.inj H
      have p101 : 0 ≤ (0 : Int) := (by omega)
      have q101 : 0 < (l0.length : Int) := of_decide_eq_true (by first | (with_reducible assumption) | assumption)
      obtain ⟨ad101, e101, hx101_0⟩ := Kd.at_int HR0.out 0 p101 q101
      cases e101
      have qi101 : (0 < l0.length) = True := eq_true (by omega)
      (try rw [show ((0 : Int)).toNat = 0 from rfl] at hx101_0)
      (try rw [Addr.add_zero'] at hx101_0)
      replace p101 := eq_true p101
      replace q101 := eq_true q101
      go_enter Tryd.func55, Tryd.ntmps55
      go_wp2_with (first | (go_at_call 46; (with_reducible refine (strings_IndexByte.calls (⟨#[32, 9]⟩ : ByteArray) (rd l0 0) t102 _ A4.out).mono ?_); rintro e w' ⟨rfl, ⟨nd, rfl⟩⟩))
      go_ret
      exact ⟨by first | rfl | (simp; done) | (simp [*]; done), by repeat (first | exact Drawn0.refl _ | apply Drawn0.step)⟩
    · rw [if_neg c3] at H
      exact absurd H (by simp)
  · rw [if_neg c2] at H
    have c2b0 : decide (0 < (l0.length : Int)) = false := decide_eq_false c2
    have c2b1 : decide (0 < l0.length) = false := decide_eq_false (by omega)
    clear c2
    obtain rfl := Option.some.inj H
    go_enter Tryd.func55, Tryd.ntmps55
    go_wp2
    go_ret
    exact ⟨by first | rfl | (simp; done) | (simp [*]; done), by repeat (first | exact Drawn0.refl _ | apply Drawn0.step)⟩

end Go.Proofs.YtdnfmilnkoocdaaDoor.Q

-- from Qf79
-- Made by hp.py, a program of this session, with the kit's printer. Not trusted: Lean checks it.
namespace Go.Proofs.YtdnfmilnkoocdaaDoor.Q
open Go.RowKit Go.Proofs.YtdnfmilnkoocdaaDoorW.PrintWords Go.Proofs.YtdnfmilnkoocdaaDoorW.PrintLast Go.Proofs.YtdnfmilnkoocdaaDoorW.PrintMore
attribute [local go_sem] max2_int min2_int max_two min_two max_three min_three max_four min_four   -- for this text's walks alone
set_option linter.unusedVariables false
set_option linter.unusedSimpArgs false

/-! ### stringslite_HasPrefix: function 79 -/
def stringslite_HasPrefix.f (a0 : ByteArray) (a1 : ByteArray) : Option (Bool) := if (a0.size : Int) ≥ (a1.size : Int) then (if 0 ≤ (a1.size : Int) then (if (a1.size : Int) ≤ (a0.size : Int) then (some ((a0.extract 0 ((a1.size : Int) : Int).toNat).toList == a1.toList)) else (none)) else (none)) else (some false)
set_option maxHeartbeats 8000000 in
set_option maxRecDepth 100000 in
theorem stringslite_HasPrefix.calls (a0 : ByteArray) (a1 : ByteArray) (r : Bool) (w : World) (h : stringslite_HasPrefix.f a0 a1 = some r) :
    Calls Tryd.prog 79 #[.string a0, .string a1] w fun e w' => e = .returned (.bool r) ∧ Drawn0 w w' := by
  have H : (if (a0.size : Int) ≥ (a1.size : Int) then (if 0 ≤ (a1.size : Int) then (if (a1.size : Int) ≤ (a0.size : Int) then (some ((a0.extract 0 ((a1.size : Int) : Int).toNat).toList == a1.toList)) else (none)) else (none)) else (some false)) = some r := h
  clear h
  by_cases c3 : (a0.size : Int) ≥ (a1.size : Int)
  · rw [if_pos c3] at H
    have c3b0 : decide ((a1.size : Int) ≤ (a0.size : Int)) = true := decide_eq_true c3
    have c3b1 : decide (a1.size ≤ a0.size) = true := decide_eq_true (Int.ofNat_le.mp c3)
    clear c3
    by_cases c4 : 0 ≤ (a1.size : Int)
    · rw [if_pos c4] at H
      have c4b0 := eq_true c4
      have c4b1 : decide (0 ≤ (a1.size : Int)) = true := decide_eq_true c4
      clear c4
      by_cases c5 : (a1.size : Int) ≤ (a0.size : Int)
      · rw [if_pos c5] at H
        have c5b0 := eq_true c5
        have c5b1 : decide ((a1.size : Int) ≤ (a0.size : Int)) = true := decide_eq_true c5
        clear c5
        obtain rfl := Option.some.inj H
        go_enter Tryd.func79, Tryd.ntmps79
        go_wp2
        go_ret
        exact ⟨by first | rfl | (simp; done) | (simp [*]; done), by repeat (first | exact Drawn0.refl _ | apply Drawn0.step)⟩
      · rw [if_neg c5] at H
        exact absurd H (by simp)
    · rw [if_neg c4] at H
      exact absurd H (by simp)
  · rw [if_neg c3] at H
    have c3b0 : decide ((a1.size : Int) ≤ (a0.size : Int)) = false := decide_eq_false c3
    have c3b1 : decide (a1.size ≤ a0.size) = false := decide_eq_false (fun h => c3 (Int.ofNat_le.mpr h))
    clear c3
    obtain rfl := Option.some.inj H
    go_enter Tryd.func79, Tryd.ntmps79
    go_wp2
    go_ret
    exact ⟨by first | rfl | (simp; done) | (simp [*]; done), by repeat (first | exact Drawn0.refl _ | apply Drawn0.step)⟩

end Go.Proofs.YtdnfmilnkoocdaaDoor.Q

-- from Qf56
-- Made by hp.py, a program of this session, with the kit's printer. Not trusted: Lean checks it.
namespace Go.Proofs.YtdnfmilnkoocdaaDoor.Q
open Go.RowKit Go.Proofs.YtdnfmilnkoocdaaDoorW.PrintWords Go.Proofs.YtdnfmilnkoocdaaDoorW.PrintLast Go.Proofs.YtdnfmilnkoocdaaDoorW.PrintMore
attribute [local go_sem] max2_int min2_int max_two min_two max_three min_three max_four min_four   -- for this text's walks alone
set_option linter.unusedVariables false
set_option linter.unusedSimpArgs false

/-! ### strings_HasPrefix: function 56 -/
def strings_HasPrefix.f (a0 : ByteArray) (a1 : ByteArray) : Option (Bool) := (stringslite_HasPrefix.f a0 a1).bind fun t101 => (some t101)
set_option maxHeartbeats 8000000 in
set_option maxRecDepth 100000 in
theorem strings_HasPrefix.calls (a0 : ByteArray) (a1 : ByteArray) (r : Bool) (w : World) (h : strings_HasPrefix.f a0 a1 = some r) :
    Calls Tryd.prog 56 #[.string a0, .string a1] w fun e w' => e = .returned (.bool r) ∧ Drawn0 w w' := by
  have H : ((stringslite_HasPrefix.f a0 a1).bind fun t101 => (some t101)) = some r := h
  clear h
  replace H := Option.bind_eq_some_iff.mp H
  obtain ⟨t101, A30, H⟩ := H
  replace H : (some t101) = some r := H
  have A3 := Aside0.mk A30
  clear A30
  obtain rfl := Option.some.inj H
  go_enter Tryd.func56, Tryd.ntmps56
  go_wp2_with (first | ((with_reducible refine gate_callee (f := 79) rfl ?_); refine goesL_ (some 7) rfl rfl Tryd.func79 (by kernel_rfl) rfl #[.string a0, .string a1] rfl (by (try simp only [List.map_toArray, List.map_cons, List.map_nil]); first | done | rfl | (simp only [List.length_drop, List.length_take]; rfl)) ?_; (with_reducible refine (stringslite_HasPrefix.calls a0 a1 t101 _ A3.out).mono ?_); rintro e w' ⟨rfl, ⟨nd, rfl⟩⟩; refine ⟨_, rfl, ?_⟩))
  go_ret
  exact ⟨by first | rfl | (simp; done) | (simp [*]; done), by repeat (first | exact Drawn0.refl _ | apply Drawn0.step)⟩

end Go.Proofs.YtdnfmilnkoocdaaDoor.Q

-- from Qf25
-- Made by hp.py, a program of this session, with the kit's printer. Not trusted: Lean checks it.
namespace Go.Proofs.YtdnfmilnkoocdaaDoor.Q
open Go.RowKit Go.Proofs.YtdnfmilnkoocdaaDoorW.PrintWords Go.Proofs.YtdnfmilnkoocdaaDoorW.PrintLast Go.Proofs.YtdnfmilnkoocdaaDoorW.PrintMore
attribute [local go_sem] max2_int min2_int max_two min_two max_three min_three max_four min_four   -- for this text's walks alone
set_option linter.unusedVariables false
set_option linter.unusedSimpArgs false

/-! ### owner_Of: function 25 -/
def owner_Of.j0 : Nat → List ByteArray → Bool → Option (List Int × Bool × Int)
  | 0, _, _ => none
  | k + 1, x5, x18 => if x18 = true then (some (([] : List Int), false, 0)) else (if 0 < (x5.length : Int) then ((owner_Labels.f k (rdOf ByteArray.empty x5 0)).bind fun bt110 => (if bt110.2.2 = 0 then (if (bt110.1.length : Int) = 0 then (some (([] : List Int), false, bt110.2.2)) else (if 0 < (bt110.1.length : Int) then (some (rd_L2 bt110.1 0, true, 0)) else (none))) else (some (([] : List Int), false, bt110.2.2)))) else (none))
def owner_Of.f (k : Nat) (l0 : List Int) : Option (List Int × Bool × Int) := (token_Split.f k l0).bind fun bt101 => (if bt101.2 = 0 then (if (bt101.1.length : Int) = 0 then (owner_Of.j0 k bt101.1 true) else ((token_Indented.f l0).bind fun t105 => (if t105 = true then (owner_Of.j0 k bt101.1 true) else (if 0 < (bt101.1.length : Int) then ((strings_HasPrefix.f (rdOf ByteArray.empty bt101.1 0) (⟨#[36]⟩ : ByteArray)).bind fun t107 => (if t107 = true then (owner_Of.j0 k bt101.1 true) else (owner_Of.j0 k bt101.1 ((rdOf ByteArray.empty bt101.1 0).toList == ([64] : List UInt8))))) else (none))))) else (some (([] : List Int), false, bt101.2)))
theorem owner_Of.mono_l : ∀ k, (∀ y0 y1, LeO (owner_Of.j0 k y0 y1) (owner_Of.j0 (k + 1) y0 y1))
  | 0 => fun _ _ r h => by simp [owner_Of.j0] at h
  | k + 1 => by
    have ih0 := owner_Of.mono_l k
    · intro y0 y1
      unfold owner_Of.j0
      repeat' first
      | (with_reducible exact ih0 _ _)
      | (with_reducible exact owner_Labels.mono _ _)
      | (with_reducible exact token_Split.mono _ _)
      | (with_reducible exact LeO.refl _)
      | (with_reducible exact LeO.none _)
      | (with_reducible refine LeO.ite ?_ ?_)
      | (with_reducible refine LeO.bind ?_ (fun _ => ?_))
      | exact ih0 _ _
      | exact owner_Labels.mono _ _
      | exact token_Split.mono _ _
      | exact LeO.none _
      | refine LeO.ite ?_ ?_
      | refine LeO.bind ?_ (fun _ => ?_)
theorem owner_Of.mono : ∀ a0 k, LeO (owner_Of.f k a0) (owner_Of.f (k + 1) a0) := by
  intro a0 k
  have ih0 := owner_Of.mono_l k
  unfold owner_Of.f
  repeat' first
      | (with_reducible exact ih0 _ _)
      | (with_reducible exact owner_Labels.mono _ _)
      | (with_reducible exact token_Split.mono _ _)
      | (with_reducible exact LeO.refl _)
      | (with_reducible exact LeO.none _)
      | (with_reducible refine LeO.ite ?_ ?_)
      | (with_reducible refine LeO.bind ?_ (fun _ => ?_))
      | exact ih0 _ _
      | exact owner_Labels.mono _ _
      | exact token_Split.mono _ _
      | exact LeO.none _
      | refine LeO.ite ?_ ?_
      | refine LeO.bind ?_ (fun _ => ?_)
set_option maxHeartbeats 8000000 in
set_option maxRecDepth 100000 in
theorem owner_Of.calls (k : Nat) (A0 : Option Addr) (c0 : Nat) (l0 : List Int) (r1 : List Int) (r2 : Bool) (r3 : Int) (w : World) (hr0 : Kd.C (Kd.int .u8) w A0 l0.length l0) (hc0 : l0.length ≤ c0) (h : owner_Of.f k l0 = some (r1, r2, r3)) :
    Calls Tryd.prog 25 #[.slice A0 l0.length c0] w fun e w' => ∃ v0_ : Value, e = .returned (.tuple #[v0_, .bool r2, .int .i64 r3]) ∧ Kd.R (Kd.int .u8) 5 w' w.heap.size (fun _ => True) v0_ r1 ∧ Below w.heap.size w w' := by
  have HR0 := Aside0.mk hr0
  have HC0 := Aside0.mk hc0
  clear hr0 hc0
  have HB := Aside0.mk (Below.refl w.heap.size w)
  have H : ((token_Split.f k l0).bind fun bt101 => (if bt101.2 = 0 then (if (bt101.1.length : Int) = 0 then (owner_Of.j0 k bt101.1 true) else ((token_Indented.f l0).bind fun t105 => (if t105 = true then (owner_Of.j0 k bt101.1 true) else (if 0 < (bt101.1.length : Int) then ((strings_HasPrefix.f (rdOf ByteArray.empty bt101.1 0) (⟨#[36]⟩ : ByteArray)).bind fun t107 => (if t107 = true then (owner_Of.j0 k bt101.1 true) else (owner_Of.j0 k bt101.1 ((rdOf ByteArray.empty bt101.1 0).toList == ([64] : List UInt8))))) else (none))))) else (some (([] : List Int), false, bt101.2)))) = some (r1, r2, r3) := h
  clear h
  replace H := Option.bind_eq_some_iff.mp H
  obtain ⟨⟨t101, t102⟩, A20, H⟩ := H
  replace H : (if t102 = 0 then (if (t101.length : Int) = 0 then (owner_Of.j0 k t101 true) else ((token_Indented.f l0).bind fun t105 => (if t105 = true then (owner_Of.j0 k t101 true) else (if 0 < (t101.length : Int) then ((strings_HasPrefix.f (rdOf ByteArray.empty t101 0) (⟨#[36]⟩ : ByteArray)).bind fun t107 => (if t107 = true then (owner_Of.j0 k t101 true) else (owner_Of.j0 k t101 ((rdOf ByteArray.empty t101 0).toList == ([64] : List UInt8))))) else (none))))) else (some (([] : List Int), false, t102))) = some (r1, r2, r3) := H
  have A2 := Aside0.mk A20
  clear A20
  by_cases c3 : t102 = 0
  · rw [if_pos c3] at H
    have c3b0 : (t102 == 0) = true := beq_iff_eq.mpr c3
    have c3b1 : (t102 != 0) = false := bne_eq_false_iff_eq.mpr c3
    clear c3
    have HC4 := Aside0.mk H
    clear H
    go_enter Tryd.func25, Tryd.ntmps25
    go_upto_region 4 with (first | ((with_reducible refine gate_callee (f := 14) rfl ?_); refine goesL_ (some 11) rfl rfl Tryd.func14 (by kernel_rfl) rfl #[.slice A0 l0.length c0] rfl (by (try simp only [List.map_toArray, List.map_cons, List.map_nil]); first | done | rfl | (simp only [List.length_drop, List.length_take]; rfl)) ?_; (with_reducible refine (token_Split.calls k _ _ l0 t101 t102 _ ?side1 ?side2 A2.out).mono ?_); (case side1 => repeat (first | exact HR0.out | (with_reducible refine Kd.C_alloc ?_ _) | (with_reducible refine Kd.C_drewN ?_ _) | (with_reducible refine Kd.C_drew ?_))); (case side2 => exact HC0.out); rintro e w5 ⟨v103, rfl, ho0, hb⟩; refine ⟨_, rfl, ?_⟩; have n0_ := Aside0.mk (Kd.R_lower ho0 (below_size (by repeat (first | (with_reducible first | exact HB.out | apply below_alloc | apply pw_below_drewN | apply below_drew1) | exact HB.out)))); have n1_ := Aside0.mk (below_step (by repeat (first | (with_reducible first | exact HB.out | apply below_alloc | apply pw_below_drewN | apply below_drew1) | exact HB.out)) hb); clear HB; have HO104 := n0_; have HB := n1_; clear n0_ n1_; (try clear hb); (try clear hb2); (try clear hk); (try clear hi); (try clear ho0)))
    (try simp only [Act.put, List.setIfInBounds_toArray, List.set_cons_zero, List.set_cons_succ])
    go_cut [18] (fun v18 wc => ∃ (kq : Nat) (x18_3 : Bool), v18 = .bool x18_3 ∧ Aside0 (owner_Of.j0 kq t101 x18_3 = some (r1, r2, r3)) ∧ Aside0 (kq ≤ k) ∧ Aside0 (Kd.R Kd.string 9 wc w.heap.size (fun _ => True) v103 t101) ∧ Aside0 (Below w.heap.size w wc))
    case first =>
      have H := HC4.out
      clear HC4
      by_cases c6 : (t101.length : Int) = 0
      · rw [if_pos c6] at H
        have c6b0 : ((t101.length : Int) == 0) = true := beq_iff_eq.mpr c6
        have c6b1 : ((t101.length : Int) != 0) = false := bne_eq_false_iff_eq.mpr c6
        clear c6
        (first | rw [c6b0] | (simp only [i64_w, i32_w]; rw [c6b0]) | rw [c6b1] | (simp only [i64_w, i32_w]; rw [c6b1]) | skip)
        have H' := Aside0.mk H
        clear H
        obtain ⟨Ao7, co7, eo7⟩ := Kd.R_slice HO104.out
        subst eo7
        go_wp2
        go_meet
        case rel => exact ⟨_, (true), (by first | rfl | (simp; done) | (simp [*]; done)), H', ⟨by first | omega | exact Nat.le_refl _⟩, ⟨by (with_reducible repeat (first | apply Kd.R_alloc | apply Kd.R_drewN | apply Kd.R_drew)); exact HO104.out⟩, ⟨by repeat (first | (with_reducible first | exact HB.out | apply below_alloc | apply pw_below_drewN | apply below_drew1) | exact HB.out)⟩⟩
      · rw [if_neg c6] at H
        have c6b0 : ((t101.length : Int) == 0) = false := beq_eq_false_iff_ne.mpr c6
        have c6b1 : ((t101.length : Int) != 0) = true := bne_iff_ne.mpr c6
        have c6b2 : ¬ (t101 = []) := fun h_ => c6 (by rw [h_]; rfl)
        (first | rw [c6b0] | (simp only [i64_w, i32_w]; rw [c6b0]) | rw [c6b1] | (simp only [i64_w, i32_w]; rw [c6b1]) | skip)
        replace H := Option.bind_eq_some_iff.mp H
        obtain ⟨t105, A80, H⟩ := H
        replace H : (if t105 = true then (owner_Of.j0 k t101 true) else (if 0 < (t101.length : Int) then ((strings_HasPrefix.f (rdOf ByteArray.empty t101 0) (⟨#[36]⟩ : ByteArray)).bind fun t107 => (if t107 = true then (owner_Of.j0 k t101 true) else (owner_Of.j0 k t101 ((rdOf ByteArray.empty t101 0).toList == ([64] : List UInt8))))) else (none))) = some (r1, r2, r3) := H
        have A8 := Aside0.mk A80
        clear A80
        by_cases c9 : t105 = true
        · subst c9
          have H1 : (owner_Of.j0 k t101 true) = some (r1, r2, r3) := by rw [if_pos rfl] at H; exact H
          clear H
          have H := H1
          clear H1
          have H' := Aside0.mk H
          clear H
          obtain ⟨Ao10, co10, eo10⟩ := Kd.R_slice HO104.out
          subst eo10
          go_wp2_with (first | (go_at_call 55; (with_reducible refine (token_Indented.calls _ _ l0 true _ ?side1 ?side2 A8.out).mono ?_); (case side1 => repeat (first | exact (Kd.C_below HR0.out HB.out) | (with_reducible refine Kd.C_alloc ?_ _) | (with_reducible refine Kd.C_drewN ?_ _) | (with_reducible refine Kd.C_drew ?_))); (case side2 => exact HC0.out); rintro e w' ⟨rfl, ⟨nd, rfl⟩⟩))
          go_meet
          case rel => exact ⟨_, (true), (by first | rfl | (simp; done) | (simp [*]; done)), H', ⟨by first | omega | exact Nat.le_refl _⟩, ⟨by (with_reducible repeat (first | apply Kd.R_alloc | apply Kd.R_drewN | apply Kd.R_drew)); exact HO104.out⟩, ⟨by repeat (first | (with_reducible first | exact HB.out | apply below_alloc | apply pw_below_drewN | apply below_drew1) | exact HB.out)⟩⟩
        · replace c9 := Bool.eq_false_iff.mpr c9
          subst c9
          have H1 : (if 0 < (t101.length : Int) then ((strings_HasPrefix.f (rdOf ByteArray.empty t101 0) (⟨#[36]⟩ : ByteArray)).bind fun t107 => (if t107 = true then (owner_Of.j0 k t101 true) else (owner_Of.j0 k t101 ((rdOf ByteArray.empty t101 0).toList == ([64] : List UInt8))))) else (none)) = some (r1, r2, r3) := by rw [if_neg (show ¬ (false = true) by decide)] at H; exact H
          clear H
          have H := H1
          clear H1
          by_cases c11 : 0 < (t101.length : Int)
          · rw [if_pos c11] at H
            have c11b0 : decide (0 < (t101.length : Int)) = true := decide_eq_true c11
            have c11b1 : decide (0 < t101.length) = true := decide_eq_true (by omega)
            clear c11
            replace H := Option.bind_eq_some_iff.mp H
            obtain ⟨t107, A120, H⟩ := H
            replace H : (if t107 = true then (owner_Of.j0 k t101 true) else (owner_Of.j0 k t101 ((rdOf ByteArray.empty t101 0).toList == ([64] : List UInt8)))) = some (r1, r2, r3) := H
            have A12 := Aside0.mk A120
            clear A120
            by_cases c13 : t107 = true
            · subst c13
              have H1 : (owner_Of.j0 k t101 true) = some (r1, r2, r3) := by rw [if_pos rfl] at H; exact H
              clear H
              have H := H1
              clear H1
              have H' := Aside0.mk H
              clear H
              obtain ⟨Ao14, co14, eo14⟩ := Kd.R_slice HO104.out
              subst eo14
              go_wp2_with (first | (go_at_call 55; (with_reducible refine (token_Indented.calls _ _ l0 false _ ?side1 ?side2 A8.out).mono ?_); (case side1 => repeat (first | exact (Kd.C_below HR0.out HB.out) | (with_reducible refine Kd.C_alloc ?_ _) | (with_reducible refine Kd.C_drewN ?_ _) | (with_reducible refine Kd.C_drew ?_))); (case side2 => exact HC0.out); rintro e w' ⟨rfl, ⟨nd, rfl⟩⟩; have p106 : 0 ≤ (0 : Int) := (by omega); have q106 : 0 < (t101.length : Int) := of_decide_eq_true (by first | (with_reducible assumption) | assumption); obtain ⟨ad106, e106, hx106_0⟩ := Kd.at_string (Kd.R_reads' HO104.out).2.2 0 p106 q106; cases e106; have qi106 : (0 < t101.length) = True := eq_true (by omega); (try rw [show ((0 : Int)).toNat = 0 from rfl] at hx106_0); (try rw [Addr.add_zero'] at hx106_0); replace p106 := eq_true p106; replace q106 := eq_true q106) | (go_at_call 56; (with_reducible refine (strings_HasPrefix.calls (rdOf ByteArray.empty t101 0) (⟨#[36]⟩ : ByteArray) true _ A12.out).mono ?_); rintro e w' ⟨rfl, ⟨nd, rfl⟩⟩))
              go_meet
              case rel => exact ⟨_, (true), (by first | rfl | (simp; done) | (simp [*]; done)), H', ⟨by first | omega | exact Nat.le_refl _⟩, ⟨by (with_reducible repeat (first | apply Kd.R_alloc | apply Kd.R_drewN | apply Kd.R_drew)); exact HO104.out⟩, ⟨by repeat (first | (with_reducible first | exact HB.out | apply below_alloc | apply pw_below_drewN | apply below_drew1) | exact HB.out)⟩⟩
            · replace c13 := Bool.eq_false_iff.mpr c13
              subst c13
              have H1 : (owner_Of.j0 k t101 ((rdOf ByteArray.empty t101 0).toList == ([64] : List UInt8))) = some (r1, r2, r3) := by rw [if_neg (show ¬ (false = true) by decide)] at H; exact H
              clear H
              have H := H1
              clear H1
              have H' := Aside0.mk H
              clear H
              obtain ⟨Ao15, co15, eo15⟩ := Kd.R_slice HO104.out
              subst eo15
              go_wp2_with (first | (go_at_call 55; (with_reducible refine (token_Indented.calls _ _ l0 false _ ?side1 ?side2 A8.out).mono ?_); (case side1 => repeat (first | exact (Kd.C_below HR0.out HB.out) | (with_reducible refine Kd.C_alloc ?_ _) | (with_reducible refine Kd.C_drewN ?_ _) | (with_reducible refine Kd.C_drew ?_))); (case side2 => exact HC0.out); rintro e w' ⟨rfl, ⟨nd, rfl⟩⟩; have p106 : 0 ≤ (0 : Int) := (by omega); have q106 : 0 < (t101.length : Int) := of_decide_eq_true (by first | (with_reducible assumption) | assumption); obtain ⟨ad106, e106, hx106_0⟩ := Kd.at_string (Kd.R_reads' HO104.out).2.2 0 p106 q106; cases e106; have qi106 : (0 < t101.length) = True := eq_true (by omega); (try rw [show ((0 : Int)).toNat = 0 from rfl] at hx106_0); (try rw [Addr.add_zero'] at hx106_0); replace p106 := eq_true p106; replace q106 := eq_true q106) | (go_at_call 56; (with_reducible refine (strings_HasPrefix.calls (rdOf ByteArray.empty t101 0) (⟨#[36]⟩ : ByteArray) false _ A12.out).mono ?_); rintro e w' ⟨rfl, ⟨nd, rfl⟩⟩; have p108 : 0 ≤ (0 : Int) := (by omega); have q108 : 0 < (t101.length : Int) := of_decide_eq_true (by first | (with_reducible assumption) | assumption); obtain ⟨ad108, e108, hx108_0⟩ := Kd.at_string (Kd.R_reads' HO104.out).2.2 0 p108 q108; obtain rfl : ad106 = ad108 := (by injection e108); have qi108 : (0 < t101.length) = True := eq_true (by omega); (try rw [show ((0 : Int)).toNat = 0 from rfl] at hx108_0); (try rw [Addr.add_zero'] at hx108_0); replace p108 := eq_true p108; replace q108 := eq_true q108))
              go_meet
              case rel => exact ⟨_, (((rdOf ByteArray.empty t101 0).toList == ([64] : List UInt8))), (by first | rfl | (simp; done) | (simp [*]; done)), H', ⟨by first | omega | exact Nat.le_refl _⟩, ⟨by (with_reducible repeat (first | apply Kd.R_alloc | apply Kd.R_drewN | apply Kd.R_drew)); exact HO104.out⟩, ⟨by repeat (first | (with_reducible first | exact HB.out | apply below_alloc | apply pw_below_drewN | apply below_drew1) | exact HB.out)⟩⟩
          · rw [if_neg c11] at H
            exact absurd H (by simp)
    case rest =>
      clear HC4
      try clear c1
      try clear p1
      try clear q1
      try clear hx1
      try clear qi1
      try clear c2
      try clear p2
      try clear c3
      try clear c3b0
      try clear c3b1
      try clear c6
      try clear c6b0
      try clear c6b1
      try clear c6b2
      try clear c9
      try clear p10
      try clear q10
      try clear hx10
      try clear qi10
      try clear c11
      try clear c11b0
      try clear c11b1
      try clear c13
      try clear c14
      try clear hx106_0
      try clear hx108_0
      try clear p106
      try clear p108
      try clear q106
      try clear q108
      obtain ⟨kq, x18_3, rfl, HA, HJ3, HO_5, HB⟩ := hcut
      cases kq with
      | zero => exact absurd HA.out (by simp [owner_Of.j0])
      | succ kj3 =>
        have H := HA.out
        clear HA
        simp only [owner_Of.j0] at H
        by_cases c16 : x18_3 = true
        · subst c16
          have H1 : (some (([] : List Int), false, 0)) = some (r1, r2, r3) := by rw [if_pos rfl] at H; exact H
          clear H
          have H := H1
          clear H1
          simp only [Option.some.injEq, Prod.mk.injEq] at H
          obtain ⟨rfl, rfl, rfl⟩ := H
          go_wp2
          go_ret3
          exact ⟨_, by first | rfl | (simp [errW_none, errW_some] <;> rfl) | (simp [*, errW_none, errW_some] <;> rfl), by first | exact Kd.R_nil _ _ _ _ _ | exact Kd.N_nil _ _ _ _ _ | exact Kd.V_nil _ _ _ _ _ | exact Kd.Q_nil _ _ _ _ _ | exact Kd.S_nil _ _ _ _ _, by repeat (first | (with_reducible first | exact HB.out | apply below_alloc | apply pw_below_drewN | apply below_drew1) | exact HB.out)⟩
        · replace c16 := Bool.eq_false_iff.mpr c16
          subst c16
          have H1 : (if 0 < (t101.length : Int) then ((owner_Labels.f kj3 (rdOf ByteArray.empty t101 0)).bind fun bt110 => (if bt110.2.2 = 0 then (if (bt110.1.length : Int) = 0 then (some (([] : List Int), false, bt110.2.2)) else (if 0 < (bt110.1.length : Int) then (some (rd_L2 bt110.1 0, true, 0)) else (none))) else (some (([] : List Int), false, bt110.2.2)))) else (none)) = some (r1, r2, r3) := by rw [if_neg (show ¬ (false = true) by decide)] at H; exact H
          clear H
          have H := H1
          clear H1
          by_cases c17 : 0 < (t101.length : Int)
          · rw [if_pos c17] at H
            have c17b0 : decide (0 < (t101.length : Int)) = true := decide_eq_true c17
            have c17b1 : decide (0 < t101.length) = true := decide_eq_true (by omega)
            clear c17
            replace H := Option.bind_eq_some_iff.mp H
            obtain ⟨⟨t110, t111, t112⟩, A180, H⟩ := H
            replace H : (if t112 = 0 then (if (t110.length : Int) = 0 then (some (([] : List Int), false, t112)) else (if 0 < (t110.length : Int) then (some (rd_L2 t110 0, true, 0)) else (none))) else (some (([] : List Int), false, t112))) = some (r1, r2, r3) := H
            have A18 := Aside0.mk A180
            clear A180
            by_cases c19 : t112 = 0
            · rw [if_pos c19] at H
              have c19b0 : (t112 == 0) = true := beq_iff_eq.mpr c19
              have c19b1 : (t112 != 0) = false := bne_eq_false_iff_eq.mpr c19
              clear c19
              by_cases c20 : (t110.length : Int) = 0
              · rw [if_pos c20] at H
                have c20b0 : ((t110.length : Int) == 0) = true := beq_iff_eq.mpr c20
                have c20b1 : ((t110.length : Int) != 0) = false := bne_eq_false_iff_eq.mpr c20
                clear c20
                simp only [Option.some.injEq, Prod.mk.injEq] at H
                obtain ⟨rfl, rfl, rfl⟩ := H
                obtain ⟨Ao21, co21, eo21⟩ := Kd.R_slice HO_5.out
                subst eo21
                have p109 : 0 ≤ (0 : Int) := (by omega)
                have q109 : 0 < (t101.length : Int) := of_decide_eq_true (by first | (with_reducible assumption) | assumption)
                obtain ⟨ad109, e109, hx109_0⟩ := Kd.at_string (Kd.R_reads' HO_5.out).2.2 0 p109 q109
                cases e109
                have qi109 : (0 < t101.length) = True := eq_true (by omega)
                (try rw [show ((0 : Int)).toNat = 0 from rfl] at hx109_0)
                (try rw [Addr.add_zero'] at hx109_0)
                replace p109 := eq_true p109
                replace q109 := eq_true q109
                go_wp2_with (first | ((with_reducible refine gate_callee (f := 24) rfl ?_); refine goesL_ (some 42) rfl rfl Tryd.func24 (by kernel_rfl) rfl #[.string (rdOf ByteArray.empty t101 0)] rfl (by (try simp only [List.map_toArray, List.map_cons, List.map_nil]); first | done | rfl | (simp only [List.length_drop, List.length_take]; rfl)) ?_; (with_reducible refine (owner_Labels.calls kj3 (rdOf ByteArray.empty t101 0) t110 t111 t112 _ A18.out).mono ?_); rintro e w22 ⟨v113, rfl, ho0, hb⟩; refine ⟨_, rfl, ?_⟩; have n0_ := Aside0.mk (Kd.R_below (by (with_reducible repeat (first | apply Kd.R_alloc | apply Kd.R_drewN | apply Kd.R_drew)); exact HO_5.out) hb); have n1_ := Aside0.mk (Kd.S_lower ho0 (below_size (by repeat (first | (with_reducible first | exact HB.out | apply below_alloc | apply pw_below_drewN | apply below_drew1) | exact HB.out)))); have n2_ := Aside0.mk (below_step (by repeat (first | (with_reducible first | exact HB.out | apply below_alloc | apply pw_below_drewN | apply below_drew1) | exact HB.out)) hb); clear HO_5; clear HB; have HO_5 := n0_; have HO114 := n1_; have HB := n2_; clear n0_ n1_ n2_; (try clear hb); (try clear hb2); (try clear hk); (try clear hi); (try clear ho0); obtain ⟨Ao23, co23, eo23⟩ := Kd.S_slice HO114.out; subst eo23))
                go_ret3
                exact ⟨_, by first | rfl | (simp [errW_none, errW_some] <;> rfl) | (simp [*, errW_none, errW_some] <;> rfl), by first | exact Kd.R_nil _ _ _ _ _ | exact Kd.N_nil _ _ _ _ _ | exact Kd.V_nil _ _ _ _ _ | exact Kd.Q_nil _ _ _ _ _ | exact Kd.S_nil _ _ _ _ _, by repeat (first | (with_reducible first | exact HB.out | apply below_alloc | apply pw_below_drewN | apply below_drew1) | exact HB.out)⟩
              · rw [if_neg c20] at H
                have c20b0 : ((t110.length : Int) == 0) = false := beq_eq_false_iff_ne.mpr c20
                have c20b1 : ((t110.length : Int) != 0) = true := bne_iff_ne.mpr c20
                have c20b2 : ¬ (t110 = []) := fun h_ => c20 (by rw [h_]; rfl)
                by_cases c24 : 0 < (t110.length : Int)
                · rw [if_pos c24] at H
                  have c24b0 : decide (0 < (t110.length : Int)) = true := decide_eq_true c24
                  have c24b1 : decide (0 < t110.length) = true := decide_eq_true (by omega)
                  clear c24
                  simp only [Option.some.injEq, Prod.mk.injEq] at H
                  obtain ⟨rfl, rfl, rfl⟩ := H
                  obtain ⟨Ao25, co25, eo25⟩ := Kd.R_slice HO_5.out
                  subst eo25
                  have p109 : 0 ≤ (0 : Int) := (by omega)
                  have q109 : 0 < (t101.length : Int) := of_decide_eq_true (by first | (with_reducible assumption) | assumption)
                  obtain ⟨ad109, e109, hx109_0⟩ := Kd.at_string (Kd.R_reads' HO_5.out).2.2 0 p109 q109
                  cases e109
                  have qi109 : (0 < t101.length) = True := eq_true (by omega)
                  (try rw [show ((0 : Int)).toNat = 0 from rfl] at hx109_0)
                  (try rw [Addr.add_zero'] at hx109_0)
                  replace p109 := eq_true p109
                  replace q109 := eq_true q109
                  go_wp2_with (first | ((with_reducible refine gate_callee (f := 24) rfl ?_); refine goesL_ (some 42) rfl rfl Tryd.func24 (by kernel_rfl) rfl #[.string (rdOf ByteArray.empty t101 0)] rfl (by (try simp only [List.map_toArray, List.map_cons, List.map_nil]); first | done | rfl | (simp only [List.length_drop, List.length_take]; rfl)) ?_; (with_reducible refine (owner_Labels.calls kj3 (rdOf ByteArray.empty t101 0) t110 t111 t112 _ A18.out).mono ?_); rintro e w26 ⟨v113, rfl, ho0, hb⟩; refine ⟨_, rfl, ?_⟩; have n0_ := Aside0.mk (Kd.R_below (by (with_reducible repeat (first | apply Kd.R_alloc | apply Kd.R_drewN | apply Kd.R_drew)); exact HO_5.out) hb); have n1_ := Aside0.mk (Kd.S_lower ho0 (below_size (by repeat (first | (with_reducible first | exact HB.out | apply below_alloc | apply pw_below_drewN | apply below_drew1) | exact HB.out)))); have n2_ := Aside0.mk (below_step (by repeat (first | (with_reducible first | exact HB.out | apply below_alloc | apply pw_below_drewN | apply below_drew1) | exact HB.out)) hb); clear HO_5; clear HB; have HO_5 := n0_; have HO114 := n1_; have HB := n2_; clear n0_ n1_ n2_; (try clear hb); (try clear hb2); (try clear hk); (try clear hi); (try clear ho0); obtain ⟨Ao27, co27, eo27⟩ := Kd.S_slice HO114.out; subst eo27; have p115 : 0 ≤ (0 : Int) := (by omega); have q115 : 0 < (t110.length : Int) := of_decide_eq_true (by first | (with_reducible assumption) | assumption); obtain ⟨ad115, A115_0, c115_0, e115, hx115_0, hl115_0, hi115_0⟩ := at_L2 (Kd.S_reads' HO114.out).2.2 0 p115 q115; cases e115; obtain ⟨ce115, hce115, hMe115, hcc115⟩ := Kd.S_get HO114.out [] 0 p115 (by first | exact q115 | exact of_decide_eq_true (by first | (with_reducible assumption) | assumption) | (have e_ := (Kd.S_reads' HO114.out).1; omega)); obtain ⟨ve115_0, rfl, ge115_0⟩ := hMe115; have hv115_0 := hcc115 0 _ rfl; rw [Nat.add_zero, show ((Kd.slice 5 (Kd.int .u8))).sz = 1 from rfl, Nat.mul_one] at hv115_0; replace hv115_0 := Option.some.inj (hv115_0.symm.trans hx115_0); rw [hv115_0] at ge115_0; have HL115_0 := Aside0.mk (show Kd.R (Kd.int .u8) 5 _ _ _ _ (rd_L2 t110 0) from ge115_0); clear hv115_0 ge115_0; clear hcc115 hce115; have qi115 : (0 < t110.length) = True := eq_true (by omega); (try rw [show ((0 : Int)).toNat = 0 from rfl] at hx115_0); (try rw [Addr.add_zero'] at hx115_0); have HR115_0 := Aside0.mk hi115_0; have HC115_0 := Aside0.mk hl115_0; clear hi115_0 hl115_0; replace p115 := eq_true p115; replace q115 := eq_true q115))
                  go_ret3
                  exact ⟨_, by first | rfl | (simp [errW_none, errW_some] <;> rfl) | (simp [*, errW_none, errW_some] <;> rfl), by (with_reducible repeat (first | apply Kd.R_alloc | apply Kd.R_drewN | apply Kd.R_drew)); exact Kd.R_mono HL115_0.out (fun _ hk => trivial), by repeat (first | (with_reducible first | exact HB.out | apply below_alloc | apply pw_below_drewN | apply below_drew1) | exact HB.out)⟩
                · rw [if_neg c24] at H
                  exact absurd H (by simp)
            · rw [if_neg c19] at H
              have c19b0 : (t112 == 0) = false := beq_eq_false_iff_ne.mpr c19
              have c19b1 : (t112 != 0) = true := bne_iff_ne.mpr c19
              simp only [Option.some.injEq, Prod.mk.injEq] at H
              obtain ⟨rfl, rfl, rfl⟩ := H
              obtain ⟨Ao28, co28, eo28⟩ := Kd.R_slice HO_5.out
              subst eo28
              have p109 : 0 ≤ (0 : Int) := (by omega)
              have q109 : 0 < (t101.length : Int) := of_decide_eq_true (by first | (with_reducible assumption) | assumption)
              obtain ⟨ad109, e109, hx109_0⟩ := Kd.at_string (Kd.R_reads' HO_5.out).2.2 0 p109 q109
              cases e109
              have qi109 : (0 < t101.length) = True := eq_true (by omega)
              (try rw [show ((0 : Int)).toNat = 0 from rfl] at hx109_0)
              (try rw [Addr.add_zero'] at hx109_0)
              replace p109 := eq_true p109
              replace q109 := eq_true q109
              go_wp2_with (first | ((with_reducible refine gate_callee (f := 24) rfl ?_); refine goesL_ (some 42) rfl rfl Tryd.func24 (by kernel_rfl) rfl #[.string (rdOf ByteArray.empty t101 0)] rfl (by (try simp only [List.map_toArray, List.map_cons, List.map_nil]); first | done | rfl | (simp only [List.length_drop, List.length_take]; rfl)) ?_; (with_reducible refine (owner_Labels.calls kj3 (rdOf ByteArray.empty t101 0) t110 t111 t112 _ A18.out).mono ?_); rintro e w29 ⟨v113, rfl, ho0, hb⟩; refine ⟨_, rfl, ?_⟩; have n0_ := Aside0.mk (Kd.R_below (by (with_reducible repeat (first | apply Kd.R_alloc | apply Kd.R_drewN | apply Kd.R_drew)); exact HO_5.out) hb); have n1_ := Aside0.mk (Kd.S_lower ho0 (below_size (by repeat (first | (with_reducible first | exact HB.out | apply below_alloc | apply pw_below_drewN | apply below_drew1) | exact HB.out)))); have n2_ := Aside0.mk (below_step (by repeat (first | (with_reducible first | exact HB.out | apply below_alloc | apply pw_below_drewN | apply below_drew1) | exact HB.out)) hb); clear HO_5; clear HB; have HO_5 := n0_; have HO114 := n1_; have HB := n2_; clear n0_ n1_ n2_; (try clear hb); (try clear hb2); (try clear hk); (try clear hi); (try clear ho0)))
              go_ret3
              exact ⟨_, by first | rfl | (simp [errW_none, errW_some] <;> rfl) | (simp [*, errW_none, errW_some] <;> rfl), by first | exact Kd.R_nil _ _ _ _ _ | exact Kd.N_nil _ _ _ _ _ | exact Kd.V_nil _ _ _ _ _ | exact Kd.Q_nil _ _ _ _ _ | exact Kd.S_nil _ _ _ _ _, by repeat (first | (with_reducible first | exact HB.out | apply below_alloc | apply pw_below_drewN | apply below_drew1) | exact HB.out)⟩
          · rw [if_neg c17] at H
            exact absurd H (by simp)
  · rw [if_neg c3] at H
    have c3b0 : (t102 == 0) = false := beq_eq_false_iff_ne.mpr c3
    have c3b1 : (t102 != 0) = true := bne_iff_ne.mpr c3
    simp only [Option.some.injEq, Prod.mk.injEq] at H
    obtain ⟨rfl, rfl, rfl⟩ := H
    go_enter Tryd.func25, Tryd.ntmps25
    go_wp2_with (first | ((with_reducible refine gate_callee (f := 14) rfl ?_); refine goesL_ (some 11) rfl rfl Tryd.func14 (by kernel_rfl) rfl #[.slice A0 l0.length c0] rfl (by (try simp only [List.map_toArray, List.map_cons, List.map_nil]); first | done | rfl | (simp only [List.length_drop, List.length_take]; rfl)) ?_; (with_reducible refine (token_Split.calls k _ _ l0 t101 t102 _ ?side1 ?side2 A2.out).mono ?_); (case side1 => repeat (first | exact HR0.out | (with_reducible refine Kd.C_alloc ?_ _) | (with_reducible refine Kd.C_drewN ?_ _) | (with_reducible refine Kd.C_drew ?_))); (case side2 => exact HC0.out); rintro e w30 ⟨v103, rfl, ho0, hb⟩; refine ⟨_, rfl, ?_⟩; have n0_ := Aside0.mk (Kd.R_lower ho0 (below_size (by repeat (first | (with_reducible first | exact HB.out | apply below_alloc | apply pw_below_drewN | apply below_drew1) | exact HB.out)))); have n1_ := Aside0.mk (below_step (by repeat (first | (with_reducible first | exact HB.out | apply below_alloc | apply pw_below_drewN | apply below_drew1) | exact HB.out)) hb); clear HB; have HO104 := n0_; have HB := n1_; clear n0_ n1_; (try clear hb); (try clear hb2); (try clear hk); (try clear hi); (try clear ho0)))
    go_ret3
    exact ⟨_, by first | rfl | (simp [errW_none, errW_some] <;> rfl) | (simp [*, errW_none, errW_some] <;> rfl), by first | exact Kd.R_nil _ _ _ _ _ | exact Kd.N_nil _ _ _ _ _ | exact Kd.V_nil _ _ _ _ _ | exact Kd.Q_nil _ _ _ _ _ | exact Kd.S_nil _ _ _ _ _, by repeat (first | (with_reducible first | exact HB.out | apply below_alloc | apply pw_below_drewN | apply below_drew1) | exact HB.out)⟩

end Go.Proofs.YtdnfmilnkoocdaaDoor.Q

-- from Qf53
-- Made by hp.py, a program of this session, with the kit's printer. Not trusted: Lean checks it.
namespace Go.Proofs.YtdnfmilnkoocdaaDoor.Q
open Go.RowKit Go.Proofs.YtdnfmilnkoocdaaDoorW.PrintWords Go.Proofs.YtdnfmilnkoocdaaDoorW.PrintLast Go.Proofs.YtdnfmilnkoocdaaDoorW.PrintMore
attribute [local go_sem] max2_int min2_int max_two min_two max_three min_three max_four min_four   -- for this text's walks alone
set_option linter.unusedVariables false
set_option linter.unusedSimpArgs false

/-! ### paronymref26_Right: function 53 -/
def paronymref26_Right.l0 : Nat → List ByteArray → Int → Int → Option (Bool)
  | 0, _, _, _ => none
  | k + 1, x0, x3, x4 => if x4 < (x0.length : Int) then (if 0 ≤ x4 then (if ((rdOf ByteArray.empty x0 x4).size : Int) < 1 then (some false) else (if ((rdOf ByteArray.empty x0 x4).size : Int) > 63 then (some false) else (paronymref26_Right.l0 k x0 (wrap64 ((wrap64 (x3 + 1)) + ((rdOf ByteArray.empty x0 x4).size : Int))) (wrap64 (x4 + 1))))) else (none)) else (some (decide (x3 ≤ 255)))
def paronymref26_Right.f (k : Nat) (l0 : List ByteArray) : Option (Bool) := paronymref26_Right.l0 k l0 1 0
theorem paronymref26_Right.mono_l : ∀ k, (∀ y0 y1 y2, LeO (paronymref26_Right.l0 k y0 y1 y2) (paronymref26_Right.l0 (k + 1) y0 y1 y2))
  | 0 => fun _ _ _ r h => by simp [paronymref26_Right.l0] at h
  | k + 1 => by
    have ih0 := paronymref26_Right.mono_l k
    · intro y0 y1 y2
      unfold paronymref26_Right.l0
      repeat' first
      | (with_reducible exact ih0 _ _ _)
      | (with_reducible exact LeO.refl _)
      | (with_reducible exact LeO.none _)
      | (with_reducible refine LeO.ite ?_ ?_)
      | (with_reducible refine LeO.bind ?_ (fun _ => ?_))
      | exact ih0 _ _ _
      | exact LeO.none _
      | refine LeO.ite ?_ ?_
      | refine LeO.bind ?_ (fun _ => ?_)
theorem paronymref26_Right.mono : ∀ a0 k, LeO (paronymref26_Right.f k a0) (paronymref26_Right.f (k + 1) a0) := by
  intro a0 k
  have ih0 := paronymref26_Right.mono_l k
  unfold paronymref26_Right.f
  repeat' first
      | (with_reducible exact ih0 _ _ _)
      | (with_reducible exact LeO.refl _)
      | (with_reducible exact LeO.none _)
      | (with_reducible refine LeO.ite ?_ ?_)
      | (with_reducible refine LeO.bind ?_ (fun _ => ?_))
      | exact ih0 _ _ _
      | exact LeO.none _
      | refine LeO.ite ?_ ?_
      | refine LeO.bind ?_ (fun _ => ?_)
set_option maxHeartbeats 8000000 in
set_option maxRecDepth 100000 in
theorem paronymref26_Right.calls (k : Nat) (A0 : Option Addr) (c0 : Nat) (l0 : List ByteArray) (r : Bool) (w : World) (hr0 : Kd.C Kd.string w A0 l0.length l0) (hc0 : l0.length ≤ c0) (h : paronymref26_Right.f k l0 = some r) :
    Calls Tryd.prog 53 #[.slice A0 l0.length c0] w fun e w' => e = .returned (.bool r) ∧ Drawn0 w w' := by
  have HR0 := Aside0.mk hr0
  have HC0 := Aside0.mk hc0
  clear hr0 hc0
  have H : (paronymref26_Right.l0 k l0 1 0) = some r := h
  clear h
  have H' := Aside0.mk H
  clear H
  go_enter Tryd.func53, Tryd.ntmps53
  go_wp2
  go_loopg [3, 4] k (fun kq v3 v4 w' => ∃ (x3_1 : Int) (x4_1 : Int), v3 = .int .i64 x3_1 ∧ v4 = .int .i64 x4_1 ∧ Aside0 (paronymref26_Right.l0 kq l0 x3_1 x4_1 = some r) ∧ Aside0 (kq ≤ k) ∧ Drawn0 w w')
  case atStart => exact ⟨(1), (0), (by first | rfl | (simp; done) | (simp [*]; done)), (by first | rfl | (simp; done) | (simp [*]; done)), H', ⟨Nat.le_refl _⟩, by repeat (first | exact Drawn0.refl _ | apply Drawn0.step)⟩
  case round =>
    clear H'
    obtain ⟨x3_1, x4_1, rfl, rfl, HA, HK1, ⟨m1, rfl⟩⟩ := hrel
    cases gk with
    | zero => exact absurd HA.out (by simp [paronymref26_Right.l0])
    | succ k1 =>
      have H := HA.out
      clear HA
      simp only [paronymref26_Right.l0] at H
      by_cases c2 : x4_1 < (l0.length : Int)
      · rw [if_pos c2] at H
        have c2b0 : decide (x4_1 < (l0.length : Int)) = true := decide_eq_true c2
        clear c2
        by_cases c3 : 0 ≤ x4_1
        · rw [if_pos c3] at H
          have c3b0 : decide (0 ≤ x4_1) = true := decide_eq_true c3
          clear c3
          by_cases c4 : ((rdOf ByteArray.empty l0 x4_1).size : Int) < 1
          · rw [if_pos c4] at H
            have c4b0 : decide (((rdOf ByteArray.empty l0 x4_1).size : Int) < 1) = true := decide_eq_true c4
            have c4b1 : decide ((rdOf ByteArray.empty l0 x4_1).size < 1) = true := decide_eq_true (by omega)
            clear c4
            obtain rfl := Option.some.inj H
            have p101 : 0 ≤ (x4_1 : Int) := of_decide_eq_true (by first | (with_reducible assumption) | assumption)
            have q101 : x4_1 < (l0.length : Int) := of_decide_eq_true (by first | (with_reducible assumption) | assumption)
            obtain ⟨ad101, e101, hx101_0⟩ := Kd.at_string HR0.out x4_1 p101 q101
            cases e101
            replace p101 := eq_true p101
            replace q101 := eq_true q101
            go_wp2
            go_ret
            exact ⟨by first | rfl | (simp; done) | (simp [*]; done), by repeat (first | exact Drawn0.refl _ | apply Drawn0.step)⟩
          · rw [if_neg c4] at H
            have c4b0 : decide (((rdOf ByteArray.empty l0 x4_1).size : Int) < 1) = false := decide_eq_false c4
            have c4b1 : decide ((rdOf ByteArray.empty l0 x4_1).size < 1) = false := decide_eq_false (by omega)
            clear c4
            by_cases c5 : ((rdOf ByteArray.empty l0 x4_1).size : Int) > 63
            · rw [if_pos c5] at H
              have c5b0 : decide (63 < ((rdOf ByteArray.empty l0 x4_1).size : Int)) = true := decide_eq_true c5
              have c5b1 : decide (63 < (rdOf ByteArray.empty l0 x4_1).size) = true := decide_eq_true (by omega)
              clear c5
              obtain rfl := Option.some.inj H
              have p101 : 0 ≤ (x4_1 : Int) := of_decide_eq_true (by first | (with_reducible assumption) | assumption)
              have q101 : x4_1 < (l0.length : Int) := of_decide_eq_true (by first | (with_reducible assumption) | assumption)
              obtain ⟨ad101, e101, hx101_0⟩ := Kd.at_string HR0.out x4_1 p101 q101
              cases e101
              replace p101 := eq_true p101
              replace q101 := eq_true q101
              have p102 : 0 ≤ (x4_1 : Int) := of_decide_eq_true (by first | (with_reducible assumption) | assumption)
              have q102 : x4_1 < (l0.length : Int) := of_decide_eq_true (by first | (with_reducible assumption) | assumption)
              obtain ⟨ad102, e102, hx102_0⟩ := Kd.at_string HR0.out x4_1 p102 q102
              obtain rfl : ad101 = ad102 := (by injection e102)
              replace p102 := eq_true p102
              replace q102 := eq_true q102
              go_wp2
              go_ret
              exact ⟨by first | rfl | (simp; done) | (simp [*]; done), by repeat (first | exact Drawn0.refl _ | apply Drawn0.step)⟩
            · rw [if_neg c5] at H
              have c5b0 : decide (63 < ((rdOf ByteArray.empty l0 x4_1).size : Int)) = false := decide_eq_false c5
              have c5b1 : decide (63 < (rdOf ByteArray.empty l0 x4_1).size) = false := decide_eq_false (by omega)
              clear c5
              have H' := Aside0.mk H
              clear H
              have p101 : 0 ≤ (x4_1 : Int) := of_decide_eq_true (by first | (with_reducible assumption) | assumption)
              have q101 : x4_1 < (l0.length : Int) := of_decide_eq_true (by first | (with_reducible assumption) | assumption)
              obtain ⟨ad101, e101, hx101_0⟩ := Kd.at_string HR0.out x4_1 p101 q101
              cases e101
              replace p101 := eq_true p101
              replace q101 := eq_true q101
              have p102 : 0 ≤ (x4_1 : Int) := of_decide_eq_true (by first | (with_reducible assumption) | assumption)
              have q102 : x4_1 < (l0.length : Int) := of_decide_eq_true (by first | (with_reducible assumption) | assumption)
              obtain ⟨ad102, e102, hx102_0⟩ := Kd.at_string HR0.out x4_1 p102 q102
              obtain rfl : ad101 = ad102 := (by injection e102)
              replace p102 := eq_true p102
              replace q102 := eq_true q102
              have p103 : 0 ≤ (x4_1 : Int) := of_decide_eq_true (by first | (with_reducible assumption) | assumption)
              have q103 : x4_1 < (l0.length : Int) := of_decide_eq_true (by first | (with_reducible assumption) | assumption)
              obtain ⟨ad103, e103, hx103_0⟩ := Kd.at_string HR0.out x4_1 p103 q103
              obtain rfl : ad101 = ad103 := (by injection e103)
              replace p103 := eq_true p103
              replace q103 := eq_true q103
              go_wp2
              go_roundg k1
              case measure => have := HK1.out; omega
              case rel => exact ⟨(wrap64 ((wrap64 (x3_1 + 1)) + ((rdOf ByteArray.empty l0 x4_1).size : Int))), (wrap64 (x4_1 + 1)), (by first | rfl | (simp; done) | (simp [*]; done)), (by first | rfl | (simp; done) | (simp [*]; done)), H', ⟨by have := HK1.out; omega⟩, by repeat (first | exact Drawn0.refl _ | apply Drawn0.step)⟩
        · rw [if_neg c3] at H
          exact absurd H (by simp)
      · rw [if_neg c2] at H
        have c2b0 : decide (x4_1 < (l0.length : Int)) = false := decide_eq_false c2
        clear c2
        obtain rfl := Option.some.inj H
        go_wp2
        go_ret
        exact ⟨by first | rfl | (simp; done) | (simp [*]; done), by repeat (first | exact Drawn0.refl _ | apply Drawn0.step)⟩

end Go.Proofs.YtdnfmilnkoocdaaDoor.Q

-- from Qf22
-- Made by hp.py, a program of this session, with the kit's printer. Not trusted: Lean checks it.
namespace Go.Proofs.YtdnfmilnkoocdaaDoor.Q
open Go.RowKit Go.Proofs.YtdnfmilnkoocdaaDoorW.PrintWords Go.Proofs.YtdnfmilnkoocdaaDoorW.PrintLast Go.Proofs.YtdnfmilnkoocdaaDoorW.PrintMore
attribute [local go_sem] max2_int min2_int max_two min_two max_three min_three max_four min_four   -- for this text's walks alone
set_option linter.unusedVariables false
set_option linter.unusedSimpArgs false

/-! ### paronymref26_Name: function 22 -/
def paronymref26_Name.l0 : Nat → List ByteArray → ByteArray → Int → Option (ByteArray × Int)
  | 0, _, _, _ => none
  | k + 1, x0, x4, x5 => if x5 < (x0.length : Int) then (if 0 ≤ x5 then ((paronymref25_Escaped.f k (rdOf ByteArray.empty x0 x5)).bind fun t103 => (if x4.size + t103.size ≤ 9223372036854775807 then (if (x4 ++ t103).size + 1 ≤ 9223372036854775807 then (paronymref26_Name.l0 k x0 ((x4 ++ t103) ++ (⟨#[46]⟩ : ByteArray)) (wrap64 (x5 + 1))) else (none)) else (none))) else (none)) else (some (x4, 0))
def paronymref26_Name.f (k : Nat) (l0 : List ByteArray) : Option (ByteArray × Int) := (paronymref26_Right.f k l0).bind fun t101 => (if t101 = true then (if (l0.length : Int) = 0 then (some ((⟨#[46]⟩ : ByteArray), 0)) else (paronymref26_Name.l0 k l0 (⟨#[]⟩ : ByteArray) 0)) else (some ((⟨#[]⟩ : ByteArray), 62)))
theorem paronymref26_Name.mono_l : ∀ k, (∀ y0 y1 y2, LeO (paronymref26_Name.l0 k y0 y1 y2) (paronymref26_Name.l0 (k + 1) y0 y1 y2))
  | 0 => fun _ _ _ r h => by simp [paronymref26_Name.l0] at h
  | k + 1 => by
    have ih0 := paronymref26_Name.mono_l k
    · intro y0 y1 y2
      unfold paronymref26_Name.l0
      repeat' first
      | (with_reducible exact ih0 _ _ _)
      | (with_reducible exact paronymref25_Escaped.mono _ _)
      | (with_reducible exact paronymref26_Right.mono _ _)
      | (with_reducible exact LeO.refl _)
      | (with_reducible exact LeO.none _)
      | (with_reducible refine LeO.ite ?_ ?_)
      | (with_reducible refine LeO.bind ?_ (fun _ => ?_))
      | exact ih0 _ _ _
      | exact paronymref25_Escaped.mono _ _
      | exact paronymref26_Right.mono _ _
      | exact LeO.none _
      | refine LeO.ite ?_ ?_
      | refine LeO.bind ?_ (fun _ => ?_)
theorem paronymref26_Name.mono : ∀ a0 k, LeO (paronymref26_Name.f k a0) (paronymref26_Name.f (k + 1) a0) := by
  intro a0 k
  have ih0 := paronymref26_Name.mono_l k
  unfold paronymref26_Name.f
  repeat' first
      | (with_reducible exact ih0 _ _ _)
      | (with_reducible exact paronymref25_Escaped.mono _ _)
      | (with_reducible exact paronymref26_Right.mono _ _)
      | (with_reducible exact LeO.refl _)
      | (with_reducible exact LeO.none _)
      | (with_reducible refine LeO.ite ?_ ?_)
      | (with_reducible refine LeO.bind ?_ (fun _ => ?_))
      | exact ih0 _ _ _
      | exact paronymref25_Escaped.mono _ _
      | exact paronymref26_Right.mono _ _
      | exact LeO.none _
      | refine LeO.ite ?_ ?_
      | refine LeO.bind ?_ (fun _ => ?_)
set_option maxHeartbeats 8000000 in
set_option maxRecDepth 100000 in
theorem paronymref26_Name.calls (k : Nat) (A0 : Option Addr) (c0 : Nat) (l0 : List ByteArray) (r1 : ByteArray) (r2 : Int) (w : World) (hr0 : Kd.C Kd.string w A0 l0.length l0) (hc0 : l0.length ≤ c0) (h : paronymref26_Name.f k l0 = some (r1, r2)) :
    Calls Tryd.prog 22 #[.slice A0 l0.length c0] w fun e w' => e = .returned (.tuple #[.string r1, .int .i64 r2]) ∧ Below w.heap.size w w' := by
  have HR0 := Aside0.mk hr0
  have HC0 := Aside0.mk hc0
  clear hr0 hc0
  have HB := Aside0.mk (Below.refl w.heap.size w)
  have H : ((paronymref26_Right.f k l0).bind fun t101 => (if t101 = true then (if (l0.length : Int) = 0 then (some ((⟨#[46]⟩ : ByteArray), 0)) else (paronymref26_Name.l0 k l0 (⟨#[]⟩ : ByteArray) 0)) else (some ((⟨#[]⟩ : ByteArray), 62)))) = some (r1, r2) := h
  clear h
  replace H := Option.bind_eq_some_iff.mp H
  obtain ⟨t101, A20, H⟩ := H
  replace H : (if t101 = true then (if (l0.length : Int) = 0 then (some ((⟨#[46]⟩ : ByteArray), 0)) else (paronymref26_Name.l0 k l0 (⟨#[]⟩ : ByteArray) 0)) else (some ((⟨#[]⟩ : ByteArray), 62))) = some (r1, r2) := H
  have A2 := Aside0.mk A20
  clear A20
  by_cases c3 : t101 = true
  · subst c3
    have H1 : (if (l0.length : Int) = 0 then (some ((⟨#[46]⟩ : ByteArray), 0)) else (paronymref26_Name.l0 k l0 (⟨#[]⟩ : ByteArray) 0)) = some (r1, r2) := by rw [if_pos rfl] at H; exact H
    clear H
    have H := H1
    clear H1
    by_cases c4 : (l0.length : Int) = 0
    · rw [if_pos c4] at H
      have c4b0 : ((l0.length : Int) == 0) = true := beq_iff_eq.mpr c4
      have c4b1 : ((l0.length : Int) != 0) = false := bne_eq_false_iff_eq.mpr c4
      clear c4
      simp only [Option.some.injEq, Prod.mk.injEq] at H
      obtain ⟨rfl, rfl⟩ := H
      go_enter Tryd.func22, Tryd.ntmps22
      go_wp2_with (first | ((with_reducible refine gate_callee (f := 53) rfl ?_); refine goesL_ (some 7) rfl rfl Tryd.func53 (by kernel_rfl) rfl #[.slice A0 l0.length c0] rfl (by (try simp only [List.map_toArray, List.map_cons, List.map_nil]); first | done | rfl | (simp only [List.length_drop, List.length_take]; rfl)) ?_; (with_reducible refine (paronymref26_Right.calls k _ _ l0 true _ ?side1 ?side2 A2.out).mono ?_); (case side1 => repeat (first | exact HR0.out | (with_reducible refine Kd.C_alloc ?_ _) | (with_reducible refine Kd.C_drewN ?_ _) | (with_reducible refine Kd.C_drew ?_))); (case side2 => exact HC0.out); rintro e w' ⟨rfl, ⟨nd, rfl⟩⟩; refine ⟨_, rfl, ?_⟩))
      go_ret2
      exact ⟨by first | rfl | (simp [errW_none, errW_some] <;> rfl) | (simp [*, errW_none, errW_some] <;> rfl), by repeat (first | (with_reducible first | exact HB.out | apply below_alloc | apply pw_below_drewN | apply below_drew1) | exact HB.out)⟩
    · rw [if_neg c4] at H
      have c4b0 : ((l0.length : Int) == 0) = false := beq_eq_false_iff_ne.mpr c4
      have c4b1 : ((l0.length : Int) != 0) = true := bne_iff_ne.mpr c4
      have c4b2 : ¬ (l0 = []) := fun h_ => c4 (by rw [h_]; rfl)
      have H' := Aside0.mk H
      clear H
      go_enter Tryd.func22, Tryd.ntmps22
      go_wp2_with (first | ((with_reducible refine gate_callee (f := 53) rfl ?_); refine goesL_ (some 7) rfl rfl Tryd.func53 (by kernel_rfl) rfl #[.slice A0 l0.length c0] rfl (by (try simp only [List.map_toArray, List.map_cons, List.map_nil]); first | done | rfl | (simp only [List.length_drop, List.length_take]; rfl)) ?_; (with_reducible refine (paronymref26_Right.calls k _ _ l0 true _ ?side1 ?side2 A2.out).mono ?_); (case side1 => repeat (first | exact HR0.out | (with_reducible refine Kd.C_alloc ?_ _) | (with_reducible refine Kd.C_drewN ?_ _) | (with_reducible refine Kd.C_drew ?_))); (case side2 => exact HC0.out); rintro e w' ⟨rfl, ⟨nd, rfl⟩⟩; refine ⟨_, rfl, ?_⟩))
      go_loopg [4, 5] k (fun kq v4 v5 w' => ∃ (x4_1 : ByteArray) (x5_1 : Int), v4 = .string x4_1 ∧ v5 = .int .i64 x5_1 ∧ Aside0 (paronymref26_Name.l0 kq l0 x4_1 x5_1 = some (r1, r2)) ∧ Aside0 (kq ≤ k) ∧ Aside0 (Below w.heap.size w w'))
      case atStart => exact ⟨((⟨#[]⟩ : ByteArray)), (0), (by first | rfl | (simp; done) | (simp [*]; done)), (by first | rfl | (simp; done) | (simp [*]; done)), H', ⟨Nat.le_refl _⟩, ⟨by repeat (first | (with_reducible first | exact HB.out | apply below_alloc | apply pw_below_drewN | apply below_drew1) | exact HB.out)⟩⟩
      case round =>
        clear H'
        try clear c2
        try clear p2
        try clear c3
        try clear c4
        try clear c4b0
        try clear c4b1
        try clear c4b2
        obtain ⟨x4_1, x5_1, rfl, rfl, HA, HK1, HB⟩ := hrel
        cases gk with
        | zero => exact absurd HA.out (by simp [paronymref26_Name.l0])
        | succ k1 =>
          have H := HA.out
          clear HA
          simp only [paronymref26_Name.l0] at H
          by_cases c5 : x5_1 < (l0.length : Int)
          · rw [if_pos c5] at H
            have c5b0 : decide (x5_1 < (l0.length : Int)) = true := decide_eq_true c5
            clear c5
            by_cases c6 : 0 ≤ x5_1
            · rw [if_pos c6] at H
              have c6b0 : decide (0 ≤ x5_1) = true := decide_eq_true c6
              clear c6
              replace H := Option.bind_eq_some_iff.mp H
              obtain ⟨t103, A70, H⟩ := H
              replace H : (if x4_1.size + t103.size ≤ 9223372036854775807 then (if (x4_1 ++ t103).size + 1 ≤ 9223372036854775807 then (paronymref26_Name.l0 k1 l0 ((x4_1 ++ t103) ++ (⟨#[46]⟩ : ByteArray)) (wrap64 (x5_1 + 1))) else (none)) else (none)) = some (r1, r2) := H
              have A7 := Aside0.mk A70
              clear A70
              by_cases c8 : x4_1.size + t103.size ≤ 9223372036854775807
              · rw [if_pos c8] at H
                have c8b0 := eq_true c8
                have c8b1 : decide (x4_1.size + t103.size ≤ 9223372036854775807) = true := decide_eq_true c8
                try have c8b2 : (9223372036854775807 < x4_1.size + t103.size) = False := eq_false (Nat.not_lt.2 c8)
                by_cases c9 : (x4_1 ++ t103).size + 1 ≤ 9223372036854775807
                · rw [if_pos c9] at H
                  have c9b0 := eq_true c9
                  have c9b1 : decide ((x4_1 ++ t103).size + 1 ≤ 9223372036854775807) = true := decide_eq_true c9
                  try have c9b2 : (9223372036854775807 < (x4_1 ++ t103).size + 1) = False := eq_false (Nat.not_lt.2 c9)
                  try have c9b3 : (9223372036854775807 < x4_1.size + t103.size + 1) = False := by simpa [ByteArray.size_append] using c9b2
                  have H' := Aside0.mk H
                  clear H
                  have p102 : 0 ≤ (x5_1 : Int) := of_decide_eq_true (by first | (with_reducible assumption) | assumption)
                  have q102 : x5_1 < (l0.length : Int) := of_decide_eq_true (by first | (with_reducible assumption) | assumption)
                  obtain ⟨ad102, e102, hx102_0⟩ := Kd.at_string HR0.out x5_1 p102 q102
                  cases e102
                  replace hx102_0 := (HB.out.cell (World.block_lt_of_cell? w _ hx102_0)).trans hx102_0
                  replace p102 := eq_true p102
                  replace q102 := eq_true q102
                  go_wp2_with (first | ((with_reducible refine gate_callee (f := 18) rfl ?_); refine goesL_ (some 23) rfl rfl Tryd.func18 (by kernel_rfl) rfl #[.string (rdOf ByteArray.empty l0 x5_1)] rfl (by (try simp only [List.map_toArray, List.map_cons, List.map_nil]); first | done | rfl | (simp only [List.length_drop, List.length_take]; rfl)) ?_; (with_reducible refine (paronymref25_Escaped.calls k1 (rdOf ByteArray.empty l0 x5_1) t103 _ A7.out).mono ?_); rintro e w10 ⟨rfl, hb⟩; refine ⟨_, rfl, ?_⟩; have n0_ := Aside0.mk (below_step (by repeat (first | (with_reducible first | exact HB.out | apply below_alloc | apply pw_below_drewN | apply below_drew1) | exact HB.out)) hb); clear HB; have HB := n0_; clear n0_; (try clear hb); (try clear hb2); (try clear hk); (try clear hi)))
                  go_roundg k1
                  case measure => have := HK1.out; omega
                  case rel => exact ⟨((x4_1 ++ t103) ++ (⟨#[46]⟩ : ByteArray)), (wrap64 (x5_1 + 1)), (by first | rfl | (simp; done) | (simp [*]; done)), (by first | rfl | (simp; done) | (simp [*]; done)), H', ⟨by have := HK1.out; omega⟩, ⟨by repeat (first | (with_reducible first | exact HB.out | apply below_alloc | apply pw_below_drewN | apply below_drew1) | exact HB.out)⟩⟩
                · rw [if_neg c9] at H
                  exact absurd H (by simp)
              · rw [if_neg c8] at H
                exact absurd H (by simp)
            · rw [if_neg c6] at H
              exact absurd H (by simp)
          · rw [if_neg c5] at H
            have c5b0 : decide (x5_1 < (l0.length : Int)) = false := decide_eq_false c5
            clear c5
            simp only [Option.some.injEq, Prod.mk.injEq] at H
            obtain ⟨rfl, rfl⟩ := H
            go_wp2
            go_ret2
            exact ⟨by first | rfl | (simp [errW_none, errW_some] <;> rfl) | (simp [*, errW_none, errW_some] <;> rfl), by repeat (first | (with_reducible first | exact HB.out | apply below_alloc | apply pw_below_drewN | apply below_drew1) | exact HB.out)⟩
  · replace c3 := Bool.eq_false_iff.mpr c3
    subst c3
    have H1 : (some ((⟨#[]⟩ : ByteArray), 62)) = some (r1, r2) := by rw [if_neg (show ¬ (false = true) by decide)] at H; exact H
    clear H
    have H := H1
    clear H1
    simp only [Option.some.injEq, Prod.mk.injEq] at H
    obtain ⟨rfl, rfl⟩ := H
    go_enter Tryd.func22, Tryd.ntmps22
    go_wp2_with (first | ((with_reducible refine gate_callee (f := 53) rfl ?_); refine goesL_ (some 7) rfl rfl Tryd.func53 (by kernel_rfl) rfl #[.slice A0 l0.length c0] rfl (by (try simp only [List.map_toArray, List.map_cons, List.map_nil]); first | done | rfl | (simp only [List.length_drop, List.length_take]; rfl)) ?_; (with_reducible refine (paronymref26_Right.calls k _ _ l0 false _ ?side1 ?side2 A2.out).mono ?_); (case side1 => repeat (first | exact HR0.out | (with_reducible refine Kd.C_alloc ?_ _) | (with_reducible refine Kd.C_drewN ?_ _) | (with_reducible refine Kd.C_drew ?_))); (case side2 => exact HC0.out); rintro e w' ⟨rfl, ⟨nd, rfl⟩⟩; refine ⟨_, rfl, ?_⟩))
    go_ret2
    exact ⟨by first | rfl | (simp [errW_none, errW_some] <;> rfl) | (simp [*, errW_none, errW_some] <;> rfl), by repeat (first | (with_reducible first | exact HB.out | apply below_alloc | apply pw_below_drewN | apply below_drew1) | exact HB.out)⟩

end Go.Proofs.YtdnfmilnkoocdaaDoor.Q

-- from Qf23
-- Made by hp.py, a program of this session, with the kit's printer. Not trusted: Lean checks it.
namespace Go.Proofs.YtdnfmilnkoocdaaDoor.Q
open Go.RowKit Go.Proofs.YtdnfmilnkoocdaaDoorW.PrintWords Go.Proofs.YtdnfmilnkoocdaaDoorW.PrintLast Go.Proofs.YtdnfmilnkoocdaaDoorW.PrintMore
attribute [local go_sem] max2_int min2_int max_two min_two max_three min_three max_four min_four   -- for this text's walks alone
set_option linter.unusedVariables false
set_option linter.unusedSimpArgs false

/-! ### paronymref26_Texts: function 23 -/
def paronymref26_Texts.l0 : Nat → List (List Int) → List ByteArray → Int → Option (List ByteArray)
  | 0, _, _, _ => none
  | k + 1, x0, x3, x4 => if x4 < (x0.length : Int) then (if 0 ≤ x4 then (if x3.length < 8796093022208 then (paronymref26_Texts.l0 k x0 (x3 ++ [strOfNums (rd_L2 x0 x4)]) (wrap64 (x4 + 1))) else (none)) else (none)) else (some x3)
def paronymref26_Texts.f (k : Nat) (l0 : List (List Int)) : Option (List ByteArray) := paronymref26_Texts.l0 k l0 ([] : List ByteArray) 0
theorem paronymref26_Texts.mono_l : ∀ k, (∀ y0 y1 y2, LeO (paronymref26_Texts.l0 k y0 y1 y2) (paronymref26_Texts.l0 (k + 1) y0 y1 y2))
  | 0 => fun _ _ _ r h => by simp [paronymref26_Texts.l0] at h
  | k + 1 => by
    have ih0 := paronymref26_Texts.mono_l k
    · intro y0 y1 y2
      unfold paronymref26_Texts.l0
      repeat' first
      | (with_reducible exact ih0 _ _ _)
      | (with_reducible exact LeO.refl _)
      | (with_reducible exact LeO.none _)
      | (with_reducible refine LeO.ite ?_ ?_)
      | (with_reducible refine LeO.bind ?_ (fun _ => ?_))
      | exact ih0 _ _ _
      | exact LeO.none _
      | refine LeO.ite ?_ ?_
      | refine LeO.bind ?_ (fun _ => ?_)
theorem paronymref26_Texts.mono : ∀ a0 k, LeO (paronymref26_Texts.f k a0) (paronymref26_Texts.f (k + 1) a0) := by
  intro a0 k
  have ih0 := paronymref26_Texts.mono_l k
  unfold paronymref26_Texts.f
  repeat' first
      | (with_reducible exact ih0 _ _ _)
      | (with_reducible exact LeO.refl _)
      | (with_reducible exact LeO.none _)
      | (with_reducible refine LeO.ite ?_ ?_)
      | (with_reducible refine LeO.bind ?_ (fun _ => ?_))
      | exact ih0 _ _ _
      | exact LeO.none _
      | refine LeO.ite ?_ ?_
      | refine LeO.bind ?_ (fun _ => ?_)
set_option maxHeartbeats 8000000 in
set_option maxRecDepth 100000 in
theorem paronymref26_Texts.calls (k : Nat) (A0 : Option Addr) (c0 : Nat) (l0 : List (List Int)) (r : List ByteArray) (w : World) (hr0 : Kd.C (Kd.slice 5 (Kd.int .u8)) w A0 l0.length l0) (hc0 : l0.length ≤ c0) (h : paronymref26_Texts.f k l0 = some r) :
    Calls Tryd.prog 23 #[.slice A0 l0.length c0] w fun e w' => ∃ v0_ : Value, e = .returned (v0_) ∧ Kd.R Kd.string 9 w' w.heap.size (fun _ => True) v0_ r ∧ Below w.heap.size w w' := by
  have HR0 := Aside0.mk hr0
  have HC0 := Aside0.mk hc0
  clear hr0 hc0
  have HB := Aside0.mk (Below.refl w.heap.size w)
  have H : (paronymref26_Texts.l0 k l0 ([] : List ByteArray) 0) = some r := h
  clear h
  have H' := Aside0.mk H
  clear H
  go_enter Tryd.func23, Tryd.ntmps23
  go_wp2
  go_loopg [3, 4] k (fun kq v3 v4 w' => ∃ (x3_1 : List ByteArray) (x4_1 : Int), v4 = .int .i64 x4_1 ∧ Aside0 (paronymref26_Texts.l0 kq l0 x3_1 x4_1 = some r) ∧ Aside0 (kq ≤ k) ∧ Aside0 (Kd.R Kd.string 9 w' w.heap.size (fun _ => True) v3 x3_1) ∧ Aside0 (Below w.heap.size w w'))
  case atStart => exact ⟨(([] : List ByteArray)), (0), (by first | rfl | (simp; done) | (simp [*]; done)), H', ⟨Nat.le_refl _⟩, ⟨by first | exact Kd.R_nil _ _ _ _ _ | exact Kd.N_nil _ _ _ _ _ | exact Kd.V_nil _ _ _ _ _ | exact Kd.Q_nil _ _ _ _ _ | exact Kd.S_nil _ _ _ _ _⟩, ⟨by repeat (first | (with_reducible first | exact HB.out | apply below_alloc | apply pw_below_drewN | apply below_drew1) | exact HB.out)⟩⟩
  case round =>
    clear H'
    obtain ⟨x3_1, x4_1, rfl, HA, HK1, HO_3, HB⟩ := hrel
    cases gk with
    | zero => exact absurd HA.out (by simp [paronymref26_Texts.l0])
    | succ k1 =>
      have H := HA.out
      clear HA
      simp only [paronymref26_Texts.l0] at H
      by_cases c2 : x4_1 < (l0.length : Int)
      · rw [if_pos c2] at H
        have c2b0 : decide (x4_1 < (l0.length : Int)) = true := decide_eq_true c2
        clear c2
        by_cases c3 : 0 ≤ x4_1
        · rw [if_pos c3] at H
          have c3b0 : decide (0 ≤ x4_1) = true := decide_eq_true c3
          clear c3
          by_cases c4 : x3_1.length < 8796093022208
          · rw [if_pos c4] at H
            have LMc4 := Aside0.mk c4
            clear c4
            obtain ⟨y102, hy102⟩ : ∃ y_ : List ByteArray, y_ = (x3_1 ++ [strOfNums (rd_L2 l0 x4_1)]) := ⟨_, rfl⟩
            replace H : (paronymref26_Texts.l0 k1 l0 y102 (wrap64 (x4_1 + 1))) = some r := by first | (rw [hy102]; with_reducible exact H) | (have H2_ := (Option.bind_some _ _).symm.trans H; rw [hy102]; with_reducible exact H2_) | (have H2_ := (Option.bind_some _ _).symm.trans H; with_reducible exact H2_) | with_reducible exact H | (rw [hy102]; exact H) | exact H
            have Ny102 := Aside0.mk hy102
            clear hy102
            have H' := Aside0.mk H
            clear H
            have p101 : 0 ≤ (x4_1 : Int) := of_decide_eq_true (by first | (with_reducible assumption) | assumption)
            have q101 : x4_1 < (l0.length : Int) := of_decide_eq_true (by first | (with_reducible assumption) | assumption)
            obtain ⟨ad101, A101_0, c101_0, e101, hx101_0, hl101_0, hi101_0⟩ := at_L2 HR0.out x4_1 p101 q101
            cases e101
            replace hx101_0 := (HB.out.cell (World.block_lt_of_cell? w _ hx101_0)).trans hx101_0
            have HR101_0 := Aside0.mk hi101_0
            have HC101_0 := Aside0.mk hl101_0
            clear hi101_0 hl101_0
            replace p101 := eq_true p101
            replace q101 := eq_true q101
            have hcv5 := Kd.C_string (P := Tryd.prog) (A := A101_0) (c := c101_0) Tryd.underlying22 Tryd.underlying5 Tryd.underlying9 (Kd.C_below HR101_0.out HB.out)
            go_wp2_with (first | ((with_reducible refine gate_builtin (b := .append) (xs := #[.tmp 11, .tmp 17]) rfl ?_); at_builtin; refine Kd.R_append Kd.string (w0 := w) w.heap.size rfl (.tmp 11) (.tmp 17) 24 9 (.string ⟨#[]⟩) 16 rfl Tryd.underlying24 info9 rfl (by decide) (by omega) u3 x3_1 (strOfNums (rd_L2 l0 x4_1)) [.string (strOfNums (rd_L2 l0 x4_1))] (fun _ => True) (fun _ => False) rfl rfl ?aP (fun _ hk => hk.elim) ?aF ?aO ?aB ?aS ?aL ?_; (case aP => exact rfl); (case aB => exact (by repeat (first | (with_reducible first | exact HB.out | apply below_alloc | apply pw_below_drewN | apply below_drew1) | exact HB.out))); (case aF => exact (fun _ _ => trivial)); (case aO => exact (by (with_reducible repeat (first | apply Kd.R_alloc | apply Kd.R_drewN | apply Kd.R_drew)); exact HO_3.out)); (case aS => exact (below_size (by repeat (first | (with_reducible first | exact HB.out | apply below_alloc | apply pw_below_drewN | apply below_drew1) | exact HB.out)))); (case aL => have := LMc4.out; omega); intro v103 w6 ho hb hg hat; rw [← Ny102.out] at ho; have n0_ := Aside0.mk (hb); have n1_ := Aside0.mk (ho); clear HB; clear HO_3; have HB := n0_; have HO104 := n1_; clear n0_ n1_; clear ho hb hg hat))
            go_roundg k1
            case measure => have := HK1.out; omega
            case rel => exact ⟨(y102), (wrap64 (x4_1 + 1)), (by first | rfl | (simp; done) | (simp [*]; done)), H', ⟨by have := HK1.out; omega⟩, ⟨by (with_reducible repeat (first | apply Kd.R_alloc | apply Kd.R_drewN | apply Kd.R_drew)); exact HO104.out⟩, ⟨by repeat (first | (with_reducible first | exact HB.out | apply below_alloc | apply pw_below_drewN | apply below_drew1) | exact HB.out)⟩⟩
          · rw [if_neg c4] at H
            exact absurd H (by simp)
        · rw [if_neg c3] at H
          exact absurd H (by simp)
      · rw [if_neg c2] at H
        have c2b0 : decide (x4_1 < (l0.length : Int)) = false := decide_eq_false c2
        clear c2
        obtain rfl := Option.some.inj H
        go_wp2
        go_ret
        exact ⟨_, by first | rfl | (simp [errW_none, errW_some] <;> rfl) | (simp [*, errW_none, errW_some] <;> rfl), by (with_reducible repeat (first | apply Kd.R_alloc | apply Kd.R_drewN | apply Kd.R_drew)); exact HO_3.out, by repeat (first | (with_reducible first | exact HB.out | apply below_alloc | apply pw_below_drewN | apply below_drew1) | exact HB.out)⟩

end Go.Proofs.YtdnfmilnkoocdaaDoor.Q

-- from Pown
/- A name's labels: what the program and the document tell, from a round on. -/
namespace Go.Proofs.YtdnfmilnkoocdaaDoor.K
set_option linter.unusedVariables false
set_option linter.unusedSimpArgs false
open Go.RowKit Go.Proofs.YtdnfmilnkoocdaaDoor.Q Go.Proofs.YtdnfmilnkoocdaaDoorW.PrintWords Go.Proofs.YtdnfmilnkoocdaaDoorW.PrintLast

theorem rdL2_nat (X : List (List Int)) (i : Nat) (h : i < X.length) : rd_L2 X (i : Int) = X[i] := by
  unfold rd_L2
  rw [Int.toNat_natCast, List.getD_eq_getElem?_getD, List.getElem?_eq_getElem h]
  rfl
theorem rdOf_nat (X : List ByteArray) (i : Nat) (h : i < X.length) : rdOf ByteArray.empty X (i : Int) = X[i] := by
  unfold rdOf
  rw [Int.toNat_natCast, List.getD_eq_getElem?_getD, List.getElem?_eq_getElem h]
  rfl
theorem dropL2 (X : List (List Int)) (i : Nat) (h : i < X.length) : X.drop i = rd_L2 X (i : Int) :: X.drop (i + 1) := by
  rw [rdL2_nat X i h, List.drop_eq_getElem_cons h]
theorem rdL2_mem (X : List (List Int)) (i : Nat) (h : i < X.length) : rd_L2 X (i : Int) ∈ X := by rw [rdL2_nat X i h]; exact List.getElem_mem h
theorem rdOf_map (X : List (List Int)) (f : List Int → ByteArray) (i : Nat) (h : i < X.length) : rdOf ByteArray.empty (X.map f) (i : Int) = f (rd_L2 X (i : Int)) := by
  rw [rdOf_nat _ i (by rw [List.length_map]; exact h), rdL2_nat X i h, List.getElem_map]

/-! are labels a right name's? -/
def rl : Int → List (List Int) → Bool
  | s, [] => decide (s ≤ 255)
  | s, l :: ls => if l.length < 1 then false else if l.length > 63 then false else rl (s + ((l.length : Int) + 1)) ls
theorem rl_each : ∀ (ls : List (List Int)) (s : Int), rl s ls = true → (∀ l ∈ ls, 1 ≤ l.length ∧ l.length ≤ 63) ∧ s + 2 * (ls.length : Int) ≤ 255
  | [], s, h => ⟨fun _ hl => (by cases hl), by have := of_decide_eq_true h; simp; omega⟩
  | l :: ls, s, h => by
    unfold rl at h
    split at h
    · cases h
    split at h
    · cases h
    obtain ⟨h1, h2⟩ := rl_each ls _ h
    refine ⟨fun x hx => ?_, by rw [List.length_cons]; omega⟩
    rcases List.mem_cons.1 hx with e | e
    · rw [e]; omega
    · exact h1 x e
theorem right_loop {ls : List (List Int)} (hn : ls.length ≤ 1000) (hl : ∀ l ∈ ls, l.length ≤ 1000) : ∀ (d i : Nat) (s : Int), ls.length - i = d → i ≤ ls.length → 0 ≤ s → s ≤ 1 + 64 * (i : Int) → Ev (fun k => owner_right.l0 k s ls (ls.length : Int) (i : Int)) (rl s (ls.drop i)) := by
  intro d
  induction d with
  | zero =>
    intro i s h1 h2 h3 h4
    rw [List.drop_of_length_le (by omega)]
    exact Ev.step (fun k => rfl) (Ev.neg (by omega) (Ev.now _))
  | succ d ih =>
    intro i s h1 h2 h3 h4
    have hi : i < ls.length := by omega
    have hx := hl _ (rdL2_mem ls i hi)
    rw [dropL2 ls i hi, rl]
    refine Ev.step (fun k => rfl) (Ev.pos (by omega) (Ev.pos (by omega) (Ev.pos (by omega) ?_)))
    generalize rd_L2 ls (i : Int) = l at *
    by_cases c1 : l.length < 1
    · rw [if_pos c1]; exact Ev.pos (by omega) (Ev.now _)
    rw [if_neg c1]
    refine Ev.neg (by omega) ?_
    by_cases c2 : l.length > 63
    · rw [if_pos c2]; exact Ev.pos (by omega) (Ev.now _)
    rw [if_neg c2]
    refine Ev.neg (by omega) ?_
    rw [w64 (n := (l.length : Int) + 1) (by omega) (by omega), w64 (n := s + ((l.length : Int) + 1)) (by omega) (by omega), w64 (n := (i : Int) + 1) (by omega) (by omega)]
    exact ih (i + 1) _ (by omega) (by omega) (by omega) (by omega)
theorem right_ev {ls : List (List Int)} (hn : ls.length ≤ 1000) (hl : ∀ l ∈ ls, l.length ≤ 1000) : Ev (fun k => owner_right.f k ls) (rl 1 ls) := right_loop hn hl _ 0 1 rfl (Nat.zero_le _) (by omega) (by omega)
theorem refRight_loop {ls : List (List Int)} (hn : ls.length ≤ 1000) (hl : ∀ l ∈ ls, l.length ≤ 1000) : ∀ (d i : Nat) (s : Int), ls.length - i = d → i ≤ ls.length → 0 ≤ s → s ≤ 1 + 64 * (i : Int) → Ev (fun k => paronymref26_Right.l0 k (ls.map strOfNums) s (i : Int)) (rl s (ls.drop i)) := by
  intro d
  induction d with
  | zero =>
    intro i s h1 h2 h3 h4
    rw [List.drop_of_length_le (by omega)]
    exact Ev.step (fun k => rfl) (Ev.neg (by rw [List.length_map]; omega) (Ev.now _))
  | succ d ih =>
    intro i s h1 h2 h3 h4
    have hi : i < ls.length := by omega
    have hx := hl _ (rdL2_mem ls i hi)
    rw [dropL2 ls i hi, rl]
    refine Ev.step (fun k => rfl) (Ev.pos (by rw [List.length_map]; omega) (Ev.pos (by omega) ?_))
    rw [rdOf_map ls strOfNums i hi, size_str]
    generalize rd_L2 ls (i : Int) = l at *
    by_cases c1 : l.length < 1
    · rw [if_pos c1]; exact Ev.pos (by omega) (Ev.now _)
    rw [if_neg c1]
    refine Ev.neg (by omega) ?_
    by_cases c2 : l.length > 63
    · rw [if_pos c2]; exact Ev.pos (by omega) (Ev.now _)
    rw [if_neg c2]
    refine Ev.neg (by omega) ?_
    rw [w64 (n := s + 1) (by omega) (by omega), w64 (n := s + 1 + (l.length : Int)) (by omega) (by omega), w64 (n := (i : Int) + 1) (by omega) (by omega)]
    have := ih (i + 1) (s + ((l.length : Int) + 1)) (by omega) (by omega) (by omega) (by omega)
    rw [show s + 1 + (l.length : Int) = s + ((l.length : Int) + 1) by omega]
    exact this
theorem refRight_ev {ls : List (List Int)} (hn : ls.length ≤ 1000) (hl : ∀ l ∈ ls, l.length ≤ 1000) : Ev (fun k => paronymref26_Right.f k (ls.map strOfNums)) (rl 1 ls) := refRight_loop hn hl _ 0 1 rfl (Nat.zero_le _) (by omega) (by omega)
theorem texts_loop {ls : List (List Int)} (hn : ls.length ≤ 1000) : ∀ (d i : Nat), ls.length - i = d → i ≤ ls.length → Ev (fun k => paronymref26_Texts.l0 k ls ((ls.take i).map strOfNums) (i : Int)) (ls.map strOfNums) := by
  intro d
  induction d with
  | zero =>
    intro i h1 h2
    rw [List.take_of_length_le (by omega)]
    exact Ev.step (fun k => rfl) (Ev.neg (by omega) (Ev.now _))
  | succ d ih =>
    intro i h1 h2
    have hi : i < ls.length := by omega
    have next := ih (i + 1) (by omega) (by omega)
    rw [take_rdL2 hi, List.map_append] at next
    refine Ev.step (fun k => rfl) (Ev.pos (by omega) (Ev.pos (by omega) (Ev.pos (by rw [List.length_map, List.length_take]; omega) ?_)))
    rw [w64 (by omega) (by omega)]
    exact next
theorem texts_ev {ls : List (List Int)} (hn : ls.length ≤ 1000) : Ev (fun k => paronymref26_Texts.f k ls) (ls.map strOfNums) := texts_loop hn _ 0 rfl (Nat.zero_le _)
theorem str_nil : (⟨#[]⟩ : ByteArray) = strOfNums [] := rfl
theorem refName_loop {ls : List (List Int)} (hn : ls.length ≤ 1000) (hl : ∀ l ∈ ls, l.length ≤ 1000) (ho : ∀ l ∈ ls, Oct l) : ∀ (d i : Nat), ls.length - i = d → i ≤ ls.length → Ev (fun k => paronymref26_Name.l0 k (ls.map strOfNums) (strOfNums (nameL (ls.take i))) (i : Int)) (strOfNums (nameL ls), 0) := by
  intro d
  induction d with
  | zero =>
    intro i h1 h2
    rw [List.take_of_length_le (by omega)]
    exact Ev.step (fun k => rfl) (Ev.neg (by rw [List.length_map]; omega) (Ev.now _))
  | succ d ih =>
    intro i h1 h2
    have hi : i < ls.length := by omega
    have hm := rdL2_mem ls i hi
    have hx := hl _ hm
    have hox := ho _ hm
    have next := ih (i + 1) (by omega) (by omega)
    have hlen := nameL_len (ls.take i) (fun l hl' => hl l (List.mem_of_mem_take hl'))
    rw [List.length_take] at hlen
    have hes := esc_len (rd_L2 ls (i : Int))
    have hnext : nameL (ls.take (i + 1)) = nameL (ls.take i) ++ dotted (rd_L2 ls (i : Int)) := by
      rw [take_rdL2 hi]
      unfold nameL
      rw [List.flatMap_append]
      simp
    rw [hnext] at next
    refine Ev.step (fun k => rfl) (Ev.pos (by rw [List.length_map]; omega) (Ev.pos (by omega) ?_))
    rw [rdOf_map ls strOfNums i hi]
    refine Ev.bind (escaped_ev hox hx) ?_
    rw [str_append, show (⟨#[46]⟩ : ByteArray) = strOfNums [46] from rfl, str_append, size_str, size_str, size_str, List.length_append, w64 (by omega) (by omega), List.append_assoc]
    exact Ev.pos (by omega) (Ev.pos (by omega) next)
theorem refName_ev {ls : List (List Int)} (hn : ls.length ≤ 1000) (hl : ∀ l ∈ ls, l.length ≤ 1000) (ho : ∀ l ∈ ls, Oct l) : Ev (fun k => paronymref26_Name.f k (ls.map strOfNums)) (if rl 1 ls = true then (if ls = [] then ((⟨#[46]⟩ : ByteArray), 0) else (strOfNums (nameL ls), 0)) else ((⟨#[]⟩ : ByteArray), 62)) := by
  unfold paronymref26_Name.f
  refine Ev.bind (refRight_ev hn hl) ?_
  by_cases hr : rl 1 ls = true
  · rw [if_pos hr]
    refine Ev.pos hr ?_
    by_cases hz : ls = []
    · rw [if_pos hz]
      exact Ev.pos (by rw [hz]; rfl) (Ev.now _)
    · rw [if_neg hz]
      have := List.length_pos_iff.2 hz
      refine Ev.neg (by rw [List.length_map]; omega) ?_
      exact refName_loop hn hl ho _ 0 rfl (Nat.zero_le _)
  · rw [if_neg hr]
    exact Ev.neg hr (Ev.now _)
theorem name_ev {ls : List (List Int)} (hn : ls.length ≤ 1000) (hl : ∀ l ∈ ls, l.length ≤ 1000) (ho : ∀ l ∈ ls, Oct l) : Ev (fun k => owner_Name.f k ls) (if rl 1 ls = true then (if ls = [] then ((⟨#[46]⟩ : ByteArray), 0) else (strOfNums (nameL ls), 0)) else ((⟨#[]⟩ : ByteArray), 62)) := by
  unfold owner_Name.f
  refine Ev.bind (right_ev hn hl) ?_
  by_cases hr : rl 1 ls = true
  · simp only [hr, if_true]
    by_cases hz : ls = []
    · rw [if_pos hz]
      exact Ev.pos (by rw [hz]; rfl) (Ev.now _)
    · rw [if_neg hz]
      have := List.length_pos_iff.2 hz
      refine Ev.neg (by omega) (Ev.pos ?_ (Ev.now _))
      unfold labelsOk
      rw [Bool.and_eq_true]
      refine ⟨List.all_eq_true.2 (fun l hm => ?_), decide_eq_true hn⟩
      rw [Bool.and_eq_true]
      exact ⟨List.all_eq_true.2 (fun x hx => decide_eq_true (ho l hm x hx)), decide_eq_true (hl l hm)⟩
  · simp only [hr, Bool.false_eq_true, if_false]
    exact Ev.now _

/-! a name as units -/
def dunits (l : List Int) : List (List Int × Int) := units l ++ [([46], 46)]
def nunits (ls : List (List Int)) : List (List Int × Int) := ls.flatMap dunits
theorem flat_append (a b : List (List Int × Int)) : flat (a ++ b) = flat a ++ flat b := by unfold flat; rw [List.flatMap_append]
theorem flat_dunits (l : List Int) : flat (dunits l) = dotted l := by unfold dunits dotted; rw [flat_append, flat_units]; rfl
theorem flat_nunits : ∀ ls : List (List Int), flat (nunits ls) = nameL ls
  | [] => rfl
  | l :: ls => by
    unfold nunits nameL
    rw [List.flatMap_cons, List.flatMap_cons, flat_append, flat_dunits]
    congr 1
    exact flat_nunits ls
theorem nunits_uni {ls : List (List Int)} (ho : ∀ l ∈ ls, Oct l) : ∀ u ∈ nunits ls, Uni u := fun u hu => by
  obtain ⟨l, hl, hu⟩ := List.mem_flatMap.1 hu
  rcases List.mem_append.1 hu with hu | hu
  · exact units_uni (ho l hl) u hu
  · rw [List.mem_singleton.1 hu]; exact dot_uni
theorem nunits_len : ∀ ls : List (List Int), (∀ l ∈ ls, l.length ≤ 63) → (nunits ls).length ≤ 64 * ls.length
  | [], _ => Nat.le_refl _
  | l :: ls, h => by
    have h1 := nunits_len ls (fun x hx => h x (List.mem_cons_of_mem _ hx))
    have h2 := h l List.mem_cons_self
    unfold nunits at h1 ⊢
    rw [List.flatMap_cons, List.length_append, List.length_cons]
    unfold dunits at h1 ⊢
    rw [List.length_append, show (units l).length = l.length by unfold units; rw [List.length_map]]
    simp only [List.length_cons, List.length_nil]
    omega

/-! parting at the dots -/
theorem drop_take {l : List Int} {a b : Nat} : (l.take b).drop a = (l.drop a).take (b - a) := by rw [List.drop_take]
theorem at_drop {S T : List Int} {i : Nat} {x : Int} (h : S.drop i = x :: T) : i < S.length ∧ rd S (i : Int) = x ∧ S.drop (i + 1) = T := by
  have hi : i < S.length := by
    rcases Nat.lt_or_ge i S.length with h' | h'
    · exact h'
    · rw [List.drop_of_length_le h'] at h; cases h
  have hc := drop_cons S i hi
  rw [h] at hc
  injection hc with a b
  exact ⟨hi, a.symm, b.symm⟩
theorem cut_unit {S : List Int} (ho : Oct S) (hS : S.length ≤ 1000000) {u : List Int × Int} (hu : Uni u) (hd : u.1 ≠ [46]) (acc : List ByteArray) (from_ : Int) {v : List ByteArray} (i : Nat) (T : List Int) (h : S.drop i = u.1 ++ T) (next : Ev (fun k => owner_cut.l0 k (strOfNums S) acc from_ ((i + u.1.length : Nat) : Int)) v) : Ev (fun k => owner_cut.l0 k (strOfNums S) acc from_ (i : Int)) v := by
  have plain : ∀ (j : Nat) (x : Int) (T' : List Int), S.drop j = x :: T' → x ≠ 92 → x ≠ 46 → Ev (fun k => owner_cut.l0 k (strOfNums S) acc from_ ((j + 1 : Nat) : Int)) v → Ev (fun k => owner_cut.l0 k (strOfNums S) acc from_ (j : Int)) v := by
    intro j x T' hj h92 h46 hn
    obtain ⟨h1, h2, h3⟩ := at_drop hj
    refine Ev.step (fun k => rfl) (Ev.pos (by rw [size_str]; omega) (Ev.pos (by omega) ?_))
    rw [bt_str ho (by omega) (by omega), h2]
    refine Ev.neg h92 (Ev.neg h46 ?_)
    rw [w64 (by omega) (by omega)]
    exact hn
  have back : ∀ (j : Nat) (T' : List Int), S.drop j = 92 :: T' → Ev (fun k => owner_cut.l0 k (strOfNums S) acc from_ ((j + 2 : Nat) : Int)) v → Ev (fun k => owner_cut.l0 k (strOfNums S) acc from_ (j : Int)) v := by
    intro j T' hj hn
    obtain ⟨h1, h2, h3⟩ := at_drop hj
    refine Ev.step (fun k => rfl) (Ev.pos (by rw [size_str]; omega) (Ev.pos (by omega) ?_))
    rw [bt_str ho (by omega) (by omega), h2]
    refine Ev.pos rfl ?_
    rw [w64 (n := (j : Int) + 1) (by omega) (by omega), w64 (n := (j : Int) + 1 + 1) (by omega) (by omega), show (j : Int) + 1 + 1 = ((j + 2 : Nat) : Int) by omega]
    exact hn
  cases hu with
  | esc c => exact back i _ h next
  | one c g1 => exact plain i c T h g1 (fun e => hd (by rw [e])) next
  | num c d1 d2 d3 h1 h2 h3 =>
    have a2 := of_decide_eq_true h2
    have a3 := of_decide_eq_true h3
    have e2 : S.drop (i + 2) = d2 :: d3 :: T := by
      rw [← List.drop_drop, h]; rfl
    have e3 : S.drop (i + 3) = d3 :: T := by
      rw [← List.drop_drop, h]; rfl
    exact back i _ h (plain (i + 2) d2 _ e2 (by omega) (by omega) (plain (i + 3) d3 _ e3 (by omega) (by omega) next))
theorem cut_us {S : List Int} (ho : Oct S) (hS : S.length ≤ 1000000) (acc : List ByteArray) (from_ : Int) {v : List ByteArray} : ∀ (us : List (List Int × Int)), (∀ u ∈ us, Uni u ∧ u.1 ≠ [46]) → ∀ (i : Nat) (T : List Int), S.drop i = flat us ++ T → Ev (fun k => owner_cut.l0 k (strOfNums S) acc from_ ((i + (flat us).length : Nat) : Int)) v → Ev (fun k => owner_cut.l0 k (strOfNums S) acc from_ (i : Int)) v
  | [], _, i, T, _, next => next
  | u :: us, h, i, T, he, next => by
    rw [flat_cons] at he next
    rw [List.append_assoc] at he
    rw [List.length_append, ← Nat.add_assoc] at next
    obtain ⟨h1, h2⟩ := h u List.mem_cons_self
    refine cut_unit ho hS h1 h2 acc from_ i _ he ?_
    refine cut_us ho hS acc from_ us (fun x hx => h x (List.mem_cons_of_mem _ hx)) (i + u.1.length) T ?_ next
    rw [← List.drop_drop, he, List.drop_left]
theorem esc1_nodot {c : Int} (h : 0 ≤ c ∧ c ≤ 255) : esc1 c ≠ [46] := by
  intro e
  unfold esc1 at e
  split at e
  · simp at e
  · rename_i sp
    split at e
    · simp at e
      subst e
      exact sp (by decide)
    · simp at e
theorem cut_ls {S : List Int} (ho : Oct S) (hS : S.length ≤ 1000000) : ∀ (ls : List (List Int)), (∀ l ∈ ls, Oct l) → ∀ (acc : List ByteArray) (i : Nat), acc.length + ls.length ≤ 1000000 → S.drop i = nameL ls → i ≤ S.length →
    Ev (fun k => owner_cut.l0 k (strOfNums S) acc (i : Int) (i : Int)) (acc ++ ls.map (fun l => strOfNums (l.flatMap esc1)) ++ [strOfNums []])
  | [], _, acc, i, hl, he, hi => by
    have hi' : i = S.length := by
      have := congrArg List.length he
      rw [List.length_drop] at this
      simp [nameL] at this
      omega
    refine Ev.step (fun k => rfl) (Ev.neg (by rw [size_str]; omega) (Ev.pos (by omega) (Ev.pos (by rw [size_str]; omega) (Ev.pos (by simp at hl; omega) (Ev.ret ?_)))))
    rw [extract_str, size_str, List.take_length, Int.toNat_natCast, List.drop_of_length_le (by omega)]
    simp
  | l :: ls, hol, acc, i, hl, he, hi => by
    have hn : nameL (l :: ls) = flat (units l) ++ 46 :: nameL ls := by
      unfold nameL dotted
      rw [List.flatMap_cons, flat_units, List.append_assoc]
      rfl
    rw [hn] at he
    have h46 : S.drop (i + (flat (units l)).length) = 46 :: nameL ls := by rw [← List.drop_drop, he, List.drop_left]
    obtain ⟨g1, g2, g3⟩ := at_drop h46
    have hol1 := hol l List.mem_cons_self
    refine cut_us ho hS acc (i : Int) (units l) (fun u hu => ?_) i _ he ?_
    · refine ⟨units_uni hol1 u hu, ?_⟩
      obtain ⟨c, hc, rfl⟩ := List.mem_map.1 hu
      exact esc1_nodot (hol1 c hc)
    have hpart : (strOfNums S).extract ((i : Int)).toNat ((i + (flat (units l)).length : Nat) : Int).toNat = strOfNums (l.flatMap esc1) := by
      rw [extract_str, Int.toNat_natCast, Int.toNat_natCast, drop_take, he, show i + (flat (units l)).length - i = (flat (units l)).length by omega, List.take_left, flat_units]
    rw [List.length_cons] at hl
    generalize (flat (units l)).length = m at *
    have next := cut_ls ho hS ls (fun x hx => hol x (List.mem_cons_of_mem _ hx)) (acc ++ [strOfNums (l.flatMap esc1)]) (i + m + 1) (by rw [List.length_append]; simp only [List.length_cons, List.length_nil]; omega) g3 (by omega)
    refine Ev.step (fun k => rfl) (Ev.pos (by rw [size_str]; omega) (Ev.pos (by omega) ?_))
    rw [bt_str ho (by omega) (by omega), g2, hpart]
    refine Ev.neg (by decide) (Ev.pos rfl (Ev.pos (by omega) (Ev.pos (by omega) (Ev.pos (by rw [size_str]; omega) (Ev.pos (by omega) ?_)))))
    rw [w64 (by omega) (by omega)]
    rw [List.append_assoc] at next
    rw [List.map_cons]
    have e : ((i + m : Nat) : Int) + 1 = ((i + m + 1 : Nat) : Int) := by omega
    rw [e]
    simpa using next
end Go.Proofs.YtdnfmilnkoocdaaDoor.K

-- from Pzof
/- owner.Of of any line: it tells something, and what of that the zones want. -/
namespace Go.Proofs.YtdnfmilnkoocdaaDoor.K
set_option linter.unusedVariables false
set_option linter.unusedSimpArgs false
open Go.RowKit Go.Proofs.YtdnfmilnkoocdaaDoor.Q Go.Proofs.YtdnfmilnkoocdaaDoorW.PrintWords Go.Proofs.YtdnfmilnkoocdaaDoorW.PrintLast

/-- A text whose escapes are whole. -/
inductive EscOK : List Int → Prop
  | nil : EscOK []
  | esc {u : List Int} : escL (92 :: u) ≠ 0 → EscOK ((92 :: u).drop (escL (92 :: u))) → EscOK (92 :: u)
  | one {c : Int} {u : List Int} : c ≠ 92 → EscOK u → EscOK (c :: u)
theorem scan_drop (q : Bool) : ∀ (k : Nat) (t : List Int) (m : Nat), k ≤ t.length → scan q k t = .inr m → ∃ m', m = m' + k ∧ scan q 0 (t.drop k) = .inr m'
  | 0, t, m, _, h => ⟨m, rfl, by simpa using h⟩
  | k + 1, [], m, hk, h => by simp at hk
  | k + 1, c :: t, m, hk, h => by
    rw [scan] at h
    obtain ⟨m1, h1, rfl⟩ := bump_inr h
    obtain ⟨m2, rfl, h2⟩ := scan_drop q k t m1 (by simpa using hk) h1
    exact ⟨m2, by omega, by simpa using h2⟩
theorem scan_ok_f : ∀ (n : Nat) (t : List Int), t.length ≤ n → scan false 0 t = .inr t.length → EscOK t
  | _, [], _, _ => .nil
  | 0, c :: u, hn, _ => by simp at hn
  | n + 1, c :: u, hn, h => by
    rw [scan_0] at h
    by_cases c1 : c = 92
    · subst c1
      rw [if_pos rfl] at h
      by_cases c2 : escL (92 :: u) = 0
      · rw [if_pos c2] at h; cases h
      · rw [if_neg c2] at h
        have hz := escL_nz c2
        obtain ⟨m, h1, h2⟩ := bump_inr h
        obtain ⟨m', h3, h4⟩ := scan_drop false _ u m (by rw [List.length_cons] at hz; omega) h1
        have e : (92 :: u).drop (escL (92 :: u)) = u.drop (escL (92 :: u) - 1) := by
          conv => lhs; rw [show escL (92 :: u) = (escL (92 :: u) - 1) + 1 by omega, List.drop_succ_cons]
        refine .esc c2 ?_
        rw [e]
        refine scan_ok_f n _ (by rw [List.length_drop]; simp at hn; omega) ?_
        rw [h4, List.length_drop]
        congr 1
        rw [List.length_cons] at h2
        omega
    · rw [if_neg c1, if_neg (by simp)] at h
      by_cases c2 : c = 34
      · rw [if_pos c2] at h; cases h
      · rw [if_neg c2] at h
        by_cases c3 : false = false ∧ (c = 40 ∨ c = 41)
        · rw [if_pos c3] at h; cases h
        · rw [if_neg c3] at h
          by_cases c4 : false = false ∧ sep c = true
          · rw [if_pos c4] at h; injection h with h; simp at h
          · rw [if_neg c4] at h
            obtain ⟨m, h1, h2⟩ := bump_inr h
            refine .one c1 (scan_ok_f n u (by simpa using hn) ?_)
            rw [h1]; congr 1; rw [List.length_cons] at h2; omega
theorem escL_pre {t r : List Int} (h : escL (t ++ r) ≠ 0) (hl : escL (t ++ r) ≤ t.length) : escL t = escL (t ++ r) := by
  match t with
  | [] => exact absurd (Nat.le_zero.1 hl) h
  | [a] =>
    have h1 : ([a] : List Int).length = 1 := rfl
    have := (escL_nz h).2
    omega
  | [a, b] =>
    have h2 : escL ([a, b] ++ r) = 0 ∨ escL ([a, b] ++ r) = 2 ∨ escL ([a, b] ++ r) = 4 := by
      match r with
      | [] => simp only [List.append_nil, escL_2]; split <;> simp
      | [c] => simp only [List.cons_append, List.nil_append, escL_3]; split <;> simp
      | c :: d :: r => simp only [List.cons_append, List.nil_append, escL_4]; split <;> (try split) <;> simp
    rcases h2 with h2 | h2 | h2
    · exact absurd h2 h
    · rw [h2]
      have hb : dig b = false := by
        cases hb : dig b with
        | false => rfl
        | true =>
          exfalso
          match r with
          | [] => simp [escL_2, hb] at h2
          | [c] => simp [escL_3, hb] at h2
          | c :: d :: r => simp only [List.cons_append, List.nil_append, escL_4, hb, if_true] at h2; split at h2 <;> omega
      rw [escL_2, hb]; rfl
    · rw [h2] at hl; simp at hl
  | [a, b, c] =>
    match r with
    | [] => rw [List.append_nil]
    | d :: r =>
      have e : escL ([a, b, c] ++ d :: r) = (if dig b = true then (if dig c = true ∧ dig d = true ∧ (b - 48) * 100 + (c - 48) * 10 + (d - 48) ≤ 255 then 4 else 0) else 2) := rfl
      rw [e] at h hl ⊢
      rw [escL_3]
      by_cases hb : dig b = true
      · rw [if_pos hb] at h hl ⊢
        split at h
        · rename_i hc; rw [if_pos hc] at hl; simp at hl
        · exact absurd rfl h
      · rw [if_neg hb, if_neg hb]
  | a :: b :: c :: d :: t => rfl
theorem scan_ok_t : ∀ (n : Nat) (t : List Int), t.length ≤ n → scan true 0 (t ++ [34]) = .inr (t.length + 1) → EscOK t
  | _, [], _, _ => .nil
  | 0, c :: u, hn, _ => by simp at hn
  | n + 1, c :: u, hn, h => by
    rw [List.cons_append, scan_0] at h
    by_cases c1 : c = 92
    · subst c1
      rw [if_pos rfl] at h
      by_cases c2 : escL (92 :: (u ++ [34])) = 0
      · rw [if_pos c2] at h; cases h
      · rw [if_neg c2] at h
        have hz := escL_nz c2
        obtain ⟨m, h1, h2⟩ := bump_inr h
        obtain ⟨m', h3, h4⟩ := scan_drop true _ (u ++ [34]) m (by rw [List.length_cons] at hz; omega) h1
        rw [List.length_cons] at h2
        by_cases c3 : escL (92 :: (u ++ [34])) ≤ (92 :: u).length
        · have e1 : escL (92 :: u) = escL (92 :: (u ++ [34])) := escL_pre (t := 92 :: u) (r := [34]) c2 c3
          have c3' : escL (92 :: (u ++ [34])) ≤ u.length + 1 := by simpa using c3
          have e : (92 :: u).drop (escL (92 :: u)) = u.drop (escL (92 :: (u ++ [34])) - 1) := by
            rw [e1]
            conv => lhs; rw [show escL (92 :: (u ++ [34])) = (escL (92 :: (u ++ [34])) - 1) + 1 by omega, List.drop_succ_cons]
          refine .esc (by rw [e1]; exact c2) ?_
          rw [e]
          rw [List.drop_append_of_le_length (by omega)] at h4
          refine scan_ok_t n _ (by rw [List.length_drop]; simp at hn; omega) ?_
          rw [h4, List.length_drop]
          congr 1
          omega
        · exfalso
          have hz1 := hz.1
          simp only [List.length_cons, List.length_append, List.length_nil] at hz1 c3
          rw [List.drop_of_length_le (by simp; omega)] at h4
          cases h4
    · rw [if_neg c1] at h
      by_cases c2 : c = 34
      · subst c2
        rw [if_pos ⟨rfl, rfl⟩] at h
        cases hu : u ++ [34] with
        | nil => simp at hu
        | cons d r =>
          rw [hu] at h
          simp only at h
          split at h
          · injection h with h; simp at h
          · cases h
      · rw [if_neg (fun hh => c2 hh.2), if_neg c2, if_neg (by simp), if_neg (by simp)] at h
        obtain ⟨m, h1, h2⟩ := bump_inr h
        refine .one c1 (scan_ok_t n u (by simpa using hn) ?_)
        rw [h1]; congr 1; rw [List.length_cons] at h2; omega
theorem esc_byte0 {k : Nat} {s : ByteArray} {b : Bool} {v n : Int} (h : token_escape.j0 k s b = some (v, n)) : 0 ≤ v ∧ v ≤ 255 := by
  cases k with
  | zero => cases h
  | succ k =>
    unfold token_escape.j0 at h
    repeat' split at h
    all_goals first
      | (simp only [Option.some.injEq, Prod.mk.injEq] at h; omega)
      | cases h
theorem esc_byte {k : Nat} {s : ByteArray} {v n : Int} (h : token_escape.f k s = some (v, n)) : 0 ≤ v ∧ v ≤ 255 := by
  unfold token_escape.f at h
  have hb := bt_range s 1
  have key : ∀ {b : Bool}, token_escape.j0 k s b = some (v, n) → 0 ≤ v ∧ v ≤ 255 := esc_byte0
  split at h
  · simp only [Option.some.injEq, Prod.mk.injEq] at h; omega
  split at h
  · obtain ⟨t, ht, h⟩ := Option.bind_eq_some_iff.1 h
    split at h
    · split at h
      · exact key h
      split at h
      · obtain ⟨t2, ht2, h⟩ := Option.bind_eq_some_iff.1 h
        split at h
        · split at h
          · obtain ⟨t3, ht3, h⟩ := Option.bind_eq_some_iff.1 h
            exact key h
          · cases h
        · exact key h
      · cases h
    · simp only [Option.some.injEq, Prod.mk.injEq] at h; omega
  · cases h
theorem plain_tot0 {t : List Int} (h : EscOK t) : Oct t → ∀ acc : List Int, Oct acc → acc.length + t.length ≤ 100000 → ∃ r, Ev (fun k => token_Plain.l0 k (strOfNums t) acc) (r, 0) ∧ Oct r ∧ r.length ≤ acc.length + t.length := by
  induction h with
  | nil => exact fun _ acc ha hl => ⟨acc, Ev.step (fun k => rfl) (Ev.neg (by rw [size_str]; simp) (Ev.now _)), ha, by simp⟩
  | @esc u h1 h2 ih =>
    intro ho acc ha hl
    obtain ⟨v, hv⟩ := escape_ev ho
    obtain ⟨kv, hkv⟩ := hv.rounds
    have hvb := esc_byte hkv
    have hz := escL_nz h1
    have hlc : (92 :: u).length = u.length + 1 := rfl
    obtain ⟨r, hr, hro, hrl⟩ := ih (ho.drop _) (acc ++ [v]) (Oct.append ha (fun x hx => by rw [List.mem_singleton.1 hx]; exact hvb)) (by rw [List.length_append, List.length_drop]; simp only [List.length_cons, List.length_nil] at hl ⊢; omega)
    refine ⟨r, ?_, hro, by rw [List.length_append, List.length_drop] at hrl; simp only [List.length_cons, List.length_nil] at hrl ⊢; omega⟩
    refine Ev.succ ?_
    simp only [token_Plain.l0]
    have hs : ((strOfNums (92 :: u)).size : Int) = (u.length : Int) + 1 := by rw [size_str]; simp
    have hb : bt (strOfNums (92 :: u)) 0 = 92 := by rw [bt_str ho (by omega) (by rw [List.length_cons]; omega)]; rfl
    rw [hs]
    refine Ev.pos (by omega) (Ev.pos (by omega) (Ev.pos hb (Ev.bind hv (Ev.pos (by omega) (Ev.pos (by show (0 : Int) ≤ (escL (92 :: u) : Int); omega) (Ev.pos (by show (escL (92 :: u) : Int) ≤ _; omega) ?_))))))
    show Ev (fun k => token_Plain.l0 k ((strOfNums (92 :: u)).extract (escL (92 :: u) : Int).toNat (strOfNums (92 :: u)).size) (acc ++ [v])) _
    rw [Int.toNat_natCast, extract_str, size_str, List.take_length]
    exact hr
  | @one c u h1 h2 ih =>
    intro ho acc ha hl
    have hc := ho c List.mem_cons_self
    obtain ⟨r, hr, hro, hrl⟩ := ih (fun x hx => ho x (List.mem_cons_of_mem _ hx)) (acc ++ [c]) (Oct.append ha (fun x hx => by rw [List.mem_singleton.1 hx]; exact hc)) (by rw [List.length_append]; simp only [List.length_cons, List.length_nil] at hl ⊢; omega)
    refine ⟨r, ?_, hro, by rw [List.length_append] at hrl; simp only [List.length_cons, List.length_nil] at hrl ⊢; omega⟩
    refine Ev.succ ?_
    simp only [token_Plain.l0]
    have hs : ((strOfNums (c :: u)).size : Int) = (u.length : Int) + 1 := by rw [size_str]; simp
    have hb : bt (strOfNums (c :: u)) 0 = c := by rw [bt_str ho (by omega) (by rw [List.length_cons]; omega)]; rfl
    rw [hs, hb]
    refine Ev.pos (by omega) (Ev.pos (by omega) (Ev.neg h1 (Ev.pos (by simp only [List.length_cons] at hl; omega) (Ev.pos (by omega) ?_))))
    show Ev (fun k => token_Plain.l0 k ((strOfNums (c :: u)).extract 1 (strOfNums (c :: u)).size) (acc ++ [c])) _
    rw [extract_str, size_str, List.take_length]
    exact hr
/-- Where a text is its own one word. -/
theorem one_word {P : List Int} (h : Spl P (.inr [P])) : ∃ c u, P = c :: u ∧ wordL P = .inr P.length := by
  generalize hr : (Sum.inr [P] : Sum Int (List (List Int))) = r at h
  cases h with
  | nil h1 => cases hr
  | rem h1 => cases hr
  | err h1 h2 h3 => cases hr
  | @more _ u c n r' h1 h2 h3 h4 =>
    cases r' with
    | inl e => cases hr
    | inr l =>
      injection hr with hr
      injection hr with hr1 hr2
      obtain ⟨w, hw⟩ := dropWhile_suffix (p := blank) P
      rw [h1] at hw
      have hl := congrArg List.length hw
      have hl2 := congrArg List.length hr1
      rw [List.length_append] at hl
      rw [List.length_take] at hl2
      have hw0 : w = [] := List.length_eq_zero_iff.1 (by omega)
      rw [hw0, List.nil_append] at hw
      have hle := wordL_le h3
      refine ⟨c, u, hw, ?_⟩
      rw [hw, h3]
      congr 1
      rw [hw] at hl2
      omega
theorem plain_tot {P : List Int} (ho : Oct P) (hl : P.length ≤ 50000) : ∃ r e, Ev (fun k => token_Plain.f k (strOfNums P)) (r, e) ∧ Oct r ∧ r.length ≤ P.length ∧ (e = 0 → P ≠ []) := by
  obtain ⟨s, hs⟩ := Spl.total P.length P (Nat.le_refl _)
  have hsp := Split_ev hs ho (by omega)
  cases s with
  | inl e =>
    have he := hs.err_is e rfl
    refine ⟨[], e, ?_, (fun x hx => by cases hx), by simp, fun h => by omega⟩
    unfold token_Plain.f
    rw [bof_is ho (by omega)]
    exact Ev.bind (Ev.now _) (Ev.bind hsp (Ev.neg (by show ¬ e = 0; omega) (Ev.now _)))
  | inr l =>
    by_cases c1 : l.length = 1
    · obtain ⟨w, rfl⟩ : ∃ w, l = [w] := List.length_eq_one_iff.1 c1
      by_cases c2 : (strOfNums w).toList = (strOfNums P).toList
      · have hsum := hs.sum [w] rfl
        have how : Oct w ∧ w = P := by
          have hlen := congrArg List.length c2
          have e1 : ∀ z : List Int, (strOfNums z).toList.length = z.length := fun z => by rw [ba_toList, Array.length_toList]; exact size_str z
          rw [e1, e1] at hlen
          -- the word is a piece of the line
          have hsub : ∀ x ∈ w, x ∈ P := by
            generalize hr : (Sum.inr [w] : Sum Int (List (List Int))) = r at hs
            cases hs with
            | nil h1 => cases hr
            | rem h1 => cases hr
            | err h1 h2 h3 => cases hr
            | @more _ u c n r' h1 h2 h3 h4 =>
              cases r' with
              | inl e => cases hr
              | inr l =>
                injection hr with hr
                injection hr with hr1 hr2
                intro x hx
                rw [hr1] at hx
                obtain ⟨v, hv⟩ := dropWhile_suffix (p := blank) P
                rw [hv, h1]
                exact List.mem_append_right _ (List.mem_of_mem_take hx)
          have how : Oct w := fun x hx => ho x (hsub x hx)
          exact ⟨how, str_inj how ho (toList_inj c2)⟩
        obtain ⟨how, rfl⟩ := how
        obtain ⟨c, u, hP, hw⟩ := one_word hs
        have hpos : 0 < w.length := by rw [hP]; simp
        have hsz : ((strOfNums w).size : Int) = (w.length : Int) := by rw [size_str]
        have hbt : bt (strOfNums w) 0 = c := by rw [bt_str ho (by omega) (by omega), hP]; rfl
        rw [hP, wordL_cons] at hw
        by_cases c3 : c = 34
        · rw [if_pos c3] at hw
          obtain ⟨m, h1, h2⟩ := bump_inr hw
          rw [List.length_cons] at h2
          have hm : m = u.length := by omega
          subst hm
          -- the closing quote
          have hlast : ∃ t, u = t ++ [34] := by
            have key : ∀ (n : Nat) (u : List Int), u.length ≤ n → scan true 0 u = .inr u.length → ∃ t, u = t ++ [34] := by
              intro n
              induction n with
              | zero =>
                intro u hu h
                obtain rfl := List.length_eq_zero_iff.1 (Nat.le_zero.1 hu)
                cases h
              | succ n ih =>
                intro u hu h
                cases u with
                | nil => cases h
                | cons d v =>
                  rw [scan_0] at h
                  by_cases g1 : d = 92
                  · subst g1
                    rw [if_pos rfl] at h
                    by_cases g2 : escL (92 :: v) = 0
                    · rw [if_pos g2] at h; cases h
                    · rw [if_neg g2] at h
                      have hz := escL_nz g2
                      rw [List.length_cons] at hz
                      obtain ⟨m, k1, k2⟩ := bump_inr h
                      obtain ⟨m', k3, k4⟩ := scan_drop true _ v m (by omega) k1
                      rw [List.length_cons] at k2
                      obtain ⟨t, ht⟩ := ih (v.drop (escL (92 :: v) - 1)) (by rw [List.length_drop]; simp at hu; omega) (by rw [k4, List.length_drop]; congr 1; omega)
                      refine ⟨92 :: (v.take (escL (92 :: v) - 1) ++ t), ?_⟩
                      conv => lhs; rw [← List.take_append_drop (escL (92 :: v) - 1) v, ht]
                      simp
                  · rw [if_neg g1] at h
                    by_cases g2 : d = 34
                    · subst g2
                      rw [if_pos ⟨rfl, rfl⟩] at h
                      cases v with
                      | nil => exact ⟨[], rfl⟩
                      | cons x v =>
                        simp only at h
                        split at h
                        · injection h with h; simp at h
                        · cases h
                    · rw [if_neg (fun hh => g2 hh.2), if_neg g2, if_neg (by simp), if_neg (by simp)] at h
                      obtain ⟨m, k1, k2⟩ := bump_inr h
                      rw [List.length_cons] at k2
                      obtain ⟨t, ht⟩ := ih v (by simpa using hu) (by rw [k1]; congr 1; omega)
                      exact ⟨d :: t, by rw [ht]; rfl⟩
            exact key _ u (Nat.le_refl _) h1
          obtain ⟨t, ht⟩ := hlast
          have hok : EscOK t := by
            refine scan_ok_t _ t (Nat.le_refl _) ?_
            rw [← ht, h1, ht]; simp
          have hot : Oct t := fun x hx => ho x (by rw [hP, ht]; simp [hx])
          have hwl : w.length = t.length + 2 := by rw [hP, ht]; simp
          obtain ⟨r, hr, hro, hrl⟩ := plain_tot0 hok hot [] (fun x hx => by cases hx) (by simp; omega)
          refine ⟨r, 0, ?_, hro, by simp at hrl; omega, fun _ => by rw [hP]; simp⟩
          unfold token_Plain.f
          rw [bof_is ho (by omega), hbt]
          refine Ev.bind (Ev.now _) (Ev.bind hsp (Ev.pos rfl (Ev.pos rfl (Ev.pos (by show (0 : Int) < 1; omega) (Ev.pos rfl (Ev.pos (by omega) (Ev.pos c3 ?_)))))))
          rw [w64 (by omega) (by omega)]
          refine Ev.pos (by omega) (Ev.pos (by omega) ?_)
          have hex : (strOfNums w).extract 1 (((strOfNums w).size : Int) - 1).toNat = strOfNums t := by
            rw [extract_str]
            congr 1
            have : (((strOfNums w).size : Int) - 1).toNat = t.length + 1 := by omega
            rw [this, hP, ht, List.take_succ_cons, List.drop_succ_cons, List.drop_zero, List.take_append_of_le_length (Nat.le_refl _), List.take_length]
          rw [hex]
          exact Ev.step (fun k => rfl) hr
        · rw [if_neg c3, ← hP] at hw
          have hok := scan_ok_f _ w (Nat.le_refl _) hw
          obtain ⟨r, hr, hro, hrl⟩ := plain_tot0 hok ho [] (fun x hx => by cases hx) (by simp; omega)
          refine ⟨r, 0, ?_, hro, by simpa using hrl, fun _ => by rw [hP]; simp⟩
          unfold token_Plain.f
          rw [bof_is ho (by omega), hbt]
          refine Ev.bind (Ev.now _) (Ev.bind hsp (Ev.pos rfl (Ev.pos rfl (Ev.pos (by show (0 : Int) < 1; omega) (Ev.pos rfl (Ev.pos (by omega) (Ev.neg c3 ?_)))))))
          exact Ev.step (fun k => rfl) hr
      · refine ⟨[], 12, ?_, (fun x hx => by cases hx), by simp, fun h => by cases h⟩
        unfold token_Plain.f
        rw [bof_is ho (by omega)]
        exact Ev.bind (Ev.now _) (Ev.bind hsp (Ev.pos rfl (Ev.pos rfl (Ev.pos (by show (0 : Int) < 1; omega) (Ev.neg c2 (Ev.now _))))))
    · refine ⟨[], 12, ?_, (fun x hx => by cases hx), by simp, fun h => by cases h⟩
      unfold token_Plain.f
      rw [bof_is ho (by omega)]
      exact Ev.bind (Ev.now _) (Ev.bind hsp (Ev.pos rfl (Ev.neg (by show ¬ ((([] ++ l.map strOfNums : List ByteArray).length : Int) = 1); simp; omega) (Ev.now _))))
theorem cut_tot0 {P : List Int} (ho : Oct P) (hP : P.length ≤ 50000) : ∀ (d i fr : Nat) (acc : List (List Int)), P.length + 2 - i ≤ d → fr ≤ i → fr ≤ P.length → i ≤ P.length + 1 → acc.length ≤ i → (∀ l ∈ acc, Oct l ∧ l.length ≤ P.length) →
    ∃ r : List (List Int), Ev (fun k => owner_cut.l0 k (strOfNums P) (acc.map strOfNums) (fr : Int) (i : Int)) (r.map strOfNums) ∧ r ≠ [] ∧ r.length ≤ P.length + 2 ∧ ∀ l ∈ r, Oct l ∧ l.length ≤ P.length := by
  have hz := size_str P
  intro d
  induction d with
  | zero => intro i fr acc h1 h2 h3 h4 h5 h6; omega
  | succ d ih =>
    intro i fr acc h1 h2 h3 h4 h5 h6
    by_cases c1 : i < P.length
    · have hb : bt (strOfNums P) (i : Int) = P[i] := by rw [bt_str ho (by omega) (by omega), rd_nat P i c1]
      by_cases c2 : P[i] = 92
      · obtain ⟨r, hr, h7⟩ := ih (i + 2) fr acc (by omega) (by omega) h3 (by omega) (by omega) h6
        refine ⟨r, Ev.step (fun k => rfl) (Ev.pos (by omega) (Ev.pos (by omega) (Ev.pos (by rw [hb]; exact c2) ?_))), h7⟩
        rw [w64 (n := (i : Int) + 1) (by omega) (by omega), w64 (by omega) (by omega), show (i : Int) + 1 + 1 = ((i + 2 : Nat) : Int) by omega]
        exact hr
      · by_cases c3 : P[i] = 46
        · have hpc : Oct ((P.take i).drop fr) ∧ ((P.take i).drop fr).length ≤ P.length := ⟨(ho.take i).drop fr, by rw [List.length_drop, List.length_take]; omega⟩
          obtain ⟨r, hr, h7⟩ := ih (i + 1) (i + 1) (acc ++ [(P.take i).drop fr]) (by omega) (Nat.le_refl _) (by omega) (by omega) (by rw [List.length_append]; simp; omega) (fun l hl => by
            rcases List.mem_append.1 hl with hl | hl
            · exact h6 l hl
            · rw [List.mem_singleton.1 hl]; exact hpc)
          refine ⟨r, Ev.step (fun k => rfl) (Ev.pos (by omega) (Ev.pos (by omega) (Ev.neg (by rw [hb]; exact c2) (Ev.pos (by rw [hb]; exact c3) (Ev.pos (by omega) (Ev.pos (by omega) (Ev.pos (by omega) (Ev.pos (by rw [List.length_map]; omega) ?_)))))))), h7⟩
          rw [w64 (n := (i : Int) + 1) (by omega) (by omega), show (i : Int) + 1 = ((i + 1 : Nat) : Int) by omega, Int.toNat_natCast, Int.toNat_natCast, extract_str]
          rw [List.map_append] at hr
          exact hr
        · obtain ⟨r, hr, h7⟩ := ih (i + 1) fr acc (by omega) (by omega) h3 (by omega) (by omega) h6
          refine ⟨r, Ev.step (fun k => rfl) (Ev.pos (by omega) (Ev.pos (by omega) (Ev.neg (by rw [hb]; exact c2) (Ev.neg (by rw [hb]; exact c3) ?_)))), h7⟩
          rw [w64 (n := (i : Int) + 1) (by omega) (by omega), show (i : Int) + 1 = ((i + 1 : Nat) : Int) by omega]
          exact hr
    · refine ⟨acc ++ [P.drop fr], ?_, by simp, by rw [List.length_append]; simp; omega, fun l hl => ?_⟩
      · refine Ev.step (fun k => rfl) (Ev.neg (by omega) (Ev.pos (by omega) (Ev.pos (by omega) (Ev.pos (by rw [List.length_map]; omega) (Ev.ret ?_)))))
        rw [Int.toNat_natCast, extract_str, hz, List.take_length, List.map_append]; rfl
      · rcases List.mem_append.1 hl with hl | hl
        · exact h6 l hl
        · rw [List.mem_singleton.1 hl]; exact ⟨ho.drop fr, by rw [List.length_drop]; omega⟩
theorem cut_tot {P : List Int} (ho : Oct P) (hP : P.length ≤ 50000) : ∃ r : List (List Int), Ev (fun k => owner_cut.f k (strOfNums P)) (r.map strOfNums) ∧ r ≠ [] ∧ r.length ≤ P.length + 2 ∧ ∀ l ∈ r, Oct l ∧ l.length ≤ P.length :=
  cut_tot0 ho hP _ 0 0 [] (Nat.le_refl _) (Nat.le_refl _) (Nat.zero_le _) (Nat.zero_le _) (Nat.zero_le _) (fun l hl => by cases hl)
theorem right_loop2 {ls : List (List Int)} (hn : ls.length ≤ 100000) (hl : ∀ l ∈ ls, l.length ≤ 100000) : ∀ (d i : Nat) (s : Int), ls.length - i = d → i ≤ ls.length → 0 ≤ s → s ≤ 1 + 64 * (i : Int) → Ev (fun k => owner_right.l0 k s ls (ls.length : Int) (i : Int)) (rl s (ls.drop i)) := by
  intro d
  induction d with
  | zero =>
    intro i s h1 h2 h3 h4
    rw [List.drop_of_length_le (by omega)]
    exact Ev.step (fun k => rfl) (Ev.neg (by omega) (Ev.now _))
  | succ d ih =>
    intro i s h1 h2 h3 h4
    have hi : i < ls.length := by omega
    have hx := hl _ (rdL2_mem ls i hi)
    rw [dropL2 ls i hi, rl]
    refine Ev.step (fun k => rfl) (Ev.pos (by omega) (Ev.pos (by omega) (Ev.pos (by omega) ?_)))
    generalize rd_L2 ls (i : Int) = l at *
    by_cases c1 : l.length < 1
    · rw [if_pos c1]; exact Ev.pos (by omega) (Ev.now _)
    rw [if_neg c1]
    refine Ev.neg (by omega) ?_
    by_cases c2 : l.length > 63
    · rw [if_pos c2]; exact Ev.pos (by omega) (Ev.now _)
    rw [if_neg c2]
    refine Ev.neg (by omega) ?_
    rw [w64 (n := (l.length : Int) + 1) (by omega) (by omega), w64 (n := s + ((l.length : Int) + 1)) (by omega) (by omega), w64 (n := (i : Int) + 1) (by omega) (by omega)]
    exact ih (i + 1) _ (by omega) (by omega) (by omega) (by omega)
theorem lab_tot0 {X : List (List Int)} (hX : X.length ≤ 60000) (hx : ∀ l ∈ X, Oct l ∧ l.length ≤ 50000) (ab : Bool) : ∀ (d i : Nat) (acc : List (List Int)), X.length - i = d → i ≤ X.length → acc.length = i → (∀ l ∈ acc, Oct l ∧ l.length ≤ 50000) →
    ∃ ls b e, Ev (fun k => owner_Labels.l0 k ab acc (X.map strOfNums) (X.length : Int) (i : Int)) (ls, b, e) ∧ (∀ l ∈ ls, Oct l ∧ 1 ≤ l.length ∧ l.length ≤ 63) ∧ (e = 0 ∨ e = 62) := by
  intro d
  induction d with
  | zero =>
    intro i acc h1 h2 h3 h4
    have hr := right_loop2 (ls := acc) (by omega) (fun l hl => by have := h4 l hl; omega) _ 0 1 rfl (Nat.zero_le _) (by omega) (by omega)
    rw [List.drop_zero] at hr
    cases hb : rl 1 acc with
    | true =>
      refine ⟨acc, ab, 0, ?_, fun l hl => ⟨(h4 l hl).1, (rl_each acc 1 hb).1 l hl⟩, .inl rfl⟩
      refine Ev.step (fun k => rfl) (Ev.neg (by omega) (Ev.bind (hb ▸ hr) (Ev.pos rfl (Ev.now _))))
    | false =>
      refine ⟨[], false, 62, ?_, (fun l hl => by cases hl), .inr rfl⟩
      refine Ev.step (fun k => rfl) (Ev.neg (by omega) (Ev.bind (hb ▸ hr) (Ev.neg (by decide) (Ev.now _))))
  | succ d ih =>
    intro i acc h1 h2 h3 h4
    have hi : i < X.length := by omega
    have hxi := hx X[i] (List.getElem_mem hi)
    obtain ⟨r, e, hr, hro, hrl, _⟩ := plain_tot hxi.1 hxi.2
    obtain ⟨ls, b, e2, hls, h5⟩ := ih (i + 1) (acc ++ [r]) (by omega) (by omega) (by rw [List.length_append]; simp; omega) (fun l hl => by
      rcases List.mem_append.1 hl with hl | hl
      · exact h4 l hl
      · rw [List.mem_singleton.1 hl]; exact ⟨hro, by omega⟩)
    refine ⟨ls, b, e2, ?_, h5⟩
    have hrd : rdOf ByteArray.empty (X.map strOfNums) (i : Int) = strOfNums X[i] := by
      unfold rdOf
      rw [Int.toNat_natCast, List.getD_eq_getElem?_getD, List.getElem?_map, List.getElem?_eq_getElem hi]; rfl
    refine Ev.step (fun k => rfl) (Ev.pos (by omega) (Ev.pos (by omega) (Ev.pos (by rw [List.length_map]; omega) (Ev.bind (a := (r, e)) (by rw [hrd]; exact hr) (Ev.pos (by omega) ?_)))))
    rw [w64 (n := (i : Int) + 1) (by omega) (by omega), show (i : Int) + 1 = ((i + 1 : Nat) : Int) by omega]
    exact hls
theorem labels_tot {P : List Int} (ho : Oct P) (hP : P.length ≤ 50000) : ∃ ls b e, Ev (fun k => owner_Labels.f k (strOfNums P)) (ls, b, e) ∧ (∀ l ∈ ls, Oct l ∧ 1 ≤ l.length ∧ l.length ≤ 63) := by
  have hz := size_str P
  obtain ⟨r, e, hr, hro, hrl, hre⟩ := plain_tot ho hP
  by_cases c1 : e = 0
  · have hne := hre c1
    have hpos : 0 < P.length := List.length_pos_iff.2 hne
    by_cases c2 : bt (strOfNums P) 0 = 34
    · refine ⟨[], false, 62, ?_, (fun l hl => by cases hl)⟩
      unfold owner_Labels.f
      exact Ev.bind hr (Ev.pos c1 (Ev.pos (by omega) (Ev.pos c2 (Ev.now _))))
    · by_cases c3 : (strOfNums P).toList = ([46] : List UInt8)
      · refine ⟨[], true, 0, ?_, (fun l hl => by cases hl)⟩
        unfold owner_Labels.f
        exact Ev.bind hr (Ev.pos c1 (Ev.pos (by omega) (Ev.neg c2 (Ev.pos c3 (Ev.now _)))))
      · obtain ⟨X, hX, hXne, hXl, hXo⟩ := cut_tot ho hP
        have hXp : 0 < X.length := List.length_pos_iff.2 hXne
        have hw : wrap64 (((X.map strOfNums).length : Int) - 1) = ((X.length - 1 : Nat) : Int) := by rw [List.length_map, w64 (by omega) (by omega)]; omega
        have hln : (X.map strOfNums).length = X.length := List.length_map ..
        have fin_ : ∀ (Y : List (List Int)) (ab : Bool), Y.length ≤ 60000 → (∀ l ∈ Y, Oct l ∧ l.length ≤ 50000) → ∃ ls b e, Ev (fun k => owner_Labels.j0 k (Y.map strOfNums) ab) (ls, b, e) ∧ (∀ l ∈ ls, Oct l ∧ 1 ≤ l.length ∧ l.length ≤ 63) := fun Y ab hY hYo => by
          obtain ⟨ls, b, e, h1, h2, h3⟩ := lab_tot0 hY hYo ab _ 0 [] rfl (Nat.zero_le _) rfl (fun l hl => by cases hl)
          refine ⟨ls, b, e, Ev.succ ?_, h2⟩
          simp only [owner_Labels.j0, List.length_map]
          exact h1
        have hXo2 : ∀ l ∈ X, Oct l ∧ l.length ≤ 50000 := fun l hl => ⟨(hXo l hl).1, by have := (hXo l hl).2; omega⟩
        by_cases c4 : (rdOf ByteArray.empty (X.map strOfNums) (wrap64 (((X.map strOfNums).length : Int) - 1))).toList = ([] : List UInt8)
        · obtain ⟨ls, b, e2, h1, h2⟩ := fin_ (X.take (X.length - 1)) ((rdOf ByteArray.empty (X.map strOfNums) (wrap64 (((X.map strOfNums).length : Int) - 1))).toList == ([] : List UInt8)) (by rw [List.length_take]; omega) (fun l hl => hXo2 l (List.mem_of_mem_take hl))
          refine ⟨ls, b, e2, ?_, h2⟩
          unfold owner_Labels.f
          refine Ev.bind hr (Ev.pos c1 (Ev.pos (by omega) (Ev.neg c2 (Ev.neg c3 (Ev.bind hX (Ev.pos (by rw [hw]; omega) (Ev.pos (by rw [hw, hln]; omega) (Ev.pos c4 (Ev.pos (by rw [hw, hln]; omega) ?_)))))))))
          rw [← List.map_take] at *
          have e3 : (wrap64 (((X.map strOfNums).length : Int) - 1)).toNat = X.length - 1 := by rw [hw, Int.toNat_natCast]
          rw [e3]
          exact h1
        · obtain ⟨ls, b, e2, h1, h2⟩ := fin_ X ((rdOf ByteArray.empty (X.map strOfNums) (wrap64 (((X.map strOfNums).length : Int) - 1))).toList == ([] : List UInt8)) (by omega) hXo2
          refine ⟨ls, b, e2, ?_, h2⟩
          unfold owner_Labels.f
          refine Ev.bind hr (Ev.pos c1 (Ev.pos (by omega) (Ev.neg c2 (Ev.neg c3 (Ev.bind hX (Ev.pos (by rw [hw]; omega) (Ev.pos (by rw [hw, hln]; omega) (Ev.neg c4 ?_))))))))
          exact h1
  · refine ⟨[], false, e, ?_, (fun l hl => by cases hl)⟩
    unfold owner_Labels.f
    exact Ev.bind hr (Ev.neg c1 (Ev.now _))
end Go.Proofs.YtdnfmilnkoocdaaDoor.K

-- from Qf28
-- Made by hp.py, a program of this session, with the kit's printer. Not trusted: Lean checks it.
namespace Go.Proofs.YtdnfmilnkoocdaaDoor.Q
open Go.RowKit Go.Proofs.YtdnfmilnkoocdaaDoorW.PrintWords Go.Proofs.YtdnfmilnkoocdaaDoorW.PrintLast Go.Proofs.YtdnfmilnkoocdaaDoorW.PrintMore
attribute [local go_sem] max2_int min2_int max_two min_two max_three min_three max_four min_four   -- for this text's walks alone
set_option linter.unusedVariables false
set_option linter.unusedSimpArgs false

/-! ### paronymref11_Lower: function 28 -/
def paronymref11_Lower.l0 : Nat → ByteArray → List Int → Int → Option (ByteArray)
  | 0, _, _, _ => none
  | k + 1, x0, x3, x4 => if x4 < (x0.size : Int) then (if 0 ≤ x4 then (if (bt x0 x4) ≥ 65 then (if (bt x0 x4) ≤ 90 then (if x3.length < 140737488355328 then (paronymref11_Lower.l0 k x0 (x3 ++ [((bt x0 x4) + 32) % 256]) (wrap64 (x4 + 1))) else (none)) else (if x3.length < 140737488355328 then (paronymref11_Lower.l0 k x0 (x3 ++ [bt x0 x4]) (wrap64 (x4 + 1))) else (none))) else (if x3.length < 140737488355328 then (paronymref11_Lower.l0 k x0 (x3 ++ [bt x0 x4]) (wrap64 (x4 + 1))) else (none))) else (none)) else (some (strOfNums x3))
def paronymref11_Lower.f (k : Nat) (a0 : ByteArray) : Option (ByteArray) := paronymref11_Lower.l0 k a0 ([] : List Int) 0
theorem paronymref11_Lower.mono_l : ∀ k, (∀ y0 y1 y2, LeO (paronymref11_Lower.l0 k y0 y1 y2) (paronymref11_Lower.l0 (k + 1) y0 y1 y2))
  | 0 => fun _ _ _ r h => by simp [paronymref11_Lower.l0] at h
  | k + 1 => by
    have ih0 := paronymref11_Lower.mono_l k
    · intro y0 y1 y2
      unfold paronymref11_Lower.l0
      repeat' first
      | (with_reducible exact ih0 _ _ _)
      | (with_reducible exact LeO.refl _)
      | (with_reducible exact LeO.none _)
      | (with_reducible refine LeO.ite ?_ ?_)
      | (with_reducible refine LeO.bind ?_ (fun _ => ?_))
      | exact ih0 _ _ _
      | exact LeO.none _
      | refine LeO.ite ?_ ?_
      | refine LeO.bind ?_ (fun _ => ?_)
theorem paronymref11_Lower.mono : ∀ a0 k, LeO (paronymref11_Lower.f k a0) (paronymref11_Lower.f (k + 1) a0) := by
  intro a0 k
  have ih0 := paronymref11_Lower.mono_l k
  unfold paronymref11_Lower.f
  repeat' first
      | (with_reducible exact ih0 _ _ _)
      | (with_reducible exact LeO.refl _)
      | (with_reducible exact LeO.none _)
      | (with_reducible refine LeO.ite ?_ ?_)
      | (with_reducible refine LeO.bind ?_ (fun _ => ?_))
      | exact ih0 _ _ _
      | exact LeO.none _
      | refine LeO.ite ?_ ?_
      | refine LeO.bind ?_ (fun _ => ?_)
set_option maxHeartbeats 8000000 in
set_option maxRecDepth 100000 in
theorem paronymref11_Lower.calls (k : Nat) (a0 : ByteArray) (r : ByteArray) (w : World) (h : paronymref11_Lower.f k a0 = some r) :
    Calls Tryd.prog 28 #[.string a0] w fun e w' => e = .returned (.string r) ∧ Below w.heap.size w w' := by
  have HB := Aside0.mk (Below.refl w.heap.size w)
  have H : (paronymref11_Lower.l0 k a0 ([] : List Int) 0) = some r := h
  clear h
  have H' := Aside0.mk H
  clear H
  go_enter Tryd.func28, Tryd.ntmps28
  go_wp2
  go_loopg [3, 4] k (fun kq v3 v4 w' => ∃ (x3_1 : List Int) (x4_1 : Int), v4 = .int .i64 x4_1 ∧ Aside0 (paronymref11_Lower.l0 kq a0 x3_1 x4_1 = some r) ∧ Aside0 (kq ≤ k) ∧ Aside0 (Kd.R (Kd.int .u8) 5 w' w.heap.size (fun _ => True) v3 x3_1) ∧ Aside0 (Below w.heap.size w w'))
  case atStart => exact ⟨(([] : List Int)), (0), (by first | rfl | (simp; done) | (simp [*]; done)), H', ⟨Nat.le_refl _⟩, ⟨by first | exact Kd.R_nil _ _ _ _ _ | exact Kd.N_nil _ _ _ _ _ | exact Kd.V_nil _ _ _ _ _ | exact Kd.Q_nil _ _ _ _ _ | exact Kd.S_nil _ _ _ _ _⟩, ⟨by repeat (first | (with_reducible first | exact HB.out | apply below_alloc | apply pw_below_drewN | apply below_drew1) | exact HB.out)⟩⟩
  case round =>
    clear H'
    obtain ⟨x3_1, x4_1, rfl, HA, HK1, HO_3, HB⟩ := hrel
    cases gk with
    | zero => exact absurd HA.out (by simp [paronymref11_Lower.l0])
    | succ k1 =>
      have H := HA.out
      clear HA
      simp only [paronymref11_Lower.l0] at H
      by_cases c2 : x4_1 < (a0.size : Int)
      · rw [if_pos c2] at H
        have c2b0 : decide (x4_1 < (a0.size : Int)) = true := decide_eq_true c2
        clear c2
        by_cases c3 : 0 ≤ x4_1
        · rw [if_pos c3] at H
          have c3b0 : decide (0 ≤ x4_1) = true := decide_eq_true c3
          clear c3
          by_cases c5 : (bt a0 x4_1) ≥ 65
          · rw [if_pos c5] at H
            have c5b0 : decide (65 ≤ (bt a0 x4_1)) = true := decide_eq_true c5
            clear c5
            by_cases c6 : (bt a0 x4_1) ≤ 90
            · rw [if_pos c6] at H
              have c6b0 : decide ((bt a0 x4_1) ≤ 90) = true := decide_eq_true c6
              clear c6
              by_cases c7 : x3_1.length < 140737488355328
              · rw [if_pos c7] at H
                have LMc7 := Aside0.mk c7
                clear c7
                obtain ⟨y101, hy101⟩ : ∃ y_ : List Int, y_ = (x3_1 ++ [((bt a0 x4_1) + 32) % 256]) := ⟨_, rfl⟩
                replace H : (paronymref11_Lower.l0 k1 a0 y101 (wrap64 (x4_1 + 1))) = some r := by first | (rw [hy101]; with_reducible exact H) | (have H2_ := (Option.bind_some _ _).symm.trans H; rw [hy101]; with_reducible exact H2_) | (have H2_ := (Option.bind_some _ _).symm.trans H; with_reducible exact H2_) | with_reducible exact H | (rw [hy101]; exact H) | exact H
                have Ny101 := Aside0.mk hy101
                clear hy101
                have H' := Aside0.mk H
                clear H
                have p4 : 0 ≤ (x4_1 : Int) := of_decide_eq_true (by first | (with_reducible assumption) | assumption)
                have q4 : x4_1 < (a0.size : Int) := of_decide_eq_true (by first | (with_reducible assumption) | assumption)
                have hx4 := bt_at a0 x4_1
                replace p4 := eq_true p4
                replace q4 := eq_true q4
                go_wp2_with (first | ((with_reducible refine gate_builtin (b := .append) (xs := #[.tmp 23, .tmp 25]) rfl ?_); at_builtin; refine Kd.R_append (Kd.int .u8) (w0 := w) w.heap.size rfl (.tmp 23) (.tmp 25) 22 5 (.int .u8 0) 1 rfl Tryd.underlying22 info5 rfl (by decide) (by omega) u3 x3_1 (((bt a0 x4_1) + 32) % 256) [.int .u8 (((bt a0 x4_1) + 32) % 256)] (fun _ => True) (fun _ => False) rfl rfl ?aP (fun _ hk => hk.elim) ?aF ?aO ?aB ?aS ?aL ?_; (case aP => exact rfl); (case aB => exact (by repeat (first | (with_reducible first | exact HB.out | apply below_alloc | apply pw_below_drewN | apply below_drew1) | exact HB.out))); (case aF => exact (fun _ _ => trivial)); (case aO => exact (by (with_reducible repeat (first | apply Kd.R_alloc | apply Kd.R_drewN | apply Kd.R_drew)); exact HO_3.out)); (case aS => exact (below_size (by repeat (first | (with_reducible first | exact HB.out | apply below_alloc | apply pw_below_drewN | apply below_drew1) | exact HB.out)))); (case aL => have := LMc7.out; omega); intro v102 w8 ho hb hg hat; rw [← Ny101.out] at ho; have n0_ := Aside0.mk (hb); have n1_ := Aside0.mk (ho); clear HB; clear HO_3; have HB := n0_; have HO103 := n1_; clear n0_ n1_; clear ho hb hg hat))
                go_roundg k1
                case measure => have := HK1.out; omega
                case rel => exact ⟨(y101), (wrap64 (x4_1 + 1)), (by first | rfl | (simp; done) | (simp [*]; done)), H', ⟨by have := HK1.out; omega⟩, ⟨by (with_reducible repeat (first | apply Kd.R_alloc | apply Kd.R_drewN | apply Kd.R_drew)); exact HO103.out⟩, ⟨by repeat (first | (with_reducible first | exact HB.out | apply below_alloc | apply pw_below_drewN | apply below_drew1) | exact HB.out)⟩⟩
              · rw [if_neg c7] at H
                exact absurd H (by simp)
            · rw [if_neg c6] at H
              have c6b0 : decide ((bt a0 x4_1) ≤ 90) = false := decide_eq_false c6
              clear c6
              by_cases c9 : x3_1.length < 140737488355328
              · rw [if_pos c9] at H
                have LMc9 := Aside0.mk c9
                clear c9
                obtain ⟨y104, hy104⟩ : ∃ y_ : List Int, y_ = (x3_1 ++ [bt a0 x4_1]) := ⟨_, rfl⟩
                replace H : (paronymref11_Lower.l0 k1 a0 y104 (wrap64 (x4_1 + 1))) = some r := by first | (rw [hy104]; with_reducible exact H) | (have H2_ := (Option.bind_some _ _).symm.trans H; rw [hy104]; with_reducible exact H2_) | (have H2_ := (Option.bind_some _ _).symm.trans H; with_reducible exact H2_) | with_reducible exact H | (rw [hy104]; exact H) | exact H
                have Ny104 := Aside0.mk hy104
                clear hy104
                have H' := Aside0.mk H
                clear H
                have p4 : 0 ≤ (x4_1 : Int) := of_decide_eq_true (by first | (with_reducible assumption) | assumption)
                have q4 : x4_1 < (a0.size : Int) := of_decide_eq_true (by first | (with_reducible assumption) | assumption)
                have hx4 := bt_at a0 x4_1
                replace p4 := eq_true p4
                replace q4 := eq_true q4
                go_wp2_with (first | ((with_reducible refine gate_builtin (b := .append) (xs := #[.tmp 23, .tmp 25]) rfl ?_); at_builtin; refine Kd.R_append (Kd.int .u8) (w0 := w) w.heap.size rfl (.tmp 23) (.tmp 25) 22 5 (.int .u8 0) 1 rfl Tryd.underlying22 info5 rfl (by decide) (by omega) u3 x3_1 (bt a0 x4_1) [.int .u8 (bt a0 x4_1)] (fun _ => True) (fun _ => False) rfl rfl ?aP (fun _ hk => hk.elim) ?aF ?aO ?aB ?aS ?aL ?_; (case aP => exact rfl); (case aB => exact (by repeat (first | (with_reducible first | exact HB.out | apply below_alloc | apply pw_below_drewN | apply below_drew1) | exact HB.out))); (case aF => exact (fun _ _ => trivial)); (case aO => exact (by (with_reducible repeat (first | apply Kd.R_alloc | apply Kd.R_drewN | apply Kd.R_drew)); exact HO_3.out)); (case aS => exact (below_size (by repeat (first | (with_reducible first | exact HB.out | apply below_alloc | apply pw_below_drewN | apply below_drew1) | exact HB.out)))); (case aL => have := LMc9.out; omega); intro v105 w10 ho hb hg hat; rw [← Ny104.out] at ho; have n0_ := Aside0.mk (hb); have n1_ := Aside0.mk (ho); clear HB; clear HO_3; have HB := n0_; have HO106 := n1_; clear n0_ n1_; clear ho hb hg hat))
                go_roundg k1
                case measure => have := HK1.out; omega
                case rel => exact ⟨(y104), (wrap64 (x4_1 + 1)), (by first | rfl | (simp; done) | (simp [*]; done)), H', ⟨by have := HK1.out; omega⟩, ⟨by (with_reducible repeat (first | apply Kd.R_alloc | apply Kd.R_drewN | apply Kd.R_drew)); exact HO106.out⟩, ⟨by repeat (first | (with_reducible first | exact HB.out | apply below_alloc | apply pw_below_drewN | apply below_drew1) | exact HB.out)⟩⟩
              · rw [if_neg c9] at H
                exact absurd H (by simp)
          · rw [if_neg c5] at H
            have c5b0 : decide (65 ≤ (bt a0 x4_1)) = false := decide_eq_false c5
            clear c5
            by_cases c11 : x3_1.length < 140737488355328
            · rw [if_pos c11] at H
              have LMc11 := Aside0.mk c11
              clear c11
              obtain ⟨y107, hy107⟩ : ∃ y_ : List Int, y_ = (x3_1 ++ [bt a0 x4_1]) := ⟨_, rfl⟩
              replace H : (paronymref11_Lower.l0 k1 a0 y107 (wrap64 (x4_1 + 1))) = some r := by first | (rw [hy107]; with_reducible exact H) | (have H2_ := (Option.bind_some _ _).symm.trans H; rw [hy107]; with_reducible exact H2_) | (have H2_ := (Option.bind_some _ _).symm.trans H; with_reducible exact H2_) | with_reducible exact H | (rw [hy107]; exact H) | exact H
              have Ny107 := Aside0.mk hy107
              clear hy107
              have H' := Aside0.mk H
              clear H
              have p4 : 0 ≤ (x4_1 : Int) := of_decide_eq_true (by first | (with_reducible assumption) | assumption)
              have q4 : x4_1 < (a0.size : Int) := of_decide_eq_true (by first | (with_reducible assumption) | assumption)
              have hx4 := bt_at a0 x4_1
              replace p4 := eq_true p4
              replace q4 := eq_true q4
              go_wp2_with (first | ((with_reducible refine gate_builtin (b := .append) (xs := #[.tmp 23, .tmp 25]) rfl ?_); at_builtin; refine Kd.R_append (Kd.int .u8) (w0 := w) w.heap.size rfl (.tmp 23) (.tmp 25) 22 5 (.int .u8 0) 1 rfl Tryd.underlying22 info5 rfl (by decide) (by omega) u3 x3_1 (bt a0 x4_1) [.int .u8 (bt a0 x4_1)] (fun _ => True) (fun _ => False) rfl rfl ?aP (fun _ hk => hk.elim) ?aF ?aO ?aB ?aS ?aL ?_; (case aP => exact rfl); (case aB => exact (by repeat (first | (with_reducible first | exact HB.out | apply below_alloc | apply pw_below_drewN | apply below_drew1) | exact HB.out))); (case aF => exact (fun _ _ => trivial)); (case aO => exact (by (with_reducible repeat (first | apply Kd.R_alloc | apply Kd.R_drewN | apply Kd.R_drew)); exact HO_3.out)); (case aS => exact (below_size (by repeat (first | (with_reducible first | exact HB.out | apply below_alloc | apply pw_below_drewN | apply below_drew1) | exact HB.out)))); (case aL => have := LMc11.out; omega); intro v108 w12 ho hb hg hat; rw [← Ny107.out] at ho; have n0_ := Aside0.mk (hb); have n1_ := Aside0.mk (ho); clear HB; clear HO_3; have HB := n0_; have HO109 := n1_; clear n0_ n1_; clear ho hb hg hat))
              go_roundg k1
              case measure => have := HK1.out; omega
              case rel => exact ⟨(y107), (wrap64 (x4_1 + 1)), (by first | rfl | (simp; done) | (simp [*]; done)), H', ⟨by have := HK1.out; omega⟩, ⟨by (with_reducible repeat (first | apply Kd.R_alloc | apply Kd.R_drewN | apply Kd.R_drew)); exact HO109.out⟩, ⟨by repeat (first | (with_reducible first | exact HB.out | apply below_alloc | apply pw_below_drewN | apply below_drew1) | exact HB.out)⟩⟩
            · rw [if_neg c11] at H
              exact absurd H (by simp)
        · rw [if_neg c3] at H
          exact absurd H (by simp)
      · rw [if_neg c2] at H
        have c2b0 : decide (x4_1 < (a0.size : Int)) = false := decide_eq_false c2
        clear c2
        obtain rfl := Option.some.inj H
        have hcv13 := own_string (P := Tryd.prog) Tryd.underlying22 Tryd.underlying5 Tryd.underlying9 (Kd.own_of_R HO_3.out)
        have hcv14 := fun (nd_ : Nat) => own_string (P := Tryd.prog) Tryd.underlying22 Tryd.underlying5 Tryd.underlying9 (Kd.own_of_R (Kd.R_drewN HO_3.out nd_))
        go_wp2
        go_ret
        exact ⟨by first | rfl | (simp [errW_none, errW_some] <;> rfl) | (simp [*, errW_none, errW_some] <;> rfl), by repeat (first | (with_reducible first | exact HB.out | apply below_alloc | apply pw_below_drewN | apply below_drew1) | exact HB.out)⟩

end Go.Proofs.YtdnfmilnkoocdaaDoor.Q

-- from Qf123
-- Made by hp.py, a program of this session, with the kit's printer. Not trusted: Lean checks it.
namespace Go.Proofs.YtdnfmilnkoocdaaDoor.Q
open Go.RowKit Go.Proofs.YtdnfmilnkoocdaaDoorW.PrintWords Go.Proofs.YtdnfmilnkoocdaaDoorW.PrintLast Go.Proofs.YtdnfmilnkoocdaaDoorW.PrintMore
attribute [local go_sem] max2_int min2_int max_two min_two max_three min_three max_four min_four   -- for this text's walks alone
set_option linter.unusedVariables false
set_option linter.unusedSimpArgs false

/-! ### utf_Lower: function 123 -/
def utf_Lower.f (a0 : Int) : Option (Int) := if a0 ≥ 65 then (if a0 ≤ 90 then (some (wrap64 (a0 + 32))) else (some a0)) else (some a0)
set_option maxHeartbeats 8000000 in
set_option maxRecDepth 100000 in
theorem utf_Lower.calls (a0 : Int) (r : Int) (w : World) (h : utf_Lower.f a0 = some r) :
    Calls Tryd.prog 123 #[.int .i64 a0] w fun e w' => e = .returned (.int .i64 r) ∧ Drawn0 w w' := by
  have H : (if a0 ≥ 65 then (if a0 ≤ 90 then (some (wrap64 (a0 + 32))) else (some a0)) else (some a0)) = some r := h
  clear h
  by_cases c2 : a0 ≥ 65
  · rw [if_pos c2] at H
    have c2b0 : decide (65 ≤ a0) = true := decide_eq_true c2
    clear c2
    by_cases c3 : a0 ≤ 90
    · rw [if_pos c3] at H
      have c3b0 : decide (a0 ≤ 90) = true := decide_eq_true c3
      clear c3
      obtain rfl := Option.some.inj H
      go_enter Tryd.func123, Tryd.ntmps123
      go_wp2
      go_ret
      exact ⟨by first | rfl | (simp; done) | (simp [*]; done), by repeat (first | exact Drawn0.refl _ | apply Drawn0.step)⟩
    · rw [if_neg c3] at H
      have c3b0 : decide (a0 ≤ 90) = false := decide_eq_false c3
      clear c3
      obtain rfl := Option.some.inj H
      go_enter Tryd.func123, Tryd.ntmps123
      go_wp2
      go_ret
      exact ⟨by first | rfl | (simp; done) | (simp [*]; done), by repeat (first | exact Drawn0.refl _ | apply Drawn0.step)⟩
  · rw [if_neg c2] at H
    have c2b0 : decide (65 ≤ a0) = false := decide_eq_false c2
    clear c2
    obtain rfl := Option.some.inj H
    go_enter Tryd.func123, Tryd.ntmps123
    go_wp2
    go_ret
    exact ⟨by first | rfl | (simp; done) | (simp [*]; done), by repeat (first | exact Drawn0.refl _ | apply Drawn0.step)⟩

end Go.Proofs.YtdnfmilnkoocdaaDoor.Q

-- from Hldh
namespace Go.Proofs.YtdnfmilnkoocdaaDoor.Q
open Go.RowKit Go.Proofs.YtdnfmilnkoocdaaDoorW.PrintWords Go.Proofs.YtdnfmilnkoocdaaDoorW.PrintLast Go.Proofs.YtdnfmilnkoocdaaDoorW.PrintMore
set_option linter.unusedVariables false
set_option linter.unusedSimpArgs false

theorem hldh_info : (Tryd.prog.info? 5).map (fun i => (i.zero, i.size, i.bytes)) = some (some (.int .u8 0), 1, 1) := by kernel_rfl
theorem hldh_size : (Tryd.prog.info? 5).map (·.size) = some 1 := by kernel_rfl

def ldh_Lower.l0 : Nat → List Int → Int → Option (List Int)
  | 0, _, _ => none
  | k + 1, xs, i => if i < (xs.length : Int) then (if 0 ≤ i then (utf_Lower.f (wrap64 (rd xs i))).bind fun t => ldh_Lower.l0 k (xs.set i.toNat (t % 256)) (wrap64 (i + 1)) else none) else some xs
def ldh_Lower.f (k : Nat) (l0 : List Int) : Option (List Int) := if l0.length ≤ 281474976710656 then ldh_Lower.l0 k l0 0 else none
theorem ldh_Lower.mono_l : ∀ k, (∀ y0 y1, LeO (ldh_Lower.l0 k y0 y1) (ldh_Lower.l0 (k + 1) y0 y1))
  | 0 => fun _ _ r h => by simp [ldh_Lower.l0] at h
  | k + 1 => by
    have ih0 := ldh_Lower.mono_l k
    intro y0 y1
    unfold ldh_Lower.l0
    repeat' first
      | (with_reducible exact ih0 _ _)
      | (with_reducible exact LeO.refl _)
      | (with_reducible exact LeO.none _)
      | (with_reducible refine LeO.ite ?_ ?_)
      | (with_reducible refine LeO.bind ?_ (fun _ => ?_))
theorem ldh_Lower.mono : ∀ a0 k, LeO (ldh_Lower.f k a0) (ldh_Lower.f (k + 1) a0) := by
  intro a0 k
  have ih0 := ldh_Lower.mono_l k
  unfold ldh_Lower.f
  repeat' first
      | (with_reducible exact ih0 _ _)
      | (with_reducible exact LeO.none _)
      | (with_reducible refine LeO.ite ?_ ?_)

theorem ldh_Lower.shape {w1 : World} {base e : Nat} {v1 : Value} {n : Nat} (h : Kd.R (Kd.int .u8) e w1 base (fun _ => True) v1 (List.replicate n 0)) (hat : ∃ b, v1.ownBlock = some b ∧ base ≤ b) :
    ∃ g c, v1 = .slice (some ⟨g, 0, none⟩) n c := by
  obtain ⟨b, hb, _⟩ := hat
  have ho := Kd.own_of_R h
  rcases ho.2 with ⟨rfl, _⟩ | ⟨g, cap, cur, rfl, _⟩
  · simp [Value.ownBlock] at hb
  · exact ⟨g, cap, by rw [List.length_replicate]⟩
theorem ldh_Lower.copied (l0 : List Int) : l0.take (min l0.length (List.replicate l0.length (0 : Int)).length) ++ (List.replicate l0.length (0 : Int)).drop (min l0.length (List.replicate l0.length (0 : Int)).length) = l0 := by
  simp

set_option maxHeartbeats 1000000 in
set_option maxRecDepth 100000 in
theorem ldh_Lower.calls (k : Nat) (A0 : Option Addr) (c0 : Nat) (l0 : List Int) (r : List Int) (w : World) (hr0 : Kd.C (Kd.int .u8) w A0 l0.length l0) (hc0 : l0.length ≤ c0) (h : ldh_Lower.f k l0 = some r) :
    Calls Tryd.prog 100 #[.slice A0 l0.length c0] w fun e w' => ∃ v0_ : Value, e = .returned (v0_) ∧ Kd.R (Kd.int .u8) 5 w' w.heap.size (fun _ => True) v0_ r ∧ Below w.heap.size w w' := by
  unfold ldh_Lower.f at h
  by_cases hl : l0.length ≤ 281474976710656
  · rw [if_pos hl] at h
    have HA := Aside0.mk h
    have HR := Aside0.mk hr0
    have HL := Aside0.mk hl
    clear h hr0 hl
    go_enter Tryd.func100, Tryd.ntmps100
    go_wp2_with (first
      | ((with_reducible refine gate_dst (N := 8) rfl ?_)
         refine Kd.R_make (Kd.int .u8) (w0 := w) w.heap.size 5 rfl (N := 8) rfl 22 (.tmp 7) (.tmp 7) rfl (l0.length : Int) rfl rfl Tryd.underlying22 (.int .u8 0) 1 hldh_info rfl (by decide) (by decide) 0 (ok := fun _ => True) (okp := fun _ => True) rfl (fun _ h => h) trivial (by omega) (by have := HL.out; simp only [Int.toNat_natCast]; omega) (Below.refl _ _) (Nat.le_refl _) ?_
         intro v1 w1 hR1 hB1 _ hat
         rw [Int.toNat_natCast] at hR1
         obtain ⟨g1, c1, rfl⟩ := ldh_Lower.shape hR1 hat
         have HR1 := Aside0.mk hR1
         have HB1 := Aside0.mk hB1
         clear hR1 hB1 hat)
      | ((with_reducible refine gate_dst (N := 11) rfl ?_)
         refine Kd.R_copy (d := (0 : Int)) (w0 := w) w.heap.size rfl (.tmp 9) (.tmp 10) 22 22 5 rfl Tryd.underlying22 hldh_size _ (List.replicate l0.length 0) l0 A0 l0.length c0 (fun _ => True) rfl rfl HR1.out (Kd.C_below HR.out HB1.out) HB1.out HB1.out.size ?_
         intro w2 hR2 hB2 hg2
         rw [ldh_Lower.copied] at hR2
         have HR2 := Aside0.mk hR2
         have HB2 := Aside0.mk hB2
         clear hR2 hB2 hg2 HR1 HB1))
    go_loopg [14] k (fun kq v14 w' => ∃ (i : Int) (xs : List Int), v14 = .int .i64 i ∧ Aside0 (ldh_Lower.l0 kq xs i = some r) ∧ Aside0 (kq ≤ k) ∧ Aside0 (xs.length = l0.length) ∧ Aside0 (Kd.R (Kd.int .u8) 5 w' w.heap.size (fun _ => True) (.slice (some ⟨g1, 0, none⟩) l0.length c1) xs) ∧ Aside0 (Below w.heap.size w w'))
    case atStart => exact ⟨0, l0, rfl, HA, ⟨Nat.le_refl _⟩, ⟨rfl⟩, HR2, HB2⟩
    case round =>
      clear HA HR2 HB2
      obtain ⟨i, xs, rfl, HA, HK, HX, HR2, HB⟩ := hrel
      cases gk with
      | zero => exact absurd HA.out (by simp [ldh_Lower.l0])
      | succ k1 =>
        have H := HA.out
        clear HA
        simp only [ldh_Lower.l0] at H
        by_cases c1 : i < (xs.length : Int)
        · rw [if_pos c1] at H
          by_cases c2 : 0 ≤ i
          · rw [if_pos c2] at H
            obtain ⟨t, ht, H⟩ := Option.bind_eq_some_iff.mp H
            have HT := Aside0.mk ht
            have H' := Aside0.mk H
            clear ht H
            have hR3 := HR2.out
            rw [← HX.out] at hR3
            obtain ⟨hc0, hf⟩ := Kd.R_cell (d := (0 : Int)) hR3 i c2 c1
            have hc : wr.cell? ⟨g1, i.toNat, none⟩ = some (.int .u8 (rd xs i)) := hc0
            clear hc0
            have HR3 := Aside0.mk hR3
            have p1 : i < (l0.length : Int) := by have := HX.out; omega
            have q1 := eq_true p1
            have q2 := eq_true c2
            have hb1 : decide (i < (l0.length : Int)) = true := by have := HX.out; simp; omega
            have hb2 : decide (0 ≤ i) = true := decide_eq_true c2
            clear hR3 c1 c2 p1
            go_wp2_with (first | (go_at_call 123; (with_reducible refine (utf_Lower.calls _ t _ HT.out).mono ?_); rintro e w' ⟨rfl, ⟨nd, rfl⟩⟩))
            go_roundg k1
            case measure => have := HK.out; omega
            case rel =>
              obtain ⟨hR4, hg4⟩ := Kd.R_put (Kd.R_drewN HR3.out nd) i (t % 256)
              rw [HX.out] at hR4
              refine ⟨_, xs.set i.toNat (t % 256), rfl, H', ⟨by have := HK.out; omega⟩, ⟨by simp [HX.out]⟩, ⟨hR4⟩, ⟨(pw_below_drewN HB.out nd).grown hg4 HB.out.size (fun k e => by cases e; exact Kd.R_base HR3.out g1 rfl)⟩⟩
          · rw [if_neg c2] at H
            cases H
        · rw [if_neg c1] at H
          obtain rfl := Option.some.inj H
          have hb1 : decide (i < (l0.length : Int)) = false := by have := HX.out; simp; omega
          clear c1
          go_wp2
          go_ret
          exact ⟨_, rfl, by have := HR2.out; exact this, HB.out⟩
  · rw [if_neg hl] at h
    cases h

end Go.Proofs.YtdnfmilnkoocdaaDoor.Q

-- from Plow
/- Small letters, on lists of octets: ldh.Lower and the reference's Lower. -/
namespace Go.Proofs.YtdnfmilnkoocdaaDoor.K
set_option linter.unusedVariables false
set_option linter.unusedSimpArgs false
open Go.RowKit Go.Proofs.YtdnfmilnkoocdaaDoorW.PrintWords Go.Proofs.YtdnfmilnkoocdaaDoor.Q

def lower (x : Int) : Int := if 65 ≤ x ∧ x ≤ 90 then x + 32 else x
theorem lower_oct (x : Int) (h0 : 0 ≤ x) (h1 : x ≤ 255) : 0 ≤ lower x ∧ lower x ≤ 255 := by unfold lower; split <;> omega
theorem utf_Lower_is {x : Int} (h0 : 0 ≤ x) (h1 : x ≤ 255) : utf_Lower.f (wrap64 x) = some (lower x) := by
  rw [w64 (by omega) (by omega)]
  unfold utf_Lower.f lower
  by_cases a : x ≥ 65
  · by_cases b : x ≤ 90
    · rw [if_pos a, if_pos b, if_pos ⟨a, b⟩, w64 (by omega) (by omega)]
    · rw [if_pos a, if_neg b, if_neg (by omega)]
  · rw [if_neg a, if_neg (by omega)]
theorem set_take_drop (m : List Int) (f : Int → Int) (i : Nat) (h : i < m.length) : ((m.take i).map f ++ m.drop i).set i (f (rd m i)) = (m.take (i + 1)).map f ++ m.drop (i + 1) := by
  have hl : ((m.take i).map f).length = i := by simp; omega
  rw [drop_cons m i h, take_snoc m i h, List.set_append_right _ _ (by omega), hl]
  simp
theorem ldh_Lower_ev (l : List Int) (h : Oct l) (hl : l.length ≤ 281474976710656) : Ev (fun k => ldh_Lower.f k l) (l.map lower) := by
  have key : ∀ (d i : Nat), l.length - i = d → i ≤ l.length → Ev (fun k => ldh_Lower.l0 k ((l.take i).map lower ++ l.drop i) i) (l.map lower) := by
    intro d
    induction d with
    | zero =>
      intro i h1 h2
      have : i = l.length := by omega
      subst this
      refine Ev.step (fun k => rfl) (Ev.neg (by simp) ?_)
      simp only [List.take_length, List.drop_length, List.append_nil]
      exact Ev.now _
    | succ d ih =>
      intro i h1 h2
      have hi : i < l.length := by omega
      have hr : rd ((l.take i).map lower ++ l.drop i) (i : Int) = rd l i := by
        rw [rd_append_right (by simp; omega), drop_cons l i hi]
        have : ((i : Int) - (((l.take i).map lower).length : Int)) = 0 := by simp; omega
        rw [this]; rfl
      have hb := h.rd (i := (i : Int)) (by omega) (by omega)
      refine Ev.step (fun k => rfl) (Ev.pos (by simp; omega) (Ev.pos (by omega) ?_))
      rw [hr]
      refine Ev.bindS (utf_Lower_is hb.1 hb.2) ?_
      have hm : lower (rd l i) % 256 = lower (rd l i) := by have := lower_oct _ hb.1 hb.2; omega
      rw [hm, Int.toNat_natCast, set_take_drop l lower i hi, w64 (by omega) (by omega)]
      exact ih (i + 1) (by omega) (by omega)
  have := key l.length 0 (by omega) (by omega)
  unfold ldh_Lower.f
  refine Ev.pos hl ?_
  simpa using this

/-! the reference's Lower -/
theorem refLower_ev (l : List Int) (h : Oct l) (hl : l.length < 140737488355328) : Ev (fun k => paronymref11_Lower.f k (strOfNums l)) (strOfNums (l.map lower)) := by
  have key : ∀ (d i : Nat), l.length - i = d → i ≤ l.length → Ev (fun k => paronymref11_Lower.l0 k (strOfNums l) ((l.take i).map lower) i) (strOfNums (l.map lower)) := by
    intro d
    induction d with
    | zero =>
      intro i h1 h2
      have : i = l.length := by omega
      subst this
      refine Ev.step (fun k => rfl) (Ev.neg (by rw [size_str]; omega) ?_)
      simp only [List.take_length]
      exact Ev.now _
    | succ d ih =>
      intro i h1 h2
      have hi : i < l.length := by omega
      have hb := h.rd (i := (i : Int)) (by omega) (by omega)
      have e : bt (strOfNums l) (i : Int) = rd l i := bt_str h (by omega) (by omega)
      have hlen : ((l.take i).map lower).length < 140737488355328 := by simp; omega
      have hn := ih (i + 1) (by omega) (by omega)
      rw [take_snoc l i hi, List.map_append] at hn
      refine Ev.step (fun k => rfl) (Ev.pos (by rw [size_str]; omega) (Ev.pos (by omega) ?_))
      rw [e, w64 (by omega) (by omega)]
      by_cases a : rd l i ≥ 65
      · refine Ev.pos a ?_
        by_cases b : rd l i ≤ 90
        · refine Ev.pos b (Ev.pos hlen ?_)
          have : lower (rd l i) = (rd l i + 32) % 256 := by unfold lower; rw [if_pos ⟨a, b⟩]; omega
          rw [← this]; exact hn
        · refine Ev.neg b (Ev.pos hlen ?_)
          have : lower (rd l i) = rd l i := by unfold lower; rw [if_neg (by omega)]
          simp only [List.map_cons, List.map_nil, this] at hn; exact hn
      · refine Ev.neg a (Ev.pos hlen ?_)
        have : lower (rd l i) = rd l i := by unfold lower; rw [if_neg (by omega)]
        simp only [List.map_cons, List.map_nil, this] at hn; exact hn
  have := key l.length 0 (by omega) (by omega)
  unfold paronymref11_Lower.f
  simpa using this

theorem lower_idem (x : Int) : lower (lower x) = lower x := by unfold lower; split <;> (try split) <;> omega
theorem map_lower_idem (l : List Int) : (l.map lower).map lower = l.map lower := by
  rw [List.map_map]; exact List.map_congr_left (fun x _ => lower_idem x)
end Go.Proofs.YtdnfmilnkoocdaaDoor.K

-- from Hzlay
/- bytes.Clone, bytes.Split, bytes.TrimSuffix: the walks are the shelf's, laid for this program. -/
namespace Go.Proofs
open Go.Shelf
def Tryd.laysb140_ren : Go.Shelf.Ren := ⟨fun | 140 => 99 | 117 => 122 | 115 => 147 | n => n, fun | 37 => 22 | 4 => 4 | 3 => 3 | 9 => 9 | 5 => 5 | n => n, fun | n => n⟩
theorem Tryd.laysb140 : Go.Proofs.Lays.nb140 Tryd.prog Tryd.laysb140_ren := {
  mixed := by kernel_rfl
  f115 := Tryd.func147.trans (congrArg some (by kernel_rfl))
  f117 := Tryd.func122.trans (congrArg some (by kernel_rfl))
  f140 := Tryd.func99.trans (congrArg some (by kernel_rfl))
  t3 := Tryd.underlying3
  a3 := Tryd.isAgg3
  z3 := Tryd.sizeOf3
  v3 := Tryd.zeroValue3
  t4 := Tryd.underlying4
  a4 := Tryd.isAgg4
  z4 := Tryd.sizeOf4
  v4 := Tryd.zeroValue4
  t9 := Tryd.underlying9
  a9 := Tryd.isAgg9
  z9 := Tryd.sizeOf9
  v9 := Tryd.zeroValue9
  t37 := Tryd.underlying22
  a37 := Tryd.isAgg22
  z37 := Tryd.sizeOf22
  v37 := Tryd.zeroValue22
  t5 := Tryd.underlying5
  a5 := Tryd.isAgg5
  z5 := Tryd.sizeOf5
  v5 := Tryd.zeroValue5 }
def Tryd.laysk4_ren : Go.Shelf.Ren := ⟨fun | 4 => 60 | n => n, fun | 22 => 22 | 4 => 4 | 5 => 5 | n => n, fun | n => n⟩
theorem Tryd.laysk4 : Go.Proofs.SlLaysK.n4 Tryd.prog Tryd.laysk4_ren := {
  mixed := by kernel_rfl
  f4 := Tryd.func60.trans (congrArg some (by kernel_rfl))
  t4 := Tryd.underlying4
  a4 := Tryd.isAgg4
  z4 := Tryd.sizeOf4
  v4 := Tryd.zeroValue4
  t22 := Tryd.underlying22
  a22 := Tryd.isAgg22
  z22 := Tryd.sizeOf22
  v22 := Tryd.zeroValue22
  t5 := Tryd.underlying5
  i5 := by kernel_rfl }
def Tryd.laysp7_ren : Go.Shelf.Ren := ⟨fun | 7 => 80 | 11 => 98 | 14 => 119 | 15 => 120 | 16 => 121 | 17 => 143 | 19 => 144 | 20 => 145 | 21 => 146 | 22 => 147 | 23 => 148 | 24 => 139 | 25 => 149 | 26 => 159 | 29 => 125 | 30 => 160 | 31 => 161 | n => n, fun | 22 => 22 | 23 => 36 | 3 => 3 | 4 => 4 | 0 => 0 | 34 => 133 | 21 => 21 | 5 => 5 | 45 => 103 | 9 => 9 | 58 => 161 | 38 => 160 | 28 => 166 | 62 => 169 | 61 => 168 | n => n, fun | 2 => 0 | 3 => 1 | 4 => 2 | n => n⟩
theorem Tryd.laysp7 : Go.Proofs.SlLaysP.n7 Tryd.prog Tryd.laysp7_ren := {
  mixed := by kernel_rfl
  f7 := Tryd.func80.trans (congrArg some (by kernel_rfl))
  f11 := Tryd.func98.trans (congrArg some (by kernel_rfl))
  f15 := Tryd.func120.trans (congrArg some (by kernel_rfl))
  f16 := Tryd.func121.trans (congrArg some (by kernel_rfl))
  f20 := Tryd.func145.trans (congrArg some (by kernel_rfl))
  f21 := Tryd.func146.trans (congrArg some (by kernel_rfl))
  f22 := Tryd.func147.trans (congrArg some (by kernel_rfl))
  f23 := Tryd.func148.trans (congrArg some (by kernel_rfl))
  f24 := Tryd.func139.trans (congrArg some (by kernel_rfl))
  f25 := Tryd.func149.trans (congrArg some (by kernel_rfl))
  f30 := Tryd.func160.trans (congrArg some (by kernel_rfl))
  f31 := Tryd.func161.trans (congrArg some (by kernel_rfl))
  t0 := Tryd.underlying0
  a0 := Tryd.isAgg0
  z0 := Tryd.sizeOf0
  v0 := Tryd.zeroValue0
  t3 := Tryd.underlying3
  a3 := Tryd.isAgg3
  z3 := Tryd.sizeOf3
  v3 := Tryd.zeroValue3
  t4 := Tryd.underlying4
  a4 := Tryd.isAgg4
  z4 := Tryd.sizeOf4
  v4 := Tryd.zeroValue4
  t5 := Tryd.underlying5
  a5 := Tryd.isAgg5
  z5 := Tryd.sizeOf5
  v5 := Tryd.zeroValue5
  t9 := Tryd.underlying9
  a9 := Tryd.isAgg9
  z9 := Tryd.sizeOf9
  v9 := Tryd.zeroValue9
  t22 := Tryd.underlying22
  a22 := Tryd.isAgg22
  z22 := Tryd.sizeOf22
  v22 := Tryd.zeroValue22
  t23 := Tryd.underlying36
  a23 := Tryd.isAgg36
  z23 := Tryd.sizeOf36
  v23 := Tryd.zeroValue36
  t38 := Tryd.underlying160
  a38 := Tryd.isAgg160
  z38 := Tryd.sizeOf160
  v38 := Tryd.zeroValue160
  t45 := Tryd.underlying103
  a45 := Tryd.isAgg103
  z45 := Tryd.sizeOf103
  v45 := Tryd.zeroValue103
  t58 := Tryd.underlying161
  a58 := Tryd.isAgg161
  z58 := Tryd.sizeOf161
  v58 := Tryd.zeroValue161
  g2 := by kernel_rfl
  i22 := by kernel_rfl }
end Go.Proofs

-- from Pspl
/- Texts parted by an octet. -/
namespace Go.Proofs.YtdnfmilnkoocdaaDoor.K
set_option linter.unusedVariables false
set_option linter.unusedSimpArgs false
open Go.RowKit Go.Proofs.YtdnfmilnkoocdaaDoorW.PrintWords Go.Proofs.YtdnfmilnkoocdaaDoorW.PrintMore Go.Proofs.YtdnfmilnkoocdaaDoor.Q

/-- Parted by what p tells. -/
def splP {α : Type} (p : α → Bool) : List α → List (List α)
  | [] => [[]]
  | x :: l => if p x then [] :: splP p l else match splP p l with
    | [] => [[x]]
    | q :: r => (x :: q) :: r
theorem splP_cons {α : Type} (p : α → Bool) (x : α) (l : List α) : splP p (x :: l) = if p x then [] :: splP p l else match splP p l with
    | [] => [[x]]
    | q :: r => (x :: q) :: r := rfl
theorem splP_ne {α : Type} (p : α → Bool) : ∀ l, splP p l ≠ []
  | [] => by simp [splP]
  | x :: l => by
    unfold splP
    split
    · simp
    · split <;> simp
/-- The first one, and the rest. -/
theorem splP_hit {α : Type} {p : α → Bool} : ∀ {l a b : List α} {x : α}, l = a ++ x :: b → (∀ y ∈ a, p y = false) → p x = true → splP p l = a :: splP p b
  | _, [], b, x, rfl, _, hx => by simp [splP, hx]
  | _, y :: a, b, x, rfl, ha, hx => by
    have hy := ha y (by simp)
    have ih := splP_hit (l := a ++ x :: b) (a := a) rfl (fun z hz => ha z (by simp [hz])) hx
    rw [List.cons_append, splP_cons, hy, ih]
    rfl
theorem splP_miss {α : Type} {p : α → Bool} : ∀ {l : List α}, (∀ y ∈ l, p y = false) → splP p l = [l]
  | [], _ => rfl
  | y :: l, h => by
    have ih := splP_miss (l := l) (fun z hz => h z (by simp [hz]))
    rw [splP_cons, h y (by simp), ih]
    rfl
theorem splP_map {α β : Type} (f : α → β) {p : α → Bool} {q : β → Bool} : ∀ {l : List α}, (∀ x ∈ l, q (f x) = p x) → splP q (l.map f) = (splP p l).map (List.map f)
  | [], _ => rfl
  | x :: l, h => by
    have ih := splP_map f (l := l) (fun z hz => h z (by simp [hz]))
    rw [List.map_cons, splP_cons, splP_cons, h x (by simp), ih]
    cases hp : p x with
    | true => simp
    | false =>
      cases hs : splP p l with
      | nil => exact absurd hs (splP_ne p l)
      | cons a r => simp
/-- Where the library finds the first one. -/
theorem index_one {b : UInt8} : ∀ (l : List UInt8), (Lib.index l [b] = -1 ∧ ∀ y ∈ l, (y == b) = false) ∨ ∃ i : Nat, Lib.index l [b] = i ∧ i < l.length ∧ l = l.take i ++ b :: l.drop (i + 1) ∧ ∀ y ∈ l.take i, (y == b) = false
  | [] => .inl ⟨rfl, fun y h => by cases h⟩
  | x :: l => by
    by_cases hx : b = x
    · subst hx
      exact .inr ⟨0, by simp [Lib.index], by simp, by simp, by simp⟩
    · have hp : [b].isPrefixOf (x :: l) = false := by simp [List.isPrefixOf, hx]
      have hxb : (x == b) = false := beq_eq_false_iff_ne.mpr (fun e => hx e.symm)
      rcases index_one l with ⟨h1, h2⟩ | ⟨i, h1, h2, h3, h4⟩
      · refine .inl ⟨?_, fun y hy => ?_⟩
        · unfold Lib.index
          rw [hp, h1]
          rfl
        · rcases List.mem_cons.1 hy with rfl | hy
          · exact hxb
          · exact h2 y hy
      · refine .inr ⟨i + 1, ?_, by simpa using h2, by rw [List.take_succ_cons, List.drop_succ_cons, List.cons_append, ← h3], fun y hy => ?_⟩
        · unfold Lib.index
          rw [hp, h1]
          have : ((i : Int) == -1) = false := beq_eq_false_iff_ne.mpr (by omega)
          simp [this]
        · rw [List.take_succ_cons] at hy
          rcases List.mem_cons.1 hy with rfl | hy
          · exact hxb
          · exact h4 y hy
theorem split_one (b : UInt8) : ∀ (n : Nat) (l : List UInt8), l.length ≤ n → Lib.splitK [b] 0 (Lib.count l [b]) l = splP (· == b) l ∧ Lib.count l [b] + 1 = (splP (· == b) l).length := by
  intro n
  induction n with
  | zero =>
    intro l hl
    obtain rfl : l = [] := List.length_eq_zero_iff.1 (by omega)
    exact ⟨rfl, rfl⟩
  | succ n ih =>
    intro l hl
    rcases index_one (b := b) l with ⟨h1, h2⟩ | ⟨i, h1, h2, h3, h4⟩
    · rw [Lib.count_miss h1, splP_miss (p := (· == b)) h2]
      exact ⟨rfl, rfl⟩
    · rw [Lib.count_hit (by simp) h1, splP_hit (p := (· == b)) h3 h4 (by simp)]
      have hd : (l.drop (i + 1)).length ≤ n := by rw [List.length_drop]; omega
      obtain ⟨g1, g2⟩ := ih _ hd
      constructor
      · rw [show [b].length = 1 from rfl, Nat.add_comm 1]
        unfold Lib.splitK
        have hm : (Lib.index l [b] == -1) = false := by rw [h1]; exact beq_eq_false_iff_ne.mpr (by omega)
        rw [hm, h1]
        simp only [Bool.false_eq_true, if_false, Int.toNat_natCast, Nat.add_zero, List.length_cons, List.length_nil, Nat.zero_add]
        rw [g1]
      · show 1 + Lib.count (l.drop (i + 1)) [b] + 1 = _
        rw [List.length_cons, ← g2]; omega
/-- Octets parted by an octet. -/
def spl (c : Int) (l : List Int) : List (List Int) := splP (fun x => decide (x = c)) l
theorem spl_ne (c : Int) (l : List Int) : spl c l ≠ [] := splP_ne _ _
theorem spl_flat {α : Type} (p : α → Bool) : ∀ (l q : List α), q ∈ splP p l → ∀ x ∈ q, x ∈ l
  | [], q, h, x, hx => by
    have : q = [] := by simpa [splP] using h
    subst this
    cases hx
  | y :: l, q, h, x, hx => by
    unfold splP at h
    split at h
    · rcases List.mem_cons.1 h with rfl | h
      · cases hx
      · exact List.mem_cons_of_mem _ (spl_flat p l q h x hx)
    · split at h
      · rename_i e
        exact absurd e (splP_ne p l)
      · rename_i a r e
        rcases List.mem_cons.1 h with rfl | h
        · rcases List.mem_cons.1 hx with rfl | hx
          · simp
          · exact List.mem_cons_of_mem _ (spl_flat p l a (by rw [e]; simp) x hx)
        · exact List.mem_cons_of_mem _ (spl_flat p l q (by rw [e]; simp [h]) x hx)
theorem splP_sum {α : Type} (p : α → Bool) : ∀ l : List α, ((splP p l).map List.length).sum + (splP p l).length = l.length + 1
  | [] => rfl
  | x :: l => by
    have ih := splP_sum p l
    unfold splP
    split
    · simp at ih ⊢; omega
    · split
      · rename_i e
        exact absurd e (splP_ne p l)
      · rename_i a r e
        rw [e] at ih
        simp at ih ⊢; omega
theorem sum_mem : ∀ (L : List Nat) (n : Nat), n ∈ L → n ≤ L.sum
  | x :: L, n, h => by
    rw [List.sum_cons]
    rcases List.mem_cons.1 h with rfl | h
    · omega
    · have := sum_mem L n h; omega
theorem splP_len {α : Type} (p : α → Bool) (l q : List α) (h : q ∈ splP p l) : q.length ≤ l.length := by
  have h1 := splP_sum p l
  have h2 := sum_mem _ _ (List.mem_map_of_mem (f := List.length) h)
  have h3 := List.length_pos_iff.2 (splP_ne p l)
  omega
theorem splP_count {α : Type} (p : α → Bool) (l : List α) : (splP p l).length ≤ l.length + 1 := by
  have := splP_sum p l
  omega
end Go.Proofs.YtdnfmilnkoocdaaDoor.K
