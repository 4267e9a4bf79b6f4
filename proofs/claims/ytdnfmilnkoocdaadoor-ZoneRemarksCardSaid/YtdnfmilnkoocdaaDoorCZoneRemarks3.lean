/- Part 3 of 4 of the proof of ZoneRemarks: remarks between a zone's lines change no label For every input; no condition. -/
import Derived.Test.YtdnfmilnkoocdaaDoorCZoneRemarks1
import Derived.Test.YtdnfmilnkoocdaaDoorCZoneRemarks2
import Derived.Ground.NamesProg
import Derived.Shelf.Lay
import Derived.Shelf.Strings.Builder1
import Derived.Laws.AppendOwn

-- from Qf29
-- Made by hp.py, a program of this session, with the kit's printer. Not trusted: Lean checks it.
namespace Go.Proofs.YtdnfmilnkoocdaaDoor.Q
open Go.RowKit Go.Proofs.YtdnfmilnkoocdaaDoorW.PrintWords Go.Proofs.YtdnfmilnkoocdaaDoorW.PrintLast Go.Proofs.YtdnfmilnkoocdaaDoorW.PrintMore
attribute [local go_sem] max2_int min2_int max_two min_two max_three min_three max_four min_four   -- for this text's walks alone
set_option linter.unusedVariables false
set_option linter.unusedSimpArgs false

/-! ### paronymref02_Cut: function 29 -/
def paronymref02_Cut.l0 : Nat → ByteArray → Int → List ByteArray → Int → Int → Option (List ByteArray)
  | 0, _, _, _, _, _ => none
  | k + 1, x0, x1, x5, x6, x7 => if x7 ≤ (x0.size : Int) then (if x7 = (x0.size : Int) then (if 0 ≤ x6 then (if x6 ≤ x7 then (if x5.length < 8796093022208 then (paronymref02_Cut.l0 k x0 x1 (x5 ++ [x0.extract (x6 : Int).toNat (x7 : Int).toNat]) (wrap64 (x7 + 1)) (wrap64 (x7 + 1))) else (none)) else (none)) else (none)) else (if 0 ≤ x7 then (if x7 < (x0.size : Int) then (if (bt x0 x7) = x1 then (if 0 ≤ x6 then (if x6 ≤ x7 then (if x5.length < 8796093022208 then (paronymref02_Cut.l0 k x0 x1 (x5 ++ [x0.extract (x6 : Int).toNat (x7 : Int).toNat]) (wrap64 (x7 + 1)) (wrap64 (x7 + 1))) else (none)) else (none)) else (none)) else (paronymref02_Cut.l0 k x0 x1 x5 x6 (wrap64 (x7 + 1)))) else (none)) else (none))) else (some x5)
def paronymref02_Cut.f (k : Nat) (a0 : ByteArray) (a1 : Int) : Option (List ByteArray) := paronymref02_Cut.l0 k a0 a1 ([] : List ByteArray) 0 0
theorem paronymref02_Cut.mono_l : ∀ k, (∀ y0 y1 y2 y3 y4, LeO (paronymref02_Cut.l0 k y0 y1 y2 y3 y4) (paronymref02_Cut.l0 (k + 1) y0 y1 y2 y3 y4))
  | 0 => fun _ _ _ _ _ r h => by simp [paronymref02_Cut.l0] at h
  | k + 1 => by
    have ih0 := paronymref02_Cut.mono_l k
    · intro y0 y1 y2 y3 y4
      unfold paronymref02_Cut.l0
      repeat' first
      | (with_reducible exact ih0 _ _ _ _ _)
      | (with_reducible exact LeO.refl _)
      | (with_reducible exact LeO.none _)
      | (with_reducible refine LeO.ite ?_ ?_)
      | (with_reducible refine LeO.bind ?_ (fun _ => ?_))
      | exact ih0 _ _ _ _ _
      | exact LeO.none _
      | refine LeO.ite ?_ ?_
      | refine LeO.bind ?_ (fun _ => ?_)
theorem paronymref02_Cut.mono : ∀ a0 a1 k, LeO (paronymref02_Cut.f k a0 a1) (paronymref02_Cut.f (k + 1) a0 a1) := by
  intro a0 a1 k
  have ih0 := paronymref02_Cut.mono_l k
  unfold paronymref02_Cut.f
  repeat' first
      | (with_reducible exact ih0 _ _ _ _ _)
      | (with_reducible exact LeO.refl _)
      | (with_reducible exact LeO.none _)
      | (with_reducible refine LeO.ite ?_ ?_)
      | (with_reducible refine LeO.bind ?_ (fun _ => ?_))
      | exact ih0 _ _ _ _ _
      | exact LeO.none _
      | refine LeO.ite ?_ ?_
      | refine LeO.bind ?_ (fun _ => ?_)
set_option maxHeartbeats 8000000 in
set_option maxRecDepth 100000 in
theorem paronymref02_Cut.calls (k : Nat) (a0 : ByteArray) (a1 : Int) (r : List ByteArray) (w : World) (h : paronymref02_Cut.f k a0 a1 = some r) :
    Calls Tryd.prog 29 #[.string a0, .int .u8 a1] w fun e w' => ∃ v0_ : Value, e = .returned (v0_) ∧ Kd.R Kd.string 9 w' w.heap.size (fun _ => True) v0_ r ∧ Below w.heap.size w w' := by
  have HB := Aside0.mk (Below.refl w.heap.size w)
  have H : (paronymref02_Cut.l0 k a0 a1 ([] : List ByteArray) 0 0) = some r := h
  clear h
  have H' := Aside0.mk H
  clear H
  go_enter Tryd.func29, Tryd.ntmps29
  go_wp2
  go_loopg [5, 6, 7] k (fun kq v5 v6 v7 w' => ∃ (x5_1 : List ByteArray) (x6_1 : Int) (x7_1 : Int), v6 = .int .i64 x6_1 ∧ v7 = .int .i64 x7_1 ∧ Aside0 (paronymref02_Cut.l0 kq a0 a1 x5_1 x6_1 x7_1 = some r) ∧ Aside0 (kq ≤ k) ∧ Aside0 (Kd.R Kd.string 9 w' w.heap.size (fun _ => True) v5 x5_1) ∧ Aside0 (Below w.heap.size w w'))
  case atStart => exact ⟨(([] : List ByteArray)), (0), (0), (by first | rfl | (simp; done) | (simp [*]; done)), (by first | rfl | (simp; done) | (simp [*]; done)), H', ⟨Nat.le_refl _⟩, ⟨by first | exact Kd.R_nil _ _ _ _ _ | exact Kd.N_nil _ _ _ _ _ | exact Kd.V_nil _ _ _ _ _ | exact Kd.Q_nil _ _ _ _ _ | exact Kd.S_nil _ _ _ _ _⟩, ⟨by repeat (first | (with_reducible first | exact HB.out | apply below_alloc | apply pw_below_drewN | apply below_drew1) | exact HB.out)⟩⟩
  case round =>
    clear H'
    try clear c2
    try clear p2
    obtain ⟨x5_1, x6_1, x7_1, rfl, rfl, HA, HK1, HO_5, HB⟩ := hrel
    cases gk with
    | zero => exact absurd HA.out (by simp [paronymref02_Cut.l0])
    | succ k1 =>
      have H := HA.out
      clear HA
      simp only [paronymref02_Cut.l0] at H
      by_cases c3 : x7_1 ≤ (a0.size : Int)
      · rw [if_pos c3] at H
        have c3b0 : decide (x7_1 ≤ (a0.size : Int)) = true := decide_eq_true c3
        clear c3
        by_cases c4 : x7_1 = (a0.size : Int)
        · rw [if_pos c4] at H
          have c4b0 : (x7_1 == (a0.size : Int)) = true := beq_iff_eq.mpr c4
          have c4b1 : (x7_1 != (a0.size : Int)) = false := bne_eq_false_iff_eq.mpr c4
          clear c4
          by_cases c5 : 0 ≤ x6_1
          · rw [if_pos c5] at H
            have c5b0 := eq_true c5
            have c5b1 : decide (0 ≤ x6_1) = true := decide_eq_true c5
            clear c5
            by_cases c6 : x6_1 ≤ x7_1
            · rw [if_pos c6] at H
              have c6b0 := eq_true c6
              have c6b1 : decide (x6_1 ≤ x7_1) = true := decide_eq_true c6
              clear c6
              have c7b0 := eq_true (of_decide_eq_true (by first | (with_reducible assumption) | assumption) : x7_1 ≤ (a0.size : Int))
              by_cases c8 : x5_1.length < 8796093022208
              · rw [if_pos c8] at H
                have LMc8 := Aside0.mk c8
                clear c8
                obtain ⟨y101, hy101⟩ : ∃ y_ : List ByteArray, y_ = (x5_1 ++ [a0.extract (x6_1 : Int).toNat (x7_1 : Int).toNat]) := ⟨_, rfl⟩
                replace H : (paronymref02_Cut.l0 k1 a0 a1 y101 (wrap64 (x7_1 + 1)) (wrap64 (x7_1 + 1))) = some r := by first | (rw [hy101]; with_reducible exact H) | (have H2_ := (Option.bind_some _ _).symm.trans H; rw [hy101]; with_reducible exact H2_) | (have H2_ := (Option.bind_some _ _).symm.trans H; with_reducible exact H2_) | with_reducible exact H | (rw [hy101]; exact H) | exact H
                have Ny101 := Aside0.mk hy101
                clear hy101
                have H' := Aside0.mk H
                clear H
                go_wp2_with (first | ((with_reducible refine gate_builtin (b := .append) (xs := #[.tmp 25, .tmp 30]) rfl ?_); at_builtin; refine Kd.R_append Kd.string (w0 := w) w.heap.size rfl (.tmp 25) (.tmp 30) 24 9 (.string ⟨#[]⟩) 16 rfl Tryd.underlying24 info9 rfl (by decide) (by omega) u5 x5_1 (a0.extract (x6_1 : Int).toNat (x7_1 : Int).toNat) [.string (a0.extract (x6_1 : Int).toNat (x7_1 : Int).toNat)] (fun _ => True) (fun _ => False) rfl rfl ?aP (fun _ hk => hk.elim) ?aF ?aO ?aB ?aS ?aL ?_; (case aP => exact rfl); (case aB => exact (by repeat (first | (with_reducible first | exact HB.out | apply below_alloc | apply pw_below_drewN | apply below_drew1) | exact HB.out))); (case aF => exact (fun _ _ => trivial)); (case aO => exact (by (with_reducible repeat (first | apply Kd.R_alloc | apply Kd.R_drewN | apply Kd.R_drew)); exact HO_5.out)); (case aS => exact (below_size (by repeat (first | (with_reducible first | exact HB.out | apply below_alloc | apply pw_below_drewN | apply below_drew1) | exact HB.out)))); (case aL => have := LMc8.out; omega); intro v102 w9 ho hb hg hat; rw [← Ny101.out] at ho; have n0_ := Aside0.mk (hb); have n1_ := Aside0.mk (ho); clear HB; clear HO_5; have HB := n0_; have HO103 := n1_; clear n0_ n1_; clear ho hb hg hat))
                go_roundg k1
                case measure => have := HK1.out; omega
                case rel => exact ⟨(y101), (wrap64 (x7_1 + 1)), (wrap64 (x7_1 + 1)), (by first | rfl | (simp; done) | (simp [*]; done)), (by first | rfl | (simp; done) | (simp [*]; done)), H', ⟨by have := HK1.out; omega⟩, ⟨by (with_reducible repeat (first | apply Kd.R_alloc | apply Kd.R_drewN | apply Kd.R_drew)); exact HO103.out⟩, ⟨by repeat (first | (with_reducible first | exact HB.out | apply below_alloc | apply pw_below_drewN | apply below_drew1) | exact HB.out)⟩⟩
              · rw [if_neg c8] at H
                exact absurd H (by simp)
            · rw [if_neg c6] at H
              exact absurd H (by simp)
          · rw [if_neg c5] at H
            exact absurd H (by simp)
        · rw [if_neg c4] at H
          have c4b0 : (x7_1 == (a0.size : Int)) = false := beq_eq_false_iff_ne.mpr c4
          have c4b1 : (x7_1 != (a0.size : Int)) = true := bne_iff_ne.mpr c4
          by_cases c10 : 0 ≤ x7_1
          · rw [if_pos c10] at H
            have c10b0 : decide (0 ≤ x7_1) = true := decide_eq_true c10
            clear c10
            by_cases c11 : x7_1 < (a0.size : Int)
            · rw [if_pos c11] at H
              have c11b0 : decide (x7_1 < (a0.size : Int)) = true := decide_eq_true c11
              clear c11
              by_cases c13 : (bt a0 x7_1) = a1
              · rw [if_pos c13] at H
                have c13b0 : ((bt a0 x7_1) == a1) = true := beq_iff_eq.mpr c13
                have c13b1 : ((bt a0 x7_1) != a1) = false := bne_eq_false_iff_eq.mpr c13
                clear c13
                by_cases c14 : 0 ≤ x6_1
                · rw [if_pos c14] at H
                  have c14b0 := eq_true c14
                  have c14b1 : decide (0 ≤ x6_1) = true := decide_eq_true c14
                  clear c14
                  by_cases c15 : x6_1 ≤ x7_1
                  · rw [if_pos c15] at H
                    have c15b0 := eq_true c15
                    have c15b1 : decide (x6_1 ≤ x7_1) = true := decide_eq_true c15
                    clear c15
                    have c16b0 := eq_true (of_decide_eq_true (by first | (with_reducible assumption) | assumption) : x7_1 ≤ (a0.size : Int))
                    by_cases c17 : x5_1.length < 8796093022208
                    · rw [if_pos c17] at H
                      have LMc17 := Aside0.mk c17
                      clear c17
                      obtain ⟨y104, hy104⟩ : ∃ y_ : List ByteArray, y_ = (x5_1 ++ [a0.extract (x6_1 : Int).toNat (x7_1 : Int).toNat]) := ⟨_, rfl⟩
                      replace H : (paronymref02_Cut.l0 k1 a0 a1 y104 (wrap64 (x7_1 + 1)) (wrap64 (x7_1 + 1))) = some r := by first | (rw [hy104]; with_reducible exact H) | (have H2_ := (Option.bind_some _ _).symm.trans H; rw [hy104]; with_reducible exact H2_) | (have H2_ := (Option.bind_some _ _).symm.trans H; with_reducible exact H2_) | with_reducible exact H | (rw [hy104]; exact H) | exact H
                      have Ny104 := Aside0.mk hy104
                      clear hy104
                      have H' := Aside0.mk H
                      clear H
                      have p12 : 0 ≤ (x7_1 : Int) := of_decide_eq_true (by first | (with_reducible assumption) | assumption)
                      have q12 : x7_1 < (a0.size : Int) := of_decide_eq_true (by first | (with_reducible assumption) | assumption)
                      have hx12 := bt_at a0 x7_1
                      replace p12 := eq_true p12
                      replace q12 := eq_true q12
                      go_wp2_with (first | ((with_reducible refine gate_builtin (b := .append) (xs := #[.tmp 25, .tmp 30]) rfl ?_); at_builtin; refine Kd.R_append Kd.string (w0 := w) w.heap.size rfl (.tmp 25) (.tmp 30) 24 9 (.string ⟨#[]⟩) 16 rfl Tryd.underlying24 info9 rfl (by decide) (by omega) u5 x5_1 (a0.extract (x6_1 : Int).toNat (x7_1 : Int).toNat) [.string (a0.extract (x6_1 : Int).toNat (x7_1 : Int).toNat)] (fun _ => True) (fun _ => False) rfl rfl ?aP (fun _ hk => hk.elim) ?aF ?aO ?aB ?aS ?aL ?_; (case aP => exact rfl); (case aB => exact (by repeat (first | (with_reducible first | exact HB.out | apply below_alloc | apply pw_below_drewN | apply below_drew1) | exact HB.out))); (case aF => exact (fun _ _ => trivial)); (case aO => exact (by (with_reducible repeat (first | apply Kd.R_alloc | apply Kd.R_drewN | apply Kd.R_drew)); exact HO_5.out)); (case aS => exact (below_size (by repeat (first | (with_reducible first | exact HB.out | apply below_alloc | apply pw_below_drewN | apply below_drew1) | exact HB.out)))); (case aL => have := LMc17.out; omega); intro v105 w18 ho hb hg hat; rw [← Ny104.out] at ho; have n0_ := Aside0.mk (hb); have n1_ := Aside0.mk (ho); clear HB; clear HO_5; have HB := n0_; have HO106 := n1_; clear n0_ n1_; clear ho hb hg hat))
                      go_roundg k1
                      case measure => have := HK1.out; omega
                      case rel => exact ⟨(y104), (wrap64 (x7_1 + 1)), (wrap64 (x7_1 + 1)), (by first | rfl | (simp; done) | (simp [*]; done)), (by first | rfl | (simp; done) | (simp [*]; done)), H', ⟨by have := HK1.out; omega⟩, ⟨by (with_reducible repeat (first | apply Kd.R_alloc | apply Kd.R_drewN | apply Kd.R_drew)); exact HO106.out⟩, ⟨by repeat (first | (with_reducible first | exact HB.out | apply below_alloc | apply pw_below_drewN | apply below_drew1) | exact HB.out)⟩⟩
                    · rw [if_neg c17] at H
                      exact absurd H (by simp)
                  · rw [if_neg c15] at H
                    exact absurd H (by simp)
                · rw [if_neg c14] at H
                  exact absurd H (by simp)
              · rw [if_neg c13] at H
                have c13b0 : ((bt a0 x7_1) == a1) = false := beq_eq_false_iff_ne.mpr c13
                have c13b1 : ((bt a0 x7_1) != a1) = true := bne_iff_ne.mpr c13
                have H' := Aside0.mk H
                clear H
                have p12 : 0 ≤ (x7_1 : Int) := of_decide_eq_true (by first | (with_reducible assumption) | assumption)
                have q12 : x7_1 < (a0.size : Int) := of_decide_eq_true (by first | (with_reducible assumption) | assumption)
                have hx12 := bt_at a0 x7_1
                replace p12 := eq_true p12
                replace q12 := eq_true q12
                go_wp2
                go_roundg k1
                case measure => have := HK1.out; omega
                case rel => exact ⟨(x5_1), (x6_1), (wrap64 (x7_1 + 1)), (by first | rfl | (simp; done) | (simp [*]; done)), (by first | rfl | (simp; done) | (simp [*]; done)), H', ⟨by have := HK1.out; omega⟩, ⟨by (with_reducible repeat (first | apply Kd.R_alloc | apply Kd.R_drewN | apply Kd.R_drew)); exact HO_5.out⟩, ⟨by repeat (first | (with_reducible first | exact HB.out | apply below_alloc | apply pw_below_drewN | apply below_drew1) | exact HB.out)⟩⟩
            · rw [if_neg c11] at H
              exact absurd H (by simp)
          · rw [if_neg c10] at H
            exact absurd H (by simp)
      · rw [if_neg c3] at H
        have c3b0 : decide (x7_1 ≤ (a0.size : Int)) = false := decide_eq_false c3
        clear c3
        obtain rfl := Option.some.inj H
        go_wp2
        go_ret
        exact ⟨_, by first | rfl | (simp [errW_none, errW_some] <;> rfl) | (simp [*, errW_none, errW_some] <;> rfl), by (with_reducible repeat (first | apply Kd.R_alloc | apply Kd.R_drewN | apply Kd.R_drew)); exact HO_5.out, by repeat (first | (with_reducible first | exact HB.out | apply below_alloc | apply pw_below_drewN | apply below_drew1) | exact HB.out)⟩

end Go.Proofs.YtdnfmilnkoocdaaDoor.Q

-- from Qf7
-- Made by hp.py, a program of this session, with the kit's printer. Not trusted: Lean checks it.
namespace Go.Proofs.YtdnfmilnkoocdaaDoor.Q
open Go.RowKit Go.Proofs.YtdnfmilnkoocdaaDoorW.PrintWords Go.Proofs.YtdnfmilnkoocdaaDoorW.PrintLast Go.Proofs.YtdnfmilnkoocdaaDoorW.PrintMore
attribute [local go_sem] max2_int min2_int max_two min_two max_three min_three max_four min_four   -- for this text's walks alone
set_option linter.unusedVariables false
set_option linter.unusedSimpArgs false

/-! ### paronymlaw27_ZoneRemarks: function 7 -/
mutual
def paronymlaw27_ZoneRemarks.j0 : Nat → List Int → Bool → Option (Bool)
  | 0, _, _ => none
  | k + 1, x0, x18 => if x18 = true then ((paronymlaw27_awake.f k).bind fun t102 => (some t102)) else ((paronymref02_Cut.f k (strOfNums x0) 10).bind fun t103 => (paronymlaw27_ZoneRemarks.l0 k x0 t103 (⟨#[]⟩ : ByteArray) 0))
def paronymlaw27_ZoneRemarks.l0 : Nat → List Int → List ByteArray → ByteArray → Int → Option (Bool)
  | 0, _, _, _, _ => none
  | k + 1, x0, x3, x4, x5 => if x5 < (x3.length : Int) then (if 0 ≤ x5 then (if x4.size + (rdOf ByteArray.empty x3 x5).size ≤ 9223372036854775807 then (if (x4 ++ (rdOf ByteArray.empty x3 x5)).size + 20 ≤ 9223372036854775807 then (paronymlaw27_ZoneRemarks.l0 k x0 x3 ((x4 ++ (rdOf ByteArray.empty x3 x5)) ++ (⟨#[10, 59, 32, 114, 101, 109, 97, 114, 107, 10, 32, 73, 78, 32, 84, 88, 84, 32, 120, 10]⟩ : ByteArray)) (wrap64 (x5 + 1))) else (none)) else (none)) else (none)) else ((zone_Labels.f k x0).bind fun bt107 => ((bytesOf.f x4).bind fun t112 => ((zone_Labels.f k t112).bind fun bt115 => (if bt107.2.1 = bt115.2.1 then ((paronymref26_Texts.f k bt107.1).bind fun t120 => ((paronymref26_Texts.f k bt115.1).bind fun t123 => ((paronymref02_Same.f k t120 t123).bind fun t126 => (if t126 = true then (if bt107.2.2 = 0 then (if bt115.2.2 = 0 then (some true) else (some (bt115.2.2 == (wrap64 ((wrap64 (3 * bt107.2.2)) - 2))))) else (some (bt115.2.2 == (wrap64 ((wrap64 (3 * bt107.2.2)) - 2))))) else (some false))))) else (some false)))))
end
def paronymlaw27_ZoneRemarks.f (k : Nat) (l0 : List Int) : Option (Bool) := (paronymlaw27_awake.f k).bind fun t101 => (if t101 = true then (paronymlaw27_ZoneRemarks.j0 k l0 (decide ((l0.length : Int) > 600))) else (paronymlaw27_ZoneRemarks.j0 k l0 true))
theorem paronymlaw27_ZoneRemarks.mono_l : ∀ k, (∀ y0 y1, LeO (paronymlaw27_ZoneRemarks.j0 k y0 y1) (paronymlaw27_ZoneRemarks.j0 (k + 1) y0 y1)) ∧ (∀ y0 y1 y2 y3, LeO (paronymlaw27_ZoneRemarks.l0 k y0 y1 y2 y3) (paronymlaw27_ZoneRemarks.l0 (k + 1) y0 y1 y2 y3))
  | 0 => ⟨fun _ _ r h => by simp [paronymlaw27_ZoneRemarks.j0] at h, fun _ _ _ _ r h => by simp [paronymlaw27_ZoneRemarks.l0] at h⟩
  | k + 1 => by
    obtain ⟨ih0, ih1⟩ := paronymlaw27_ZoneRemarks.mono_l k
    refine ⟨?_, ?_⟩
    · intro y0 y1
      unfold paronymlaw27_ZoneRemarks.j0
      repeat' first
      | (with_reducible exact ih0 _ _)
      | (with_reducible exact ih1 _ _ _ _)
      | (with_reducible exact paronymlaw27_awake.mono _)
      | (with_reducible exact paronymref02_Cut.mono _ _ _)
      | (with_reducible exact paronymref02_Same.mono _ _ _)
      | (with_reducible exact paronymref26_Texts.mono _ _)
      | (with_reducible exact zone_Labels.mono _ _)
      | (with_reducible exact LeO.refl _)
      | (with_reducible exact LeO.none _)
      | (with_reducible refine LeO.ite ?_ ?_)
      | (with_reducible refine LeO.bind ?_ (fun _ => ?_))
      | exact ih0 _ _
      | exact ih1 _ _ _ _
      | exact paronymlaw27_awake.mono _
      | exact paronymref02_Cut.mono _ _ _
      | exact paronymref02_Same.mono _ _ _
      | exact paronymref26_Texts.mono _ _
      | exact zone_Labels.mono _ _
      | exact LeO.none _
      | refine LeO.ite ?_ ?_
      | refine LeO.bind ?_ (fun _ => ?_)
    · intro y0 y1 y2 y3
      unfold paronymlaw27_ZoneRemarks.l0
      repeat' first
      | (with_reducible exact ih0 _ _)
      | (with_reducible exact ih1 _ _ _ _)
      | (with_reducible exact paronymlaw27_awake.mono _)
      | (with_reducible exact paronymref02_Cut.mono _ _ _)
      | (with_reducible exact paronymref02_Same.mono _ _ _)
      | (with_reducible exact paronymref26_Texts.mono _ _)
      | (with_reducible exact zone_Labels.mono _ _)
      | (with_reducible exact LeO.refl _)
      | (with_reducible exact LeO.none _)
      | (with_reducible refine LeO.ite ?_ ?_)
      | (with_reducible refine LeO.bind ?_ (fun _ => ?_))
      | exact ih0 _ _
      | exact ih1 _ _ _ _
      | exact paronymlaw27_awake.mono _
      | exact paronymref02_Cut.mono _ _ _
      | exact paronymref02_Same.mono _ _ _
      | exact paronymref26_Texts.mono _ _
      | exact zone_Labels.mono _ _
      | exact LeO.none _
      | refine LeO.ite ?_ ?_
      | refine LeO.bind ?_ (fun _ => ?_)
theorem paronymlaw27_ZoneRemarks.mono : ∀ a0 k, LeO (paronymlaw27_ZoneRemarks.f k a0) (paronymlaw27_ZoneRemarks.f (k + 1) a0) := by
  intro a0 k
  obtain ⟨ih0, ih1⟩ := paronymlaw27_ZoneRemarks.mono_l k
  unfold paronymlaw27_ZoneRemarks.f
  repeat' first
      | (with_reducible exact ih0 _ _)
      | (with_reducible exact ih1 _ _ _ _)
      | (with_reducible exact paronymlaw27_awake.mono _)
      | (with_reducible exact paronymref02_Cut.mono _ _ _)
      | (with_reducible exact paronymref02_Same.mono _ _ _)
      | (with_reducible exact paronymref26_Texts.mono _ _)
      | (with_reducible exact zone_Labels.mono _ _)
      | (with_reducible exact LeO.refl _)
      | (with_reducible exact LeO.none _)
      | (with_reducible refine LeO.ite ?_ ?_)
      | (with_reducible refine LeO.bind ?_ (fun _ => ?_))
      | exact ih0 _ _
      | exact ih1 _ _ _ _
      | exact paronymlaw27_awake.mono _
      | exact paronymref02_Cut.mono _ _ _
      | exact paronymref02_Same.mono _ _ _
      | exact paronymref26_Texts.mono _ _
      | exact zone_Labels.mono _ _
      | exact LeO.none _
      | refine LeO.ite ?_ ?_
      | refine LeO.bind ?_ (fun _ => ?_)
set_option maxHeartbeats 8000000 in
set_option maxRecDepth 100000 in
theorem paronymlaw27_ZoneRemarks.calls (k : Nat) (A0 : Option Addr) (c0 : Nat) (l0 : List Int) (r : Bool) (w : World) (hr0 : Kd.C (Kd.int .u8) w A0 l0.length l0) (hc0 : l0.length ≤ c0) (h : paronymlaw27_ZoneRemarks.f k l0 = some r) :
    Calls Tryd.prog 7 #[.slice A0 l0.length c0] w fun e w' => e = .returned (.bool r) ∧ Below w.heap.size w w' := by
  have HR0 := Aside0.mk hr0
  have HC0 := Aside0.mk hc0
  clear hr0 hc0
  have HB := Aside0.mk (Below.refl w.heap.size w)
  have H : ((paronymlaw27_awake.f k).bind fun t101 => (if t101 = true then (paronymlaw27_ZoneRemarks.j0 k l0 (decide ((l0.length : Int) > 600))) else (paronymlaw27_ZoneRemarks.j0 k l0 true))) = some r := h
  clear h
  have HC2 := Aside0.mk H
  clear H
  go_enter Tryd.func7, Tryd.ntmps7
  go_upto_region 1 with (fail)
  go_cut [18] (fun v18 wc => ∃ (kq : Nat) (x18_1 : Bool), v18 = .bool x18_1 ∧ Aside0 (paronymlaw27_ZoneRemarks.j0 kq l0 x18_1 = some r) ∧ Aside0 (kq ≤ k) ∧ Aside0 (Below w.heap.size w wc))
  case first =>
    have H := HC2.out
    clear HC2
    replace H := Option.bind_eq_some_iff.mp H
    obtain ⟨t101, A30, H⟩ := H
    replace H : (if t101 = true then (paronymlaw27_ZoneRemarks.j0 k l0 (decide ((l0.length : Int) > 600))) else (paronymlaw27_ZoneRemarks.j0 k l0 true)) = some r := H
    have A3 := Aside0.mk A30
    clear A30
    by_cases c4 : t101 = true
    · subst c4
      have H1 : (paronymlaw27_ZoneRemarks.j0 k l0 (decide ((l0.length : Int) > 600))) = some r := by rw [if_pos rfl] at H; exact H
      clear H
      have H := H1
      clear H1
      have H' := Aside0.mk H
      clear H
      go_wp2_with (first | ((with_reducible refine gate_callee (f := 26) rfl ?_); refine goesL_ (some 12) rfl rfl Tryd.func26 (by kernel_rfl) rfl #[] rfl (by (try simp only [List.map_toArray, List.map_cons, List.map_nil]); first | done | rfl | (simp only [List.length_drop, List.length_take]; rfl)) ?_; (with_reducible refine (paronymlaw27_awake.calls k  true _ A3.out).mono ?_); rintro e w5 ⟨rfl, hb⟩; refine ⟨_, rfl, ?_⟩; have n0_ := Aside0.mk (below_step (by repeat (first | (with_reducible first | exact HB.out | apply below_alloc | apply pw_below_drewN | apply below_drew1) | exact HB.out)) hb); clear HB; have HB := n0_; clear n0_; (try clear hb); (try clear hb2); (try clear hk); (try clear hi)))
      go_meet
      case rel => exact ⟨_, (decide ((l0.length : Int) > 600)), (by first | rfl | (simp; done) | (simp [*]; done)), H', ⟨by first | omega | exact Nat.le_refl _⟩, ⟨by repeat (first | (with_reducible first | exact HB.out | apply below_alloc | apply pw_below_drewN | apply below_drew1) | exact HB.out)⟩⟩
    · replace c4 := Bool.eq_false_iff.mpr c4
      subst c4
      have H1 : (paronymlaw27_ZoneRemarks.j0 k l0 true) = some r := by rw [if_neg (show ¬ (false = true) by decide)] at H; exact H
      clear H
      have H := H1
      clear H1
      have H' := Aside0.mk H
      clear H
      go_wp2_with (first | ((with_reducible refine gate_callee (f := 26) rfl ?_); refine goesL_ (some 12) rfl rfl Tryd.func26 (by kernel_rfl) rfl #[] rfl (by (try simp only [List.map_toArray, List.map_cons, List.map_nil]); first | done | rfl | (simp only [List.length_drop, List.length_take]; rfl)) ?_; (with_reducible refine (paronymlaw27_awake.calls k  false _ A3.out).mono ?_); rintro e w6 ⟨rfl, hb⟩; refine ⟨_, rfl, ?_⟩; have n0_ := Aside0.mk (below_step (by repeat (first | (with_reducible first | exact HB.out | apply below_alloc | apply pw_below_drewN | apply below_drew1) | exact HB.out)) hb); clear HB; have HB := n0_; clear n0_; (try clear hb); (try clear hb2); (try clear hk); (try clear hi)))
      go_meet
      case rel => exact ⟨_, (true), (by first | rfl | (simp; done) | (simp [*]; done)), H', ⟨by first | omega | exact Nat.le_refl _⟩, ⟨by repeat (first | (with_reducible first | exact HB.out | apply below_alloc | apply pw_below_drewN | apply below_drew1) | exact HB.out)⟩⟩
  case rest =>
    clear HC2
    try clear c2
    try clear p2
    try clear c4
    obtain ⟨kq, x18_1, rfl, HA, HJ1, HB⟩ := hcut
    cases kq with
    | zero => exact absurd HA.out (by simp [paronymlaw27_ZoneRemarks.j0])
    | succ kj1 =>
      have H := HA.out
      clear HA
      simp only [paronymlaw27_ZoneRemarks.j0] at H
      by_cases c7 : x18_1 = true
      · subst c7
        have H1 : ((paronymlaw27_awake.f kj1).bind fun t102 => (some t102)) = some r := by rw [if_pos rfl] at H; exact H
        clear H
        have H := H1
        clear H1
        replace H := Option.bind_eq_some_iff.mp H
        obtain ⟨t102, A80, H⟩ := H
        replace H : (some t102) = some r := H
        have A8 := Aside0.mk A80
        clear A80
        obtain rfl := Option.some.inj H
        go_wp2_with (first | ((with_reducible refine gate_callee (f := 26) rfl ?_); refine goesL_ (some 19) rfl rfl Tryd.func26 (by kernel_rfl) rfl #[] rfl (by (try simp only [List.map_toArray, List.map_cons, List.map_nil]); first | done | rfl | (simp only [List.length_drop, List.length_take]; rfl)) ?_; (with_reducible refine (paronymlaw27_awake.calls kj1  t102 _ A8.out).mono ?_); rintro e w9 ⟨rfl, hb⟩; refine ⟨_, rfl, ?_⟩; have n0_ := Aside0.mk (below_step (by repeat (first | (with_reducible first | exact HB.out | apply below_alloc | apply pw_below_drewN | apply below_drew1) | exact HB.out)) hb); clear HB; have HB := n0_; clear n0_; (try clear hb); (try clear hb2); (try clear hk); (try clear hi)))
        go_ret
        exact ⟨by first | rfl | (simp [errW_none, errW_some] <;> rfl) | (simp [*, errW_none, errW_some] <;> rfl), by repeat (first | (with_reducible first | exact HB.out | apply below_alloc | apply pw_below_drewN | apply below_drew1) | exact HB.out)⟩
      · replace c7 := Bool.eq_false_iff.mpr c7
        subst c7
        have H1 : ((paronymref02_Cut.f kj1 (strOfNums l0) 10).bind fun t103 => (paronymlaw27_ZoneRemarks.l0 kj1 l0 t103 (⟨#[]⟩ : ByteArray) 0)) = some r := by rw [if_neg (show ¬ (false = true) by decide)] at H; exact H
        clear H
        have H := H1
        clear H1
        replace H := Option.bind_eq_some_iff.mp H
        obtain ⟨t103, A100, H⟩ := H
        replace H : (paronymlaw27_ZoneRemarks.l0 kj1 l0 t103 (⟨#[]⟩ : ByteArray) 0) = some r := H
        have A10 := Aside0.mk A100
        clear A100
        have H' := Aside0.mk H
        clear H
        have hcv11 := Kd.C_string (P := Tryd.prog) (A := A0) (c := c0) Tryd.underlying22 Tryd.underlying5 Tryd.underlying9 (Kd.C_below HR0.out HB.out)
        go_wp2_with (first | ((with_reducible refine gate_callee (f := 29) rfl ?_); refine goesL_ (some 22) rfl rfl Tryd.func29 (by kernel_rfl) rfl #[.string (strOfNums l0), .int .u8 10] rfl (by (try simp only [List.map_toArray, List.map_cons, List.map_nil]); first | done | rfl | (simp only [List.length_drop, List.length_take]; rfl)) ?_; (with_reducible refine (paronymref02_Cut.calls kj1 (strOfNums l0) 10 t103 _ A10.out).mono ?_); rintro e w12 ⟨v104, rfl, ho0, hb⟩; refine ⟨_, rfl, ?_⟩; have n0_ := Aside0.mk (Kd.R_lower ho0 (below_size (by repeat (first | (with_reducible first | exact HB.out | apply below_alloc | apply pw_below_drewN | apply below_drew1) | exact HB.out)))); have n1_ := Aside0.mk (below_step (by repeat (first | (with_reducible first | exact HB.out | apply below_alloc | apply pw_below_drewN | apply below_drew1) | exact HB.out)) hb); clear HB; have HO105 := n0_; have HB := n1_; clear n0_ n1_; (try clear hb); (try clear hb2); (try clear hk); (try clear hi); (try have hcv11 := Kd.C_string (P := Tryd.prog) (A := A0) (c := c0) Tryd.underlying22 Tryd.underlying5 Tryd.underlying9 (Kd.C_below HR0.out HB.out)); (try clear ho0)))
        go_loopg [4, 5] kj1 (fun kq v4 v5 w' => ∃ (x4_2 : ByteArray) (x5_2 : Int), v4 = .string x4_2 ∧ v5 = .int .i64 x5_2 ∧ Aside0 (paronymlaw27_ZoneRemarks.l0 kq l0 t103 x4_2 x5_2 = some r) ∧ Aside0 (kq ≤ kj1) ∧ Aside0 (Kd.R Kd.string 9 w' w.heap.size (fun _ => True) v104 t103) ∧ Aside0 (Below w.heap.size w w'))
        case atStart => exact ⟨((⟨#[]⟩ : ByteArray)), (0), (by first | rfl | (simp; done) | (simp [*]; done)), (by first | rfl | (simp; done) | (simp [*]; done)), H', ⟨Nat.le_refl _⟩, ⟨by (with_reducible repeat (first | apply Kd.R_alloc | apply Kd.R_drewN | apply Kd.R_drew)); exact HO105.out⟩, ⟨by repeat (first | (with_reducible first | exact HB.out | apply below_alloc | apply pw_below_drewN | apply below_drew1) | exact HB.out)⟩⟩
        case round =>
          clear H'
          try clear hcv1
          try clear c2
          try clear p2
          try clear c4
          try clear c7
          try clear hcv11
          try clear p2
          obtain ⟨x4_2, x5_2, rfl, rfl, HA, HK2, HO_3, HB⟩ := hrel
          cases gk with
          | zero => exact absurd HA.out (by simp [paronymlaw27_ZoneRemarks.l0])
          | succ k2 =>
            have H := HA.out
            clear HA
            simp only [paronymlaw27_ZoneRemarks.l0] at H
            by_cases c13 : x5_2 < (t103.length : Int)
            · rw [if_pos c13] at H
              have c13b0 : decide (x5_2 < (t103.length : Int)) = true := decide_eq_true c13
              clear c13
              by_cases c14 : 0 ≤ x5_2
              · rw [if_pos c14] at H
                have c14b0 : decide (0 ≤ x5_2) = true := decide_eq_true c14
                clear c14
                by_cases c15 : x4_2.size + (rdOf ByteArray.empty t103 x5_2).size ≤ 9223372036854775807
                · rw [if_pos c15] at H
                  have c15b0 := eq_true c15
                  have c15b1 : decide (x4_2.size + (rdOf ByteArray.empty t103 x5_2).size ≤ 9223372036854775807) = true := decide_eq_true c15
                  try have c15b2 : (9223372036854775807 < x4_2.size + (rdOf ByteArray.empty t103 x5_2).size) = False := eq_false (Nat.not_lt.2 c15)
                  by_cases c16 : (x4_2 ++ (rdOf ByteArray.empty t103 x5_2)).size + 20 ≤ 9223372036854775807
                  · rw [if_pos c16] at H
                    have c16b0 := eq_true c16
                    have c16b1 : decide ((x4_2 ++ (rdOf ByteArray.empty t103 x5_2)).size + 20 ≤ 9223372036854775807) = true := decide_eq_true c16
                    try have c16b2 : (9223372036854775807 < (x4_2 ++ (rdOf ByteArray.empty t103 x5_2)).size + 20) = False := eq_false (Nat.not_lt.2 c16)
                    have c16b9 : (9223372036854775807 < x4_2.size + (rdOf ByteArray.empty t103 x5_2).size + 20) = False := eq_false (by have h_ := c16; rw [ByteArray.size_append] at h_; omega)
                    have H' := Aside0.mk H
                    clear H
                    obtain ⟨Ao17, co17, eo17⟩ := Kd.R_slice HO_3.out
                    subst eo17
                    have p106 : 0 ≤ (x5_2 : Int) := of_decide_eq_true (by first | (with_reducible assumption) | assumption)
                    have q106 : x5_2 < (t103.length : Int) := of_decide_eq_true (by first | (with_reducible assumption) | assumption)
                    obtain ⟨ad106, e106, hx106_0⟩ := Kd.at_string (Kd.R_reads' HO_3.out).2.2 x5_2 p106 q106
                    cases e106
                    replace p106 := eq_true p106
                    replace q106 := eq_true q106
                    go_wp2
                    go_roundg k2
                    case measure => have := HJ1.out; have := HK2.out; omega
                    case rel => exact ⟨((x4_2 ++ (rdOf ByteArray.empty t103 x5_2)) ++ (⟨#[10, 59, 32, 114, 101, 109, 97, 114, 107, 10, 32, 73, 78, 32, 84, 88, 84, 32, 120, 10]⟩ : ByteArray)), (wrap64 (x5_2 + 1)), (by first | rfl | (simp; done) | (simp [*]; done)), (by first | rfl | (simp; done) | (simp [*]; done)), H', ⟨by have := HJ1.out; have := HK2.out; omega⟩, ⟨by (with_reducible repeat (first | apply Kd.R_alloc | apply Kd.R_drewN | apply Kd.R_drew)); exact HO_3.out⟩, ⟨by repeat (first | (with_reducible first | exact HB.out | apply below_alloc | apply pw_below_drewN | apply below_drew1) | exact HB.out)⟩⟩
                  · rw [if_neg c16] at H
                    exact absurd H (by simp)
                · rw [if_neg c15] at H
                  exact absurd H (by simp)
              · rw [if_neg c14] at H
                exact absurd H (by simp)
            · rw [if_neg c13] at H
              have c13b0 : decide (x5_2 < (t103.length : Int)) = false := decide_eq_false c13
              clear c13
              replace H := Option.bind_eq_some_iff.mp H
              obtain ⟨⟨t107, t108, t109⟩, A180, H⟩ := H
              replace H : ((bytesOf.f x4_2).bind fun t112 => ((zone_Labels.f k2 t112).bind fun bt115 => (if t108 = bt115.2.1 then ((paronymref26_Texts.f k2 t107).bind fun t120 => ((paronymref26_Texts.f k2 bt115.1).bind fun t123 => ((paronymref02_Same.f k2 t120 t123).bind fun t126 => (if t126 = true then (if t109 = 0 then (if bt115.2.2 = 0 then (some true) else (some (bt115.2.2 == (wrap64 ((wrap64 (3 * t109)) - 2))))) else (some (bt115.2.2 == (wrap64 ((wrap64 (3 * t109)) - 2))))) else (some false))))) else (some false)))) = some r := H
              have A18 := Aside0.mk A180
              clear A180
              replace H := Option.bind_eq_some_iff.mp H
              obtain ⟨t112, A190, H⟩ := H
              replace H : ((zone_Labels.f k2 t112).bind fun bt115 => (if t108 = bt115.2.1 then ((paronymref26_Texts.f k2 t107).bind fun t120 => ((paronymref26_Texts.f k2 bt115.1).bind fun t123 => ((paronymref02_Same.f k2 t120 t123).bind fun t126 => (if t126 = true then (if t109 = 0 then (if bt115.2.2 = 0 then (some true) else (some (bt115.2.2 == (wrap64 ((wrap64 (3 * t109)) - 2))))) else (some (bt115.2.2 == (wrap64 ((wrap64 (3 * t109)) - 2))))) else (some false))))) else (some false))) = some r := H
              have A19 := Aside0.mk A190
              clear A190
              replace H := Option.bind_eq_some_iff.mp H
              obtain ⟨⟨t115, t116, t117⟩, A200, H⟩ := H
              replace H : (if t108 = t116 then ((paronymref26_Texts.f k2 t107).bind fun t120 => ((paronymref26_Texts.f k2 t115).bind fun t123 => ((paronymref02_Same.f k2 t120 t123).bind fun t126 => (if t126 = true then (if t109 = 0 then (if t117 = 0 then (some true) else (some (t117 == (wrap64 ((wrap64 (3 * t109)) - 2))))) else (some (t117 == (wrap64 ((wrap64 (3 * t109)) - 2))))) else (some false))))) else (some false)) = some r := H
              have A20 := Aside0.mk A200
              clear A200
              by_cases c21 : t108 = t116
              · rw [if_pos c21] at H
                have c21b0 : (t108 == t116) = true := beq_iff_eq.mpr c21
                have c21b1 : (t108 != t116) = false := bne_eq_false_iff_eq.mpr c21
                clear c21
                replace H := Option.bind_eq_some_iff.mp H
                obtain ⟨t120, A220, H⟩ := H
                replace H : ((paronymref26_Texts.f k2 t115).bind fun t123 => ((paronymref02_Same.f k2 t120 t123).bind fun t126 => (if t126 = true then (if t109 = 0 then (if t117 = 0 then (some true) else (some (t117 == (wrap64 ((wrap64 (3 * t109)) - 2))))) else (some (t117 == (wrap64 ((wrap64 (3 * t109)) - 2))))) else (some false)))) = some r := H
                have A22 := Aside0.mk A220
                clear A220
                replace H := Option.bind_eq_some_iff.mp H
                obtain ⟨t123, A230, H⟩ := H
                replace H : ((paronymref02_Same.f k2 t120 t123).bind fun t126 => (if t126 = true then (if t109 = 0 then (if t117 = 0 then (some true) else (some (t117 == (wrap64 ((wrap64 (3 * t109)) - 2))))) else (some (t117 == (wrap64 ((wrap64 (3 * t109)) - 2))))) else (some false))) = some r := H
                have A23 := Aside0.mk A230
                clear A230
                replace H := Option.bind_eq_some_iff.mp H
                obtain ⟨t126, A240, H⟩ := H
                replace H : (if t126 = true then (if t109 = 0 then (if t117 = 0 then (some true) else (some (t117 == (wrap64 ((wrap64 (3 * t109)) - 2))))) else (some (t117 == (wrap64 ((wrap64 (3 * t109)) - 2))))) else (some false)) = some r := H
                have A24 := Aside0.mk A240
                clear A240
                by_cases c25 : t126 = true
                · subst c25
                  have H1 : (if t109 = 0 then (if t117 = 0 then (some true) else (some (t117 == (wrap64 ((wrap64 (3 * t109)) - 2))))) else (some (t117 == (wrap64 ((wrap64 (3 * t109)) - 2))))) = some r := by rw [if_pos rfl] at H; exact H
                  clear H
                  have H := H1
                  clear H1
                  by_cases c26 : t109 = 0
                  · rw [if_pos c26] at H
                    have c26b0 : (t109 == 0) = true := beq_iff_eq.mpr c26
                    have c26b1 : (t109 != 0) = false := bne_eq_false_iff_eq.mpr c26
                    clear c26
                    by_cases c27 : t117 = 0
                    · rw [if_pos c27] at H
                      have c27b0 : (t117 == 0) = true := beq_iff_eq.mpr c27
                      have c27b1 : (t117 != 0) = false := bne_eq_false_iff_eq.mpr c27
                      clear c27
                      obtain rfl := Option.some.inj H
                      obtain ⟨Ao28, co28, eo28⟩ := Kd.R_slice HO_3.out
                      subst eo28
                      go_wp2_with (first | ((with_reducible refine gate_callee (f := 27) rfl ?_); refine goesL_ (some 38) rfl rfl Tryd.func27 (by kernel_rfl) rfl #[.slice A0 l0.length c0] rfl (by (try simp only [List.map_toArray, List.map_cons, List.map_nil]); first | done | rfl | (simp only [List.length_drop, List.length_take]; rfl)) ?_; (with_reducible refine (zone_Labels.calls k2 _ _ l0 t107 t108 t109 _ ?side1 ?side2 A18.out).mono ?_); (case side1 => repeat (first | exact (Kd.C_below HR0.out HB.out) | (with_reducible refine Kd.C_alloc ?_ _) | (with_reducible refine Kd.C_drewN ?_ _) | (with_reducible refine Kd.C_drew ?_))); (case side2 => exact HC0.out); rintro e w29 ⟨v110, rfl, ho0, hb⟩; refine ⟨_, rfl, ?_⟩; have n0_ := Aside0.mk (Kd.R_below (by (with_reducible repeat (first | apply Kd.R_alloc | apply Kd.R_drewN | apply Kd.R_drew)); exact HO_3.out) hb); have n1_ := Aside0.mk (Kd.R_lower ho0 (below_size (by repeat (first | (with_reducible first | exact HB.out | apply below_alloc | apply pw_below_drewN | apply below_drew1) | exact HB.out)))); have n2_ := Aside0.mk (below_step (by repeat (first | (with_reducible first | exact HB.out | apply below_alloc | apply pw_below_drewN | apply below_drew1) | exact HB.out)) hb); clear HO_3; clear HB; have HO_3 := n0_; have HO111 := n1_; have HB := n2_; clear n0_ n1_ n2_; (try clear hb); (try clear hb2); (try clear hk); (try clear hi); (try clear ho0)) | ((with_reducible refine gate_dst (N := 44) rfl ?_); (try (refine gate_guard (by rfl) ?_; dsimp only)); refine bytesOf.step 9 22 5 _ x4_2 t112 A19.out rfl rfl rfl Tryd.underlying9 Tryd.underlying22 Tryd.underlying5 ?_; intro v113 w30 ho0 hb; have n0_ := Aside0.mk (Kd.R_below (by (with_reducible repeat (first | apply Kd.R_alloc | apply Kd.R_drewN | apply Kd.R_drew)); exact HO_3.out) hb); have n1_ := Aside0.mk (Kd.R_below (by (with_reducible repeat (first | apply Kd.R_alloc | apply Kd.R_drewN | apply Kd.R_drew)); exact HO111.out) hb); have n2_ := Aside0.mk (Kd.V_lower (Kd.V_mono (ok' := fun k_ => some k_ ≠ (.slice Ao28 t103.length co28 : Value).ownBlock ∧ some k_ ≠ (v110 : Value).ownBlock) ho0 (fun k_ hk_ => ⟨(Kd.fresh' (Kd.R_lt (by (with_reducible repeat (first | apply Kd.R_alloc | apply Kd.R_drewN | apply Kd.R_drew)); exact HO_3.out)) k_ hk_), (Kd.fresh' (Kd.R_lt (by (with_reducible repeat (first | apply Kd.R_alloc | apply Kd.R_drewN | apply Kd.R_drew)); exact HO111.out)) k_ hk_)⟩)) (below_size (by repeat (first | (with_reducible first | exact HB.out | apply below_alloc | apply pw_below_drewN | apply below_drew1) | exact HB.out)))); have n3_ := Aside0.mk (below_step (by repeat (first | (with_reducible first | exact HB.out | apply below_alloc | apply pw_below_drewN | apply below_drew1) | exact HB.out)) hb); clear HO_3; clear HO111; clear HB; have HO_3 := n0_; have HO111 := n1_; have HO114 := n2_; have HB := n3_; clear n0_ n1_ n2_ n3_; (try clear hb); (try clear hb2); (try clear hk); (try clear hi); (try clear ho0); obtain ⟨Ao31, co31, eo31⟩ := Kd.V_slice HO114.out; subst eo31) | ((with_reducible refine gate_callee (f := 27) rfl ?_); refine goesL_ (some 45) rfl rfl Tryd.func27 (by kernel_rfl) rfl #[.slice Ao31 t112.length co31] rfl (by (try simp only [List.map_toArray, List.map_cons, List.map_nil]); first | done | rfl | (simp only [List.length_drop, List.length_take]; rfl)) ?_; (with_reducible refine (zone_Labels.calls k2 _ _ t112 t115 t116 t117 _ ?side1 ?side2 A20.out).mono ?_); (case side1 => repeat (first | exact (Kd.V_reads' HO114.out).2.2 | (with_reducible refine Kd.C_alloc ?_ _) | (with_reducible refine Kd.C_drewN ?_ _) | (with_reducible refine Kd.C_drew ?_))); (case side2 => exact (Kd.V_reads' HO114.out).2.1); rintro e w32 ⟨v118, rfl, ho0, hb⟩; refine ⟨_, rfl, ?_⟩; have n0_ := Aside0.mk (Kd.R_below (by (with_reducible repeat (first | apply Kd.R_alloc | apply Kd.R_drewN | apply Kd.R_drew)); exact HO_3.out) hb); have n1_ := Aside0.mk (Kd.R_elder' (by (with_reducible repeat (first | apply Kd.R_alloc | apply Kd.R_drewN | apply Kd.R_drew)); exact HO111.out) (Kd.R_base ho0) hb); have n2_ := Aside0.mk (Kd.V_elder' (by (with_reducible repeat (first | apply Kd.V_alloc | apply Kd.V_drewN | apply Kd.V_drew)); exact HO114.out) (Kd.R_base ho0) hb); have n3_ := Aside0.mk (Kd.R_lower (Kd.R_new' ho0 (Kd.R_lt (by (with_reducible repeat (first | apply Kd.R_alloc | apply Kd.R_drewN | apply Kd.R_drew)); exact HO111.out))) (below_size (by repeat (first | (with_reducible first | exact HB.out | apply below_alloc | apply pw_below_drewN | apply below_drew1) | exact HB.out)))); have n4_ := Aside0.mk (below_step (by repeat (first | (with_reducible first | exact HB.out | apply below_alloc | apply pw_below_drewN | apply below_drew1) | exact HB.out)) hb); clear HO_3; clear HO111; clear HO114; clear HB; have HO_3 := n0_; have HO111 := n1_; have HO114 := n2_; have HO119 := n3_; have HB := n4_; clear n0_ n1_ n2_ n3_ n4_; (try clear hb); (try clear hb2); (try clear hk); (try clear hi); (try clear ho0); obtain ⟨Ao33, co33, eo33⟩ := Kd.R_slice HO111.out; subst eo33) | (go_at_call 23; (with_reducible refine (paronymref26_Texts.calls k2 _ _ t107 t120 _ ?side1 ?side2 A22.out).mono ?_); (case side1 => repeat (first | exact (Kd.R_reads' HO111.out).2.2 | (with_reducible refine Kd.C_alloc ?_ _) | (with_reducible refine Kd.C_drewN ?_ _) | (with_reducible refine Kd.C_drew ?_))); (case side2 => exact (Kd.R_reads' HO111.out).2.1); rintro e w34 ⟨v121, rfl, ho0, hb⟩; have n0_ := Aside0.mk (Kd.R_elder' (by (with_reducible repeat (first | apply Kd.R_alloc | apply Kd.R_drewN | apply Kd.R_drew)); exact HO_3.out) (Kd.R_base ho0) hb); have n1_ := Aside0.mk (Kd.R_below (by (with_reducible repeat (first | apply Kd.R_alloc | apply Kd.R_drewN | apply Kd.R_drew)); exact HO111.out) hb); have n2_ := Aside0.mk (Kd.V_elder' (by (with_reducible repeat (first | apply Kd.V_alloc | apply Kd.V_drewN | apply Kd.V_drew)); exact HO114.out) (Kd.R_base ho0) hb); have n3_ := Aside0.mk (Kd.R_below (by (with_reducible repeat (first | apply Kd.R_alloc | apply Kd.R_drewN | apply Kd.R_drew)); exact HO119.out) hb); have n4_ := Aside0.mk (Kd.R_lower (Kd.R_new' ho0 (Kd.R_lt (by (with_reducible repeat (first | apply Kd.R_alloc | apply Kd.R_drewN | apply Kd.R_drew)); exact HO_3.out))) (below_size (by repeat (first | (with_reducible first | exact HB.out | apply below_alloc | apply pw_below_drewN | apply below_drew1) | exact HB.out)))); have n5_ := Aside0.mk (below_step (by repeat (first | (with_reducible first | exact HB.out | apply below_alloc | apply pw_below_drewN | apply below_drew1) | exact HB.out)) hb); clear HO_3; clear HO111; clear HO114; clear HO119; clear HB; have HO_3 := n0_; have HO111 := n1_; have HO114 := n2_; have HO119 := n3_; have HO122 := n4_; have HB := n5_; clear n0_ n1_ n2_ n3_ n4_ n5_; (try clear hb); (try clear hb2); (try clear hk); (try clear hi); (try clear ho0); obtain ⟨Ao35, co35, eo35⟩ := Kd.R_slice HO119.out; subst eo35) | (go_at_call 23; (with_reducible refine (paronymref26_Texts.calls k2 _ _ t115 t123 _ ?side1 ?side2 A23.out).mono ?_); (case side1 => repeat (first | exact (Kd.R_reads' HO119.out).2.2 | (with_reducible refine Kd.C_alloc ?_ _) | (with_reducible refine Kd.C_drewN ?_ _) | (with_reducible refine Kd.C_drew ?_))); (case side2 => exact (Kd.R_reads' HO119.out).2.1); rintro e w36 ⟨v124, rfl, ho0, hb⟩; have n0_ := Aside0.mk (Kd.R_elder' (by (with_reducible repeat (first | apply Kd.R_alloc | apply Kd.R_drewN | apply Kd.R_drew)); exact HO_3.out) (Kd.R_base ho0) hb); have n1_ := Aside0.mk (Kd.R_below (by (with_reducible repeat (first | apply Kd.R_alloc | apply Kd.R_drewN | apply Kd.R_drew)); exact HO111.out) hb); have n2_ := Aside0.mk (Kd.V_elder' (by (with_reducible repeat (first | apply Kd.V_alloc | apply Kd.V_drewN | apply Kd.V_drew)); exact HO114.out) (Kd.R_base ho0) hb); have n3_ := Aside0.mk (Kd.R_below (by (with_reducible repeat (first | apply Kd.R_alloc | apply Kd.R_drewN | apply Kd.R_drew)); exact HO119.out) hb); have n4_ := Aside0.mk (Kd.R_elder' (by (with_reducible repeat (first | apply Kd.R_alloc | apply Kd.R_drewN | apply Kd.R_drew)); exact HO122.out) (Kd.R_base ho0) hb); have n5_ := Aside0.mk (Kd.R_lower (Kd.R_new' (Kd.R_new' ho0 (Kd.R_lt (by (with_reducible repeat (first | apply Kd.R_alloc | apply Kd.R_drewN | apply Kd.R_drew)); exact HO_3.out))) (Kd.R_lt (by (with_reducible repeat (first | apply Kd.R_alloc | apply Kd.R_drewN | apply Kd.R_drew)); exact HO122.out))) (below_size (by repeat (first | (with_reducible first | exact HB.out | apply below_alloc | apply pw_below_drewN | apply below_drew1) | exact HB.out)))); have n6_ := Aside0.mk (below_step (by repeat (first | (with_reducible first | exact HB.out | apply below_alloc | apply pw_below_drewN | apply below_drew1) | exact HB.out)) hb); clear HO_3; clear HO111; clear HO114; clear HO119; clear HO122; clear HB; have HO_3 := n0_; have HO111 := n1_; have HO114 := n2_; have HO119 := n3_; have HO122 := n4_; have HO125 := n5_; have HB := n6_; clear n0_ n1_ n2_ n3_ n4_ n5_ n6_; (try clear hb); (try clear hb2); (try clear hk); (try clear hi); (try clear ho0); obtain ⟨Ao37, co37, eo37⟩ := Kd.R_slice HO122.out; subst eo37; obtain ⟨Ao38, co38, eo38⟩ := Kd.R_slice HO125.out; subst eo38) | (go_at_call 16; (with_reducible refine (paronymref02_Same.calls k2 _ _ t120 _ _ t123 true _ ?side1 ?side2 ?side3 ?side4 A24.out).mono ?_); (case side1 => repeat (first | exact (Kd.R_reads' HO122.out).2.2 | (with_reducible refine Kd.C_alloc ?_ _) | (with_reducible refine Kd.C_drewN ?_ _) | (with_reducible refine Kd.C_drew ?_))); (case side2 => exact (Kd.R_reads' HO122.out).2.1); (case side3 => repeat (first | exact (Kd.R_reads' HO125.out).2.2 | (with_reducible refine Kd.C_alloc ?_ _) | (with_reducible refine Kd.C_drewN ?_ _) | (with_reducible refine Kd.C_drew ?_))); (case side4 => exact (Kd.R_reads' HO125.out).2.1); rintro e w' ⟨rfl, ⟨nd, rfl⟩⟩))
                      go_ret
                      exact ⟨by first | rfl | (simp [errW_none, errW_some] <;> rfl) | (simp [*, errW_none, errW_some] <;> rfl), by repeat (first | (with_reducible first | exact HB.out | apply below_alloc | apply pw_below_drewN | apply below_drew1) | exact HB.out)⟩
                    · rw [if_neg c27] at H
                      have c27b0 : (t117 == 0) = false := beq_eq_false_iff_ne.mpr c27
                      have c27b1 : (t117 != 0) = true := bne_iff_ne.mpr c27
                      obtain rfl := Option.some.inj H
                      obtain ⟨Ao39, co39, eo39⟩ := Kd.R_slice HO_3.out
                      subst eo39
                      go_wp2_with (first | ((with_reducible refine gate_callee (f := 27) rfl ?_); refine goesL_ (some 38) rfl rfl Tryd.func27 (by kernel_rfl) rfl #[.slice A0 l0.length c0] rfl (by (try simp only [List.map_toArray, List.map_cons, List.map_nil]); first | done | rfl | (simp only [List.length_drop, List.length_take]; rfl)) ?_; (with_reducible refine (zone_Labels.calls k2 _ _ l0 t107 t108 t109 _ ?side1 ?side2 A18.out).mono ?_); (case side1 => repeat (first | exact (Kd.C_below HR0.out HB.out) | (with_reducible refine Kd.C_alloc ?_ _) | (with_reducible refine Kd.C_drewN ?_ _) | (with_reducible refine Kd.C_drew ?_))); (case side2 => exact HC0.out); rintro e w40 ⟨v110, rfl, ho0, hb⟩; refine ⟨_, rfl, ?_⟩; have n0_ := Aside0.mk (Kd.R_below (by (with_reducible repeat (first | apply Kd.R_alloc | apply Kd.R_drewN | apply Kd.R_drew)); exact HO_3.out) hb); have n1_ := Aside0.mk (Kd.R_lower ho0 (below_size (by repeat (first | (with_reducible first | exact HB.out | apply below_alloc | apply pw_below_drewN | apply below_drew1) | exact HB.out)))); have n2_ := Aside0.mk (below_step (by repeat (first | (with_reducible first | exact HB.out | apply below_alloc | apply pw_below_drewN | apply below_drew1) | exact HB.out)) hb); clear HO_3; clear HB; have HO_3 := n0_; have HO111 := n1_; have HB := n2_; clear n0_ n1_ n2_; (try clear hb); (try clear hb2); (try clear hk); (try clear hi); (try clear ho0)) | ((with_reducible refine gate_dst (N := 44) rfl ?_); (try (refine gate_guard (by rfl) ?_; dsimp only)); refine bytesOf.step 9 22 5 _ x4_2 t112 A19.out rfl rfl rfl Tryd.underlying9 Tryd.underlying22 Tryd.underlying5 ?_; intro v113 w41 ho0 hb; have n0_ := Aside0.mk (Kd.R_below (by (with_reducible repeat (first | apply Kd.R_alloc | apply Kd.R_drewN | apply Kd.R_drew)); exact HO_3.out) hb); have n1_ := Aside0.mk (Kd.R_below (by (with_reducible repeat (first | apply Kd.R_alloc | apply Kd.R_drewN | apply Kd.R_drew)); exact HO111.out) hb); have n2_ := Aside0.mk (Kd.V_lower (Kd.V_mono (ok' := fun k_ => some k_ ≠ (.slice Ao39 t103.length co39 : Value).ownBlock ∧ some k_ ≠ (v110 : Value).ownBlock) ho0 (fun k_ hk_ => ⟨(Kd.fresh' (Kd.R_lt (by (with_reducible repeat (first | apply Kd.R_alloc | apply Kd.R_drewN | apply Kd.R_drew)); exact HO_3.out)) k_ hk_), (Kd.fresh' (Kd.R_lt (by (with_reducible repeat (first | apply Kd.R_alloc | apply Kd.R_drewN | apply Kd.R_drew)); exact HO111.out)) k_ hk_)⟩)) (below_size (by repeat (first | (with_reducible first | exact HB.out | apply below_alloc | apply pw_below_drewN | apply below_drew1) | exact HB.out)))); have n3_ := Aside0.mk (below_step (by repeat (first | (with_reducible first | exact HB.out | apply below_alloc | apply pw_below_drewN | apply below_drew1) | exact HB.out)) hb); clear HO_3; clear HO111; clear HB; have HO_3 := n0_; have HO111 := n1_; have HO114 := n2_; have HB := n3_; clear n0_ n1_ n2_ n3_; (try clear hb); (try clear hb2); (try clear hk); (try clear hi); (try clear ho0); obtain ⟨Ao42, co42, eo42⟩ := Kd.V_slice HO114.out; subst eo42) | ((with_reducible refine gate_callee (f := 27) rfl ?_); refine goesL_ (some 45) rfl rfl Tryd.func27 (by kernel_rfl) rfl #[.slice Ao42 t112.length co42] rfl (by (try simp only [List.map_toArray, List.map_cons, List.map_nil]); first | done | rfl | (simp only [List.length_drop, List.length_take]; rfl)) ?_; (with_reducible refine (zone_Labels.calls k2 _ _ t112 t115 t116 t117 _ ?side1 ?side2 A20.out).mono ?_); (case side1 => repeat (first | exact (Kd.V_reads' HO114.out).2.2 | (with_reducible refine Kd.C_alloc ?_ _) | (with_reducible refine Kd.C_drewN ?_ _) | (with_reducible refine Kd.C_drew ?_))); (case side2 => exact (Kd.V_reads' HO114.out).2.1); rintro e w43 ⟨v118, rfl, ho0, hb⟩; refine ⟨_, rfl, ?_⟩; have n0_ := Aside0.mk (Kd.R_below (by (with_reducible repeat (first | apply Kd.R_alloc | apply Kd.R_drewN | apply Kd.R_drew)); exact HO_3.out) hb); have n1_ := Aside0.mk (Kd.R_elder' (by (with_reducible repeat (first | apply Kd.R_alloc | apply Kd.R_drewN | apply Kd.R_drew)); exact HO111.out) (Kd.R_base ho0) hb); have n2_ := Aside0.mk (Kd.V_elder' (by (with_reducible repeat (first | apply Kd.V_alloc | apply Kd.V_drewN | apply Kd.V_drew)); exact HO114.out) (Kd.R_base ho0) hb); have n3_ := Aside0.mk (Kd.R_lower (Kd.R_new' ho0 (Kd.R_lt (by (with_reducible repeat (first | apply Kd.R_alloc | apply Kd.R_drewN | apply Kd.R_drew)); exact HO111.out))) (below_size (by repeat (first | (with_reducible first | exact HB.out | apply below_alloc | apply pw_below_drewN | apply below_drew1) | exact HB.out)))); have n4_ := Aside0.mk (below_step (by repeat (first | (with_reducible first | exact HB.out | apply below_alloc | apply pw_below_drewN | apply below_drew1) | exact HB.out)) hb); clear HO_3; clear HO111; clear HO114; clear HB; have HO_3 := n0_; have HO111 := n1_; have HO114 := n2_; have HO119 := n3_; have HB := n4_; clear n0_ n1_ n2_ n3_ n4_; (try clear hb); (try clear hb2); (try clear hk); (try clear hi); (try clear ho0); obtain ⟨Ao44, co44, eo44⟩ := Kd.R_slice HO111.out; subst eo44) | (go_at_call 23; (with_reducible refine (paronymref26_Texts.calls k2 _ _ t107 t120 _ ?side1 ?side2 A22.out).mono ?_); (case side1 => repeat (first | exact (Kd.R_reads' HO111.out).2.2 | (with_reducible refine Kd.C_alloc ?_ _) | (with_reducible refine Kd.C_drewN ?_ _) | (with_reducible refine Kd.C_drew ?_))); (case side2 => exact (Kd.R_reads' HO111.out).2.1); rintro e w45 ⟨v121, rfl, ho0, hb⟩; have n0_ := Aside0.mk (Kd.R_elder' (by (with_reducible repeat (first | apply Kd.R_alloc | apply Kd.R_drewN | apply Kd.R_drew)); exact HO_3.out) (Kd.R_base ho0) hb); have n1_ := Aside0.mk (Kd.R_below (by (with_reducible repeat (first | apply Kd.R_alloc | apply Kd.R_drewN | apply Kd.R_drew)); exact HO111.out) hb); have n2_ := Aside0.mk (Kd.V_elder' (by (with_reducible repeat (first | apply Kd.V_alloc | apply Kd.V_drewN | apply Kd.V_drew)); exact HO114.out) (Kd.R_base ho0) hb); have n3_ := Aside0.mk (Kd.R_below (by (with_reducible repeat (first | apply Kd.R_alloc | apply Kd.R_drewN | apply Kd.R_drew)); exact HO119.out) hb); have n4_ := Aside0.mk (Kd.R_lower (Kd.R_new' ho0 (Kd.R_lt (by (with_reducible repeat (first | apply Kd.R_alloc | apply Kd.R_drewN | apply Kd.R_drew)); exact HO_3.out))) (below_size (by repeat (first | (with_reducible first | exact HB.out | apply below_alloc | apply pw_below_drewN | apply below_drew1) | exact HB.out)))); have n5_ := Aside0.mk (below_step (by repeat (first | (with_reducible first | exact HB.out | apply below_alloc | apply pw_below_drewN | apply below_drew1) | exact HB.out)) hb); clear HO_3; clear HO111; clear HO114; clear HO119; clear HB; have HO_3 := n0_; have HO111 := n1_; have HO114 := n2_; have HO119 := n3_; have HO122 := n4_; have HB := n5_; clear n0_ n1_ n2_ n3_ n4_ n5_; (try clear hb); (try clear hb2); (try clear hk); (try clear hi); (try clear ho0); obtain ⟨Ao46, co46, eo46⟩ := Kd.R_slice HO119.out; subst eo46) | (go_at_call 23; (with_reducible refine (paronymref26_Texts.calls k2 _ _ t115 t123 _ ?side1 ?side2 A23.out).mono ?_); (case side1 => repeat (first | exact (Kd.R_reads' HO119.out).2.2 | (with_reducible refine Kd.C_alloc ?_ _) | (with_reducible refine Kd.C_drewN ?_ _) | (with_reducible refine Kd.C_drew ?_))); (case side2 => exact (Kd.R_reads' HO119.out).2.1); rintro e w47 ⟨v124, rfl, ho0, hb⟩; have n0_ := Aside0.mk (Kd.R_elder' (by (with_reducible repeat (first | apply Kd.R_alloc | apply Kd.R_drewN | apply Kd.R_drew)); exact HO_3.out) (Kd.R_base ho0) hb); have n1_ := Aside0.mk (Kd.R_below (by (with_reducible repeat (first | apply Kd.R_alloc | apply Kd.R_drewN | apply Kd.R_drew)); exact HO111.out) hb); have n2_ := Aside0.mk (Kd.V_elder' (by (with_reducible repeat (first | apply Kd.V_alloc | apply Kd.V_drewN | apply Kd.V_drew)); exact HO114.out) (Kd.R_base ho0) hb); have n3_ := Aside0.mk (Kd.R_below (by (with_reducible repeat (first | apply Kd.R_alloc | apply Kd.R_drewN | apply Kd.R_drew)); exact HO119.out) hb); have n4_ := Aside0.mk (Kd.R_elder' (by (with_reducible repeat (first | apply Kd.R_alloc | apply Kd.R_drewN | apply Kd.R_drew)); exact HO122.out) (Kd.R_base ho0) hb); have n5_ := Aside0.mk (Kd.R_lower (Kd.R_new' (Kd.R_new' ho0 (Kd.R_lt (by (with_reducible repeat (first | apply Kd.R_alloc | apply Kd.R_drewN | apply Kd.R_drew)); exact HO_3.out))) (Kd.R_lt (by (with_reducible repeat (first | apply Kd.R_alloc | apply Kd.R_drewN | apply Kd.R_drew)); exact HO122.out))) (below_size (by repeat (first | (with_reducible first | exact HB.out | apply below_alloc | apply pw_below_drewN | apply below_drew1) | exact HB.out)))); have n6_ := Aside0.mk (below_step (by repeat (first | (with_reducible first | exact HB.out | apply below_alloc | apply pw_below_drewN | apply below_drew1) | exact HB.out)) hb); clear HO_3; clear HO111; clear HO114; clear HO119; clear HO122; clear HB; have HO_3 := n0_; have HO111 := n1_; have HO114 := n2_; have HO119 := n3_; have HO122 := n4_; have HO125 := n5_; have HB := n6_; clear n0_ n1_ n2_ n3_ n4_ n5_ n6_; (try clear hb); (try clear hb2); (try clear hk); (try clear hi); (try clear ho0); obtain ⟨Ao48, co48, eo48⟩ := Kd.R_slice HO122.out; subst eo48; obtain ⟨Ao49, co49, eo49⟩ := Kd.R_slice HO125.out; subst eo49) | (go_at_call 16; (with_reducible refine (paronymref02_Same.calls k2 _ _ t120 _ _ t123 true _ ?side1 ?side2 ?side3 ?side4 A24.out).mono ?_); (case side1 => repeat (first | exact (Kd.R_reads' HO122.out).2.2 | (with_reducible refine Kd.C_alloc ?_ _) | (with_reducible refine Kd.C_drewN ?_ _) | (with_reducible refine Kd.C_drew ?_))); (case side2 => exact (Kd.R_reads' HO122.out).2.1); (case side3 => repeat (first | exact (Kd.R_reads' HO125.out).2.2 | (with_reducible refine Kd.C_alloc ?_ _) | (with_reducible refine Kd.C_drewN ?_ _) | (with_reducible refine Kd.C_drew ?_))); (case side4 => exact (Kd.R_reads' HO125.out).2.1); rintro e w' ⟨rfl, ⟨nd, rfl⟩⟩))
                      go_ret
                      exact ⟨by first | rfl | (simp [errW_none, errW_some] <;> rfl) | (simp [*, errW_none, errW_some] <;> rfl), by repeat (first | (with_reducible first | exact HB.out | apply below_alloc | apply pw_below_drewN | apply below_drew1) | exact HB.out)⟩
                  · rw [if_neg c26] at H
                    have c26b0 : (t109 == 0) = false := beq_eq_false_iff_ne.mpr c26
                    have c26b1 : (t109 != 0) = true := bne_iff_ne.mpr c26
                    obtain rfl := Option.some.inj H
                    obtain ⟨Ao50, co50, eo50⟩ := Kd.R_slice HO_3.out
                    subst eo50
                    go_wp2_with (first | ((with_reducible refine gate_callee (f := 27) rfl ?_); refine goesL_ (some 38) rfl rfl Tryd.func27 (by kernel_rfl) rfl #[.slice A0 l0.length c0] rfl (by (try simp only [List.map_toArray, List.map_cons, List.map_nil]); first | done | rfl | (simp only [List.length_drop, List.length_take]; rfl)) ?_; (with_reducible refine (zone_Labels.calls k2 _ _ l0 t107 t108 t109 _ ?side1 ?side2 A18.out).mono ?_); (case side1 => repeat (first | exact (Kd.C_below HR0.out HB.out) | (with_reducible refine Kd.C_alloc ?_ _) | (with_reducible refine Kd.C_drewN ?_ _) | (with_reducible refine Kd.C_drew ?_))); (case side2 => exact HC0.out); rintro e w51 ⟨v110, rfl, ho0, hb⟩; refine ⟨_, rfl, ?_⟩; have n0_ := Aside0.mk (Kd.R_below (by (with_reducible repeat (first | apply Kd.R_alloc | apply Kd.R_drewN | apply Kd.R_drew)); exact HO_3.out) hb); have n1_ := Aside0.mk (Kd.R_lower ho0 (below_size (by repeat (first | (with_reducible first | exact HB.out | apply below_alloc | apply pw_below_drewN | apply below_drew1) | exact HB.out)))); have n2_ := Aside0.mk (below_step (by repeat (first | (with_reducible first | exact HB.out | apply below_alloc | apply pw_below_drewN | apply below_drew1) | exact HB.out)) hb); clear HO_3; clear HB; have HO_3 := n0_; have HO111 := n1_; have HB := n2_; clear n0_ n1_ n2_; (try clear hb); (try clear hb2); (try clear hk); (try clear hi); (try clear ho0)) | ((with_reducible refine gate_dst (N := 44) rfl ?_); (try (refine gate_guard (by rfl) ?_; dsimp only)); refine bytesOf.step 9 22 5 _ x4_2 t112 A19.out rfl rfl rfl Tryd.underlying9 Tryd.underlying22 Tryd.underlying5 ?_; intro v113 w52 ho0 hb; have n0_ := Aside0.mk (Kd.R_below (by (with_reducible repeat (first | apply Kd.R_alloc | apply Kd.R_drewN | apply Kd.R_drew)); exact HO_3.out) hb); have n1_ := Aside0.mk (Kd.R_below (by (with_reducible repeat (first | apply Kd.R_alloc | apply Kd.R_drewN | apply Kd.R_drew)); exact HO111.out) hb); have n2_ := Aside0.mk (Kd.V_lower (Kd.V_mono (ok' := fun k_ => some k_ ≠ (.slice Ao50 t103.length co50 : Value).ownBlock ∧ some k_ ≠ (v110 : Value).ownBlock) ho0 (fun k_ hk_ => ⟨(Kd.fresh' (Kd.R_lt (by (with_reducible repeat (first | apply Kd.R_alloc | apply Kd.R_drewN | apply Kd.R_drew)); exact HO_3.out)) k_ hk_), (Kd.fresh' (Kd.R_lt (by (with_reducible repeat (first | apply Kd.R_alloc | apply Kd.R_drewN | apply Kd.R_drew)); exact HO111.out)) k_ hk_)⟩)) (below_size (by repeat (first | (with_reducible first | exact HB.out | apply below_alloc | apply pw_below_drewN | apply below_drew1) | exact HB.out)))); have n3_ := Aside0.mk (below_step (by repeat (first | (with_reducible first | exact HB.out | apply below_alloc | apply pw_below_drewN | apply below_drew1) | exact HB.out)) hb); clear HO_3; clear HO111; clear HB; have HO_3 := n0_; have HO111 := n1_; have HO114 := n2_; have HB := n3_; clear n0_ n1_ n2_ n3_; (try clear hb); (try clear hb2); (try clear hk); (try clear hi); (try clear ho0); obtain ⟨Ao53, co53, eo53⟩ := Kd.V_slice HO114.out; subst eo53) | ((with_reducible refine gate_callee (f := 27) rfl ?_); refine goesL_ (some 45) rfl rfl Tryd.func27 (by kernel_rfl) rfl #[.slice Ao53 t112.length co53] rfl (by (try simp only [List.map_toArray, List.map_cons, List.map_nil]); first | done | rfl | (simp only [List.length_drop, List.length_take]; rfl)) ?_; (with_reducible refine (zone_Labels.calls k2 _ _ t112 t115 t116 t117 _ ?side1 ?side2 A20.out).mono ?_); (case side1 => repeat (first | exact (Kd.V_reads' HO114.out).2.2 | (with_reducible refine Kd.C_alloc ?_ _) | (with_reducible refine Kd.C_drewN ?_ _) | (with_reducible refine Kd.C_drew ?_))); (case side2 => exact (Kd.V_reads' HO114.out).2.1); rintro e w54 ⟨v118, rfl, ho0, hb⟩; refine ⟨_, rfl, ?_⟩; have n0_ := Aside0.mk (Kd.R_below (by (with_reducible repeat (first | apply Kd.R_alloc | apply Kd.R_drewN | apply Kd.R_drew)); exact HO_3.out) hb); have n1_ := Aside0.mk (Kd.R_elder' (by (with_reducible repeat (first | apply Kd.R_alloc | apply Kd.R_drewN | apply Kd.R_drew)); exact HO111.out) (Kd.R_base ho0) hb); have n2_ := Aside0.mk (Kd.V_elder' (by (with_reducible repeat (first | apply Kd.V_alloc | apply Kd.V_drewN | apply Kd.V_drew)); exact HO114.out) (Kd.R_base ho0) hb); have n3_ := Aside0.mk (Kd.R_lower (Kd.R_new' ho0 (Kd.R_lt (by (with_reducible repeat (first | apply Kd.R_alloc | apply Kd.R_drewN | apply Kd.R_drew)); exact HO111.out))) (below_size (by repeat (first | (with_reducible first | exact HB.out | apply below_alloc | apply pw_below_drewN | apply below_drew1) | exact HB.out)))); have n4_ := Aside0.mk (below_step (by repeat (first | (with_reducible first | exact HB.out | apply below_alloc | apply pw_below_drewN | apply below_drew1) | exact HB.out)) hb); clear HO_3; clear HO111; clear HO114; clear HB; have HO_3 := n0_; have HO111 := n1_; have HO114 := n2_; have HO119 := n3_; have HB := n4_; clear n0_ n1_ n2_ n3_ n4_; (try clear hb); (try clear hb2); (try clear hk); (try clear hi); (try clear ho0); obtain ⟨Ao55, co55, eo55⟩ := Kd.R_slice HO111.out; subst eo55) | (go_at_call 23; (with_reducible refine (paronymref26_Texts.calls k2 _ _ t107 t120 _ ?side1 ?side2 A22.out).mono ?_); (case side1 => repeat (first | exact (Kd.R_reads' HO111.out).2.2 | (with_reducible refine Kd.C_alloc ?_ _) | (with_reducible refine Kd.C_drewN ?_ _) | (with_reducible refine Kd.C_drew ?_))); (case side2 => exact (Kd.R_reads' HO111.out).2.1); rintro e w56 ⟨v121, rfl, ho0, hb⟩; have n0_ := Aside0.mk (Kd.R_elder' (by (with_reducible repeat (first | apply Kd.R_alloc | apply Kd.R_drewN | apply Kd.R_drew)); exact HO_3.out) (Kd.R_base ho0) hb); have n1_ := Aside0.mk (Kd.R_below (by (with_reducible repeat (first | apply Kd.R_alloc | apply Kd.R_drewN | apply Kd.R_drew)); exact HO111.out) hb); have n2_ := Aside0.mk (Kd.V_elder' (by (with_reducible repeat (first | apply Kd.V_alloc | apply Kd.V_drewN | apply Kd.V_drew)); exact HO114.out) (Kd.R_base ho0) hb); have n3_ := Aside0.mk (Kd.R_below (by (with_reducible repeat (first | apply Kd.R_alloc | apply Kd.R_drewN | apply Kd.R_drew)); exact HO119.out) hb); have n4_ := Aside0.mk (Kd.R_lower (Kd.R_new' ho0 (Kd.R_lt (by (with_reducible repeat (first | apply Kd.R_alloc | apply Kd.R_drewN | apply Kd.R_drew)); exact HO_3.out))) (below_size (by repeat (first | (with_reducible first | exact HB.out | apply below_alloc | apply pw_below_drewN | apply below_drew1) | exact HB.out)))); have n5_ := Aside0.mk (below_step (by repeat (first | (with_reducible first | exact HB.out | apply below_alloc | apply pw_below_drewN | apply below_drew1) | exact HB.out)) hb); clear HO_3; clear HO111; clear HO114; clear HO119; clear HB; have HO_3 := n0_; have HO111 := n1_; have HO114 := n2_; have HO119 := n3_; have HO122 := n4_; have HB := n5_; clear n0_ n1_ n2_ n3_ n4_ n5_; (try clear hb); (try clear hb2); (try clear hk); (try clear hi); (try clear ho0); obtain ⟨Ao57, co57, eo57⟩ := Kd.R_slice HO119.out; subst eo57) | (go_at_call 23; (with_reducible refine (paronymref26_Texts.calls k2 _ _ t115 t123 _ ?side1 ?side2 A23.out).mono ?_); (case side1 => repeat (first | exact (Kd.R_reads' HO119.out).2.2 | (with_reducible refine Kd.C_alloc ?_ _) | (with_reducible refine Kd.C_drewN ?_ _) | (with_reducible refine Kd.C_drew ?_))); (case side2 => exact (Kd.R_reads' HO119.out).2.1); rintro e w58 ⟨v124, rfl, ho0, hb⟩; have n0_ := Aside0.mk (Kd.R_elder' (by (with_reducible repeat (first | apply Kd.R_alloc | apply Kd.R_drewN | apply Kd.R_drew)); exact HO_3.out) (Kd.R_base ho0) hb); have n1_ := Aside0.mk (Kd.R_below (by (with_reducible repeat (first | apply Kd.R_alloc | apply Kd.R_drewN | apply Kd.R_drew)); exact HO111.out) hb); have n2_ := Aside0.mk (Kd.V_elder' (by (with_reducible repeat (first | apply Kd.V_alloc | apply Kd.V_drewN | apply Kd.V_drew)); exact HO114.out) (Kd.R_base ho0) hb); have n3_ := Aside0.mk (Kd.R_below (by (with_reducible repeat (first | apply Kd.R_alloc | apply Kd.R_drewN | apply Kd.R_drew)); exact HO119.out) hb); have n4_ := Aside0.mk (Kd.R_elder' (by (with_reducible repeat (first | apply Kd.R_alloc | apply Kd.R_drewN | apply Kd.R_drew)); exact HO122.out) (Kd.R_base ho0) hb); have n5_ := Aside0.mk (Kd.R_lower (Kd.R_new' (Kd.R_new' ho0 (Kd.R_lt (by (with_reducible repeat (first | apply Kd.R_alloc | apply Kd.R_drewN | apply Kd.R_drew)); exact HO_3.out))) (Kd.R_lt (by (with_reducible repeat (first | apply Kd.R_alloc | apply Kd.R_drewN | apply Kd.R_drew)); exact HO122.out))) (below_size (by repeat (first | (with_reducible first | exact HB.out | apply below_alloc | apply pw_below_drewN | apply below_drew1) | exact HB.out)))); have n6_ := Aside0.mk (below_step (by repeat (first | (with_reducible first | exact HB.out | apply below_alloc | apply pw_below_drewN | apply below_drew1) | exact HB.out)) hb); clear HO_3; clear HO111; clear HO114; clear HO119; clear HO122; clear HB; have HO_3 := n0_; have HO111 := n1_; have HO114 := n2_; have HO119 := n3_; have HO122 := n4_; have HO125 := n5_; have HB := n6_; clear n0_ n1_ n2_ n3_ n4_ n5_ n6_; (try clear hb); (try clear hb2); (try clear hk); (try clear hi); (try clear ho0); obtain ⟨Ao59, co59, eo59⟩ := Kd.R_slice HO122.out; subst eo59; obtain ⟨Ao60, co60, eo60⟩ := Kd.R_slice HO125.out; subst eo60) | (go_at_call 16; (with_reducible refine (paronymref02_Same.calls k2 _ _ t120 _ _ t123 true _ ?side1 ?side2 ?side3 ?side4 A24.out).mono ?_); (case side1 => repeat (first | exact (Kd.R_reads' HO122.out).2.2 | (with_reducible refine Kd.C_alloc ?_ _) | (with_reducible refine Kd.C_drewN ?_ _) | (with_reducible refine Kd.C_drew ?_))); (case side2 => exact (Kd.R_reads' HO122.out).2.1); (case side3 => repeat (first | exact (Kd.R_reads' HO125.out).2.2 | (with_reducible refine Kd.C_alloc ?_ _) | (with_reducible refine Kd.C_drewN ?_ _) | (with_reducible refine Kd.C_drew ?_))); (case side4 => exact (Kd.R_reads' HO125.out).2.1); rintro e w' ⟨rfl, ⟨nd, rfl⟩⟩))
                    go_ret
                    exact ⟨by first | rfl | (simp [errW_none, errW_some] <;> rfl) | (simp [*, errW_none, errW_some] <;> rfl), by repeat (first | (with_reducible first | exact HB.out | apply below_alloc | apply pw_below_drewN | apply below_drew1) | exact HB.out)⟩
                · replace c25 := Bool.eq_false_iff.mpr c25
                  subst c25
                  have H1 : (some false) = some r := by rw [if_neg (show ¬ (false = true) by decide)] at H; exact H
                  clear H
                  have H := H1
                  clear H1
                  obtain rfl := Option.some.inj H
                  obtain ⟨Ao61, co61, eo61⟩ := Kd.R_slice HO_3.out
                  subst eo61
                  go_wp2_with (first | ((with_reducible refine gate_callee (f := 27) rfl ?_); refine goesL_ (some 38) rfl rfl Tryd.func27 (by kernel_rfl) rfl #[.slice A0 l0.length c0] rfl (by (try simp only [List.map_toArray, List.map_cons, List.map_nil]); first | done | rfl | (simp only [List.length_drop, List.length_take]; rfl)) ?_; (with_reducible refine (zone_Labels.calls k2 _ _ l0 t107 t108 t109 _ ?side1 ?side2 A18.out).mono ?_); (case side1 => repeat (first | exact (Kd.C_below HR0.out HB.out) | (with_reducible refine Kd.C_alloc ?_ _) | (with_reducible refine Kd.C_drewN ?_ _) | (with_reducible refine Kd.C_drew ?_))); (case side2 => exact HC0.out); rintro e w62 ⟨v110, rfl, ho0, hb⟩; refine ⟨_, rfl, ?_⟩; have n0_ := Aside0.mk (Kd.R_below (by (with_reducible repeat (first | apply Kd.R_alloc | apply Kd.R_drewN | apply Kd.R_drew)); exact HO_3.out) hb); have n1_ := Aside0.mk (Kd.R_lower ho0 (below_size (by repeat (first | (with_reducible first | exact HB.out | apply below_alloc | apply pw_below_drewN | apply below_drew1) | exact HB.out)))); have n2_ := Aside0.mk (below_step (by repeat (first | (with_reducible first | exact HB.out | apply below_alloc | apply pw_below_drewN | apply below_drew1) | exact HB.out)) hb); clear HO_3; clear HB; have HO_3 := n0_; have HO111 := n1_; have HB := n2_; clear n0_ n1_ n2_; (try clear hb); (try clear hb2); (try clear hk); (try clear hi); (try clear ho0)) | ((with_reducible refine gate_dst (N := 44) rfl ?_); (try (refine gate_guard (by rfl) ?_; dsimp only)); refine bytesOf.step 9 22 5 _ x4_2 t112 A19.out rfl rfl rfl Tryd.underlying9 Tryd.underlying22 Tryd.underlying5 ?_; intro v113 w63 ho0 hb; have n0_ := Aside0.mk (Kd.R_below (by (with_reducible repeat (first | apply Kd.R_alloc | apply Kd.R_drewN | apply Kd.R_drew)); exact HO_3.out) hb); have n1_ := Aside0.mk (Kd.R_below (by (with_reducible repeat (first | apply Kd.R_alloc | apply Kd.R_drewN | apply Kd.R_drew)); exact HO111.out) hb); have n2_ := Aside0.mk (Kd.V_lower (Kd.V_mono (ok' := fun k_ => some k_ ≠ (.slice Ao61 t103.length co61 : Value).ownBlock ∧ some k_ ≠ (v110 : Value).ownBlock) ho0 (fun k_ hk_ => ⟨(Kd.fresh' (Kd.R_lt (by (with_reducible repeat (first | apply Kd.R_alloc | apply Kd.R_drewN | apply Kd.R_drew)); exact HO_3.out)) k_ hk_), (Kd.fresh' (Kd.R_lt (by (with_reducible repeat (first | apply Kd.R_alloc | apply Kd.R_drewN | apply Kd.R_drew)); exact HO111.out)) k_ hk_)⟩)) (below_size (by repeat (first | (with_reducible first | exact HB.out | apply below_alloc | apply pw_below_drewN | apply below_drew1) | exact HB.out)))); have n3_ := Aside0.mk (below_step (by repeat (first | (with_reducible first | exact HB.out | apply below_alloc | apply pw_below_drewN | apply below_drew1) | exact HB.out)) hb); clear HO_3; clear HO111; clear HB; have HO_3 := n0_; have HO111 := n1_; have HO114 := n2_; have HB := n3_; clear n0_ n1_ n2_ n3_; (try clear hb); (try clear hb2); (try clear hk); (try clear hi); (try clear ho0); obtain ⟨Ao64, co64, eo64⟩ := Kd.V_slice HO114.out; subst eo64) | ((with_reducible refine gate_callee (f := 27) rfl ?_); refine goesL_ (some 45) rfl rfl Tryd.func27 (by kernel_rfl) rfl #[.slice Ao64 t112.length co64] rfl (by (try simp only [List.map_toArray, List.map_cons, List.map_nil]); first | done | rfl | (simp only [List.length_drop, List.length_take]; rfl)) ?_; (with_reducible refine (zone_Labels.calls k2 _ _ t112 t115 t116 t117 _ ?side1 ?side2 A20.out).mono ?_); (case side1 => repeat (first | exact (Kd.V_reads' HO114.out).2.2 | (with_reducible refine Kd.C_alloc ?_ _) | (with_reducible refine Kd.C_drewN ?_ _) | (with_reducible refine Kd.C_drew ?_))); (case side2 => exact (Kd.V_reads' HO114.out).2.1); rintro e w65 ⟨v118, rfl, ho0, hb⟩; refine ⟨_, rfl, ?_⟩; have n0_ := Aside0.mk (Kd.R_below (by (with_reducible repeat (first | apply Kd.R_alloc | apply Kd.R_drewN | apply Kd.R_drew)); exact HO_3.out) hb); have n1_ := Aside0.mk (Kd.R_elder' (by (with_reducible repeat (first | apply Kd.R_alloc | apply Kd.R_drewN | apply Kd.R_drew)); exact HO111.out) (Kd.R_base ho0) hb); have n2_ := Aside0.mk (Kd.V_elder' (by (with_reducible repeat (first | apply Kd.V_alloc | apply Kd.V_drewN | apply Kd.V_drew)); exact HO114.out) (Kd.R_base ho0) hb); have n3_ := Aside0.mk (Kd.R_lower (Kd.R_new' ho0 (Kd.R_lt (by (with_reducible repeat (first | apply Kd.R_alloc | apply Kd.R_drewN | apply Kd.R_drew)); exact HO111.out))) (below_size (by repeat (first | (with_reducible first | exact HB.out | apply below_alloc | apply pw_below_drewN | apply below_drew1) | exact HB.out)))); have n4_ := Aside0.mk (below_step (by repeat (first | (with_reducible first | exact HB.out | apply below_alloc | apply pw_below_drewN | apply below_drew1) | exact HB.out)) hb); clear HO_3; clear HO111; clear HO114; clear HB; have HO_3 := n0_; have HO111 := n1_; have HO114 := n2_; have HO119 := n3_; have HB := n4_; clear n0_ n1_ n2_ n3_ n4_; (try clear hb); (try clear hb2); (try clear hk); (try clear hi); (try clear ho0); obtain ⟨Ao66, co66, eo66⟩ := Kd.R_slice HO111.out; subst eo66) | (go_at_call 23; (with_reducible refine (paronymref26_Texts.calls k2 _ _ t107 t120 _ ?side1 ?side2 A22.out).mono ?_); (case side1 => repeat (first | exact (Kd.R_reads' HO111.out).2.2 | (with_reducible refine Kd.C_alloc ?_ _) | (with_reducible refine Kd.C_drewN ?_ _) | (with_reducible refine Kd.C_drew ?_))); (case side2 => exact (Kd.R_reads' HO111.out).2.1); rintro e w67 ⟨v121, rfl, ho0, hb⟩; have n0_ := Aside0.mk (Kd.R_elder' (by (with_reducible repeat (first | apply Kd.R_alloc | apply Kd.R_drewN | apply Kd.R_drew)); exact HO_3.out) (Kd.R_base ho0) hb); have n1_ := Aside0.mk (Kd.R_below (by (with_reducible repeat (first | apply Kd.R_alloc | apply Kd.R_drewN | apply Kd.R_drew)); exact HO111.out) hb); have n2_ := Aside0.mk (Kd.V_elder' (by (with_reducible repeat (first | apply Kd.V_alloc | apply Kd.V_drewN | apply Kd.V_drew)); exact HO114.out) (Kd.R_base ho0) hb); have n3_ := Aside0.mk (Kd.R_below (by (with_reducible repeat (first | apply Kd.R_alloc | apply Kd.R_drewN | apply Kd.R_drew)); exact HO119.out) hb); have n4_ := Aside0.mk (Kd.R_lower (Kd.R_new' ho0 (Kd.R_lt (by (with_reducible repeat (first | apply Kd.R_alloc | apply Kd.R_drewN | apply Kd.R_drew)); exact HO_3.out))) (below_size (by repeat (first | (with_reducible first | exact HB.out | apply below_alloc | apply pw_below_drewN | apply below_drew1) | exact HB.out)))); have n5_ := Aside0.mk (below_step (by repeat (first | (with_reducible first | exact HB.out | apply below_alloc | apply pw_below_drewN | apply below_drew1) | exact HB.out)) hb); clear HO_3; clear HO111; clear HO114; clear HO119; clear HB; have HO_3 := n0_; have HO111 := n1_; have HO114 := n2_; have HO119 := n3_; have HO122 := n4_; have HB := n5_; clear n0_ n1_ n2_ n3_ n4_ n5_; (try clear hb); (try clear hb2); (try clear hk); (try clear hi); (try clear ho0); obtain ⟨Ao68, co68, eo68⟩ := Kd.R_slice HO119.out; subst eo68) | (go_at_call 23; (with_reducible refine (paronymref26_Texts.calls k2 _ _ t115 t123 _ ?side1 ?side2 A23.out).mono ?_); (case side1 => repeat (first | exact (Kd.R_reads' HO119.out).2.2 | (with_reducible refine Kd.C_alloc ?_ _) | (with_reducible refine Kd.C_drewN ?_ _) | (with_reducible refine Kd.C_drew ?_))); (case side2 => exact (Kd.R_reads' HO119.out).2.1); rintro e w69 ⟨v124, rfl, ho0, hb⟩; have n0_ := Aside0.mk (Kd.R_elder' (by (with_reducible repeat (first | apply Kd.R_alloc | apply Kd.R_drewN | apply Kd.R_drew)); exact HO_3.out) (Kd.R_base ho0) hb); have n1_ := Aside0.mk (Kd.R_below (by (with_reducible repeat (first | apply Kd.R_alloc | apply Kd.R_drewN | apply Kd.R_drew)); exact HO111.out) hb); have n2_ := Aside0.mk (Kd.V_elder' (by (with_reducible repeat (first | apply Kd.V_alloc | apply Kd.V_drewN | apply Kd.V_drew)); exact HO114.out) (Kd.R_base ho0) hb); have n3_ := Aside0.mk (Kd.R_below (by (with_reducible repeat (first | apply Kd.R_alloc | apply Kd.R_drewN | apply Kd.R_drew)); exact HO119.out) hb); have n4_ := Aside0.mk (Kd.R_elder' (by (with_reducible repeat (first | apply Kd.R_alloc | apply Kd.R_drewN | apply Kd.R_drew)); exact HO122.out) (Kd.R_base ho0) hb); have n5_ := Aside0.mk (Kd.R_lower (Kd.R_new' (Kd.R_new' ho0 (Kd.R_lt (by (with_reducible repeat (first | apply Kd.R_alloc | apply Kd.R_drewN | apply Kd.R_drew)); exact HO_3.out))) (Kd.R_lt (by (with_reducible repeat (first | apply Kd.R_alloc | apply Kd.R_drewN | apply Kd.R_drew)); exact HO122.out))) (below_size (by repeat (first | (with_reducible first | exact HB.out | apply below_alloc | apply pw_below_drewN | apply below_drew1) | exact HB.out)))); have n6_ := Aside0.mk (below_step (by repeat (first | (with_reducible first | exact HB.out | apply below_alloc | apply pw_below_drewN | apply below_drew1) | exact HB.out)) hb); clear HO_3; clear HO111; clear HO114; clear HO119; clear HO122; clear HB; have HO_3 := n0_; have HO111 := n1_; have HO114 := n2_; have HO119 := n3_; have HO122 := n4_; have HO125 := n5_; have HB := n6_; clear n0_ n1_ n2_ n3_ n4_ n5_ n6_; (try clear hb); (try clear hb2); (try clear hk); (try clear hi); (try clear ho0); obtain ⟨Ao70, co70, eo70⟩ := Kd.R_slice HO122.out; subst eo70; obtain ⟨Ao71, co71, eo71⟩ := Kd.R_slice HO125.out; subst eo71) | (go_at_call 16; (with_reducible refine (paronymref02_Same.calls k2 _ _ t120 _ _ t123 false _ ?side1 ?side2 ?side3 ?side4 A24.out).mono ?_); (case side1 => repeat (first | exact (Kd.R_reads' HO122.out).2.2 | (with_reducible refine Kd.C_alloc ?_ _) | (with_reducible refine Kd.C_drewN ?_ _) | (with_reducible refine Kd.C_drew ?_))); (case side2 => exact (Kd.R_reads' HO122.out).2.1); (case side3 => repeat (first | exact (Kd.R_reads' HO125.out).2.2 | (with_reducible refine Kd.C_alloc ?_ _) | (with_reducible refine Kd.C_drewN ?_ _) | (with_reducible refine Kd.C_drew ?_))); (case side4 => exact (Kd.R_reads' HO125.out).2.1); rintro e w' ⟨rfl, ⟨nd, rfl⟩⟩))
                  go_ret
                  exact ⟨by first | rfl | (simp [errW_none, errW_some] <;> rfl) | (simp [*, errW_none, errW_some] <;> rfl), by repeat (first | (with_reducible first | exact HB.out | apply below_alloc | apply pw_below_drewN | apply below_drew1) | exact HB.out)⟩
              · rw [if_neg c21] at H
                have c21b0 : (t108 == t116) = false := beq_eq_false_iff_ne.mpr c21
                have c21b1 : (t108 != t116) = true := bne_iff_ne.mpr c21
                obtain rfl := Option.some.inj H
                obtain ⟨Ao72, co72, eo72⟩ := Kd.R_slice HO_3.out
                subst eo72
                go_wp2_with (first | ((with_reducible refine gate_callee (f := 27) rfl ?_); refine goesL_ (some 38) rfl rfl Tryd.func27 (by kernel_rfl) rfl #[.slice A0 l0.length c0] rfl (by (try simp only [List.map_toArray, List.map_cons, List.map_nil]); first | done | rfl | (simp only [List.length_drop, List.length_take]; rfl)) ?_; (with_reducible refine (zone_Labels.calls k2 _ _ l0 t107 t108 t109 _ ?side1 ?side2 A18.out).mono ?_); (case side1 => repeat (first | exact (Kd.C_below HR0.out HB.out) | (with_reducible refine Kd.C_alloc ?_ _) | (with_reducible refine Kd.C_drewN ?_ _) | (with_reducible refine Kd.C_drew ?_))); (case side2 => exact HC0.out); rintro e w73 ⟨v110, rfl, ho0, hb⟩; refine ⟨_, rfl, ?_⟩; have n0_ := Aside0.mk (Kd.R_below (by (with_reducible repeat (first | apply Kd.R_alloc | apply Kd.R_drewN | apply Kd.R_drew)); exact HO_3.out) hb); have n1_ := Aside0.mk (Kd.R_lower ho0 (below_size (by repeat (first | (with_reducible first | exact HB.out | apply below_alloc | apply pw_below_drewN | apply below_drew1) | exact HB.out)))); have n2_ := Aside0.mk (below_step (by repeat (first | (with_reducible first | exact HB.out | apply below_alloc | apply pw_below_drewN | apply below_drew1) | exact HB.out)) hb); clear HO_3; clear HB; have HO_3 := n0_; have HO111 := n1_; have HB := n2_; clear n0_ n1_ n2_; (try clear hb); (try clear hb2); (try clear hk); (try clear hi); (try clear ho0)) | ((with_reducible refine gate_dst (N := 44) rfl ?_); (try (refine gate_guard (by rfl) ?_; dsimp only)); refine bytesOf.step 9 22 5 _ x4_2 t112 A19.out rfl rfl rfl Tryd.underlying9 Tryd.underlying22 Tryd.underlying5 ?_; intro v113 w74 ho0 hb; have n0_ := Aside0.mk (Kd.R_below (by (with_reducible repeat (first | apply Kd.R_alloc | apply Kd.R_drewN | apply Kd.R_drew)); exact HO_3.out) hb); have n1_ := Aside0.mk (Kd.R_below (by (with_reducible repeat (first | apply Kd.R_alloc | apply Kd.R_drewN | apply Kd.R_drew)); exact HO111.out) hb); have n2_ := Aside0.mk (Kd.V_lower (Kd.V_mono (ok' := fun k_ => some k_ ≠ (.slice Ao72 t103.length co72 : Value).ownBlock ∧ some k_ ≠ (v110 : Value).ownBlock) ho0 (fun k_ hk_ => ⟨(Kd.fresh' (Kd.R_lt (by (with_reducible repeat (first | apply Kd.R_alloc | apply Kd.R_drewN | apply Kd.R_drew)); exact HO_3.out)) k_ hk_), (Kd.fresh' (Kd.R_lt (by (with_reducible repeat (first | apply Kd.R_alloc | apply Kd.R_drewN | apply Kd.R_drew)); exact HO111.out)) k_ hk_)⟩)) (below_size (by repeat (first | (with_reducible first | exact HB.out | apply below_alloc | apply pw_below_drewN | apply below_drew1) | exact HB.out)))); have n3_ := Aside0.mk (below_step (by repeat (first | (with_reducible first | exact HB.out | apply below_alloc | apply pw_below_drewN | apply below_drew1) | exact HB.out)) hb); clear HO_3; clear HO111; clear HB; have HO_3 := n0_; have HO111 := n1_; have HO114 := n2_; have HB := n3_; clear n0_ n1_ n2_ n3_; (try clear hb); (try clear hb2); (try clear hk); (try clear hi); (try clear ho0); obtain ⟨Ao75, co75, eo75⟩ := Kd.V_slice HO114.out; subst eo75) | ((with_reducible refine gate_callee (f := 27) rfl ?_); refine goesL_ (some 45) rfl rfl Tryd.func27 (by kernel_rfl) rfl #[.slice Ao75 t112.length co75] rfl (by (try simp only [List.map_toArray, List.map_cons, List.map_nil]); first | done | rfl | (simp only [List.length_drop, List.length_take]; rfl)) ?_; (with_reducible refine (zone_Labels.calls k2 _ _ t112 t115 t116 t117 _ ?side1 ?side2 A20.out).mono ?_); (case side1 => repeat (first | exact (Kd.V_reads' HO114.out).2.2 | (with_reducible refine Kd.C_alloc ?_ _) | (with_reducible refine Kd.C_drewN ?_ _) | (with_reducible refine Kd.C_drew ?_))); (case side2 => exact (Kd.V_reads' HO114.out).2.1); rintro e w76 ⟨v118, rfl, ho0, hb⟩; refine ⟨_, rfl, ?_⟩; have n0_ := Aside0.mk (Kd.R_below (by (with_reducible repeat (first | apply Kd.R_alloc | apply Kd.R_drewN | apply Kd.R_drew)); exact HO_3.out) hb); have n1_ := Aside0.mk (Kd.R_elder' (by (with_reducible repeat (first | apply Kd.R_alloc | apply Kd.R_drewN | apply Kd.R_drew)); exact HO111.out) (Kd.R_base ho0) hb); have n2_ := Aside0.mk (Kd.V_elder' (by (with_reducible repeat (first | apply Kd.V_alloc | apply Kd.V_drewN | apply Kd.V_drew)); exact HO114.out) (Kd.R_base ho0) hb); have n3_ := Aside0.mk (Kd.R_lower (Kd.R_new' ho0 (Kd.R_lt (by (with_reducible repeat (first | apply Kd.R_alloc | apply Kd.R_drewN | apply Kd.R_drew)); exact HO111.out))) (below_size (by repeat (first | (with_reducible first | exact HB.out | apply below_alloc | apply pw_below_drewN | apply below_drew1) | exact HB.out)))); have n4_ := Aside0.mk (below_step (by repeat (first | (with_reducible first | exact HB.out | apply below_alloc | apply pw_below_drewN | apply below_drew1) | exact HB.out)) hb); clear HO_3; clear HO111; clear HO114; clear HB; have HO_3 := n0_; have HO111 := n1_; have HO114 := n2_; have HO119 := n3_; have HB := n4_; clear n0_ n1_ n2_ n3_ n4_; (try clear hb); (try clear hb2); (try clear hk); (try clear hi); (try clear ho0)))
                go_ret
                exact ⟨by first | rfl | (simp [errW_none, errW_some] <;> rfl) | (simp [*, errW_none, errW_some] <;> rfl), by repeat (first | (with_reducible first | exact HB.out | apply below_alloc | apply pw_below_drewN | apply below_drew1) | exact HB.out)⟩

/-- THE ONE PURE STATEMENT of paronymlaw27_ZoneRemarks: yours. -/
def paronymlaw27_ZoneRemarks.Pure : Prop := ∀ (l0 : List Int), l0.length ≤ maxLen → l0.length * 1 ≤ 140737488351232 → (∀ x ∈ l0, (Lit.int .u8 x).wf = true) → ∃ k, paronymlaw27_ZoneRemarks.f k l0 = some true
theorem paronymlaw27_ZoneRemarks.walk (P : paronymlaw27_ZoneRemarks.Pure) (a0 : Option Addr) (len0 cap0 : Nat) (z0 : List Int) (w : World) (w0 : (a0 = none ∧ len0 = 0 ∧ cap0 = 0 ∧ z0 = []) ∨ ∃ x, a0 = some x ∧ len0 ≤ cap0 ∧ cap0 ≤ maxLen ∧ z0.length = cap0 ∧ (∀ i, i < z0.length → w.cell? (x.add i) = some (.int .u8 (z0.getD i 0))) ∧ ∀ n ∈ z0, (Lit.int .u8 n).wf = true) (y0 : len0 * 1 ≤ 140737488351232) :
    Calls Tryd.prog 7 #[.slice a0 len0 cap0] w fun e w' => e = .returned (.bool true) ∧ Below w.heap.size w w' := by
  obtain ⟨l0, rfl, hr0, hm0, hw0, hc0⟩ := ReadsInt.ofRowC w0
  obtain ⟨k, h⟩ := P l0 hm0 y0 hw0
  refine (paronymlaw27_ZoneRemarks.calls k _ _ l0 true w (Kd.C_of_reads (d := (0 : Int)) (h1 := fun _ => rfl) hr0) hc0 h).mono ?_
  rintro e w' ⟨rfl, hd⟩
  exact ⟨rfl, hd⟩

end Go.Proofs.YtdnfmilnkoocdaaDoor.Q

-- from Ptok
/- Words of a line: the list functions, and what a blank between two lines does. -/
namespace Go.Proofs.YtdnfmilnkoocdaaDoor.K
set_option linter.unusedVariables false
set_option linter.unusedSimpArgs false
open Go.RowKit Go.Proofs.YtdnfmilnkoocdaaDoorW.PrintWords

def dig (c : Int) : Bool := decide (48 ≤ c ∧ c ≤ 57)
def blank (c : Int) : Bool := decide (c = 32 ∨ c = 9)
def sep (c : Int) : Bool := decide (c = 32 ∨ c = 9 ∨ c = 59)
/-- How many octets an escape has with which a list begins; 0: it is none. -/
def escL : List Int → Nat
  | _ :: c1 :: c2 :: c3 :: _ => if dig c1 = true then (if dig c2 = true ∧ dig c3 = true ∧ (c1 - 48) * 100 + (c2 - 48) * 10 + (c3 - 48) ≤ 255 then 4 else 0) else 2
  | _ :: c1 :: _ => if dig c1 = true then 0 else 2
  | _ => 0
def bump : Sum Int Nat → Sum Int Nat
  | .inl e => .inl e
  | .inr n => .inr (n + 1)
def scan (q : Bool) : Nat → List Int → Sum Int Nat
  | _, [] => if q = true then .inl 61 else .inr 0
  | k + 1, _ :: t => bump (scan q k t)
  | 0, c :: t =>
    if c = 92 then (if escL (c :: t) = 0 then .inl 60 else bump (scan q (escL (c :: t) - 1) t))
    else if q = true ∧ c = 34 then (match t with | [] => .inr 1 | d :: _ => if sep d = true then .inr 1 else .inl 61)
    else if c = 34 then .inl 61
    else if q = false ∧ (c = 40 ∨ c = 41) then .inl 11
    else if q = false ∧ sep c = true then .inr 0
    else bump (scan q 0 t)
def wordL : List Int → Sum Int Nat
  | [] => .inr 0
  | c :: u => if c = 34 then bump (scan true 0 u) else scan false 0 (c :: u)
def push (w : List Int) : Sum Int (List (List Int)) → Sum Int (List (List Int))
  | .inl e => .inl e
  | .inr l => .inr (w :: l)
/-- The words of a line, or its first error. -/
inductive Spl : List Int → Sum Int (List (List Int)) → Prop
  | nil {L : List Int} : L.dropWhile blank = [] → Spl L (.inr [])
  | rem {L u : List Int} : L.dropWhile blank = 59 :: u → Spl L (.inr [])
  | err {L u : List Int} {c e : Int} : L.dropWhile blank = c :: u → c ≠ 59 → wordL (c :: u) = .inl e → Spl L (.inl e)
  | more {L u : List Int} {c : Int} {n : Nat} {r : Sum Int (List (List Int))} : L.dropWhile blank = c :: u → c ≠ 59 → wordL (c :: u) = .inr n → Spl ((c :: u).drop n) r → Spl L (push ((c :: u).take n) r)

theorem wordL_cons (c : Int) (u : List Int) : wordL (c :: u) = if c = 34 then bump (scan true 0 u) else scan false 0 (c :: u) := rfl
theorem bump_inr {x : Sum Int Nat} {n : Nat} (h : bump x = .inr n) : ∃ m, x = .inr m ∧ n = m + 1 := by
  cases x with
  | inl e => cases h
  | inr m => exact ⟨m, rfl, by injection h with h; omega⟩
theorem bump_inl {x : Sum Int Nat} {e : Int} (h : bump x = .inl e) : x = .inl e := by
  cases x with
  | inl e' => injection h with h; rw [h]
  | inr m => cases h
theorem escL_2 (a b : Int) : escL [a, b] = if dig b = true then 0 else 2 := rfl
theorem escL_3 (a b c : Int) : escL [a, b, c] = if dig b = true then 0 else 2 := rfl
theorem escL_4 (a b c d : Int) (r : List Int) : escL (a :: b :: c :: d :: r) = (if dig b = true then (if dig c = true ∧ dig d = true ∧ (b - 48) * 100 + (c - 48) * 10 + (d - 48) ≤ 255 then 4 else 0) else 2) := rfl
theorem escL_nz {t : List Int} (h : escL t ≠ 0) : escL t ≤ t.length ∧ 2 ≤ escL t := by
  match t with
  | [] => exact absurd rfl h
  | [_] => exact absurd rfl h
  | [a, b] => unfold escL at h ⊢; split at h <;> simp_all
  | [a, b, c] => unfold escL at h ⊢; split at h <;> simp_all
  | a :: b :: c :: d :: r =>
    have e : escL (a :: b :: c :: d :: r) = (if dig b = true then (if dig c = true ∧ dig d = true ∧ (b - 48) * 100 + (c - 48) * 10 + (d - 48) ≤ 255 then 4 else 0) else 2) := rfl
    rw [e] at h ⊢
    by_cases h1 : dig b = true
    · rw [if_pos h1] at h ⊢
      by_cases h2 : dig c = true ∧ dig d = true ∧ (b - 48) * 100 + (c - 48) * 10 + (d - 48) ≤ 255
      · rw [if_pos h2]; simp
      · rw [if_neg h2] at h; exact absurd rfl h
    · rw [if_neg h1]; simp
theorem escL_app {t r : List Int} (h : escL t ≠ 0) : escL (t ++ r) = escL t := by
  match t with
  | [] => exact absurd rfl h
  | [_] => exact absurd rfl h
  | [a, b] =>
    have hb : ¬ dig b = true := fun hb => h (by rw [escL_2, if_pos hb])
    match r with
    | [] => rfl
    | [c] => show escL [a, b, c] = _; rw [escL_2, escL_3]
    | c :: d :: r => show escL (a :: b :: c :: d :: r) = _; rw [escL_2, escL_4, if_neg hb, if_neg hb]
  | [a, b, c] =>
    have hb : ¬ dig b = true := fun hb => h (by rw [escL_3, if_pos hb])
    match r with
    | [] => rfl
    | d :: r => show escL (a :: b :: c :: d :: r) = _; rw [escL_3, escL_4, if_neg hb, if_neg hb]
  | a :: b :: c :: d :: r' => rfl
theorem dig32 : dig 32 = false := by decide
theorem escL_bad {c : Int} {t b : List Int} (h : escL (c :: t) = 0) (hne : t ≠ []) : escL (c :: t ++ 32 :: b) = 0 := by
  match t with
  | [] => exact absurd rfl hne
  | [x] =>
    have hx : dig x = true := by
      by_cases hx : dig x = true
      · exact hx
      · exfalso; rw [escL_2, if_neg hx] at h; omega
    match b with
    | [] => show escL [c, x, 32] = 0; rw [escL_3, if_pos hx]
    | y :: b => show escL (c :: x :: 32 :: y :: b) = 0; rw [escL_4, if_pos hx, if_neg (by simp [dig32])]
  | [x, y] =>
    have hx : dig x = true := by
      by_cases hx : dig x = true
      · exact hx
      · exfalso; rw [escL_3, if_neg hx] at h; omega
    show escL (c :: x :: y :: 32 :: b) = 0
    rw [escL_4, if_pos hx, if_neg (by simp [dig32])]
  | x :: y :: z :: t => exact h

theorem scan_le (q : Bool) : ∀ (t : List Int) (k n : Nat), scan q k t = .inr n → n ≤ t.length
  | [], k, n, h => by
    unfold scan at h
    split at h
    · cases h
    · injection h with h; omega
  | c :: t, k + 1, n, h => by
    unfold scan at h
    obtain ⟨m, h1, rfl⟩ := bump_inr h
    have := scan_le q t k m h1
    simp; omega
  | c :: t, 0, n, h => by
    unfold scan at h
    split at h
    · split at h
      · cases h
      · obtain ⟨m, h1, rfl⟩ := bump_inr h
        have := scan_le q t _ m h1
        simp; omega
    split at h
    · split at h
      · injection h with h; simp; omega
      · split at h
        · injection h with h; simp; omega
        · cases h
    split at h
    · cases h
    split at h
    · cases h
    split at h
    · injection h with h; omega
    · obtain ⟨m, h1, rfl⟩ := bump_inr h
      have := scan_le q t _ m h1
      simp; omega
theorem wordL_le {L : List Int} {n : Nat} (h : wordL L = .inr n) : n ≤ L.length := by
  cases L with
  | nil => injection h with h; omega
  | cons c u =>
    rw [wordL_cons] at h
    split at h
    · obtain ⟨m, h1, rfl⟩ := bump_inr h
      have := scan_le _ _ _ _ h1
      simp; omega
    · exact scan_le _ _ _ _ h
theorem wordL_pos {c : Int} {u : List Int} {n : Nat} (h : wordL (c :: u) = .inr n) (hb : blank c = false) (h9 : c ≠ 59) : 1 ≤ n := by
  rw [wordL_cons] at h
  split at h
  · obtain ⟨m, h1, rfl⟩ := bump_inr h; omega
  · rename_i h34
    unfold scan at h
    split at h
    · split at h
      · cases h
      · obtain ⟨m, h1, rfl⟩ := bump_inr h; omega
    try rw [if_neg (fun hh => h34 hh.2)] at h
    try rw [if_neg h34] at h
    split at h
    · cases h
    split at h
    · rename_i hs
      exfalso
      have h1 := of_decide_eq_true hs.2
      have h2 := of_decide_eq_false hb
      omega
    · obtain ⟨m, h1, rfl⟩ := bump_inr h; omega
theorem scan_err (q : Bool) : ∀ (t : List Int) (k : Nat) (e : Int), scan q k t = .inl e → e = 60 ∨ e = 61 ∨ e = 11
  | [], k, e, h => by
    unfold scan at h
    split at h
    · injection h with h; omega
    · cases h
  | c :: t, k + 1, e, h => by
    unfold scan at h
    exact scan_err q t k e (bump_inl h)
  | c :: t, 0, e, h => by
    unfold scan at h
    split at h
    · split at h
      · injection h with h; omega
      · exact scan_err q t _ e (bump_inl h)
    split at h
    · split at h
      · cases h
      · split at h
        · cases h
        · injection h with h; omega
    split at h
    · injection h with h; omega
    split at h
    · injection h with h; omega
    split at h
    · cases h
    · exact scan_err q t _ e (bump_inl h)
theorem wordL_err {L : List Int} {e : Int} (h : wordL L = .inl e) : e = 60 ∨ e = 61 ∨ e = 11 := by
  cases L with
  | nil => cases h
  | cons c u =>
    rw [wordL_cons] at h
    split at h
    · exact scan_err _ _ _ _ (bump_inl h)
    · exact scan_err _ _ _ _ h
theorem Spl.err_is {L : List Int} {r : Sum Int (List (List Int))} (h : Spl L r) : ∀ e, r = .inl e → e = 60 ∨ e = 61 ∨ e = 11 := by
  induction h with
  | nil _ => intro e h; cases h
  | rem _ => intro e h; cases h
  | err _ _ h => intro e he; injection he with he; rw [← he]; exact wordL_err h
  | @more L u c n r _ _ _ _ ih =>
    intro e h
    cases r with
    | inl e' => injection h with h; exact ih e (by rw [h])
    | inr l => cases h

theorem dropWhile_len (p : Int → Bool) : ∀ l : List Int, (l.dropWhile p).length ≤ l.length
  | [] => Nat.le_refl _
  | x :: l => by
    rw [List.dropWhile_cons]
    split
    · have := dropWhile_len p l; simp; omega
    · exact Nat.le_refl _
theorem dropWhile_head {p : Int → Bool} : ∀ {l u : List Int} {c : Int}, l.dropWhile p = c :: u → p c = false
  | [], u, c, h => by cases h
  | x :: l, u, c, h => by
    rw [List.dropWhile_cons] at h
    split at h
    · exact dropWhile_head h
    · rename_i hx
      injection h with h1 h2
      rw [← h1]
      simpa using hx
theorem dropWhile_suffix {p : Int → Bool} : ∀ (l : List Int), ∃ w, l = w ++ l.dropWhile p
  | [] => ⟨[], rfl⟩
  | x :: l => by
    rw [List.dropWhile_cons]
    split
    · obtain ⟨w, hw⟩ := dropWhile_suffix (p := p) l
      refine ⟨x :: w, ?_⟩
      rw [List.cons_append, ← hw]
    · exact ⟨[], rfl⟩
theorem dropWhile_app_ne {p : Int → Bool} : ∀ {l u r : List Int} {c : Int}, l.dropWhile p = c :: u → (l ++ r).dropWhile p = c :: (u ++ r)
  | [], u, r, c, h => by cases h
  | x :: l, u, r, c, h => by
    rw [List.cons_append, List.dropWhile_cons]
    rw [List.dropWhile_cons] at h
    split
    · rename_i hx
      rw [if_pos hx] at h
      exact dropWhile_app_ne h
    · rename_i hx
      rw [if_neg hx] at h
      injection h with h1 h2
      rw [h1, h2]
theorem dropWhile_app_nil {p : Int → Bool} : ∀ {l r : List Int}, l.dropWhile p = [] → (l ++ r).dropWhile p = r.dropWhile p
  | [], r, _ => rfl
  | x :: l, r, h => by
    rw [List.dropWhile_cons] at h
    split at h
    · rename_i hx
      rw [List.cons_append, List.dropWhile_cons, if_pos hx]
      exact dropWhile_app_nil h
    · cases h
theorem Spl.total : ∀ (n : Nat) (L : List Int), L.length ≤ n → ∃ r, Spl L r := by
  intro n
  induction n with
  | zero =>
    intro L h
    have : L = [] := List.eq_nil_of_length_eq_zero (by omega)
    subst this
    exact ⟨_, .nil rfl⟩
  | succ n ih =>
    intro L h
    have hl := dropWhile_len blank L
    cases hd : L.dropWhile blank with
    | nil => exact ⟨_, .nil hd⟩
    | cons c u =>
      by_cases h9 : c = 59
      · subst h9; exact ⟨_, .rem hd⟩
      cases hw : wordL (c :: u) with
      | inl e => exact ⟨_, .err hd h9 hw⟩
      | inr m =>
        have hp := wordL_pos hw (dropWhile_head hd) h9
        rw [hd] at hl
        obtain ⟨r, hr⟩ := ih ((c :: u).drop m) (by rw [List.length_drop]; omega)
        exact ⟨_, .more hd h9 hw hr⟩
theorem Spl.same {L L' : List Int} {r : Sum Int (List (List Int))} (h : Spl L r) (e : L'.dropWhile blank = L.dropWhile blank) : Spl L' r := by
  cases h with
  | nil h => exact .nil (e.trans h)
  | rem h => exact .rem (e.trans h)
  | err h a b => exact .err (e.trans h) a b
  | more h a b c => exact .more (e.trans h) a b c
theorem Spl.sum {L : List Int} {r : Sum Int (List (List Int))} (h : Spl L r) : ∀ l, r = .inr l → (l.map List.length).sum ≤ L.length := by
  induction h with
  | nil _ => intro l h; injection h with h; subst h; simp
  | rem _ => intro l h; injection h with h; subst h; simp
  | err _ _ _ => intro l h; cases h
  | @more L u c n r hd _ hw _ ih =>
    intro l h
    cases r with
    | inl e => cases h
    | inr l' =>
      injection h with h
      subst h
      have h1 := ih l' rfl
      have h2 := wordL_le hw
      have h3 := dropWhile_len blank L
      rw [hd] at h3
      rw [List.length_drop] at h1
      rw [List.map_cons, List.sum_cons, List.length_take]
      omega

/-! a blank behind -/
theorem scan_app (q : Bool) (b : List Int) : ∀ (t : List Int) (k n : Nat), k ≤ t.length → scan q k t = .inr n → scan q k (t ++ 32 :: b) = .inr n
  | [], k, n, hk, h => by
    obtain rfl : k = 0 := by simpa using hk
    unfold scan at h
    split at h
    · cases h
    rename_i hq
    have hq' : q = false := by simpa using hq
    subst hq'
    injection h with h
    subst h
    rfl
  | c :: t, k + 1, n, hk, h => by
    unfold scan at h
    obtain ⟨m, h1, rfl⟩ := bump_inr h
    rw [List.cons_append, scan, scan_app q b t k m (by simpa using hk) h1]
    rfl
  | c :: t, 0, n, hk, h => by
    rw [List.cons_append]
    unfold scan at h ⊢
    by_cases h92 : c = 92
    · rw [if_pos h92] at h ⊢
      split at h
      · cases h
      rename_i hz
      have ha := escL_app (r := 32 :: b) hz
      rw [List.cons_append] at ha
      rw [ha, if_neg hz]
      obtain ⟨m, h1, rfl⟩ := bump_inr h
      have hle := escL_nz hz
      rw [scan_app q b t _ m (by rw [List.length_cons] at hle; omega) h1]
      rfl
    rw [if_neg h92] at h ⊢
    by_cases hq : q = true ∧ c = 34
    · rw [if_pos hq] at h ⊢
      cases t with
      | nil => exact h
      | cons d t => exact h
    rw [if_neg hq] at h ⊢
    split at h
    · cases h
    rename_i h34
    rw [if_neg h34]
    split at h
    · cases h
    rename_i h40
    rw [if_neg h40]
    split at h
    · rename_i hs
      rw [if_pos hs]
      exact h
    rename_i hs
    rw [if_neg hs]
    obtain ⟨m, h1, rfl⟩ := bump_inr h
    rw [scan_app q b t 0 m (Nat.zero_le _) h1]
    rfl
theorem scan_app_err (b : List Int) (e : Int) : ∀ (t : List Int) (k : Nat), k ≤ t.length → 34 ∉ t → t.getLast? ≠ some 92 → scan false k t = .inl e → scan false k (t ++ 32 :: b) = .inl e
  | [], k, hk, h3, hl, h => by
    unfold scan at h
    cases h
  | c :: t, k + 1, hk, h3, hl, h => by
    unfold scan at h
    have h1 := bump_inl h
    have hne : t ≠ [] := fun e => by subst e; cases h1
    rw [List.cons_append, scan, scan_app_err b e t k (by simpa using hk) (fun hh => h3 (List.mem_cons_of_mem _ hh)) (by rw [List.getLast?_cons_of_ne_nil hne] at hl; exact hl) h1]
    rfl
  | c :: t, 0, hk, h3, hl, h => by
    have h34 : c ≠ 34 := fun hh => h3 (by rw [hh]; exact List.mem_cons_self)
    have tail : ∀ k, k ≤ t.length → scan false k t = .inl e → scan false k (t ++ 32 :: b) = .inl e := fun k hk' h1 => by
      have hne : t ≠ [] := fun e => by subst e; cases h1
      exact scan_app_err b e t k hk' (fun hh => h3 (List.mem_cons_of_mem _ hh)) (by rw [List.getLast?_cons_of_ne_nil hne] at hl; exact hl) h1
    rw [List.cons_append]
    unfold scan at h ⊢
    by_cases h92 : c = 92
    · rw [if_pos h92] at h ⊢
      have hne : t ≠ [] := fun e => by subst e; exact hl (by rw [h92]; rfl)
      by_cases hz : escL (c :: t) = 0
      · rw [if_pos hz] at h
        have := escL_bad (b := b) hz hne
        rw [List.cons_append] at this
        rw [if_pos this]
        exact h
      · rw [if_neg hz] at h
        have ha := escL_app (r := 32 :: b) hz
        rw [List.cons_append] at ha
        rw [ha, if_neg hz]
        have hle := escL_nz hz
        rw [tail _ (by rw [List.length_cons] at hle; omega) (bump_inl h)]
        rfl
    rw [if_neg h92, if_neg (fun hh => h34 hh.2), if_neg h34] at h ⊢
    split at h
    · rename_i h40
      rw [if_pos h40]
      exact h
    rename_i h40
    rw [if_neg h40]
    split at h
    · cases h
    rename_i hs
    rw [if_neg hs, tail 0 (Nat.zero_le _) (bump_inl h)]
    rfl
theorem wordL_app {L b : List Int} {n : Nat} (hne : L ≠ []) (h : wordL L = .inr n) : wordL (L ++ 32 :: b) = .inr n := by
  cases L with
  | nil => exact absurd rfl hne
  | cons c u =>
    rw [wordL_cons] at h
    rw [List.cons_append]
    rw [wordL_cons]
    split at h
    · rename_i h34
      rw [if_pos h34]
      obtain ⟨m, h1, rfl⟩ := bump_inr h
      rw [scan_app true b u 0 m (Nat.zero_le _) h1]
      rfl
    · rename_i h34
      rw [if_neg h34]
      exact scan_app false b (c :: u) 0 n (Nat.zero_le _) h
theorem wordL_app_err {L b : List Int} {e : Int} (h3 : 34 ∉ L) (hl : L.getLast? ≠ some 92) (h : wordL L = .inl e) : wordL (L ++ 32 :: b) = .inl e := by
  cases L with
  | nil => cases h
  | cons c u =>
    rw [wordL_cons] at h
    rw [List.cons_append]
    rw [wordL_cons]
    have h34 : c ≠ 34 := fun hh => h3 (by rw [hh]; exact List.mem_cons_self)
    rw [if_neg h34] at h ⊢
    exact scan_app_err b e (c :: u) 0 (Nat.zero_le _) h3 hl h
def app (l : List (List Int)) : Sum Int (List (List Int)) → Sum Int (List (List Int))
  | .inl e => .inl e
  | .inr m => .inr (l ++ m)
theorem push_app (w : List Int) (l : List (List Int)) (r : Sum Int (List (List Int))) : push w (app l r) = app (w :: l) r := by cases r <;> rfl
theorem Spl.join {a b : List Int} {r rb : Sum Int (List (List Int))} (h : Spl a r) (hb : Spl b rb) : ∀ l, r = .inr l → 59 ∉ a → Spl (a ++ 32 :: b) (app l rb) := by
  induction h with
  | @nil L hd =>
    intro l hr _
    injection hr with hr
    subst hr
    have : app [] rb = rb := by cases rb <;> rfl
    rw [this]
    refine hb.same ?_
    rw [dropWhile_app_nil hd]
    rfl
  | @rem L u hd =>
    intro l hr h9
    exfalso
    obtain ⟨w, hw⟩ := dropWhile_suffix (p := blank) L
    rw [hd] at hw
    exact h9 (by rw [hw]; simp)
  | err _ _ _ => intro l hr; cases hr
  | @more L u c n r hd h9 hw _ ih =>
    intro l hr h59
    cases r with
    | inl e => cases hr
    | inr l' =>
      injection hr with hr
      subst hr
      have hle := wordL_le hw
      have hn9 : 59 ∉ (c :: u).drop n := fun hh => by
        obtain ⟨w, hw'⟩ := dropWhile_suffix (p := blank) L
        rw [hd] at hw'
        exact h59 (by rw [hw']; exact List.mem_append_right _ (List.mem_of_mem_drop hh))
      have h1 := ih l' rfl hn9
      rw [← push_app]
      have e1 : ((c :: u) ++ 32 :: b).drop n = (c :: u).drop n ++ 32 :: b := List.drop_append_of_le_length hle
      have e2 : ((c :: u) ++ 32 :: b).take n = (c :: u).take n := List.take_append_of_le_length hle
      have := Spl.more (L := L ++ 32 :: b) (u := u ++ 32 :: b) (c := c) (n := n) (dropWhile_app_ne hd) h9 (by have := wordL_app (b := b) (by simp) hw; exact this) (by rw [← List.cons_append, e1]; exact h1)
      rw [← List.cons_append, e2] at this
      exact this
theorem getLast_suffix {w l : List Int} (h : l ≠ []) : (w ++ l).getLast? = l.getLast? := by
  rw [List.getLast?_append]
  cases hl : l.getLast? with
  | none => exact absurd (List.getLast?_eq_none_iff.1 hl) h
  | some x => rfl
theorem Spl.nil_is {L : List Int} {r : Sum Int (List (List Int))} (h : Spl L r) (e : L = []) : r = .inr [] := by
  cases h with
  | nil _ => rfl
  | rem _ => rfl
  | err hd _ _ => subst e; cases hd
  | more hd _ _ _ => subst e; cases hd
theorem Spl.join_err {a b : List Int} {r : Sum Int (List (List Int))} (h : Spl a r) : ∀ e, r = .inl e → 34 ∉ a → a.getLast? ≠ some 92 → Spl (a ++ 32 :: b) (.inl e) := by
  induction h with
  | nil _ => intro e hr; cases hr
  | rem _ => intro e hr; cases hr
  | @err L u c e0 hd h9 hw =>
    intro e hr h3 hl
    injection hr with hr
    subst hr
    obtain ⟨w, hw'⟩ := dropWhile_suffix (p := blank) L
    rw [hd] at hw'
    have h3' : 34 ∉ c :: u := fun hh => h3 (by rw [hw']; exact List.mem_append_right _ hh)
    have hl' : (c :: u).getLast? ≠ some 92 := by rw [hw', getLast_suffix (by simp)] at hl; exact hl
    exact .err (dropWhile_app_ne hd) h9 (wordL_app_err h3' hl' hw)
  | @more L u c n r hd h9 hw hs ih =>
    intro e hr h3 hl
    cases r with
    | inr l => cases hr
    | inl e' =>
      injection hr with hr
      subst hr
      have hle := wordL_le hw
      obtain ⟨w, hw'⟩ := dropWhile_suffix (p := blank) L
      rw [hd] at hw'
      have hne : (c :: u).drop n ≠ [] := fun hh => by
        cases hs.nil_is hh
      have hsplit : c :: u = (c :: u).take n ++ (c :: u).drop n := (List.take_append_drop n _).symm
      have h1 := ih e' rfl (fun hh => h3 (by rw [hw']; exact List.mem_append_right _ (List.mem_of_mem_drop hh))) (by
        rw [hw', hsplit, ← List.append_assoc, getLast_suffix hne] at hl
        exact hl)
      have e1 : ((c :: u) ++ 32 :: b).drop n = (c :: u).drop n ++ 32 :: b := List.drop_append_of_le_length hle
      have := Spl.more (L := L ++ 32 :: b) (u := u ++ 32 :: b) (c := c) (n := n) (dropWhile_app_ne hd) h9 (by have := wordL_app (b := b) (by simp) hw; exact this) (by rw [← List.cons_append, e1]; exact h1)
      exact this
end Go.Proofs.YtdnfmilnkoocdaaDoor.K

-- from Ptok2
/- Words of a line: what the program tells, from a round on. -/
namespace Go.Proofs.YtdnfmilnkoocdaaDoor.K
set_option linter.unusedVariables false
set_option linter.unusedSimpArgs false
open Go.RowKit Go.Proofs.YtdnfmilnkoocdaaDoor.Q Go.Proofs.YtdnfmilnkoocdaaDoorW.PrintWords Go.Proofs.YtdnfmilnkoocdaaDoorW.PrintLast

theorem Ev.succ {α : Type} {g : Nat → Option α} {r : α} (h : Ev (fun k => g (k + 1)) r) : Ev g r := Ev.step (fun _ => rfl) h
theorem scan_0 (q : Bool) (c : Int) (t : List Int) : scan q 0 (c :: t) = if c = 92 then (if escL (c :: t) = 0 then .inl 60 else bump (scan q (escL (c :: t) - 1) t))
    else if q = true ∧ c = 34 then (match t with | [] => .inr 1 | d :: _ => if sep d = true then .inr 1 else .inl 61)
    else if c = 34 then .inl 61
    else if q = false ∧ (c = 40 ∨ c = 41) then .inl 11
    else if q = false ∧ sep c = true then .inr 0
    else bump (scan q 0 t) := by
  first
    | (rw [scan.eq_def]; done)
    | (rw [scan.eq_def]; rfl)
theorem digit_is (c : Int) : token_digit.f c = some (dig c) := by
  unfold token_digit.f dig
  split
  · rename_i h
    congr 1
    exact decide_eq_decide.2 (by omega)
  · rename_i h
    rw [decide_eq_false (by omega)]
theorem sep_idx {c : Int} (h : 0 ≤ c ∧ c ≤ 255) : ∃ t, strings_IndexByte.f (⟨#[32, 9, 59]⟩ : ByteArray) c = some t ∧ (t < 0 ↔ sep c = false) := by
  refine ⟨_, rfl, ?_⟩
  have key : ∀ b : UInt8, (Lib.indexByte [32, 9, 59] b < 0 ↔ ¬ (b = 32 ∨ b = 9 ∨ b = 59)) := by
    intro b
    simp only [Lib.indexByte]
    by_cases h1 : b = 32
    · subst h1; simp
    by_cases h2 : b = 9
    · subst h2; decide
    by_cases h3 : b = 59
    · subst h3; decide
    have e1 : ((32 : UInt8) == b) = false := by simpa using fun e => h1 e.symm
    have e2 : ((9 : UInt8) == b) = false := by simpa using fun e => h2 e.symm
    have e3 : ((59 : UInt8) == b) = false := by simpa using fun e => h3 e.symm
    simp [e1, e2, e3, h1, h2, h3]
  have hk := key c.toNat.toUInt8
  have hc : ∀ n : Nat, n < 256 → (c.toNat.toUInt8 = UInt8.ofNat n ↔ c = n) := by
    intro n hn
    constructor
    · intro e
      have := congrArg UInt8.toNat e
      simp at this
      omega
    · intro e
      subst e
      rfl
  refine hk.trans ?_
  have a1 : c.toNat.toUInt8 = 32 ↔ c = 32 := hc 32 (by omega)
  have a2 : c.toNat.toUInt8 = 9 ↔ c = 9 := hc 9 (by omega)
  have a3 : c.toNat.toUInt8 = 59 ↔ c = 59 := hc 59 (by omega)
  rw [a1, a2, a3]
  unfold sep
  simp

theorem escape_ev {t : List Int} (ho : Oct t) : ∃ v, Ev (fun k => token_escape.f k (strOfNums t)) (v, (escL t : Int)) := by
  unfold token_escape.f
  match t, ho with
  | [], ho => exact ⟨_, Ev.pos (by rw [size_str]; simp) (Ev.now _)⟩
  | [_], ho => exact ⟨_, Ev.pos (by rw [size_str]; simp) (Ev.now _)⟩
  | a :: b :: r, ho =>
    have hs : ((strOfNums (a :: b :: r)).size : Int) = (r.length : Int) + 2 := by rw [size_str]; simp; omega
    have hb : bt (strOfNums (a :: b :: r)) 1 = b := by
      rw [bt_str ho (by omega) (by simp; omega)]; rfl
    have j0t : Ev (fun k => token_escape.j0 k (strOfNums (a :: b :: r)) true) (0, 0) := Ev.step (f := fun _ => some (0, 0)) (fun k => rfl) (Ev.now _)
    rw [hs, hb, digit_is]
    by_cases hd : dig b = true
    · match r, ho, hs, hb, j0t with
      | [], ho, hs, hb, j0t =>
        rw [escL_2, if_pos hd]
        exact ⟨0, Ev.neg (by simp) (Ev.pos (by simp) (Ev.bind (Ev.now _) (Ev.pos hd (Ev.pos (by simp) j0t))))⟩
      | [c], ho, hs, hb, j0t =>
        rw [escL_3, if_pos hd]
        exact ⟨0, Ev.neg (by simp) (Ev.pos (by simp) (Ev.bind (Ev.now _) (Ev.pos hd (Ev.pos (by simp) j0t))))⟩
      | c :: d :: r, ho, hs, hb, j0t =>
        have hc : bt (strOfNums (a :: b :: c :: d :: r)) 2 = c := by
          rw [bt_str ho (by omega) (by simp; omega)]; rfl
        have hdd : bt (strOfNums (a :: b :: c :: d :: r)) 3 = d := by
          rw [bt_str ho (by omega) (by simp; omega)]; rfl
        rw [hc, hdd, digit_is, digit_is]
        have hl : (((c :: d :: r).length : Nat) : Int) = (r.length : Int) + 2 := by simp; omega
        rw [hl] at hs ⊢
        have front : ∀ v : Int × Int, Ev (fun k => (some (dig c)).bind fun t102 => if t102 = true then (if 3 < (r.length : Int) + 2 + 2 then (some (dig d)).bind fun t103 => token_escape.j0 k (strOfNums (a :: b :: c :: d :: r)) (!t103) else none) else token_escape.j0 k (strOfNums (a :: b :: c :: d :: r)) true) v →
            Ev (fun k => if (r.length : Int) + 2 + 2 < 2 then some (0, 0) else if 1 < (r.length : Int) + 2 + 2 then (some (dig b)).bind fun t101 => if t101 = true then (if (r.length : Int) + 2 + 2 < 4 then token_escape.j0 k (strOfNums (a :: b :: c :: d :: r)) true else if 2 < (r.length : Int) + 2 + 2 then (some (dig c)).bind fun t102 => if t102 = true then (if 3 < (r.length : Int) + 2 + 2 then (some (dig d)).bind fun t103 => token_escape.j0 k (strOfNums (a :: b :: c :: d :: r)) (!t103) else none) else token_escape.j0 k (strOfNums (a :: b :: c :: d :: r)) true else none) else some (b, 2) else none) v := by
          intro v h
          refine Ev.neg (by omega) (Ev.pos (by omega) (Ev.bind (Ev.now _) (Ev.pos hd (Ev.neg (by omega) (Ev.pos (by omega) h)))))
        by_cases hcc : dig c = true
        · by_cases hd3 : dig d = true
          · have b1 := of_decide_eq_true hd
            have b2 := of_decide_eq_true hcc
            have b3 := of_decide_eq_true hd3
            have m1 : (b - 48) % 256 = b - 48 := by omega
            have m2 : (c - 48) % 256 = c - 48 := by omega
            have m3 : (d - 48) % 256 = d - 48 := by omega
            have j0f : ∀ q : Bool, q = false → ∃ v, Ev (fun k => token_escape.j0 k (strOfNums (a :: b :: c :: d :: r)) q) (v, (escL (a :: b :: c :: d :: r) : Int)) := by
              intro q hq
              rw [escL_4, if_pos hd]
              by_cases hv : (b - 48) * 100 + (c - 48) * 10 + (d - 48) > 255
              · rw [if_neg (by omega)]
                refine ⟨0, Ev.step (fun k => rfl) (Ev.neg (by simp [hq]) (Ev.pos (by omega) (Ev.pos (by omega) (Ev.pos (by omega) (Ev.pos ?_ (Ev.now _))))))⟩
                rw [hb, hc, hdd, m1, m2, m3]
                exact hv
              · rw [if_pos ⟨hcc, hd3, by omega⟩]
                refine ⟨_, Ev.step (fun k => rfl) (Ev.neg (by simp [hq]) (Ev.pos (by omega) (Ev.pos (by omega) (Ev.pos (by omega) (Ev.neg ?_ (Ev.now _))))))⟩
                rw [hb, hc, hdd, m1, m2, m3]
                exact hv
            obtain ⟨v, hv⟩ := j0f false rfl
            refine ⟨v, front _ (Ev.bind (Ev.now _) (Ev.pos hcc (Ev.pos (by omega) (Ev.bind (Ev.now _) ?_))))⟩
            rw [hd3]
            exact hv
          · rw [escL_4, if_pos hd, if_neg (fun h => hd3 h.2.1)]
            refine ⟨0, front _ (Ev.bind (Ev.now _) (Ev.pos hcc (Ev.pos (by omega) (Ev.bind (Ev.now _) ?_))))⟩
            rw [show dig d = false by simpa using hd3]
            exact j0t
        · rw [escL_4, if_pos hd, if_neg (fun h => hcc h.1)]
          exact ⟨0, front _ (Ev.bind (Ev.now _) (Ev.neg hcc j0t))⟩
    · have he : escL (a :: b :: r) = 2 := by
        match r with
        | [] => rw [escL_2, if_neg hd]
        | [c] => rw [escL_3, if_neg hd]
        | c :: d :: r => rw [escL_4, if_neg hd]
      rw [he]
      exact ⟨b, Ev.neg (by omega) (Ev.pos (by omega) (Ev.bind (Ev.now _) (Ev.neg hd (Ev.now _))))⟩
def res (i : Int) : Sum Int Nat → Int × Int
  | .inl e => (0, e)
  | .inr n => (i + (n : Int), 0)
theorem res_bump (i : Int) (x : Sum Int Nat) : res i (bump x) = res (i + 1) x := by
  cases x with
  | inl e => rfl
  | inr n => show (i + ((n + 1 : Nat) : Int), (0 : Int)) = (i + 1 + (n : Int), 0); congr 1; omega
theorem scan_skip (q : Bool) : ∀ (k : Nat) (t : List Int) (i : Int), k ≤ t.length → res i (scan q k t) = res (i + (k : Int)) (scan q 0 (t.drop k))
  | 0, t, i, _ => by simp
  | k + 1, [], i, h => by simp at h
  | k + 1, c :: t, i, h => by
    rw [scan, res_bump, scan_skip q k t (i + 1) (by simpa using h), List.drop_succ_cons, show i + 1 + (k : Int) = i + ((k + 1 : Nat) : Int) by omega]
set_option maxHeartbeats 1000000 in
theorem word_loop {L : List Int} (ho : Oct L) (hL : L.length ≤ 1000000) (q : Bool) : ∀ (d i : Nat), L.length - i ≤ d → i ≤ L.length → Ev (fun k => token_word.l0 k (strOfNums L) q (i : Int)) (res (i : Int) (scan q 0 (L.drop i))) := by
  intro d
  induction d with
  | zero =>
    intro i h1 h2
    have : i = L.length := by omega
    subst this
    rw [List.drop_length]
    refine Ev.step (fun k => rfl) (Ev.neg (by rw [size_str]; omega) ?_)
    cases q with
    | true => exact Ev.pos rfl (Ev.now _)
    | false => exact Ev.neg (by decide) (Ev.ret (by simp [scan, res]))
  | succ d ih =>
    intro i h1 h2
    by_cases hi : i = L.length
    · subst hi
      rw [List.drop_length]
      refine Ev.step (fun k => rfl) (Ev.neg (by rw [size_str]; omega) ?_)
      cases q with
      | true => exact Ev.pos rfl (Ev.now _)
      | false => exact Ev.neg (by decide) (Ev.ret (by simp [scan, res]))
    have hlt : i < L.length := by omega
    have hbt : bt (strOfNums L) (i : Int) = rd L (i : Int) := bt_str ho (by omega) (by omega)
    have hoc := ho.rd (i := (i : Int)) (by omega) (by omega)
    have hcons := drop_cons L i hlt
    generalize hc : rd L (i : Int) = c at *
    have hw : wrap64 ((i : Int) + 1) = ((i + 1 : Nat) : Int) := by rw [w64 (by omega) (by omega)]; omega
    have next := ih (i + 1) (by omega) (by omega)
    refine Ev.step (fun k => rfl) (Ev.pos (by rw [size_str]; omega) (Ev.pos (by omega) ?_))
    rw [hbt, hcons, scan_0]
    by_cases h92 : c = 92
    · rw [if_pos h92]
      refine Ev.pos h92 (Ev.pos (by rw [size_str]; omega) ?_)
      have hex : (strOfNums L).extract ((i : Int)).toNat (strOfNums L).size = strOfNums (c :: L.drop (i + 1)) := by
        rw [extract_str, size_str, List.take_length, Int.toNat_natCast, hcons]
      rw [hex]
      have ho' : Oct (c :: L.drop (i + 1)) := by rw [← hcons]; exact ho.drop i
      obtain ⟨v, hv⟩ := escape_ev ho'
      refine Ev.bind hv ?_
      by_cases hz : escL (c :: L.drop (i + 1)) = 0
      · rw [if_pos hz]
        refine Ev.pos (by show ((escL (c :: L.drop (i + 1)) : Nat) : Int) = 0; omega) (Ev.now _)
      · rw [if_neg hz]
        have hle := escL_nz hz
        have hlen : (c :: L.drop (i + 1)).length = L.length - i := by rw [← hcons, List.length_drop]
        generalize hn : escL (c :: L.drop (i + 1)) = n at *
        refine Ev.neg (by show ¬ ((n : Nat) : Int) = 0; omega) ?_
        show Ev (fun k => token_word.l0 k (strOfNums L) q (wrap64 ((i : Int) + ((n : Nat) : Int)))) _
        rw [res_bump, scan_skip q _ _ _ (by rw [List.length_drop]; omega), List.drop_drop]
        have := ih (i + n) (by omega) (by omega)
        rw [w64 (by omega) (by omega), show i + 1 + (n - 1) = i + n by omega, show (i : Int) + 1 + ((n - 1 : Nat) : Int) = ((i + n : Nat) : Int) by omega, show (i : Int) + (n : Int) = ((i + n : Nat) : Int) by omega]
        exact this
    rw [if_neg h92]
    refine Ev.neg h92 ?_
    -- the walk behind a quote's end
    by_cases hq : q = true ∧ c = 34
    · obtain ⟨rfl, h34⟩ := hq
      rw [if_pos ⟨rfl, h34⟩]
      refine Ev.pos rfl (Ev.step (fun k => rfl) (Ev.pos (by simpa using h34) ?_))
      rw [hw]
      by_cases he : i + 1 = L.length
      · refine Ev.neg (by rw [size_str]; omega) ?_
        rw [show L.drop (i + 1) = [] from List.drop_of_length_le (by omega)]
        exact Ev.ret rfl
      · have hlt1 : i + 1 < L.length := by omega
        refine Ev.pos (by rw [size_str]; omega) (Ev.pos (by omega) ?_)
        rw [bt_str ho (by omega) (by omega), drop_cons L (i + 1) hlt1]
        obtain ⟨t, ht, hs⟩ := sep_idx (ho.rd (i := ((i + 1 : Nat) : Int)) (by omega) (by omega))
        refine Ev.bindS ht ?_
        by_cases hsp : sep (rd L ((i + 1 : Nat) : Int)) = true
        · simp only [hsp, if_true]
          refine Ev.neg (fun h => by rw [hs.1 h] at hsp; cases hsp) (Ev.ret ?_)
          show _ = ((i : Int) + ((1 : Nat) : Int), (0 : Int))
          congr 1
        · have hsf : sep (rd L ((i + 1 : Nat) : Int)) = false := by simpa using hsp
          simp only [hsf]
          exact Ev.pos (hs.2 hsf) (Ev.now _)
    rw [if_neg hq]
    have j2f : Ev (fun k => token_word.j2 k (strOfNums L) q (i : Int) c false) (res (i : Int) (if c = 34 then .inl 61 else if q = false ∧ (c = 40 ∨ c = 41) then .inl 11 else if q = false ∧ sep c = true then .inr 0 else bump (scan q 0 (L.drop (i + 1))))) := by
      refine Ev.succ ?_
      simp only [token_word.j2, Bool.false_eq_true, if_false]
      cases q with
      | true =>
        have h34 : c ≠ 34 := fun e => hq ⟨rfl, e⟩
        rw [if_neg h34, if_neg (by simp), if_neg (by simp), res_bump]
        simp only [if_true]
        refine Ev.succ ?_
        simp only [token_word.j3, Bool.false_eq_true, if_false, if_true]
        refine Ev.succ ?_
        simp only [token_word.j4, Bool.false_eq_true, if_false, if_true]
        rw [hw]
        exact next
      | false =>
        simp only [Bool.false_eq_true, if_false]
        refine Ev.succ ?_
        simp only [token_word.j3, Bool.false_eq_true, if_false]
        by_cases h34 : c = 34
        · rw [if_pos h34]
          exact Ev.pos (by simpa using h34) (Ev.now _)
        rw [if_neg h34]
        refine Ev.neg (by simpa using h34) ?_
        have j4f : c ≠ 40 → c ≠ 41 → Ev (fun k => token_word.j4 k (strOfNums L) false (i : Int) c false) (res (i : Int) (if True ∧ sep c = true then .inr 0 else bump (scan false 0 (L.drop (i + 1))))) := by
          intro h40 h41
          refine Ev.succ ?_
          simp only [token_word.j4, Bool.false_eq_true, if_false]
          obtain ⟨t, ht, hs⟩ := sep_idx hoc
          refine Ev.bindS ht ?_
          by_cases hsp : sep c = true
          · rw [if_pos ⟨trivial, hsp⟩]
            refine Ev.pos (by
              have : ¬ t < 0 := fun h => by rw [hs.1 h] at hsp; cases hsp
              omega) (Ev.ret ?_)
            show _ = ((i : Int) + ((0 : Nat) : Int), (0 : Int))
            congr 1
          · rw [if_neg (fun h => hsp h.2), res_bump]
            refine Ev.neg (by have := hs.2 (by simpa using hsp); omega) ?_
            rw [hw]
            exact next
        by_cases h40 : c = 40
        · rw [if_pos ⟨trivial, .inl h40⟩]
          exact Ev.pos h40 (Ev.step (f := fun _ => some (0, 11)) (fun k => rfl) (Ev.now _))
        refine Ev.neg h40 ?_
        by_cases h41 : c = 41
        · rw [if_pos ⟨trivial, .inr h41⟩]
          subst h41
          exact Ev.step (f := fun _ => some (0, 11)) (fun k => rfl) (Ev.now _)
        rw [if_neg (by omega), show (c == 41) = false by simpa using h41]
        exact j4f h40 h41
    cases q with
    | true =>
      have h34 : c ≠ 34 := fun e => hq ⟨rfl, e⟩
      refine Ev.pos rfl ?_
      rw [show (c == 34) = false by simpa using h34]
      exact j2f
    | false => exact Ev.neg (by decide) j2f
theorem word_ev {L : List Int} (ho : Oct L) (hL : L.length ≤ 1000000) (hne : L ≠ []) : Ev (fun k => token_word.f k (strOfNums L)) (res 0 (wordL L)) := by
  cases L with
  | nil => exact absurd rfl hne
  | cons c u =>
    have hb : bt (strOfNums (c :: u)) 0 = c := by rw [bt_str ho (by omega) (by simp)]; rfl
    unfold token_word.f
    rw [hb, wordL_cons]
    refine Ev.pos (by rw [size_str]; simp) ?_
    by_cases h34 : c = 34
    · rw [if_pos h34, res_bump]
      refine Ev.pos h34 ?_
      rw [show (c == 34) = true by simpa using h34]
      exact Ev.step (fun k => rfl) (word_loop ho hL true (c :: u).length 1 (by simp) (by simp))
    · rw [if_neg h34]
      refine Ev.neg h34 ?_
      rw [show (c == 34) = false by simpa using h34]
      exact Ev.step (fun k => rfl) (word_loop ho hL false (c :: u).length 0 (by simp) (by simp))
theorem trim_is {L : List Int} (ho : Oct L) : strings_TrimLeft.f (strOfNums L) (⟨#[32, 9]⟩ : ByteArray) = some (strOfNums (L.dropWhile blank)) := by
  unfold strings_TrimLeft.f
  rw [if_pos ⟨by decide, by decide⟩]
  congr 1
  have key : ∀ L : List Int, Oct L → Lib.trimLeftS (strOfNums L).data.toList (⟨#[32, 9]⟩ : ByteArray).data.toList = (strOfNums (L.dropWhile blank)).data.toList := by
    intro L
    induction L with
    | nil => intro _; rfl
    | cons c u ih =>
      intro ho
      have hc := ho c List.mem_cons_self
      have e : (strOfNums (c :: u)).data.toList = UInt8.ofNat c.toNat :: (strOfNums u).data.toList := by simp [strOfNums]
      have hcon : ((⟨#[32, 9]⟩ : ByteArray).data.toList.contains (UInt8.ofNat c.toNat)) = blank c := by
        unfold blank
        have h1 : ∀ n : Nat, n < 256 → (UInt8.ofNat c.toNat = UInt8.ofNat n ↔ c = n) := by
          intro n hn
          constructor
          · intro e
            have := congrArg UInt8.toNat e
            simp at this
            omega
          · intro e; subst e; rfl
        have a1 : UInt8.ofNat c.toNat = 32 ↔ c = 32 := h1 32 (by omega)
        have a2 : UInt8.ofNat c.toNat = 9 ↔ c = 9 := h1 9 (by omega)
        show ([32, 9] : List UInt8).contains _ = _
        by_cases x1 : c = 32
        · rw [a1.2 x1]; subst x1; rfl
        by_cases x2 : c = 9
        · rw [a2.2 x2]; subst x2; rfl
        rw [decide_eq_false (by omega)]
        have y1 : ¬ UInt8.ofNat c.toNat = 32 := fun h => x1 (a1.1 h)
        have y2 : ¬ UInt8.ofNat c.toNat = 9 := fun h => x2 (a2.1 h)
        simp [y1, y2]
      unfold Lib.trimLeftS at ih ⊢
      rw [e, List.dropWhile_cons, List.dropWhile_cons, hcon]
      split
      · exact ih (fun x hx => ho x (List.mem_cons_of_mem _ hx))
      · exact e.symm
  rw [key L ho]
def fin (acc : List ByteArray) : Sum Int (List (List Int)) → List ByteArray × Int
  | .inl e => ([], e)
  | .inr l => (acc ++ l.map strOfNums, 0)
theorem oct_dropWhile {L : List Int} (ho : Oct L) : Oct (L.dropWhile blank) := fun x hx => ho x (by
  obtain ⟨w, hw⟩ := dropWhile_suffix (p := blank) L
  rw [hw]; exact List.mem_append_right _ hx)
theorem str_empty {L : List Int} : (strOfNums L).toList = ([] : List UInt8) ↔ L = [] := by
  rw [ba_toList]
  simp [strOfNums]
theorem split_loop {L : List Int} {r : Sum Int (List (List Int))} (h : Spl L r) : Oct L → ∀ acc : List ByteArray, acc.length + L.length ≤ 1000000 → Ev (fun k => token_Split.l0 k (strOfNums L) acc) (fin acc r) := by
  induction h with
  | @nil L hd =>
    intro ho acc hl
    refine Ev.succ ?_
    simp only [token_Split.l0, trim_is ho, Option.bind_some]
    rw [hd]
    exact Ev.pos (str_empty.2 rfl) (Ev.step (f := fun _ => some (acc, 0)) (fun k => rfl) (Ev.ret (by simp [fin])))
  | @rem L u hd =>
    intro ho acc hl
    refine Ev.succ ?_
    simp only [token_Split.l0, trim_is ho, Option.bind_some]
    have ho' := oct_dropWhile ho
    rw [hd] at ho' ⊢
    refine Ev.neg (fun e => by cases str_empty.1 e) (Ev.pos (by rw [size_str]; simp) ?_)
    rw [bt_str ho' (by omega) (by simp), rd_cons_zero]
    exact Ev.step (f := fun _ => some (acc, 0)) (fun k => rfl) (Ev.ret (by simp [fin]))
  | @err L u c e hd h9 hw =>
    intro ho acc hl
    refine Ev.succ ?_
    simp only [token_Split.l0, trim_is ho, Option.bind_some]
    have ho' := oct_dropWhile ho
    have hlen := dropWhile_len blank L
    rw [hd] at ho' hlen ⊢
    refine Ev.neg (fun e => by cases str_empty.1 e) (Ev.pos (by rw [size_str]; simp) ?_)
    rw [bt_str ho' (by omega) (by simp), rd_cons_zero]
    refine Ev.step (fun k => rfl) (Ev.neg (by simpa using h9) ?_)
    have hwe := word_ev ho' (by omega) (by simp)
    rw [hw] at hwe
    refine Ev.bind hwe (Ev.neg ?_ (Ev.now _))
    have := wordL_err hw
    show ¬ e = 0
    omega
  | @more L u c n r hd h9 hw hs ih =>
    intro ho acc hl
    refine Ev.succ ?_
    simp only [token_Split.l0, trim_is ho, Option.bind_some]
    have ho' := oct_dropWhile ho
    have hlen := dropWhile_len blank L
    have hp := wordL_pos hw (dropWhile_head hd) h9
    rw [hd] at ho' hlen ⊢
    refine Ev.neg (fun e => by cases str_empty.1 e) (Ev.pos (by rw [size_str]; simp) ?_)
    rw [bt_str ho' (by omega) (by simp), rd_cons_zero]
    refine Ev.step (fun k => rfl) (Ev.neg (by simpa using h9) ?_)
    have hwe := word_ev ho' (by omega) (by simp)
    have hle := wordL_le hw
    rw [hw] at hwe
    have hr : res 0 (.inr n) = ((n : Int), 0) := by show ((0 : Int) + (n : Int), (0 : Int)) = _; congr 1; omega
    rw [hr] at hwe
    refine Ev.bind hwe (Ev.pos rfl (Ev.pos (by show (0 : Int) ≤ (n : Int); omega) (Ev.pos (by rw [size_str]; show (n : Int) ≤ _; omega) (Ev.pos (by omega) ?_))))
    show Ev (fun k => token_Split.l0 k ((strOfNums (c :: u)).extract ((n : Nat) : Int).toNat (strOfNums (c :: u)).size) (acc ++ [(strOfNums (c :: u)).extract 0 ((n : Nat) : Int).toNat])) _
    rw [extract_str, extract_str, size_str, List.take_length, Int.toNat_natCast, List.drop_zero]
    have := ih (ho'.drop n) (acc ++ [strOfNums ((c :: u).take n)]) (by rw [List.length_append, List.length_drop]; simp only [List.length_cons, List.length_nil] at hlen ⊢; omega)
    have e : fin acc (push ((c :: u).take n) r) = fin (acc ++ [strOfNums ((c :: u).take n)]) r := by
      cases r with
      | inl e => rfl
      | inr l => simp [fin, push]
    rw [e]
    exact this
theorem Split_ev {L : List Int} {r : Sum Int (List (List Int))} (h : Spl L r) (ho : Oct L) (hl : L.length ≤ 1000000) : Ev (fun k => token_Split.f k L) (fin [] r) := split_loop h ho [] (by simpa using hl)
end Go.Proofs.YtdnfmilnkoocdaaDoor.K

-- from Hbld
/- strings.Builder: the shelf's walks laid for this program; Write where what is written may lie above the builder. -/
namespace Go.Proofs
open Go.Shelf
theorem Tryd.bldSize : (Tryd.prog.info? 81).map (·.size) = some 2 := by kernel_rfl
theorem Tryd.bldLies : liesAt Tryd.prog Tryd.prog.depth 81 (2 / Tryd.prog.cellsOf 81) 0 81 1 = true := by kernel_rfl
theorem Tryd.bldByte : (Tryd.prog.info? 5).map (fun i => (i.zero, i.size, i.bytes)) = some (some (.int .u8 0), 1, 1) := by kernel_rfl
def Tryd.lays169_ren : Go.Shelf.Ren := ⟨fun | 169 => 50 | n => n, fun | 70 => 79 | 9 => 9 | 0 => 0 | 72 => 81 | 37 => 22 | 127 => 121 | 3 => 3 | 5 => 5 | n => n, fun | n => n⟩
theorem Tryd.lays169 : Go.Proofs.Lays.n169 Tryd.prog Tryd.lays169_ren := {
  mixed := by kernel_rfl
  f169 := Tryd.func50.trans (congrArg some (by kernel_rfl))
  t0 := Tryd.underlying0
  a0 := Tryd.isAgg0
  z0 := Tryd.sizeOf0
  v0 := Tryd.zeroValue0
  t3 := Tryd.underlying3
  a3 := Tryd.isAgg3
  z3 := Tryd.sizeOf3
  v3 := Tryd.zeroValue3
  t9 := Tryd.underlying9
  a9 := Tryd.isAgg9
  z9 := Tryd.sizeOf9
  v9 := Tryd.zeroValue9
  t37 := Tryd.underlying22
  a37 := Tryd.isAgg22
  z37 := Tryd.sizeOf22
  v37 := Tryd.zeroValue22
  t70 := Tryd.underlying79
  a70 := Tryd.isAgg79
  z70 := Tryd.sizeOf79
  v70 := Tryd.zeroValue79
  t72 := Tryd.underlying81
  a72 := Tryd.isAgg81
  z72 := Tryd.sizeOf81
  v72 := Tryd.zeroValue81
  t127 := Tryd.underlying121
  a127 := Tryd.isAgg121
  z127 := Tryd.sizeOf121
  v127 := Tryd.zeroValue121 }
theorem Tryd.bldX169 : Builder.Extra Tryd.prog Tryd.lays169_ren := {
  sizeBuilder := by kernel_rfl
  liesBuilder := by kernel_rfl
  t5 := Tryd.underlying5
  a5 := Tryd.isAgg5
  z5 := Tryd.sizeOf5
  v5 := Tryd.zeroValue5
  infoByte := by kernel_rfl
  cellsByte := by kernel_rfl
  sizeByte := by kernel_rfl
  neB5 := by decide }
end Go.Proofs
namespace Go.Proofs.YtdnfmilnkoocdaaDoor.Q
open Go.RowKit Go.Shelf Go.Proofs.YtdnfmilnkoocdaaDoorW.PrintWords Go.Proofs.YtdnfmilnkoocdaaDoorW.PrintLast Go.Proofs.YtdnfmilnkoocdaaDoorW.PrintMore
set_option linter.unusedVariables false
set_option linter.unusedSimpArgs false

theorem bld_String (B b : Nat) (l : List UInt8) (w : World) (h : Lib.IsBuilder 81 5 B b (Lib.byteCells l) w) (hBw : B ≤ w.heap.size) :
    Calls Tryd.prog 50 #[.pointer (some ⟨b, 0, none⟩)] w fun e w' => e = .returned (.string ⟨l.toArray⟩) ∧ Below B w w' := Any.Builder_String_any Tryd.lays169 Tryd.bldX169 B b l w h hBw
set_option maxHeartbeats 1000000 in
set_option maxRecDepth 100000 in
theorem bld_used (b : Nat) (w : World) (h0 : w.cell? ⟨b, 0, none⟩ = some (.pointer (some ⟨b, 0, none⟩))) :
    Calls Tryd.prog 77 #[.pointer (some ⟨b, 0, none⟩)] w fun e w' => e = .returned (.tuple #[]) ∧ w' = w := by
  obtain ⟨j, hj, _⟩ := Option.map_eq_some_iff.1 Tryd.bldSize
  go_enter Tryd.func77, Tryd.ntmps77
  go_wp2
  rw [Lib.run_neq_ptr_same w _ Tryd.underlying79 hj]
  go_wp2
  go_end0
  exact ⟨rfl, rfl⟩
set_option maxHeartbeats 1000000 in
set_option maxRecDepth 100000 in
theorem bld_fresh (b : Nat) (w : World) (h0 : w.cell? ⟨b, 0, none⟩ = some (.pointer none)) (hsh : w.shape? b = some (81, 2)) (hfz : w.frozen? ⟨b, 0, none⟩ = false) :
    Calls Tryd.prog 77 #[.pointer (some ⟨b, 0, none⟩)] w fun e w' => e = .returned (.tuple #[]) ∧ w' = w.setCell ⟨b, 0, none⟩ (.pointer (some ⟨b, 0, none⟩)) := by
  obtain ⟨j, hj, hjs⟩ := Option.map_eq_some_iff.1 Tryd.bldSize
  go_enter Tryd.func77, Tryd.ntmps77
  go_wp2
  rw [Lib.run_to_unsafe w ⟨b, 0, none⟩ Tryd.underlying79 Tryd.underlying136 hj (by rw [hjs]; decide) hsh (Nat.zero_lt_succ 1)]
  simp only [Result.andThen]
  rw [Oper.upon_value]
  go_wp2
  rw [run_callFunc_extern Tryd.func97 (by kernel_rfl) (by kernel_rfl) (by kernel_rfl) (e := Extern.AbiNoEscape.same) (by kernel_rfl)]
  rw [Lib.run_noEscape]
  simp only [Result.andThen]
  rw [Oper.upon_value]
  go_wp2
  rw [Lib.run_from_unsafe w ⟨b, 0, none⟩ Tryd.underlying136 Tryd.underlying79 hj hsh Tryd.bldLies]
  simp only [Result.andThen]
  rw [Oper.upon_value]
  go_wp2
  go_end0
  exact ⟨rfl, rfl⟩
theorem bld_copyCheck (B b : Nat) (bs : List Value) (w : World) (h : Lib.IsBuilder 81 5 B b bs w) :
    Calls Tryd.prog 77 #[.pointer (some ⟨b, 0, none⟩)] w fun e w' => e = .returned (.tuple #[]) ∧ Lib.BuilderAt 81 5 B b (.pointer (some ⟨b, 0, none⟩)) bs w' ∧ Below B w w' ∧ ∀ k, k ≠ b → w'.heap[k]? = w.heap[k]? := by
  rcases h with h | h
  · refine (bld_fresh b w h.cell0 h.shape h.frozen0).mono ?_
    rintro e w' ⟨rfl, rfl⟩
    exact ⟨rfl, h.used _, (Below.refl B w).setCell (p := ⟨b, 0, none⟩) h.1 _, fun k hk => Below.heap_setCell w ⟨b, 0, none⟩ _ k hk⟩
  · refine (bld_used b w h.cell0).mono ?_
    rintro e w' ⟨rfl, rfl⟩
    exact ⟨rfl, h, Below.refl B _, fun _ _ => rfl⟩

set_option maxHeartbeats 2000000 in
set_option maxRecDepth 100000 in
theorem bld_WriteByte (B b : Nat) (bs : List Value) (c : Int) (w : World) (h : Lib.IsBuilder 81 5 B b bs w) (hlen : bs.length + 1 ≤ 140737488355328) (hBw : B ≤ w.heap.size) :
    Calls Tryd.prog 48 #[.pointer (some ⟨b, 0, none⟩), .int .u8 c] w fun e w' => e = .returned .nilIface ∧ (Lib.BuilderAt 81 5 B b (.pointer (some ⟨b, 0, none⟩)) (bs ++ [.int .u8 c]) w' ∧ Below B w w') := by
  have cC := bld_copyCheck B b bs w h
  obtain ⟨i0, hi, hz0, hz1, hz2⟩ := info_parts Tryd.bldByte
  go_enter Tryd.func48, Tryd.ntmps48
  go_wp2_with (go_at_call 77; refine cC.mono ?_)
  rintro e w1 ⟨rfl, h1', hb1, hk1⟩
  obtain ⟨hB, v, hbk, hown, hne⟩ := h1'
  have c0 : w1.cell? ⟨b, 0, none⟩ = some (.pointer (some ⟨b, 0, none⟩)) := by rw [Lib.cell_of_heap hbk]; rfl
  have c1 : w1.cell? ⟨b, 1, none⟩ = some v := by rw [Lib.cell_of_heap hbk]; rfl
  go_wp2_with (at_builtin; refine wpList_append_own _ rfl _ _ 22 rfl B 5 i0 (.int .u8 0) 1 1 Tryd.underlying22 hi hz0 hz1 hz2 rfl (by decide) _ _ _ rfl (hown.alloc _) ⟨w1.heap.size, 0, none⟩ 1 1 [.int .u8 c] rfl rfl ?c1 ?c2 ?c3 ?c4 ?c5 ?_)
  case c1 =>
    intro j u hj
    match j, hj with
    | 0, hj => simp at hj; subst hj; simp [Addr.add]
  case c2 => intro u hu; simp at hu; subst hu; rfl
  case c3 => unfold maxLen; omega
  case c4 => omega
  case c5 => have := hb1.size; simp; omega
  intro v' w2 hown' hgrow _
  have hlt : b < w1.heap.size := by
    rcases Nat.lt_or_ge b w1.heap.size with h' | h'
    · exact h'
    · simp [Array.getElem?_eq_none h'] at hbk
  have hb2 : w2.heap[b]? = some (.cells #[.pointer (some ⟨b, 0, none⟩), v] 81 (0, 0)) := by
    rw [hgrow.block b (by simp; omega) (fun e => hne e.symm), Lib.alloc_old w1 _ b hlt]
    exact hbk
  have d0 : w2.cell? ⟨b, 0, none⟩ = some (.pointer (some ⟨b, 0, none⟩)) := by rw [Lib.cell_of_heap hb2]; rfl
  have d1 : w2.cell? ⟨b, 1, none⟩ = some v := by rw [Lib.cell_of_heap hb2]; rfl
  have f1 : w2.frozen? ⟨b, 1, none⟩ = false := Lib.frozen_of_heap hb2 1
  obtain ⟨g, cap, rfl⟩ : ∃ g cap, v' = .slice (some ⟨g, 0, none⟩) (bs.length + 1) cap := by
    rcases hown'.2 with ⟨_, h0⟩ | ⟨g, cap, cur, hv, _⟩
    · omega
    · exact ⟨g, cap, hv⟩
  go_wp2
  go_ret
  refine ⟨rfl, ?_, ?_⟩
  · exact Lib.BuilderAt.put (T := 81) (e := 5) hB hb2 (bs' := bs ++ [.int .u8 c]) (by simpa using hown') (by decide)
  · exact ((hb1.alloc (by have := hb1.size; omega) _).grown hgrow (by have := hb1.size; simp; omega) (fun k hk => (hown.lt k hk).1)).setCell (p := ⟨b, 1, none⟩) hB _

set_option maxHeartbeats 2000000 in
set_option maxRecDepth 100000 in
theorem bld_WriteString (B b : Nat) (bs : List Value) (s : ByteArray) (w : World) (h : Lib.IsBuilder 81 5 B b bs w) (hlen : bs.length + s.size ≤ 140737488355328) (hBw : B ≤ w.heap.size) :
    Calls Tryd.prog 47 #[.pointer (some ⟨b, 0, none⟩), .string s] w fun e w' => e = .returned (.tuple #[.int .i64 s.size, .nilIface]) ∧ (Lib.BuilderAt 81 5 B b (.pointer (some ⟨b, 0, none⟩)) (bs ++ Lib.strCells s) w' ∧ Below B w w') := by
  have cC := bld_copyCheck B b bs w h
  obtain ⟨i0, hi, hz0, hz1, hz2⟩ := info_parts Tryd.bldByte
  go_enter Tryd.func47, Tryd.ntmps47
  go_wp2_with (go_at_call 77; refine cC.mono ?_)
  rintro e w1 ⟨rfl, h1', hb1, hk1⟩
  obtain ⟨hB, v, hbk, hown, hne⟩ := h1'
  have c0 : w1.cell? ⟨b, 0, none⟩ = some (.pointer (some ⟨b, 0, none⟩)) := by rw [Lib.cell_of_heap hbk]; rfl
  have c1 : w1.cell? ⟨b, 1, none⟩ = some v := by rw [Lib.cell_of_heap hbk]; rfl
  go_wp2_with (at_builtin; refine Lib.wpList_append_own_string _ rfl _ _ 22 9 rfl B 5 i0 Tryd.underlying22 Tryd.underlying9 hi hz0 hz1 hz2 _ _ _ rfl hown s rfl ?c3 ?c4 ?c5 ?_)
  case c3 => unfold maxLen; omega
  case c4 => omega
  case c5 => have := hb1.size; omega
  intro v' w2 hown' hgrow _
  have hlt : b < w1.heap.size := by
    rcases Nat.lt_or_ge b w1.heap.size with h' | h'
    · exact h'
    · simp [Array.getElem?_eq_none h'] at hbk
  have hb2 : w2.heap[b]? = some (.cells #[.pointer (some ⟨b, 0, none⟩), v] 81 (0, 0)) := by
    rw [hgrow.block b hlt (fun e => hne e.symm)]
    exact hbk
  have d0 : w2.cell? ⟨b, 0, none⟩ = some (.pointer (some ⟨b, 0, none⟩)) := by rw [Lib.cell_of_heap hb2]; rfl
  have d1 : w2.cell? ⟨b, 1, none⟩ = some v := by rw [Lib.cell_of_heap hb2]; rfl
  have f1 : w2.frozen? ⟨b, 1, none⟩ = false := Lib.frozen_of_heap hb2 1
  obtain ⟨ao, n', cap, rfl⟩ : ∃ ao n' cap, v' = .slice ao n' cap := by
    rcases hown'.2 with ⟨hv, _⟩ | ⟨g, cap, cur, hv, _⟩
    · exact ⟨_, _, _, hv⟩
    · exact ⟨_, _, _, hv⟩
  go_wp2
  go_ret2
  refine ⟨rfl, ?_, ?_⟩
  · exact Lib.BuilderAt.put (T := 81) (e := 5) hB hb2 (bs' := bs ++ Lib.strCells s) (by simpa [Lib.strCells_length] using hown') (by decide)
  · exact (hb1.grown hgrow (by have := hb1.size; omega) (fun k hk => (hown.lt k hk).1)).setCell (p := ⟨b, 1, none⟩) hB _

set_option maxHeartbeats 2000000 in
set_option maxRecDepth 100000 in
theorem bld_Write (B b : Nat) (bs : List Value) (ad : Addr) (m c : Nat) (news : List Value) (w : World) (h : Lib.IsBuilder 81 5 B b bs w)
    (hl : news.length = m) (hnews : ∀ j u, news[j]? = some u → w.cell? (ad.add j) = some u) (hadB : ad.block ≠ b) (h1 : ∀ u ∈ news, u.oneCell' = true)
    (hlen : bs.length + m ≤ 140737488355328) (hBw : B ≤ w.heap.size) :
    Calls Tryd.prog 49 #[.pointer (some ⟨b, 0, none⟩), .slice (some ad) m c] w fun e w' => e = .returned (.tuple #[.int .i64 m, .nilIface]) ∧ (Lib.BuilderAt 81 5 B b (.pointer (some ⟨b, 0, none⟩)) (bs ++ news) w' ∧ Below B w w') := by
  have cC := bld_copyCheck B b bs w h
  obtain ⟨i0, hi, hz0, hz1, hz2⟩ := info_parts Tryd.bldByte
  go_enter Tryd.func49, Tryd.ntmps49
  go_wp2_with (go_at_call 77; refine cC.mono ?_)
  rintro e w1 ⟨rfl, h1', hb1, hk1⟩
  obtain ⟨hB, v, hbk, hown, hne⟩ := h1'
  have c0 : w1.cell? ⟨b, 0, none⟩ = some (.pointer (some ⟨b, 0, none⟩)) := by rw [Lib.cell_of_heap hbk]; rfl
  have c1 : w1.cell? ⟨b, 1, none⟩ = some v := by rw [Lib.cell_of_heap hbk]; rfl
  have hnews1 : ∀ j u, news[j]? = some u → w1.cell? (ad.add j) = some u := fun j u hj => by
    have hbl : (ad.add j).block = ad.block := by unfold Addr.add; split <;> rfl
    rw [← hnews j u hj]
    unfold World.cell?
    rw [hbl, hk1 ad.block hadB]
  go_wp2_with (at_builtin; refine wpList_append_own _ rfl _ _ 22 rfl B 5 i0 (.int .u8 0) 1 1 Tryd.underlying22 hi hz0 hz1 hz2 rfl (by decide) _ _ _ rfl hown ad m c news rfl (by omega) hnews1 h1 ?c3 ?c4 ?c5 ?_)
  case c3 => unfold maxLen; omega
  case c4 => omega
  case c5 => have := hb1.size; omega
  intro v' w2 hown' hgrow _
  have hlt : b < w1.heap.size := by
    rcases Nat.lt_or_ge b w1.heap.size with h' | h'
    · exact h'
    · simp [Array.getElem?_eq_none h'] at hbk
  have hb2 : w2.heap[b]? = some (.cells #[.pointer (some ⟨b, 0, none⟩), v] 81 (0, 0)) := by
    rw [hgrow.block b hlt (fun e => hne e.symm)]
    exact hbk
  have d0 : w2.cell? ⟨b, 0, none⟩ = some (.pointer (some ⟨b, 0, none⟩)) := by rw [Lib.cell_of_heap hb2]; rfl
  have d1 : w2.cell? ⟨b, 1, none⟩ = some v := by rw [Lib.cell_of_heap hb2]; rfl
  have f1 : w2.frozen? ⟨b, 1, none⟩ = false := Lib.frozen_of_heap hb2 1
  obtain ⟨ao, n', cap, rfl⟩ : ∃ ao n' cap, v' = .slice ao n' cap := by
    rcases hown'.2 with ⟨hv, _⟩ | ⟨g, cap, cur, hv, _⟩
    · exact ⟨_, _, _, hv⟩
    · exact ⟨_, _, _, hv⟩
  go_wp2
  go_ret2
  refine ⟨rfl, ?_, ?_⟩
  · exact Lib.BuilderAt.put (T := 81) (e := 5) hB hb2 (bs' := bs ++ news) (by simpa [hl] using hown') (by decide)
  · exact (hb1.grown hgrow (by have := hb1.size; omega) (fun k hk => (hown.lt k hk).1)).setCell (p := ⟨b, 1, none⟩) hB _

end Go.Proofs.YtdnfmilnkoocdaaDoor.Q

-- from Hesc
/- token.Escape: the walk. -/
namespace Go.Proofs.YtdnfmilnkoocdaaDoor.Q
open Go.RowKit Go.Shelf Go.Proofs.YtdnfmilnkoocdaaDoorW.PrintWords Go.Proofs.YtdnfmilnkoocdaaDoorW.PrintLast Go.Proofs.YtdnfmilnkoocdaaDoorW.PrintMore
set_option linter.unusedVariables false
set_option linter.unusedSimpArgs false

/-- Is an octet one of those that are escaped as they are? -/
def special (c : Int) : Bool := decide (c = 34 ∨ c = 59 ∨ c = 40 ∨ c = 41 ∨ c = 92 ∨ c = 46)
/-- An octet, escaped. -/
def esc1 (c : Int) : List Int := if special c = true then [92, c] else if 32 < c ∧ c ≤ 126 then [c] else [92, 48 + c / 100, 48 + c / 10 % 10, 48 + c % 10]
def token_Escape.f (l : List Int) : Option ByteArray := if l.all (fun x => decide (0 ≤ x ∧ x ≤ 255)) = true ∧ l.length ≤ 1000000 then some (strOfNums (l.flatMap esc1)) else none
theorem special_idx {c : Int} (h : 0 ≤ c ∧ c ≤ 255) : ∃ t, strings_IndexByte.f (⟨#[34, 59, 40, 41, 92, 46]⟩ : ByteArray) c = some t ∧ (t ≥ 0 ↔ special c = true) := by
  refine ⟨_, rfl, ?_⟩
  have key : ∀ b : UInt8, (Lib.indexByte [34, 59, 40, 41, 92, 46] b ≥ 0 ↔ (b = 34 ∨ b = 59 ∨ b = 40 ∨ b = 41 ∨ b = 92 ∨ b = 46)) := by
    intro b
    by_cases h1 : b = 34
    · subst h1; decide
    by_cases h2 : b = 59
    · subst h2; decide
    by_cases h3 : b = 40
    · subst h3; decide
    by_cases h4 : b = 41
    · subst h4; decide
    by_cases h5 : b = 92
    · subst h5; decide
    by_cases h6 : b = 46
    · subst h6; decide
    simp only [Lib.indexByte]
    have e : ∀ n : UInt8, ¬ b = n → (n == b) = false := fun n hn => by simpa using fun e => hn e.symm
    simp [e 34 h1, e 59 h2, e 40 h3, e 41 h4, e 92 h5, e 46 h6, h1, h2, h3, h4, h5, h6]
  have hk := key c.toNat.toUInt8
  have hc : ∀ n : Nat, n < 256 → (c.toNat.toUInt8 = UInt8.ofNat n ↔ c = n) := by
    intro n hn
    constructor
    · intro e
      have := congrArg UInt8.toNat e
      simp at this
      omega
    · intro e
      subst e
      rfl
  refine hk.trans ?_
  have a1 : c.toNat.toUInt8 = 34 ↔ c = 34 := hc 34 (by omega)
  have a2 : c.toNat.toUInt8 = 59 ↔ c = 59 := hc 59 (by omega)
  have a3 : c.toNat.toUInt8 = 40 ↔ c = 40 := hc 40 (by omega)
  have a4 : c.toNat.toUInt8 = 41 ↔ c = 41 := hc 41 (by omega)
  have a5 : c.toNat.toUInt8 = 92 ↔ c = 92 := hc 92 (by omega)
  have a6 : c.toNat.toUInt8 = 46 ↔ c = 46 := hc 46 (by omega)
  rw [a1, a2, a3, a4, a5, a6]
  unfold special
  simp
theorem esc1_len (c : Int) : (esc1 c).length ≤ 4 := by
  unfold esc1
  split
  · simp
  split <;> simp
theorem esc_len : ∀ l : List Int, (l.flatMap esc1).length ≤ 4 * l.length
  | [] => by simp
  | c :: l => by
    have := esc_len l
    have := esc1_len c
    rw [List.flatMap_cons, List.length_append, List.length_cons]
    omega
abbrev ocells (l : List Int) : List Value := l.map (Value.int .u8)
theorem bld_heap {T e B b : Nat} {bs : List Value} {W W' : World} (h : Lib.IsBuilder T e B b bs W) (hh : W'.heap = W.heap) : Lib.IsBuilder T e B b bs W' := by
  have one : ∀ p, Lib.BuilderAt T e B b p bs W → Lib.BuilderAt T e B b p bs W' := by
    rintro p ⟨h1, v, h2, h3, h4⟩
    refine ⟨h1, v, by rw [hh]; exact h2, ?_, h4⟩
    unfold World.ownsRow at h3 ⊢
    rw [hh]
    exact h3
  rcases h with h | h
  · exact .inl (one _ h)
  · exact .inr (one _ h)
theorem heap_drewN (W : World) (n : Nat) : (W.drewN n).heap = W.heap := by simp
theorem bld_new (W : World) : Lib.IsBuilder 81 5 W.heap.size W.heap.size [] (W.alloc (.cells #[.pointer none, .slice none 0 0] 81)) := by
  refine .inl ⟨Nat.le_refl _, .slice none 0 0, heap_alloc_new W _, ⟨?_, .inl ⟨rfl, rfl⟩⟩, by simp [Value.ownBlock]⟩
  rfl
theorem ocells_str {l : List Int} (h : ∀ x ∈ l, 0 ≤ x ∧ x ≤ 255) : Lib.strCells (strOfNums l) = ocells l := by
  unfold Lib.strCells ocells
  rw [strOfNums_data, List.map_map]
  apply List.map_congr_left
  intro x hx
  have := h x hx
  simp only [Function.comp_apply]
  congr 1
  simp only [UInt8.toNat_ofNat']
  omega
theorem esc_oct {c : Int} (h : 0 ≤ c ∧ c ≤ 255) : ∀ x ∈ esc1 c, 0 ≤ x ∧ x ≤ 255 := by
  intro x hx
  unfold esc1 at hx
  split at hx
  · simp at hx; omega
  split at hx
  · simp at hx; omega
  · simp at hx; omega
theorem esc_next {pre : List Int} {c : Int} {news : List Int} (h : esc1 c = news) : ocells ((pre ++ [c]).flatMap esc1) = ocells (pre.flatMap esc1) ++ ocells news := by
  unfold ocells
  rw [List.flatMap_append, List.map_append]
  simp [h]
theorem bld_alloc {T e B b : Nat} {bs : List Value} {W : World} (h : Lib.IsBuilder T e B b bs W) (o : Obj) : Lib.IsBuilder T e B b bs (W.alloc o) := by
  have one : ∀ p, Lib.BuilderAt T e B b p bs W → Lib.BuilderAt T e B b p bs (W.alloc o) := by
    intro p h
    have hlt := h.lt
    obtain ⟨h1, v, h2, h3, h4⟩ := h
    exact ⟨h1, v, (Lib.alloc_old W o b hlt).trans h2, h3.alloc _, h4⟩
  rcases h with h | h
  · exact .inl (one _ h)
  · exact .inr (one _ h)
theorem bld_lt {T e B b : Nat} {bs : List Value} {W : World} (h : Lib.IsBuilder T e B b bs W) : b < W.heap.size := h.elim (fun h => h.lt) (fun h => h.lt)
theorem esc_octs {l : List Int} (h : ∀ x ∈ l, 0 ≤ x ∧ x ≤ 255) : ∀ x ∈ l.flatMap esc1, 0 ≤ x ∧ x ≤ 255 := by
  intro x hx
  obtain ⟨c, hc, hx⟩ := List.mem_flatMap.1 hx
  exact esc_oct (h c hc) x hx
/-- Four octets written out of a new row. -/
theorem esc_four (B b : Nat) (bs : List Value) (c : Int) (wr : World) (nd : Nat) (h : Lib.IsBuilder 81 5 B b bs wr) (hlen : bs.length + 4 ≤ 140737488355328) (hBw : B ≤ wr.heap.size) (e1 : esc1 c = [92, 48 + c / 100, 48 + c / 10 % 10, 48 + c % 10]) :
    Calls Tryd.prog 49 #[.pointer (some ⟨b, 0, none⟩), .slice (some ⟨wr.heap.size, 0, none⟩) 4 4] ((wr.drewN nd).alloc (.cells #[.int .u8 92, .int .u8 (48 + c / 100), .int .u8 (48 + c / 10 % 10), .int .u8 (48 + c % 10)] 5)) fun e w' => (∃ v, e = .returned v) ∧ Lib.IsBuilder 81 5 B b (bs ++ ocells (esc1 c)) w' ∧ Below B wr w' := by
  have hlt := bld_lt h
  refine (bld_Write B b bs ⟨wr.heap.size, 0, none⟩ 4 4 (ocells (esc1 c)) ((wr.drewN nd).alloc (.cells #[.int .u8 92, .int .u8 (48 + c / 100), .int .u8 (48 + c / 10 % 10), .int .u8 (48 + c % 10)] 5)) (bld_alloc (bld_heap h rfl) _) (by rw [e1]; rfl) (fun j u hj => ?_) (by show wr.heap.size ≠ b; omega) (fun u hu => ?_) hlen (by simp; omega)).mono ?_
  · rw [add_plain, cell_of_row _ wr.heap.size j _ 5 _ (heap_alloc_new (wr.drewN nd) _)]
    rw [e1] at hj
    simpa [ocells] using hj
  · obtain ⟨x, _, rfl⟩ := List.mem_map.1 hu
    rfl
  · rintro e w' ⟨rfl, hb, hbb⟩
    have h1 : Below B wr ((wr.drewN nd).alloc (.cells #[.int .u8 92, .int .u8 (48 + c / 100), .int .u8 (48 + c / 10 % 10), .int .u8 (48 + c % 10)] 5)) := (pw_below_drewN (Below.refl _ _) nd).alloc hBw _
    exact ⟨⟨_, rfl⟩, .inr hb, h1.trans hbb⟩
theorem take_rd {l : List Int} {i : Nat} (h : i < l.length) : l.take (i + 1) = l.take i ++ [rd l (i : Int)] := by
  rw [List.take_succ_eq_append_getElem h]
  congr 2
  unfold rd
  simp [List.getD_eq_getElem?_getD, List.getElem?_eq_getElem h]
set_option maxHeartbeats 2000000 in
set_option maxRecDepth 100000 in
theorem token_Escape.calls (A0 : Option Addr) (c0 : Nat) (l : List Int) (r : ByteArray) (w : World) (hr0 : Kd.C (Kd.int .u8) w A0 l.length l) (hc0 : l.length ≤ c0) (h : token_Escape.f l = some r) :
    Calls Tryd.prog 17 #[.slice A0 l.length c0] w fun e w' => e = .returned (.string r) ∧ Below w.heap.size w w' := by
  unfold token_Escape.f at h
  split at h
  case isFalse => cases h
  case isTrue hh =>
  obtain ⟨hoct, hlen⟩ := hh
  obtain rfl := Option.some.inj h
  have ho : ∀ x ∈ l, 0 ≤ x ∧ x ≤ 255 := fun x hx => of_decide_eq_true (List.all_eq_true.1 hoct x hx)
  have HR := Aside0.mk hr0
  have HL := Aside0.mk hlen
  have HO := Aside0.mk ho
  clear hr0 hlen ho hoct h
  go_enter Tryd.func17, Tryd.ntmps17
  go_wp2
  have HB0 := Aside0.mk (bld_new w)
  go_loopg [8] (l.length + 1) (fun kq v8 wr => ∃ i : Nat, v8 = .int .i64 (i : Int) ∧ Aside0 (kq + i = l.length + 1 ∧ i ≤ l.length) ∧ Aside0 (Lib.IsBuilder 81 5 w.heap.size w.heap.size (ocells ((l.take i).flatMap esc1)) wr) ∧ Aside0 (Below w.heap.size w wr))
  case atStart => exact ⟨0, rfl, ⟨by omega, by omega⟩, HB0, ⟨(Below.refl _ w).alloc (Nat.le_refl _) _⟩⟩
  case round =>
    clear HB0
    obtain ⟨i, rfl, HI, HBL, HB⟩ := hrel
    cases gk with
    | zero => have := HI.out; omega
    | succ k1 =>
      by_cases hi : i < l.length
      · obtain ⟨ad, e0, hx⟩ := Kd.at_int (Kd.C_below HR.out HB.out) (i : Int) (by omega) (by omega)
        subst e0
        rw [Int.toNat_natCast] at hx
        have hc := HO.out _ (show rd l (i : Int) ∈ l by
          unfold rd
          simp only [Int.toNat_natCast, List.getD_eq_getElem?_getD, List.getElem?_eq_getElem hi, Option.getD_some]
          exact List.getElem_mem hi)
        have htk := take_rd hi
        have hb1 : decide ((i : Int) < (l.length : Int)) = true := decide_eq_true (by omega)
        have hb2 : decide (0 ≤ (i : Int)) = true := decide_eq_true (by omega)
        have hw : wrap64 ((i : Int) + 1) = ((i + 1 : Nat) : Int) := by have := HL.out; unfold wrap64; omega
        have hbl : (ocells ((l.take i).flatMap esc1)).length ≤ 4000000 := by
          have h1 := esc_len (l.take i)
          have h2 := HL.out
          rw [List.length_map]
          rw [List.length_take] at h1
          omega
        have HTK := Aside0.mk htk
        have HW := Aside0.mk hw
        have HBLN := Aside0.mk hbl
        have hBs := HB.out.size
        have HBS := Aside0.mk hBs
        clear htk hw hbl hBs
        generalize rd l (i : Int) = c at *
        obtain ⟨t, ht, hts⟩ := special_idx hc
        have HT := Aside0.mk ht
        have HC := Aside0.mk hc
        clear ht
        have hq1 : (i : Int) < (l.length : Int) := by omega
        have q1 := eq_true hq1
        by_cases sp : special c = true
        · have t0 := hts.2 sp
          have ht0 : decide (0 ≤ t) = true := decide_eq_true t0
          have HSP := Aside0.mk sp
          have HS : Aside0 ((⟨#[92]⟩ : ByteArray) ++ Utf8.encode c = strOfNums [92, c]) := ⟨by
            have := of_decide_eq_true sp
            rcases this with h | h | h | h | h | h <;> subst h <;> decide +kernel⟩
          have hes : (Utf8.encode c).size = 1 := by
            have := of_decide_eq_true sp
            rcases this with h | h | h | h | h | h <;> subst h <;> decide +kernel
          clear hts sp hi hq1 t0
          go_wp2_with (first
            | (go_at_call 46; (with_reducible refine (strings_IndexByte.calls _ c t _ HT.out).mono ?_); rintro e w' ⟨rfl, ⟨nd, rfl⟩⟩))
          refine calls_of_args (args' := #[.pointer (some ⟨w.heap.size, 0, none⟩), .string (strOfNums [92, c])]) (by rw [← HS.out]) ?_
          refine (bld_WriteString w.heap.size w.heap.size _ (strOfNums [92, c]) (wr.drewN nd) (bld_heap HBL.out rfl) (by have := HBLN.out; rw [strOfNums_size]; simp only [List.length_cons, List.length_nil]; omega) HBS.out).mono ?_
          rintro e w2 ⟨rfl, hbl2, hb2_⟩
          go_wp2
          go_roundg k1
          case measure => have := HI.out; omega
          case rel =>
            refine ⟨i + 1, by rw [HW.out], ⟨by have := HI.out; omega, by have := of_decide_eq_true hb1; omega⟩, ⟨.inr ?_⟩, ⟨(pw_below_drewN HB.out nd).trans hb2_⟩⟩
            rw [HTK.out, esc_next (show esc1 c = [92, c] by unfold esc1; rw [if_pos HSP.out]), ← ocells_str (l := [92, c]) (by intro x hx; have := HC.out; simp at hx; omega)]
            exact hbl2
        · have t0 : ¬ t ≥ 0 := fun h => sp (hts.1 h)
          have ht0 : decide (0 ≤ t) = false := decide_eq_false t0
          have HSP := Aside0.mk sp
          by_cases g1 : 32 < c
          · have hg1 : decide (32 < c) = true := decide_eq_true g1
            by_cases g2 : c ≤ 126
            · have hg2 : decide (c ≤ 126) = true := decide_eq_true g2
              have HG := Aside0.mk (And.intro g1 g2)
              clear hts sp hi hq1 t0 g1 g2
              go_wp2_with (first
                | (go_at_call 46; (with_reducible refine (strings_IndexByte.calls _ c t _ HT.out).mono ?_); rintro e w' ⟨rfl, ⟨nd, rfl⟩⟩))
              refine (bld_WriteByte w.heap.size w.heap.size _ c (wr.drewN nd) (bld_heap HBL.out rfl) (by have := HBLN.out; omega) HBS.out).mono ?_
              rintro e w2 ⟨rfl, hbl2, hb2_⟩
              go_wp2
              go_roundg k1
              case measure => have := HI.out; omega
              case rel =>
                refine ⟨i + 1, by rw [HW.out], ⟨by have := HI.out; omega, by have := of_decide_eq_true hb1; omega⟩, ⟨.inr ?_⟩, ⟨(pw_below_drewN HB.out nd).trans hb2_⟩⟩
                rw [HTK.out, esc_next (show esc1 c = [c] by unfold esc1; rw [if_neg HSP.out, if_pos HG.out])]
                exact hbl2
            · have hg2 : decide (c ≤ 126) = false := decide_eq_false g2
              have HG := Aside0.mk (show ¬ (32 < c ∧ c ≤ 126) from fun h => g2 h.2)
              clear hts sp hi hq1 t0 g1 g2
              go_wp2_with (first
                | (go_at_call 46; (with_reducible refine (strings_IndexByte.calls _ c t _ HT.out).mono ?_); rintro e w' ⟨rfl, ⟨nd, rfl⟩⟩))
              refine (esc_four w.heap.size w.heap.size _ c wr nd HBL.out (by have := HBLN.out; omega) HBS.out (by unfold esc1; rw [if_neg HSP.out, if_neg HG.out])).mono ?_
              rintro e w2 ⟨⟨v2, rfl⟩, hbl2, hb2_⟩
              go_wp2
              go_roundg k1
              case measure => have := HI.out; omega
              case rel =>
                refine ⟨i + 1, by rw [HW.out], ⟨by have := HI.out; omega, by have := of_decide_eq_true hb1; omega⟩, ⟨?_⟩, ⟨HB.out.trans hb2_⟩⟩
                rw [HTK.out, esc_next rfl]
                exact hbl2
          · have hg1 : decide (32 < c) = false := decide_eq_false g1
            have HG := Aside0.mk (show ¬ (32 < c ∧ c ≤ 126) from fun h => g1 h.1)
            clear hts sp hi hq1 t0 g1
            go_wp2_with (first
              | (go_at_call 46; (with_reducible refine (strings_IndexByte.calls _ c t _ HT.out).mono ?_); rintro e w' ⟨rfl, ⟨nd, rfl⟩⟩))
            refine (esc_four w.heap.size w.heap.size _ c wr nd HBL.out (by have := HBLN.out; omega) HBS.out (by unfold esc1; rw [if_neg HSP.out, if_neg HG.out])).mono ?_
            rintro e w2 ⟨⟨v2, rfl⟩, hbl2, hb2_⟩
            go_wp2
            go_roundg k1
            case measure => have := HI.out; omega
            case rel =>
              refine ⟨i + 1, by rw [HW.out], ⟨by have := HI.out; omega, by have := of_decide_eq_true hb1; omega⟩, ⟨?_⟩, ⟨HB.out.trans hb2_⟩⟩
              rw [HTK.out, esc_next rfl]
              exact hbl2
      · have hb1 : decide ((i : Int) < (l.length : Int)) = false := decide_eq_false (by omega)
        have hil : i = l.length := by have := HI.out; omega
        subst hil
        have hbl := HBL.out
        rw [List.take_length] at hbl
        have HBL2 := Aside0.mk hbl
        have hBs := HB.out.size
        have HBS := Aside0.mk hBs
        clear hbl HBL hi hBs
        go_wp2_with fail
        have hs := HBL2.out
        rw [← ocells_str (esc_octs HO.out), Lib.strCells_eq] at hs
        refine (bld_String w.heap.size w.heap.size _ wr hs HBS.out).mono ?_
        rintro e w2 ⟨rfl, hb2_⟩
        go_wp2
        go_ret
        exact ⟨by simp, HB.out.trans hb2_⟩

end Go.Proofs.YtdnfmilnkoocdaaDoor.Q

-- from Hnam
/- owner.Name: the walk. -/
namespace Go.Proofs.YtdnfmilnkoocdaaDoor.Q
open Go.RowKit Go.Shelf Go.Proofs.YtdnfmilnkoocdaaDoorW.PrintWords Go.Proofs.YtdnfmilnkoocdaaDoorW.PrintLast Go.Proofs.YtdnfmilnkoocdaaDoorW.PrintMore
set_option linter.unusedVariables false
set_option linter.unusedSimpArgs false

/-- One label, escaped, and its dot; a name of labels. -/
def dotted (l : List Int) : List Int := l.flatMap esc1 ++ [46]
def nameL (ls : List (List Int)) : List Int := ls.flatMap dotted
def labelsOk (ls : List (List Int)) : Bool := ls.all (fun l => l.all (fun x => decide (0 ≤ x ∧ x ≤ 255)) && decide (l.length ≤ 1000)) && decide (ls.length ≤ 1000)
def owner_Name.f (k : Nat) (l0 : List (List Int)) : Option (ByteArray × Int) := (owner_right.f k l0).bind fun ok => if ok = true then (if l0.length = 0 then some (⟨#[46]⟩, 0) else if labelsOk l0 = true then some (strOfNums (nameL l0), 0) else none) else some (⟨#[]⟩, 62)
theorem owner_Name.mono : ∀ l0 k, LeO (owner_Name.f k l0) (owner_Name.f (k + 1) l0) := by
  intro l0 k
  unfold owner_Name.f
  exact LeO.bind (owner_right.mono _ _) (fun _ => LeO.refl _)
theorem dotted_len (l : List Int) (h : l.length ≤ 1000) : (dotted l).length ≤ 4001 := by
  have := esc_len l
  unfold dotted
  rw [List.length_append, List.length_cons, List.length_nil]
  omega
theorem nameL_len : ∀ ls : List (List Int), (∀ l ∈ ls, l.length ≤ 1000) → (nameL ls).length ≤ 4001 * ls.length
  | [], _ => by simp [nameL]
  | l :: ls, h => by
    have h1 := dotted_len l (h l List.mem_cons_self)
    have h2 := nameL_len ls (fun x hx => h x (List.mem_cons_of_mem _ hx))
    unfold nameL at h2 ⊢
    rw [List.flatMap_cons, List.length_append, List.length_cons]
    omega
theorem dotted_oct {l : List Int} (h : ∀ x ∈ l, 0 ≤ x ∧ x ≤ 255) : ∀ x ∈ dotted l, 0 ≤ x ∧ x ≤ 255 := by
  intro x hx
  rcases List.mem_append.1 hx with hx | hx
  · exact esc_octs h x hx
  · rw [List.mem_singleton.1 hx]; omega
theorem nameL_oct {ls : List (List Int)} (h : ∀ l ∈ ls, ∀ x ∈ l, 0 ≤ x ∧ x ≤ 255) : ∀ x ∈ nameL ls, 0 ≤ x ∧ x ≤ 255 := by
  intro x hx
  obtain ⟨l, hl, hx⟩ := List.mem_flatMap.1 hx
  exact dotted_oct (h l hl) x hx
theorem take_rdL2 {ls : List (List Int)} {i : Nat} (h : i < ls.length) : ls.take (i + 1) = ls.take i ++ [rd_L2 ls (i : Int)] := by
  rw [List.take_succ_eq_append_getElem h]
  congr 2
  unfold rd_L2
  simp [List.getD_eq_getElem?_getD, List.getElem?_eq_getElem h]
theorem name_next {pre : List (List Int)} {l : List Int} : ocells (nameL (pre ++ [l])) = ocells (nameL pre) ++ ocells (dotted l) := by
  unfold ocells nameL
  rw [List.flatMap_append, List.map_append]
  simp
theorem bld_below {T e B b : Nat} {bs : List Value} {W W' : World} (h : Lib.IsBuilder T e B b bs W) (hb : Below W.heap.size W W') : Lib.IsBuilder T e B b bs W' := by
  have one : ∀ p, Lib.BuilderAt T e B b p bs W → Lib.BuilderAt T e B b p bs W' := by
    intro p h
    have hlt := h.lt
    obtain ⟨h1, v, h2, h3, h4⟩ := h
    refine ⟨h1, v, (hb.block b hlt).trans h2, ⟨h3.1, ?_⟩, h4⟩
    rcases h3.2 with h3 | ⟨g, cap, cur, q1, q2, q3, q4⟩
    · exact .inl h3
    · exact .inr ⟨g, cap, cur, q1, q2, (hb.block g (Array.getElem?_eq_some_iff.1 q3).1).trans q3, q4⟩
  rcases h with h | h
  · exact .inl (one _ h)
  · exact .inr (one _ h)
theorem dot_str (l : List Int) : strOfNums (l.flatMap esc1) ++ (⟨#[46]⟩ : ByteArray) = strOfNums (dotted l) := by
  have e : ∀ a b : ByteArray, a.data = b.data → a = b := by
    intro a b h
    cases a; cases b
    simp at h
    rw [h]
  apply e
  apply Array.ext'
  simp [strOfNums, dotted]
set_option maxHeartbeats 2000000 in
set_option maxRecDepth 100000 in
theorem owner_Name.calls (k : Nat) (A0 : Option Addr) (c0 : Nat) (l0 : List (List Int)) (r1 : ByteArray) (r2 : Int) (w : World) (hr0 : Kd.C (Kd.slice 5 (Kd.int .u8)) w A0 l0.length l0) (hc0 : l0.length ≤ c0) (h : owner_Name.f k l0 = some (r1, r2)) :
    Calls Tryd.prog 21 #[.slice A0 l0.length c0] w fun e w' => e = .returned (.tuple #[.string r1, .int .i64 r2]) ∧ Below w.heap.size w w' := by
  unfold owner_Name.f at h
  obtain ⟨ok, hok, h⟩ := Option.bind_eq_some_iff.mp h
  have HOK := Aside0.mk hok
  have HR := Aside0.mk hr0
  have HC := Aside0.mk hc0
  clear hok hr0 hc0
  cases ok with
  | false =>
    simp only [Bool.false_eq_true, if_false, Option.some.injEq, Prod.mk.injEq] at h
    obtain ⟨rfl, rfl⟩ := h
    go_enter Tryd.func21, Tryd.ntmps21
    go_wp2_with (first | (go_at_call 52; (with_reducible refine (owner_right.calls k A0 c0 l0 false _ HR.out HC.out HOK.out).mono ?_); rintro e w' ⟨rfl, ⟨nd, rfl⟩⟩))
    go_ret2
    exact ⟨rfl, pw_below_drewN (Below.refl _ _) nd⟩
  | true =>
    simp only [if_true] at h
    by_cases z : l0.length = 0
    · rw [if_pos z] at h
      simp only [Option.some.injEq, Prod.mk.injEq] at h
      obtain ⟨rfl, rfl⟩ := h
      have hz : ((l0.length : Int) == 0) = true := by simp [z]
      clear z
      go_enter Tryd.func21, Tryd.ntmps21
      go_wp2_with (first | (go_at_call 52; (with_reducible refine (owner_right.calls k A0 c0 l0 true _ HR.out HC.out HOK.out).mono ?_); rintro e w' ⟨rfl, ⟨nd, rfl⟩⟩))
      go_ret2
      exact ⟨rfl, pw_below_drewN (Below.refl _ _) nd⟩
    · rw [if_neg z] at h
      split at h
      case isFalse => cases h
      case isTrue hl =>
      simp only [Option.some.injEq, Prod.mk.injEq] at h
      obtain ⟨rfl, rfl⟩ := h
      unfold labelsOk at hl
      rw [Bool.and_eq_true] at hl
      obtain ⟨hl1, hl2⟩ := hl
      have hlen := of_decide_eq_true hl2
      have hall : ∀ l ∈ l0, (∀ x ∈ l, 0 ≤ x ∧ x ≤ 255) ∧ l.length ≤ 1000 ∧ l.all (fun x => decide (0 ≤ x ∧ x ≤ 255)) = true := fun l hm => by
        have := List.all_eq_true.1 hl1 l hm
        rw [Bool.and_eq_true] at this
        exact ⟨fun x hx => of_decide_eq_true (List.all_eq_true.1 this.1 x hx), of_decide_eq_true this.2, this.1⟩
      have HAL := Aside0.mk hall
      have HLN := Aside0.mk hlen
      have hz : ((l0.length : Int) == 0) = false := by simpa using z
      clear hl1 hl2 hall hlen
      go_enter Tryd.func21, Tryd.ntmps21
      go_wp2_with (first | (go_at_call 52; (with_reducible refine (owner_right.calls k A0 c0 l0 true _ HR.out HC.out HOK.out).mono ?_); rintro e w' ⟨rfl, ⟨nd, rfl⟩⟩))
      have HB0 := Aside0.mk (bld_new (w.drewN nd))
      go_loopg [15] (l0.length + 1) (fun kq v15 wr => ∃ i : Nat, v15 = .int .i64 (i : Int) ∧ Aside0 (kq + i = l0.length + 1 ∧ i ≤ l0.length) ∧ Aside0 (Lib.IsBuilder 81 5 w.heap.size w.heap.size (ocells (nameL (l0.take i))) wr) ∧ Aside0 (Below w.heap.size w wr))
      case atStart => exact ⟨0, rfl, ⟨by omega, by omega⟩, HB0, ⟨(pw_below_drewN (Below.refl _ w) nd).alloc (Nat.le_refl _) _⟩⟩
      case round =>
        clear HB0
        obtain ⟨i, rfl, HI, HBL, HB⟩ := hrel
        cases gk with
        | zero => have := HI.out; omega
        | succ k1 =>
          by_cases hi : i < l0.length
          · obtain ⟨ad, A1, c1, e0, hx, hl1, hi1⟩ := at_L2 (Kd.C_below HR.out HB.out) (i : Int) (by omega) (by omega)
            subst e0
            rw [Int.toNat_natCast] at hx
            have hc := HAL.out _ (show rd_L2 l0 (i : Int) ∈ l0 by
              unfold rd_L2
              simp only [Int.toNat_natCast, List.getD_eq_getElem?_getD, List.getElem?_eq_getElem hi, Option.getD_some]
              exact List.getElem_mem hi)
            have htk := take_rdL2 hi
            have hb1 : decide ((i : Int) < (l0.length : Int)) = true := decide_eq_true (by omega)
            have hb2 : decide (0 ≤ (i : Int)) = true := decide_eq_true (by omega)
            have hw : wrap64 ((i : Int) + 1) = ((i + 1 : Nat) : Int) := by have := HLN.out; unfold wrap64; omega
            have hbl : (ocells (nameL (l0.take i))).length ≤ 4001000 := by
              have h1 := nameL_len (l0.take i) (fun l hl => (HAL.out l (List.mem_of_mem_take hl)).2.1)
              have h2 := HLN.out
              rw [List.length_map]
              rw [List.length_take] at h1
              omega
            have HTK := Aside0.mk htk
            have HW := Aside0.mk hw
            have HBLN := Aside0.mk hbl
            have hBs := HB.out.size
            have HBS := Aside0.mk hBs
            have HI1 := Aside0.mk hi1
            have HL1 := Aside0.mk hl1
            have hq1 : (i : Int) < (l0.length : Int) := by omega
            have q1 := eq_true hq1
            clear htk hw hbl hBs hi1 hl1
            generalize rd_L2 l0 (i : Int) = l at *
            have hes : token_Escape.f l = some (strOfNums (l.flatMap esc1)) := by
              unfold token_Escape.f
              rw [if_pos ⟨hc.2.2, by have := hc.2.1; omega⟩]
            have HES := Aside0.mk hes
            have HCC := Aside0.mk hc
            have hsz : (strOfNums (l.flatMap esc1)).size ≤ 4000 := by
              have := esc_len l
              have := hc.2.1
              rw [strOfNums_size]
              omega
            have HSZ := Aside0.mk hsz
            have hng : ¬ 9223372036854775807 < (strOfNums (l.flatMap esc1)).size + 1 := by omega
            have HBLW := HBL
            clear hi hq1 hc hes hsz
            go_wp2_with (first
              | (go_at_call 17
                 (with_reducible refine (token_Escape.calls A1 c1 l _ _ HI1.out HL1.out HES.out).mono ?_)
                 rintro e w2 ⟨rfl, hb2_⟩))
            refine calls_of_args (args' := #[.pointer (some ⟨w.heap.size, 0, none⟩), .string (strOfNums (dotted l))]) (by rw [dot_str]) ?_
            have hbl1 : Lib.IsBuilder 81 5 w.heap.size w.heap.size (ocells (nameL (l0.take i))) w2 := bld_below HBL.out hb2_
            refine (bld_WriteString w.heap.size w.heap.size _ (strOfNums (dotted l)) w2 hbl1 (by have h1 := dotted_len l HCC.out.2.1; have h2 := HBLN.out; rw [strOfNums_size]; omega) (by have := HBS.out; have := hb2_.size; omega)).mono ?_
            rintro e w3 ⟨rfl, hbl2, hb3_⟩
            go_wp2
            go_roundg k1
            case measure => have := HI.out; omega
            case rel =>
              refine ⟨i + 1, by rw [HW.out], ⟨by have := HI.out; omega, by have := of_decide_eq_true hb1; omega⟩, ⟨.inr ?_⟩, ⟨(HB.out.trans (hb2_.mono HBS.out)).trans hb3_⟩⟩
              rw [HTK.out, name_next, ← ocells_str (dotted_oct HCC.out.1)]
              exact hbl2
          · have hb1 : decide ((i : Int) < (l0.length : Int)) = false := decide_eq_false (by omega)
            have hil : i = l0.length := by have := HI.out; omega
            subst hil
            have hbl := HBL.out
            rw [List.take_length] at hbl
            have HBL2 := Aside0.mk hbl
            have hBs := HB.out.size
            have HBS := Aside0.mk hBs
            clear hbl HBL hi hBs
            go_wp2_with fail
            have hs := HBL2.out
            rw [← ocells_str (nameL_oct (fun l hl => (HAL.out l hl).1)), Lib.strCells_eq] at hs
            refine (bld_String w.heap.size w.heap.size _ wr hs HBS.out).mono ?_
            rintro e w2 ⟨rfl, hb2_⟩
            go_wp2
            go_ret2
            exact ⟨by simp, HB.out.trans hb2_⟩

end Go.Proofs.YtdnfmilnkoocdaaDoor.Q

-- from Qf18
-- Made by hp.py, a program of this session, with the kit's printer. Not trusted: Lean checks it.
namespace Go.Proofs.YtdnfmilnkoocdaaDoor.Q
open Go.RowKit Go.Proofs.YtdnfmilnkoocdaaDoorW.PrintWords Go.Proofs.YtdnfmilnkoocdaaDoorW.PrintLast Go.Proofs.YtdnfmilnkoocdaaDoorW.PrintMore
attribute [local go_sem] max2_int min2_int max_two min_two max_three min_three max_four min_four   -- for this text's walks alone
set_option linter.unusedVariables false
set_option linter.unusedSimpArgs false

/-! ### paronymref25_Escaped: function 18 -/
mutual
def paronymref25_Escaped.l0 : Nat → ByteArray → List Int → Int → Option (ByteArray)
  | 0, _, _, _ => none
  | k + 1, x0, x3, x4 => if x4 < (x0.size : Int) then (if 0 ≤ x4 then (if (bt x0 x4) = 34 then (paronymref25_Escaped.j1 k x0 x3 x4 (bt x0 x4) true) else (if (bt x0 x4) = 59 then (paronymref25_Escaped.j1 k x0 x3 x4 (bt x0 x4) true) else (if (bt x0 x4) = 40 then (paronymref25_Escaped.j1 k x0 x3 x4 (bt x0 x4) true) else (if (bt x0 x4) = 41 then (paronymref25_Escaped.j1 k x0 x3 x4 (bt x0 x4) true) else (if (bt x0 x4) = 92 then (paronymref25_Escaped.j1 k x0 x3 x4 (bt x0 x4) true) else (paronymref25_Escaped.j1 k x0 x3 x4 (bt x0 x4) ((bt x0 x4) == 46))))))) else (none)) else (some (strOfNums x3))
def paronymref25_Escaped.j1 : Nat → ByteArray → List Int → Int → Int → Bool → Option (ByteArray)
  | 0, _, _, _, _, _ => none
  | k + 1, x0, x3, x4, x5, x36 => if x36 = true then ((some (([92, x5] : List Int) : List Int)).bind fun y101 => (if x3.length + y101.length < 140737488355328 then (paronymref25_Escaped.l0 k x0 (x3 ++ y101) (wrap64 (x4 + 1))) else (none))) else (if x5 > 32 then (if x5 < 127 then (if x3.length < 140737488355328 then (paronymref25_Escaped.l0 k x0 (x3 ++ [x5]) (wrap64 (x4 + 1))) else (none)) else ((some (([92, (48 + ((Int.tdiv x5 100) % 256)) % 256, 48 + (((Int.tdiv x5 10) % 256) % 10), (48 + (Int.tmod x5 10)) % 256] : List Int) : List Int)).bind fun y110 => (if x3.length + y110.length < 140737488355328 then (paronymref25_Escaped.l0 k x0 (x3 ++ y110) (wrap64 (x4 + 1))) else (none)))) else ((some (([92, (48 + ((Int.tdiv x5 100) % 256)) % 256, 48 + (((Int.tdiv x5 10) % 256) % 10), (48 + (Int.tmod x5 10)) % 256] : List Int) : List Int)).bind fun y116 => (if x3.length + y116.length < 140737488355328 then (paronymref25_Escaped.l0 k x0 (x3 ++ y116) (wrap64 (x4 + 1))) else (none))))
end
def paronymref25_Escaped.f (k : Nat) (a0 : ByteArray) : Option (ByteArray) := paronymref25_Escaped.l0 k a0 ([] : List Int) 0
theorem paronymref25_Escaped.mono_l : ∀ k, (∀ y0 y1 y2, LeO (paronymref25_Escaped.l0 k y0 y1 y2) (paronymref25_Escaped.l0 (k + 1) y0 y1 y2)) ∧ (∀ y0 y1 y2 y3 y4, LeO (paronymref25_Escaped.j1 k y0 y1 y2 y3 y4) (paronymref25_Escaped.j1 (k + 1) y0 y1 y2 y3 y4))
  | 0 => ⟨fun _ _ _ r h => by simp [paronymref25_Escaped.l0] at h, fun _ _ _ _ _ r h => by simp [paronymref25_Escaped.j1] at h⟩
  | k + 1 => by
    obtain ⟨ih0, ih1⟩ := paronymref25_Escaped.mono_l k
    refine ⟨?_, ?_⟩
    · intro y0 y1 y2
      unfold paronymref25_Escaped.l0
      repeat' first
      | (with_reducible exact ih0 _ _ _)
      | (with_reducible exact ih1 _ _ _ _ _)
      | (with_reducible exact LeO.refl _)
      | (with_reducible exact LeO.none _)
      | (with_reducible refine LeO.ite ?_ ?_)
      | (with_reducible refine LeO.bind ?_ (fun _ => ?_))
      | exact ih0 _ _ _
      | exact ih1 _ _ _ _ _
      | exact LeO.none _
      | refine LeO.ite ?_ ?_
      | refine LeO.bind ?_ (fun _ => ?_)
    · intro y0 y1 y2 y3 y4
      unfold paronymref25_Escaped.j1
      repeat' first
      | (with_reducible exact ih0 _ _ _)
      | (with_reducible exact ih1 _ _ _ _ _)
      | (with_reducible exact LeO.refl _)
      | (with_reducible exact LeO.none _)
      | (with_reducible refine LeO.ite ?_ ?_)
      | (with_reducible refine LeO.bind ?_ (fun _ => ?_))
      | exact ih0 _ _ _
      | exact ih1 _ _ _ _ _
      | exact LeO.none _
      | refine LeO.ite ?_ ?_
      | refine LeO.bind ?_ (fun _ => ?_)
theorem paronymref25_Escaped.mono : ∀ a0 k, LeO (paronymref25_Escaped.f k a0) (paronymref25_Escaped.f (k + 1) a0) := by
  intro a0 k
  obtain ⟨ih0, ih1⟩ := paronymref25_Escaped.mono_l k
  unfold paronymref25_Escaped.f
  repeat' first
      | (with_reducible exact ih0 _ _ _)
      | (with_reducible exact ih1 _ _ _ _ _)
      | (with_reducible exact LeO.refl _)
      | (with_reducible exact LeO.none _)
      | (with_reducible refine LeO.ite ?_ ?_)
      | (with_reducible refine LeO.bind ?_ (fun _ => ?_))
      | exact ih0 _ _ _
      | exact ih1 _ _ _ _ _
      | exact LeO.none _
      | refine LeO.ite ?_ ?_
      | refine LeO.bind ?_ (fun _ => ?_)
set_option maxHeartbeats 8000000 in
set_option maxRecDepth 100000 in
theorem paronymref25_Escaped.calls (k : Nat) (a0 : ByteArray) (r : ByteArray) (w : World) (h : paronymref25_Escaped.f k a0 = some r) :
    Calls Tryd.prog 18 #[.string a0] w fun e w' => e = .returned (.string r) ∧ Below w.heap.size w w' := by
  have HB := Aside0.mk (Below.refl w.heap.size w)
  have H : (paronymref25_Escaped.l0 k a0 ([] : List Int) 0) = some r := h
  clear h
  have H' := Aside0.mk H
  clear H
  go_enter Tryd.func18, Tryd.ntmps18
  go_wp2
  go_loopg [3, 4] k (fun kq v3 v4 w' => ∃ (x3_1 : List Int) (x4_1 : Int), v4 = .int .i64 x4_1 ∧ Aside0 (paronymref25_Escaped.l0 kq a0 x3_1 x4_1 = some r) ∧ Aside0 (kq ≤ k) ∧ Aside0 (Kd.R (Kd.int .u8) 5 w' w.heap.size (fun _ => True) v3 x3_1) ∧ Aside0 (Below w.heap.size w w'))
  case atStart => exact ⟨(([] : List Int)), (0), (by first | rfl | (simp; done) | (simp [*]; done)), H', ⟨Nat.le_refl _⟩, ⟨by first | exact Kd.R_nil _ _ _ _ _ | exact Kd.N_nil _ _ _ _ _ | exact Kd.V_nil _ _ _ _ _ | exact Kd.Q_nil _ _ _ _ _ | exact Kd.S_nil _ _ _ _ _⟩, ⟨by repeat (first | (with_reducible first | exact HB.out | apply below_alloc | apply pw_below_drewN | apply below_drew1) | exact HB.out)⟩⟩
  case round =>
    clear H'
    try clear c1
    obtain ⟨x3_1, x4_1, rfl, HA, HK1, HO_3, HB⟩ := hrel
    cases gk with
    | zero => exact absurd HA.out (by simp [paronymref25_Escaped.l0])
    | succ k1 =>
      have H := HA.out
      clear HA
      simp only [paronymref25_Escaped.l0] at H
      by_cases c2 : x4_1 < (a0.size : Int)
      · rw [if_pos c2] at H
        have c2b0 : decide (x4_1 < (a0.size : Int)) = true := decide_eq_true c2
        clear c2
        by_cases c3 : 0 ≤ x4_1
        · rw [if_pos c3] at H
          have c3b0 : decide (0 ≤ x4_1) = true := decide_eq_true c3
          clear c3
          have HC5 := Aside0.mk H
          clear H
          have p4 : 0 ≤ (x4_1 : Int) := of_decide_eq_true (by first | (with_reducible assumption) | assumption)
          have q4 : x4_1 < (a0.size : Int) := of_decide_eq_true (by first | (with_reducible assumption) | assumption)
          have hx4 := bt_at a0 x4_1
          replace p4 := eq_true p4
          replace q4 := eq_true q4
          go_upto_region 6 with (fail)
          go_cut [36] (fun v36 wc => ∃ (kq : Nat) (x36_4 : Bool), v36 = .bool x36_4 ∧ Aside0 (paronymref25_Escaped.j1 kq a0 x3_1 x4_1 (bt a0 x4_1) x36_4 = some r) ∧ Aside0 (kq ≤ k1) ∧ Aside0 (Kd.R (Kd.int .u8) 5 wc w.heap.size (fun _ => True) u3 x3_1) ∧ Aside0 (Below w.heap.size w wc))
          case first =>
            have H := HC5.out
            clear HC5
            by_cases c6 : (bt a0 x4_1) = 34
            · rw [if_pos c6] at H
              have c6b0 : ((bt a0 x4_1) == 34) = true := beq_iff_eq.mpr c6
              have c6b1 : ((bt a0 x4_1) != 34) = false := bne_eq_false_iff_eq.mpr c6
              clear c6
              (first | rw [c6b0] | (simp only [i64_w, i32_w]; rw [c6b0]) | rw [c6b1] | (simp only [i64_w, i32_w]; rw [c6b1]) | skip)
              have H' := Aside0.mk H
              clear H
              go_wp2
              go_meet
              case rel => exact ⟨_, (true), (by first | rfl | (simp; done) | (simp [*]; done)), H', ⟨by have := HK1.out; first | omega | exact Nat.le_refl _⟩, ⟨by (with_reducible repeat (first | apply Kd.R_alloc | apply Kd.R_drewN | apply Kd.R_drew)); exact HO_3.out⟩, ⟨by repeat (first | (with_reducible first | exact HB.out | apply below_alloc | apply pw_below_drewN | apply below_drew1) | exact HB.out)⟩⟩
            · rw [if_neg c6] at H
              have c6b0 : ((bt a0 x4_1) == 34) = false := beq_eq_false_iff_ne.mpr c6
              have c6b1 : ((bt a0 x4_1) != 34) = true := bne_iff_ne.mpr c6
              (first | rw [c6b0] | (simp only [i64_w, i32_w]; rw [c6b0]) | rw [c6b1] | (simp only [i64_w, i32_w]; rw [c6b1]) | skip)
              by_cases c7 : (bt a0 x4_1) = 59
              · rw [if_pos c7] at H
                have c7b0 : ((bt a0 x4_1) == 59) = true := beq_iff_eq.mpr c7
                have c7b1 : ((bt a0 x4_1) != 59) = false := bne_eq_false_iff_eq.mpr c7
                clear c7
                have H' := Aside0.mk H
                clear H
                go_wp2
                go_meet
                case rel => exact ⟨_, (true), (by first | rfl | (simp; done) | (simp [*]; done)), H', ⟨by have := HK1.out; first | omega | exact Nat.le_refl _⟩, ⟨by (with_reducible repeat (first | apply Kd.R_alloc | apply Kd.R_drewN | apply Kd.R_drew)); exact HO_3.out⟩, ⟨by repeat (first | (with_reducible first | exact HB.out | apply below_alloc | apply pw_below_drewN | apply below_drew1) | exact HB.out)⟩⟩
              · rw [if_neg c7] at H
                have c7b0 : ((bt a0 x4_1) == 59) = false := beq_eq_false_iff_ne.mpr c7
                have c7b1 : ((bt a0 x4_1) != 59) = true := bne_iff_ne.mpr c7
                by_cases c8 : (bt a0 x4_1) = 40
                · rw [if_pos c8] at H
                  have c8b0 : ((bt a0 x4_1) == 40) = true := beq_iff_eq.mpr c8
                  have c8b1 : ((bt a0 x4_1) != 40) = false := bne_eq_false_iff_eq.mpr c8
                  clear c8
                  have H' := Aside0.mk H
                  clear H
                  go_wp2
                  go_meet
                  case rel => exact ⟨_, (true), (by first | rfl | (simp; done) | (simp [*]; done)), H', ⟨by have := HK1.out; first | omega | exact Nat.le_refl _⟩, ⟨by (with_reducible repeat (first | apply Kd.R_alloc | apply Kd.R_drewN | apply Kd.R_drew)); exact HO_3.out⟩, ⟨by repeat (first | (with_reducible first | exact HB.out | apply below_alloc | apply pw_below_drewN | apply below_drew1) | exact HB.out)⟩⟩
                · rw [if_neg c8] at H
                  have c8b0 : ((bt a0 x4_1) == 40) = false := beq_eq_false_iff_ne.mpr c8
                  have c8b1 : ((bt a0 x4_1) != 40) = true := bne_iff_ne.mpr c8
                  by_cases c9 : (bt a0 x4_1) = 41
                  · rw [if_pos c9] at H
                    have c9b0 : ((bt a0 x4_1) == 41) = true := beq_iff_eq.mpr c9
                    have c9b1 : ((bt a0 x4_1) != 41) = false := bne_eq_false_iff_eq.mpr c9
                    clear c9
                    have H' := Aside0.mk H
                    clear H
                    go_wp2
                    go_meet
                    case rel => exact ⟨_, (true), (by first | rfl | (simp; done) | (simp [*]; done)), H', ⟨by have := HK1.out; first | omega | exact Nat.le_refl _⟩, ⟨by (with_reducible repeat (first | apply Kd.R_alloc | apply Kd.R_drewN | apply Kd.R_drew)); exact HO_3.out⟩, ⟨by repeat (first | (with_reducible first | exact HB.out | apply below_alloc | apply pw_below_drewN | apply below_drew1) | exact HB.out)⟩⟩
                  · rw [if_neg c9] at H
                    have c9b0 : ((bt a0 x4_1) == 41) = false := beq_eq_false_iff_ne.mpr c9
                    have c9b1 : ((bt a0 x4_1) != 41) = true := bne_iff_ne.mpr c9
                    by_cases c10 : (bt a0 x4_1) = 92
                    · rw [if_pos c10] at H
                      have c10b0 : ((bt a0 x4_1) == 92) = true := beq_iff_eq.mpr c10
                      have c10b1 : ((bt a0 x4_1) != 92) = false := bne_eq_false_iff_eq.mpr c10
                      clear c10
                      have H' := Aside0.mk H
                      clear H
                      go_wp2
                      go_meet
                      case rel => exact ⟨_, (true), (by first | rfl | (simp; done) | (simp [*]; done)), H', ⟨by have := HK1.out; first | omega | exact Nat.le_refl _⟩, ⟨by (with_reducible repeat (first | apply Kd.R_alloc | apply Kd.R_drewN | apply Kd.R_drew)); exact HO_3.out⟩, ⟨by repeat (first | (with_reducible first | exact HB.out | apply below_alloc | apply pw_below_drewN | apply below_drew1) | exact HB.out)⟩⟩
                    · rw [if_neg c10] at H
                      have c10b0 : ((bt a0 x4_1) == 92) = false := beq_eq_false_iff_ne.mpr c10
                      have c10b1 : ((bt a0 x4_1) != 92) = true := bne_iff_ne.mpr c10
                      have H' := Aside0.mk H
                      clear H
                      go_wp2
                      go_meet
                      case rel => exact ⟨_, (((bt a0 x4_1) == 46)), (by first | rfl | (simp; done) | (simp [*]; done)), H', ⟨by have := HK1.out; first | omega | exact Nat.le_refl _⟩, ⟨by (with_reducible repeat (first | apply Kd.R_alloc | apply Kd.R_drewN | apply Kd.R_drew)); exact HO_3.out⟩, ⟨by repeat (first | (with_reducible first | exact HB.out | apply below_alloc | apply pw_below_drewN | apply below_drew1) | exact HB.out)⟩⟩
          case rest =>
            clear HC5
            try clear c1
            try clear c2
            try clear c2b0
            try clear p2
            try clear c3
            try clear c3b0
            try clear p4
            try clear q4
            try clear hx4
            try clear c6
            try clear c6b0
            try clear c6b1
            try clear c7
            try clear c7b0
            try clear c7b1
            try clear c8
            try clear c8b0
            try clear c8b1
            try clear c9
            try clear c9b0
            try clear c9b1
            try clear c10
            try clear c10b0
            try clear c10b1
            try clear p4
            try clear q4
            obtain ⟨kq, x36_4, rfl, HA, HJ4, HO_3, HB⟩ := hcut
            cases kq with
            | zero => exact absurd HA.out (by simp [paronymref25_Escaped.j1])
            | succ kj4 =>
              have H := HA.out
              clear HA
              simp only [paronymref25_Escaped.j1] at H
              by_cases c11 : x36_4 = true
              · subst c11
                have H1 : ((some (([92, (bt a0 x4_1)] : List Int) : List Int)).bind fun y101 => (if x3_1.length + y101.length < 140737488355328 then (paronymref25_Escaped.l0 kj4 a0 (x3_1 ++ y101) (wrap64 (x4_1 + 1))) else (none))) = some r := by rw [if_pos rfl] at H; exact H
                clear H
                have H := H1
                clear H1
                obtain ⟨y101, hy101⟩ : ∃ y_ : List Int, y_ = (([92, (bt a0 x4_1)] : List Int)) := ⟨_, rfl⟩
                replace H : (if x3_1.length + y101.length < 140737488355328 then (paronymref25_Escaped.l0 kj4 a0 (x3_1 ++ y101) (wrap64 (x4_1 + 1))) else (none)) = some r := by first | (rw [hy101]; with_reducible exact H) | (have H2_ := (Option.bind_some _ _).symm.trans H; rw [hy101]; with_reducible exact H2_) | (have H2_ := (Option.bind_some _ _).symm.trans H; with_reducible exact H2_) | with_reducible exact H | (rw [hy101]; exact H) | exact H
                have Ny101 := Aside0.mk hy101
                clear hy101
                by_cases c12 : x3_1.length + y101.length < 140737488355328
                · rw [if_pos c12] at H
                  have LMc12 := Aside0.mk c12
                  clear c12
                  obtain ⟨y104, hy104⟩ : ∃ y_ : List Int, y_ = (x3_1 ++ y101) := ⟨_, rfl⟩
                  replace H : (paronymref25_Escaped.l0 kj4 a0 y104 (wrap64 (x4_1 + 1))) = some r := by first | (rw [hy104]; with_reducible exact H) | (have H2_ := (Option.bind_some _ _).symm.trans H; rw [hy104]; with_reducible exact H2_) | (have H2_ := (Option.bind_some _ _).symm.trans H; with_reducible exact H2_) | with_reducible exact H | (rw [hy104]; exact H) | exact H
                  have Ny104 := Aside0.mk hy104
                  clear hy104
                  have H' := Aside0.mk H
                  clear H
                  go_wp2_with (first | ((with_reducible refine gate_dst (N := 39) rfl ?_); refine Kd.R_lit (Kd.int .u8) _ 5 ?hg (N := 39) ?hd (xs := ([92, (bt a0 x4_1)] : List Int)) (inner := [.int .u8 92, .int .u8 (bt a0 x4_1)]) (ok := fun _ => True) (okp := fun _ => True) ?hr ?hp (fun _ hk => hk) trivial (Below.refl _ _) (Nat.le_refl _) (by simp) ?_; (case hd => rfl); (case hg => rfl); (case hr => first | (go_simp; done) | (go_simp; rfl)); (case hp => exact (Reps.one (show Kd.M (Kd.int .u8) _ _ _ 92 [.int .u8 92] from rfl) (Reps.one (show Kd.M (Kd.int .u8) _ _ _ (bt a0 x4_1) [.int .u8 (bt a0 x4_1)] from rfl) (Reps.none _ _)))); intro v102 w13 ho14 hb hg_ hnew_; clear hg_ hnew_; (first | rw [← Ny101.out] at ho14 | (simp only [Int.reduceToNat] at ho14; rw [← Ny101.out] at ho14)); have n0_ := Aside0.mk (Kd.R_elder' (by (with_reducible repeat (first | apply Kd.R_alloc | apply Kd.R_drewN | apply Kd.R_drew)); exact HO_3.out) (Kd.R_base ho14) hb); have n1_ := Aside0.mk (Kd.R_lower (Kd.R_new' ho14 (Kd.R_lt (by (with_reducible repeat (first | apply Kd.R_alloc | apply Kd.R_drewN | apply Kd.R_drew)); exact HO_3.out))) (below_size (by repeat (first | (with_reducible first | exact HB.out | apply below_alloc | apply pw_below_drewN | apply below_drew1) | exact HB.out)))); have n2_ := Aside0.mk (below_step (by repeat (first | (with_reducible first | exact HB.out | apply below_alloc | apply pw_below_drewN | apply below_drew1) | exact HB.out)) hb); clear HO_3; clear HB; have HO_3 := n0_; have HO103 := n1_; have HB := n2_; clear n0_ n1_ n2_; clear hb ho14; obtain ⟨Ao16, co16, eo16⟩ := Kd.R_slice HO103.out; subst eo16) | ((with_reducible refine gate_builtin (b := .append) (xs := #[.tmp 37, .tmp 39]) rfl ?_); at_builtin; refine Kd.R_append_rows (Kd.int .u8) (w0 := w) w.heap.size rfl (.tmp 37) (.tmp 39) 22 5 (.int .u8 0) 1 rfl Tryd.underlying22 info5 rfl (by decide) (by omega) u3 x3_1 y101 _ _ _ (fun k_ => some k_ ≠ (.slice Ao16 y101.length co16 : Value).ownBlock) (fun _ => False) rfl rfl ?aO ?aR (fun _ _ h => h) (fun _ h => h.elim) ?aF ?aB ?aS ?aL ?_; (case aR => repeat (first | exact (Kd.R_reads' HO103.out).2.2 | (with_reducible refine Kd.C_alloc ?_ _) | (with_reducible refine Kd.C_drewN ?_ _) | (with_reducible refine Kd.C_drew ?_))); (case aB => exact (by repeat (first | (with_reducible first | exact HB.out | apply below_alloc | apply pw_below_drewN | apply below_drew1) | exact HB.out))); (case aF => exact (fun k_ hk => Kd.fresh' (Kd.R_lt (by (with_reducible repeat (first | apply Kd.R_alloc | apply Kd.R_drewN | apply Kd.R_drew)); exact HO103.out)) k_ hk)); (case aO => exact (by (with_reducible repeat (first | apply Kd.R_alloc | apply Kd.R_drewN | apply Kd.R_drew)); exact Kd.R_mono HO_3.out (fun _ hk => hk.2))); (case aS => exact (below_size (by repeat (first | (with_reducible first | exact HB.out | apply below_alloc | apply pw_below_drewN | apply below_drew1) | exact HB.out)))); (case aL => have := LMc12.out; omega); intro v105 w15 ho hb hg hat; rw [← Ny104.out] at ho; have n0_ := Aside0.mk (Kd.R_after (ok := (fun _ => True)) (by (with_reducible repeat (first | apply Kd.R_alloc | apply Kd.R_drewN | apply Kd.R_drew)); exact HO103.out) hg hat); have n1_ := Aside0.mk (hb); have n2_ := Aside0.mk (ho); clear HO103; clear HB; clear HO_3; have HO103 := n0_; have HB := n1_; have HO106 := n2_; clear n0_ n1_ n2_; clear ho hb hg hat))
                  go_roundg kj4
                  case measure => have := HK1.out; have := HJ4.out; omega
                  case rel => exact ⟨(y104), (wrap64 (x4_1 + 1)), (by first | rfl | (simp; done) | (simp [*]; done)), H', ⟨by have := HK1.out; have := HJ4.out; omega⟩, ⟨by (with_reducible repeat (first | apply Kd.R_alloc | apply Kd.R_drewN | apply Kd.R_drew)); exact Kd.R_mono HO106.out (fun _ hk => trivial)⟩, ⟨by repeat (first | (with_reducible first | exact HB.out | apply below_alloc | apply pw_below_drewN | apply below_drew1) | exact HB.out)⟩⟩
                · rw [if_neg c12] at H
                  exact absurd H (by simp)
              · replace c11 := Bool.eq_false_iff.mpr c11
                subst c11
                have H1 : (if (bt a0 x4_1) > 32 then (if (bt a0 x4_1) < 127 then (if x3_1.length < 140737488355328 then (paronymref25_Escaped.l0 kj4 a0 (x3_1 ++ [(bt a0 x4_1)]) (wrap64 (x4_1 + 1))) else (none)) else ((some (([92, (48 + ((Int.tdiv (bt a0 x4_1) 100) % 256)) % 256, 48 + (((Int.tdiv (bt a0 x4_1) 10) % 256) % 10), (48 + (Int.tmod (bt a0 x4_1) 10)) % 256] : List Int) : List Int)).bind fun y110 => (if x3_1.length + y110.length < 140737488355328 then (paronymref25_Escaped.l0 kj4 a0 (x3_1 ++ y110) (wrap64 (x4_1 + 1))) else (none)))) else ((some (([92, (48 + ((Int.tdiv (bt a0 x4_1) 100) % 256)) % 256, 48 + (((Int.tdiv (bt a0 x4_1) 10) % 256) % 10), (48 + (Int.tmod (bt a0 x4_1) 10)) % 256] : List Int) : List Int)).bind fun y116 => (if x3_1.length + y116.length < 140737488355328 then (paronymref25_Escaped.l0 kj4 a0 (x3_1 ++ y116) (wrap64 (x4_1 + 1))) else (none)))) = some r := by rw [if_neg (show ¬ (false = true) by decide)] at H; exact H
                clear H
                have H := H1
                clear H1
                by_cases c17 : (bt a0 x4_1) > 32
                · rw [if_pos c17] at H
                  have c17b0 : decide (32 < (bt a0 x4_1)) = true := decide_eq_true c17
                  clear c17
                  by_cases c18 : (bt a0 x4_1) < 127
                  · rw [if_pos c18] at H
                    have c18b0 : decide ((bt a0 x4_1) < 127) = true := decide_eq_true c18
                    clear c18
                    by_cases c19 : x3_1.length < 140737488355328
                    · rw [if_pos c19] at H
                      have LMc19 := Aside0.mk c19
                      clear c19
                      obtain ⟨y107, hy107⟩ : ∃ y_ : List Int, y_ = (x3_1 ++ [(bt a0 x4_1)]) := ⟨_, rfl⟩
                      replace H : (paronymref25_Escaped.l0 kj4 a0 y107 (wrap64 (x4_1 + 1))) = some r := by first | (rw [hy107]; with_reducible exact H) | (have H2_ := (Option.bind_some _ _).symm.trans H; rw [hy107]; with_reducible exact H2_) | (have H2_ := (Option.bind_some _ _).symm.trans H; with_reducible exact H2_) | with_reducible exact H | (rw [hy107]; exact H) | exact H
                      have Ny107 := Aside0.mk hy107
                      clear hy107
                      have H' := Aside0.mk H
                      clear H
                      go_wp2_with (first | ((with_reducible refine gate_builtin (b := .append) (xs := #[.tmp 47, .tmp 49]) rfl ?_); at_builtin; refine Kd.R_append (Kd.int .u8) (w0 := w) w.heap.size rfl (.tmp 47) (.tmp 49) 22 5 (.int .u8 0) 1 rfl Tryd.underlying22 info5 rfl (by decide) (by omega) u3 x3_1 (bt a0 x4_1) [.int .u8 (bt a0 x4_1)] (fun _ => True) (fun _ => False) rfl rfl ?aP (fun _ hk => hk.elim) ?aF ?aO ?aB ?aS ?aL ?_; (case aP => exact rfl); (case aB => exact (by repeat (first | (with_reducible first | exact HB.out | apply below_alloc | apply pw_below_drewN | apply below_drew1) | exact HB.out))); (case aF => exact (fun _ _ => trivial)); (case aO => exact (by (with_reducible repeat (first | apply Kd.R_alloc | apply Kd.R_drewN | apply Kd.R_drew)); exact HO_3.out)); (case aS => exact (below_size (by repeat (first | (with_reducible first | exact HB.out | apply below_alloc | apply pw_below_drewN | apply below_drew1) | exact HB.out)))); (case aL => have := LMc19.out; omega); intro v108 w20 ho hb hg hat; rw [← Ny107.out] at ho; have n0_ := Aside0.mk (hb); have n1_ := Aside0.mk (ho); clear HB; clear HO_3; have HB := n0_; have HO109 := n1_; clear n0_ n1_; clear ho hb hg hat))
                      go_roundg kj4
                      case measure => have := HK1.out; have := HJ4.out; omega
                      case rel => exact ⟨(y107), (wrap64 (x4_1 + 1)), (by first | rfl | (simp; done) | (simp [*]; done)), H', ⟨by have := HK1.out; have := HJ4.out; omega⟩, ⟨by (with_reducible repeat (first | apply Kd.R_alloc | apply Kd.R_drewN | apply Kd.R_drew)); exact HO109.out⟩, ⟨by repeat (first | (with_reducible first | exact HB.out | apply below_alloc | apply pw_below_drewN | apply below_drew1) | exact HB.out)⟩⟩
                    · rw [if_neg c19] at H
                      exact absurd H (by simp)
                  · rw [if_neg c18] at H
                    have c18b0 : decide ((bt a0 x4_1) < 127) = false := decide_eq_false c18
                    clear c18
                    obtain ⟨y110, hy110⟩ : ∃ y_ : List Int, y_ = (([92, (48 + ((Int.tdiv (bt a0 x4_1) 100) % 256)) % 256, 48 + (((Int.tdiv (bt a0 x4_1) 10) % 256) % 10), (48 + (Int.tmod (bt a0 x4_1) 10)) % 256] : List Int)) := ⟨_, rfl⟩
                    replace H : (if x3_1.length + y110.length < 140737488355328 then (paronymref25_Escaped.l0 kj4 a0 (x3_1 ++ y110) (wrap64 (x4_1 + 1))) else (none)) = some r := by first | (rw [hy110]; with_reducible exact H) | (have H2_ := (Option.bind_some _ _).symm.trans H; rw [hy110]; with_reducible exact H2_) | (have H2_ := (Option.bind_some _ _).symm.trans H; with_reducible exact H2_) | with_reducible exact H | (rw [hy110]; exact H) | exact H
                    have Ny110 := Aside0.mk hy110
                    clear hy110
                    by_cases c21 : x3_1.length + y110.length < 140737488355328
                    · rw [if_pos c21] at H
                      have LMc21 := Aside0.mk c21
                      clear c21
                      obtain ⟨y113, hy113⟩ : ∃ y_ : List Int, y_ = (x3_1 ++ y110) := ⟨_, rfl⟩
                      replace H : (paronymref25_Escaped.l0 kj4 a0 y113 (wrap64 (x4_1 + 1))) = some r := by first | (rw [hy113]; with_reducible exact H) | (have H2_ := (Option.bind_some _ _).symm.trans H; rw [hy113]; with_reducible exact H2_) | (have H2_ := (Option.bind_some _ _).symm.trans H; with_reducible exact H2_) | with_reducible exact H | (rw [hy113]; exact H) | exact H
                      have Ny113 := Aside0.mk hy113
                      clear hy113
                      have H' := Aside0.mk H
                      clear H
                      go_wp2_with (first | ((with_reducible refine gate_dst (N := 62) rfl ?_); refine Kd.R_lit (Kd.int .u8) _ 5 ?hg (N := 62) ?hd (xs := ([92, (48 + ((Int.tdiv (bt a0 x4_1) 100) % 256)) % 256, 48 + (((Int.tdiv (bt a0 x4_1) 10) % 256) % 10), (48 + (Int.tmod (bt a0 x4_1) 10)) % 256] : List Int)) (inner := [.int .u8 92, .int .u8 ((48 + ((Int.tdiv (bt a0 x4_1) 100) % 256)) % 256), .int .u8 (48 + (((Int.tdiv (bt a0 x4_1) 10) % 256) % 10)), .int .u8 ((48 + (Int.tmod (bt a0 x4_1) 10)) % 256)]) (ok := fun _ => True) (okp := fun _ => True) ?hr ?hp (fun _ hk => hk) trivial (Below.refl _ _) (Nat.le_refl _) (by simp) ?_; (case hd => rfl); (case hg => rfl); (case hr => first | (go_simp; done) | (go_simp; rfl)); (case hp => exact (Reps.one (show Kd.M (Kd.int .u8) _ _ _ 92 [.int .u8 92] from rfl) (Reps.one (show Kd.M (Kd.int .u8) _ _ _ ((48 + ((Int.tdiv (bt a0 x4_1) 100) % 256)) % 256) [.int .u8 ((48 + ((Int.tdiv (bt a0 x4_1) 100) % 256)) % 256)] from rfl) (Reps.one (show Kd.M (Kd.int .u8) _ _ _ (48 + (((Int.tdiv (bt a0 x4_1) 10) % 256) % 10)) [.int .u8 (48 + (((Int.tdiv (bt a0 x4_1) 10) % 256) % 10))] from rfl) (Reps.one (show Kd.M (Kd.int .u8) _ _ _ ((48 + (Int.tmod (bt a0 x4_1) 10)) % 256) [.int .u8 ((48 + (Int.tmod (bt a0 x4_1) 10)) % 256)] from rfl) (Reps.none _ _)))))); intro v111 w22 ho23 hb hg_ hnew_; clear hg_ hnew_; (first | rw [← Ny110.out] at ho23 | (simp only [Int.reduceToNat] at ho23; rw [← Ny110.out] at ho23)); have n0_ := Aside0.mk (Kd.R_elder' (by (with_reducible repeat (first | apply Kd.R_alloc | apply Kd.R_drewN | apply Kd.R_drew)); exact HO_3.out) (Kd.R_base ho23) hb); have n1_ := Aside0.mk (Kd.R_lower (Kd.R_new' ho23 (Kd.R_lt (by (with_reducible repeat (first | apply Kd.R_alloc | apply Kd.R_drewN | apply Kd.R_drew)); exact HO_3.out))) (below_size (by repeat (first | (with_reducible first | exact HB.out | apply below_alloc | apply pw_below_drewN | apply below_drew1) | exact HB.out)))); have n2_ := Aside0.mk (below_step (by repeat (first | (with_reducible first | exact HB.out | apply below_alloc | apply pw_below_drewN | apply below_drew1) | exact HB.out)) hb); clear HO_3; clear HB; have HO_3 := n0_; have HO112 := n1_; have HB := n2_; clear n0_ n1_ n2_; clear hb ho23; obtain ⟨Ao25, co25, eo25⟩ := Kd.R_slice HO112.out; subst eo25) | ((with_reducible refine gate_builtin (b := .append) (xs := #[.tmp 51, .tmp 62]) rfl ?_); at_builtin; refine Kd.R_append_rows (Kd.int .u8) (w0 := w) w.heap.size rfl (.tmp 51) (.tmp 62) 22 5 (.int .u8 0) 1 rfl Tryd.underlying22 info5 rfl (by decide) (by omega) u3 x3_1 y110 _ _ _ (fun k_ => some k_ ≠ (.slice Ao25 y110.length co25 : Value).ownBlock) (fun _ => False) rfl rfl ?aO ?aR (fun _ _ h => h) (fun _ h => h.elim) ?aF ?aB ?aS ?aL ?_; (case aR => repeat (first | exact (Kd.R_reads' HO112.out).2.2 | (with_reducible refine Kd.C_alloc ?_ _) | (with_reducible refine Kd.C_drewN ?_ _) | (with_reducible refine Kd.C_drew ?_))); (case aB => exact (by repeat (first | (with_reducible first | exact HB.out | apply below_alloc | apply pw_below_drewN | apply below_drew1) | exact HB.out))); (case aF => exact (fun k_ hk => Kd.fresh' (Kd.R_lt (by (with_reducible repeat (first | apply Kd.R_alloc | apply Kd.R_drewN | apply Kd.R_drew)); exact HO112.out)) k_ hk)); (case aO => exact (by (with_reducible repeat (first | apply Kd.R_alloc | apply Kd.R_drewN | apply Kd.R_drew)); exact Kd.R_mono HO_3.out (fun _ hk => hk.2))); (case aS => exact (below_size (by repeat (first | (with_reducible first | exact HB.out | apply below_alloc | apply pw_below_drewN | apply below_drew1) | exact HB.out)))); (case aL => have := LMc21.out; omega); intro v114 w24 ho hb hg hat; rw [← Ny113.out] at ho; have n0_ := Aside0.mk (Kd.R_after (ok := (fun _ => True)) (by (with_reducible repeat (first | apply Kd.R_alloc | apply Kd.R_drewN | apply Kd.R_drew)); exact HO112.out) hg hat); have n1_ := Aside0.mk (hb); have n2_ := Aside0.mk (ho); clear HO112; clear HB; clear HO_3; have HO112 := n0_; have HB := n1_; have HO115 := n2_; clear n0_ n1_ n2_; clear ho hb hg hat))
                      go_roundg kj4
                      case measure => have := HK1.out; have := HJ4.out; omega
                      case rel => exact ⟨(y113), (wrap64 (x4_1 + 1)), (by first | rfl | (simp; done) | (simp [*]; done)), H', ⟨by have := HK1.out; have := HJ4.out; omega⟩, ⟨by (with_reducible repeat (first | apply Kd.R_alloc | apply Kd.R_drewN | apply Kd.R_drew)); exact Kd.R_mono HO115.out (fun _ hk => trivial)⟩, ⟨by repeat (first | (with_reducible first | exact HB.out | apply below_alloc | apply pw_below_drewN | apply below_drew1) | exact HB.out)⟩⟩
                    · rw [if_neg c21] at H
                      exact absurd H (by simp)
                · rw [if_neg c17] at H
                  have c17b0 : decide (32 < (bt a0 x4_1)) = false := decide_eq_false c17
                  clear c17
                  obtain ⟨y116, hy116⟩ : ∃ y_ : List Int, y_ = (([92, (48 + ((Int.tdiv (bt a0 x4_1) 100) % 256)) % 256, 48 + (((Int.tdiv (bt a0 x4_1) 10) % 256) % 10), (48 + (Int.tmod (bt a0 x4_1) 10)) % 256] : List Int)) := ⟨_, rfl⟩
                  replace H : (if x3_1.length + y116.length < 140737488355328 then (paronymref25_Escaped.l0 kj4 a0 (x3_1 ++ y116) (wrap64 (x4_1 + 1))) else (none)) = some r := by first | (rw [hy116]; with_reducible exact H) | (have H2_ := (Option.bind_some _ _).symm.trans H; rw [hy116]; with_reducible exact H2_) | (have H2_ := (Option.bind_some _ _).symm.trans H; with_reducible exact H2_) | with_reducible exact H | (rw [hy116]; exact H) | exact H
                  have Ny116 := Aside0.mk hy116
                  clear hy116
                  by_cases c26 : x3_1.length + y116.length < 140737488355328
                  · rw [if_pos c26] at H
                    have LMc26 := Aside0.mk c26
                    clear c26
                    obtain ⟨y119, hy119⟩ : ∃ y_ : List Int, y_ = (x3_1 ++ y116) := ⟨_, rfl⟩
                    replace H : (paronymref25_Escaped.l0 kj4 a0 y119 (wrap64 (x4_1 + 1))) = some r := by first | (rw [hy119]; with_reducible exact H) | (have H2_ := (Option.bind_some _ _).symm.trans H; rw [hy119]; with_reducible exact H2_) | (have H2_ := (Option.bind_some _ _).symm.trans H; with_reducible exact H2_) | with_reducible exact H | (rw [hy119]; exact H) | exact H
                    have Ny119 := Aside0.mk hy119
                    clear hy119
                    have H' := Aside0.mk H
                    clear H
                    go_wp2_with (first | ((with_reducible refine gate_dst (N := 62) rfl ?_); refine Kd.R_lit (Kd.int .u8) _ 5 ?hg (N := 62) ?hd (xs := ([92, (48 + ((Int.tdiv (bt a0 x4_1) 100) % 256)) % 256, 48 + (((Int.tdiv (bt a0 x4_1) 10) % 256) % 10), (48 + (Int.tmod (bt a0 x4_1) 10)) % 256] : List Int)) (inner := [.int .u8 92, .int .u8 ((48 + ((Int.tdiv (bt a0 x4_1) 100) % 256)) % 256), .int .u8 (48 + (((Int.tdiv (bt a0 x4_1) 10) % 256) % 10)), .int .u8 ((48 + (Int.tmod (bt a0 x4_1) 10)) % 256)]) (ok := fun _ => True) (okp := fun _ => True) ?hr ?hp (fun _ hk => hk) trivial (Below.refl _ _) (Nat.le_refl _) (by simp) ?_; (case hd => rfl); (case hg => rfl); (case hr => first | (go_simp; done) | (go_simp; rfl)); (case hp => exact (Reps.one (show Kd.M (Kd.int .u8) _ _ _ 92 [.int .u8 92] from rfl) (Reps.one (show Kd.M (Kd.int .u8) _ _ _ ((48 + ((Int.tdiv (bt a0 x4_1) 100) % 256)) % 256) [.int .u8 ((48 + ((Int.tdiv (bt a0 x4_1) 100) % 256)) % 256)] from rfl) (Reps.one (show Kd.M (Kd.int .u8) _ _ _ (48 + (((Int.tdiv (bt a0 x4_1) 10) % 256) % 10)) [.int .u8 (48 + (((Int.tdiv (bt a0 x4_1) 10) % 256) % 10))] from rfl) (Reps.one (show Kd.M (Kd.int .u8) _ _ _ ((48 + (Int.tmod (bt a0 x4_1) 10)) % 256) [.int .u8 ((48 + (Int.tmod (bt a0 x4_1) 10)) % 256)] from rfl) (Reps.none _ _)))))); intro v117 w27 ho28 hb hg_ hnew_; clear hg_ hnew_; (first | rw [← Ny116.out] at ho28 | (simp only [Int.reduceToNat] at ho28; rw [← Ny116.out] at ho28)); have n0_ := Aside0.mk (Kd.R_elder' (by (with_reducible repeat (first | apply Kd.R_alloc | apply Kd.R_drewN | apply Kd.R_drew)); exact HO_3.out) (Kd.R_base ho28) hb); have n1_ := Aside0.mk (Kd.R_lower (Kd.R_new' ho28 (Kd.R_lt (by (with_reducible repeat (first | apply Kd.R_alloc | apply Kd.R_drewN | apply Kd.R_drew)); exact HO_3.out))) (below_size (by repeat (first | (with_reducible first | exact HB.out | apply below_alloc | apply pw_below_drewN | apply below_drew1) | exact HB.out)))); have n2_ := Aside0.mk (below_step (by repeat (first | (with_reducible first | exact HB.out | apply below_alloc | apply pw_below_drewN | apply below_drew1) | exact HB.out)) hb); clear HO_3; clear HB; have HO_3 := n0_; have HO118 := n1_; have HB := n2_; clear n0_ n1_ n2_; clear hb ho28; obtain ⟨Ao30, co30, eo30⟩ := Kd.R_slice HO118.out; subst eo30) | ((with_reducible refine gate_builtin (b := .append) (xs := #[.tmp 51, .tmp 62]) rfl ?_); at_builtin; refine Kd.R_append_rows (Kd.int .u8) (w0 := w) w.heap.size rfl (.tmp 51) (.tmp 62) 22 5 (.int .u8 0) 1 rfl Tryd.underlying22 info5 rfl (by decide) (by omega) u3 x3_1 y116 _ _ _ (fun k_ => some k_ ≠ (.slice Ao30 y116.length co30 : Value).ownBlock) (fun _ => False) rfl rfl ?aO ?aR (fun _ _ h => h) (fun _ h => h.elim) ?aF ?aB ?aS ?aL ?_; (case aR => repeat (first | exact (Kd.R_reads' HO118.out).2.2 | (with_reducible refine Kd.C_alloc ?_ _) | (with_reducible refine Kd.C_drewN ?_ _) | (with_reducible refine Kd.C_drew ?_))); (case aB => exact (by repeat (first | (with_reducible first | exact HB.out | apply below_alloc | apply pw_below_drewN | apply below_drew1) | exact HB.out))); (case aF => exact (fun k_ hk => Kd.fresh' (Kd.R_lt (by (with_reducible repeat (first | apply Kd.R_alloc | apply Kd.R_drewN | apply Kd.R_drew)); exact HO118.out)) k_ hk)); (case aO => exact (by (with_reducible repeat (first | apply Kd.R_alloc | apply Kd.R_drewN | apply Kd.R_drew)); exact Kd.R_mono HO_3.out (fun _ hk => hk.2))); (case aS => exact (below_size (by repeat (first | (with_reducible first | exact HB.out | apply below_alloc | apply pw_below_drewN | apply below_drew1) | exact HB.out)))); (case aL => have := LMc26.out; omega); intro v120 w29 ho hb hg hat; rw [← Ny119.out] at ho; have n0_ := Aside0.mk (Kd.R_after (ok := (fun _ => True)) (by (with_reducible repeat (first | apply Kd.R_alloc | apply Kd.R_drewN | apply Kd.R_drew)); exact HO118.out) hg hat); have n1_ := Aside0.mk (hb); have n2_ := Aside0.mk (ho); clear HO118; clear HB; clear HO_3; have HO118 := n0_; have HB := n1_; have HO121 := n2_; clear n0_ n1_ n2_; clear ho hb hg hat))
                    go_roundg kj4
                    case measure => have := HK1.out; have := HJ4.out; omega
                    case rel => exact ⟨(y119), (wrap64 (x4_1 + 1)), (by first | rfl | (simp; done) | (simp [*]; done)), H', ⟨by have := HK1.out; have := HJ4.out; omega⟩, ⟨by (with_reducible repeat (first | apply Kd.R_alloc | apply Kd.R_drewN | apply Kd.R_drew)); exact Kd.R_mono HO121.out (fun _ hk => trivial)⟩, ⟨by repeat (first | (with_reducible first | exact HB.out | apply below_alloc | apply pw_below_drewN | apply below_drew1) | exact HB.out)⟩⟩
                  · rw [if_neg c26] at H
                    exact absurd H (by simp)
        · rw [if_neg c3] at H
          exact absurd H (by simp)
      · rw [if_neg c2] at H
        have c2b0 : decide (x4_1 < (a0.size : Int)) = false := decide_eq_false c2
        clear c2
        obtain rfl := Option.some.inj H
        have hcv31 := own_string (P := Tryd.prog) Tryd.underlying22 Tryd.underlying5 Tryd.underlying9 (Kd.own_of_R HO_3.out)
        have hcv32 := fun (nd_ : Nat) => own_string (P := Tryd.prog) Tryd.underlying22 Tryd.underlying5 Tryd.underlying9 (Kd.own_of_R (Kd.R_drewN HO_3.out nd_))
        go_wp2
        go_ret
        exact ⟨by first | rfl | (simp [errW_none, errW_some] <;> rfl) | (simp [*, errW_none, errW_some] <;> rfl), by repeat (first | (with_reducible first | exact HB.out | apply below_alloc | apply pw_below_drewN | apply below_drew1) | exact HB.out)⟩

end Go.Proofs.YtdnfmilnkoocdaaDoor.Q

-- from Pesc
/- Texts made of units: an octet as it is, a backslash and an octet, a backslash and three digits. -/
namespace Go.Proofs.YtdnfmilnkoocdaaDoor.K
set_option linter.unusedVariables false
set_option linter.unusedSimpArgs false
open Go.RowKit Go.Proofs.YtdnfmilnkoocdaaDoor.Q Go.Proofs.YtdnfmilnkoocdaaDoorW.PrintWords Go.Proofs.YtdnfmilnkoocdaaDoorW.PrintLast

theorem bof_is {L : List Int} (ho : Oct L) (hL : L.length ≤ 1000000) : Q.bytesOf.f (strOfNums L) = some L := by
  unfold Q.bytesOf.f
  rw [if_pos (by rw [size_str]; omega)]
  congr 1
  exact bytesOf_str ho
inductive Uni : List Int × Int → Prop
  | esc (c : Int) : dig c = false → 0 ≤ c → c ≤ 255 → Uni ([92, c], c)
  | one (c : Int) : c ≠ 92 → c ≠ 34 → c ≠ 40 → c ≠ 41 → sep c = false → 0 ≤ c → c ≤ 255 → Uni ([c], c)
  | num (c d1 d2 d3 : Int) : dig d1 = true → dig d2 = true → dig d3 = true → (d1 - 48) * 100 + (d2 - 48) * 10 + (d3 - 48) = c → 0 ≤ c → c ≤ 255 → Uni ([92, d1, d2, d3], c)
def flat (us : List (List Int × Int)) : List Int := us.flatMap (·.1)
theorem flat_cons (u : List Int × Int) (us : List (List Int × Int)) : flat (u :: us) = u.1 ++ flat us := by unfold flat; rw [List.flatMap_cons]
theorem special_nodig {c : Int} (h : special c = true) : dig c = false := by
  have := of_decide_eq_true h
  exact decide_eq_false (by omega)
theorem esc1_uni {c : Int} (h : 0 ≤ c ∧ c ≤ 255) : Uni (esc1 c, c) := by
  unfold esc1
  by_cases sp : special c = true
  · rw [if_pos sp]; exact .esc c (special_nodig sp) h.1 h.2
  have sp' : special c = false := by simpa using sp
  rw [if_neg sp]
  by_cases g : 32 < c ∧ c ≤ 126
  · rw [if_pos g]
    have := of_decide_eq_false sp'
    exact .one c (by omega) (by omega) (by omega) (by omega) (decide_eq_false (by omega)) h.1 h.2
  · rw [if_neg g]
    exact .num c _ _ _ (decide_eq_true (by omega)) (decide_eq_true (by omega)) (decide_eq_true (by omega)) (by omega) h.1 h.2
theorem dot_uni : Uni ([46], 46) := .one 46 (by decide) (by decide) (by decide) (by decide) (by decide) (by decide) (by decide)
def units (b : List Int) : List (List Int × Int) := b.map fun c => (esc1 c, c)
theorem flat_units (b : List Int) : flat (units b) = b.flatMap esc1 := by unfold flat units; rw [List.flatMap_map]
theorem units_snd (b : List Int) : (units b).map (·.2) = b := by unfold units; rw [List.map_map]; simp [Function.comp_def]
theorem units_uni {b : List Int} (ho : Oct b) : ∀ u ∈ units b, Uni u := fun u hu => by
  obtain ⟨c, hc, rfl⟩ := List.mem_map.1 hu
  exact esc1_uni (ho c hc)
theorem Uni.oct {u : List Int × Int} (h : Uni u) : Oct u.1 := by
  cases h with
  | esc c h1 h2 h3 => intro x hx; simp at hx; omega
  | one c => intro x hx; simp at hx; omega
  | num c d1 d2 d3 h1 h2 h3 =>
    have a1 := of_decide_eq_true h1
    have a2 := of_decide_eq_true h2
    have a3 := of_decide_eq_true h3
    intro x hx; simp at hx; omega
theorem flat_oct {us : List (List Int × Int)} (h : ∀ u ∈ us, Uni u) : Oct (flat us) := fun x hx => by
  obtain ⟨u, hu, hx⟩ := List.mem_flatMap.1 hx
  exact (h u hu).oct x hx
theorem escL_nodig {a c : Int} (r : List Int) (h : dig c = false) : escL (a :: c :: r) = 2 := by
  have h' : ¬ dig c = true := by simp [h]
  match r with
  | [] => rw [escL_2, if_neg h']
  | [x] => rw [escL_3, if_neg h']
  | x :: y :: r => rw [escL_4, if_neg h']
def addn : Nat → Sum Int Nat → Sum Int Nat
  | 0, x => x
  | n + 1, x => bump (addn n x)
theorem addn_add (m n : Nat) (x : Sum Int Nat) : addn m (addn n x) = addn (m + n) x := by
  induction m with
  | zero => rw [Nat.zero_add]; rfl
  | succ m ih => rw [addn, ih, show m + 1 + n = (m + n) + 1 by omega, addn]
theorem addn_inr (n m : Nat) : addn n (.inr m) = .inr (m + n) := by
  induction n with
  | zero => rfl
  | succ n ih => rw [addn, ih]; rfl
theorem scan_us : ∀ (us : List (List Int × Int)) (r : List Int), (∀ u ∈ us, Uni u) → scan false 0 (flat us ++ r) = addn (flat us).length (scan false 0 r)
  | [], r, _ => rfl
  | u :: us, r, h => by
    have ih := scan_us us r (fun x hx => h x (List.mem_cons_of_mem _ hx))
    rw [flat_cons, List.append_assoc, List.length_append]
    generalize flat us ++ r = R at *
    cases h u List.mem_cons_self with
    | esc c h1 h2 h3 =>
      show scan false 0 (92 :: c :: R) = addn (2 + _) _
      rw [scan_0, if_pos rfl, escL_nodig R h1, if_neg (by decide)]
      show bump (scan false 1 (c :: R)) = _
      rw [scan, ih, ← addn_add]
      rfl
    | one c g1 g2 g3 g4 g5 =>
      show scan false 0 (c :: R) = addn (1 + _) _
      rw [scan_0, if_neg g1, if_neg (by simp), if_neg g2, if_neg (by omega), if_neg (by simp [g5]), ih, ← addn_add]
      rfl
    | num c d1 d2 d3 h1 h2 h3 hv hc0 hc1 =>
      show scan false 0 (92 :: d1 :: d2 :: d3 :: R) = addn (4 + _) _
      have he : escL (92 :: d1 :: d2 :: d3 :: R) = 4 := by rw [escL_4, if_pos h1, if_pos ⟨h2, h3, by omega⟩]
      rw [scan_0, if_pos rfl, he, if_neg (by decide)]
      show bump (scan false 3 (d1 :: d2 :: d3 :: R)) = _
      rw [scan, scan, scan, ih, ← addn_add]
      rfl
/-- A unit's first octet is no blank, no semicolon, no quote. -/
theorem Uni.head {u : List Int × Int} (h : Uni u) : ∃ x t, u.1 = x :: t ∧ blank x = false ∧ x ≠ 59 ∧ x ≠ 34 := by
  cases h with
  | esc c => exact ⟨92, _, rfl, by decide, by decide, by decide⟩
  | one c g1 g2 g3 g4 g5 =>
    have := of_decide_eq_false g5
    exact ⟨c, _, rfl, decide_eq_false (by omega), by omega, g2⟩
  | num c => exact ⟨92, _, rfl, by decide, by decide, by decide⟩
theorem wordL_us {us : List (List Int × Int)} {r : List Int} {m : Nat} (h : ∀ u ∈ us, Uni u) (hne : us ≠ []) (hr : scan false 0 r = .inr m) : ∃ x t, flat us = x :: t ∧ blank x = false ∧ x ≠ 59 ∧ x ≠ 34 ∧ wordL (flat us ++ r) = .inr (m + (flat us).length) := by
  cases us with
  | nil => exact absurd rfl hne
  | cons u us =>
    obtain ⟨x, t, e, h1, h2, h3⟩ := (h u List.mem_cons_self).head
    have hs := scan_us (u :: us) r h
    rw [hr, addn_inr] at hs
    refine ⟨x, t ++ flat us, by rw [flat_cons, e]; rfl, h1, h2, h3, ?_⟩
    rw [← hs, flat_cons, e]
    show wordL (x :: (t ++ _ ++ r)) = _
    rw [wordL_cons, if_neg h3]
    rfl
theorem Spl_us {us : List (List Int × Int)} (h : ∀ u ∈ us, Uni u) (hne : us ≠ []) : Spl (flat us) (.inr [flat us]) := by
  obtain ⟨x, u, e, h1, h2, h3, hw⟩ := wordL_us (r := []) (m := 0) h hne rfl
  rw [List.append_nil, Nat.zero_add] at hw
  have hd : (flat us).dropWhile blank = x :: u := by rw [e, List.dropWhile_cons, if_neg (by simp [h1])]
  rw [e] at hw
  have := Spl.more hd h2 hw (r := .inr []) (Spl.nil (by rw [List.drop_length]; rfl))
  rw [List.take_length] at this
  rw [← e] at this
  exact this
theorem Spl_us_rem {us : List (List Int × Int)} (rest : List Int) (h : ∀ u ∈ us, Uni u) (hne : us ≠ []) : Spl (flat us ++ 32 :: 59 :: rest) (.inr [flat us]) := by
  obtain ⟨x, u, e, h1, h2, h3, hw⟩ := wordL_us (r := 32 :: 59 :: rest) (m := 0) h hne (by rfl)
  rw [Nat.zero_add] at hw
  have hx : flat us ++ 32 :: 59 :: rest = x :: (u ++ 32 :: 59 :: rest) := by rw [e]; rfl
  have hd : (flat us ++ 32 :: 59 :: rest).dropWhile blank = x :: (u ++ 32 :: 59 :: rest) := by rw [hx, List.dropWhile_cons, if_neg (by simp [h1])]
  have tail : Spl (32 :: 59 :: rest) (.inr []) := Spl.rem (u := rest) (by rfl)
  rw [hx] at hw
  have := Spl.more hd h2 hw (r := .inr []) (by rw [← hx, List.drop_left]; exact tail)
  rw [← hx, List.take_left] at this
  exact this

/-! what an escape stands for -/
theorem esc_val2 {c : Int} {r : List Int} (ho : Oct (92 :: c :: r)) (hd : dig c = false) : Ev (fun k => token_escape.f k (strOfNums (92 :: c :: r))) (c, 2) := by
  unfold token_escape.f
  have hs : ((strOfNums (92 :: c :: r)).size : Int) = (r.length : Int) + 2 := by rw [size_str]; simp; omega
  have hb : bt (strOfNums (92 :: c :: r)) 1 = c := by rw [bt_str ho (by omega) (by simp; omega)]; rfl
  rw [hs, hb, digit_is]
  exact Ev.neg (by omega) (Ev.pos (by omega) (Ev.bind (Ev.now _) (Ev.neg (by simp [hd]) (Ev.now _))))
theorem esc_val4 {c d1 d2 d3 : Int} {r : List Int} (ho : Oct (92 :: d1 :: d2 :: d3 :: r)) (h1 : dig d1 = true) (h2 : dig d2 = true) (h3 : dig d3 = true) (hv : (d1 - 48) * 100 + (d2 - 48) * 10 + (d3 - 48) = c) (hc : 0 ≤ c ∧ c ≤ 255) :
    Ev (fun k => token_escape.f k (strOfNums (92 :: d1 :: d2 :: d3 :: r))) (c, 4) := by
  unfold token_escape.f
  have hs : ((strOfNums (92 :: d1 :: d2 :: d3 :: r)).size : Int) = (r.length : Int) + 4 := by rw [size_str]; simp; omega
  have e1 : bt (strOfNums (92 :: d1 :: d2 :: d3 :: r)) 1 = d1 := by rw [bt_str ho (by omega) (by simp; omega)]; rfl
  have e2 : bt (strOfNums (92 :: d1 :: d2 :: d3 :: r)) 2 = d2 := by rw [bt_str ho (by omega) (by simp; omega)]; rfl
  have e3 : bt (strOfNums (92 :: d1 :: d2 :: d3 :: r)) 3 = d3 := by rw [bt_str ho (by omega) (by simp; omega)]; rfl
  have b1 := of_decide_eq_true h1
  have b2 := of_decide_eq_true h2
  have b3 := of_decide_eq_true h3
  have m1 : (d1 - 48) % 256 = d1 - 48 := by omega
  have m2 : (d2 - 48) % 256 = d2 - 48 := by omega
  have m3 : (d3 - 48) % 256 = d3 - 48 := by omega
  have j0 : ∀ q : Bool, q = false → Ev (fun k => token_escape.j0 k (strOfNums (92 :: d1 :: d2 :: d3 :: r)) q) (c, 4) := by
    intro q hq
    refine Ev.step (fun k => rfl) (Ev.neg (by simp [hq]) (Ev.pos (by omega) (Ev.pos (by omega) (Ev.pos (by omega) ?_))))
    rw [e1, e2, e3, m1, m2, m3, hv]
    exact Ev.neg (by omega) (Ev.ret (by rw [show c % 256 = c by omega]))
  rw [hs, e1, e2, e3, digit_is, digit_is, digit_is]
  refine Ev.neg (by omega) (Ev.pos (by omega) (Ev.bind (Ev.now _) (Ev.pos h1 (Ev.neg (by omega) (Ev.pos (by omega) (Ev.bind (Ev.now _) (Ev.pos h2 (Ev.pos (by omega) (Ev.bind (Ev.now _) ?_)))))))))
  rw [h3]
  exact j0 false rfl
theorem plain_us : ∀ (us : List (List Int × Int)), (∀ u ∈ us, Uni u) → ∀ acc : List Int, acc.length + us.length ≤ 100000 → Ev (fun k => token_Plain.l0 k (strOfNums (flat us)) acc) (acc ++ us.map (·.2), 0)
  | [], h, acc, hl => Ev.step (fun k => rfl) (Ev.neg (by rw [size_str]; simp [flat]) (Ev.ret (by simp)))
  | u :: us, h, acc, hl => by
    have hob : ∀ x ∈ us, Uni x := fun x hx => h x (List.mem_cons_of_mem _ hx)
    have ih := plain_us us hob (acc ++ [u.2]) (by rw [List.length_append]; simp only [List.length_cons, List.length_nil] at hl ⊢; omega)
    rw [List.append_assoc, show [u.2] ++ us.map (·.2) = (u :: us).map (·.2) from rfl] at ih
    rw [List.length_cons] at hl
    have hoe := flat_oct h
    rw [flat_cons] at hoe ⊢
    generalize hR : flat us = R at *
    refine Ev.succ ?_
    simp only [token_Plain.l0]
    cases h u List.mem_cons_self with
    | esc c sp c0 c1 =>
      simp only [List.cons_append, List.nil_append] at hoe ih ⊢
      have hs : ((strOfNums (92 :: c :: R)).size : Int) = (R.length : Int) + 2 := by rw [size_str]; simp; omega
      have hb : bt (strOfNums (92 :: c :: R)) 0 = 92 := by rw [bt_str hoe (by omega) (by simp; omega)]; rfl
      rw [hs]
      refine Ev.pos (by omega) (Ev.pos (by omega) (Ev.pos hb (Ev.bind (esc_val2 hoe sp) (Ev.pos (by omega) (Ev.pos (by show (0 : Int) ≤ 2; omega) (Ev.pos (by show (2 : Int) ≤ _; omega) ?_))))))
      show Ev (fun k => token_Plain.l0 k ((strOfNums (92 :: c :: R)).extract 2 (strOfNums (92 :: c :: R)).size) (acc ++ [c])) _
      rw [extract_str, size_str, List.take_length]
      exact ih
    | one c g1 g2 g3 g4 g5 c0 c1 =>
      simp only [List.cons_append, List.nil_append] at hoe ih ⊢
      have hs : ((strOfNums (c :: R)).size : Int) = (R.length : Int) + 1 := by rw [size_str]; simp
      have hb : bt (strOfNums (c :: R)) 0 = c := by rw [bt_str hoe (by omega) (by rw [List.length_cons]; omega)]; rfl
      rw [hs, hb]
      refine Ev.pos (by omega) (Ev.pos (by omega) (Ev.neg g1 (Ev.pos (by omega) (Ev.pos (by omega) ?_))))
      show Ev (fun k => token_Plain.l0 k ((strOfNums (c :: R)).extract 1 (strOfNums (c :: R)).size) (acc ++ [c])) _
      rw [extract_str, size_str, List.take_length]
      exact ih
    | num c d1 d2 d3 h1' h2' h3' hv c0 c1 =>
      simp only [List.cons_append, List.nil_append] at hoe ih ⊢
      have hs : ((strOfNums (92 :: d1 :: d2 :: d3 :: R)).size : Int) = (R.length : Int) + 4 := by rw [size_str]; simp; omega
      have hb : bt (strOfNums (92 :: d1 :: d2 :: d3 :: R)) 0 = 92 := by rw [bt_str hoe (by omega) (by simp; omega)]; rfl
      rw [hs]
      refine Ev.pos (by omega) (Ev.pos (by omega) (Ev.pos hb (Ev.bind (esc_val4 hoe h1' h2' h3' hv ⟨c0, c1⟩) (Ev.pos (by omega) (Ev.pos (by show (0 : Int) ≤ 4; omega) (Ev.pos (by show (4 : Int) ≤ _; omega) ?_))))))
      show Ev (fun k => token_Plain.l0 k ((strOfNums (92 :: d1 :: d2 :: d3 :: R)).extract 4 (strOfNums (92 :: d1 :: d2 :: d3 :: R)).size) (acc ++ [c])) _
      rw [extract_str, size_str, List.take_length]
      exact ih
theorem plain_ev {us : List (List Int × Int)} (h : ∀ u ∈ us, Uni u) (hb : (flat us).length ≤ 1000000) (hu : us.length ≤ 90000) (hne : us ≠ []) : Ev (fun k => token_Plain.f k (strOfNums (flat us))) (us.map (·.2), 0) := by
  have hoe := flat_oct h
  obtain ⟨x, u, e, h1, h2, h3, _⟩ := wordL_us (r := []) (m := 0) h hne rfl
  have hspl := Split_ev (Spl_us h hne) hoe (by omega)
  have hpos : 0 < (flat us).length := by rw [e]; simp
  have hbt : bt (strOfNums (flat us)) 0 = x := by rw [bt_str hoe (by omega) (by omega), e]; rfl
  unfold token_Plain.f
  rw [bof_is hoe (by omega), hbt]
  refine Ev.bind (Ev.now _) (Ev.bind hspl (Ev.pos rfl (Ev.pos rfl (Ev.pos (by show (0 : Int) < 1; omega) (Ev.pos rfl (Ev.pos (by rw [size_str]; omega) (Ev.neg h3 ?_)))))))
  exact Ev.step (fun k => rfl) (plain_us us h [] (by simp; omega))

/-! the document's escape -/
theorem tdiv_c {c : Int} (h : 0 ≤ c) (n : Int) : Int.tdiv c n = c / n := Int.tdiv_eq_ediv_of_nonneg h
/-- The three ways of an octet. -/
theorem esc1_ways {c : Int} (h : 0 ≤ c ∧ c ≤ 255) :
    (special c = true ∧ esc1 c = [92, c]) ∨ (special c = false ∧ 32 < c ∧ c ≤ 126 ∧ esc1 c = [c]) ∨
    (∃ d1 d2 d3 : Int, esc1 c = [92, d1, d2, d3] ∧ dig d1 = true ∧ dig d2 = true ∧ dig d3 = true ∧ (d1 - 48) * 100 + (d2 - 48) * 10 + (d3 - 48) = c) := by
  unfold esc1
  by_cases sp : special c = true
  · exact .inl ⟨sp, if_pos sp⟩
  have sp' : special c = false := by simpa using sp
  rw [if_neg sp]
  by_cases g : 32 < c ∧ c ≤ 126
  · exact .inr (.inl ⟨sp', g.1, g.2, if_pos g⟩)
  · rw [if_neg g]
    refine .inr (.inr ⟨_, _, _, rfl, ?_, ?_, ?_, ?_⟩)
    · exact decide_eq_true (by omega)
    · exact decide_eq_true (by omega)
    · exact decide_eq_true (by omega)
    · omega
theorem escaped_loop {b : List Int} (ho : Oct b) (hb : b.length ≤ 1000) : ∀ (d i : Nat), b.length - i = d → i ≤ b.length → Ev (fun k => paronymref25_Escaped.l0 k (strOfNums b) ((b.take i).flatMap esc1) (i : Int)) (strOfNums (b.flatMap esc1)) := by
  intro d
  induction d with
  | zero =>
    intro i h1 h2
    rw [List.take_of_length_le (by omega)]
    exact Ev.step (fun k => rfl) (Ev.neg (by rw [size_str]; omega) (Ev.now _))
  | succ d ih =>
    intro i h1 h2
    have hlt : i < b.length := by omega
    have hc := ho.rd (i := (i : Int)) (by omega) (by omega)
    have hbt : bt (strOfNums b) (i : Int) = rd b (i : Int) := bt_str ho (by omega) (by omega)
    have htk := take_snoc b i hlt
    have next := ih (i + 1) (by omega) (by omega)
    rw [htk, List.flatMap_append, List.flatMap_singleton] at next
    have hacc : ((b.take i).flatMap esc1).length ≤ 4000 := by
      have := esc_len (b.take i)
      rw [List.length_take] at this
      omega
    generalize hcc : rd b (i : Int) = c at *
    have hw : wrap64 ((i : Int) + 1) = ((i + 1 : Nat) : Int) := by rw [w64 (by omega) (by omega)]; omega
    generalize (b.take i).flatMap esc1 = acc at *
    have j1 : ∀ q : Bool, special c = q → Ev (fun k => paronymref25_Escaped.j1 k (strOfNums b) acc (i : Int) c q) (strOfNums (b.flatMap esc1)) := by
      intro q hq
      rcases esc1_ways hc with ⟨sp, e⟩ | ⟨sp, g1, g2, e⟩ | ⟨d1, d2, d3, e, h1', h2', h3', hv⟩
      · rw [e] at next
        refine Ev.step (fun k => rfl) (Ev.pos (by rw [← hq, sp]) (Ev.bind (Ev.now _) (Ev.pos (by simp; omega) ?_)))
        rw [hw]; exact next
      · rw [e] at next
        refine Ev.step (fun k => rfl) (Ev.neg (by rw [← hq, sp]; simp) (Ev.pos (by omega) (Ev.pos (by omega) (Ev.pos (by omega) ?_))))
        rw [hw]; exact next
      · have hsf : ¬ q = true := by
          intro h
          rw [h] at hq
          unfold esc1 at e
          rw [if_pos hq] at e
          simp at e
        have hng : ¬ (32 < c ∧ c ≤ 126) := by
          intro h
          unfold esc1 at e
          rw [if_neg (by rw [hq]; exact hsf), if_pos h] at e
          simp at e
        have e2 : esc1 c = [92, 48 + c / 100, 48 + c / 10 % 10, 48 + c % 10] := by
          unfold esc1
          rw [if_neg (by rw [hq]; exact hsf), if_neg hng]
        rw [e2] at next
        have hm : Int.tmod c 10 = c % 10 := Int.tmod_eq_emod_of_nonneg (by omega)
        have v1 : (48 + ((Int.tdiv c 100) % 256)) % 256 = 48 + c / 100 := by rw [tdiv_c (by omega)]; omega
        have v2 : 48 + (((Int.tdiv c 10) % 256) % 10) = 48 + c / 10 % 10 := by rw [tdiv_c (by omega)]; omega
        have v3 : (48 + (Int.tmod c 10)) % 256 = 48 + c % 10 := by rw [hm]; omega
        refine Ev.step (fun k => rfl) (Ev.neg hsf ?_)
        rw [v1, v2, v3]
        by_cases g1 : c > 32
        · refine Ev.pos g1 (Ev.neg (by omega) (Ev.bind (Ev.now _) (Ev.pos (by simp; omega) ?_)))
          rw [hw]; exact next
        · refine Ev.neg g1 (Ev.bind (Ev.now _) (Ev.pos (by simp; omega) ?_))
          rw [hw]; exact next
    refine Ev.step (fun k => rfl) (Ev.pos (by rw [size_str]; omega) (Ev.pos (by omega) ?_))
    rw [hbt]
    have spt : (c = 34 ∨ c = 59 ∨ c = 40 ∨ c = 41 ∨ c = 92 ∨ c = 46) → special c = true := fun h => decide_eq_true h
    by_cases q1 : c = 34
    · exact Ev.pos q1 (j1 true (spt (by omega)))
    refine Ev.neg q1 ?_
    by_cases q2 : c = 59
    · exact Ev.pos q2 (j1 true (spt (by omega)))
    refine Ev.neg q2 ?_
    by_cases q3 : c = 40
    · exact Ev.pos q3 (j1 true (spt (by omega)))
    refine Ev.neg q3 ?_
    by_cases q4 : c = 41
    · exact Ev.pos q4 (j1 true (spt (by omega)))
    refine Ev.neg q4 ?_
    by_cases q5 : c = 92
    · exact Ev.pos q5 (j1 true (spt (by omega)))
    refine Ev.neg q5 (j1 _ ?_)
    by_cases q6 : c = 46
    · rw [spt (by omega)]; simp [q6]
    · rw [show (c == 46) = false by simpa using q6]
      exact decide_eq_false (by omega)
theorem escaped_ev {b : List Int} (ho : Oct b) (hb : b.length ≤ 1000) : Ev (fun k => paronymref25_Escaped.f k (strOfNums b)) (strOfNums (b.flatMap esc1)) := escaped_loop ho hb b.length 0 (by omega) (Nat.zero_le _)

end Go.Proofs.YtdnfmilnkoocdaaDoor.K

-- from Qf53
-- Made by hp.py, a program of this session, with the kit's printer. Not trusted: Lean checks it.
namespace Go.Proofs.YtdnfmilnkoocdaaDoor.Q
open Go.RowKit Go.Proofs.YtdnfmilnkoocdaaDoorW.PrintWords Go.Proofs.YtdnfmilnkoocdaaDoorW.PrintLast Go.Proofs.YtdnfmilnkoocdaaDoorW.PrintMore
attribute [local go_sem] max2_int min2_int max_two min_two max_three min_three max_four min_four   -- for this text's walks alone
set_option linter.unusedVariables false
set_option linter.unusedSimpArgs false

/-! ### paronymref26_Right: function 53 -/
def paronymref26_Right.l0 : Nat → List ByteArray → Int → Int → Option (Bool)
  | 0, _, _, _ => none
  | k + 1, x0, x3, x4 => if x4 < (x0.length : Int) then (if 0 ≤ x4 then (if ((rdOf ByteArray.empty x0 x4).size : Int) < 1 then (some false) else (if ((rdOf ByteArray.empty x0 x4).size : Int) > 63 then (some false) else (paronymref26_Right.l0 k x0 (wrap64 ((wrap64 (x3 + 1)) + ((rdOf ByteArray.empty x0 x4).size : Int))) (wrap64 (x4 + 1))))) else (none)) else (some (decide (x3 ≤ 255)))
def paronymref26_Right.f (k : Nat) (l0 : List ByteArray) : Option (Bool) := paronymref26_Right.l0 k l0 1 0
theorem paronymref26_Right.mono_l : ∀ k, (∀ y0 y1 y2, LeO (paronymref26_Right.l0 k y0 y1 y2) (paronymref26_Right.l0 (k + 1) y0 y1 y2))
  | 0 => fun _ _ _ r h => by simp [paronymref26_Right.l0] at h
  | k + 1 => by
    have ih0 := paronymref26_Right.mono_l k
    · intro y0 y1 y2
      unfold paronymref26_Right.l0
      repeat' first
      | (with_reducible exact ih0 _ _ _)
      | (with_reducible exact LeO.refl _)
      | (with_reducible exact LeO.none _)
      | (with_reducible refine LeO.ite ?_ ?_)
      | (with_reducible refine LeO.bind ?_ (fun _ => ?_))
      | exact ih0 _ _ _
      | exact LeO.none _
      | refine LeO.ite ?_ ?_
      | refine LeO.bind ?_ (fun _ => ?_)
theorem paronymref26_Right.mono : ∀ a0 k, LeO (paronymref26_Right.f k a0) (paronymref26_Right.f (k + 1) a0) := by
  intro a0 k
  have ih0 := paronymref26_Right.mono_l k
  unfold paronymref26_Right.f
  repeat' first
      | (with_reducible exact ih0 _ _ _)
      | (with_reducible exact LeO.refl _)
      | (with_reducible exact LeO.none _)
      | (with_reducible refine LeO.ite ?_ ?_)
      | (with_reducible refine LeO.bind ?_ (fun _ => ?_))
      | exact ih0 _ _ _
      | exact LeO.none _
      | refine LeO.ite ?_ ?_
      | refine LeO.bind ?_ (fun _ => ?_)
set_option maxHeartbeats 8000000 in
set_option maxRecDepth 100000 in
theorem paronymref26_Right.calls (k : Nat) (A0 : Option Addr) (c0 : Nat) (l0 : List ByteArray) (r : Bool) (w : World) (hr0 : Kd.C Kd.string w A0 l0.length l0) (hc0 : l0.length ≤ c0) (h : paronymref26_Right.f k l0 = some r) :
    Calls Tryd.prog 53 #[.slice A0 l0.length c0] w fun e w' => e = .returned (.bool r) ∧ Drawn0 w w' := by
  have HR0 := Aside0.mk hr0
  have HC0 := Aside0.mk hc0
  clear hr0 hc0
  have H : (paronymref26_Right.l0 k l0 1 0) = some r := h
  clear h
  have H' := Aside0.mk H
  clear H
  go_enter Tryd.func53, Tryd.ntmps53
  go_wp2
  go_loopg [3, 4] k (fun kq v3 v4 w' => ∃ (x3_1 : Int) (x4_1 : Int), v3 = .int .i64 x3_1 ∧ v4 = .int .i64 x4_1 ∧ Aside0 (paronymref26_Right.l0 kq l0 x3_1 x4_1 = some r) ∧ Aside0 (kq ≤ k) ∧ Drawn0 w w')
  case atStart => exact ⟨(1), (0), (by first | rfl | (simp; done) | (simp [*]; done)), (by first | rfl | (simp; done) | (simp [*]; done)), H', ⟨Nat.le_refl _⟩, by repeat (first | exact Drawn0.refl _ | apply Drawn0.step)⟩
  case round =>
    clear H'
    obtain ⟨x3_1, x4_1, rfl, rfl, HA, HK1, ⟨m1, rfl⟩⟩ := hrel
    cases gk with
    | zero => exact absurd HA.out (by simp [paronymref26_Right.l0])
    | succ k1 =>
      have H := HA.out
      clear HA
      simp only [paronymref26_Right.l0] at H
      by_cases c2 : x4_1 < (l0.length : Int)
      · rw [if_pos c2] at H
        have c2b0 : decide (x4_1 < (l0.length : Int)) = true := decide_eq_true c2
        clear c2
        by_cases c3 : 0 ≤ x4_1
        · rw [if_pos c3] at H
          have c3b0 : decide (0 ≤ x4_1) = true := decide_eq_true c3
          clear c3
          by_cases c4 : ((rdOf ByteArray.empty l0 x4_1).size : Int) < 1
          · rw [if_pos c4] at H
            have c4b0 : decide (((rdOf ByteArray.empty l0 x4_1).size : Int) < 1) = true := decide_eq_true c4
            have c4b1 : decide ((rdOf ByteArray.empty l0 x4_1).size < 1) = true := decide_eq_true (by omega)
            clear c4
            obtain rfl := Option.some.inj H
            have p101 : 0 ≤ (x4_1 : Int) := of_decide_eq_true (by first | (with_reducible assumption) | assumption)
            have q101 : x4_1 < (l0.length : Int) := of_decide_eq_true (by first | (with_reducible assumption) | assumption)
            obtain ⟨ad101, e101, hx101_0⟩ := Kd.at_string HR0.out x4_1 p101 q101
            cases e101
            replace p101 := eq_true p101
            replace q101 := eq_true q101
            go_wp2
            go_ret
            exact ⟨by first | rfl | (simp; done) | (simp [*]; done), by repeat (first | exact Drawn0.refl _ | apply Drawn0.step)⟩
          · rw [if_neg c4] at H
            have c4b0 : decide (((rdOf ByteArray.empty l0 x4_1).size : Int) < 1) = false := decide_eq_false c4
            have c4b1 : decide ((rdOf ByteArray.empty l0 x4_1).size < 1) = false := decide_eq_false (by omega)
            clear c4
            by_cases c5 : ((rdOf ByteArray.empty l0 x4_1).size : Int) > 63
            · rw [if_pos c5] at H
              have c5b0 : decide (63 < ((rdOf ByteArray.empty l0 x4_1).size : Int)) = true := decide_eq_true c5
              have c5b1 : decide (63 < (rdOf ByteArray.empty l0 x4_1).size) = true := decide_eq_true (by omega)
              clear c5
              obtain rfl := Option.some.inj H
              have p101 : 0 ≤ (x4_1 : Int) := of_decide_eq_true (by first | (with_reducible assumption) | assumption)
              have q101 : x4_1 < (l0.length : Int) := of_decide_eq_true (by first | (with_reducible assumption) | assumption)
              obtain ⟨ad101, e101, hx101_0⟩ := Kd.at_string HR0.out x4_1 p101 q101
              cases e101
              replace p101 := eq_true p101
              replace q101 := eq_true q101
              have p102 : 0 ≤ (x4_1 : Int) := of_decide_eq_true (by first | (with_reducible assumption) | assumption)
              have q102 : x4_1 < (l0.length : Int) := of_decide_eq_true (by first | (with_reducible assumption) | assumption)
              obtain ⟨ad102, e102, hx102_0⟩ := Kd.at_string HR0.out x4_1 p102 q102
              obtain rfl : ad101 = ad102 := (by injection e102)
              replace p102 := eq_true p102
              replace q102 := eq_true q102
              go_wp2
              go_ret
              exact ⟨by first | rfl | (simp; done) | (simp [*]; done), by repeat (first | exact Drawn0.refl _ | apply Drawn0.step)⟩
            · rw [if_neg c5] at H
              have c5b0 : decide (63 < ((rdOf ByteArray.empty l0 x4_1).size : Int)) = false := decide_eq_false c5
              have c5b1 : decide (63 < (rdOf ByteArray.empty l0 x4_1).size) = false := decide_eq_false (by omega)
              clear c5
              have H' := Aside0.mk H
              clear H
              have p101 : 0 ≤ (x4_1 : Int) := of_decide_eq_true (by first | (with_reducible assumption) | assumption)
              have q101 : x4_1 < (l0.length : Int) := of_decide_eq_true (by first | (with_reducible assumption) | assumption)
              obtain ⟨ad101, e101, hx101_0⟩ := Kd.at_string HR0.out x4_1 p101 q101
              cases e101
              replace p101 := eq_true p101
              replace q101 := eq_true q101
              have p102 : 0 ≤ (x4_1 : Int) := of_decide_eq_true (by first | (with_reducible assumption) | assumption)
              have q102 : x4_1 < (l0.length : Int) := of_decide_eq_true (by first | (with_reducible assumption) | assumption)
              obtain ⟨ad102, e102, hx102_0⟩ := Kd.at_string HR0.out x4_1 p102 q102
              obtain rfl : ad101 = ad102 := (by injection e102)
              replace p102 := eq_true p102
              replace q102 := eq_true q102
              have p103 : 0 ≤ (x4_1 : Int) := of_decide_eq_true (by first | (with_reducible assumption) | assumption)
              have q103 : x4_1 < (l0.length : Int) := of_decide_eq_true (by first | (with_reducible assumption) | assumption)
              obtain ⟨ad103, e103, hx103_0⟩ := Kd.at_string HR0.out x4_1 p103 q103
              obtain rfl : ad101 = ad103 := (by injection e103)
              replace p103 := eq_true p103
              replace q103 := eq_true q103
              go_wp2
              go_roundg k1
              case measure => have := HK1.out; omega
              case rel => exact ⟨(wrap64 ((wrap64 (x3_1 + 1)) + ((rdOf ByteArray.empty l0 x4_1).size : Int))), (wrap64 (x4_1 + 1)), (by first | rfl | (simp; done) | (simp [*]; done)), (by first | rfl | (simp; done) | (simp [*]; done)), H', ⟨by have := HK1.out; omega⟩, by repeat (first | exact Drawn0.refl _ | apply Drawn0.step)⟩
        · rw [if_neg c3] at H
          exact absurd H (by simp)
      · rw [if_neg c2] at H
        have c2b0 : decide (x4_1 < (l0.length : Int)) = false := decide_eq_false c2
        clear c2
        obtain rfl := Option.some.inj H
        go_wp2
        go_ret
        exact ⟨by first | rfl | (simp; done) | (simp [*]; done), by repeat (first | exact Drawn0.refl _ | apply Drawn0.step)⟩

end Go.Proofs.YtdnfmilnkoocdaaDoor.Q

-- from Qf22
-- Made by hp.py, a program of this session, with the kit's printer. Not trusted: Lean checks it.
namespace Go.Proofs.YtdnfmilnkoocdaaDoor.Q
open Go.RowKit Go.Proofs.YtdnfmilnkoocdaaDoorW.PrintWords Go.Proofs.YtdnfmilnkoocdaaDoorW.PrintLast Go.Proofs.YtdnfmilnkoocdaaDoorW.PrintMore
attribute [local go_sem] max2_int min2_int max_two min_two max_three min_three max_four min_four   -- for this text's walks alone
set_option linter.unusedVariables false
set_option linter.unusedSimpArgs false

/-! ### paronymref26_Name: function 22 -/
def paronymref26_Name.l0 : Nat → List ByteArray → ByteArray → Int → Option (ByteArray × Int)
  | 0, _, _, _ => none
  | k + 1, x0, x4, x5 => if x5 < (x0.length : Int) then (if 0 ≤ x5 then ((paronymref25_Escaped.f k (rdOf ByteArray.empty x0 x5)).bind fun t103 => (if x4.size + t103.size ≤ 9223372036854775807 then (if (x4 ++ t103).size + 1 ≤ 9223372036854775807 then (paronymref26_Name.l0 k x0 ((x4 ++ t103) ++ (⟨#[46]⟩ : ByteArray)) (wrap64 (x5 + 1))) else (none)) else (none))) else (none)) else (some (x4, 0))
def paronymref26_Name.f (k : Nat) (l0 : List ByteArray) : Option (ByteArray × Int) := (paronymref26_Right.f k l0).bind fun t101 => (if t101 = true then (if (l0.length : Int) = 0 then (some ((⟨#[46]⟩ : ByteArray), 0)) else (paronymref26_Name.l0 k l0 (⟨#[]⟩ : ByteArray) 0)) else (some ((⟨#[]⟩ : ByteArray), 62)))
theorem paronymref26_Name.mono_l : ∀ k, (∀ y0 y1 y2, LeO (paronymref26_Name.l0 k y0 y1 y2) (paronymref26_Name.l0 (k + 1) y0 y1 y2))
  | 0 => fun _ _ _ r h => by simp [paronymref26_Name.l0] at h
  | k + 1 => by
    have ih0 := paronymref26_Name.mono_l k
    · intro y0 y1 y2
      unfold paronymref26_Name.l0
      repeat' first
      | (with_reducible exact ih0 _ _ _)
      | (with_reducible exact paronymref25_Escaped.mono _ _)
      | (with_reducible exact paronymref26_Right.mono _ _)
      | (with_reducible exact LeO.refl _)
      | (with_reducible exact LeO.none _)
      | (with_reducible refine LeO.ite ?_ ?_)
      | (with_reducible refine LeO.bind ?_ (fun _ => ?_))
      | exact ih0 _ _ _
      | exact paronymref25_Escaped.mono _ _
      | exact paronymref26_Right.mono _ _
      | exact LeO.none _
      | refine LeO.ite ?_ ?_
      | refine LeO.bind ?_ (fun _ => ?_)
theorem paronymref26_Name.mono : ∀ a0 k, LeO (paronymref26_Name.f k a0) (paronymref26_Name.f (k + 1) a0) := by
  intro a0 k
  have ih0 := paronymref26_Name.mono_l k
  unfold paronymref26_Name.f
  repeat' first
      | (with_reducible exact ih0 _ _ _)
      | (with_reducible exact paronymref25_Escaped.mono _ _)
      | (with_reducible exact paronymref26_Right.mono _ _)
      | (with_reducible exact LeO.refl _)
      | (with_reducible exact LeO.none _)
      | (with_reducible refine LeO.ite ?_ ?_)
      | (with_reducible refine LeO.bind ?_ (fun _ => ?_))
      | exact ih0 _ _ _
      | exact paronymref25_Escaped.mono _ _
      | exact paronymref26_Right.mono _ _
      | exact LeO.none _
      | refine LeO.ite ?_ ?_
      | refine LeO.bind ?_ (fun _ => ?_)
set_option maxHeartbeats 8000000 in
set_option maxRecDepth 100000 in
theorem paronymref26_Name.calls (k : Nat) (A0 : Option Addr) (c0 : Nat) (l0 : List ByteArray) (r1 : ByteArray) (r2 : Int) (w : World) (hr0 : Kd.C Kd.string w A0 l0.length l0) (hc0 : l0.length ≤ c0) (h : paronymref26_Name.f k l0 = some (r1, r2)) :
    Calls Tryd.prog 22 #[.slice A0 l0.length c0] w fun e w' => e = .returned (.tuple #[.string r1, .int .i64 r2]) ∧ Below w.heap.size w w' := by
  have HR0 := Aside0.mk hr0
  have HC0 := Aside0.mk hc0
  clear hr0 hc0
  have HB := Aside0.mk (Below.refl w.heap.size w)
  have H : ((paronymref26_Right.f k l0).bind fun t101 => (if t101 = true then (if (l0.length : Int) = 0 then (some ((⟨#[46]⟩ : ByteArray), 0)) else (paronymref26_Name.l0 k l0 (⟨#[]⟩ : ByteArray) 0)) else (some ((⟨#[]⟩ : ByteArray), 62)))) = some (r1, r2) := h
  clear h
  replace H := Option.bind_eq_some_iff.mp H
  obtain ⟨t101, A20, H⟩ := H
  replace H : (if t101 = true then (if (l0.length : Int) = 0 then (some ((⟨#[46]⟩ : ByteArray), 0)) else (paronymref26_Name.l0 k l0 (⟨#[]⟩ : ByteArray) 0)) else (some ((⟨#[]⟩ : ByteArray), 62))) = some (r1, r2) := H
  have A2 := Aside0.mk A20
  clear A20
  by_cases c3 : t101 = true
  · subst c3
    have H1 : (if (l0.length : Int) = 0 then (some ((⟨#[46]⟩ : ByteArray), 0)) else (paronymref26_Name.l0 k l0 (⟨#[]⟩ : ByteArray) 0)) = some (r1, r2) := by rw [if_pos rfl] at H; exact H
    clear H
    have H := H1
    clear H1
    by_cases c4 : (l0.length : Int) = 0
    · rw [if_pos c4] at H
      have c4b0 : ((l0.length : Int) == 0) = true := beq_iff_eq.mpr c4
      have c4b1 : ((l0.length : Int) != 0) = false := bne_eq_false_iff_eq.mpr c4
      clear c4
      simp only [Option.some.injEq, Prod.mk.injEq] at H
      obtain ⟨rfl, rfl⟩ := H
      go_enter Tryd.func22, Tryd.ntmps22
      go_wp2_with (first | ((with_reducible refine gate_callee (f := 53) rfl ?_); refine goesL_ (some 7) rfl rfl Tryd.func53 (by kernel_rfl) rfl #[.slice A0 l0.length c0] rfl (by (try simp only [List.map_toArray, List.map_cons, List.map_nil]); first | done | rfl | (simp only [List.length_drop, List.length_take]; rfl)) ?_; (with_reducible refine (paronymref26_Right.calls k _ _ l0 true _ ?side1 ?side2 A2.out).mono ?_); (case side1 => repeat (first | exact HR0.out | (with_reducible refine Kd.C_alloc ?_ _) | (with_reducible refine Kd.C_drewN ?_ _) | (with_reducible refine Kd.C_drew ?_))); (case side2 => exact HC0.out); rintro e w' ⟨rfl, ⟨nd, rfl⟩⟩; refine ⟨_, rfl, ?_⟩))
      go_ret2
      exact ⟨by first | rfl | (simp [errW_none, errW_some] <;> rfl) | (simp [*, errW_none, errW_some] <;> rfl), by repeat (first | (with_reducible first | exact HB.out | apply below_alloc | apply pw_below_drewN | apply below_drew1) | exact HB.out)⟩
    · rw [if_neg c4] at H
      have c4b0 : ((l0.length : Int) == 0) = false := beq_eq_false_iff_ne.mpr c4
      have c4b1 : ((l0.length : Int) != 0) = true := bne_iff_ne.mpr c4
      have c4b2 : ¬ (l0 = []) := fun h_ => c4 (by rw [h_]; rfl)
      have H' := Aside0.mk H
      clear H
      go_enter Tryd.func22, Tryd.ntmps22
      go_wp2_with (first | ((with_reducible refine gate_callee (f := 53) rfl ?_); refine goesL_ (some 7) rfl rfl Tryd.func53 (by kernel_rfl) rfl #[.slice A0 l0.length c0] rfl (by (try simp only [List.map_toArray, List.map_cons, List.map_nil]); first | done | rfl | (simp only [List.length_drop, List.length_take]; rfl)) ?_; (with_reducible refine (paronymref26_Right.calls k _ _ l0 true _ ?side1 ?side2 A2.out).mono ?_); (case side1 => repeat (first | exact HR0.out | (with_reducible refine Kd.C_alloc ?_ _) | (with_reducible refine Kd.C_drewN ?_ _) | (with_reducible refine Kd.C_drew ?_))); (case side2 => exact HC0.out); rintro e w' ⟨rfl, ⟨nd, rfl⟩⟩; refine ⟨_, rfl, ?_⟩))
      go_loopg [4, 5] k (fun kq v4 v5 w' => ∃ (x4_1 : ByteArray) (x5_1 : Int), v4 = .string x4_1 ∧ v5 = .int .i64 x5_1 ∧ Aside0 (paronymref26_Name.l0 kq l0 x4_1 x5_1 = some (r1, r2)) ∧ Aside0 (kq ≤ k) ∧ Aside0 (Below w.heap.size w w'))
      case atStart => exact ⟨((⟨#[]⟩ : ByteArray)), (0), (by first | rfl | (simp; done) | (simp [*]; done)), (by first | rfl | (simp; done) | (simp [*]; done)), H', ⟨Nat.le_refl _⟩, ⟨by repeat (first | (with_reducible first | exact HB.out | apply below_alloc | apply pw_below_drewN | apply below_drew1) | exact HB.out)⟩⟩
      case round =>
        clear H'
        try clear c2
        try clear p2
        try clear c3
        try clear c4
        try clear c4b0
        try clear c4b1
        try clear c4b2
        obtain ⟨x4_1, x5_1, rfl, rfl, HA, HK1, HB⟩ := hrel
        cases gk with
        | zero => exact absurd HA.out (by simp [paronymref26_Name.l0])
        | succ k1 =>
          have H := HA.out
          clear HA
          simp only [paronymref26_Name.l0] at H
          by_cases c5 : x5_1 < (l0.length : Int)
          · rw [if_pos c5] at H
            have c5b0 : decide (x5_1 < (l0.length : Int)) = true := decide_eq_true c5
            clear c5
            by_cases c6 : 0 ≤ x5_1
            · rw [if_pos c6] at H
              have c6b0 : decide (0 ≤ x5_1) = true := decide_eq_true c6
              clear c6
              replace H := Option.bind_eq_some_iff.mp H
              obtain ⟨t103, A70, H⟩ := H
              replace H : (if x4_1.size + t103.size ≤ 9223372036854775807 then (if (x4_1 ++ t103).size + 1 ≤ 9223372036854775807 then (paronymref26_Name.l0 k1 l0 ((x4_1 ++ t103) ++ (⟨#[46]⟩ : ByteArray)) (wrap64 (x5_1 + 1))) else (none)) else (none)) = some (r1, r2) := H
              have A7 := Aside0.mk A70
              clear A70
              by_cases c8 : x4_1.size + t103.size ≤ 9223372036854775807
              · rw [if_pos c8] at H
                have c8b0 := eq_true c8
                have c8b1 : decide (x4_1.size + t103.size ≤ 9223372036854775807) = true := decide_eq_true c8
                try have c8b2 : (9223372036854775807 < x4_1.size + t103.size) = False := eq_false (Nat.not_lt.2 c8)
                by_cases c9 : (x4_1 ++ t103).size + 1 ≤ 9223372036854775807
                · rw [if_pos c9] at H
                  have c9b0 := eq_true c9
                  have c9b1 : decide ((x4_1 ++ t103).size + 1 ≤ 9223372036854775807) = true := decide_eq_true c9
                  try have c9b2 : (9223372036854775807 < (x4_1 ++ t103).size + 1) = False := eq_false (Nat.not_lt.2 c9)
                  try have c9b3 : (9223372036854775807 < x4_1.size + t103.size + 1) = False := by simpa [ByteArray.size_append] using c9b2
                  have H' := Aside0.mk H
                  clear H
                  have p102 : 0 ≤ (x5_1 : Int) := of_decide_eq_true (by first | (with_reducible assumption) | assumption)
                  have q102 : x5_1 < (l0.length : Int) := of_decide_eq_true (by first | (with_reducible assumption) | assumption)
                  obtain ⟨ad102, e102, hx102_0⟩ := Kd.at_string HR0.out x5_1 p102 q102
                  cases e102
                  replace hx102_0 := (HB.out.cell (World.block_lt_of_cell? w _ hx102_0)).trans hx102_0
                  replace p102 := eq_true p102
                  replace q102 := eq_true q102
                  go_wp2_with (first | ((with_reducible refine gate_callee (f := 18) rfl ?_); refine goesL_ (some 23) rfl rfl Tryd.func18 (by kernel_rfl) rfl #[.string (rdOf ByteArray.empty l0 x5_1)] rfl (by (try simp only [List.map_toArray, List.map_cons, List.map_nil]); first | done | rfl | (simp only [List.length_drop, List.length_take]; rfl)) ?_; (with_reducible refine (paronymref25_Escaped.calls k1 (rdOf ByteArray.empty l0 x5_1) t103 _ A7.out).mono ?_); rintro e w10 ⟨rfl, hb⟩; refine ⟨_, rfl, ?_⟩; have n0_ := Aside0.mk (below_step (by repeat (first | (with_reducible first | exact HB.out | apply below_alloc | apply pw_below_drewN | apply below_drew1) | exact HB.out)) hb); clear HB; have HB := n0_; clear n0_; (try clear hb); (try clear hb2); (try clear hk); (try clear hi)))
                  go_roundg k1
                  case measure => have := HK1.out; omega
                  case rel => exact ⟨((x4_1 ++ t103) ++ (⟨#[46]⟩ : ByteArray)), (wrap64 (x5_1 + 1)), (by first | rfl | (simp; done) | (simp [*]; done)), (by first | rfl | (simp; done) | (simp [*]; done)), H', ⟨by have := HK1.out; omega⟩, ⟨by repeat (first | (with_reducible first | exact HB.out | apply below_alloc | apply pw_below_drewN | apply below_drew1) | exact HB.out)⟩⟩
                · rw [if_neg c9] at H
                  exact absurd H (by simp)
              · rw [if_neg c8] at H
                exact absurd H (by simp)
            · rw [if_neg c6] at H
              exact absurd H (by simp)
          · rw [if_neg c5] at H
            have c5b0 : decide (x5_1 < (l0.length : Int)) = false := decide_eq_false c5
            clear c5
            simp only [Option.some.injEq, Prod.mk.injEq] at H
            obtain ⟨rfl, rfl⟩ := H
            go_wp2
            go_ret2
            exact ⟨by first | rfl | (simp [errW_none, errW_some] <;> rfl) | (simp [*, errW_none, errW_some] <;> rfl), by repeat (first | (with_reducible first | exact HB.out | apply below_alloc | apply pw_below_drewN | apply below_drew1) | exact HB.out)⟩
  · replace c3 := Bool.eq_false_iff.mpr c3
    subst c3
    have H1 : (some ((⟨#[]⟩ : ByteArray), 62)) = some (r1, r2) := by rw [if_neg (show ¬ (false = true) by decide)] at H; exact H
    clear H
    have H := H1
    clear H1
    simp only [Option.some.injEq, Prod.mk.injEq] at H
    obtain ⟨rfl, rfl⟩ := H
    go_enter Tryd.func22, Tryd.ntmps22
    go_wp2_with (first | ((with_reducible refine gate_callee (f := 53) rfl ?_); refine goesL_ (some 7) rfl rfl Tryd.func53 (by kernel_rfl) rfl #[.slice A0 l0.length c0] rfl (by (try simp only [List.map_toArray, List.map_cons, List.map_nil]); first | done | rfl | (simp only [List.length_drop, List.length_take]; rfl)) ?_; (with_reducible refine (paronymref26_Right.calls k _ _ l0 false _ ?side1 ?side2 A2.out).mono ?_); (case side1 => repeat (first | exact HR0.out | (with_reducible refine Kd.C_alloc ?_ _) | (with_reducible refine Kd.C_drewN ?_ _) | (with_reducible refine Kd.C_drew ?_))); (case side2 => exact HC0.out); rintro e w' ⟨rfl, ⟨nd, rfl⟩⟩; refine ⟨_, rfl, ?_⟩))
    go_ret2
    exact ⟨by first | rfl | (simp [errW_none, errW_some] <;> rfl) | (simp [*, errW_none, errW_some] <;> rfl), by repeat (first | (with_reducible first | exact HB.out | apply below_alloc | apply pw_below_drewN | apply below_drew1) | exact HB.out)⟩

end Go.Proofs.YtdnfmilnkoocdaaDoor.Q

-- from Pown
/- A name's labels: what the program and the document tell, from a round on. -/
namespace Go.Proofs.YtdnfmilnkoocdaaDoor.K
set_option linter.unusedVariables false
set_option linter.unusedSimpArgs false
open Go.RowKit Go.Proofs.YtdnfmilnkoocdaaDoor.Q Go.Proofs.YtdnfmilnkoocdaaDoorW.PrintWords Go.Proofs.YtdnfmilnkoocdaaDoorW.PrintLast

theorem rdL2_nat (X : List (List Int)) (i : Nat) (h : i < X.length) : rd_L2 X (i : Int) = X[i] := by
  unfold rd_L2
  rw [Int.toNat_natCast, List.getD_eq_getElem?_getD, List.getElem?_eq_getElem h]
  rfl
theorem rdOf_nat (X : List ByteArray) (i : Nat) (h : i < X.length) : rdOf ByteArray.empty X (i : Int) = X[i] := by
  unfold rdOf
  rw [Int.toNat_natCast, List.getD_eq_getElem?_getD, List.getElem?_eq_getElem h]
  rfl
theorem dropL2 (X : List (List Int)) (i : Nat) (h : i < X.length) : X.drop i = rd_L2 X (i : Int) :: X.drop (i + 1) := by
  rw [rdL2_nat X i h, List.drop_eq_getElem_cons h]
theorem rdL2_mem (X : List (List Int)) (i : Nat) (h : i < X.length) : rd_L2 X (i : Int) ∈ X := by rw [rdL2_nat X i h]; exact List.getElem_mem h
theorem rdOf_map (X : List (List Int)) (f : List Int → ByteArray) (i : Nat) (h : i < X.length) : rdOf ByteArray.empty (X.map f) (i : Int) = f (rd_L2 X (i : Int)) := by
  rw [rdOf_nat _ i (by rw [List.length_map]; exact h), rdL2_nat X i h, List.getElem_map]

/-! are labels a right name's? -/
def rl : Int → List (List Int) → Bool
  | s, [] => decide (s ≤ 255)
  | s, l :: ls => if l.length < 1 then false else if l.length > 63 then false else rl (s + ((l.length : Int) + 1)) ls
theorem rl_each : ∀ (ls : List (List Int)) (s : Int), rl s ls = true → (∀ l ∈ ls, 1 ≤ l.length ∧ l.length ≤ 63) ∧ s + 2 * (ls.length : Int) ≤ 255
  | [], s, h => ⟨fun _ hl => (by cases hl), by have := of_decide_eq_true h; simp; omega⟩
  | l :: ls, s, h => by
    unfold rl at h
    split at h
    · cases h
    split at h
    · cases h
    obtain ⟨h1, h2⟩ := rl_each ls _ h
    refine ⟨fun x hx => ?_, by rw [List.length_cons]; omega⟩
    rcases List.mem_cons.1 hx with e | e
    · rw [e]; omega
    · exact h1 x e
theorem right_loop {ls : List (List Int)} (hn : ls.length ≤ 1000) (hl : ∀ l ∈ ls, l.length ≤ 1000) : ∀ (d i : Nat) (s : Int), ls.length - i = d → i ≤ ls.length → 0 ≤ s → s ≤ 1 + 64 * (i : Int) → Ev (fun k => owner_right.l0 k s ls (ls.length : Int) (i : Int)) (rl s (ls.drop i)) := by
  intro d
  induction d with
  | zero =>
    intro i s h1 h2 h3 h4
    rw [List.drop_of_length_le (by omega)]
    exact Ev.step (fun k => rfl) (Ev.neg (by omega) (Ev.now _))
  | succ d ih =>
    intro i s h1 h2 h3 h4
    have hi : i < ls.length := by omega
    have hx := hl _ (rdL2_mem ls i hi)
    rw [dropL2 ls i hi, rl]
    refine Ev.step (fun k => rfl) (Ev.pos (by omega) (Ev.pos (by omega) (Ev.pos (by omega) ?_)))
    generalize rd_L2 ls (i : Int) = l at *
    by_cases c1 : l.length < 1
    · rw [if_pos c1]; exact Ev.pos (by omega) (Ev.now _)
    rw [if_neg c1]
    refine Ev.neg (by omega) ?_
    by_cases c2 : l.length > 63
    · rw [if_pos c2]; exact Ev.pos (by omega) (Ev.now _)
    rw [if_neg c2]
    refine Ev.neg (by omega) ?_
    rw [w64 (n := (l.length : Int) + 1) (by omega) (by omega), w64 (n := s + ((l.length : Int) + 1)) (by omega) (by omega), w64 (n := (i : Int) + 1) (by omega) (by omega)]
    exact ih (i + 1) _ (by omega) (by omega) (by omega) (by omega)
theorem right_ev {ls : List (List Int)} (hn : ls.length ≤ 1000) (hl : ∀ l ∈ ls, l.length ≤ 1000) : Ev (fun k => owner_right.f k ls) (rl 1 ls) := right_loop hn hl _ 0 1 rfl (Nat.zero_le _) (by omega) (by omega)
theorem refRight_loop {ls : List (List Int)} (hn : ls.length ≤ 1000) (hl : ∀ l ∈ ls, l.length ≤ 1000) : ∀ (d i : Nat) (s : Int), ls.length - i = d → i ≤ ls.length → 0 ≤ s → s ≤ 1 + 64 * (i : Int) → Ev (fun k => paronymref26_Right.l0 k (ls.map strOfNums) s (i : Int)) (rl s (ls.drop i)) := by
  intro d
  induction d with
  | zero =>
    intro i s h1 h2 h3 h4
    rw [List.drop_of_length_le (by omega)]
    exact Ev.step (fun k => rfl) (Ev.neg (by rw [List.length_map]; omega) (Ev.now _))
  | succ d ih =>
    intro i s h1 h2 h3 h4
    have hi : i < ls.length := by omega
    have hx := hl _ (rdL2_mem ls i hi)
    rw [dropL2 ls i hi, rl]
    refine Ev.step (fun k => rfl) (Ev.pos (by rw [List.length_map]; omega) (Ev.pos (by omega) ?_))
    rw [rdOf_map ls strOfNums i hi, size_str]
    generalize rd_L2 ls (i : Int) = l at *
    by_cases c1 : l.length < 1
    · rw [if_pos c1]; exact Ev.pos (by omega) (Ev.now _)
    rw [if_neg c1]
    refine Ev.neg (by omega) ?_
    by_cases c2 : l.length > 63
    · rw [if_pos c2]; exact Ev.pos (by omega) (Ev.now _)
    rw [if_neg c2]
    refine Ev.neg (by omega) ?_
    rw [w64 (n := s + 1) (by omega) (by omega), w64 (n := s + 1 + (l.length : Int)) (by omega) (by omega), w64 (n := (i : Int) + 1) (by omega) (by omega)]
    have := ih (i + 1) (s + ((l.length : Int) + 1)) (by omega) (by omega) (by omega) (by omega)
    rw [show s + 1 + (l.length : Int) = s + ((l.length : Int) + 1) by omega]
    exact this
theorem refRight_ev {ls : List (List Int)} (hn : ls.length ≤ 1000) (hl : ∀ l ∈ ls, l.length ≤ 1000) : Ev (fun k => paronymref26_Right.f k (ls.map strOfNums)) (rl 1 ls) := refRight_loop hn hl _ 0 1 rfl (Nat.zero_le _) (by omega) (by omega)
theorem texts_loop {ls : List (List Int)} (hn : ls.length ≤ 1000) : ∀ (d i : Nat), ls.length - i = d → i ≤ ls.length → Ev (fun k => paronymref26_Texts.l0 k ls ((ls.take i).map strOfNums) (i : Int)) (ls.map strOfNums) := by
  intro d
  induction d with
  | zero =>
    intro i h1 h2
    rw [List.take_of_length_le (by omega)]
    exact Ev.step (fun k => rfl) (Ev.neg (by omega) (Ev.now _))
  | succ d ih =>
    intro i h1 h2
    have hi : i < ls.length := by omega
    have next := ih (i + 1) (by omega) (by omega)
    rw [take_rdL2 hi, List.map_append] at next
    refine Ev.step (fun k => rfl) (Ev.pos (by omega) (Ev.pos (by omega) (Ev.pos (by rw [List.length_map, List.length_take]; omega) ?_)))
    rw [w64 (by omega) (by omega)]
    exact next
theorem texts_ev {ls : List (List Int)} (hn : ls.length ≤ 1000) : Ev (fun k => paronymref26_Texts.f k ls) (ls.map strOfNums) := texts_loop hn _ 0 rfl (Nat.zero_le _)
theorem str_nil : (⟨#[]⟩ : ByteArray) = strOfNums [] := rfl
theorem refName_loop {ls : List (List Int)} (hn : ls.length ≤ 1000) (hl : ∀ l ∈ ls, l.length ≤ 1000) (ho : ∀ l ∈ ls, Oct l) : ∀ (d i : Nat), ls.length - i = d → i ≤ ls.length → Ev (fun k => paronymref26_Name.l0 k (ls.map strOfNums) (strOfNums (nameL (ls.take i))) (i : Int)) (strOfNums (nameL ls), 0) := by
  intro d
  induction d with
  | zero =>
    intro i h1 h2
    rw [List.take_of_length_le (by omega)]
    exact Ev.step (fun k => rfl) (Ev.neg (by rw [List.length_map]; omega) (Ev.now _))
  | succ d ih =>
    intro i h1 h2
    have hi : i < ls.length := by omega
    have hm := rdL2_mem ls i hi
    have hx := hl _ hm
    have hox := ho _ hm
    have next := ih (i + 1) (by omega) (by omega)
    have hlen := nameL_len (ls.take i) (fun l hl' => hl l (List.mem_of_mem_take hl'))
    rw [List.length_take] at hlen
    have hes := esc_len (rd_L2 ls (i : Int))
    have hnext : nameL (ls.take (i + 1)) = nameL (ls.take i) ++ dotted (rd_L2 ls (i : Int)) := by
      rw [take_rdL2 hi]
      unfold nameL
      rw [List.flatMap_append]
      simp
    rw [hnext] at next
    refine Ev.step (fun k => rfl) (Ev.pos (by rw [List.length_map]; omega) (Ev.pos (by omega) ?_))
    rw [rdOf_map ls strOfNums i hi]
    refine Ev.bind (escaped_ev hox hx) ?_
    rw [str_append, show (⟨#[46]⟩ : ByteArray) = strOfNums [46] from rfl, str_append, size_str, size_str, size_str, List.length_append, w64 (by omega) (by omega), List.append_assoc]
    exact Ev.pos (by omega) (Ev.pos (by omega) next)
theorem refName_ev {ls : List (List Int)} (hn : ls.length ≤ 1000) (hl : ∀ l ∈ ls, l.length ≤ 1000) (ho : ∀ l ∈ ls, Oct l) : Ev (fun k => paronymref26_Name.f k (ls.map strOfNums)) (if rl 1 ls = true then (if ls = [] then ((⟨#[46]⟩ : ByteArray), 0) else (strOfNums (nameL ls), 0)) else ((⟨#[]⟩ : ByteArray), 62)) := by
  unfold paronymref26_Name.f
  refine Ev.bind (refRight_ev hn hl) ?_
  by_cases hr : rl 1 ls = true
  · rw [if_pos hr]
    refine Ev.pos hr ?_
    by_cases hz : ls = []
    · rw [if_pos hz]
      exact Ev.pos (by rw [hz]; rfl) (Ev.now _)
    · rw [if_neg hz]
      have := List.length_pos_iff.2 hz
      refine Ev.neg (by rw [List.length_map]; omega) ?_
      exact refName_loop hn hl ho _ 0 rfl (Nat.zero_le _)
  · rw [if_neg hr]
    exact Ev.neg hr (Ev.now _)
theorem name_ev {ls : List (List Int)} (hn : ls.length ≤ 1000) (hl : ∀ l ∈ ls, l.length ≤ 1000) (ho : ∀ l ∈ ls, Oct l) : Ev (fun k => owner_Name.f k ls) (if rl 1 ls = true then (if ls = [] then ((⟨#[46]⟩ : ByteArray), 0) else (strOfNums (nameL ls), 0)) else ((⟨#[]⟩ : ByteArray), 62)) := by
  unfold owner_Name.f
  refine Ev.bind (right_ev hn hl) ?_
  by_cases hr : rl 1 ls = true
  · simp only [hr, if_true]
    by_cases hz : ls = []
    · rw [if_pos hz]
      exact Ev.pos (by rw [hz]; rfl) (Ev.now _)
    · rw [if_neg hz]
      have := List.length_pos_iff.2 hz
      refine Ev.neg (by omega) (Ev.pos ?_ (Ev.now _))
      unfold labelsOk
      rw [Bool.and_eq_true]
      refine ⟨List.all_eq_true.2 (fun l hm => ?_), decide_eq_true hn⟩
      rw [Bool.and_eq_true]
      exact ⟨List.all_eq_true.2 (fun x hx => decide_eq_true (ho l hm x hx)), decide_eq_true (hl l hm)⟩
  · simp only [hr, Bool.false_eq_true, if_false]
    exact Ev.now _

/-! a name as units -/
def dunits (l : List Int) : List (List Int × Int) := units l ++ [([46], 46)]
def nunits (ls : List (List Int)) : List (List Int × Int) := ls.flatMap dunits
theorem flat_append (a b : List (List Int × Int)) : flat (a ++ b) = flat a ++ flat b := by unfold flat; rw [List.flatMap_append]
theorem flat_dunits (l : List Int) : flat (dunits l) = dotted l := by unfold dunits dotted; rw [flat_append, flat_units]; rfl
theorem flat_nunits : ∀ ls : List (List Int), flat (nunits ls) = nameL ls
  | [] => rfl
  | l :: ls => by
    unfold nunits nameL
    rw [List.flatMap_cons, List.flatMap_cons, flat_append, flat_dunits]
    congr 1
    exact flat_nunits ls
theorem nunits_uni {ls : List (List Int)} (ho : ∀ l ∈ ls, Oct l) : ∀ u ∈ nunits ls, Uni u := fun u hu => by
  obtain ⟨l, hl, hu⟩ := List.mem_flatMap.1 hu
  rcases List.mem_append.1 hu with hu | hu
  · exact units_uni (ho l hl) u hu
  · rw [List.mem_singleton.1 hu]; exact dot_uni
theorem nunits_len : ∀ ls : List (List Int), (∀ l ∈ ls, l.length ≤ 63) → (nunits ls).length ≤ 64 * ls.length
  | [], _ => Nat.le_refl _
  | l :: ls, h => by
    have h1 := nunits_len ls (fun x hx => h x (List.mem_cons_of_mem _ hx))
    have h2 := h l List.mem_cons_self
    unfold nunits at h1 ⊢
    rw [List.flatMap_cons, List.length_append, List.length_cons]
    unfold dunits at h1 ⊢
    rw [List.length_append, show (units l).length = l.length by unfold units; rw [List.length_map]]
    simp only [List.length_cons, List.length_nil]
    omega

/-! parting at the dots -/
theorem drop_take {l : List Int} {a b : Nat} : (l.take b).drop a = (l.drop a).take (b - a) := by rw [List.drop_take]
theorem at_drop {S T : List Int} {i : Nat} {x : Int} (h : S.drop i = x :: T) : i < S.length ∧ rd S (i : Int) = x ∧ S.drop (i + 1) = T := by
  have hi : i < S.length := by
    rcases Nat.lt_or_ge i S.length with h' | h'
    · exact h'
    · rw [List.drop_of_length_le h'] at h; cases h
  have hc := drop_cons S i hi
  rw [h] at hc
  injection hc with a b
  exact ⟨hi, a.symm, b.symm⟩
theorem cut_unit {S : List Int} (ho : Oct S) (hS : S.length ≤ 1000000) {u : List Int × Int} (hu : Uni u) (hd : u.1 ≠ [46]) (acc : List ByteArray) (from_ : Int) {v : List ByteArray} (i : Nat) (T : List Int) (h : S.drop i = u.1 ++ T) (next : Ev (fun k => owner_cut.l0 k (strOfNums S) acc from_ ((i + u.1.length : Nat) : Int)) v) : Ev (fun k => owner_cut.l0 k (strOfNums S) acc from_ (i : Int)) v := by
  have plain : ∀ (j : Nat) (x : Int) (T' : List Int), S.drop j = x :: T' → x ≠ 92 → x ≠ 46 → Ev (fun k => owner_cut.l0 k (strOfNums S) acc from_ ((j + 1 : Nat) : Int)) v → Ev (fun k => owner_cut.l0 k (strOfNums S) acc from_ (j : Int)) v := by
    intro j x T' hj h92 h46 hn
    obtain ⟨h1, h2, h3⟩ := at_drop hj
    refine Ev.step (fun k => rfl) (Ev.pos (by rw [size_str]; omega) (Ev.pos (by omega) ?_))
    rw [bt_str ho (by omega) (by omega), h2]
    refine Ev.neg h92 (Ev.neg h46 ?_)
    rw [w64 (by omega) (by omega)]
    exact hn
  have back : ∀ (j : Nat) (T' : List Int), S.drop j = 92 :: T' → Ev (fun k => owner_cut.l0 k (strOfNums S) acc from_ ((j + 2 : Nat) : Int)) v → Ev (fun k => owner_cut.l0 k (strOfNums S) acc from_ (j : Int)) v := by
    intro j T' hj hn
    obtain ⟨h1, h2, h3⟩ := at_drop hj
    refine Ev.step (fun k => rfl) (Ev.pos (by rw [size_str]; omega) (Ev.pos (by omega) ?_))
    rw [bt_str ho (by omega) (by omega), h2]
    refine Ev.pos rfl ?_
    rw [w64 (n := (j : Int) + 1) (by omega) (by omega), w64 (n := (j : Int) + 1 + 1) (by omega) (by omega), show (j : Int) + 1 + 1 = ((j + 2 : Nat) : Int) by omega]
    exact hn
  cases hu with
  | esc c => exact back i _ h next
  | one c g1 => exact plain i c T h g1 (fun e => hd (by rw [e])) next
  | num c d1 d2 d3 h1 h2 h3 =>
    have a2 := of_decide_eq_true h2
    have a3 := of_decide_eq_true h3
    have e2 : S.drop (i + 2) = d2 :: d3 :: T := by
      rw [← List.drop_drop, h]; rfl
    have e3 : S.drop (i + 3) = d3 :: T := by
      rw [← List.drop_drop, h]; rfl
    exact back i _ h (plain (i + 2) d2 _ e2 (by omega) (by omega) (plain (i + 3) d3 _ e3 (by omega) (by omega) next))
theorem cut_us {S : List Int} (ho : Oct S) (hS : S.length ≤ 1000000) (acc : List ByteArray) (from_ : Int) {v : List ByteArray} : ∀ (us : List (List Int × Int)), (∀ u ∈ us, Uni u ∧ u.1 ≠ [46]) → ∀ (i : Nat) (T : List Int), S.drop i = flat us ++ T → Ev (fun k => owner_cut.l0 k (strOfNums S) acc from_ ((i + (flat us).length : Nat) : Int)) v → Ev (fun k => owner_cut.l0 k (strOfNums S) acc from_ (i : Int)) v
  | [], _, i, T, _, next => next
  | u :: us, h, i, T, he, next => by
    rw [flat_cons] at he next
    rw [List.append_assoc] at he
    rw [List.length_append, ← Nat.add_assoc] at next
    obtain ⟨h1, h2⟩ := h u List.mem_cons_self
    refine cut_unit ho hS h1 h2 acc from_ i _ he ?_
    refine cut_us ho hS acc from_ us (fun x hx => h x (List.mem_cons_of_mem _ hx)) (i + u.1.length) T ?_ next
    rw [← List.drop_drop, he, List.drop_left]
theorem esc1_nodot {c : Int} (h : 0 ≤ c ∧ c ≤ 255) : esc1 c ≠ [46] := by
  intro e
  unfold esc1 at e
  split at e
  · simp at e
  · rename_i sp
    split at e
    · simp at e
      subst e
      exact sp (by decide)
    · simp at e
theorem cut_ls {S : List Int} (ho : Oct S) (hS : S.length ≤ 1000000) : ∀ (ls : List (List Int)), (∀ l ∈ ls, Oct l) → ∀ (acc : List ByteArray) (i : Nat), acc.length + ls.length ≤ 1000000 → S.drop i = nameL ls → i ≤ S.length →
    Ev (fun k => owner_cut.l0 k (strOfNums S) acc (i : Int) (i : Int)) (acc ++ ls.map (fun l => strOfNums (l.flatMap esc1)) ++ [strOfNums []])
  | [], _, acc, i, hl, he, hi => by
    have hi' : i = S.length := by
      have := congrArg List.length he
      rw [List.length_drop] at this
      simp [nameL] at this
      omega
    refine Ev.step (fun k => rfl) (Ev.neg (by rw [size_str]; omega) (Ev.pos (by omega) (Ev.pos (by rw [size_str]; omega) (Ev.pos (by simp at hl; omega) (Ev.ret ?_)))))
    rw [extract_str, size_str, List.take_length, Int.toNat_natCast, List.drop_of_length_le (by omega)]
    simp
  | l :: ls, hol, acc, i, hl, he, hi => by
    have hn : nameL (l :: ls) = flat (units l) ++ 46 :: nameL ls := by
      unfold nameL dotted
      rw [List.flatMap_cons, flat_units, List.append_assoc]
      rfl
    rw [hn] at he
    have h46 : S.drop (i + (flat (units l)).length) = 46 :: nameL ls := by rw [← List.drop_drop, he, List.drop_left]
    obtain ⟨g1, g2, g3⟩ := at_drop h46
    have hol1 := hol l List.mem_cons_self
    refine cut_us ho hS acc (i : Int) (units l) (fun u hu => ?_) i _ he ?_
    · refine ⟨units_uni hol1 u hu, ?_⟩
      obtain ⟨c, hc, rfl⟩ := List.mem_map.1 hu
      exact esc1_nodot (hol1 c hc)
    have hpart : (strOfNums S).extract ((i : Int)).toNat ((i + (flat (units l)).length : Nat) : Int).toNat = strOfNums (l.flatMap esc1) := by
      rw [extract_str, Int.toNat_natCast, Int.toNat_natCast, drop_take, he, show i + (flat (units l)).length - i = (flat (units l)).length by omega, List.take_left, flat_units]
    rw [List.length_cons] at hl
    generalize (flat (units l)).length = m at *
    have next := cut_ls ho hS ls (fun x hx => hol x (List.mem_cons_of_mem _ hx)) (acc ++ [strOfNums (l.flatMap esc1)]) (i + m + 1) (by rw [List.length_append]; simp only [List.length_cons, List.length_nil]; omega) g3 (by omega)
    refine Ev.step (fun k => rfl) (Ev.pos (by rw [size_str]; omega) (Ev.pos (by omega) ?_))
    rw [bt_str ho (by omega) (by omega), g2, hpart]
    refine Ev.neg (by decide) (Ev.pos rfl (Ev.pos (by omega) (Ev.pos (by omega) (Ev.pos (by rw [size_str]; omega) (Ev.pos (by omega) ?_)))))
    rw [w64 (by omega) (by omega)]
    rw [List.append_assoc] at next
    rw [List.map_cons]
    have e : ((i + m : Nat) : Int) + 1 = ((i + m + 1 : Nat) : Int) := by omega
    rw [e]
    simpa using next
end Go.Proofs.YtdnfmilnkoocdaaDoor.K
