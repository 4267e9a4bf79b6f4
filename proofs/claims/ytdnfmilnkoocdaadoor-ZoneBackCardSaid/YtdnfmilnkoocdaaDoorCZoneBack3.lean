/- Part 3 of 4 of the proof of ZoneBack: a written zone is read back For every input; no condition. -/
import Derived.Test.YtdnfmilnkoocdaaDoorCZoneBack1
import Derived.Ground.NamesProg
import Derived.Shelf.Lay
import Derived.Shelf.Strings.Builder1
import Derived.Laws.AppendOwn
import Derived.Lib.AppendStr
import Derived.Deep.LoopGhost
import Derived.Laws.Cover1
import Derived.Test.YtdnfmilnkoocdaaDoorCZoneBack2

-- from Qf28
-- Made by hp.py, a program of this session, with the kit's printer. Not trusted: Lean checks it.
namespace Go.Proofs.YtdnfmilnkoocdaaDoor.Q
open Go.RowKit Go.Proofs.YtdnfmilnkoocdaaDoorW.PrintWords Go.Proofs.YtdnfmilnkoocdaaDoorW.PrintLast Go.Proofs.YtdnfmilnkoocdaaDoorW.PrintMore
attribute [local go_sem] max2_int min2_int max_two min_two max_three min_three max_four min_four   -- for this text's walks alone
set_option linter.unusedVariables false
set_option linter.unusedSimpArgs false

/-! ### paronymref11_Lower: function 28 -/
def paronymref11_Lower.l0 : Nat → ByteArray → List Int → Int → Option (ByteArray)
 | 0, _, _, _ => none
 | k + 1, x0, x3, x4 => if x4 < (x0.size : Int) then (if 0 ≤ x4 then (if (bt x0 x4) ≥ 65 then (if (bt x0 x4) ≤ 90 then (if x3.length < 140737488355328 then (paronymref11_Lower.l0 k x0 (x3 ++ [((bt x0 x4) + 32) % 256]) (wrap64 (x4 + 1))) else (none)) else (if x3.length < 140737488355328 then (paronymref11_Lower.l0 k x0 (x3 ++ [bt x0 x4]) (wrap64 (x4 + 1))) else (none))) else (if x3.length < 140737488355328 then (paronymref11_Lower.l0 k x0 (x3 ++ [bt x0 x4]) (wrap64 (x4 + 1))) else (none))) else (none)) else (some (strOfNums x3))
def paronymref11_Lower.f (k : Nat) (a0 : ByteArray) : Option (ByteArray) := paronymref11_Lower.l0 k a0 ([] : List Int) 0
theorem paronymref11_Lower.mono_l : ∀ k, (∀ y0 y1 y2, LeO (paronymref11_Lower.l0 k y0 y1 y2) (paronymref11_Lower.l0 (k + 1) y0 y1 y2))
 | 0 => fun _ _ _ r h => by simp [paronymref11_Lower.l0] at h
 | k + 1 => by
  have ih0 := paronymref11_Lower.mono_l k
  ·intro y0 y1 y2
   unfold paronymref11_Lower.l0
   repeat' first
   | (with_reducible exact ih0 _ _ _)
   | (with_reducible exact LeO.refl _)
   | (with_reducible exact LeO.none _)
   | (with_reducible refine LeO.ite ?_ ?_)
   | (with_reducible refine LeO.bind ?_ (fun _ => ?_))
   | exact ih0 _ _ _
   | exact LeO.none _
   | refine LeO.ite ?_ ?_
   | refine LeO.bind ?_ (fun _ => ?_)
theorem paronymref11_Lower.mono : ∀ a0 k, LeO (paronymref11_Lower.f k a0) (paronymref11_Lower.f (k + 1) a0) := by
 intro a0 k
 have ih0 := paronymref11_Lower.mono_l k
 unfold paronymref11_Lower.f
 repeat' first
   | (with_reducible exact ih0 _ _ _)
   | (with_reducible exact LeO.refl _)
   | (with_reducible exact LeO.none _)
   | (with_reducible refine LeO.ite ?_ ?_)
   | (with_reducible refine LeO.bind ?_ (fun _ => ?_))
   | exact ih0 _ _ _
   | exact LeO.none _
   | refine LeO.ite ?_ ?_
   | refine LeO.bind ?_ (fun _ => ?_)
set_option maxHeartbeats 8000000 in
set_option maxRecDepth 100000 in
theorem paronymref11_Lower.calls (k : Nat) (a0 : ByteArray) (r : ByteArray) (w : World) (h : paronymref11_Lower.f k a0 = some r) :
  Calls Tryd.prog 28 #[.string a0] w fun e w' => e = .returned (.string r) ∧ Below w.heap.size w w' := by
 have HB := Aside0.mk (Below.refl w.heap.size w)
 have H : (paronymref11_Lower.l0 k a0 ([] : List Int) 0) = some r := h
 clear h
 have H' := Aside0.mk H
 clear H
 go_enter Tryd.func28, Tryd.ntmps28
 go_wp2
 go_loopg [3, 4] k (fun kq v3 v4 w' => ∃ (x3_1 : List Int) (x4_1 : Int), v4 = .int .i64 x4_1 ∧ Aside0 (paronymref11_Lower.l0 kq a0 x3_1 x4_1 = some r) ∧ Aside0 (kq ≤ k) ∧ Aside0 (Kd.R (Kd.int .u8) 5 w' w.heap.size (fun _ => True) v3 x3_1) ∧ Aside0 (Below w.heap.size w w'))
 case atStart => exact ⟨(([] : List Int)), (0), (by first | rfl | (simp; done) | (simp [*]; done)), H', ⟨Nat.le_refl _⟩, ⟨by first | exact Kd.R_nil _ _ _ _ _ | exact Kd.N_nil _ _ _ _ _ | exact Kd.V_nil _ _ _ _ _ | exact Kd.Q_nil _ _ _ _ _ | exact Kd.S_nil _ _ _ _ _⟩, ⟨by repeat (first | (with_reducible first | exact HB.out | apply below_alloc | apply pw_below_drewN | apply below_drew1) | exact HB.out)⟩⟩
 case round =>
  clear H'
  obtain ⟨x3_1, x4_1, rfl, HA, HK1, HO_3, HB⟩ := hrel
  cases gk with
  | zero => exact absurd HA.out (by simp [paronymref11_Lower.l0])
  | succ k1 =>
   have H := HA.out
   clear HA
   simp only [paronymref11_Lower.l0] at H
   by_cases c2 : x4_1 < (a0.size : Int)
   ·rw [if_pos c2] at H
    have c2b0 : decide (x4_1 < (a0.size : Int)) = true := decide_eq_true c2
    clear c2
    by_cases c3 : 0 ≤ x4_1
    ·rw [if_pos c3] at H
     have c3b0 : decide (0 ≤ x4_1) = true := decide_eq_true c3
     clear c3
     by_cases c5 : (bt a0 x4_1) ≥ 65
     ·rw [if_pos c5] at H
      have c5b0 : decide (65 ≤ (bt a0 x4_1)) = true := decide_eq_true c5
      clear c5
      by_cases c6 : (bt a0 x4_1) ≤ 90
      ·rw [if_pos c6] at H
       have c6b0 : decide ((bt a0 x4_1) ≤ 90) = true := decide_eq_true c6
       clear c6
       by_cases c7 : x3_1.length < 140737488355328
       ·rw [if_pos c7] at H
        have LMc7 := Aside0.mk c7
        clear c7
        obtain ⟨y101, hy101⟩ : ∃ y_ : List Int, y_ = (x3_1 ++ [((bt a0 x4_1) + 32) % 256]) := ⟨_, rfl⟩
        replace H : (paronymref11_Lower.l0 k1 a0 y101 (wrap64 (x4_1 + 1))) = some r := by first | (rw [hy101]; with_reducible exact H) | (have H2_ := (Option.bind_some _ _).symm.trans H; rw [hy101]; with_reducible exact H2_) | (have H2_ := (Option.bind_some _ _).symm.trans H; with_reducible exact H2_) | with_reducible exact H | (rw [hy101]; exact H) | exact H
        have Ny101 := Aside0.mk hy101
        clear hy101
        have H' := Aside0.mk H
        clear H
        have p4 : 0 ≤ (x4_1 : Int) := of_decide_eq_true (by first | (with_reducible assumption) | assumption)
        have q4 : x4_1 < (a0.size : Int) := of_decide_eq_true (by first | (with_reducible assumption) | assumption)
        have hx4 := bt_at a0 x4_1
        replace p4 := eq_true p4
        replace q4 := eq_true q4
        go_wp2_with (first | ((with_reducible refine gate_builtin (b := .append) (xs := #[.tmp 23, .tmp 25]) rfl ?_); at_builtin; refine Kd.R_append (Kd.int .u8) (w0 := w) w.heap.size rfl (.tmp 23) (.tmp 25) 22 5 (.int .u8 0) 1 rfl Tryd.underlying22 info5 rfl (by decide) (by omega) u3 x3_1 (((bt a0 x4_1) + 32) % 256) [.int .u8 (((bt a0 x4_1) + 32) % 256)] (fun _ => True) (fun _ => False) rfl rfl ?aP (fun _ hk => hk.elim) ?aF ?aO ?aB ?aS ?aL ?_; (case aP => exact rfl); (case aB => exact (by repeat (first | (with_reducible first | exact HB.out | apply below_alloc | apply pw_below_drewN | apply below_drew1) | exact HB.out))); (case aF => exact (fun _ _ => trivial)); (case aO => exact (by (with_reducible repeat (first | apply Kd.R_alloc | apply Kd.R_drewN | apply Kd.R_drew)); exact HO_3.out)); (case aS => exact (below_size (by repeat (first | (with_reducible first | exact HB.out | apply below_alloc | apply pw_below_drewN | apply below_drew1) | exact HB.out)))); (case aL => have := LMc7.out; omega); intro v102 w8 ho hb hg hat; rw [← Ny101.out] at ho; have n0_ := Aside0.mk (hb); have n1_ := Aside0.mk (ho); clear HB; clear HO_3; have HB := n0_; have HO103 := n1_; clear n0_ n1_; clear ho hb hg hat))
        go_roundg k1
        case measure => have := HK1.out; omega
        case rel => exact ⟨(y101), (wrap64 (x4_1 + 1)), (by first | rfl | (simp; done) | (simp [*]; done)), H', ⟨by have := HK1.out; omega⟩, ⟨by (with_reducible repeat (first | apply Kd.R_alloc | apply Kd.R_drewN | apply Kd.R_drew)); exact HO103.out⟩, ⟨by repeat (first | (with_reducible first | exact HB.out | apply below_alloc | apply pw_below_drewN | apply below_drew1) | exact HB.out)⟩⟩
       ·rw [if_neg c7] at H
        exact absurd H (by simp)
      ·rw [if_neg c6] at H
       have c6b0 : decide ((bt a0 x4_1) ≤ 90) = false := decide_eq_false c6
       clear c6
       by_cases c9 : x3_1.length < 140737488355328
       ·rw [if_pos c9] at H
        have LMc9 := Aside0.mk c9
        clear c9
        obtain ⟨y104, hy104⟩ : ∃ y_ : List Int, y_ = (x3_1 ++ [bt a0 x4_1]) := ⟨_, rfl⟩
        replace H : (paronymref11_Lower.l0 k1 a0 y104 (wrap64 (x4_1 + 1))) = some r := by first | (rw [hy104]; with_reducible exact H) | (have H2_ := (Option.bind_some _ _).symm.trans H; rw [hy104]; with_reducible exact H2_) | (have H2_ := (Option.bind_some _ _).symm.trans H; with_reducible exact H2_) | with_reducible exact H | (rw [hy104]; exact H) | exact H
        have Ny104 := Aside0.mk hy104
        clear hy104
        have H' := Aside0.mk H
        clear H
        have p4 : 0 ≤ (x4_1 : Int) := of_decide_eq_true (by first | (with_reducible assumption) | assumption)
        have q4 : x4_1 < (a0.size : Int) := of_decide_eq_true (by first | (with_reducible assumption) | assumption)
        have hx4 := bt_at a0 x4_1
        replace p4 := eq_true p4
        replace q4 := eq_true q4
        go_wp2_with (first | ((with_reducible refine gate_builtin (b := .append) (xs := #[.tmp 23, .tmp 25]) rfl ?_); at_builtin; refine Kd.R_append (Kd.int .u8) (w0 := w) w.heap.size rfl (.tmp 23) (.tmp 25) 22 5 (.int .u8 0) 1 rfl Tryd.underlying22 info5 rfl (by decide) (by omega) u3 x3_1 (bt a0 x4_1) [.int .u8 (bt a0 x4_1)] (fun _ => True) (fun _ => False) rfl rfl ?aP (fun _ hk => hk.elim) ?aF ?aO ?aB ?aS ?aL ?_; (case aP => exact rfl); (case aB => exact (by repeat (first | (with_reducible first | exact HB.out | apply below_alloc | apply pw_below_drewN | apply below_drew1) | exact HB.out))); (case aF => exact (fun _ _ => trivial)); (case aO => exact (by (with_reducible repeat (first | apply Kd.R_alloc | apply Kd.R_drewN | apply Kd.R_drew)); exact HO_3.out)); (case aS => exact (below_size (by repeat (first | (with_reducible first | exact HB.out | apply below_alloc | apply pw_below_drewN | apply below_drew1) | exact HB.out)))); (case aL => have := LMc9.out; omega); intro v105 w10 ho hb hg hat; rw [← Ny104.out] at ho; have n0_ := Aside0.mk (hb); have n1_ := Aside0.mk (ho); clear HB; clear HO_3; have HB := n0_; have HO106 := n1_; clear n0_ n1_; clear ho hb hg hat))
        go_roundg k1
        case measure => have := HK1.out; omega
        case rel => exact ⟨(y104), (wrap64 (x4_1 + 1)), (by first | rfl | (simp; done) | (simp [*]; done)), H', ⟨by have := HK1.out; omega⟩, ⟨by (with_reducible repeat (first | apply Kd.R_alloc | apply Kd.R_drewN | apply Kd.R_drew)); exact HO106.out⟩, ⟨by repeat (first | (with_reducible first | exact HB.out | apply below_alloc | apply pw_below_drewN | apply below_drew1) | exact HB.out)⟩⟩
       ·rw [if_neg c9] at H
        exact absurd H (by simp)
     ·rw [if_neg c5] at H
      have c5b0 : decide (65 ≤ (bt a0 x4_1)) = false := decide_eq_false c5
      clear c5
      by_cases c11 : x3_1.length < 140737488355328
      ·rw [if_pos c11] at H
       have LMc11 := Aside0.mk c11
       clear c11
       obtain ⟨y107, hy107⟩ : ∃ y_ : List Int, y_ = (x3_1 ++ [bt a0 x4_1]) := ⟨_, rfl⟩
       replace H : (paronymref11_Lower.l0 k1 a0 y107 (wrap64 (x4_1 + 1))) = some r := by first | (rw [hy107]; with_reducible exact H) | (have H2_ := (Option.bind_some _ _).symm.trans H; rw [hy107]; with_reducible exact H2_) | (have H2_ := (Option.bind_some _ _).symm.trans H; with_reducible exact H2_) | with_reducible exact H | (rw [hy107]; exact H) | exact H
       have Ny107 := Aside0.mk hy107
       clear hy107
       have H' := Aside0.mk H
       clear H
       have p4 : 0 ≤ (x4_1 : Int) := of_decide_eq_true (by first | (with_reducible assumption) | assumption)
       have q4 : x4_1 < (a0.size : Int) := of_decide_eq_true (by first | (with_reducible assumption) | assumption)
       have hx4 := bt_at a0 x4_1
       replace p4 := eq_true p4
       replace q4 := eq_true q4
       go_wp2_with (first | ((with_reducible refine gate_builtin (b := .append) (xs := #[.tmp 23, .tmp 25]) rfl ?_); at_builtin; refine Kd.R_append (Kd.int .u8) (w0 := w) w.heap.size rfl (.tmp 23) (.tmp 25) 22 5 (.int .u8 0) 1 rfl Tryd.underlying22 info5 rfl (by decide) (by omega) u3 x3_1 (bt a0 x4_1) [.int .u8 (bt a0 x4_1)] (fun _ => True) (fun _ => False) rfl rfl ?aP (fun _ hk => hk.elim) ?aF ?aO ?aB ?aS ?aL ?_; (case aP => exact rfl); (case aB => exact (by repeat (first | (with_reducible first | exact HB.out | apply below_alloc | apply pw_below_drewN | apply below_drew1) | exact HB.out))); (case aF => exact (fun _ _ => trivial)); (case aO => exact (by (with_reducible repeat (first | apply Kd.R_alloc | apply Kd.R_drewN | apply Kd.R_drew)); exact HO_3.out)); (case aS => exact (below_size (by repeat (first | (with_reducible first | exact HB.out | apply below_alloc | apply pw_below_drewN | apply below_drew1) | exact HB.out)))); (case aL => have := LMc11.out; omega); intro v108 w12 ho hb hg hat; rw [← Ny107.out] at ho; have n0_ := Aside0.mk (hb); have n1_ := Aside0.mk (ho); clear HB; clear HO_3; have HB := n0_; have HO109 := n1_; clear n0_ n1_; clear ho hb hg hat))
       go_roundg k1
       case measure => have := HK1.out; omega
       case rel => exact ⟨(y107), (wrap64 (x4_1 + 1)), (by first | rfl | (simp; done) | (simp [*]; done)), H', ⟨by have := HK1.out; omega⟩, ⟨by (with_reducible repeat (first | apply Kd.R_alloc | apply Kd.R_drewN | apply Kd.R_drew)); exact HO109.out⟩, ⟨by repeat (first | (with_reducible first | exact HB.out | apply below_alloc | apply pw_below_drewN | apply below_drew1) | exact HB.out)⟩⟩
      ·rw [if_neg c11] at H
       exact absurd H (by simp)
    ·rw [if_neg c3] at H
     exact absurd H (by simp)
   ·rw [if_neg c2] at H
    have c2b0 : decide (x4_1 < (a0.size : Int)) = false := decide_eq_false c2
    clear c2
    obtain rfl := Option.some.inj H
    have hcv13 := own_string (P := Tryd.prog) Tryd.underlying22 Tryd.underlying5 Tryd.underlying9 (Kd.own_of_R HO_3.out)
    have hcv14 := fun (nd_ : Nat) => own_string (P := Tryd.prog) Tryd.underlying22 Tryd.underlying5 Tryd.underlying9 (Kd.own_of_R (Kd.R_drewN HO_3.out nd_))
    go_wp2
    go_ret
    exact ⟨by first | rfl | (simp [errW_none, errW_some] <;> rfl) | (simp [*, errW_none, errW_some] <;> rfl), by repeat (first | (with_reducible first | exact HB.out | apply below_alloc | apply pw_below_drewN | apply below_drew1) | exact HB.out)⟩

end Go.Proofs.YtdnfmilnkoocdaaDoor.Q

-- from Qf18
-- Made by hp.py, a program of this session, with the kit's printer. Not trusted: Lean checks it.
namespace Go.Proofs.YtdnfmilnkoocdaaDoor.Q
open Go.RowKit Go.Proofs.YtdnfmilnkoocdaaDoorW.PrintWords Go.Proofs.YtdnfmilnkoocdaaDoorW.PrintLast Go.Proofs.YtdnfmilnkoocdaaDoorW.PrintMore
attribute [local go_sem] max2_int min2_int max_two min_two max_three min_three max_four min_four   -- for this text's walks alone
set_option linter.unusedVariables false
set_option linter.unusedSimpArgs false

/-! ### paronymref25_Escaped: function 18 -/
mutual
def paronymref25_Escaped.l0 : Nat → ByteArray → List Int → Int → Option (ByteArray)
 | 0, _, _, _ => none
 | k + 1, x0, x3, x4 => if x4 < (x0.size : Int) then (if 0 ≤ x4 then (if (bt x0 x4) = 34 then (paronymref25_Escaped.j1 k x0 x3 x4 (bt x0 x4) true) else (if (bt x0 x4) = 59 then (paronymref25_Escaped.j1 k x0 x3 x4 (bt x0 x4) true) else (if (bt x0 x4) = 40 then (paronymref25_Escaped.j1 k x0 x3 x4 (bt x0 x4) true) else (if (bt x0 x4) = 41 then (paronymref25_Escaped.j1 k x0 x3 x4 (bt x0 x4) true) else (if (bt x0 x4) = 92 then (paronymref25_Escaped.j1 k x0 x3 x4 (bt x0 x4) true) else (paronymref25_Escaped.j1 k x0 x3 x4 (bt x0 x4) ((bt x0 x4) == 46))))))) else (none)) else (some (strOfNums x3))
def paronymref25_Escaped.j1 : Nat → ByteArray → List Int → Int → Int → Bool → Option (ByteArray)
 | 0, _, _, _, _, _ => none
 | k + 1, x0, x3, x4, x5, x36 => if x36 = true then ((some (([92, x5] : List Int) : List Int)).bind fun y101 => (if x3.length + y101.length < 140737488355328 then (paronymref25_Escaped.l0 k x0 (x3 ++ y101) (wrap64 (x4 + 1))) else (none))) else (if x5 > 32 then (if x5 < 127 then (if x3.length < 140737488355328 then (paronymref25_Escaped.l0 k x0 (x3 ++ [x5]) (wrap64 (x4 + 1))) else (none)) else ((some (([92, (48 + ((Int.tdiv x5 100) % 256)) % 256, 48 + (((Int.tdiv x5 10) % 256) % 10), (48 + (Int.tmod x5 10)) % 256] : List Int) : List Int)).bind fun y110 => (if x3.length + y110.length < 140737488355328 then (paronymref25_Escaped.l0 k x0 (x3 ++ y110) (wrap64 (x4 + 1))) else (none)))) else ((some (([92, (48 + ((Int.tdiv x5 100) % 256)) % 256, 48 + (((Int.tdiv x5 10) % 256) % 10), (48 + (Int.tmod x5 10)) % 256] : List Int) : List Int)).bind fun y116 => (if x3.length + y116.length < 140737488355328 then (paronymref25_Escaped.l0 k x0 (x3 ++ y116) (wrap64 (x4 + 1))) else (none))))
end
def paronymref25_Escaped.f (k : Nat) (a0 : ByteArray) : Option (ByteArray) := paronymref25_Escaped.l0 k a0 ([] : List Int) 0
theorem paronymref25_Escaped.mono_l : ∀ k, (∀ y0 y1 y2, LeO (paronymref25_Escaped.l0 k y0 y1 y2) (paronymref25_Escaped.l0 (k + 1) y0 y1 y2)) ∧ (∀ y0 y1 y2 y3 y4, LeO (paronymref25_Escaped.j1 k y0 y1 y2 y3 y4) (paronymref25_Escaped.j1 (k + 1) y0 y1 y2 y3 y4))
 | 0 => ⟨fun _ _ _ r h => by simp [paronymref25_Escaped.l0] at h, fun _ _ _ _ _ r h => by simp [paronymref25_Escaped.j1] at h⟩
 | k + 1 => by
  obtain ⟨ih0, ih1⟩ := paronymref25_Escaped.mono_l k
  refine ⟨?_, ?_⟩
  ·intro y0 y1 y2
   unfold paronymref25_Escaped.l0
   repeat' first
   | (with_reducible exact ih0 _ _ _)
   | (with_reducible exact ih1 _ _ _ _ _)
   | (with_reducible exact LeO.refl _)
   | (with_reducible exact LeO.none _)
   | (with_reducible refine LeO.ite ?_ ?_)
   | (with_reducible refine LeO.bind ?_ (fun _ => ?_))
   | exact ih0 _ _ _
   | exact ih1 _ _ _ _ _
   | exact LeO.none _
   | refine LeO.ite ?_ ?_
   | refine LeO.bind ?_ (fun _ => ?_)
  ·intro y0 y1 y2 y3 y4
   unfold paronymref25_Escaped.j1
   repeat' first
   | (with_reducible exact ih0 _ _ _)
   | (with_reducible exact ih1 _ _ _ _ _)
   | (with_reducible exact LeO.refl _)
   | (with_reducible exact LeO.none _)
   | (with_reducible refine LeO.ite ?_ ?_)
   | (with_reducible refine LeO.bind ?_ (fun _ => ?_))
   | exact ih0 _ _ _
   | exact ih1 _ _ _ _ _
   | exact LeO.none _
   | refine LeO.ite ?_ ?_
   | refine LeO.bind ?_ (fun _ => ?_)
theorem paronymref25_Escaped.mono : ∀ a0 k, LeO (paronymref25_Escaped.f k a0) (paronymref25_Escaped.f (k + 1) a0) := by
 intro a0 k
 obtain ⟨ih0, ih1⟩ := paronymref25_Escaped.mono_l k
 unfold paronymref25_Escaped.f
 repeat' first
   | (with_reducible exact ih0 _ _ _)
   | (with_reducible exact ih1 _ _ _ _ _)
   | (with_reducible exact LeO.refl _)
   | (with_reducible exact LeO.none _)
   | (with_reducible refine LeO.ite ?_ ?_)
   | (with_reducible refine LeO.bind ?_ (fun _ => ?_))
   | exact ih0 _ _ _
   | exact ih1 _ _ _ _ _
   | exact LeO.none _
   | refine LeO.ite ?_ ?_
   | refine LeO.bind ?_ (fun _ => ?_)
set_option maxHeartbeats 8000000 in
set_option maxRecDepth 100000 in
theorem paronymref25_Escaped.calls (k : Nat) (a0 : ByteArray) (r : ByteArray) (w : World) (h : paronymref25_Escaped.f k a0 = some r) :
  Calls Tryd.prog 18 #[.string a0] w fun e w' => e = .returned (.string r) ∧ Below w.heap.size w w' := by
 have HB := Aside0.mk (Below.refl w.heap.size w)
 have H : (paronymref25_Escaped.l0 k a0 ([] : List Int) 0) = some r := h
 clear h
 have H' := Aside0.mk H
 clear H
 go_enter Tryd.func18, Tryd.ntmps18
 go_wp2
 go_loopg [3, 4] k (fun kq v3 v4 w' => ∃ (x3_1 : List Int) (x4_1 : Int), v4 = .int .i64 x4_1 ∧ Aside0 (paronymref25_Escaped.l0 kq a0 x3_1 x4_1 = some r) ∧ Aside0 (kq ≤ k) ∧ Aside0 (Kd.R (Kd.int .u8) 5 w' w.heap.size (fun _ => True) v3 x3_1) ∧ Aside0 (Below w.heap.size w w'))
 case atStart => exact ⟨(([] : List Int)), (0), (by first | rfl | (simp; done) | (simp [*]; done)), H', ⟨Nat.le_refl _⟩, ⟨by first | exact Kd.R_nil _ _ _ _ _ | exact Kd.N_nil _ _ _ _ _ | exact Kd.V_nil _ _ _ _ _ | exact Kd.Q_nil _ _ _ _ _ | exact Kd.S_nil _ _ _ _ _⟩, ⟨by repeat (first | (with_reducible first | exact HB.out | apply below_alloc | apply pw_below_drewN | apply below_drew1) | exact HB.out)⟩⟩
 case round =>
  clear H'
  try clear c1
  obtain ⟨x3_1, x4_1, rfl, HA, HK1, HO_3, HB⟩ := hrel
  cases gk with
  | zero => exact absurd HA.out (by simp [paronymref25_Escaped.l0])
  | succ k1 =>
   have H := HA.out
   clear HA
   simp only [paronymref25_Escaped.l0] at H
   by_cases c2 : x4_1 < (a0.size : Int)
   ·rw [if_pos c2] at H
    have c2b0 : decide (x4_1 < (a0.size : Int)) = true := decide_eq_true c2
    clear c2
    by_cases c3 : 0 ≤ x4_1
    ·rw [if_pos c3] at H
     have c3b0 : decide (0 ≤ x4_1) = true := decide_eq_true c3
     clear c3
     have HC5 := Aside0.mk H
     clear H
     have p4 : 0 ≤ (x4_1 : Int) := of_decide_eq_true (by first | (with_reducible assumption) | assumption)
     have q4 : x4_1 < (a0.size : Int) := of_decide_eq_true (by first | (with_reducible assumption) | assumption)
     have hx4 := bt_at a0 x4_1
     replace p4 := eq_true p4
     replace q4 := eq_true q4
     go_upto_region 6 with (fail)
     go_cut [36] (fun v36 wc => ∃ (kq : Nat) (x36_4 : Bool), v36 = .bool x36_4 ∧ Aside0 (paronymref25_Escaped.j1 kq a0 x3_1 x4_1 (bt a0 x4_1) x36_4 = some r) ∧ Aside0 (kq ≤ k1) ∧ Aside0 (Kd.R (Kd.int .u8) 5 wc w.heap.size (fun _ => True) u3 x3_1) ∧ Aside0 (Below w.heap.size w wc))
     case first =>
      have H := HC5.out
      clear HC5
      by_cases c6 : (bt a0 x4_1) = 34
      ·rw [if_pos c6] at H
       have c6b0 : ((bt a0 x4_1) == 34) = true := beq_iff_eq.mpr c6
       have c6b1 : ((bt a0 x4_1) != 34) = false := bne_eq_false_iff_eq.mpr c6
       clear c6
       (first | rw [c6b0] | (simp only [i64_w, i32_w]; rw [c6b0]) | rw [c6b1] | (simp only [i64_w, i32_w]; rw [c6b1]) | skip)
       have H' := Aside0.mk H
       clear H
       go_wp2
       go_meet
       case rel => exact ⟨_, (true), (by first | rfl | (simp; done) | (simp [*]; done)), H', ⟨by have := HK1.out; first | omega | exact Nat.le_refl _⟩, ⟨by (with_reducible repeat (first | apply Kd.R_alloc | apply Kd.R_drewN | apply Kd.R_drew)); exact HO_3.out⟩, ⟨by repeat (first | (with_reducible first | exact HB.out | apply below_alloc | apply pw_below_drewN | apply below_drew1) | exact HB.out)⟩⟩
      ·rw [if_neg c6] at H
       have c6b0 : ((bt a0 x4_1) == 34) = false := beq_eq_false_iff_ne.mpr c6
       have c6b1 : ((bt a0 x4_1) != 34) = true := bne_iff_ne.mpr c6
       (first | rw [c6b0] | (simp only [i64_w, i32_w]; rw [c6b0]) | rw [c6b1] | (simp only [i64_w, i32_w]; rw [c6b1]) | skip)
       by_cases c7 : (bt a0 x4_1) = 59
       ·rw [if_pos c7] at H
        have c7b0 : ((bt a0 x4_1) == 59) = true := beq_iff_eq.mpr c7
        have c7b1 : ((bt a0 x4_1) != 59) = false := bne_eq_false_iff_eq.mpr c7
        clear c7
        have H' := Aside0.mk H
        clear H
        go_wp2
        go_meet
        case rel => exact ⟨_, (true), (by first | rfl | (simp; done) | (simp [*]; done)), H', ⟨by have := HK1.out; first | omega | exact Nat.le_refl _⟩, ⟨by (with_reducible repeat (first | apply Kd.R_alloc | apply Kd.R_drewN | apply Kd.R_drew)); exact HO_3.out⟩, ⟨by repeat (first | (with_reducible first | exact HB.out | apply below_alloc | apply pw_below_drewN | apply below_drew1) | exact HB.out)⟩⟩
       ·rw [if_neg c7] at H
        have c7b0 : ((bt a0 x4_1) == 59) = false := beq_eq_false_iff_ne.mpr c7
        have c7b1 : ((bt a0 x4_1) != 59) = true := bne_iff_ne.mpr c7
        by_cases c8 : (bt a0 x4_1) = 40
        ·rw [if_pos c8] at H
         have c8b0 : ((bt a0 x4_1) == 40) = true := beq_iff_eq.mpr c8
         have c8b1 : ((bt a0 x4_1) != 40) = false := bne_eq_false_iff_eq.mpr c8
         clear c8
         have H' := Aside0.mk H
         clear H
         go_wp2
         go_meet
         case rel => exact ⟨_, (true), (by first | rfl | (simp; done) | (simp [*]; done)), H', ⟨by have := HK1.out; first | omega | exact Nat.le_refl _⟩, ⟨by (with_reducible repeat (first | apply Kd.R_alloc | apply Kd.R_drewN | apply Kd.R_drew)); exact HO_3.out⟩, ⟨by repeat (first | (with_reducible first | exact HB.out | apply below_alloc | apply pw_below_drewN | apply below_drew1) | exact HB.out)⟩⟩
        ·rw [if_neg c8] at H
         have c8b0 : ((bt a0 x4_1) == 40) = false := beq_eq_false_iff_ne.mpr c8
         have c8b1 : ((bt a0 x4_1) != 40) = true := bne_iff_ne.mpr c8
         by_cases c9 : (bt a0 x4_1) = 41
         ·rw [if_pos c9] at H
          have c9b0 : ((bt a0 x4_1) == 41) = true := beq_iff_eq.mpr c9
          have c9b1 : ((bt a0 x4_1) != 41) = false := bne_eq_false_iff_eq.mpr c9
          clear c9
          have H' := Aside0.mk H
          clear H
          go_wp2
          go_meet
          case rel => exact ⟨_, (true), (by first | rfl | (simp; done) | (simp [*]; done)), H', ⟨by have := HK1.out; first | omega | exact Nat.le_refl _⟩, ⟨by (with_reducible repeat (first | apply Kd.R_alloc | apply Kd.R_drewN | apply Kd.R_drew)); exact HO_3.out⟩, ⟨by repeat (first | (with_reducible first | exact HB.out | apply below_alloc | apply pw_below_drewN | apply below_drew1) | exact HB.out)⟩⟩
         ·rw [if_neg c9] at H
          have c9b0 : ((bt a0 x4_1) == 41) = false := beq_eq_false_iff_ne.mpr c9
          have c9b1 : ((bt a0 x4_1) != 41) = true := bne_iff_ne.mpr c9
          by_cases c10 : (bt a0 x4_1) = 92
          ·rw [if_pos c10] at H
           have c10b0 : ((bt a0 x4_1) == 92) = true := beq_iff_eq.mpr c10
           have c10b1 : ((bt a0 x4_1) != 92) = false := bne_eq_false_iff_eq.mpr c10
           clear c10
           have H' := Aside0.mk H
           clear H
           go_wp2
           go_meet
           case rel => exact ⟨_, (true), (by first | rfl | (simp; done) | (simp [*]; done)), H', ⟨by have := HK1.out; first | omega | exact Nat.le_refl _⟩, ⟨by (with_reducible repeat (first | apply Kd.R_alloc | apply Kd.R_drewN | apply Kd.R_drew)); exact HO_3.out⟩, ⟨by repeat (first | (with_reducible first | exact HB.out | apply below_alloc | apply pw_below_drewN | apply below_drew1) | exact HB.out)⟩⟩
          ·rw [if_neg c10] at H
           have c10b0 : ((bt a0 x4_1) == 92) = false := beq_eq_false_iff_ne.mpr c10
           have c10b1 : ((bt a0 x4_1) != 92) = true := bne_iff_ne.mpr c10
           have H' := Aside0.mk H
           clear H
           go_wp2
           go_meet
           case rel => exact ⟨_, (((bt a0 x4_1) == 46)), (by first | rfl | (simp; done) | (simp [*]; done)), H', ⟨by have := HK1.out; first | omega | exact Nat.le_refl _⟩, ⟨by (with_reducible repeat (first | apply Kd.R_alloc | apply Kd.R_drewN | apply Kd.R_drew)); exact HO_3.out⟩, ⟨by repeat (first | (with_reducible first | exact HB.out | apply below_alloc | apply pw_below_drewN | apply below_drew1) | exact HB.out)⟩⟩
     case rest =>
      clear HC5
      try clear c1
      try clear c2
      try clear c2b0
      try clear p2
      try clear c3
      try clear c3b0
      try clear p4
      try clear q4
      try clear hx4
      try clear c6
      try clear c6b0
      try clear c6b1
      try clear c7
      try clear c7b0
      try clear c7b1
      try clear c8
      try clear c8b0
      try clear c8b1
      try clear c9
      try clear c9b0
      try clear c9b1
      try clear c10
      try clear c10b0
      try clear c10b1
      try clear p4
      try clear q4
      obtain ⟨kq, x36_4, rfl, HA, HJ4, HO_3, HB⟩ := hcut
      cases kq with
      | zero => exact absurd HA.out (by simp [paronymref25_Escaped.j1])
      | succ kj4 =>
       have H := HA.out
       clear HA
       simp only [paronymref25_Escaped.j1] at H
       by_cases c11 : x36_4 = true
       ·subst c11
        have H1 : ((some (([92, (bt a0 x4_1)] : List Int) : List Int)).bind fun y101 => (if x3_1.length + y101.length < 140737488355328 then (paronymref25_Escaped.l0 kj4 a0 (x3_1 ++ y101) (wrap64 (x4_1 + 1))) else (none))) = some r := by rw [if_pos rfl] at H; exact H
        clear H
        have H := H1
        clear H1
        obtain ⟨y101, hy101⟩ : ∃ y_ : List Int, y_ = (([92, (bt a0 x4_1)] : List Int)) := ⟨_, rfl⟩
        replace H : (if x3_1.length + y101.length < 140737488355328 then (paronymref25_Escaped.l0 kj4 a0 (x3_1 ++ y101) (wrap64 (x4_1 + 1))) else (none)) = some r := by first | (rw [hy101]; with_reducible exact H) | (have H2_ := (Option.bind_some _ _).symm.trans H; rw [hy101]; with_reducible exact H2_) | (have H2_ := (Option.bind_some _ _).symm.trans H; with_reducible exact H2_) | with_reducible exact H | (rw [hy101]; exact H) | exact H
        have Ny101 := Aside0.mk hy101
        clear hy101
        by_cases c12 : x3_1.length + y101.length < 140737488355328
        ·rw [if_pos c12] at H
         have LMc12 := Aside0.mk c12
         clear c12
         obtain ⟨y104, hy104⟩ : ∃ y_ : List Int, y_ = (x3_1 ++ y101) := ⟨_, rfl⟩
         replace H : (paronymref25_Escaped.l0 kj4 a0 y104 (wrap64 (x4_1 + 1))) = some r := by first | (rw [hy104]; with_reducible exact H) | (have H2_ := (Option.bind_some _ _).symm.trans H; rw [hy104]; with_reducible exact H2_) | (have H2_ := (Option.bind_some _ _).symm.trans H; with_reducible exact H2_) | with_reducible exact H | (rw [hy104]; exact H) | exact H
         have Ny104 := Aside0.mk hy104
         clear hy104
         have H' := Aside0.mk H
         clear H
         go_wp2_with (first | ((with_reducible refine gate_dst (N := 39) rfl ?_); refine Kd.R_lit (Kd.int .u8) _ 5 ?hg (N := 39) ?hd (xs := ([92, (bt a0 x4_1)] : List Int)) (inner := [.int .u8 92, .int .u8 (bt a0 x4_1)]) (ok := fun _ => True) (okp := fun _ => True) ?hr ?hp (fun _ hk => hk) trivial (Below.refl _ _) (Nat.le_refl _) (by simp) ?_; (case hd => rfl); (case hg => rfl); (case hr => first | (go_simp; done) | (go_simp; rfl)); (case hp => exact (Reps.one (show Kd.M (Kd.int .u8) _ _ _ 92 [.int .u8 92] from rfl) (Reps.one (show Kd.M (Kd.int .u8) _ _ _ (bt a0 x4_1) [.int .u8 (bt a0 x4_1)] from rfl) (Reps.none _ _)))); intro v102 w13 ho14 hb hg_ hnew_; clear hg_ hnew_; (first | rw [← Ny101.out] at ho14 | (simp only [Int.reduceToNat] at ho14; rw [← Ny101.out] at ho14)); have n0_ := Aside0.mk (Kd.R_elder' (by (with_reducible repeat (first | apply Kd.R_alloc | apply Kd.R_drewN | apply Kd.R_drew)); exact HO_3.out) (Kd.R_base ho14) hb); have n1_ := Aside0.mk (Kd.R_lower (Kd.R_new' ho14 (Kd.R_lt (by (with_reducible repeat (first | apply Kd.R_alloc | apply Kd.R_drewN | apply Kd.R_drew)); exact HO_3.out))) (below_size (by repeat (first | (with_reducible first | exact HB.out | apply below_alloc | apply pw_below_drewN | apply below_drew1) | exact HB.out)))); have n2_ := Aside0.mk (below_step (by repeat (first | (with_reducible first | exact HB.out | apply below_alloc | apply pw_below_drewN | apply below_drew1) | exact HB.out)) hb); clear HO_3; clear HB; have HO_3 := n0_; have HO103 := n1_; have HB := n2_; clear n0_ n1_ n2_; clear hb ho14; obtain ⟨Ao16, co16, eo16⟩ := Kd.R_slice HO103.out; subst eo16) | ((with_reducible refine gate_builtin (b := .append) (xs := #[.tmp 37, .tmp 39]) rfl ?_); at_builtin; refine Kd.R_append_rows (Kd.int .u8) (w0 := w) w.heap.size rfl (.tmp 37) (.tmp 39) 22 5 (.int .u8 0) 1 rfl Tryd.underlying22 info5 rfl (by decide) (by omega) u3 x3_1 y101 _ _ _ (fun k_ => some k_ ≠ (.slice Ao16 y101.length co16 : Value).ownBlock) (fun _ => False) rfl rfl ?aO ?aR (fun _ _ h => h) (fun _ h => h.elim) ?aF ?aB ?aS ?aL ?_; (case aR => repeat (first | exact (Kd.R_reads' HO103.out).2.2 | (with_reducible refine Kd.C_alloc ?_ _) | (with_reducible refine Kd.C_drewN ?_ _) | (with_reducible refine Kd.C_drew ?_))); (case aB => exact (by repeat (first | (with_reducible first | exact HB.out | apply below_alloc | apply pw_below_drewN | apply below_drew1) | exact HB.out))); (case aF => exact (fun k_ hk => Kd.fresh' (Kd.R_lt (by (with_reducible repeat (first | apply Kd.R_alloc | apply Kd.R_drewN | apply Kd.R_drew)); exact HO103.out)) k_ hk)); (case aO => exact (by (with_reducible repeat (first | apply Kd.R_alloc | apply Kd.R_drewN | apply Kd.R_drew)); exact Kd.R_mono HO_3.out (fun _ hk => hk.2))); (case aS => exact (below_size (by repeat (first | (with_reducible first | exact HB.out | apply below_alloc | apply pw_below_drewN | apply below_drew1) | exact HB.out)))); (case aL => have := LMc12.out; omega); intro v105 w15 ho hb hg hat; rw [← Ny104.out] at ho; have n0_ := Aside0.mk (Kd.R_after (ok := (fun _ => True)) (by (with_reducible repeat (first | apply Kd.R_alloc | apply Kd.R_drewN | apply Kd.R_drew)); exact HO103.out) hg hat); have n1_ := Aside0.mk (hb); have n2_ := Aside0.mk (ho); clear HO103; clear HB; clear HO_3; have HO103 := n0_; have HB := n1_; have HO106 := n2_; clear n0_ n1_ n2_; clear ho hb hg hat))
         go_roundg kj4
         case measure => have := HK1.out; have := HJ4.out; omega
         case rel => exact ⟨(y104), (wrap64 (x4_1 + 1)), (by first | rfl | (simp; done) | (simp [*]; done)), H', ⟨by have := HK1.out; have := HJ4.out; omega⟩, ⟨by (with_reducible repeat (first | apply Kd.R_alloc | apply Kd.R_drewN | apply Kd.R_drew)); exact Kd.R_mono HO106.out (fun _ hk => trivial)⟩, ⟨by repeat (first | (with_reducible first | exact HB.out | apply below_alloc | apply pw_below_drewN | apply below_drew1) | exact HB.out)⟩⟩
        ·rw [if_neg c12] at H
         exact absurd H (by simp)
       ·replace c11 := Bool.eq_false_iff.mpr c11
        subst c11
        have H1 : (if (bt a0 x4_1) > 32 then (if (bt a0 x4_1) < 127 then (if x3_1.length < 140737488355328 then (paronymref25_Escaped.l0 kj4 a0 (x3_1 ++ [(bt a0 x4_1)]) (wrap64 (x4_1 + 1))) else (none)) else ((some (([92, (48 + ((Int.tdiv (bt a0 x4_1) 100) % 256)) % 256, 48 + (((Int.tdiv (bt a0 x4_1) 10) % 256) % 10), (48 + (Int.tmod (bt a0 x4_1) 10)) % 256] : List Int) : List Int)).bind fun y110 => (if x3_1.length + y110.length < 140737488355328 then (paronymref25_Escaped.l0 kj4 a0 (x3_1 ++ y110) (wrap64 (x4_1 + 1))) else (none)))) else ((some (([92, (48 + ((Int.tdiv (bt a0 x4_1) 100) % 256)) % 256, 48 + (((Int.tdiv (bt a0 x4_1) 10) % 256) % 10), (48 + (Int.tmod (bt a0 x4_1) 10)) % 256] : List Int) : List Int)).bind fun y116 => (if x3_1.length + y116.length < 140737488355328 then (paronymref25_Escaped.l0 kj4 a0 (x3_1 ++ y116) (wrap64 (x4_1 + 1))) else (none)))) = some r := by rw [if_neg (show ¬ (false = true) by decide)] at H; exact H
        clear H
        have H := H1
        clear H1
        by_cases c17 : (bt a0 x4_1) > 32
        ·rw [if_pos c17] at H
         have c17b0 : decide (32 < (bt a0 x4_1)) = true := decide_eq_true c17
         clear c17
         by_cases c18 : (bt a0 x4_1) < 127
         ·rw [if_pos c18] at H
          have c18b0 : decide ((bt a0 x4_1) < 127) = true := decide_eq_true c18
          clear c18
          by_cases c19 : x3_1.length < 140737488355328
          ·rw [if_pos c19] at H
           have LMc19 := Aside0.mk c19
           clear c19
           obtain ⟨y107, hy107⟩ : ∃ y_ : List Int, y_ = (x3_1 ++ [(bt a0 x4_1)]) := ⟨_, rfl⟩
           replace H : (paronymref25_Escaped.l0 kj4 a0 y107 (wrap64 (x4_1 + 1))) = some r := by first | (rw [hy107]; with_reducible exact H) | (have H2_ := (Option.bind_some _ _).symm.trans H; rw [hy107]; with_reducible exact H2_) | (have H2_ := (Option.bind_some _ _).symm.trans H; with_reducible exact H2_) | with_reducible exact H | (rw [hy107]; exact H) | exact H
           have Ny107 := Aside0.mk hy107
           clear hy107
           have H' := Aside0.mk H
           clear H
           go_wp2_with (first | ((with_reducible refine gate_builtin (b := .append) (xs := #[.tmp 47, .tmp 49]) rfl ?_); at_builtin; refine Kd.R_append (Kd.int .u8) (w0 := w) w.heap.size rfl (.tmp 47) (.tmp 49) 22 5 (.int .u8 0) 1 rfl Tryd.underlying22 info5 rfl (by decide) (by omega) u3 x3_1 (bt a0 x4_1) [.int .u8 (bt a0 x4_1)] (fun _ => True) (fun _ => False) rfl rfl ?aP (fun _ hk => hk.elim) ?aF ?aO ?aB ?aS ?aL ?_; (case aP => exact rfl); (case aB => exact (by repeat (first | (with_reducible first | exact HB.out | apply below_alloc | apply pw_below_drewN | apply below_drew1) | exact HB.out))); (case aF => exact (fun _ _ => trivial)); (case aO => exact (by (with_reducible repeat (first | apply Kd.R_alloc | apply Kd.R_drewN | apply Kd.R_drew)); exact HO_3.out)); (case aS => exact (below_size (by repeat (first | (with_reducible first | exact HB.out | apply below_alloc | apply pw_below_drewN | apply below_drew1) | exact HB.out)))); (case aL => have := LMc19.out; omega); intro v108 w20 ho hb hg hat; rw [← Ny107.out] at ho; have n0_ := Aside0.mk (hb); have n1_ := Aside0.mk (ho); clear HB; clear HO_3; have HB := n0_; have HO109 := n1_; clear n0_ n1_; clear ho hb hg hat))
           go_roundg kj4
           case measure => have := HK1.out; have := HJ4.out; omega
           case rel => exact ⟨(y107), (wrap64 (x4_1 + 1)), (by first | rfl | (simp; done) | (simp [*]; done)), H', ⟨by have := HK1.out; have := HJ4.out; omega⟩, ⟨by (with_reducible repeat (first | apply Kd.R_alloc | apply Kd.R_drewN | apply Kd.R_drew)); exact HO109.out⟩, ⟨by repeat (first | (with_reducible first | exact HB.out | apply below_alloc | apply pw_below_drewN | apply below_drew1) | exact HB.out)⟩⟩
          ·rw [if_neg c19] at H
           exact absurd H (by simp)
         ·rw [if_neg c18] at H
          have c18b0 : decide ((bt a0 x4_1) < 127) = false := decide_eq_false c18
          clear c18
          obtain ⟨y110, hy110⟩ : ∃ y_ : List Int, y_ = (([92, (48 + ((Int.tdiv (bt a0 x4_1) 100) % 256)) % 256, 48 + (((Int.tdiv (bt a0 x4_1) 10) % 256) % 10), (48 + (Int.tmod (bt a0 x4_1) 10)) % 256] : List Int)) := ⟨_, rfl⟩
          replace H : (if x3_1.length + y110.length < 140737488355328 then (paronymref25_Escaped.l0 kj4 a0 (x3_1 ++ y110) (wrap64 (x4_1 + 1))) else (none)) = some r := by first | (rw [hy110]; with_reducible exact H) | (have H2_ := (Option.bind_some _ _).symm.trans H; rw [hy110]; with_reducible exact H2_) | (have H2_ := (Option.bind_some _ _).symm.trans H; with_reducible exact H2_) | with_reducible exact H | (rw [hy110]; exact H) | exact H
          have Ny110 := Aside0.mk hy110
          clear hy110
          by_cases c21 : x3_1.length + y110.length < 140737488355328
          ·rw [if_pos c21] at H
           have LMc21 := Aside0.mk c21
           clear c21
           obtain ⟨y113, hy113⟩ : ∃ y_ : List Int, y_ = (x3_1 ++ y110) := ⟨_, rfl⟩
           replace H : (paronymref25_Escaped.l0 kj4 a0 y113 (wrap64 (x4_1 + 1))) = some r := by first | (rw [hy113]; with_reducible exact H) | (have H2_ := (Option.bind_some _ _).symm.trans H; rw [hy113]; with_reducible exact H2_) | (have H2_ := (Option.bind_some _ _).symm.trans H; with_reducible exact H2_) | with_reducible exact H | (rw [hy113]; exact H) | exact H
           have Ny113 := Aside0.mk hy113
           clear hy113
           have H' := Aside0.mk H
           clear H
           go_wp2_with (first | ((with_reducible refine gate_dst (N := 62) rfl ?_); refine Kd.R_lit (Kd.int .u8) _ 5 ?hg (N := 62) ?hd (xs := ([92, (48 + ((Int.tdiv (bt a0 x4_1) 100) % 256)) % 256, 48 + (((Int.tdiv (bt a0 x4_1) 10) % 256) % 10), (48 + (Int.tmod (bt a0 x4_1) 10)) % 256] : List Int)) (inner := [.int .u8 92, .int .u8 ((48 + ((Int.tdiv (bt a0 x4_1) 100) % 256)) % 256), .int .u8 (48 + (((Int.tdiv (bt a0 x4_1) 10) % 256) % 10)), .int .u8 ((48 + (Int.tmod (bt a0 x4_1) 10)) % 256)]) (ok := fun _ => True) (okp := fun _ => True) ?hr ?hp (fun _ hk => hk) trivial (Below.refl _ _) (Nat.le_refl _) (by simp) ?_; (case hd => rfl); (case hg => rfl); (case hr => first | (go_simp; done) | (go_simp; rfl)); (case hp => exact (Reps.one (show Kd.M (Kd.int .u8) _ _ _ 92 [.int .u8 92] from rfl) (Reps.one (show Kd.M (Kd.int .u8) _ _ _ ((48 + ((Int.tdiv (bt a0 x4_1) 100) % 256)) % 256) [.int .u8 ((48 + ((Int.tdiv (bt a0 x4_1) 100) % 256)) % 256)] from rfl) (Reps.one (show Kd.M (Kd.int .u8) _ _ _ (48 + (((Int.tdiv (bt a0 x4_1) 10) % 256) % 10)) [.int .u8 (48 + (((Int.tdiv (bt a0 x4_1) 10) % 256) % 10))] from rfl) (Reps.one (show Kd.M (Kd.int .u8) _ _ _ ((48 + (Int.tmod (bt a0 x4_1) 10)) % 256) [.int .u8 ((48 + (Int.tmod (bt a0 x4_1) 10)) % 256)] from rfl) (Reps.none _ _)))))); intro v111 w22 ho23 hb hg_ hnew_; clear hg_ hnew_; (first | rw [← Ny110.out] at ho23 | (simp only [Int.reduceToNat] at ho23; rw [← Ny110.out] at ho23)); have n0_ := Aside0.mk (Kd.R_elder' (by (with_reducible repeat (first | apply Kd.R_alloc | apply Kd.R_drewN | apply Kd.R_drew)); exact HO_3.out) (Kd.R_base ho23) hb); have n1_ := Aside0.mk (Kd.R_lower (Kd.R_new' ho23 (Kd.R_lt (by (with_reducible repeat (first | apply Kd.R_alloc | apply Kd.R_drewN | apply Kd.R_drew)); exact HO_3.out))) (below_size (by repeat (first | (with_reducible first | exact HB.out | apply below_alloc | apply pw_below_drewN | apply below_drew1) | exact HB.out)))); have n2_ := Aside0.mk (below_step (by repeat (first | (with_reducible first | exact HB.out | apply below_alloc | apply pw_below_drewN | apply below_drew1) | exact HB.out)) hb); clear HO_3; clear HB; have HO_3 := n0_; have HO112 := n1_; have HB := n2_; clear n0_ n1_ n2_; clear hb ho23; obtain ⟨Ao25, co25, eo25⟩ := Kd.R_slice HO112.out; subst eo25) | ((with_reducible refine gate_builtin (b := .append) (xs := #[.tmp 51, .tmp 62]) rfl ?_); at_builtin; refine Kd.R_append_rows (Kd.int .u8) (w0 := w) w.heap.size rfl (.tmp 51) (.tmp 62) 22 5 (.int .u8 0) 1 rfl Tryd.underlying22 info5 rfl (by decide) (by omega) u3 x3_1 y110 _ _ _ (fun k_ => some k_ ≠ (.slice Ao25 y110.length co25 : Value).ownBlock) (fun _ => False) rfl rfl ?aO ?aR (fun _ _ h => h) (fun _ h => h.elim) ?aF ?aB ?aS ?aL ?_; (case aR => repeat (first | exact (Kd.R_reads' HO112.out).2.2 | (with_reducible refine Kd.C_alloc ?_ _) | (with_reducible refine Kd.C_drewN ?_ _) | (with_reducible refine Kd.C_drew ?_))); (case aB => exact (by repeat (first | (with_reducible first | exact HB.out | apply below_alloc | apply pw_below_drewN | apply below_drew1) | exact HB.out))); (case aF => exact (fun k_ hk => Kd.fresh' (Kd.R_lt (by (with_reducible repeat (first | apply Kd.R_alloc | apply Kd.R_drewN | apply Kd.R_drew)); exact HO112.out)) k_ hk)); (case aO => exact (by (with_reducible repeat (first | apply Kd.R_alloc | apply Kd.R_drewN | apply Kd.R_drew)); exact Kd.R_mono HO_3.out (fun _ hk => hk.2))); (case aS => exact (below_size (by repeat (first | (with_reducible first | exact HB.out | apply below_alloc | apply pw_below_drewN | apply below_drew1) | exact HB.out)))); (case aL => have := LMc21.out; omega); intro v114 w24 ho hb hg hat; rw [← Ny113.out] at ho; have n0_ := Aside0.mk (Kd.R_after (ok := (fun _ => True)) (by (with_reducible repeat (first | apply Kd.R_alloc | apply Kd.R_drewN | apply Kd.R_drew)); exact HO112.out) hg hat); have n1_ := Aside0.mk (hb); have n2_ := Aside0.mk (ho); clear HO112; clear HB; clear HO_3; have HO112 := n0_; have HB := n1_; have HO115 := n2_; clear n0_ n1_ n2_; clear ho hb hg hat))
           go_roundg kj4
           case measure => have := HK1.out; have := HJ4.out; omega
           case rel => exact ⟨(y113), (wrap64 (x4_1 + 1)), (by first | rfl | (simp; done) | (simp [*]; done)), H', ⟨by have := HK1.out; have := HJ4.out; omega⟩, ⟨by (with_reducible repeat (first | apply Kd.R_alloc | apply Kd.R_drewN | apply Kd.R_drew)); exact Kd.R_mono HO115.out (fun _ hk => trivial)⟩, ⟨by repeat (first | (with_reducible first | exact HB.out | apply below_alloc | apply pw_below_drewN | apply below_drew1) | exact HB.out)⟩⟩
          ·rw [if_neg c21] at H
           exact absurd H (by simp)
        ·rw [if_neg c17] at H
         have c17b0 : decide (32 < (bt a0 x4_1)) = false := decide_eq_false c17
         clear c17
         obtain ⟨y116, hy116⟩ : ∃ y_ : List Int, y_ = (([92, (48 + ((Int.tdiv (bt a0 x4_1) 100) % 256)) % 256, 48 + (((Int.tdiv (bt a0 x4_1) 10) % 256) % 10), (48 + (Int.tmod (bt a0 x4_1) 10)) % 256] : List Int)) := ⟨_, rfl⟩
         replace H : (if x3_1.length + y116.length < 140737488355328 then (paronymref25_Escaped.l0 kj4 a0 (x3_1 ++ y116) (wrap64 (x4_1 + 1))) else (none)) = some r := by first | (rw [hy116]; with_reducible exact H) | (have H2_ := (Option.bind_some _ _).symm.trans H; rw [hy116]; with_reducible exact H2_) | (have H2_ := (Option.bind_some _ _).symm.trans H; with_reducible exact H2_) | with_reducible exact H | (rw [hy116]; exact H) | exact H
         have Ny116 := Aside0.mk hy116
         clear hy116
         by_cases c26 : x3_1.length + y116.length < 140737488355328
         ·rw [if_pos c26] at H
          have LMc26 := Aside0.mk c26
          clear c26
          obtain ⟨y119, hy119⟩ : ∃ y_ : List Int, y_ = (x3_1 ++ y116) := ⟨_, rfl⟩
          replace H : (paronymref25_Escaped.l0 kj4 a0 y119 (wrap64 (x4_1 + 1))) = some r := by first | (rw [hy119]; with_reducible exact H) | (have H2_ := (Option.bind_some _ _).symm.trans H; rw [hy119]; with_reducible exact H2_) | (have H2_ := (Option.bind_some _ _).symm.trans H; with_reducible exact H2_) | with_reducible exact H | (rw [hy119]; exact H) | exact H
          have Ny119 := Aside0.mk hy119
          clear hy119
          have H' := Aside0.mk H
          clear H
          go_wp2_with (first | ((with_reducible refine gate_dst (N := 62) rfl ?_); refine Kd.R_lit (Kd.int .u8) _ 5 ?hg (N := 62) ?hd (xs := ([92, (48 + ((Int.tdiv (bt a0 x4_1) 100) % 256)) % 256, 48 + (((Int.tdiv (bt a0 x4_1) 10) % 256) % 10), (48 + (Int.tmod (bt a0 x4_1) 10)) % 256] : List Int)) (inner := [.int .u8 92, .int .u8 ((48 + ((Int.tdiv (bt a0 x4_1) 100) % 256)) % 256), .int .u8 (48 + (((Int.tdiv (bt a0 x4_1) 10) % 256) % 10)), .int .u8 ((48 + (Int.tmod (bt a0 x4_1) 10)) % 256)]) (ok := fun _ => True) (okp := fun _ => True) ?hr ?hp (fun _ hk => hk) trivial (Below.refl _ _) (Nat.le_refl _) (by simp) ?_; (case hd => rfl); (case hg => rfl); (case hr => first | (go_simp; done) | (go_simp; rfl)); (case hp => exact (Reps.one (show Kd.M (Kd.int .u8) _ _ _ 92 [.int .u8 92] from rfl) (Reps.one (show Kd.M (Kd.int .u8) _ _ _ ((48 + ((Int.tdiv (bt a0 x4_1) 100) % 256)) % 256) [.int .u8 ((48 + ((Int.tdiv (bt a0 x4_1) 100) % 256)) % 256)] from rfl) (Reps.one (show Kd.M (Kd.int .u8) _ _ _ (48 + (((Int.tdiv (bt a0 x4_1) 10) % 256) % 10)) [.int .u8 (48 + (((Int.tdiv (bt a0 x4_1) 10) % 256) % 10))] from rfl) (Reps.one (show Kd.M (Kd.int .u8) _ _ _ ((48 + (Int.tmod (bt a0 x4_1) 10)) % 256) [.int .u8 ((48 + (Int.tmod (bt a0 x4_1) 10)) % 256)] from rfl) (Reps.none _ _)))))); intro v117 w27 ho28 hb hg_ hnew_; clear hg_ hnew_; (first | rw [← Ny116.out] at ho28 | (simp only [Int.reduceToNat] at ho28; rw [← Ny116.out] at ho28)); have n0_ := Aside0.mk (Kd.R_elder' (by (with_reducible repeat (first | apply Kd.R_alloc | apply Kd.R_drewN | apply Kd.R_drew)); exact HO_3.out) (Kd.R_base ho28) hb); have n1_ := Aside0.mk (Kd.R_lower (Kd.R_new' ho28 (Kd.R_lt (by (with_reducible repeat (first | apply Kd.R_alloc | apply Kd.R_drewN | apply Kd.R_drew)); exact HO_3.out))) (below_size (by repeat (first | (with_reducible first | exact HB.out | apply below_alloc | apply pw_below_drewN | apply below_drew1) | exact HB.out)))); have n2_ := Aside0.mk (below_step (by repeat (first | (with_reducible first | exact HB.out | apply below_alloc | apply pw_below_drewN | apply below_drew1) | exact HB.out)) hb); clear HO_3; clear HB; have HO_3 := n0_; have HO118 := n1_; have HB := n2_; clear n0_ n1_ n2_; clear hb ho28; obtain ⟨Ao30, co30, eo30⟩ := Kd.R_slice HO118.out; subst eo30) | ((with_reducible refine gate_builtin (b := .append) (xs := #[.tmp 51, .tmp 62]) rfl ?_); at_builtin; refine Kd.R_append_rows (Kd.int .u8) (w0 := w) w.heap.size rfl (.tmp 51) (.tmp 62) 22 5 (.int .u8 0) 1 rfl Tryd.underlying22 info5 rfl (by decide) (by omega) u3 x3_1 y116 _ _ _ (fun k_ => some k_ ≠ (.slice Ao30 y116.length co30 : Value).ownBlock) (fun _ => False) rfl rfl ?aO ?aR (fun _ _ h => h) (fun _ h => h.elim) ?aF ?aB ?aS ?aL ?_; (case aR => repeat (first | exact (Kd.R_reads' HO118.out).2.2 | (with_reducible refine Kd.C_alloc ?_ _) | (with_reducible refine Kd.C_drewN ?_ _) | (with_reducible refine Kd.C_drew ?_))); (case aB => exact (by repeat (first | (with_reducible first | exact HB.out | apply below_alloc | apply pw_below_drewN | apply below_drew1) | exact HB.out))); (case aF => exact (fun k_ hk => Kd.fresh' (Kd.R_lt (by (with_reducible repeat (first | apply Kd.R_alloc | apply Kd.R_drewN | apply Kd.R_drew)); exact HO118.out)) k_ hk)); (case aO => exact (by (with_reducible repeat (first | apply Kd.R_alloc | apply Kd.R_drewN | apply Kd.R_drew)); exact Kd.R_mono HO_3.out (fun _ hk => hk.2))); (case aS => exact (below_size (by repeat (first | (with_reducible first | exact HB.out | apply below_alloc | apply pw_below_drewN | apply below_drew1) | exact HB.out)))); (case aL => have := LMc26.out; omega); intro v120 w29 ho hb hg hat; rw [← Ny119.out] at ho; have n0_ := Aside0.mk (Kd.R_after (ok := (fun _ => True)) (by (with_reducible repeat (first | apply Kd.R_alloc | apply Kd.R_drewN | apply Kd.R_drew)); exact HO118.out) hg hat); have n1_ := Aside0.mk (hb); have n2_ := Aside0.mk (ho); clear HO118; clear HB; clear HO_3; have HO118 := n0_; have HB := n1_; have HO121 := n2_; clear n0_ n1_ n2_; clear ho hb hg hat))
          go_roundg kj4
          case measure => have := HK1.out; have := HJ4.out; omega
          case rel => exact ⟨(y119), (wrap64 (x4_1 + 1)), (by first | rfl | (simp; done) | (simp [*]; done)), H', ⟨by have := HK1.out; have := HJ4.out; omega⟩, ⟨by (with_reducible repeat (first | apply Kd.R_alloc | apply Kd.R_drewN | apply Kd.R_drew)); exact Kd.R_mono HO121.out (fun _ hk => trivial)⟩, ⟨by repeat (first | (with_reducible first | exact HB.out | apply below_alloc | apply pw_below_drewN | apply below_drew1) | exact HB.out)⟩⟩
         ·rw [if_neg c26] at H
          exact absurd H (by simp)
    ·rw [if_neg c3] at H
     exact absurd H (by simp)
   ·rw [if_neg c2] at H
    have c2b0 : decide (x4_1 < (a0.size : Int)) = false := decide_eq_false c2
    clear c2
    obtain rfl := Option.some.inj H
    have hcv31 := own_string (P := Tryd.prog) Tryd.underlying22 Tryd.underlying5 Tryd.underlying9 (Kd.own_of_R HO_3.out)
    have hcv32 := fun (nd_ : Nat) => own_string (P := Tryd.prog) Tryd.underlying22 Tryd.underlying5 Tryd.underlying9 (Kd.own_of_R (Kd.R_drewN HO_3.out nd_))
    go_wp2
    go_ret
    exact ⟨by first | rfl | (simp [errW_none, errW_some] <;> rfl) | (simp [*, errW_none, errW_some] <;> rfl), by repeat (first | (with_reducible first | exact HB.out | apply below_alloc | apply pw_below_drewN | apply below_drew1) | exact HB.out)⟩

end Go.Proofs.YtdnfmilnkoocdaaDoor.Q

-- from Qf53
-- Made by hp.py, a program of this session, with the kit's printer. Not trusted: Lean checks it.
namespace Go.Proofs.YtdnfmilnkoocdaaDoor.Q
open Go.RowKit Go.Proofs.YtdnfmilnkoocdaaDoorW.PrintWords Go.Proofs.YtdnfmilnkoocdaaDoorW.PrintLast Go.Proofs.YtdnfmilnkoocdaaDoorW.PrintMore
attribute [local go_sem] max2_int min2_int max_two min_two max_three min_three max_four min_four   -- for this text's walks alone
set_option linter.unusedVariables false
set_option linter.unusedSimpArgs false

/-! ### paronymref26_Right: function 53 -/
def paronymref26_Right.l0 : Nat → List ByteArray → Int → Int → Option (Bool)
 | 0, _, _, _ => none
 | k + 1, x0, x3, x4 => if x4 < (x0.length : Int) then (if 0 ≤ x4 then (if ((rdOf ByteArray.empty x0 x4).size : Int) < 1 then (some false) else (if ((rdOf ByteArray.empty x0 x4).size : Int) > 63 then (some false) else (paronymref26_Right.l0 k x0 (wrap64 ((wrap64 (x3 + 1)) + ((rdOf ByteArray.empty x0 x4).size : Int))) (wrap64 (x4 + 1))))) else (none)) else (some (decide (x3 ≤ 255)))
def paronymref26_Right.f (k : Nat) (l0 : List ByteArray) : Option (Bool) := paronymref26_Right.l0 k l0 1 0
theorem paronymref26_Right.mono_l : ∀ k, (∀ y0 y1 y2, LeO (paronymref26_Right.l0 k y0 y1 y2) (paronymref26_Right.l0 (k + 1) y0 y1 y2))
 | 0 => fun _ _ _ r h => by simp [paronymref26_Right.l0] at h
 | k + 1 => by
  have ih0 := paronymref26_Right.mono_l k
  ·intro y0 y1 y2
   unfold paronymref26_Right.l0
   repeat' first
   | (with_reducible exact ih0 _ _ _)
   | (with_reducible exact LeO.refl _)
   | (with_reducible exact LeO.none _)
   | (with_reducible refine LeO.ite ?_ ?_)
   | (with_reducible refine LeO.bind ?_ (fun _ => ?_))
   | exact ih0 _ _ _
   | exact LeO.none _
   | refine LeO.ite ?_ ?_
   | refine LeO.bind ?_ (fun _ => ?_)
theorem paronymref26_Right.mono : ∀ a0 k, LeO (paronymref26_Right.f k a0) (paronymref26_Right.f (k + 1) a0) := by
 intro a0 k
 have ih0 := paronymref26_Right.mono_l k
 unfold paronymref26_Right.f
 repeat' first
   | (with_reducible exact ih0 _ _ _)
   | (with_reducible exact LeO.refl _)
   | (with_reducible exact LeO.none _)
   | (with_reducible refine LeO.ite ?_ ?_)
   | (with_reducible refine LeO.bind ?_ (fun _ => ?_))
   | exact ih0 _ _ _
   | exact LeO.none _
   | refine LeO.ite ?_ ?_
   | refine LeO.bind ?_ (fun _ => ?_)
set_option maxHeartbeats 8000000 in
set_option maxRecDepth 100000 in
theorem paronymref26_Right.calls (k : Nat) (A0 : Option Addr) (c0 : Nat) (l0 : List ByteArray) (r : Bool) (w : World) (hr0 : Kd.C Kd.string w A0 l0.length l0) (hc0 : l0.length ≤ c0) (h : paronymref26_Right.f k l0 = some r) :
  Calls Tryd.prog 53 #[.slice A0 l0.length c0] w fun e w' => e = .returned (.bool r) ∧ Drawn0 w w' := by
 have HR0 := Aside0.mk hr0
 have HC0 := Aside0.mk hc0
 clear hr0 hc0
 have H : (paronymref26_Right.l0 k l0 1 0) = some r := h
 clear h
 have H' := Aside0.mk H
 clear H
 go_enter Tryd.func53, Tryd.ntmps53
 go_wp2
 go_loopg [3, 4] k (fun kq v3 v4 w' => ∃ (x3_1 : Int) (x4_1 : Int), v3 = .int .i64 x3_1 ∧ v4 = .int .i64 x4_1 ∧ Aside0 (paronymref26_Right.l0 kq l0 x3_1 x4_1 = some r) ∧ Aside0 (kq ≤ k) ∧ Drawn0 w w')
 case atStart => exact ⟨(1), (0), (by first | rfl | (simp; done) | (simp [*]; done)), (by first | rfl | (simp; done) | (simp [*]; done)), H', ⟨Nat.le_refl _⟩, by repeat (first | exact Drawn0.refl _ | apply Drawn0.step)⟩
 case round =>
  clear H'
  obtain ⟨x3_1, x4_1, rfl, rfl, HA, HK1, ⟨m1, rfl⟩⟩ := hrel
  cases gk with
  | zero => exact absurd HA.out (by simp [paronymref26_Right.l0])
  | succ k1 =>
   have H := HA.out
   clear HA
   simp only [paronymref26_Right.l0] at H
   by_cases c2 : x4_1 < (l0.length : Int)
   ·rw [if_pos c2] at H
    have c2b0 : decide (x4_1 < (l0.length : Int)) = true := decide_eq_true c2
    clear c2
    by_cases c3 : 0 ≤ x4_1
    ·rw [if_pos c3] at H
     have c3b0 : decide (0 ≤ x4_1) = true := decide_eq_true c3
     clear c3
     by_cases c4 : ((rdOf ByteArray.empty l0 x4_1).size : Int) < 1
     ·rw [if_pos c4] at H
      have c4b0 : decide (((rdOf ByteArray.empty l0 x4_1).size : Int) < 1) = true := decide_eq_true c4
      have c4b1 : decide ((rdOf ByteArray.empty l0 x4_1).size < 1) = true := decide_eq_true (by omega)
      clear c4
      obtain rfl := Option.some.inj H
      have p101 : 0 ≤ (x4_1 : Int) := of_decide_eq_true (by first | (with_reducible assumption) | assumption)
      have q101 : x4_1 < (l0.length : Int) := of_decide_eq_true (by first | (with_reducible assumption) | assumption)
      obtain ⟨ad101, e101, hx101_0⟩ := Kd.at_string HR0.out x4_1 p101 q101
      cases e101
      replace p101 := eq_true p101
      replace q101 := eq_true q101
      go_wp2
      go_ret
      exact ⟨by first | rfl | (simp; done) | (simp [*]; done), by repeat (first | exact Drawn0.refl _ | apply Drawn0.step)⟩
     ·rw [if_neg c4] at H
      have c4b0 : decide (((rdOf ByteArray.empty l0 x4_1).size : Int) < 1) = false := decide_eq_false c4
      have c4b1 : decide ((rdOf ByteArray.empty l0 x4_1).size < 1) = false := decide_eq_false (by omega)
      clear c4
      by_cases c5 : ((rdOf ByteArray.empty l0 x4_1).size : Int) > 63
      ·rw [if_pos c5] at H
       have c5b0 : decide (63 < ((rdOf ByteArray.empty l0 x4_1).size : Int)) = true := decide_eq_true c5
       have c5b1 : decide (63 < (rdOf ByteArray.empty l0 x4_1).size) = true := decide_eq_true (by omega)
       clear c5
       obtain rfl := Option.some.inj H
       have p101 : 0 ≤ (x4_1 : Int) := of_decide_eq_true (by first | (with_reducible assumption) | assumption)
       have q101 : x4_1 < (l0.length : Int) := of_decide_eq_true (by first | (with_reducible assumption) | assumption)
       obtain ⟨ad101, e101, hx101_0⟩ := Kd.at_string HR0.out x4_1 p101 q101
       cases e101
       replace p101 := eq_true p101
       replace q101 := eq_true q101
       have p102 : 0 ≤ (x4_1 : Int) := of_decide_eq_true (by first | (with_reducible assumption) | assumption)
       have q102 : x4_1 < (l0.length : Int) := of_decide_eq_true (by first | (with_reducible assumption) | assumption)
       obtain ⟨ad102, e102, hx102_0⟩ := Kd.at_string HR0.out x4_1 p102 q102
       obtain rfl : ad101 = ad102 := (by injection e102)
       replace p102 := eq_true p102
       replace q102 := eq_true q102
       go_wp2
       go_ret
       exact ⟨by first | rfl | (simp; done) | (simp [*]; done), by repeat (first | exact Drawn0.refl _ | apply Drawn0.step)⟩
      ·rw [if_neg c5] at H
       have c5b0 : decide (63 < ((rdOf ByteArray.empty l0 x4_1).size : Int)) = false := decide_eq_false c5
       have c5b1 : decide (63 < (rdOf ByteArray.empty l0 x4_1).size) = false := decide_eq_false (by omega)
       clear c5
       have H' := Aside0.mk H
       clear H
       have p101 : 0 ≤ (x4_1 : Int) := of_decide_eq_true (by first | (with_reducible assumption) | assumption)
       have q101 : x4_1 < (l0.length : Int) := of_decide_eq_true (by first | (with_reducible assumption) | assumption)
       obtain ⟨ad101, e101, hx101_0⟩ := Kd.at_string HR0.out x4_1 p101 q101
       cases e101
       replace p101 := eq_true p101
       replace q101 := eq_true q101
       have p102 : 0 ≤ (x4_1 : Int) := of_decide_eq_true (by first | (with_reducible assumption) | assumption)
       have q102 : x4_1 < (l0.length : Int) := of_decide_eq_true (by first | (with_reducible assumption) | assumption)
       obtain ⟨ad102, e102, hx102_0⟩ := Kd.at_string HR0.out x4_1 p102 q102
       obtain rfl : ad101 = ad102 := (by injection e102)
       replace p102 := eq_true p102
       replace q102 := eq_true q102
       have p103 : 0 ≤ (x4_1 : Int) := of_decide_eq_true (by first | (with_reducible assumption) | assumption)
       have q103 : x4_1 < (l0.length : Int) := of_decide_eq_true (by first | (with_reducible assumption) | assumption)
       obtain ⟨ad103, e103, hx103_0⟩ := Kd.at_string HR0.out x4_1 p103 q103
       obtain rfl : ad101 = ad103 := (by injection e103)
       replace p103 := eq_true p103
       replace q103 := eq_true q103
       go_wp2
       go_roundg k1
       case measure => have := HK1.out; omega
       case rel => exact ⟨(wrap64 ((wrap64 (x3_1 + 1)) + ((rdOf ByteArray.empty l0 x4_1).size : Int))), (wrap64 (x4_1 + 1)), (by first | rfl | (simp; done) | (simp [*]; done)), (by first | rfl | (simp; done) | (simp [*]; done)), H', ⟨by have := HK1.out; omega⟩, by repeat (first | exact Drawn0.refl _ | apply Drawn0.step)⟩
    ·rw [if_neg c3] at H
     exact absurd H (by simp)
   ·rw [if_neg c2] at H
    have c2b0 : decide (x4_1 < (l0.length : Int)) = false := decide_eq_false c2
    clear c2
    obtain rfl := Option.some.inj H
    go_wp2
    go_ret
    exact ⟨by first | rfl | (simp; done) | (simp [*]; done), by repeat (first | exact Drawn0.refl _ | apply Drawn0.step)⟩

end Go.Proofs.YtdnfmilnkoocdaaDoor.Q

-- from Qf22
-- Made by hp.py, a program of this session, with the kit's printer. Not trusted: Lean checks it.
namespace Go.Proofs.YtdnfmilnkoocdaaDoor.Q
open Go.RowKit Go.Proofs.YtdnfmilnkoocdaaDoorW.PrintWords Go.Proofs.YtdnfmilnkoocdaaDoorW.PrintLast Go.Proofs.YtdnfmilnkoocdaaDoorW.PrintMore
attribute [local go_sem] max2_int min2_int max_two min_two max_three min_three max_four min_four   -- for this text's walks alone
set_option linter.unusedVariables false
set_option linter.unusedSimpArgs false

/-! ### paronymref26_Name: function 22 -/
def paronymref26_Name.l0 : Nat → List ByteArray → ByteArray → Int → Option (ByteArray × Int)
 | 0, _, _, _ => none
 | k + 1, x0, x4, x5 => if x5 < (x0.length : Int) then (if 0 ≤ x5 then ((paronymref25_Escaped.f k (rdOf ByteArray.empty x0 x5)).bind fun t103 => (if x4.size + t103.size ≤ 9223372036854775807 then (if (x4 ++ t103).size + 1 ≤ 9223372036854775807 then (paronymref26_Name.l0 k x0 ((x4 ++ t103) ++ (⟨#[46]⟩ : ByteArray)) (wrap64 (x5 + 1))) else (none)) else (none))) else (none)) else (some (x4, 0))
def paronymref26_Name.f (k : Nat) (l0 : List ByteArray) : Option (ByteArray × Int) := (paronymref26_Right.f k l0).bind fun t101 => (if t101 = true then (if (l0.length : Int) = 0 then (some ((⟨#[46]⟩ : ByteArray), 0)) else (paronymref26_Name.l0 k l0 (⟨#[]⟩ : ByteArray) 0)) else (some ((⟨#[]⟩ : ByteArray), 62)))
theorem paronymref26_Name.mono_l : ∀ k, (∀ y0 y1 y2, LeO (paronymref26_Name.l0 k y0 y1 y2) (paronymref26_Name.l0 (k + 1) y0 y1 y2))
 | 0 => fun _ _ _ r h => by simp [paronymref26_Name.l0] at h
 | k + 1 => by
  have ih0 := paronymref26_Name.mono_l k
  ·intro y0 y1 y2
   unfold paronymref26_Name.l0
   repeat' first
   | (with_reducible exact ih0 _ _ _)
   | (with_reducible exact paronymref25_Escaped.mono _ _)
   | (with_reducible exact paronymref26_Right.mono _ _)
   | (with_reducible exact LeO.refl _)
   | (with_reducible exact LeO.none _)
   | (with_reducible refine LeO.ite ?_ ?_)
   | (with_reducible refine LeO.bind ?_ (fun _ => ?_))
   | exact ih0 _ _ _
   | exact paronymref25_Escaped.mono _ _
   | exact paronymref26_Right.mono _ _
   | exact LeO.none _
   | refine LeO.ite ?_ ?_
   | refine LeO.bind ?_ (fun _ => ?_)
theorem paronymref26_Name.mono : ∀ a0 k, LeO (paronymref26_Name.f k a0) (paronymref26_Name.f (k + 1) a0) := by
 intro a0 k
 have ih0 := paronymref26_Name.mono_l k
 unfold paronymref26_Name.f
 repeat' first
   | (with_reducible exact ih0 _ _ _)
   | (with_reducible exact paronymref25_Escaped.mono _ _)
   | (with_reducible exact paronymref26_Right.mono _ _)
   | (with_reducible exact LeO.refl _)
   | (with_reducible exact LeO.none _)
   | (with_reducible refine LeO.ite ?_ ?_)
   | (with_reducible refine LeO.bind ?_ (fun _ => ?_))
   | exact ih0 _ _ _
   | exact paronymref25_Escaped.mono _ _
   | exact paronymref26_Right.mono _ _
   | exact LeO.none _
   | refine LeO.ite ?_ ?_
   | refine LeO.bind ?_ (fun _ => ?_)
set_option maxHeartbeats 8000000 in
set_option maxRecDepth 100000 in
theorem paronymref26_Name.calls (k : Nat) (A0 : Option Addr) (c0 : Nat) (l0 : List ByteArray) (r1 : ByteArray) (r2 : Int) (w : World) (hr0 : Kd.C Kd.string w A0 l0.length l0) (hc0 : l0.length ≤ c0) (h : paronymref26_Name.f k l0 = some (r1, r2)) :
  Calls Tryd.prog 22 #[.slice A0 l0.length c0] w fun e w' => e = .returned (.tuple #[.string r1, .int .i64 r2]) ∧ Below w.heap.size w w' := by
 have HR0 := Aside0.mk hr0
 have HC0 := Aside0.mk hc0
 clear hr0 hc0
 have HB := Aside0.mk (Below.refl w.heap.size w)
 have H : ((paronymref26_Right.f k l0).bind fun t101 => (if t101 = true then (if (l0.length : Int) = 0 then (some ((⟨#[46]⟩ : ByteArray), 0)) else (paronymref26_Name.l0 k l0 (⟨#[]⟩ : ByteArray) 0)) else (some ((⟨#[]⟩ : ByteArray), 62)))) = some (r1, r2) := h
 clear h
 replace H := Option.bind_eq_some_iff.mp H
 obtain ⟨t101, A20, H⟩ := H
 replace H : (if t101 = true then (if (l0.length : Int) = 0 then (some ((⟨#[46]⟩ : ByteArray), 0)) else (paronymref26_Name.l0 k l0 (⟨#[]⟩ : ByteArray) 0)) else (some ((⟨#[]⟩ : ByteArray), 62))) = some (r1, r2) := H
 have A2 := Aside0.mk A20
 clear A20
 by_cases c3 : t101 = true
 ·subst c3
  have H1 : (if (l0.length : Int) = 0 then (some ((⟨#[46]⟩ : ByteArray), 0)) else (paronymref26_Name.l0 k l0 (⟨#[]⟩ : ByteArray) 0)) = some (r1, r2) := by rw [if_pos rfl] at H; exact H
  clear H
  have H := H1
  clear H1
  by_cases c4 : (l0.length : Int) = 0
  ·rw [if_pos c4] at H
   have c4b0 : ((l0.length : Int) == 0) = true := beq_iff_eq.mpr c4
   have c4b1 : ((l0.length : Int) != 0) = false := bne_eq_false_iff_eq.mpr c4
   clear c4
   simp only [Option.some.injEq, Prod.mk.injEq] at H
   obtain ⟨rfl, rfl⟩ := H
   go_enter Tryd.func22, Tryd.ntmps22
   go_wp2_with (first | ((with_reducible refine gate_callee (f := 53) rfl ?_); refine goesL_ (some 7) rfl rfl Tryd.func53 (by kernel_rfl) rfl #[.slice A0 l0.length c0] rfl (by (try simp only [List.map_toArray, List.map_cons, List.map_nil]); first | done | rfl | (simp only [List.length_drop, List.length_take]; rfl)) ?_; (with_reducible refine (paronymref26_Right.calls k _ _ l0 true _ ?side1 ?side2 A2.out).mono ?_); (case side1 => repeat (first | exact HR0.out | (with_reducible refine Kd.C_alloc ?_ _) | (with_reducible refine Kd.C_drewN ?_ _) | (with_reducible refine Kd.C_drew ?_))); (case side2 => exact HC0.out); rintro e w' ⟨rfl, ⟨nd, rfl⟩⟩; refine ⟨_, rfl, ?_⟩))
   go_ret2
   exact ⟨by first | rfl | (simp [errW_none, errW_some] <;> rfl) | (simp [*, errW_none, errW_some] <;> rfl), by repeat (first | (with_reducible first | exact HB.out | apply below_alloc | apply pw_below_drewN | apply below_drew1) | exact HB.out)⟩
  ·rw [if_neg c4] at H
   have c4b0 : ((l0.length : Int) == 0) = false := beq_eq_false_iff_ne.mpr c4
   have c4b1 : ((l0.length : Int) != 0) = true := bne_iff_ne.mpr c4
   have c4b2 : ¬ (l0 = []) := fun h_ => c4 (by rw [h_]; rfl)
   have H' := Aside0.mk H
   clear H
   go_enter Tryd.func22, Tryd.ntmps22
   go_wp2_with (first | ((with_reducible refine gate_callee (f := 53) rfl ?_); refine goesL_ (some 7) rfl rfl Tryd.func53 (by kernel_rfl) rfl #[.slice A0 l0.length c0] rfl (by (try simp only [List.map_toArray, List.map_cons, List.map_nil]); first | done | rfl | (simp only [List.length_drop, List.length_take]; rfl)) ?_; (with_reducible refine (paronymref26_Right.calls k _ _ l0 true _ ?side1 ?side2 A2.out).mono ?_); (case side1 => repeat (first | exact HR0.out | (with_reducible refine Kd.C_alloc ?_ _) | (with_reducible refine Kd.C_drewN ?_ _) | (with_reducible refine Kd.C_drew ?_))); (case side2 => exact HC0.out); rintro e w' ⟨rfl, ⟨nd, rfl⟩⟩; refine ⟨_, rfl, ?_⟩))
   go_loopg [4, 5] k (fun kq v4 v5 w' => ∃ (x4_1 : ByteArray) (x5_1 : Int), v4 = .string x4_1 ∧ v5 = .int .i64 x5_1 ∧ Aside0 (paronymref26_Name.l0 kq l0 x4_1 x5_1 = some (r1, r2)) ∧ Aside0 (kq ≤ k) ∧ Aside0 (Below w.heap.size w w'))
   case atStart => exact ⟨((⟨#[]⟩ : ByteArray)), (0), (by first | rfl | (simp; done) | (simp [*]; done)), (by first | rfl | (simp; done) | (simp [*]; done)), H', ⟨Nat.le_refl _⟩, ⟨by repeat (first | (with_reducible first | exact HB.out | apply below_alloc | apply pw_below_drewN | apply below_drew1) | exact HB.out)⟩⟩
   case round =>
    clear H'
    try clear c2
    try clear p2
    try clear c3
    try clear c4
    try clear c4b0
    try clear c4b1
    try clear c4b2
    obtain ⟨x4_1, x5_1, rfl, rfl, HA, HK1, HB⟩ := hrel
    cases gk with
    | zero => exact absurd HA.out (by simp [paronymref26_Name.l0])
    | succ k1 =>
     have H := HA.out
     clear HA
     simp only [paronymref26_Name.l0] at H
     by_cases c5 : x5_1 < (l0.length : Int)
     ·rw [if_pos c5] at H
      have c5b0 : decide (x5_1 < (l0.length : Int)) = true := decide_eq_true c5
      clear c5
      by_cases c6 : 0 ≤ x5_1
      ·rw [if_pos c6] at H
       have c6b0 : decide (0 ≤ x5_1) = true := decide_eq_true c6
       clear c6
       replace H := Option.bind_eq_some_iff.mp H
       obtain ⟨t103, A70, H⟩ := H
       replace H : (if x4_1.size + t103.size ≤ 9223372036854775807 then (if (x4_1 ++ t103).size + 1 ≤ 9223372036854775807 then (paronymref26_Name.l0 k1 l0 ((x4_1 ++ t103) ++ (⟨#[46]⟩ : ByteArray)) (wrap64 (x5_1 + 1))) else (none)) else (none)) = some (r1, r2) := H
       have A7 := Aside0.mk A70
       clear A70
       by_cases c8 : x4_1.size + t103.size ≤ 9223372036854775807
       ·rw [if_pos c8] at H
        have c8b0 := eq_true c8
        have c8b1 : decide (x4_1.size + t103.size ≤ 9223372036854775807) = true := decide_eq_true c8
        try have c8b2 : (9223372036854775807 < x4_1.size + t103.size) = False := eq_false (Nat.not_lt.2 c8)
        by_cases c9 : (x4_1 ++ t103).size + 1 ≤ 9223372036854775807
        ·rw [if_pos c9] at H
         have c9b0 := eq_true c9
         have c9b1 : decide ((x4_1 ++ t103).size + 1 ≤ 9223372036854775807) = true := decide_eq_true c9
         try have c9b2 : (9223372036854775807 < (x4_1 ++ t103).size + 1) = False := eq_false (Nat.not_lt.2 c9)
         try have c9b3 : (9223372036854775807 < x4_1.size + t103.size + 1) = False := by simpa [ByteArray.size_append] using c9b2
         have H' := Aside0.mk H
         clear H
         have p102 : 0 ≤ (x5_1 : Int) := of_decide_eq_true (by first | (with_reducible assumption) | assumption)
         have q102 : x5_1 < (l0.length : Int) := of_decide_eq_true (by first | (with_reducible assumption) | assumption)
         obtain ⟨ad102, e102, hx102_0⟩ := Kd.at_string HR0.out x5_1 p102 q102
         cases e102
         replace hx102_0 := (HB.out.cell (World.block_lt_of_cell? w _ hx102_0)).trans hx102_0
         replace p102 := eq_true p102
         replace q102 := eq_true q102
         go_wp2_with (first | ((with_reducible refine gate_callee (f := 18) rfl ?_); refine goesL_ (some 23) rfl rfl Tryd.func18 (by kernel_rfl) rfl #[.string (rdOf ByteArray.empty l0 x5_1)] rfl (by (try simp only [List.map_toArray, List.map_cons, List.map_nil]); first | done | rfl | (simp only [List.length_drop, List.length_take]; rfl)) ?_; (with_reducible refine (paronymref25_Escaped.calls k1 (rdOf ByteArray.empty l0 x5_1) t103 _ A7.out).mono ?_); rintro e w10 ⟨rfl, hb⟩; refine ⟨_, rfl, ?_⟩; have n0_ := Aside0.mk (below_step (by repeat (first | (with_reducible first | exact HB.out | apply below_alloc | apply pw_below_drewN | apply below_drew1) | exact HB.out)) hb); clear HB; have HB := n0_; clear n0_; (try clear hb); (try clear hb2); (try clear hk); (try clear hi)))
         go_roundg k1
         case measure => have := HK1.out; omega
         case rel => exact ⟨((x4_1 ++ t103) ++ (⟨#[46]⟩ : ByteArray)), (wrap64 (x5_1 + 1)), (by first | rfl | (simp; done) | (simp [*]; done)), (by first | rfl | (simp; done) | (simp [*]; done)), H', ⟨by have := HK1.out; omega⟩, ⟨by repeat (first | (with_reducible first | exact HB.out | apply below_alloc | apply pw_below_drewN | apply below_drew1) | exact HB.out)⟩⟩
        ·rw [if_neg c9] at H
         exact absurd H (by simp)
       ·rw [if_neg c8] at H
        exact absurd H (by simp)
      ·rw [if_neg c6] at H
       exact absurd H (by simp)
     ·rw [if_neg c5] at H
      have c5b0 : decide (x5_1 < (l0.length : Int)) = false := decide_eq_false c5
      clear c5
      simp only [Option.some.injEq, Prod.mk.injEq] at H
      obtain ⟨rfl, rfl⟩ := H
      go_wp2
      go_ret2
      exact ⟨by first | rfl | (simp [errW_none, errW_some] <;> rfl) | (simp [*, errW_none, errW_some] <;> rfl), by repeat (first | (with_reducible first | exact HB.out | apply below_alloc | apply pw_below_drewN | apply below_drew1) | exact HB.out)⟩
 ·replace c3 := Bool.eq_false_iff.mpr c3
  subst c3
  have H1 : (some ((⟨#[]⟩ : ByteArray), 62)) = some (r1, r2) := by rw [if_neg (show ¬ (false = true) by decide)] at H; exact H
  clear H
  have H := H1
  clear H1
  simp only [Option.some.injEq, Prod.mk.injEq] at H
  obtain ⟨rfl, rfl⟩ := H
  go_enter Tryd.func22, Tryd.ntmps22
  go_wp2_with (first | ((with_reducible refine gate_callee (f := 53) rfl ?_); refine goesL_ (some 7) rfl rfl Tryd.func53 (by kernel_rfl) rfl #[.slice A0 l0.length c0] rfl (by (try simp only [List.map_toArray, List.map_cons, List.map_nil]); first | done | rfl | (simp only [List.length_drop, List.length_take]; rfl)) ?_; (with_reducible refine (paronymref26_Right.calls k _ _ l0 false _ ?side1 ?side2 A2.out).mono ?_); (case side1 => repeat (first | exact HR0.out | (with_reducible refine Kd.C_alloc ?_ _) | (with_reducible refine Kd.C_drewN ?_ _) | (with_reducible refine Kd.C_drew ?_))); (case side2 => exact HC0.out); rintro e w' ⟨rfl, ⟨nd, rfl⟩⟩; refine ⟨_, rfl, ?_⟩))
  go_ret2
  exact ⟨by first | rfl | (simp [errW_none, errW_some] <;> rfl) | (simp [*, errW_none, errW_some] <;> rfl), by repeat (first | (with_reducible first | exact HB.out | apply below_alloc | apply pw_below_drewN | apply below_drew1) | exact HB.out)⟩

end Go.Proofs.YtdnfmilnkoocdaaDoor.Q

-- from Qf31
-- Made by hp.py, a program of this session, with the kit's printer. Not trusted: Lean checks it.
namespace Go.Proofs.YtdnfmilnkoocdaaDoor.Q
open Go.RowKit Go.Proofs.YtdnfmilnkoocdaaDoorW.PrintWords Go.Proofs.YtdnfmilnkoocdaaDoorW.PrintLast Go.Proofs.YtdnfmilnkoocdaaDoorW.PrintMore
attribute [local go_sem] max2_int min2_int max_two min_two max_three min_three max_four min_four   -- for this text's walks alone
set_option linter.unusedVariables false
set_option linter.unusedSimpArgs false

/-! ### paronymref27_Write: function 31 -/
def paronymref27_Write.l0 : Nat → List ByteArray → ByteArray → Int → Option (ByteArray)
 | 0, _, _, _ => none
 | k + 1, x0, x3, x4 => if x4 < (x0.length : Int) then (if 0 ≤ x4 then (if x4 ≤ (wrap64 (x4 + 1)) then (if (wrap64 (x4 + 1)) ≤ (x0.length : Int) then ((paronymref26_Name.f k ((x0.take ((wrap64 (x4 + 1)) : Int).toNat).drop (x4 : Int).toNat)).bind fun bt105 => (if bt105.2 = 0 then (if 0 < ((rdOf ByteArray.empty x0 x4).size : Int) then (if (bt (rdOf ByteArray.empty x0 x4) 0) = 36 then (some (⟨#[]⟩ : ByteArray)) else (if x3.size + bt105.1.size ≤ 9223372036854775807 then (if (x3 ++ bt105.1).size + 9 ≤ 9223372036854775807 then (paronymref27_Write.l0 k x0 ((x3 ++ bt105.1) ++ (⟨#[32, 73, 78, 32, 78, 85, 76, 76, 10]⟩ : ByteArray)) (wrap64 (x4 + 1))) else (none)) else (none))) else (none)) else (some (⟨#[]⟩ : ByteArray)))) else (none)) else (none)) else (none)) else (some x3)
def paronymref27_Write.f (k : Nat) (l0 : List ByteArray) : Option (ByteArray) := paronymref27_Write.l0 k l0 (⟨#[]⟩ : ByteArray) 0
theorem paronymref27_Write.mono_l : ∀ k, (∀ y0 y1 y2, LeO (paronymref27_Write.l0 k y0 y1 y2) (paronymref27_Write.l0 (k + 1) y0 y1 y2))
 | 0 => fun _ _ _ r h => by simp [paronymref27_Write.l0] at h
 | k + 1 => by
  have ih0 := paronymref27_Write.mono_l k
  ·intro y0 y1 y2
   unfold paronymref27_Write.l0
   repeat' first
   | (with_reducible exact ih0 _ _ _)
   | (with_reducible exact paronymref26_Name.mono _ _)
   | (with_reducible exact LeO.refl _)
   | (with_reducible exact LeO.none _)
   | (with_reducible refine LeO.ite ?_ ?_)
   | (with_reducible refine LeO.bind ?_ (fun _ => ?_))
   | exact ih0 _ _ _
   | exact paronymref26_Name.mono _ _
   | exact LeO.none _
   | refine LeO.ite ?_ ?_
   | refine LeO.bind ?_ (fun _ => ?_)
theorem paronymref27_Write.mono : ∀ a0 k, LeO (paronymref27_Write.f k a0) (paronymref27_Write.f (k + 1) a0) := by
 intro a0 k
 have ih0 := paronymref27_Write.mono_l k
 unfold paronymref27_Write.f
 repeat' first
   | (with_reducible exact ih0 _ _ _)
   | (with_reducible exact paronymref26_Name.mono _ _)
   | (with_reducible exact LeO.refl _)
   | (with_reducible exact LeO.none _)
   | (with_reducible refine LeO.ite ?_ ?_)
   | (with_reducible refine LeO.bind ?_ (fun _ => ?_))
   | exact ih0 _ _ _
   | exact paronymref26_Name.mono _ _
   | exact LeO.none _
   | refine LeO.ite ?_ ?_
   | refine LeO.bind ?_ (fun _ => ?_)
set_option maxHeartbeats 8000000 in
set_option maxRecDepth 100000 in
theorem paronymref27_Write.calls (k : Nat) (A0 : Option Addr) (c0 : Nat) (l0 : List ByteArray) (r : ByteArray) (w : World) (hr0 : Kd.C Kd.string w A0 l0.length l0) (hc0 : l0.length ≤ c0) (h : paronymref27_Write.f k l0 = some r) :
  Calls Tryd.prog 31 #[.slice A0 l0.length c0] w fun e w' => e = .returned (.string r) ∧ Below w.heap.size w w' := by
 have HR0 := Aside0.mk hr0
 have HC0 := Aside0.mk hc0
 clear hr0 hc0
 have HB := Aside0.mk (Below.refl w.heap.size w)
 have H : (paronymref27_Write.l0 k l0 (⟨#[]⟩ : ByteArray) 0) = some r := h
 clear h
 have H' := Aside0.mk H
 clear H
 go_enter Tryd.func31, Tryd.ntmps31
 go_wp2
 go_loopg [3, 4] k (fun kq v3 v4 w' => ∃ (x3_1 : ByteArray) (x4_1 : Int), v3 = .string x3_1 ∧ v4 = .int .i64 x4_1 ∧ Aside0 (paronymref27_Write.l0 kq l0 x3_1 x4_1 = some r) ∧ Aside0 (kq ≤ k) ∧ Aside0 (Below w.heap.size w w'))
 case atStart => exact ⟨((⟨#[]⟩ : ByteArray)), (0), (by first | rfl | (simp; done) | (simp [*]; done)), (by first | rfl | (simp; done) | (simp [*]; done)), H', ⟨Nat.le_refl _⟩, ⟨by repeat (first | (with_reducible first | exact HB.out | apply below_alloc | apply pw_below_drewN | apply below_drew1) | exact HB.out)⟩⟩
 case round =>
  clear H'
  obtain ⟨x3_1, x4_1, rfl, rfl, HA, HK1, HB⟩ := hrel
  cases gk with
  | zero => exact absurd HA.out (by simp [paronymref27_Write.l0])
  | succ k1 =>
   have H := HA.out
   clear HA
   simp only [paronymref27_Write.l0] at H
   by_cases c2 : x4_1 < (l0.length : Int)
   ·rw [if_pos c2] at H
    have c2b0 : decide (x4_1 < (l0.length : Int)) = true := decide_eq_true c2
    clear c2
    by_cases c3 : 0 ≤ x4_1
    ·rw [if_pos c3] at H
     have c3b0 := eq_true c3
     have c3b1 : decide (0 ≤ x4_1) = true := decide_eq_true c3
     clear c3
     by_cases c4 : x4_1 ≤ (wrap64 (x4_1 + 1))
     ·rw [if_pos c4] at H
      have c4b0 := eq_true c4
      have c4b1 : decide (x4_1 ≤ (wrap64 (x4_1 + 1))) = true := decide_eq_true c4
      by_cases c5 : (wrap64 (x4_1 + 1)) ≤ (l0.length : Int)
      ·rw [if_pos c5] at H
       have c5b0 := eq_true c5
       have c5b1 : decide ((wrap64 (x4_1 + 1)) ≤ (l0.length : Int)) = true := decide_eq_true c5
       obtain ⟨y101, hy101⟩ : ∃ y_ : List ByteArray, y_ = ((l0.take ((wrap64 (x4_1 + 1)) : Int).toNat).drop (x4_1 : Int).toNat) := ⟨_, rfl⟩
       replace H : ((paronymref26_Name.f k1 y101).bind fun bt105 => (if bt105.2 = 0 then (if 0 < ((rdOf ByteArray.empty l0 x4_1).size : Int) then (if (bt (rdOf ByteArray.empty l0 x4_1) 0) = 36 then (some (⟨#[]⟩ : ByteArray)) else (if x3_1.size + bt105.1.size ≤ 9223372036854775807 then (if (x3_1 ++ bt105.1).size + 9 ≤ 9223372036854775807 then (paronymref27_Write.l0 k1 l0 ((x3_1 ++ bt105.1) ++ (⟨#[32, 73, 78, 32, 78, 85, 76, 76, 10]⟩ : ByteArray)) (wrap64 (x4_1 + 1))) else (none)) else (none))) else (none)) else (some (⟨#[]⟩ : ByteArray)))) = some r := by first | (rw [hy101]; with_reducible exact H) | (have H2_ := (Option.bind_some _ _).symm.trans H; rw [hy101]; with_reducible exact H2_) | (have H2_ := (Option.bind_some _ _).symm.trans H; with_reducible exact H2_) | with_reducible exact H | (rw [hy101]; exact H) | exact H
       have Ny101 := Aside0.mk hy101
       clear hy101
       replace H := Option.bind_eq_some_iff.mp H
       obtain ⟨⟨t105, t106⟩, A60, H⟩ := H
       replace H : (if t106 = 0 then (if 0 < ((rdOf ByteArray.empty l0 x4_1).size : Int) then (if (bt (rdOf ByteArray.empty l0 x4_1) 0) = 36 then (some (⟨#[]⟩ : ByteArray)) else (if x3_1.size + t105.size ≤ 9223372036854775807 then (if (x3_1 ++ t105).size + 9 ≤ 9223372036854775807 then (paronymref27_Write.l0 k1 l0 ((x3_1 ++ t105) ++ (⟨#[32, 73, 78, 32, 78, 85, 76, 76, 10]⟩ : ByteArray)) (wrap64 (x4_1 + 1))) else (none)) else (none))) else (none)) else (some (⟨#[]⟩ : ByteArray))) = some r := H
       have A6 := Aside0.mk A60
       clear A60
       by_cases c7 : t106 = 0
       ·rw [if_pos c7] at H
        have c7b0 : (t106 == 0) = true := beq_iff_eq.mpr c7
        have c7b1 : (t106 != 0) = false := bne_eq_false_iff_eq.mpr c7
        clear c7
        by_cases c8 : 0 < ((rdOf ByteArray.empty l0 x4_1).size : Int)
        ·rw [if_pos c8] at H
         have c8b0 : decide (0 < ((rdOf ByteArray.empty l0 x4_1).size : Int)) = true := decide_eq_true c8
         have c8b1 : decide (0 < (rdOf ByteArray.empty l0 x4_1).size) = true := decide_eq_true (by omega)
         clear c8
         by_cases c10 : (bt (rdOf ByteArray.empty l0 x4_1) 0) = 36
         ·rw [if_pos c10] at H
          have c10b0 : ((bt (rdOf ByteArray.empty l0 x4_1) 0) == 36) = true := beq_iff_eq.mpr c10
          have c10b1 : ((bt (rdOf ByteArray.empty l0 x4_1) 0) != 36) = false := bne_eq_false_iff_eq.mpr c10
          clear c10
          obtain rfl := Option.some.inj H
          have q11 : ((wrap64 (x4_1 + 1)) : Int) ≤ ((l0.length : Int) : Int) := of_decide_eq_true (by first | (with_reducible assumption) | assumption)
          obtain ⟨i011, hi011, _, hsz11, _⟩ := info_parts info9
          have hroom11 : l0.length ≤ c0 := HC0.out
          have hC11 : Kd.C Kd.string _ A0 l0.length l0 := HR0.out
          have ql11 : (x4_1 : Int) ≤ ((wrap64 (x4_1 + 1)) : Int) := of_decide_eq_true (by first | (with_reducible assumption) | assumption)
          have q011 : (0 : Int) ≤ (x4_1 : Int) := of_decide_eq_true (by first | (with_reducible assumption) | assumption)
          have hcut11 := cut_mid (P := Tryd.prog) 24 9 .i64 .i64 Tryd.underlying24 hi011 1 hsz11 A0 l0.length c0 x4_1 (wrap64 (x4_1 + 1)) q011 ql11 q11 hroom11
          have hr11 := Kd.C_mid (lo := (x4_1 : Int).toNat) (hi := ((wrap64 (x4_1 + 1)) : Int).toNat) (c := c0) hC11 (by omega) (by omega) hroom11
          obtain ⟨A11, hA11⟩ : ∃ A1, A1 = (if c0 = (x4_1 : Int).toNat then A0 else (A0 : Option Addr).map (·.add ((x4_1 : Int).toNat * 1))) := ⟨_, rfl⟩
          obtain ⟨c11, hc11⟩ : ∃ c1, c1 = c0 - (x4_1 : Int).toNat := ⟨_, rfl⟩
          have hy11 : y101.length = ((wrap64 (x4_1 + 1)) : Int).toNat - (x4_1 : Int).toNat := (by rw [Ny101.out, List.length_drop, List.length_take] <;> omega)
          rw [show ((l0).take ((wrap64 (x4_1 + 1)) : Int).toNat).drop (x4_1 : Int).toNat = y101 from Ny101.out.symm] at hr11
          replace hr11 : Kd.C Kd.string _ A11 y101.length y101 := (by rw [hA11]; exact hr11)
          rw [← hy11, ← hA11, ← hc11] at hcut11
          have HR104 := Aside0.mk hr11
          have HC104 := Aside0.mk (show y101.length ≤ c11 from by rw [hy11, hc11]; exact Nat.sub_le_sub_right (Nat.le_trans (by omega) hroom11) _)
          clear hr11 hC11 hroom11 hi011 hsz11 hc11
          have KY11 := Aside0.mk hy11
          have KA11 := Aside0.mk hA11
          clear hy11 hA11
          replace q11 := eq_true q11
          go_wp2_with (first | ((with_reducible refine gate_callee (f := 22) rfl ?_); refine goesL_ (some 19) rfl rfl Tryd.func22 (by kernel_rfl) rfl #[.slice A11 y101.length c11] rfl (by (try simp only [List.map_toArray, List.map_cons, List.map_nil]); first | done | rfl | (simp only [List.length_drop, List.length_take]; rfl)) ?_; (with_reducible refine (paronymref26_Name.calls k1 _ _ y101 t105 t106 _ ?side1 ?side2 A6.out).mono ?_); (case side1 => repeat (first | exact (Kd.C_below HR104.out HB.out) | (with_reducible refine Kd.C_alloc ?_ _) | (with_reducible refine Kd.C_drewN ?_ _) | (with_reducible refine Kd.C_drew ?_))); (case side2 => exact HC104.out); rintro e w12 ⟨rfl, hb⟩; refine ⟨_, rfl, ?_⟩; have n0_ := Aside0.mk (below_step (by repeat (first | (with_reducible first | exact HB.out | apply below_alloc | apply pw_below_drewN | apply below_drew1) | exact HB.out)) hb); clear HB; have HB := n0_; clear n0_; (try clear hb); (try clear hb2); (try clear hk); (try clear hi); have p107 : 0 ≤ (x4_1 : Int) := of_decide_eq_true (by first | (with_reducible assumption) | assumption); have q107 : x4_1 < (l0.length : Int) := of_decide_eq_true (by first | (with_reducible assumption) | assumption); obtain ⟨ad107, e107, hx107_0⟩ := Kd.at_string HR0.out x4_1 p107 q107; cases e107; replace hx107_0 := (HB.out.cell (World.block_lt_of_cell? w _ hx107_0)).trans hx107_0; replace p107 := eq_true p107; replace q107 := eq_true q107; have p9 : 0 ≤ (0 : Int) := (by omega); have q9 : 0 < (rdOf ByteArray.empty l0 x4_1).size := (by have : (0 : Int) < ((rdOf ByteArray.empty l0 x4_1).size : Int) := of_decide_eq_true (by first | (with_reducible assumption) | assumption); omega); have hx9 : ∀ h : 0 < (rdOf ByteArray.empty l0 x4_1).size, (((rdOf ByteArray.empty l0 x4_1)[0]'h).toNat : Int) = bt (rdOf ByteArray.empty l0 x4_1) 0 := bt_at (rdOf ByteArray.empty l0 x4_1) 0; clear p9; have qi9 : (0 < ((rdOf ByteArray.empty l0 x4_1).size : Int)) = True := eq_true (of_decide_eq_true (by first | (with_reducible assumption) | assumption)); replace q9 := eq_true q9))
          go_ret
          exact ⟨by first | rfl | (simp [errW_none, errW_some] <;> rfl) | (simp [*, errW_none, errW_some] <;> rfl), by repeat (first | (with_reducible first | exact HB.out | apply below_alloc | apply pw_below_drewN | apply below_drew1) | exact HB.out)⟩
         ·rw [if_neg c10] at H
          have c10b0 : ((bt (rdOf ByteArray.empty l0 x4_1) 0) == 36) = false := beq_eq_false_iff_ne.mpr c10
          have c10b1 : ((bt (rdOf ByteArray.empty l0 x4_1) 0) != 36) = true := bne_iff_ne.mpr c10
          by_cases c13 : x3_1.size + t105.size ≤ 9223372036854775807
          ·rw [if_pos c13] at H
           have c13b0 := eq_true c13
           have c13b1 : decide (x3_1.size + t105.size ≤ 9223372036854775807) = true := decide_eq_true c13
           try have c13b2 : (9223372036854775807 < x3_1.size + t105.size) = False := eq_false (Nat.not_lt.2 c13)
           by_cases c14 : (x3_1 ++ t105).size + 9 ≤ 9223372036854775807
           ·rw [if_pos c14] at H
            have c14b0 := eq_true c14
            have c14b1 : decide ((x3_1 ++ t105).size + 9 ≤ 9223372036854775807) = true := decide_eq_true c14
            try have c14b2 : (9223372036854775807 < (x3_1 ++ t105).size + 9) = False := eq_false (Nat.not_lt.2 c14)
            try have c14b3 : (9223372036854775807 < x3_1.size + t105.size + 9) = False := by simpa [ByteArray.size_append] using c14b2
            have H' := Aside0.mk H
            clear H
            have q15 : ((wrap64 (x4_1 + 1)) : Int) ≤ ((l0.length : Int) : Int) := of_decide_eq_true (by first | (with_reducible assumption) | assumption)
            obtain ⟨i015, hi015, _, hsz15, _⟩ := info_parts info9
            have hroom15 : l0.length ≤ c0 := HC0.out
            have hC15 : Kd.C Kd.string _ A0 l0.length l0 := HR0.out
            have ql15 : (x4_1 : Int) ≤ ((wrap64 (x4_1 + 1)) : Int) := of_decide_eq_true (by first | (with_reducible assumption) | assumption)
            have q015 : (0 : Int) ≤ (x4_1 : Int) := of_decide_eq_true (by first | (with_reducible assumption) | assumption)
            have hcut15 := cut_mid (P := Tryd.prog) 24 9 .i64 .i64 Tryd.underlying24 hi015 1 hsz15 A0 l0.length c0 x4_1 (wrap64 (x4_1 + 1)) q015 ql15 q15 hroom15
            have hr15 := Kd.C_mid (lo := (x4_1 : Int).toNat) (hi := ((wrap64 (x4_1 + 1)) : Int).toNat) (c := c0) hC15 (by omega) (by omega) hroom15
            obtain ⟨A15, hA15⟩ : ∃ A1, A1 = (if c0 = (x4_1 : Int).toNat then A0 else (A0 : Option Addr).map (·.add ((x4_1 : Int).toNat * 1))) := ⟨_, rfl⟩
            obtain ⟨c15, hc15⟩ : ∃ c1, c1 = c0 - (x4_1 : Int).toNat := ⟨_, rfl⟩
            have hy15 : y101.length = ((wrap64 (x4_1 + 1)) : Int).toNat - (x4_1 : Int).toNat := (by rw [Ny101.out, List.length_drop, List.length_take] <;> omega)
            rw [show ((l0).take ((wrap64 (x4_1 + 1)) : Int).toNat).drop (x4_1 : Int).toNat = y101 from Ny101.out.symm] at hr15
            replace hr15 : Kd.C Kd.string _ A15 y101.length y101 := (by rw [hA15]; exact hr15)
            rw [← hy15, ← hA15, ← hc15] at hcut15
            have HR104 := Aside0.mk hr15
            have HC104 := Aside0.mk (show y101.length ≤ c15 from by rw [hy15, hc15]; exact Nat.sub_le_sub_right (Nat.le_trans (by omega) hroom15) _)
            clear hr15 hC15 hroom15 hi015 hsz15 hc15
            have KY15 := Aside0.mk hy15
            have KA15 := Aside0.mk hA15
            clear hy15 hA15
            replace q15 := eq_true q15
            go_wp2_with (first | ((with_reducible refine gate_callee (f := 22) rfl ?_); refine goesL_ (some 19) rfl rfl Tryd.func22 (by kernel_rfl) rfl #[.slice A15 y101.length c15] rfl (by (try simp only [List.map_toArray, List.map_cons, List.map_nil]); first | done | rfl | (simp only [List.length_drop, List.length_take]; rfl)) ?_; (with_reducible refine (paronymref26_Name.calls k1 _ _ y101 t105 t106 _ ?side1 ?side2 A6.out).mono ?_); (case side1 => repeat (first | exact (Kd.C_below HR104.out HB.out) | (with_reducible refine Kd.C_alloc ?_ _) | (with_reducible refine Kd.C_drewN ?_ _) | (with_reducible refine Kd.C_drew ?_))); (case side2 => exact HC104.out); rintro e w16 ⟨rfl, hb⟩; refine ⟨_, rfl, ?_⟩; have n0_ := Aside0.mk (below_step (by repeat (first | (with_reducible first | exact HB.out | apply below_alloc | apply pw_below_drewN | apply below_drew1) | exact HB.out)) hb); clear HB; have HB := n0_; clear n0_; (try clear hb); (try clear hb2); (try clear hk); (try clear hi); have p107 : 0 ≤ (x4_1 : Int) := of_decide_eq_true (by first | (with_reducible assumption) | assumption); have q107 : x4_1 < (l0.length : Int) := of_decide_eq_true (by first | (with_reducible assumption) | assumption); obtain ⟨ad107, e107, hx107_0⟩ := Kd.at_string HR0.out x4_1 p107 q107; cases e107; replace hx107_0 := (HB.out.cell (World.block_lt_of_cell? w _ hx107_0)).trans hx107_0; replace p107 := eq_true p107; replace q107 := eq_true q107; have p9 : 0 ≤ (0 : Int) := (by omega); have q9 : 0 < (rdOf ByteArray.empty l0 x4_1).size := (by have : (0 : Int) < ((rdOf ByteArray.empty l0 x4_1).size : Int) := of_decide_eq_true (by first | (with_reducible assumption) | assumption); omega); have hx9 : ∀ h : 0 < (rdOf ByteArray.empty l0 x4_1).size, (((rdOf ByteArray.empty l0 x4_1)[0]'h).toNat : Int) = bt (rdOf ByteArray.empty l0 x4_1) 0 := bt_at (rdOf ByteArray.empty l0 x4_1) 0; clear p9; have qi9 : (0 < ((rdOf ByteArray.empty l0 x4_1).size : Int)) = True := eq_true (of_decide_eq_true (by first | (with_reducible assumption) | assumption)); replace q9 := eq_true q9))
            go_roundg k1
            case measure => have := HK1.out; omega
            case rel => exact ⟨((x3_1 ++ t105) ++ (⟨#[32, 73, 78, 32, 78, 85, 76, 76, 10]⟩ : ByteArray)), (wrap64 (x4_1 + 1)), (by first | rfl | (simp; done) | (simp [*]; done)), (by first | rfl | (simp; done) | (simp [*]; done)), H', ⟨by have := HK1.out; omega⟩, ⟨by repeat (first | (with_reducible first | exact HB.out | apply below_alloc | apply pw_below_drewN | apply below_drew1) | exact HB.out)⟩⟩
           ·rw [if_neg c14] at H
            exact absurd H (by simp)
          ·rw [if_neg c13] at H
           exact absurd H (by simp)
        ·rw [if_neg c8] at H
         exact absurd H (by simp)
       ·rw [if_neg c7] at H
        have c7b0 : (t106 == 0) = false := beq_eq_false_iff_ne.mpr c7
        have c7b1 : (t106 != 0) = true := bne_iff_ne.mpr c7
        obtain rfl := Option.some.inj H
        have q17 : ((wrap64 (x4_1 + 1)) : Int) ≤ ((l0.length : Int) : Int) := of_decide_eq_true (by first | (with_reducible assumption) | assumption)
        obtain ⟨i017, hi017, _, hsz17, _⟩ := info_parts info9
        have hroom17 : l0.length ≤ c0 := HC0.out
        have hC17 : Kd.C Kd.string _ A0 l0.length l0 := HR0.out
        have ql17 : (x4_1 : Int) ≤ ((wrap64 (x4_1 + 1)) : Int) := of_decide_eq_true (by first | (with_reducible assumption) | assumption)
        have q017 : (0 : Int) ≤ (x4_1 : Int) := of_decide_eq_true (by first | (with_reducible assumption) | assumption)
        have hcut17 := cut_mid (P := Tryd.prog) 24 9 .i64 .i64 Tryd.underlying24 hi017 1 hsz17 A0 l0.length c0 x4_1 (wrap64 (x4_1 + 1)) q017 ql17 q17 hroom17
        have hr17 := Kd.C_mid (lo := (x4_1 : Int).toNat) (hi := ((wrap64 (x4_1 + 1)) : Int).toNat) (c := c0) hC17 (by omega) (by omega) hroom17
        obtain ⟨A17, hA17⟩ : ∃ A1, A1 = (if c0 = (x4_1 : Int).toNat then A0 else (A0 : Option Addr).map (·.add ((x4_1 : Int).toNat * 1))) := ⟨_, rfl⟩
        obtain ⟨c17, hc17⟩ : ∃ c1, c1 = c0 - (x4_1 : Int).toNat := ⟨_, rfl⟩
        have hy17 : y101.length = ((wrap64 (x4_1 + 1)) : Int).toNat - (x4_1 : Int).toNat := (by rw [Ny101.out, List.length_drop, List.length_take] <;> omega)
        rw [show ((l0).take ((wrap64 (x4_1 + 1)) : Int).toNat).drop (x4_1 : Int).toNat = y101 from Ny101.out.symm] at hr17
        replace hr17 : Kd.C Kd.string _ A17 y101.length y101 := (by rw [hA17]; exact hr17)
        rw [← hy17, ← hA17, ← hc17] at hcut17
        have HR104 := Aside0.mk hr17
        have HC104 := Aside0.mk (show y101.length ≤ c17 from by rw [hy17, hc17]; exact Nat.sub_le_sub_right (Nat.le_trans (by omega) hroom17) _)
        clear hr17 hC17 hroom17 hi017 hsz17 hc17
        have KY17 := Aside0.mk hy17
        have KA17 := Aside0.mk hA17
        clear hy17 hA17
        replace q17 := eq_true q17
        go_wp2_with (first | ((with_reducible refine gate_callee (f := 22) rfl ?_); refine goesL_ (some 19) rfl rfl Tryd.func22 (by kernel_rfl) rfl #[.slice A17 y101.length c17] rfl (by (try simp only [List.map_toArray, List.map_cons, List.map_nil]); first | done | rfl | (simp only [List.length_drop, List.length_take]; rfl)) ?_; (with_reducible refine (paronymref26_Name.calls k1 _ _ y101 t105 t106 _ ?side1 ?side2 A6.out).mono ?_); (case side1 => repeat (first | exact (Kd.C_below HR104.out HB.out) | (with_reducible refine Kd.C_alloc ?_ _) | (with_reducible refine Kd.C_drewN ?_ _) | (with_reducible refine Kd.C_drew ?_))); (case side2 => exact HC104.out); rintro e w18 ⟨rfl, hb⟩; refine ⟨_, rfl, ?_⟩; have n0_ := Aside0.mk (below_step (by repeat (first | (with_reducible first | exact HB.out | apply below_alloc | apply pw_below_drewN | apply below_drew1) | exact HB.out)) hb); clear HB; have HB := n0_; clear n0_; (try clear hb); (try clear hb2); (try clear hk); (try clear hi)))
        go_ret
        exact ⟨by first | rfl | (simp [errW_none, errW_some] <;> rfl) | (simp [*, errW_none, errW_some] <;> rfl), by repeat (first | (with_reducible first | exact HB.out | apply below_alloc | apply pw_below_drewN | apply below_drew1) | exact HB.out)⟩
      ·rw [if_neg c5] at H
       exact absurd H (by simp)
     ·rw [if_neg c4] at H
      exact absurd H (by simp)
    ·rw [if_neg c3] at H
     exact absurd H (by simp)
   ·rw [if_neg c2] at H
    have c2b0 : decide (x4_1 < (l0.length : Int)) = false := decide_eq_false c2
    clear c2
    obtain rfl := Option.some.inj H
    go_wp2
    go_ret
    exact ⟨by first | rfl | (simp [errW_none, errW_some] <;> rfl) | (simp [*, errW_none, errW_some] <;> rfl), by repeat (first | (with_reducible first | exact HB.out | apply below_alloc | apply pw_below_drewN | apply below_drew1) | exact HB.out)⟩

end Go.Proofs.YtdnfmilnkoocdaaDoor.Q

-- from Hbld
/- strings.Builder: the shelf's walks laid for this program; Write where what is written may lie above the builder. -/
namespace Go.Proofs
open Go.Shelf
theorem Tryd.bldSize : (Tryd.prog.info? 81).map (·.size) = some 2 := by kernel_rfl
theorem Tryd.bldLies : liesAt Tryd.prog Tryd.prog.depth 81 (2 / Tryd.prog.cellsOf 81) 0 81 1 = true := by kernel_rfl
theorem Tryd.bldByte : (Tryd.prog.info? 5).map (fun i => (i.zero, i.size, i.bytes)) = some (some (.int .u8 0), 1, 1) := by kernel_rfl
def Tryd.lays169_ren : Go.Shelf.Ren := ⟨fun | 169 => 50 | n => n, fun | 70 => 79 | 9 => 9 | 0 => 0 | 72 => 81 | 37 => 22 | 127 => 121 | 3 => 3 | 5 => 5 | n => n, fun | n => n⟩
theorem Tryd.lays169 : Go.Proofs.Lays.n169 Tryd.prog Tryd.lays169_ren := {
  mixed := by kernel_rfl
  f169 := Tryd.func50.trans (congrArg some (by kernel_rfl))
  t0 := Tryd.underlying0
  a0 := Tryd.isAgg0
  z0 := Tryd.sizeOf0
  v0 := Tryd.zeroValue0
  t3 := Tryd.underlying3
  a3 := Tryd.isAgg3
  z3 := Tryd.sizeOf3
  v3 := Tryd.zeroValue3
  t9 := Tryd.underlying9
  a9 := Tryd.isAgg9
  z9 := Tryd.sizeOf9
  v9 := Tryd.zeroValue9
  t37 := Tryd.underlying22
  a37 := Tryd.isAgg22
  z37 := Tryd.sizeOf22
  v37 := Tryd.zeroValue22
  t70 := Tryd.underlying79
  a70 := Tryd.isAgg79
  z70 := Tryd.sizeOf79
  v70 := Tryd.zeroValue79
  t72 := Tryd.underlying81
  a72 := Tryd.isAgg81
  z72 := Tryd.sizeOf81
  v72 := Tryd.zeroValue81
  t127 := Tryd.underlying121
  a127 := Tryd.isAgg121
  z127 := Tryd.sizeOf121
  v127 := Tryd.zeroValue121 }
theorem Tryd.bldX169 : Builder.Extra Tryd.prog Tryd.lays169_ren := {
  sizeBuilder := by kernel_rfl
  liesBuilder := by kernel_rfl
  t5 := Tryd.underlying5
  a5 := Tryd.isAgg5
  z5 := Tryd.sizeOf5
  v5 := Tryd.zeroValue5
  infoByte := by kernel_rfl
  cellsByte := by kernel_rfl
  sizeByte := by kernel_rfl
  neB5 := by decide }
end Go.Proofs
namespace Go.Proofs.YtdnfmilnkoocdaaDoor.Q
open Go.RowKit Go.Shelf Go.Proofs.YtdnfmilnkoocdaaDoorW.PrintWords Go.Proofs.YtdnfmilnkoocdaaDoorW.PrintLast Go.Proofs.YtdnfmilnkoocdaaDoorW.PrintMore
set_option linter.unusedVariables false
set_option linter.unusedSimpArgs false

theorem bld_String (B b : Nat) (l : List UInt8) (w : World) (h : Lib.IsBuilder 81 5 B b (Lib.byteCells l) w) (hBw : B ≤ w.heap.size) :
    Calls Tryd.prog 50 #[.pointer (some ⟨b, 0, none⟩)] w fun e w' => e = .returned (.string ⟨l.toArray⟩) ∧ Below B w w' := Any.Builder_String_any Tryd.lays169 Tryd.bldX169 B b l w h hBw
set_option maxHeartbeats 1000000 in
set_option maxRecDepth 100000 in
theorem bld_used (b : Nat) (w : World) (h0 : w.cell? ⟨b, 0, none⟩ = some (.pointer (some ⟨b, 0, none⟩))) :
    Calls Tryd.prog 77 #[.pointer (some ⟨b, 0, none⟩)] w fun e w' => e = .returned (.tuple #[]) ∧ w' = w := by
  obtain ⟨j, hj, _⟩ := Option.map_eq_some_iff.1 Tryd.bldSize
  go_enter Tryd.func77, Tryd.ntmps77
  go_wp2
  rw [Lib.run_neq_ptr_same w _ Tryd.underlying79 hj]
  go_wp2
  go_end0
  exact ⟨rfl, rfl⟩
set_option maxHeartbeats 1000000 in
set_option maxRecDepth 100000 in
theorem bld_fresh (b : Nat) (w : World) (h0 : w.cell? ⟨b, 0, none⟩ = some (.pointer none)) (hsh : w.shape? b = some (81, 2)) (hfz : w.frozen? ⟨b, 0, none⟩ = false) :
    Calls Tryd.prog 77 #[.pointer (some ⟨b, 0, none⟩)] w fun e w' => e = .returned (.tuple #[]) ∧ w' = w.setCell ⟨b, 0, none⟩ (.pointer (some ⟨b, 0, none⟩)) := by
  obtain ⟨j, hj, hjs⟩ := Option.map_eq_some_iff.1 Tryd.bldSize
  go_enter Tryd.func77, Tryd.ntmps77
  go_wp2
  rw [Lib.run_to_unsafe w ⟨b, 0, none⟩ Tryd.underlying79 Tryd.underlying136 hj (by rw [hjs]; decide) hsh (Nat.zero_lt_succ 1)]
  simp only [Result.andThen]
  rw [Oper.upon_value]
  go_wp2
  rw [run_callFunc_extern Tryd.func97 (by kernel_rfl) (by kernel_rfl) (by kernel_rfl) (e := Extern.AbiNoEscape.same) (by kernel_rfl)]
  rw [Lib.run_noEscape]
  simp only [Result.andThen]
  rw [Oper.upon_value]
  go_wp2
  rw [Lib.run_from_unsafe w ⟨b, 0, none⟩ Tryd.underlying136 Tryd.underlying79 hj hsh Tryd.bldLies]
  simp only [Result.andThen]
  rw [Oper.upon_value]
  go_wp2
  go_end0
  exact ⟨rfl, rfl⟩
theorem bld_copyCheck (B b : Nat) (bs : List Value) (w : World) (h : Lib.IsBuilder 81 5 B b bs w) :
    Calls Tryd.prog 77 #[.pointer (some ⟨b, 0, none⟩)] w fun e w' => e = .returned (.tuple #[]) ∧ Lib.BuilderAt 81 5 B b (.pointer (some ⟨b, 0, none⟩)) bs w' ∧ Below B w w' ∧ ∀ k, k ≠ b → w'.heap[k]? = w.heap[k]? := by
  rcases h with h | h
  · refine (bld_fresh b w h.cell0 h.shape h.frozen0).mono ?_
    rintro e w' ⟨rfl, rfl⟩
    exact ⟨rfl, h.used _, (Below.refl B w).setCell (p := ⟨b, 0, none⟩) h.1 _, fun k hk => Below.heap_setCell w ⟨b, 0, none⟩ _ k hk⟩
  · refine (bld_used b w h.cell0).mono ?_
    rintro e w' ⟨rfl, rfl⟩
    exact ⟨rfl, h, Below.refl B _, fun _ _ => rfl⟩

set_option maxHeartbeats 2000000 in
set_option maxRecDepth 100000 in
theorem bld_WriteByte (B b : Nat) (bs : List Value) (c : Int) (w : World) (h : Lib.IsBuilder 81 5 B b bs w) (hlen : bs.length + 1 ≤ 140737488355328) (hBw : B ≤ w.heap.size) :
    Calls Tryd.prog 48 #[.pointer (some ⟨b, 0, none⟩), .int .u8 c] w fun e w' => e = .returned .nilIface ∧ (Lib.BuilderAt 81 5 B b (.pointer (some ⟨b, 0, none⟩)) (bs ++ [.int .u8 c]) w' ∧ Below B w w') := by
  have cC := bld_copyCheck B b bs w h
  obtain ⟨i0, hi, hz0, hz1, hz2⟩ := info_parts Tryd.bldByte
  go_enter Tryd.func48, Tryd.ntmps48
  go_wp2_with (go_at_call 77; refine cC.mono ?_)
  rintro e w1 ⟨rfl, h1', hb1, hk1⟩
  obtain ⟨hB, v, hbk, hown, hne⟩ := h1'
  have c0 : w1.cell? ⟨b, 0, none⟩ = some (.pointer (some ⟨b, 0, none⟩)) := by rw [Lib.cell_of_heap hbk]; rfl
  have c1 : w1.cell? ⟨b, 1, none⟩ = some v := by rw [Lib.cell_of_heap hbk]; rfl
  go_wp2_with (at_builtin; refine wpList_append_own _ rfl _ _ 22 rfl B 5 i0 (.int .u8 0) 1 1 Tryd.underlying22 hi hz0 hz1 hz2 rfl (by decide) _ _ _ rfl (hown.alloc _) ⟨w1.heap.size, 0, none⟩ 1 1 [.int .u8 c] rfl rfl ?c1 ?c2 ?c3 ?c4 ?c5 ?_)
  case c1 =>
    intro j u hj
    match j, hj with
    | 0, hj => simp at hj; subst hj; simp [Addr.add]
  case c2 => intro u hu; simp at hu; subst hu; rfl
  case c3 => unfold maxLen; omega
  case c4 => omega
  case c5 => have := hb1.size; simp; omega
  intro v' w2 hown' hgrow _
  have hlt : b < w1.heap.size := by
    rcases Nat.lt_or_ge b w1.heap.size with h' | h'
    · exact h'
    · simp [Array.getElem?_eq_none h'] at hbk
  have hb2 : w2.heap[b]? = some (.cells #[.pointer (some ⟨b, 0, none⟩), v] 81 (0, 0)) := by
    rw [hgrow.block b (by simp; omega) (fun e => hne e.symm), Lib.alloc_old w1 _ b hlt]
    exact hbk
  have d0 : w2.cell? ⟨b, 0, none⟩ = some (.pointer (some ⟨b, 0, none⟩)) := by rw [Lib.cell_of_heap hb2]; rfl
  have d1 : w2.cell? ⟨b, 1, none⟩ = some v := by rw [Lib.cell_of_heap hb2]; rfl
  have f1 : w2.frozen? ⟨b, 1, none⟩ = false := Lib.frozen_of_heap hb2 1
  obtain ⟨g, cap, rfl⟩ : ∃ g cap, v' = .slice (some ⟨g, 0, none⟩) (bs.length + 1) cap := by
    rcases hown'.2 with ⟨_, h0⟩ | ⟨g, cap, cur, hv, _⟩
    · omega
    · exact ⟨g, cap, hv⟩
  go_wp2
  go_ret
  refine ⟨rfl, ?_, ?_⟩
  · exact Lib.BuilderAt.put (T := 81) (e := 5) hB hb2 (bs' := bs ++ [.int .u8 c]) (by simpa using hown') (by decide)
  · exact ((hb1.alloc (by have := hb1.size; omega) _).grown hgrow (by have := hb1.size; simp; omega) (fun k hk => (hown.lt k hk).1)).setCell (p := ⟨b, 1, none⟩) hB _

set_option maxHeartbeats 2000000 in
set_option maxRecDepth 100000 in
theorem bld_WriteString (B b : Nat) (bs : List Value) (s : ByteArray) (w : World) (h : Lib.IsBuilder 81 5 B b bs w) (hlen : bs.length + s.size ≤ 140737488355328) (hBw : B ≤ w.heap.size) :
    Calls Tryd.prog 47 #[.pointer (some ⟨b, 0, none⟩), .string s] w fun e w' => e = .returned (.tuple #[.int .i64 s.size, .nilIface]) ∧ (Lib.BuilderAt 81 5 B b (.pointer (some ⟨b, 0, none⟩)) (bs ++ Lib.strCells s) w' ∧ Below B w w') := by
  have cC := bld_copyCheck B b bs w h
  obtain ⟨i0, hi, hz0, hz1, hz2⟩ := info_parts Tryd.bldByte
  go_enter Tryd.func47, Tryd.ntmps47
  go_wp2_with (go_at_call 77; refine cC.mono ?_)
  rintro e w1 ⟨rfl, h1', hb1, hk1⟩
  obtain ⟨hB, v, hbk, hown, hne⟩ := h1'
  have c0 : w1.cell? ⟨b, 0, none⟩ = some (.pointer (some ⟨b, 0, none⟩)) := by rw [Lib.cell_of_heap hbk]; rfl
  have c1 : w1.cell? ⟨b, 1, none⟩ = some v := by rw [Lib.cell_of_heap hbk]; rfl
  go_wp2_with (at_builtin; refine Lib.wpList_append_own_string _ rfl _ _ 22 9 rfl B 5 i0 Tryd.underlying22 Tryd.underlying9 hi hz0 hz1 hz2 _ _ _ rfl hown s rfl ?c3 ?c4 ?c5 ?_)
  case c3 => unfold maxLen; omega
  case c4 => omega
  case c5 => have := hb1.size; omega
  intro v' w2 hown' hgrow _
  have hlt : b < w1.heap.size := by
    rcases Nat.lt_or_ge b w1.heap.size with h' | h'
    · exact h'
    · simp [Array.getElem?_eq_none h'] at hbk
  have hb2 : w2.heap[b]? = some (.cells #[.pointer (some ⟨b, 0, none⟩), v] 81 (0, 0)) := by
    rw [hgrow.block b hlt (fun e => hne e.symm)]
    exact hbk
  have d0 : w2.cell? ⟨b, 0, none⟩ = some (.pointer (some ⟨b, 0, none⟩)) := by rw [Lib.cell_of_heap hb2]; rfl
  have d1 : w2.cell? ⟨b, 1, none⟩ = some v := by rw [Lib.cell_of_heap hb2]; rfl
  have f1 : w2.frozen? ⟨b, 1, none⟩ = false := Lib.frozen_of_heap hb2 1
  obtain ⟨ao, n', cap, rfl⟩ : ∃ ao n' cap, v' = .slice ao n' cap := by
    rcases hown'.2 with ⟨hv, _⟩ | ⟨g, cap, cur, hv, _⟩
    · exact ⟨_, _, _, hv⟩
    · exact ⟨_, _, _, hv⟩
  go_wp2
  go_ret2
  refine ⟨rfl, ?_, ?_⟩
  · exact Lib.BuilderAt.put (T := 81) (e := 5) hB hb2 (bs' := bs ++ Lib.strCells s) (by simpa [Lib.strCells_length] using hown') (by decide)
  · exact (hb1.grown hgrow (by have := hb1.size; omega) (fun k hk => (hown.lt k hk).1)).setCell (p := ⟨b, 1, none⟩) hB _

set_option maxHeartbeats 2000000 in
set_option maxRecDepth 100000 in
theorem bld_Write (B b : Nat) (bs : List Value) (ad : Addr) (m c : Nat) (news : List Value) (w : World) (h : Lib.IsBuilder 81 5 B b bs w)
    (hl : news.length = m) (hnews : ∀ j u, news[j]? = some u → w.cell? (ad.add j) = some u) (hadB : ad.block ≠ b) (h1 : ∀ u ∈ news, u.oneCell' = true)
    (hlen : bs.length + m ≤ 140737488355328) (hBw : B ≤ w.heap.size) :
    Calls Tryd.prog 49 #[.pointer (some ⟨b, 0, none⟩), .slice (some ad) m c] w fun e w' => e = .returned (.tuple #[.int .i64 m, .nilIface]) ∧ (Lib.BuilderAt 81 5 B b (.pointer (some ⟨b, 0, none⟩)) (bs ++ news) w' ∧ Below B w w') := by
  have cC := bld_copyCheck B b bs w h
  obtain ⟨i0, hi, hz0, hz1, hz2⟩ := info_parts Tryd.bldByte
  go_enter Tryd.func49, Tryd.ntmps49
  go_wp2_with (go_at_call 77; refine cC.mono ?_)
  rintro e w1 ⟨rfl, h1', hb1, hk1⟩
  obtain ⟨hB, v, hbk, hown, hne⟩ := h1'
  have c0 : w1.cell? ⟨b, 0, none⟩ = some (.pointer (some ⟨b, 0, none⟩)) := by rw [Lib.cell_of_heap hbk]; rfl
  have c1 : w1.cell? ⟨b, 1, none⟩ = some v := by rw [Lib.cell_of_heap hbk]; rfl
  have hnews1 : ∀ j u, news[j]? = some u → w1.cell? (ad.add j) = some u := fun j u hj => by
    have hbl : (ad.add j).block = ad.block := by unfold Addr.add; split <;> rfl
    rw [← hnews j u hj]
    unfold World.cell?
    rw [hbl, hk1 ad.block hadB]
  go_wp2_with (at_builtin; refine wpList_append_own _ rfl _ _ 22 rfl B 5 i0 (.int .u8 0) 1 1 Tryd.underlying22 hi hz0 hz1 hz2 rfl (by decide) _ _ _ rfl hown ad m c news rfl (by omega) hnews1 h1 ?c3 ?c4 ?c5 ?_)
  case c3 => unfold maxLen; omega
  case c4 => omega
  case c5 => have := hb1.size; omega
  intro v' w2 hown' hgrow _
  have hlt : b < w1.heap.size := by
    rcases Nat.lt_or_ge b w1.heap.size with h' | h'
    · exact h'
    · simp [Array.getElem?_eq_none h'] at hbk
  have hb2 : w2.heap[b]? = some (.cells #[.pointer (some ⟨b, 0, none⟩), v] 81 (0, 0)) := by
    rw [hgrow.block b hlt (fun e => hne e.symm)]
    exact hbk
  have d0 : w2.cell? ⟨b, 0, none⟩ = some (.pointer (some ⟨b, 0, none⟩)) := by rw [Lib.cell_of_heap hb2]; rfl
  have d1 : w2.cell? ⟨b, 1, none⟩ = some v := by rw [Lib.cell_of_heap hb2]; rfl
  have f1 : w2.frozen? ⟨b, 1, none⟩ = false := Lib.frozen_of_heap hb2 1
  obtain ⟨ao, n', cap, rfl⟩ : ∃ ao n' cap, v' = .slice ao n' cap := by
    rcases hown'.2 with ⟨hv, _⟩ | ⟨g, cap, cur, hv, _⟩
    · exact ⟨_, _, _, hv⟩
    · exact ⟨_, _, _, hv⟩
  go_wp2
  go_ret2
  refine ⟨rfl, ?_, ?_⟩
  · exact Lib.BuilderAt.put (T := 81) (e := 5) hB hb2 (bs' := bs ++ news) (by simpa [hl] using hown') (by decide)
  · exact (hb1.grown hgrow (by have := hb1.size; omega) (fun k hk => (hown.lt k hk).1)).setCell (p := ⟨b, 1, none⟩) hB _

end Go.Proofs.YtdnfmilnkoocdaaDoor.Q

-- from Hesc
/- token.Escape: the walk. -/
namespace Go.Proofs.YtdnfmilnkoocdaaDoor.Q
open Go.RowKit Go.Shelf Go.Proofs.YtdnfmilnkoocdaaDoorW.PrintWords Go.Proofs.YtdnfmilnkoocdaaDoorW.PrintLast Go.Proofs.YtdnfmilnkoocdaaDoorW.PrintMore
set_option linter.unusedVariables false
set_option linter.unusedSimpArgs false

/-- Is an octet one of those that are escaped as they are? -/
def special (c : Int) : Bool := decide (c = 34 ∨ c = 59 ∨ c = 40 ∨ c = 41 ∨ c = 92 ∨ c = 46)
/-- An octet, escaped. -/
def esc1 (c : Int) : List Int := if special c = true then [92, c] else if 32 < c ∧ c ≤ 126 then [c] else [92, 48 + c / 100, 48 + c / 10 % 10, 48 + c % 10]
def token_Escape.f (l : List Int) : Option ByteArray := if l.all (fun x => decide (0 ≤ x ∧ x ≤ 255)) = true ∧ l.length ≤ 1000000 then some (strOfNums (l.flatMap esc1)) else none
theorem special_idx {c : Int} (h : 0 ≤ c ∧ c ≤ 255) : ∃ t, strings_IndexByte.f (⟨#[34, 59, 40, 41, 92, 46]⟩ : ByteArray) c = some t ∧ (t ≥ 0 ↔ special c = true) := by
  refine ⟨_, rfl, ?_⟩
  have key : ∀ b : UInt8, (Lib.indexByte [34, 59, 40, 41, 92, 46] b ≥ 0 ↔ (b = 34 ∨ b = 59 ∨ b = 40 ∨ b = 41 ∨ b = 92 ∨ b = 46)) := by
    intro b
    by_cases h1 : b = 34
    · subst h1; decide
    by_cases h2 : b = 59
    · subst h2; decide
    by_cases h3 : b = 40
    · subst h3; decide
    by_cases h4 : b = 41
    · subst h4; decide
    by_cases h5 : b = 92
    · subst h5; decide
    by_cases h6 : b = 46
    · subst h6; decide
    simp only [Lib.indexByte]
    have e : ∀ n : UInt8, ¬ b = n → (n == b) = false := fun n hn => by simpa using fun e => hn e.symm
    simp [e 34 h1, e 59 h2, e 40 h3, e 41 h4, e 92 h5, e 46 h6, h1, h2, h3, h4, h5, h6]
  have hk := key c.toNat.toUInt8
  have hc : ∀ n : Nat, n < 256 → (c.toNat.toUInt8 = UInt8.ofNat n ↔ c = n) := by
    intro n hn
    constructor
    · intro e
      have := congrArg UInt8.toNat e
      simp at this
      omega
    · intro e
      subst e
      rfl
  refine hk.trans ?_
  have a1 : c.toNat.toUInt8 = 34 ↔ c = 34 := hc 34 (by omega)
  have a2 : c.toNat.toUInt8 = 59 ↔ c = 59 := hc 59 (by omega)
  have a3 : c.toNat.toUInt8 = 40 ↔ c = 40 := hc 40 (by omega)
  have a4 : c.toNat.toUInt8 = 41 ↔ c = 41 := hc 41 (by omega)
  have a5 : c.toNat.toUInt8 = 92 ↔ c = 92 := hc 92 (by omega)
  have a6 : c.toNat.toUInt8 = 46 ↔ c = 46 := hc 46 (by omega)
  rw [a1, a2, a3, a4, a5, a6]
  unfold special
  simp
theorem esc1_len (c : Int) : (esc1 c).length ≤ 4 := by
  unfold esc1
  split
  · simp
  split <;> simp
theorem esc_len : ∀ l : List Int, (l.flatMap esc1).length ≤ 4 * l.length
  | [] => by simp
  | c :: l => by
    have := esc_len l
    have := esc1_len c
    rw [List.flatMap_cons, List.length_append, List.length_cons]
    omega
abbrev ocells (l : List Int) : List Value := l.map (Value.int .u8)
theorem bld_heap {T e B b : Nat} {bs : List Value} {W W' : World} (h : Lib.IsBuilder T e B b bs W) (hh : W'.heap = W.heap) : Lib.IsBuilder T e B b bs W' := by
  have one : ∀ p, Lib.BuilderAt T e B b p bs W → Lib.BuilderAt T e B b p bs W' := by
    rintro p ⟨h1, v, h2, h3, h4⟩
    refine ⟨h1, v, by rw [hh]; exact h2, ?_, h4⟩
    unfold World.ownsRow at h3 ⊢
    rw [hh]
    exact h3
  rcases h with h | h
  · exact .inl (one _ h)
  · exact .inr (one _ h)
theorem heap_drewN (W : World) (n : Nat) : (W.drewN n).heap = W.heap := by simp
theorem bld_new (W : World) : Lib.IsBuilder 81 5 W.heap.size W.heap.size [] (W.alloc (.cells #[.pointer none, .slice none 0 0] 81)) := by
  refine .inl ⟨Nat.le_refl _, .slice none 0 0, heap_alloc_new W _, ⟨?_, .inl ⟨rfl, rfl⟩⟩, by simp [Value.ownBlock]⟩
  rfl
theorem ocells_str {l : List Int} (h : ∀ x ∈ l, 0 ≤ x ∧ x ≤ 255) : Lib.strCells (strOfNums l) = ocells l := by
  unfold Lib.strCells ocells
  rw [strOfNums_data, List.map_map]
  apply List.map_congr_left
  intro x hx
  have := h x hx
  simp only [Function.comp_apply]
  congr 1
  simp only [UInt8.toNat_ofNat']
  omega
theorem esc_oct {c : Int} (h : 0 ≤ c ∧ c ≤ 255) : ∀ x ∈ esc1 c, 0 ≤ x ∧ x ≤ 255 := by
  intro x hx
  unfold esc1 at hx
  split at hx
  · simp at hx; omega
  split at hx
  · simp at hx; omega
  · simp at hx; omega
theorem esc_next {pre : List Int} {c : Int} {news : List Int} (h : esc1 c = news) : ocells ((pre ++ [c]).flatMap esc1) = ocells (pre.flatMap esc1) ++ ocells news := by
  unfold ocells
  rw [List.flatMap_append, List.map_append]
  simp [h]
theorem bld_alloc {T e B b : Nat} {bs : List Value} {W : World} (h : Lib.IsBuilder T e B b bs W) (o : Obj) : Lib.IsBuilder T e B b bs (W.alloc o) := by
  have one : ∀ p, Lib.BuilderAt T e B b p bs W → Lib.BuilderAt T e B b p bs (W.alloc o) := by
    intro p h
    have hlt := h.lt
    obtain ⟨h1, v, h2, h3, h4⟩ := h
    exact ⟨h1, v, (Lib.alloc_old W o b hlt).trans h2, h3.alloc _, h4⟩
  rcases h with h | h
  · exact .inl (one _ h)
  · exact .inr (one _ h)
theorem bld_lt {T e B b : Nat} {bs : List Value} {W : World} (h : Lib.IsBuilder T e B b bs W) : b < W.heap.size := h.elim (fun h => h.lt) (fun h => h.lt)
theorem esc_octs {l : List Int} (h : ∀ x ∈ l, 0 ≤ x ∧ x ≤ 255) : ∀ x ∈ l.flatMap esc1, 0 ≤ x ∧ x ≤ 255 := by
  intro x hx
  obtain ⟨c, hc, hx⟩ := List.mem_flatMap.1 hx
  exact esc_oct (h c hc) x hx
/-- Four octets written out of a new row. -/
theorem esc_four (B b : Nat) (bs : List Value) (c : Int) (wr : World) (nd : Nat) (h : Lib.IsBuilder 81 5 B b bs wr) (hlen : bs.length + 4 ≤ 140737488355328) (hBw : B ≤ wr.heap.size) (e1 : esc1 c = [92, 48 + c / 100, 48 + c / 10 % 10, 48 + c % 10]) :
    Calls Tryd.prog 49 #[.pointer (some ⟨b, 0, none⟩), .slice (some ⟨wr.heap.size, 0, none⟩) 4 4] ((wr.drewN nd).alloc (.cells #[.int .u8 92, .int .u8 (48 + c / 100), .int .u8 (48 + c / 10 % 10), .int .u8 (48 + c % 10)] 5)) fun e w' => (∃ v, e = .returned v) ∧ Lib.IsBuilder 81 5 B b (bs ++ ocells (esc1 c)) w' ∧ Below B wr w' := by
  have hlt := bld_lt h
  refine (bld_Write B b bs ⟨wr.heap.size, 0, none⟩ 4 4 (ocells (esc1 c)) ((wr.drewN nd).alloc (.cells #[.int .u8 92, .int .u8 (48 + c / 100), .int .u8 (48 + c / 10 % 10), .int .u8 (48 + c % 10)] 5)) (bld_alloc (bld_heap h rfl) _) (by rw [e1]; rfl) (fun j u hj => ?_) (by show wr.heap.size ≠ b; omega) (fun u hu => ?_) hlen (by simp; omega)).mono ?_
  · rw [add_plain, cell_of_row _ wr.heap.size j _ 5 _ (heap_alloc_new (wr.drewN nd) _)]
    rw [e1] at hj
    simpa [ocells] using hj
  · obtain ⟨x, _, rfl⟩ := List.mem_map.1 hu
    rfl
  · rintro e w' ⟨rfl, hb, hbb⟩
    have h1 : Below B wr ((wr.drewN nd).alloc (.cells #[.int .u8 92, .int .u8 (48 + c / 100), .int .u8 (48 + c / 10 % 10), .int .u8 (48 + c % 10)] 5)) := (pw_below_drewN (Below.refl _ _) nd).alloc hBw _
    exact ⟨⟨_, rfl⟩, .inr hb, h1.trans hbb⟩
theorem take_rd {l : List Int} {i : Nat} (h : i < l.length) : l.take (i + 1) = l.take i ++ [rd l (i : Int)] := by
  rw [List.take_succ_eq_append_getElem h]
  congr 2
  unfold rd
  simp [List.getD_eq_getElem?_getD, List.getElem?_eq_getElem h]
set_option maxHeartbeats 2000000 in
set_option maxRecDepth 100000 in
theorem token_Escape.calls (A0 : Option Addr) (c0 : Nat) (l : List Int) (r : ByteArray) (w : World) (hr0 : Kd.C (Kd.int .u8) w A0 l.length l) (hc0 : l.length ≤ c0) (h : token_Escape.f l = some r) :
    Calls Tryd.prog 17 #[.slice A0 l.length c0] w fun e w' => e = .returned (.string r) ∧ Below w.heap.size w w' := by
  unfold token_Escape.f at h
  split at h
  case isFalse => cases h
  case isTrue hh =>
  obtain ⟨hoct, hlen⟩ := hh
  obtain rfl := Option.some.inj h
  have ho : ∀ x ∈ l, 0 ≤ x ∧ x ≤ 255 := fun x hx => of_decide_eq_true (List.all_eq_true.1 hoct x hx)
  have HR := Aside0.mk hr0
  have HL := Aside0.mk hlen
  have HO := Aside0.mk ho
  clear hr0 hlen ho hoct h
  go_enter Tryd.func17, Tryd.ntmps17
  go_wp2
  have HB0 := Aside0.mk (bld_new w)
  go_loopg [8] (l.length + 1) (fun kq v8 wr => ∃ i : Nat, v8 = .int .i64 (i : Int) ∧ Aside0 (kq + i = l.length + 1 ∧ i ≤ l.length) ∧ Aside0 (Lib.IsBuilder 81 5 w.heap.size w.heap.size (ocells ((l.take i).flatMap esc1)) wr) ∧ Aside0 (Below w.heap.size w wr))
  case atStart => exact ⟨0, rfl, ⟨by omega, by omega⟩, HB0, ⟨(Below.refl _ w).alloc (Nat.le_refl _) _⟩⟩
  case round =>
    clear HB0
    obtain ⟨i, rfl, HI, HBL, HB⟩ := hrel
    cases gk with
    | zero => have := HI.out; omega
    | succ k1 =>
      by_cases hi : i < l.length
      · obtain ⟨ad, e0, hx⟩ := Kd.at_int (Kd.C_below HR.out HB.out) (i : Int) (by omega) (by omega)
        subst e0
        rw [Int.toNat_natCast] at hx
        have hc := HO.out _ (show rd l (i : Int) ∈ l by
          unfold rd
          simp only [Int.toNat_natCast, List.getD_eq_getElem?_getD, List.getElem?_eq_getElem hi, Option.getD_some]
          exact List.getElem_mem hi)
        have htk := take_rd hi
        have hb1 : decide ((i : Int) < (l.length : Int)) = true := decide_eq_true (by omega)
        have hb2 : decide (0 ≤ (i : Int)) = true := decide_eq_true (by omega)
        have hw : wrap64 ((i : Int) + 1) = ((i + 1 : Nat) : Int) := by have := HL.out; unfold wrap64; omega
        have hbl : (ocells ((l.take i).flatMap esc1)).length ≤ 4000000 := by
          have h1 := esc_len (l.take i)
          have h2 := HL.out
          rw [List.length_map]
          rw [List.length_take] at h1
          omega
        have HTK := Aside0.mk htk
        have HW := Aside0.mk hw
        have HBLN := Aside0.mk hbl
        have hBs := HB.out.size
        have HBS := Aside0.mk hBs
        clear htk hw hbl hBs
        generalize rd l (i : Int) = c at *
        obtain ⟨t, ht, hts⟩ := special_idx hc
        have HT := Aside0.mk ht
        have HC := Aside0.mk hc
        clear ht
        have hq1 : (i : Int) < (l.length : Int) := by omega
        have q1 := eq_true hq1
        by_cases sp : special c = true
        · have t0 := hts.2 sp
          have ht0 : decide (0 ≤ t) = true := decide_eq_true t0
          have HSP := Aside0.mk sp
          have HS : Aside0 ((⟨#[92]⟩ : ByteArray) ++ Utf8.encode c = strOfNums [92, c]) := ⟨by
            have := of_decide_eq_true sp
            rcases this with h | h | h | h | h | h <;> subst h <;> decide +kernel⟩
          have hes : (Utf8.encode c).size = 1 := by
            have := of_decide_eq_true sp
            rcases this with h | h | h | h | h | h <;> subst h <;> decide +kernel
          clear hts sp hi hq1 t0
          go_wp2_with (first
            | (go_at_call 46; (with_reducible refine (strings_IndexByte.calls _ c t _ HT.out).mono ?_); rintro e w' ⟨rfl, ⟨nd, rfl⟩⟩))
          refine calls_of_args (args' := #[.pointer (some ⟨w.heap.size, 0, none⟩), .string (strOfNums [92, c])]) (by rw [← HS.out]) ?_
          refine (bld_WriteString w.heap.size w.heap.size _ (strOfNums [92, c]) (wr.drewN nd) (bld_heap HBL.out rfl) (by have := HBLN.out; rw [strOfNums_size]; simp only [List.length_cons, List.length_nil]; omega) HBS.out).mono ?_
          rintro e w2 ⟨rfl, hbl2, hb2_⟩
          go_wp2
          go_roundg k1
          case measure => have := HI.out; omega
          case rel =>
            refine ⟨i + 1, by rw [HW.out], ⟨by have := HI.out; omega, by have := of_decide_eq_true hb1; omega⟩, ⟨.inr ?_⟩, ⟨(pw_below_drewN HB.out nd).trans hb2_⟩⟩
            rw [HTK.out, esc_next (show esc1 c = [92, c] by unfold esc1; rw [if_pos HSP.out]), ← ocells_str (l := [92, c]) (by intro x hx; have := HC.out; simp at hx; omega)]
            exact hbl2
        · have t0 : ¬ t ≥ 0 := fun h => sp (hts.1 h)
          have ht0 : decide (0 ≤ t) = false := decide_eq_false t0
          have HSP := Aside0.mk sp
          by_cases g1 : 32 < c
          · have hg1 : decide (32 < c) = true := decide_eq_true g1
            by_cases g2 : c ≤ 126
            · have hg2 : decide (c ≤ 126) = true := decide_eq_true g2
              have HG := Aside0.mk (And.intro g1 g2)
              clear hts sp hi hq1 t0 g1 g2
              go_wp2_with (first
                | (go_at_call 46; (with_reducible refine (strings_IndexByte.calls _ c t _ HT.out).mono ?_); rintro e w' ⟨rfl, ⟨nd, rfl⟩⟩))
              refine (bld_WriteByte w.heap.size w.heap.size _ c (wr.drewN nd) (bld_heap HBL.out rfl) (by have := HBLN.out; omega) HBS.out).mono ?_
              rintro e w2 ⟨rfl, hbl2, hb2_⟩
              go_wp2
              go_roundg k1
              case measure => have := HI.out; omega
              case rel =>
                refine ⟨i + 1, by rw [HW.out], ⟨by have := HI.out; omega, by have := of_decide_eq_true hb1; omega⟩, ⟨.inr ?_⟩, ⟨(pw_below_drewN HB.out nd).trans hb2_⟩⟩
                rw [HTK.out, esc_next (show esc1 c = [c] by unfold esc1; rw [if_neg HSP.out, if_pos HG.out])]
                exact hbl2
            · have hg2 : decide (c ≤ 126) = false := decide_eq_false g2
              have HG := Aside0.mk (show ¬ (32 < c ∧ c ≤ 126) from fun h => g2 h.2)
              clear hts sp hi hq1 t0 g1 g2
              go_wp2_with (first
                | (go_at_call 46; (with_reducible refine (strings_IndexByte.calls _ c t _ HT.out).mono ?_); rintro e w' ⟨rfl, ⟨nd, rfl⟩⟩))
              refine (esc_four w.heap.size w.heap.size _ c wr nd HBL.out (by have := HBLN.out; omega) HBS.out (by unfold esc1; rw [if_neg HSP.out, if_neg HG.out])).mono ?_
              rintro e w2 ⟨⟨v2, rfl⟩, hbl2, hb2_⟩
              go_wp2
              go_roundg k1
              case measure => have := HI.out; omega
              case rel =>
                refine ⟨i + 1, by rw [HW.out], ⟨by have := HI.out; omega, by have := of_decide_eq_true hb1; omega⟩, ⟨?_⟩, ⟨HB.out.trans hb2_⟩⟩
                rw [HTK.out, esc_next rfl]
                exact hbl2
          · have hg1 : decide (32 < c) = false := decide_eq_false g1
            have HG := Aside0.mk (show ¬ (32 < c ∧ c ≤ 126) from fun h => g1 h.1)
            clear hts sp hi hq1 t0 g1
            go_wp2_with (first
              | (go_at_call 46; (with_reducible refine (strings_IndexByte.calls _ c t _ HT.out).mono ?_); rintro e w' ⟨rfl, ⟨nd, rfl⟩⟩))
            refine (esc_four w.heap.size w.heap.size _ c wr nd HBL.out (by have := HBLN.out; omega) HBS.out (by unfold esc1; rw [if_neg HSP.out, if_neg HG.out])).mono ?_
            rintro e w2 ⟨⟨v2, rfl⟩, hbl2, hb2_⟩
            go_wp2
            go_roundg k1
            case measure => have := HI.out; omega
            case rel =>
              refine ⟨i + 1, by rw [HW.out], ⟨by have := HI.out; omega, by have := of_decide_eq_true hb1; omega⟩, ⟨?_⟩, ⟨HB.out.trans hb2_⟩⟩
              rw [HTK.out, esc_next rfl]
              exact hbl2
      · have hb1 : decide ((i : Int) < (l.length : Int)) = false := decide_eq_false (by omega)
        have hil : i = l.length := by have := HI.out; omega
        subst hil
        have hbl := HBL.out
        rw [List.take_length] at hbl
        have HBL2 := Aside0.mk hbl
        have hBs := HB.out.size
        have HBS := Aside0.mk hBs
        clear hbl HBL hi hBs
        go_wp2_with fail
        have hs := HBL2.out
        rw [← ocells_str (esc_octs HO.out), Lib.strCells_eq] at hs
        refine (bld_String w.heap.size w.heap.size _ wr hs HBS.out).mono ?_
        rintro e w2 ⟨rfl, hb2_⟩
        go_wp2
        go_ret
        exact ⟨by simp, HB.out.trans hb2_⟩

end Go.Proofs.YtdnfmilnkoocdaaDoor.Q

-- from Hnam
/- owner.Name: the walk. -/
namespace Go.Proofs.YtdnfmilnkoocdaaDoor.Q
open Go.RowKit Go.Shelf Go.Proofs.YtdnfmilnkoocdaaDoorW.PrintWords Go.Proofs.YtdnfmilnkoocdaaDoorW.PrintLast Go.Proofs.YtdnfmilnkoocdaaDoorW.PrintMore
set_option linter.unusedVariables false
set_option linter.unusedSimpArgs false

/-- One label, escaped, and its dot; a name of labels. -/
def dotted (l : List Int) : List Int := l.flatMap esc1 ++ [46]
def nameL (ls : List (List Int)) : List Int := ls.flatMap dotted
def labelsOk (ls : List (List Int)) : Bool := ls.all (fun l => l.all (fun x => decide (0 ≤ x ∧ x ≤ 255)) && decide (l.length ≤ 1000)) && decide (ls.length ≤ 1000)
def owner_Name.f (k : Nat) (l0 : List (List Int)) : Option (ByteArray × Int) := (owner_right.f k l0).bind fun ok => if ok = true then (if l0.length = 0 then some (⟨#[46]⟩, 0) else if labelsOk l0 = true then some (strOfNums (nameL l0), 0) else none) else some (⟨#[]⟩, 62)
theorem owner_Name.mono : ∀ l0 k, LeO (owner_Name.f k l0) (owner_Name.f (k + 1) l0) := by
  intro l0 k
  unfold owner_Name.f
  exact LeO.bind (owner_right.mono _ _) (fun _ => LeO.refl _)
theorem dotted_len (l : List Int) (h : l.length ≤ 1000) : (dotted l).length ≤ 4001 := by
  have := esc_len l
  unfold dotted
  rw [List.length_append, List.length_cons, List.length_nil]
  omega
theorem nameL_len : ∀ ls : List (List Int), (∀ l ∈ ls, l.length ≤ 1000) → (nameL ls).length ≤ 4001 * ls.length
  | [], _ => by simp [nameL]
  | l :: ls, h => by
    have h1 := dotted_len l (h l List.mem_cons_self)
    have h2 := nameL_len ls (fun x hx => h x (List.mem_cons_of_mem _ hx))
    unfold nameL at h2 ⊢
    rw [List.flatMap_cons, List.length_append, List.length_cons]
    omega
theorem dotted_oct {l : List Int} (h : ∀ x ∈ l, 0 ≤ x ∧ x ≤ 255) : ∀ x ∈ dotted l, 0 ≤ x ∧ x ≤ 255 := by
  intro x hx
  rcases List.mem_append.1 hx with hx | hx
  · exact esc_octs h x hx
  · rw [List.mem_singleton.1 hx]; omega
theorem nameL_oct {ls : List (List Int)} (h : ∀ l ∈ ls, ∀ x ∈ l, 0 ≤ x ∧ x ≤ 255) : ∀ x ∈ nameL ls, 0 ≤ x ∧ x ≤ 255 := by
  intro x hx
  obtain ⟨l, hl, hx⟩ := List.mem_flatMap.1 hx
  exact dotted_oct (h l hl) x hx
theorem take_rdL2 {ls : List (List Int)} {i : Nat} (h : i < ls.length) : ls.take (i + 1) = ls.take i ++ [rd_L2 ls (i : Int)] := by
  rw [List.take_succ_eq_append_getElem h]
  congr 2
  unfold rd_L2
  simp [List.getD_eq_getElem?_getD, List.getElem?_eq_getElem h]
theorem name_next {pre : List (List Int)} {l : List Int} : ocells (nameL (pre ++ [l])) = ocells (nameL pre) ++ ocells (dotted l) := by
  unfold ocells nameL
  rw [List.flatMap_append, List.map_append]
  simp
theorem bld_below {T e B b : Nat} {bs : List Value} {W W' : World} (h : Lib.IsBuilder T e B b bs W) (hb : Below W.heap.size W W') : Lib.IsBuilder T e B b bs W' := by
  have one : ∀ p, Lib.BuilderAt T e B b p bs W → Lib.BuilderAt T e B b p bs W' := by
    intro p h
    have hlt := h.lt
    obtain ⟨h1, v, h2, h3, h4⟩ := h
    refine ⟨h1, v, (hb.block b hlt).trans h2, ⟨h3.1, ?_⟩, h4⟩
    rcases h3.2 with h3 | ⟨g, cap, cur, q1, q2, q3, q4⟩
    · exact .inl h3
    · exact .inr ⟨g, cap, cur, q1, q2, (hb.block g (Array.getElem?_eq_some_iff.1 q3).1).trans q3, q4⟩
  rcases h with h | h
  · exact .inl (one _ h)
  · exact .inr (one _ h)
theorem dot_str (l : List Int) : strOfNums (l.flatMap esc1) ++ (⟨#[46]⟩ : ByteArray) = strOfNums (dotted l) := by
  have e : ∀ a b : ByteArray, a.data = b.data → a = b := by
    intro a b h
    cases a; cases b
    simp at h
    rw [h]
  apply e
  apply Array.ext'
  simp [strOfNums, dotted]
set_option maxHeartbeats 2000000 in
set_option maxRecDepth 100000 in
theorem owner_Name.calls (k : Nat) (A0 : Option Addr) (c0 : Nat) (l0 : List (List Int)) (r1 : ByteArray) (r2 : Int) (w : World) (hr0 : Kd.C (Kd.slice 5 (Kd.int .u8)) w A0 l0.length l0) (hc0 : l0.length ≤ c0) (h : owner_Name.f k l0 = some (r1, r2)) :
    Calls Tryd.prog 21 #[.slice A0 l0.length c0] w fun e w' => e = .returned (.tuple #[.string r1, .int .i64 r2]) ∧ Below w.heap.size w w' := by
  unfold owner_Name.f at h
  obtain ⟨ok, hok, h⟩ := Option.bind_eq_some_iff.mp h
  have HOK := Aside0.mk hok
  have HR := Aside0.mk hr0
  have HC := Aside0.mk hc0
  clear hok hr0 hc0
  cases ok with
  | false =>
    simp only [Bool.false_eq_true, if_false, Option.some.injEq, Prod.mk.injEq] at h
    obtain ⟨rfl, rfl⟩ := h
    go_enter Tryd.func21, Tryd.ntmps21
    go_wp2_with (first | (go_at_call 52; (with_reducible refine (owner_right.calls k A0 c0 l0 false _ HR.out HC.out HOK.out).mono ?_); rintro e w' ⟨rfl, ⟨nd, rfl⟩⟩))
    go_ret2
    exact ⟨rfl, pw_below_drewN (Below.refl _ _) nd⟩
  | true =>
    simp only [if_true] at h
    by_cases z : l0.length = 0
    · rw [if_pos z] at h
      simp only [Option.some.injEq, Prod.mk.injEq] at h
      obtain ⟨rfl, rfl⟩ := h
      have hz : ((l0.length : Int) == 0) = true := by simp [z]
      clear z
      go_enter Tryd.func21, Tryd.ntmps21
      go_wp2_with (first | (go_at_call 52; (with_reducible refine (owner_right.calls k A0 c0 l0 true _ HR.out HC.out HOK.out).mono ?_); rintro e w' ⟨rfl, ⟨nd, rfl⟩⟩))
      go_ret2
      exact ⟨rfl, pw_below_drewN (Below.refl _ _) nd⟩
    · rw [if_neg z] at h
      split at h
      case isFalse => cases h
      case isTrue hl =>
      simp only [Option.some.injEq, Prod.mk.injEq] at h
      obtain ⟨rfl, rfl⟩ := h
      unfold labelsOk at hl
      rw [Bool.and_eq_true] at hl
      obtain ⟨hl1, hl2⟩ := hl
      have hlen := of_decide_eq_true hl2
      have hall : ∀ l ∈ l0, (∀ x ∈ l, 0 ≤ x ∧ x ≤ 255) ∧ l.length ≤ 1000 ∧ l.all (fun x => decide (0 ≤ x ∧ x ≤ 255)) = true := fun l hm => by
        have := List.all_eq_true.1 hl1 l hm
        rw [Bool.and_eq_true] at this
        exact ⟨fun x hx => of_decide_eq_true (List.all_eq_true.1 this.1 x hx), of_decide_eq_true this.2, this.1⟩
      have HAL := Aside0.mk hall
      have HLN := Aside0.mk hlen
      have hz : ((l0.length : Int) == 0) = false := by simpa using z
      clear hl1 hl2 hall hlen
      go_enter Tryd.func21, Tryd.ntmps21
      go_wp2_with (first | (go_at_call 52; (with_reducible refine (owner_right.calls k A0 c0 l0 true _ HR.out HC.out HOK.out).mono ?_); rintro e w' ⟨rfl, ⟨nd, rfl⟩⟩))
      have HB0 := Aside0.mk (bld_new (w.drewN nd))
      go_loopg [15] (l0.length + 1) (fun kq v15 wr => ∃ i : Nat, v15 = .int .i64 (i : Int) ∧ Aside0 (kq + i = l0.length + 1 ∧ i ≤ l0.length) ∧ Aside0 (Lib.IsBuilder 81 5 w.heap.size w.heap.size (ocells (nameL (l0.take i))) wr) ∧ Aside0 (Below w.heap.size w wr))
      case atStart => exact ⟨0, rfl, ⟨by omega, by omega⟩, HB0, ⟨(pw_below_drewN (Below.refl _ w) nd).alloc (Nat.le_refl _) _⟩⟩
      case round =>
        clear HB0
        obtain ⟨i, rfl, HI, HBL, HB⟩ := hrel
        cases gk with
        | zero => have := HI.out; omega
        | succ k1 =>
          by_cases hi : i < l0.length
          · obtain ⟨ad, A1, c1, e0, hx, hl1, hi1⟩ := at_L2 (Kd.C_below HR.out HB.out) (i : Int) (by omega) (by omega)
            subst e0
            rw [Int.toNat_natCast] at hx
            have hc := HAL.out _ (show rd_L2 l0 (i : Int) ∈ l0 by
              unfold rd_L2
              simp only [Int.toNat_natCast, List.getD_eq_getElem?_getD, List.getElem?_eq_getElem hi, Option.getD_some]
              exact List.getElem_mem hi)
            have htk := take_rdL2 hi
            have hb1 : decide ((i : Int) < (l0.length : Int)) = true := decide_eq_true (by omega)
            have hb2 : decide (0 ≤ (i : Int)) = true := decide_eq_true (by omega)
            have hw : wrap64 ((i : Int) + 1) = ((i + 1 : Nat) : Int) := by have := HLN.out; unfold wrap64; omega
            have hbl : (ocells (nameL (l0.take i))).length ≤ 4001000 := by
              have h1 := nameL_len (l0.take i) (fun l hl => (HAL.out l (List.mem_of_mem_take hl)).2.1)
              have h2 := HLN.out
              rw [List.length_map]
              rw [List.length_take] at h1
              omega
            have HTK := Aside0.mk htk
            have HW := Aside0.mk hw
            have HBLN := Aside0.mk hbl
            have hBs := HB.out.size
            have HBS := Aside0.mk hBs
            have HI1 := Aside0.mk hi1
            have HL1 := Aside0.mk hl1
            have hq1 : (i : Int) < (l0.length : Int) := by omega
            have q1 := eq_true hq1
            clear htk hw hbl hBs hi1 hl1
            generalize rd_L2 l0 (i : Int) = l at *
            have hes : token_Escape.f l = some (strOfNums (l.flatMap esc1)) := by
              unfold token_Escape.f
              rw [if_pos ⟨hc.2.2, by have := hc.2.1; omega⟩]
            have HES := Aside0.mk hes
            have HCC := Aside0.mk hc
            have hsz : (strOfNums (l.flatMap esc1)).size ≤ 4000 := by
              have := esc_len l
              have := hc.2.1
              rw [strOfNums_size]
              omega
            have HSZ := Aside0.mk hsz
            have hng : ¬ 9223372036854775807 < (strOfNums (l.flatMap esc1)).size + 1 := by omega
            have HBLW := HBL
            clear hi hq1 hc hes hsz
            go_wp2_with (first
              | (go_at_call 17
                 (with_reducible refine (token_Escape.calls A1 c1 l _ _ HI1.out HL1.out HES.out).mono ?_)
                 rintro e w2 ⟨rfl, hb2_⟩))
            refine calls_of_args (args' := #[.pointer (some ⟨w.heap.size, 0, none⟩), .string (strOfNums (dotted l))]) (by rw [dot_str]) ?_
            have hbl1 : Lib.IsBuilder 81 5 w.heap.size w.heap.size (ocells (nameL (l0.take i))) w2 := bld_below HBL.out hb2_
            refine (bld_WriteString w.heap.size w.heap.size _ (strOfNums (dotted l)) w2 hbl1 (by have h1 := dotted_len l HCC.out.2.1; have h2 := HBLN.out; rw [strOfNums_size]; omega) (by have := HBS.out; have := hb2_.size; omega)).mono ?_
            rintro e w3 ⟨rfl, hbl2, hb3_⟩
            go_wp2
            go_roundg k1
            case measure => have := HI.out; omega
            case rel =>
              refine ⟨i + 1, by rw [HW.out], ⟨by have := HI.out; omega, by have := of_decide_eq_true hb1; omega⟩, ⟨.inr ?_⟩, ⟨(HB.out.trans (hb2_.mono HBS.out)).trans hb3_⟩⟩
              rw [HTK.out, name_next, ← ocells_str (dotted_oct HCC.out.1)]
              exact hbl2
          · have hb1 : decide ((i : Int) < (l0.length : Int)) = false := decide_eq_false (by omega)
            have hil : i = l0.length := by have := HI.out; omega
            subst hil
            have hbl := HBL.out
            rw [List.take_length] at hbl
            have HBL2 := Aside0.mk hbl
            have hBs := HB.out.size
            have HBS := Aside0.mk hBs
            clear hbl HBL hi hBs
            go_wp2_with fail
            have hs := HBL2.out
            rw [← ocells_str (nameL_oct (fun l hl => (HAL.out l hl).1)), Lib.strCells_eq] at hs
            refine (bld_String w.heap.size w.heap.size _ wr hs HBS.out).mono ?_
            rintro e w2 ⟨rfl, hb2_⟩
            go_wp2
            go_ret2
            exact ⟨by simp, HB.out.trans hb2_⟩

end Go.Proofs.YtdnfmilnkoocdaaDoor.Q

-- from Hzwr
/- zone.Write: the walk. -/
namespace Go.Proofs.YtdnfmilnkoocdaaDoor.Q
open Go.RowKit Go.Shelf Go.Proofs.YtdnfmilnkoocdaaDoorW.PrintWords Go.Proofs.YtdnfmilnkoocdaaDoorW.PrintLast Go.Proofs.YtdnfmilnkoocdaaDoorW.PrintMore
set_option linter.unusedVariables false
set_option linter.unusedSimpArgs false

def zwLit : ByteArray := ⟨#[32, 73, 78, 32, 78, 85, 76, 76, 10]⟩
def zone_Write.l (k : Nat) : List (List Int) → List Int → Option (List Int)
  | [], acc => some acc
  | x :: X, acc => (owner_Name.f k [x]).bind fun t => if t.2 = 0 then (if x = [] then none else if rd x 0 = 36 then some [] else if acc.length + t.1.size ≤ 100000000 then zone_Write.l k X (acc ++ octs (t.1 ++ zwLit)) else none) else some []
def zone_Write.f (k : Nat) (X : List (List Int)) : Option (List Int) := if X.length ≤ 1000000 then zone_Write.l k X [] else none
theorem zone_Write.mono_l (k : Nat) : ∀ (X : List (List Int)) (acc : List Int), LeO (zone_Write.l k X acc) (zone_Write.l (k + 1) X acc)
  | [], acc => LeO.refl _
  | x :: X, acc => by
    unfold zone_Write.l
    refine LeO.bind (owner_Name.mono _ _) (fun t => LeO.ite (LeO.ite (LeO.refl _) (LeO.ite (LeO.refl _) (LeO.ite (zone_Write.mono_l k X _) (LeO.refl _)))) (LeO.refl _))
theorem zone_Write.mono : ∀ l0 k, LeO (zone_Write.f k l0) (zone_Write.f (k + 1) l0) := by
  intro l0 k
  unfold zone_Write.f
  exact LeO.ite (zone_Write.mono_l k _ _) (LeO.refl _)
/-- A row of one row. -/
theorem C_one {W : World} {g : Nat} {A : Option Addr} {c : Nat} {x : List Int} {f : Nat × Nat} (h : W.heap[g]? = some (.cells #[.slice A x.length c] 22 f)) (hc : x.length ≤ c) (hC : Kd.C (Kd.int .u8) W A x.length x) :
    Kd.C (Kd.slice 5 (Kd.int .u8)) W (some ⟨g, 0, none⟩) ([x] : List (List Int)).length [x] := by
  refine ⟨rfl, by show 1 ≤ _; omega, fun _ => ⟨_, rfl, fun j p hj => ?_⟩⟩
  obtain ⟨rfl, rfl⟩ : j = 0 ∧ p = x := by
    cases j with
    | zero => exact ⟨rfl, (Option.some.inj hj).symm⟩
    | succ j => simp at hj
  refine ⟨[.slice A p.length c], rfl, ⟨A, c, rfl, hc, hC⟩, fun i u hi => ?_⟩
  obtain ⟨rfl, rfl⟩ : i = 0 ∧ u = .slice A p.length c := by
    cases i with
    | zero => exact ⟨rfl, (Option.some.inj hi).symm⟩
    | succ i => simp at hi
  show W.cell? ⟨g, 0, none⟩ = _
  simp only [World.cell?]
  rw [h]
  rfl
theorem octs_enc (s : ByteArray) : (octs s).map (Value.int .u8) = Lib.strCells s := by
  unfold octs Lib.strCells
  rw [List.map_map]
  rfl
theorem zw_next {w wr w2 w9 : World} {v v9 : Value} {acc : List Int} {s : ByteArray} (hV : Kd.R (Kd.int .u8) 5 wr w.heap.size (fun _ => True) v acc) (h2 : Below wr.heap.size wr w2) (ho : w9.ownsRow w.heap.size 5 1 v9 (acc.length + s.size) (encs (Value.int .u8) acc ++ Lib.strCells s)) :
    Kd.R (Kd.int .u8) 5 w9 w.heap.size (fun _ => True) v9 (acc ++ octs s) := by
  refine Kd.R_of_own ?_ (fun _ _ => trivial)
  have e : encs (Value.int .u8) (acc ++ octs s) = encs (Value.int .u8) acc ++ Lib.strCells s := by
    rw [← octs_enc]; unfold encs; rw [List.map_append]
  rw [e, List.length_append, octs_length]
  exact ho
theorem zw_below {w wr w2 w9 : World} {v : Value} {acc : List Int} (hV : Kd.R (Kd.int .u8) 5 wr w.heap.size (fun _ => True) v acc) (hB : Below w.heap.size w wr) (h2 : Below wr.heap.size wr w2) (hg : w2.grownBy w9 v.ownBlock) : Below w.heap.size w w9 :=
  (hB.trans (h2.mono hB.size)).grown hg (hB.trans (h2.mono hB.size)).size (fun k hk => Kd.R_base hV k hk)
set_option maxHeartbeats 4000000 in
set_option maxRecDepth 100000 in
theorem zone_Write.calls (k : Nat) (A0 : Option Addr) (c0 : Nat) (l0 : List (List Int)) (r : List Int) (w : World) (hr0 : Kd.C (Kd.slice 5 (Kd.int .u8)) w A0 l0.length l0) (hc0 : l0.length ≤ c0) (h : zone_Write.f k l0 = some r) :
    Calls Tryd.prog 30 #[.slice A0 l0.length c0] w fun e w' => ∃ v0_ : Value, e = .returned (v0_) ∧ Kd.R (Kd.int .u8) 5 w' w.heap.size (fun _ => True) v0_ r ∧ Below w.heap.size w w' := by
  unfold zone_Write.f at h
  by_cases hl : l0.length ≤ 1000000
  · rw [if_pos hl] at h
    have HL := Aside0.mk hl
    have H := Aside0.mk h
    have HR := Aside0.mk hr0
    have HC := Aside0.mk hc0
    obtain ⟨i0, hi, hz0, hz1, hz2⟩ := info_parts Tryd.bldByte
    have HI0 := Aside0.mk (And.intro hi (And.intro hz0 (And.intro hz1 hz2)))
    clear hl h hr0 hc0 hi hz0 hz1 hz2
    go_enter Tryd.func30, Tryd.ntmps30
    go_wp2
    go_loopg [3, 10] (l0.length + 1) (fun kq v3 v10 wr => ∃ (i : Nat) (acc : List Int), v10 = .int .i64 (i : Int) ∧ Aside0 (i + kq = l0.length + 1 ∧ i ≤ l0.length) ∧ Aside0 (zone_Write.l k (l0.drop i) acc = some r) ∧ Aside0 (Kd.R (Kd.int .u8) 5 wr w.heap.size (fun _ => True) v3 acc) ∧ Aside0 (Below w.heap.size w wr))
    case atStart => exact ⟨0, [], rfl, ⟨by omega, by omega⟩, H, ⟨Kd.R_nil _ _ _ _ _⟩, ⟨Below.refl _ _⟩⟩
    case round =>
      clear H
      obtain ⟨i, acc, rfl, HI, H, HV, HB⟩ := hrel
      cases gk with
      | zero => exact absurd HI.out (by omega)
      | succ kq =>
        by_cases c1 : (i : Int) < (l0.length : Int)
        · have hi : i < l0.length := by omega
          have e8 := eq_true c1
          have e9 : decide ((i : Int) < (l0.length : Int)) = true := decide_eq_true c1
          have b0 : 0 ≤ (i : Int) := by omega
          have b1 : decide (0 ≤ (i : Int)) = true := decide_eq_true b0
          have m2 : wrap64 ((i : Int) + 1) = (i : Int) + 1 := by have := HL.out; unfold wrap64; omega
          obtain ⟨ad, A1, c1x, rfl, hz, hl1, hC1⟩ := at_L2 HR.out (i : Int) (by omega) c1
          rw [Int.toNat_natCast] at hz
          have hz := (HB.out.cell (World.block_lt_of_cell? w _ hz)).trans hz
          have hd : l0.drop i = rd_L2 l0 (i : Int) :: l0.drop (i + 1) := by
            rw [List.drop_eq_getElem_cons hi]; congr 1; unfold rd_L2; simp [List.getD_eq_getElem?_getD, List.getElem?_eq_getElem hi]
          have HH := H.out
          rw [hd] at HH
          generalize rd_L2 l0 (i : Int) = x at hz hl1 hC1 HH hd
          unfold zone_Write.l at HH
          obtain ⟨⟨tn, te⟩, ht, HH⟩ := Option.bind_eq_some_iff.1 HH
          have HT := Aside0.mk ht
          have HCX := Aside0.mk (Kd.C_below hC1 HB.out)
          have HLX := Aside0.mk hl1
          have HII := Aside0.mk hi
          obtain ⟨Av, cv, rfl⟩ := Kd.R_slice HV.out
          clear hd ht hl1 hC1 c1 hi H
          simp only at HH
          by_cases c2 : te = 0
          · rw [if_pos c2] at HH
            subst c2
            by_cases c3 : x = []
            · rw [if_pos c3] at HH; cases HH
            · rw [if_neg c3] at HH
              have hxp : 0 < x.length := List.length_pos_iff.2 c3
              obtain ⟨ad1, had1, hx0⟩ := Kd.at_int HCX.out 0 (by omega) (by omega)
              subst had1
              rw [show ((0 : Int)).toNat = 0 from rfl, Addr.add_zero'] at hx0
              have q0 : ((0 : Int) < (x.length : Int)) = True := eq_true (by omega)
              have q1 : (0 < x.length) = True := eq_true hxp
              have q2 : decide ((0 : Int) < (x.length : Int)) = true := decide_eq_true (by omega)
              by_cases c4 : rd x 0 = 36
              · rw [if_pos c4] at HH
                have HRR := Aside0.mk (Option.some.inj HH)
                have f1 : (rd x 0 == 36) = true := beq_iff_eq.mpr c4
                have f2 := eq_true c4
                clear HH c3 hxp
                go_wp2_with (go_at_call 21; have hCC := C_one (f := (0, 0)) (heap_alloc_new wr _) HLX.out (Kd.C_below HCX.out ((Below.refl _ wr).alloc (Nat.le_refl _) _)); refine (owner_Name.calls k _ _ [x] tn _ _ hCC (by simp) HT.out).mono ?_; rintro e w2 ⟨rfl, hb⟩; have HB2 := Aside0.mk (((Below.refl _ wr).alloc (Nat.le_refl _) _).trans (hb.mono (by simp))); clear hb hCC; have hx0 := (HB2.out.cell (World.block_lt_of_cell? wr _ hx0)).trans hx0)
                go_ret
                exact ⟨_, rfl, by rw [← HRR.out]; exact Kd.R_nil _ _ _ _ _, HB.out.trans (HB2.out.mono HB.out.size)⟩
              · rw [if_neg c4] at HH
                have f1 : (rd x 0 == 36) = false := beq_eq_false_iff_ne.mpr c4
                have f2 := eq_false c4
                by_cases c5 : acc.length + tn.size ≤ 100000000
                · rw [if_pos c5] at HH
                  have HN := Aside0.mk HH
                  have HC5 := Aside0.mk c5
                  have n1 : (9223372036854775807 < tn.size + 9) = False := eq_false (by omega)
                  have hsz : (tn ++ zwLit).size = tn.size + 9 := by rw [ByteArray.size_append]; rfl
                  have HSZ := Aside0.mk hsz
                  clear HH c3 hxp c5 hsz
                  go_wp2_with (first
                    | (go_at_call 21; have hCC := C_one (f := (0, 0)) (heap_alloc_new wr _) HLX.out (Kd.C_below HCX.out ((Below.refl _ wr).alloc (Nat.le_refl _) _)); refine (owner_Name.calls k _ _ [x] tn _ _ hCC (by simp) HT.out).mono ?_; rintro e w2 ⟨rfl, hb⟩; have HB2 := Aside0.mk (((Below.refl _ wr).alloc (Nat.le_refl _) _).trans (hb.mono (by simp))); clear hb hCC; have hx0 := (HB2.out.cell (World.block_lt_of_cell? wr _ hx0)).trans hx0)
                    | (at_builtin; refine Lib.wpList_append_own_string _ rfl _ _ 22 9 rfl w.heap.size 5 i0 Tryd.underlying22 Tryd.underlying9 HI0.out.1 HI0.out.2.1 HI0.out.2.2.1 HI0.out.2.2.2 _ _ _ rfl (Kd.own_of_R (Kd.R_below HV.out HB2.out)) (tn ++ zwLit) rfl (by rw [HSZ.out]; have := HC5.out; unfold maxLen; omega) (by rw [HSZ.out]; have := HC5.out; omega) (by have := HB.out.size; have := HB2.out.size; omega) ?_; intro v9 w9 ho9 hg9 _; have hR9 := zw_next HV.out HB2.out ho9; have HB9 := Aside0.mk (zw_below HV.out HB.out HB2.out hg9); clear hg9 ho9; obtain ⟨A9, c9, rfl⟩ := Kd.R_slice hR9; have HR9 := Aside0.mk hR9; clear hR9))
                  go_roundg kq
                  case measure => omega
                  case rel => exact ⟨i + 1, acc ++ octs (tn ++ zwLit), by first | rfl | (rw [m2]; rfl), ⟨by have := HI.out; omega, by have := HII.out; omega⟩, HN, ⟨by have := HR9.out; rwa [List.length_append] at this⟩, HB9⟩
                · rw [if_neg c5] at HH
                  cases HH
          · rw [if_neg c2] at HH
            have HRR := Aside0.mk (Option.some.inj HH)
            have f1 : (te == 0) = false := beq_eq_false_iff_ne.mpr c2
            have f2 := eq_false c2
            clear HH c2
            have hx0 : True := trivial
            go_wp2_with (go_at_call 21; have hCC := C_one (f := (0, 0)) (heap_alloc_new wr _) HLX.out (Kd.C_below HCX.out ((Below.refl _ wr).alloc (Nat.le_refl _) _)); refine (owner_Name.calls k _ _ [x] tn _ _ hCC (by simp) HT.out).mono ?_; rintro e w2 ⟨rfl, hb⟩; have HB2 := Aside0.mk (((Below.refl _ wr).alloc (Nat.le_refl _) _).trans (hb.mono (by simp))); clear hb hCC)
            go_ret
            exact ⟨_, rfl, by rw [← HRR.out]; exact Kd.R_nil _ _ _ _ _, HB.out.trans (HB2.out.mono HB.out.size)⟩
        · have e8 := eq_false c1
          have e9 : decide ((i : Int) < (l0.length : Int)) = false := decide_eq_false c1
          have hin : i = l0.length := by have := HI.out; omega
          have HH := H.out
          rw [hin, List.drop_length] at HH
          have HRR := Aside0.mk (Option.some.inj HH)
          obtain ⟨Av, cv, rfl⟩ := Kd.R_slice HV.out
          clear c1 hin HH H
          go_wp2
          go_ret
          exact ⟨_, rfl, by rw [← HRR.out]; exact HV.out, HB.out⟩
  · rw [if_neg hl] at h
    cases h
end Go.Proofs.YtdnfmilnkoocdaaDoor.Q

-- from Qf8
-- Made by hp.py, a program of this session, with the kit's printer. Not trusted: Lean checks it.
namespace Go.Proofs.YtdnfmilnkoocdaaDoor.Q
open Go.RowKit Go.Proofs.YtdnfmilnkoocdaaDoorW.PrintWords Go.Proofs.YtdnfmilnkoocdaaDoorW.PrintLast Go.Proofs.YtdnfmilnkoocdaaDoorW.PrintMore
attribute [local go_sem] max2_int min2_int max_two min_two max_three min_three max_four min_four   -- for this text's walks alone
set_option linter.unusedVariables false
set_option linter.unusedSimpArgs false

/-! ### paronymlaw27_ZoneBack: function 8 -/
mutual
def paronymlaw27_ZoneBack.j0 : Nat → List (List Int) → Bool → Option (Bool)
 | 0, _, _ => none
 | k + 1, x0, x16 => if x16 = true then ((paronymlaw27_awake.f k).bind fun t102 => (some t102)) else (paronymlaw27_ZoneBack.l0 k x0 0)
def paronymlaw27_ZoneBack.l0 : Nat → List (List Int) → Int → Option (Bool)
 | 0, _, _ => none
 | k + 1, x0, x3 => if x3 < (x0.length : Int) then (if 0 ≤ x3 then (if ((rd_L2 x0 x3).length : Int) > 100 then (some true) else (paronymlaw27_ZoneBack.l0 k x0 (wrap64 (x3 + 1)))) else (none)) else ((zone_Write.f k x0).bind fun t104 => ((paronymref26_Texts.f k x0).bind fun t107 => ((paronymref27_Write.f k t107).bind fun t110 => (if (strOfNums t104).toList = t110.toList then (if (t104.length : Int) = 0 then (some true) else (paronymlaw27_ZoneBack.l1 k x0 t104 0)) else (some false)))))
def paronymlaw27_ZoneBack.l1 : Nat → List (List Int) → List Int → Int → Option (Bool)
 | 0, _, _, _ => none
 | k + 1, x0, x4, x5 => if x5 < (x0.length : Int) then (if 0 ≤ x5 then ((paronymref11_Lower.f k (strOfNums (rd_L2 x0 x5))).bind fun t112 => (if t112.toList = (strOfNums (rd_L2 x0 x5)).toList then (if x5 > 0 then (if 0 ≤ (wrap64 (x5 - 1)) then (if (wrap64 (x5 - 1)) < (x0.length : Int) then (if ((Op.bytesLess ((strOfNums (rd_L2 x0 (wrap64 (x5 - 1)))).toList) ((strOfNums (rd_L2 x0 x5)).toList)) = true) then (paronymlaw27_ZoneBack.l1 k x0 x4 (wrap64 (x5 + 1))) else (some true)) else (none)) else (none)) else (paronymlaw27_ZoneBack.l1 k x0 x4 (wrap64 (x5 + 1)))) else (some true))) else (none)) else ((zone_Labels.f k x4).bind fun bt114 => (if bt114.2.1 = 0 then (if bt114.2.2 = 0 then ((paronymref26_Texts.f k bt114.1).bind fun t119 => ((paronymref26_Texts.f k x0).bind fun t122 => ((paronymref02_Same.f k t119 t122).bind fun t125 => (some t125)))) else (some false)) else (some false)))
end
def paronymlaw27_ZoneBack.f (k : Nat) (l0 : List (List Int)) : Option (Bool) := (paronymlaw27_awake.f k).bind fun t101 => (if t101 = true then (paronymlaw27_ZoneBack.j0 k l0 (decide ((l0.length : Int) > 30))) else (paronymlaw27_ZoneBack.j0 k l0 true))
theorem paronymlaw27_ZoneBack.mono_l : ∀ k, (∀ y0 y1, LeO (paronymlaw27_ZoneBack.j0 k y0 y1) (paronymlaw27_ZoneBack.j0 (k + 1) y0 y1)) ∧ (∀ y0 y1, LeO (paronymlaw27_ZoneBack.l0 k y0 y1) (paronymlaw27_ZoneBack.l0 (k + 1) y0 y1)) ∧ (∀ y0 y1 y2, LeO (paronymlaw27_ZoneBack.l1 k y0 y1 y2) (paronymlaw27_ZoneBack.l1 (k + 1) y0 y1 y2))
 | 0 => ⟨fun _ _ r h => by simp [paronymlaw27_ZoneBack.j0] at h, fun _ _ r h => by simp [paronymlaw27_ZoneBack.l0] at h, fun _ _ _ r h => by simp [paronymlaw27_ZoneBack.l1] at h⟩
 | k + 1 => by
  obtain ⟨ih0, ih1, ih2⟩ := paronymlaw27_ZoneBack.mono_l k
  refine ⟨?_, ?_, ?_⟩
  ·intro y0 y1
   unfold paronymlaw27_ZoneBack.j0
   repeat' first
   | (with_reducible exact ih0 _ _)
   | (with_reducible exact ih1 _ _)
   | (with_reducible exact ih2 _ _ _)
   | (with_reducible exact paronymlaw27_awake.mono _)
   | (with_reducible exact paronymref02_Same.mono _ _ _)
   | (with_reducible exact paronymref11_Lower.mono _ _)
   | (with_reducible exact paronymref26_Texts.mono _ _)
   | (with_reducible exact paronymref27_Write.mono _ _)
   | (with_reducible exact zone_Labels.mono _ _)
   | (with_reducible exact zone_Write.mono _ _)
   | (with_reducible exact LeO.refl _)
   | (with_reducible exact LeO.none _)
   | (with_reducible refine LeO.ite ?_ ?_)
   | (with_reducible refine LeO.bind ?_ (fun _ => ?_))
   | exact ih0 _ _
   | exact ih1 _ _
   | exact ih2 _ _ _
   | exact paronymlaw27_awake.mono _
   | exact paronymref02_Same.mono _ _ _
   | exact paronymref11_Lower.mono _ _
   | exact paronymref26_Texts.mono _ _
   | exact paronymref27_Write.mono _ _
   | exact zone_Labels.mono _ _
   | exact zone_Write.mono _ _
   | exact LeO.none _
   | refine LeO.ite ?_ ?_
   | refine LeO.bind ?_ (fun _ => ?_)
  ·intro y0 y1
   unfold paronymlaw27_ZoneBack.l0
   repeat' first
   | (with_reducible exact ih0 _ _)
   | (with_reducible exact ih1 _ _)
   | (with_reducible exact ih2 _ _ _)
   | (with_reducible exact paronymlaw27_awake.mono _)
   | (with_reducible exact paronymref02_Same.mono _ _ _)
   | (with_reducible exact paronymref11_Lower.mono _ _)
   | (with_reducible exact paronymref26_Texts.mono _ _)
   | (with_reducible exact paronymref27_Write.mono _ _)
   | (with_reducible exact zone_Labels.mono _ _)
   | (with_reducible exact zone_Write.mono _ _)
   | (with_reducible exact LeO.refl _)
   | (with_reducible exact LeO.none _)
   | (with_reducible refine LeO.ite ?_ ?_)
   | (with_reducible refine LeO.bind ?_ (fun _ => ?_))
   | exact ih0 _ _
   | exact ih1 _ _
   | exact ih2 _ _ _
   | exact paronymlaw27_awake.mono _
   | exact paronymref02_Same.mono _ _ _
   | exact paronymref11_Lower.mono _ _
   | exact paronymref26_Texts.mono _ _
   | exact paronymref27_Write.mono _ _
   | exact zone_Labels.mono _ _
   | exact zone_Write.mono _ _
   | exact LeO.none _
   | refine LeO.ite ?_ ?_
   | refine LeO.bind ?_ (fun _ => ?_)
  ·intro y0 y1 y2
   unfold paronymlaw27_ZoneBack.l1
   repeat' first
   | (with_reducible exact ih0 _ _)
   | (with_reducible exact ih1 _ _)
   | (with_reducible exact ih2 _ _ _)
   | (with_reducible exact paronymlaw27_awake.mono _)
   | (with_reducible exact paronymref02_Same.mono _ _ _)
   | (with_reducible exact paronymref11_Lower.mono _ _)
   | (with_reducible exact paronymref26_Texts.mono _ _)
   | (with_reducible exact paronymref27_Write.mono _ _)
   | (with_reducible exact zone_Labels.mono _ _)
   | (with_reducible exact zone_Write.mono _ _)
   | (with_reducible exact LeO.refl _)
   | (with_reducible exact LeO.none _)
   | (with_reducible refine LeO.ite ?_ ?_)
   | (with_reducible refine LeO.bind ?_ (fun _ => ?_))
   | exact ih0 _ _
   | exact ih1 _ _
   | exact ih2 _ _ _
   | exact paronymlaw27_awake.mono _
   | exact paronymref02_Same.mono _ _ _
   | exact paronymref11_Lower.mono _ _
   | exact paronymref26_Texts.mono _ _
   | exact paronymref27_Write.mono _ _
   | exact zone_Labels.mono _ _
   | exact zone_Write.mono _ _
   | exact LeO.none _
   | refine LeO.ite ?_ ?_
   | refine LeO.bind ?_ (fun _ => ?_)
theorem paronymlaw27_ZoneBack.mono : ∀ a0 k, LeO (paronymlaw27_ZoneBack.f k a0) (paronymlaw27_ZoneBack.f (k + 1) a0) := by
 intro a0 k
 obtain ⟨ih0, ih1, ih2⟩ := paronymlaw27_ZoneBack.mono_l k
 unfold paronymlaw27_ZoneBack.f
 repeat' first
   | (with_reducible exact ih0 _ _)
   | (with_reducible exact ih1 _ _)
   | (with_reducible exact ih2 _ _ _)
   | (with_reducible exact paronymlaw27_awake.mono _)
   | (with_reducible exact paronymref02_Same.mono _ _ _)
   | (with_reducible exact paronymref11_Lower.mono _ _)
   | (with_reducible exact paronymref26_Texts.mono _ _)
   | (with_reducible exact paronymref27_Write.mono _ _)
   | (with_reducible exact zone_Labels.mono _ _)
   | (with_reducible exact zone_Write.mono _ _)
   | (with_reducible exact LeO.refl _)
   | (with_reducible exact LeO.none _)
   | (with_reducible refine LeO.ite ?_ ?_)
   | (with_reducible refine LeO.bind ?_ (fun _ => ?_))
   | exact ih0 _ _
   | exact ih1 _ _
   | exact ih2 _ _ _
   | exact paronymlaw27_awake.mono _
   | exact paronymref02_Same.mono _ _ _
   | exact paronymref11_Lower.mono _ _
   | exact paronymref26_Texts.mono _ _
   | exact paronymref27_Write.mono _ _
   | exact zone_Labels.mono _ _
   | exact zone_Write.mono _ _
   | exact LeO.none _
   | refine LeO.ite ?_ ?_
   | refine LeO.bind ?_ (fun _ => ?_)
set_option maxHeartbeats 8000000 in
set_option maxRecDepth 100000 in
theorem paronymlaw27_ZoneBack.calls (k : Nat) (A0 : Option Addr) (c0 : Nat) (l0 : List (List Int)) (r : Bool) (w : World) (hr0 : Kd.C (Kd.slice 5 (Kd.int .u8)) w A0 l0.length l0) (hc0 : l0.length ≤ c0) (h : paronymlaw27_ZoneBack.f k l0 = some r) :
  Calls Tryd.prog 8 #[.slice A0 l0.length c0] w fun e w' => e = .returned (.bool r) ∧ Below w.heap.size w w' := by
 have HR0 := Aside0.mk hr0
 have HC0 := Aside0.mk hc0
 clear hr0 hc0
 have HB := Aside0.mk (Below.refl w.heap.size w)
 have H : ((paronymlaw27_awake.f k).bind fun t101 => (if t101 = true then (paronymlaw27_ZoneBack.j0 k l0 (decide ((l0.length : Int) > 30))) else (paronymlaw27_ZoneBack.j0 k l0 true))) = some r := h
 clear h
 have HC2 := Aside0.mk H
 clear H
 go_enter Tryd.func8, Tryd.ntmps8
 go_upto_region 1 with (fail)
 go_cut [16] (fun v16 wc => ∃ (kq : Nat) (x16_1 : Bool), v16 = .bool x16_1 ∧ Aside0 (paronymlaw27_ZoneBack.j0 kq l0 x16_1 = some r) ∧ Aside0 (kq ≤ k) ∧ Aside0 (Below w.heap.size w wc))
 case first =>
  have H := HC2.out
  clear HC2
  replace H := Option.bind_eq_some_iff.mp H
  obtain ⟨t101, A30, H⟩ := H
  replace H : (if t101 = true then (paronymlaw27_ZoneBack.j0 k l0 (decide ((l0.length : Int) > 30))) else (paronymlaw27_ZoneBack.j0 k l0 true)) = some r := H
  have A3 := Aside0.mk A30
  clear A30
  by_cases c4 : t101 = true
  ·subst c4
   have H1 : (paronymlaw27_ZoneBack.j0 k l0 (decide ((l0.length : Int) > 30))) = some r := by rw [if_pos rfl] at H; exact H
   clear H
   have H := H1
   clear H1
   have H' := Aside0.mk H
   clear H
   go_wp2_with (first | ((with_reducible refine gate_callee (f := 26) rfl ?_); refine goesL_ (some 10) rfl rfl Tryd.func26 (by kernel_rfl) rfl #[] rfl (by (try simp only [List.map_toArray, List.map_cons, List.map_nil]); first | done | rfl | (simp only [List.length_drop, List.length_take]; rfl)) ?_; (with_reducible refine (paronymlaw27_awake.calls k  true _ A3.out).mono ?_); rintro e w5 ⟨rfl, hb⟩; refine ⟨_, rfl, ?_⟩; have n0_ := Aside0.mk (below_step (by repeat (first | (with_reducible first | exact HB.out | apply below_alloc | apply pw_below_drewN | apply below_drew1) | exact HB.out)) hb); clear HB; have HB := n0_; clear n0_; (try clear hb); (try clear hb2); (try clear hk); (try clear hi)))
   go_meet
   case rel => exact ⟨_, (decide ((l0.length : Int) > 30)), (by first | rfl | (simp; done) | (simp [*]; done)), H', ⟨by first | omega | exact Nat.le_refl _⟩, ⟨by repeat (first | (with_reducible first | exact HB.out | apply below_alloc | apply pw_below_drewN | apply below_drew1) | exact HB.out)⟩⟩
  ·replace c4 := Bool.eq_false_iff.mpr c4
   subst c4
   have H1 : (paronymlaw27_ZoneBack.j0 k l0 true) = some r := by rw [if_neg (show ¬ (false = true) by decide)] at H; exact H
   clear H
   have H := H1
   clear H1
   have H' := Aside0.mk H
   clear H
   go_wp2_with (first | ((with_reducible refine gate_callee (f := 26) rfl ?_); refine goesL_ (some 10) rfl rfl Tryd.func26 (by kernel_rfl) rfl #[] rfl (by (try simp only [List.map_toArray, List.map_cons, List.map_nil]); first | done | rfl | (simp only [List.length_drop, List.length_take]; rfl)) ?_; (with_reducible refine (paronymlaw27_awake.calls k  false _ A3.out).mono ?_); rintro e w6 ⟨rfl, hb⟩; refine ⟨_, rfl, ?_⟩; have n0_ := Aside0.mk (below_step (by repeat (first | (with_reducible first | exact HB.out | apply below_alloc | apply pw_below_drewN | apply below_drew1) | exact HB.out)) hb); clear HB; have HB := n0_; clear n0_; (try clear hb); (try clear hb2); (try clear hk); (try clear hi)))
   go_meet
   case rel => exact ⟨_, (true), (by first | rfl | (simp; done) | (simp [*]; done)), H', ⟨by first | omega | exact Nat.le_refl _⟩, ⟨by repeat (first | (with_reducible first | exact HB.out | apply below_alloc | apply pw_below_drewN | apply below_drew1) | exact HB.out)⟩⟩
 case rest =>
  clear HC2
  try clear c2
  try clear p2
  try clear c4
  obtain ⟨kq, x16_1, rfl, HA, HJ1, HB⟩ := hcut
  cases kq with
  | zero => exact absurd HA.out (by simp [paronymlaw27_ZoneBack.j0])
  | succ kj1 =>
   have H := HA.out
   clear HA
   simp only [paronymlaw27_ZoneBack.j0] at H
   by_cases c7 : x16_1 = true
   ·subst c7
    have H1 : ((paronymlaw27_awake.f kj1).bind fun t102 => (some t102)) = some r := by rw [if_pos rfl] at H; exact H
    clear H
    have H := H1
    clear H1
    replace H := Option.bind_eq_some_iff.mp H
    obtain ⟨t102, A80, H⟩ := H
    replace H : (some t102) = some r := H
    have A8 := Aside0.mk A80
    clear A80
    obtain rfl := Option.some.inj H
    go_wp2_with (first | ((with_reducible refine gate_callee (f := 26) rfl ?_); refine goesL_ (some 17) rfl rfl Tryd.func26 (by kernel_rfl) rfl #[] rfl (by (try simp only [List.map_toArray, List.map_cons, List.map_nil]); first | done | rfl | (simp only [List.length_drop, List.length_take]; rfl)) ?_; (with_reducible refine (paronymlaw27_awake.calls kj1  t102 _ A8.out).mono ?_); rintro e w9 ⟨rfl, hb⟩; refine ⟨_, rfl, ?_⟩; have n0_ := Aside0.mk (below_step (by repeat (first | (with_reducible first | exact HB.out | apply below_alloc | apply pw_below_drewN | apply below_drew1) | exact HB.out)) hb); clear HB; have HB := n0_; clear n0_; (try clear hb); (try clear hb2); (try clear hk); (try clear hi)))
    go_ret
    exact ⟨by first | rfl | (simp [errW_none, errW_some] <;> rfl) | (simp [*, errW_none, errW_some] <;> rfl), by repeat (first | (with_reducible first | exact HB.out | apply below_alloc | apply pw_below_drewN | apply below_drew1) | exact HB.out)⟩
   ·replace c7 := Bool.eq_false_iff.mpr c7
    subst c7
    have H1 : (paronymlaw27_ZoneBack.l0 kj1 l0 0) = some r := by rw [if_neg (show ¬ (false = true) by decide)] at H; exact H
    clear H
    have H := H1
    clear H1
    have H' := Aside0.mk H
    clear H
    go_wp2
    go_loopg [3] kj1 (fun kq v3 w' => ∃ (x3_2 : Int), v3 = .int .i64 x3_2 ∧ Aside0 (paronymlaw27_ZoneBack.l0 kq l0 x3_2 = some r) ∧ Aside0 (kq ≤ kj1) ∧ Aside0 (Below w.heap.size w w'))
    case atStart => exact ⟨(0), (by first | rfl | (simp; done) | (simp [*]; done)), H', ⟨Nat.le_refl _⟩, ⟨by repeat (first | (with_reducible first | exact HB.out | apply below_alloc | apply pw_below_drewN | apply below_drew1) | exact HB.out)⟩⟩
    case round =>
     clear H'
     try clear c2
     try clear p2
     try clear c4
     try clear c7
     try clear c8
     try clear p2
     obtain ⟨x3_2, rfl, HA, HK2, HB⟩ := hrel
     cases gk with
     | zero => exact absurd HA.out (by simp [paronymlaw27_ZoneBack.l0])
     | succ k2 =>
      have H := HA.out
      clear HA
      simp only [paronymlaw27_ZoneBack.l0] at H
      by_cases c10 : x3_2 < (l0.length : Int)
      ·rw [if_pos c10] at H
       have c10b0 : decide (x3_2 < (l0.length : Int)) = true := decide_eq_true c10
       clear c10
       by_cases c11 : 0 ≤ x3_2
       ·rw [if_pos c11] at H
        have c11b0 : decide (0 ≤ x3_2) = true := decide_eq_true c11
        clear c11
        by_cases c12 : ((rd_L2 l0 x3_2).length : Int) > 100
        ·rw [if_pos c12] at H
         have c12b0 : decide (100 < ((rd_L2 l0 x3_2).length : Int)) = true := decide_eq_true c12
         have c12b1 : decide (100 < (rd_L2 l0 x3_2).length) = true := decide_eq_true (by omega)
         clear c12
         obtain rfl := Option.some.inj H
         have p103 : 0 ≤ (x3_2 : Int) := of_decide_eq_true (by first | (with_reducible assumption) | assumption)
         have q103 : x3_2 < (l0.length : Int) := of_decide_eq_true (by first | (with_reducible assumption) | assumption)
         obtain ⟨ad103, A103_0, c103_0, e103, hx103_0, hl103_0, hi103_0⟩ := at_L2 HR0.out x3_2 p103 q103
         cases e103
         replace hx103_0 := (HB.out.cell (World.block_lt_of_cell? w _ hx103_0)).trans hx103_0
         have HR103_0 := Aside0.mk hi103_0
         have HC103_0 := Aside0.mk hl103_0
         clear hi103_0 hl103_0
         replace p103 := eq_true p103
         replace q103 := eq_true q103
         go_wp2
         go_ret
         exact ⟨by first | rfl | (simp [errW_none, errW_some] <;> rfl) | (simp [*, errW_none, errW_some] <;> rfl), by repeat (first | (with_reducible first | exact HB.out | apply below_alloc | apply pw_below_drewN | apply below_drew1) | exact HB.out)⟩
        ·rw [if_neg c12] at H
         have c12b0 : decide (100 < ((rd_L2 l0 x3_2).length : Int)) = false := decide_eq_false c12
         have c12b1 : decide (100 < (rd_L2 l0 x3_2).length) = false := decide_eq_false (by omega)
         clear c12
         have H' := Aside0.mk H
         clear H
         have p103 : 0 ≤ (x3_2 : Int) := of_decide_eq_true (by first | (with_reducible assumption) | assumption)
         have q103 : x3_2 < (l0.length : Int) := of_decide_eq_true (by first | (with_reducible assumption) | assumption)
         obtain ⟨ad103, A103_0, c103_0, e103, hx103_0, hl103_0, hi103_0⟩ := at_L2 HR0.out x3_2 p103 q103
         cases e103
         replace hx103_0 := (HB.out.cell (World.block_lt_of_cell? w _ hx103_0)).trans hx103_0
         have HR103_0 := Aside0.mk hi103_0
         have HC103_0 := Aside0.mk hl103_0
         clear hi103_0 hl103_0
         replace p103 := eq_true p103
         replace q103 := eq_true q103
         go_wp2
         go_roundg k2
         case measure => have := HJ1.out; have := HK2.out; omega
         case rel => exact ⟨(wrap64 (x3_2 + 1)), (by first | rfl | (simp; done) | (simp [*]; done)), H', ⟨by have := HJ1.out; have := HK2.out; omega⟩, ⟨by repeat (first | (with_reducible first | exact HB.out | apply below_alloc | apply pw_below_drewN | apply below_drew1) | exact HB.out)⟩⟩
       ·rw [if_neg c11] at H
        exact absurd H (by simp)
      ·rw [if_neg c10] at H
       have c10b0 : decide (x3_2 < (l0.length : Int)) = false := decide_eq_false c10
       clear c10
       replace H := Option.bind_eq_some_iff.mp H
       obtain ⟨t104, A130, H⟩ := H
       replace H : ((paronymref26_Texts.f k2 l0).bind fun t107 => ((paronymref27_Write.f k2 t107).bind fun t110 => (if (strOfNums t104).toList = t110.toList then (if (t104.length : Int) = 0 then (some true) else (paronymlaw27_ZoneBack.l1 k2 l0 t104 0)) else (some false)))) = some r := H
       have A13 := Aside0.mk A130
       clear A130
       replace H := Option.bind_eq_some_iff.mp H
       obtain ⟨t107, A140, H⟩ := H
       replace H : ((paronymref27_Write.f k2 t107).bind fun t110 => (if (strOfNums t104).toList = t110.toList then (if (t104.length : Int) = 0 then (some true) else (paronymlaw27_ZoneBack.l1 k2 l0 t104 0)) else (some false))) = some r := H
       have A14 := Aside0.mk A140
       clear A140
       replace H := Option.bind_eq_some_iff.mp H
       obtain ⟨t110, A150, H⟩ := H
       replace H : (if (strOfNums t104).toList = t110.toList then (if (t104.length : Int) = 0 then (some true) else (paronymlaw27_ZoneBack.l1 k2 l0 t104 0)) else (some false)) = some r := H
       have A15 := Aside0.mk A150
       clear A150
       by_cases c16 : (strOfNums t104).toList = t110.toList
       ·rw [if_pos c16] at H
        have c16b0 : ((strOfNums t104).toList == t110.toList) = true := beq_iff_eq.mpr c16
        have c16b1 : ((strOfNums t104).toList != t110.toList) = false := bne_eq_false_iff_eq.mpr c16
        clear c16
        by_cases c17 : (t104.length : Int) = 0
        ·rw [if_pos c17] at H
         have c17b0 : ((t104.length : Int) == 0) = true := beq_iff_eq.mpr c17
         have c17b1 : ((t104.length : Int) != 0) = false := bne_eq_false_iff_eq.mpr c17
         clear c17
         obtain rfl := Option.some.inj H
         try go_wp2_with (first | ((with_reducible refine gate_callee (f := 30) rfl ?_); refine goesL_ (some 31) rfl rfl Tryd.func30 (by kernel_rfl) rfl #[.slice A0 l0.length c0] rfl (by (try simp only [List.map_toArray, List.map_cons, List.map_nil]); first | done | rfl | (simp only [List.length_drop, List.length_take]; rfl)) ?_; (with_reducible refine (zone_Write.calls k2 _ _ l0 t104 _ ?side1 ?side2 A13.out).mono ?_); (case side1 => repeat (first | exact (Kd.C_below HR0.out HB.out) | (with_reducible refine Kd.C_alloc ?_ _) | (with_reducible refine Kd.C_drewN ?_ _) | (with_reducible refine Kd.C_drew ?_))); (case side2 => exact HC0.out); rintro e w18 ⟨v105, rfl, ho0, hb⟩; refine ⟨_, rfl, ?_⟩; have n0_ := Aside0.mk (Kd.R_lower ho0 (below_size (by repeat (first | (with_reducible first | exact HB.out | apply below_alloc | apply pw_below_drewN | apply below_drew1) | exact HB.out)))); have n1_ := Aside0.mk (below_step (by repeat (first | (with_reducible first | exact HB.out | apply below_alloc | apply pw_below_drewN | apply below_drew1) | exact HB.out)) hb); clear HB; have HO106 := n0_; have HB := n1_; clear n0_ n1_; (try clear hb); (try clear hb2); (try clear hk); (try clear hi); (try clear ho0)))
         have n0_ := Aside0.mk (Kd.R_drew HO106.out)
         have n1_ := Aside0.mk (below_drew1 HB.out)
         clear HO106
         clear HB
         have HO106 := n0_
         have HB := n1_
         clear n0_ n1_
         have hcv20 := own_string (P := Tryd.prog) Tryd.underlying22 Tryd.underlying5 Tryd.underlying9 (Kd.own_of_R HO106.out)
         have hcv21 := fun (nd_ : Nat) => own_string (P := Tryd.prog) Tryd.underlying22 Tryd.underlying5 Tryd.underlying9 (Kd.own_of_R (Kd.R_drewN HO106.out nd_))
         refine start_ (n := 6) (S := fun w' => Kd.R (Kd.int .u8) 5 w' w.heap.size (fun _ => True) v105 t104) (ds := []) #[false, false, false, false, false, false] (by kernel_rfl) rfl rfl HO106.out (fun hHeld => ?_)
         generalize w18.drew = w19 at HO106 HB hHeld ⊢
         refine pure_ (i := 0) (N := some 32) (v := ?_) (a' := ?_) #[true, false, false, false, false, false] rfl rfl (by kernel_rfl) (fun _ _ _ h => h) (Or.inl ⟨by rfl, ?_⟩) ?_ ?_
         rotate_left
         ·intro w'
          go_simp
          with_reducible rfl
         rotate_left
         ·simp only [Act.put, List.setIfInBounds_toArray, List.set_cons_zero, List.set_cons_succ, i64_w, i32_w]
          rfl
         refine take_ (i := 1) (N := some 33) (v := ?_) (a' := ?_) #[true, true, false, false, false, false] rfl rfl (by kernel_rfl) (fun _ _ _ h => h) (Or.inl ⟨by rfl, ?_⟩) HO106.out ?_ ?_
         rotate_left
         ·intro w' hS_
          have q_ := own_string (P := Tryd.prog) Tryd.underlying22 Tryd.underlying5 Tryd.underlying9 (Kd.own_of_R hS_)
          go_simp
          with_reducible rfl
         rotate_left
         ·simp only [Act.put, List.setIfInBounds_toArray, List.set_cons_zero, List.set_cons_succ, i64_w, i32_w]
          rfl
         refine pure_ (i := 2) (N := some 34) (v := ?_) (a' := ?_) #[true, true, true, false, false, false] rfl rfl (by kernel_rfl) (fun _ _ _ h => h) (Or.inl ⟨by rfl, ?_⟩) ?_ ?_
         rotate_left
         ·intro w'
          go_simp
          with_reducible rfl
         rotate_left
         ·simp only [Act.put, List.setIfInBounds_toArray, List.set_cons_zero, List.set_cons_succ, i64_w, i32_w]
          rfl
         refine one_ (i := 3) (N := some 35) #[true, true, true, true, false, false] rfl rfl (by kernel_rfl) (by decide) (fun K hK => ?_)
         refine goes_ Tryd.func23 (by kernel_rfl) rfl #[.slice A0 l0.length c0] (by rfl) rfl rfl (by (try simp only [List.map_toArray, List.map_cons, List.map_nil]); first | done | rfl | (simp only [List.length_drop, List.length_take]; rfl)) ?_
         with_reducible refine (paronymref26_Texts.calls k2 _ _ l0 t107 _ ?side1 ?side2 A14.out).mono ?_
         (case side1 => repeat (first | exact (Kd.C_below HR0.out HB.out) | (with_reducible refine Kd.C_alloc ?_ _) | (with_reducible refine Kd.C_drewN ?_ _) | (with_reducible refine Kd.C_drew ?_)))
         (case side2 => exact HC0.out)
         rintro e w22 ⟨v108, rfl, ho0, hb⟩
         refine ⟨_, rfl, ?_⟩
         have n0_ := Aside0.mk (Kd.R_below (by (with_reducible repeat (first | apply Kd.R_alloc | apply Kd.R_drewN | apply Kd.R_drew)); exact HO106.out) hb)
         have n1_ := Aside0.mk (Kd.R_lower ho0 (below_size (by repeat (first | (with_reducible first | exact HB.out | apply below_alloc | apply pw_below_drewN | apply below_drew1) | exact HB.out))))
         have n2_ := Aside0.mk (below_step (by repeat (first | (with_reducible first | exact HB.out | apply below_alloc | apply pw_below_drewN | apply below_drew1) | exact HB.out)) hb)
         clear HO106
         clear HB
         have HO106 := n0_
         have HO109 := n1_
         have HB := n2_
         clear n0_ n1_ n2_
         (try clear hb)
         (try clear hb2)
         (try clear hk)
         (try clear hi)
         (try clear ho0)
         obtain ⟨Ao23, co23, eo23⟩ := Kd.R_slice HO109.out
         (first | subst eo23 | (injection eo23 with f1_ f2_ f3_; have f4_ := f1_.symm; have f5_ := f3_.symm; clear f1_ f2_ f3_; subst f4_; subst f5_))
         refine hK.out _ _ HO106.out (fun hHeld => ?_)
         clear hK K
         refine norm_ (a' := ?_) ?_ ?_
         rotate_left
         ·show Act.put _ (some 35) _ = _
          simp only [Act.put, List.setIfInBounds_toArray, List.set_cons_zero, List.set_cons_succ, i64_w, i32_w]
          rfl
         refine one_ (i := 4) (N := some 36) #[true, true, true, true, true, false] rfl rfl (by kernel_rfl) (by decide) (fun K hK => ?_)
         refine goes_ Tryd.func31 (by kernel_rfl) rfl #[.slice Ao23 t107.length co23] (by rfl) rfl rfl (by (try simp only [List.map_toArray, List.map_cons, List.map_nil]); first | done | rfl | (simp only [List.length_drop, List.length_take]; rfl)) ?_
         with_reducible refine (paronymref27_Write.calls k2 _ _ t107 t110 _ ?side1 ?side2 A15.out).mono ?_
         (case side1 => repeat (first | exact (Kd.R_reads' HO109.out).2.2 | (with_reducible refine Kd.C_alloc ?_ _) | (with_reducible refine Kd.C_drewN ?_ _) | (with_reducible refine Kd.C_drew ?_)))
         (case side2 => exact (Kd.R_reads' HO109.out).2.1)
         rintro e w24 ⟨rfl, hb⟩
         refine ⟨_, rfl, ?_⟩
         have n0_ := Aside0.mk (Kd.R_below (by (with_reducible repeat (first | apply Kd.R_alloc | apply Kd.R_drewN | apply Kd.R_drew)); exact HO106.out) hb)
         have n1_ := Aside0.mk (Kd.R_below (by (with_reducible repeat (first | apply Kd.R_alloc | apply Kd.R_drewN | apply Kd.R_drew)); exact HO109.out) hb)
         have n2_ := Aside0.mk (below_step (by repeat (first | (with_reducible first | exact HB.out | apply below_alloc | apply pw_below_drewN | apply below_drew1) | exact HB.out)) hb)
         clear HO106
         clear HO109
         clear HB
         have HO106 := n0_
         have HO109 := n1_
         have HB := n2_
         clear n0_ n1_ n2_
         (try clear hb)
         (try clear hb2)
         (try clear hk)
         (try clear hi)
         refine hK.out _ _ HO106.out (fun hHeld => ?_)
         clear hK K
         refine norm_ (a' := ?_) ?_ ?_
         rotate_left
         ·show Act.put _ (some 36) _ = _
          simp only [Act.put, List.setIfInBounds_toArray, List.set_cons_zero, List.set_cons_succ, i64_w, i32_w]
          rfl
         refine pure_ (i := 5) (N := some 37) (v := ?_) (a' := ?_) #[true, true, true, true, true, true] rfl rfl (by kernel_rfl) (fun _ _ _ h => h) (Or.inl ⟨by rfl, ?_⟩) ?_ ?_
         rotate_left
         ·intro w'
          go_simp
          with_reducible rfl
         rotate_left
         ·simp only [Act.put, List.setIfInBounds_toArray, List.set_cons_zero, List.set_cons_succ, i64_w, i32_w]
          rfl
         refine done_ (by kernel_rfl) ?_
         obtain ⟨Ao26, co26, eo26⟩ := Kd.R_slice HO106.out
         subst eo26
         try go_wp2
         go_ret
         exact ⟨by first | rfl | (simp [errW_none, errW_some] <;> rfl) | (simp [*, errW_none, errW_some] <;> rfl), by repeat (first | (with_reducible first | exact HB.out | apply below_alloc | apply pw_below_drewN | apply below_drew1) | exact HB.out)⟩
        ·rw [if_neg c17] at H
         have c17b0 : ((t104.length : Int) == 0) = false := beq_eq_false_iff_ne.mpr c17
         have c17b1 : ((t104.length : Int) != 0) = true := bne_iff_ne.mpr c17
         have c17b2 : ¬ (t104 = []) := fun h_ => c17 (by rw [h_]; rfl)
         have H' := Aside0.mk H
         clear H
         try go_wp2_with (first | ((with_reducible refine gate_callee (f := 30) rfl ?_); refine goesL_ (some 31) rfl rfl Tryd.func30 (by kernel_rfl) rfl #[.slice A0 l0.length c0] rfl (by (try simp only [List.map_toArray, List.map_cons, List.map_nil]); first | done | rfl | (simp only [List.length_drop, List.length_take]; rfl)) ?_; (with_reducible refine (zone_Write.calls k2 _ _ l0 t104 _ ?side1 ?side2 A13.out).mono ?_); (case side1 => repeat (first | exact (Kd.C_below HR0.out HB.out) | (with_reducible refine Kd.C_alloc ?_ _) | (with_reducible refine Kd.C_drewN ?_ _) | (with_reducible refine Kd.C_drew ?_))); (case side2 => exact HC0.out); rintro e w27 ⟨v105, rfl, ho0, hb⟩; refine ⟨_, rfl, ?_⟩; have n0_ := Aside0.mk (Kd.R_lower ho0 (below_size (by repeat (first | (with_reducible first | exact HB.out | apply below_alloc | apply pw_below_drewN | apply below_drew1) | exact HB.out)))); have n1_ := Aside0.mk (below_step (by repeat (first | (with_reducible first | exact HB.out | apply below_alloc | apply pw_below_drewN | apply below_drew1) | exact HB.out)) hb); clear HB; have HO106 := n0_; have HB := n1_; clear n0_ n1_; (try clear hb); (try clear hb2); (try clear hk); (try clear hi); (try clear ho0)))
         have n0_ := Aside0.mk (Kd.R_drew HO106.out)
         have n1_ := Aside0.mk (below_drew1 HB.out)
         clear HO106
         clear HB
         have HO106 := n0_
         have HB := n1_
         clear n0_ n1_
         have hcv29 := own_string (P := Tryd.prog) Tryd.underlying22 Tryd.underlying5 Tryd.underlying9 (Kd.own_of_R HO106.out)
         have hcv30 := fun (nd_ : Nat) => own_string (P := Tryd.prog) Tryd.underlying22 Tryd.underlying5 Tryd.underlying9 (Kd.own_of_R (Kd.R_drewN HO106.out nd_))
         refine start_ (n := 6) (S := fun w' => Kd.R (Kd.int .u8) 5 w' w.heap.size (fun _ => True) v105 t104) (ds := []) #[false, false, false, false, false, false] (by kernel_rfl) rfl rfl HO106.out (fun hHeld => ?_)
         generalize w27.drew = w28 at HO106 HB hHeld ⊢
         refine pure_ (i := 0) (N := some 32) (v := ?_) (a' := ?_) #[true, false, false, false, false, false] rfl rfl (by kernel_rfl) (fun _ _ _ h => h) (Or.inl ⟨by rfl, ?_⟩) ?_ ?_
         rotate_left
         ·intro w'
          go_simp
          with_reducible rfl
         rotate_left
         ·simp only [Act.put, List.setIfInBounds_toArray, List.set_cons_zero, List.set_cons_succ, i64_w, i32_w]
          rfl
         refine take_ (i := 1) (N := some 33) (v := ?_) (a' := ?_) #[true, true, false, false, false, false] rfl rfl (by kernel_rfl) (fun _ _ _ h => h) (Or.inl ⟨by rfl, ?_⟩) HO106.out ?_ ?_
         rotate_left
         ·intro w' hS_
          have q_ := own_string (P := Tryd.prog) Tryd.underlying22 Tryd.underlying5 Tryd.underlying9 (Kd.own_of_R hS_)
          go_simp
          with_reducible rfl
         rotate_left
         ·simp only [Act.put, List.setIfInBounds_toArray, List.set_cons_zero, List.set_cons_succ, i64_w, i32_w]
          rfl
         refine pure_ (i := 2) (N := some 34) (v := ?_) (a' := ?_) #[true, true, true, false, false, false] rfl rfl (by kernel_rfl) (fun _ _ _ h => h) (Or.inl ⟨by rfl, ?_⟩) ?_ ?_
         rotate_left
         ·intro w'
          go_simp
          with_reducible rfl
         rotate_left
         ·simp only [Act.put, List.setIfInBounds_toArray, List.set_cons_zero, List.set_cons_succ, i64_w, i32_w]
          rfl
         refine one_ (i := 3) (N := some 35) #[true, true, true, true, false, false] rfl rfl (by kernel_rfl) (by decide) (fun K hK => ?_)
         refine goes_ Tryd.func23 (by kernel_rfl) rfl #[.slice A0 l0.length c0] (by rfl) rfl rfl (by (try simp only [List.map_toArray, List.map_cons, List.map_nil]); first | done | rfl | (simp only [List.length_drop, List.length_take]; rfl)) ?_
         with_reducible refine (paronymref26_Texts.calls k2 _ _ l0 t107 _ ?side1 ?side2 A14.out).mono ?_
         (case side1 => repeat (first | exact (Kd.C_below HR0.out HB.out) | (with_reducible refine Kd.C_alloc ?_ _) | (with_reducible refine Kd.C_drewN ?_ _) | (with_reducible refine Kd.C_drew ?_)))
         (case side2 => exact HC0.out)
         rintro e w31 ⟨v108, rfl, ho0, hb⟩
         refine ⟨_, rfl, ?_⟩
         have n0_ := Aside0.mk (Kd.R_below (by (with_reducible repeat (first | apply Kd.R_alloc | apply Kd.R_drewN | apply Kd.R_drew)); exact HO106.out) hb)
         have n1_ := Aside0.mk (Kd.R_lower ho0 (below_size (by repeat (first | (with_reducible first | exact HB.out | apply below_alloc | apply pw_below_drewN | apply below_drew1) | exact HB.out))))
         have n2_ := Aside0.mk (below_step (by repeat (first | (with_reducible first | exact HB.out | apply below_alloc | apply pw_below_drewN | apply below_drew1) | exact HB.out)) hb)
         clear HO106
         clear HB
         have HO106 := n0_
         have HO109 := n1_
         have HB := n2_
         clear n0_ n1_ n2_
         (try clear hb)
         (try clear hb2)
         (try clear hk)
         (try clear hi)
         (try clear ho0)
         obtain ⟨Ao32, co32, eo32⟩ := Kd.R_slice HO109.out
         (first | subst eo32 | (injection eo32 with f1_ f2_ f3_; have f4_ := f1_.symm; have f5_ := f3_.symm; clear f1_ f2_ f3_; subst f4_; subst f5_))
         refine hK.out _ _ HO106.out (fun hHeld => ?_)
         clear hK K
         refine norm_ (a' := ?_) ?_ ?_
         rotate_left
         ·show Act.put _ (some 35) _ = _
          simp only [Act.put, List.setIfInBounds_toArray, List.set_cons_zero, List.set_cons_succ, i64_w, i32_w]
          rfl
         refine one_ (i := 4) (N := some 36) #[true, true, true, true, true, false] rfl rfl (by kernel_rfl) (by decide) (fun K hK => ?_)
         refine goes_ Tryd.func31 (by kernel_rfl) rfl #[.slice Ao32 t107.length co32] (by rfl) rfl rfl (by (try simp only [List.map_toArray, List.map_cons, List.map_nil]); first | done | rfl | (simp only [List.length_drop, List.length_take]; rfl)) ?_
         with_reducible refine (paronymref27_Write.calls k2 _ _ t107 t110 _ ?side1 ?side2 A15.out).mono ?_
         (case side1 => repeat (first | exact (Kd.R_reads' HO109.out).2.2 | (with_reducible refine Kd.C_alloc ?_ _) | (with_reducible refine Kd.C_drewN ?_ _) | (with_reducible refine Kd.C_drew ?_)))
         (case side2 => exact (Kd.R_reads' HO109.out).2.1)
         rintro e w33 ⟨rfl, hb⟩
         refine ⟨_, rfl, ?_⟩
         have n0_ := Aside0.mk (Kd.R_below (by (with_reducible repeat (first | apply Kd.R_alloc | apply Kd.R_drewN | apply Kd.R_drew)); exact HO106.out) hb)
         have n1_ := Aside0.mk (Kd.R_below (by (with_reducible repeat (first | apply Kd.R_alloc | apply Kd.R_drewN | apply Kd.R_drew)); exact HO109.out) hb)
         have n2_ := Aside0.mk (below_step (by repeat (first | (with_reducible first | exact HB.out | apply below_alloc | apply pw_below_drewN | apply below_drew1) | exact HB.out)) hb)
         clear HO106
         clear HO109
         clear HB
         have HO106 := n0_
         have HO109 := n1_
         have HB := n2_
         clear n0_ n1_ n2_
         (try clear hb)
         (try clear hb2)
         (try clear hk)
         (try clear hi)
         refine hK.out _ _ HO106.out (fun hHeld => ?_)
         clear hK K
         refine norm_ (a' := ?_) ?_ ?_
         rotate_left
         ·show Act.put _ (some 36) _ = _
          simp only [Act.put, List.setIfInBounds_toArray, List.set_cons_zero, List.set_cons_succ, i64_w, i32_w]
          rfl
         refine pure_ (i := 5) (N := some 37) (v := ?_) (a' := ?_) #[true, true, true, true, true, true] rfl rfl (by kernel_rfl) (fun _ _ _ h => h) (Or.inl ⟨by rfl, ?_⟩) ?_ ?_
         rotate_left
         ·intro w'
          go_simp
          with_reducible rfl
         rotate_left
         ·simp only [Act.put, List.setIfInBounds_toArray, List.set_cons_zero, List.set_cons_succ, i64_w, i32_w]
          rfl
         refine done_ (by kernel_rfl) ?_
         obtain ⟨Ao35, co35, eo35⟩ := Kd.R_slice HO106.out
         subst eo35
         try go_wp2
         go_loopg [5] k2 (fun kq v5 w' => ∃ (x5_3 : Int), v5 = .int .i64 x5_3 ∧ Aside0 (paronymlaw27_ZoneBack.l1 kq l0 t104 x5_3 = some r) ∧ Aside0 (kq ≤ k2) ∧ Aside0 (Kd.R (Kd.int .u8) 5 w' w.heap.size (fun _ => True) (.slice Ao35 t104.length co35) t104) ∧ Aside0 (Below w.heap.size w w'))
         case atStart => exact ⟨(0), (by first | rfl | (simp; done) | (simp [*]; done)), H', ⟨Nat.le_refl _⟩, ⟨by (with_reducible repeat (first | apply Kd.R_alloc | apply Kd.R_drewN | apply Kd.R_drew)); exact HO106.out⟩, ⟨by repeat (first | (with_reducible first | exact HB.out | apply below_alloc | apply pw_below_drewN | apply below_drew1) | exact HB.out)⟩⟩
         case round =>
          clear H'
          try clear c1
          try clear p1
          try clear q1
          try clear hx1
          try clear c2
          try clear p2
          try clear hcv2
          try clear c3
          try clear hcv3
          try clear c4
          try clear p6
          try clear c7
          try clear c8
          try clear c10
          try clear c10b0
          try clear p10
          try clear q10
          try clear hx10
          try clear c11
          try clear c11b0
          try clear c12
          try clear c12b0
          try clear c12b1
          try clear c16
          try clear c16b0
          try clear c16b1
          try clear c17
          try clear c17b0
          try clear c17b1
          try clear c17b2
          try clear hcv20
          try clear hcv21
          try clear c23
          try clear c26
          try clear hcv29
          try clear c30
          try clear hcv30
          try clear c31
          try clear hx103_0
          try clear p103
          try clear p2
          try clear q103
          obtain ⟨x5_3, rfl, HA, HK3, HO_4, HB⟩ := hrel
          cases gk with
          | zero => exact absurd HA.out (by simp [paronymlaw27_ZoneBack.l1])
          | succ k3 =>
           have H := HA.out
           clear HA
           simp only [paronymlaw27_ZoneBack.l1] at H
           by_cases c36 : x5_3 < (l0.length : Int)
           ·rw [if_pos c36] at H
            have c36b0 : decide (x5_3 < (l0.length : Int)) = true := decide_eq_true c36
            clear c36
            by_cases c37 : 0 ≤ x5_3
            ·rw [if_pos c37] at H
             have c37b0 : decide (0 ≤ x5_3) = true := decide_eq_true c37
             clear c37
             replace H := Option.bind_eq_some_iff.mp H
             obtain ⟨t112, A380, H⟩ := H
             replace H : (if t112.toList = (strOfNums (rd_L2 l0 x5_3)).toList then (if x5_3 > 0 then (if 0 ≤ (wrap64 (x5_3 - 1)) then (if (wrap64 (x5_3 - 1)) < (l0.length : Int) then (if ((Op.bytesLess ((strOfNums (rd_L2 l0 (wrap64 (x5_3 - 1)))).toList) ((strOfNums (rd_L2 l0 x5_3)).toList)) = true) then (paronymlaw27_ZoneBack.l1 k3 l0 t104 (wrap64 (x5_3 + 1))) else (some true)) else (none)) else (none)) else (paronymlaw27_ZoneBack.l1 k3 l0 t104 (wrap64 (x5_3 + 1)))) else (some true)) = some r := H
             have A38 := Aside0.mk A380
             clear A380
             by_cases c39 : t112.toList = (strOfNums (rd_L2 l0 x5_3)).toList
             ·rw [if_pos c39] at H
              have c39b0 : (t112.toList == (strOfNums (rd_L2 l0 x5_3)).toList) = true := beq_iff_eq.mpr c39
              have c39b1 : (t112.toList != (strOfNums (rd_L2 l0 x5_3)).toList) = false := bne_eq_false_iff_eq.mpr c39
              clear c39
              by_cases c40 : x5_3 > 0
              ·rw [if_pos c40] at H
               have c40b0 : decide (0 < x5_3) = true := decide_eq_true c40
               clear c40
               obtain ⟨ji41, hji41⟩ : ∃ j_ : Int, (wrap64 (x5_3 - 1)) = j_ := ⟨_, rfl⟩
               replace H : (if 0 ≤ (ji41) then (if (ji41) < (l0.length : Int) then (if ((Op.bytesLess ((strOfNums (rd_L2 l0 (ji41))).toList) ((strOfNums (rd_L2 l0 x5_3)).toList)) = true) then (paronymlaw27_ZoneBack.l1 k3 l0 t104 (wrap64 (x5_3 + 1))) else (some true)) else (none)) else (none)) = some r := by first | (rw [hji41] at H; exact H) | (simp only [hji41] at H ⊢; exact H)
               (try rw [hji41] at A38)
               have hji41w : (IntKind.i64.wrap (x5_3 - 1)) = ji41 := (i64_w _).trans hji41
               by_cases c42 : 0 ≤ (ji41)
               ·rw [if_pos c42] at H
                have c42b0 : decide (0 ≤ (ji41)) = true := decide_eq_true c42
                clear c42
                by_cases c43 : (ji41) < (l0.length : Int)
                ·rw [if_pos c43] at H
                 have c43b0 : decide ((ji41) < (l0.length : Int)) = true := decide_eq_true c43
                 clear c43
                 by_cases c44 : ((Op.bytesLess ((strOfNums (rd_L2 l0 (ji41))).toList) ((strOfNums (rd_L2 l0 x5_3)).toList)) = true)
                 ·rw [if_pos c44] at H
                  have c44b0 : (Op.bytesLess ((strOfNums (rd_L2 l0 (ji41))).toList) ((strOfNums (rd_L2 l0 x5_3)).toList)) = true := c44
                  clear c44
                  have H' := Aside0.mk H
                  clear H
                  have p111 : 0 ≤ (x5_3 : Int) := of_decide_eq_true (by first | (with_reducible assumption) | assumption)
                  have q111 : x5_3 < (l0.length : Int) := of_decide_eq_true (by first | (with_reducible assumption) | assumption)
                  obtain ⟨ad111, A111_0, c111_0, e111, hx111_0, hl111_0, hi111_0⟩ := at_L2 HR0.out x5_3 p111 q111
                  cases e111
                  replace hx111_0 := (HB.out.cell (World.block_lt_of_cell? w _ hx111_0)).trans hx111_0
                  have HR111_0 := Aside0.mk hi111_0
                  have HC111_0 := Aside0.mk hl111_0
                  clear hi111_0 hl111_0
                  replace p111 := eq_true p111
                  replace q111 := eq_true q111
                  have hcv45 := Kd.C_string (P := Tryd.prog) (A := A111_0) (c := c111_0) Tryd.underlying22 Tryd.underlying5 Tryd.underlying9 (Kd.C_below HR111_0.out HB.out)
                  go_wp2_with (first | ((with_reducible refine gate_callee (f := 28) rfl ?_); refine goesL_ (some 53) rfl rfl Tryd.func28 (by kernel_rfl) rfl #[.string (strOfNums (rd_L2 l0 x5_3))] rfl (by (try simp only [List.map_toArray, List.map_cons, List.map_nil]); first | done | rfl | (simp only [List.length_drop, List.length_take]; rfl)) ?_; (with_reducible refine (paronymref11_Lower.calls k3 (strOfNums (rd_L2 l0 x5_3)) t112 _ A38.out).mono ?_); rintro e w46 ⟨rfl, hb⟩; refine ⟨_, rfl, ?_⟩; have n0_ := Aside0.mk (Kd.R_below (by (with_reducible repeat (first | apply Kd.R_alloc | apply Kd.R_drewN | apply Kd.R_drew)); exact HO_4.out) hb); have n1_ := Aside0.mk (below_step (by repeat (first | (with_reducible first | exact HB.out | apply below_alloc | apply pw_below_drewN | apply below_drew1) | exact HB.out)) hb); clear HO_4; clear HB; have HO_4 := n0_; have HB := n1_; clear n0_ n1_; (try clear hb); (try clear hb2); (try clear hk); (try clear hi); (try have hcv45 := Kd.C_string (P := Tryd.prog) (A := A111_0) (c := c111_0) Tryd.underlying22 Tryd.underlying5 Tryd.underlying9 (Kd.C_below HR111_0.out HB.out)); have p113 : 0 ≤ ((ji41) : Int) := of_decide_eq_true (by first | (with_reducible assumption) | assumption); have q113 : (ji41) < (l0.length : Int) := of_decide_eq_true (by first | (with_reducible assumption) | assumption); obtain ⟨ad113, A113_0, c113_0, e113, hx113_0, hl113_0, hi113_0⟩ := at_L2 HR0.out (ji41) p113 q113; obtain rfl : ad111 = ad113 := (by injection e113); replace hx113_0 := (HB.out.cell (World.block_lt_of_cell? w _ hx113_0)).trans hx113_0; have HR113_0 := Aside0.mk hi113_0; have HC113_0 := Aside0.mk hl113_0; clear hi113_0 hl113_0; replace p113 := eq_true p113; replace q113 := eq_true q113; have hcv47 := Kd.C_string (P := Tryd.prog) (A := A113_0) (c := c113_0) Tryd.underlying22 Tryd.underlying5 Tryd.underlying9 (Kd.C_below HR113_0.out HB.out)))
                  go_roundg k3
                  case measure => have := HJ1.out; have := HK2.out; have := HK3.out; omega
                  case rel => exact ⟨(wrap64 (x5_3 + 1)), (by first | rfl | (simp; done) | (simp [*]; done)), H', ⟨by have := HJ1.out; have := HK2.out; have := HK3.out; omega⟩, ⟨by (with_reducible repeat (first | apply Kd.R_alloc | apply Kd.R_drewN | apply Kd.R_drew)); exact HO_4.out⟩, ⟨by repeat (first | (with_reducible first | exact HB.out | apply below_alloc | apply pw_below_drewN | apply below_drew1) | exact HB.out)⟩⟩
                 ·rw [if_neg c44] at H
                  have c44b0 : (Op.bytesLess ((strOfNums (rd_L2 l0 (ji41))).toList) ((strOfNums (rd_L2 l0 x5_3)).toList)) = false := by simpa using c44
                  clear c44
                  obtain rfl := Option.some.inj H
                  have p111 : 0 ≤ (x5_3 : Int) := of_decide_eq_true (by first | (with_reducible assumption) | assumption)
                  have q111 : x5_3 < (l0.length : Int) := of_decide_eq_true (by first | (with_reducible assumption) | assumption)
                  obtain ⟨ad111, A111_0, c111_0, e111, hx111_0, hl111_0, hi111_0⟩ := at_L2 HR0.out x5_3 p111 q111
                  cases e111
                  replace hx111_0 := (HB.out.cell (World.block_lt_of_cell? w _ hx111_0)).trans hx111_0
                  have HR111_0 := Aside0.mk hi111_0
                  have HC111_0 := Aside0.mk hl111_0
                  clear hi111_0 hl111_0
                  replace p111 := eq_true p111
                  replace q111 := eq_true q111
                  have hcv48 := Kd.C_string (P := Tryd.prog) (A := A111_0) (c := c111_0) Tryd.underlying22 Tryd.underlying5 Tryd.underlying9 (Kd.C_below HR111_0.out HB.out)
                  go_wp2_with (first | ((with_reducible refine gate_callee (f := 28) rfl ?_); refine goesL_ (some 53) rfl rfl Tryd.func28 (by kernel_rfl) rfl #[.string (strOfNums (rd_L2 l0 x5_3))] rfl (by (try simp only [List.map_toArray, List.map_cons, List.map_nil]); first | done | rfl | (simp only [List.length_drop, List.length_take]; rfl)) ?_; (with_reducible refine (paronymref11_Lower.calls k3 (strOfNums (rd_L2 l0 x5_3)) t112 _ A38.out).mono ?_); rintro e w49 ⟨rfl, hb⟩; refine ⟨_, rfl, ?_⟩; have n0_ := Aside0.mk (Kd.R_below (by (with_reducible repeat (first | apply Kd.R_alloc | apply Kd.R_drewN | apply Kd.R_drew)); exact HO_4.out) hb); have n1_ := Aside0.mk (below_step (by repeat (first | (with_reducible first | exact HB.out | apply below_alloc | apply pw_below_drewN | apply below_drew1) | exact HB.out)) hb); clear HO_4; clear HB; have HO_4 := n0_; have HB := n1_; clear n0_ n1_; (try clear hb); (try clear hb2); (try clear hk); (try clear hi); (try have hcv48 := Kd.C_string (P := Tryd.prog) (A := A111_0) (c := c111_0) Tryd.underlying22 Tryd.underlying5 Tryd.underlying9 (Kd.C_below HR111_0.out HB.out)); have p113 : 0 ≤ ((ji41) : Int) := of_decide_eq_true (by first | (with_reducible assumption) | assumption); have q113 : (ji41) < (l0.length : Int) := of_decide_eq_true (by first | (with_reducible assumption) | assumption); obtain ⟨ad113, A113_0, c113_0, e113, hx113_0, hl113_0, hi113_0⟩ := at_L2 HR0.out (ji41) p113 q113; obtain rfl : ad111 = ad113 := (by injection e113); replace hx113_0 := (HB.out.cell (World.block_lt_of_cell? w _ hx113_0)).trans hx113_0; have HR113_0 := Aside0.mk hi113_0; have HC113_0 := Aside0.mk hl113_0; clear hi113_0 hl113_0; replace p113 := eq_true p113; replace q113 := eq_true q113; have hcv50 := Kd.C_string (P := Tryd.prog) (A := A113_0) (c := c113_0) Tryd.underlying22 Tryd.underlying5 Tryd.underlying9 (Kd.C_below HR113_0.out HB.out)))
                  go_ret
                  exact ⟨by first | rfl | (simp [errW_none, errW_some] <;> rfl) | (simp only [← hji41]; first | rfl | (simp [errW_none, errW_some] <;> rfl)) | (simp [*, errW_none, errW_some] <;> rfl), by repeat (first | (with_reducible first | exact HB.out | apply below_alloc | apply pw_below_drewN | apply below_drew1) | exact HB.out)⟩
                ·rw [if_neg c43] at H
                 exact absurd H (by simp)
               ·rw [if_neg c42] at H
                exact absurd H (by simp)
              ·rw [if_neg c40] at H
               have c40b0 : decide (0 < x5_3) = false := decide_eq_false c40
               clear c40
               have H' := Aside0.mk H
               clear H
               have p111 : 0 ≤ (x5_3 : Int) := of_decide_eq_true (by first | (with_reducible assumption) | assumption)
               have q111 : x5_3 < (l0.length : Int) := of_decide_eq_true (by first | (with_reducible assumption) | assumption)
               obtain ⟨ad111, A111_0, c111_0, e111, hx111_0, hl111_0, hi111_0⟩ := at_L2 HR0.out x5_3 p111 q111
               cases e111
               replace hx111_0 := (HB.out.cell (World.block_lt_of_cell? w _ hx111_0)).trans hx111_0
               have HR111_0 := Aside0.mk hi111_0
               have HC111_0 := Aside0.mk hl111_0
               clear hi111_0 hl111_0
               replace p111 := eq_true p111
               replace q111 := eq_true q111
               have hcv51 := Kd.C_string (P := Tryd.prog) (A := A111_0) (c := c111_0) Tryd.underlying22 Tryd.underlying5 Tryd.underlying9 (Kd.C_below HR111_0.out HB.out)
               go_wp2_with (first | ((with_reducible refine gate_callee (f := 28) rfl ?_); refine goesL_ (some 53) rfl rfl Tryd.func28 (by kernel_rfl) rfl #[.string (strOfNums (rd_L2 l0 x5_3))] rfl (by (try simp only [List.map_toArray, List.map_cons, List.map_nil]); first | done | rfl | (simp only [List.length_drop, List.length_take]; rfl)) ?_; (with_reducible refine (paronymref11_Lower.calls k3 (strOfNums (rd_L2 l0 x5_3)) t112 _ A38.out).mono ?_); rintro e w52 ⟨rfl, hb⟩; refine ⟨_, rfl, ?_⟩; have n0_ := Aside0.mk (Kd.R_below (by (with_reducible repeat (first | apply Kd.R_alloc | apply Kd.R_drewN | apply Kd.R_drew)); exact HO_4.out) hb); have n1_ := Aside0.mk (below_step (by repeat (first | (with_reducible first | exact HB.out | apply below_alloc | apply pw_below_drewN | apply below_drew1) | exact HB.out)) hb); clear HO_4; clear HB; have HO_4 := n0_; have HB := n1_; clear n0_ n1_; (try clear hb); (try clear hb2); (try clear hk); (try clear hi); (try have hcv51 := Kd.C_string (P := Tryd.prog) (A := A111_0) (c := c111_0) Tryd.underlying22 Tryd.underlying5 Tryd.underlying9 (Kd.C_below HR111_0.out HB.out))))
               go_roundg k3
               case measure => have := HJ1.out; have := HK2.out; have := HK3.out; omega
               case rel => exact ⟨(wrap64 (x5_3 + 1)), (by first | rfl | (simp; done) | (simp [*]; done)), H', ⟨by have := HJ1.out; have := HK2.out; have := HK3.out; omega⟩, ⟨by (with_reducible repeat (first | apply Kd.R_alloc | apply Kd.R_drewN | apply Kd.R_drew)); exact HO_4.out⟩, ⟨by repeat (first | (with_reducible first | exact HB.out | apply below_alloc | apply pw_below_drewN | apply below_drew1) | exact HB.out)⟩⟩
             ·rw [if_neg c39] at H
              have c39b0 : (t112.toList == (strOfNums (rd_L2 l0 x5_3)).toList) = false := beq_eq_false_iff_ne.mpr c39
              have c39b1 : (t112.toList != (strOfNums (rd_L2 l0 x5_3)).toList) = true := bne_iff_ne.mpr c39
              obtain rfl := Option.some.inj H
              have p111 : 0 ≤ (x5_3 : Int) := of_decide_eq_true (by first | (with_reducible assumption) | assumption)
              have q111 : x5_3 < (l0.length : Int) := of_decide_eq_true (by first | (with_reducible assumption) | assumption)
              obtain ⟨ad111, A111_0, c111_0, e111, hx111_0, hl111_0, hi111_0⟩ := at_L2 HR0.out x5_3 p111 q111
              cases e111
              replace hx111_0 := (HB.out.cell (World.block_lt_of_cell? w _ hx111_0)).trans hx111_0
              have HR111_0 := Aside0.mk hi111_0
              have HC111_0 := Aside0.mk hl111_0
              clear hi111_0 hl111_0
              replace p111 := eq_true p111
              replace q111 := eq_true q111
              have hcv53 := Kd.C_string (P := Tryd.prog) (A := A111_0) (c := c111_0) Tryd.underlying22 Tryd.underlying5 Tryd.underlying9 (Kd.C_below HR111_0.out HB.out)
              go_wp2_with (first | ((with_reducible refine gate_callee (f := 28) rfl ?_); refine goesL_ (some 53) rfl rfl Tryd.func28 (by kernel_rfl) rfl #[.string (strOfNums (rd_L2 l0 x5_3))] rfl (by (try simp only [List.map_toArray, List.map_cons, List.map_nil]); first | done | rfl | (simp only [List.length_drop, List.length_take]; rfl)) ?_; (with_reducible refine (paronymref11_Lower.calls k3 (strOfNums (rd_L2 l0 x5_3)) t112 _ A38.out).mono ?_); rintro e w54 ⟨rfl, hb⟩; refine ⟨_, rfl, ?_⟩; have n0_ := Aside0.mk (Kd.R_below (by (with_reducible repeat (first | apply Kd.R_alloc | apply Kd.R_drewN | apply Kd.R_drew)); exact HO_4.out) hb); have n1_ := Aside0.mk (below_step (by repeat (first | (with_reducible first | exact HB.out | apply below_alloc | apply pw_below_drewN | apply below_drew1) | exact HB.out)) hb); clear HO_4; clear HB; have HO_4 := n0_; have HB := n1_; clear n0_ n1_; (try clear hb); (try clear hb2); (try clear hk); (try clear hi); (try have hcv53 := Kd.C_string (P := Tryd.prog) (A := A111_0) (c := c111_0) Tryd.underlying22 Tryd.underlying5 Tryd.underlying9 (Kd.C_below HR111_0.out HB.out))))
              go_ret
              exact ⟨by first | rfl | (simp [errW_none, errW_some] <;> rfl) | (simp [*, errW_none, errW_some] <;> rfl), by repeat (first | (with_reducible first | exact HB.out | apply below_alloc | apply pw_below_drewN | apply below_drew1) | exact HB.out)⟩
            ·rw [if_neg c37] at H
             exact absurd H (by simp)
           ·rw [if_neg c36] at H
            have c36b0 : decide (x5_3 < (l0.length : Int)) = false := decide_eq_false c36
            clear c36
            replace H := Option.bind_eq_some_iff.mp H
            obtain ⟨⟨t114, t115, t116⟩, A550, H⟩ := H
            replace H : (if t115 = 0 then (if t116 = 0 then ((paronymref26_Texts.f k3 t114).bind fun t119 => ((paronymref26_Texts.f k3 l0).bind fun t122 => ((paronymref02_Same.f k3 t119 t122).bind fun t125 => (some t125)))) else (some false)) else (some false)) = some r := H
            have A55 := Aside0.mk A550
            clear A550
            by_cases c56 : t115 = 0
            ·rw [if_pos c56] at H
             have c56b0 : (t115 == 0) = true := beq_iff_eq.mpr c56
             have c56b1 : (t115 != 0) = false := bne_eq_false_iff_eq.mpr c56
             clear c56
             by_cases c57 : t116 = 0
             ·rw [if_pos c57] at H
              have c57b0 : (t116 == 0) = true := beq_iff_eq.mpr c57
              have c57b1 : (t116 != 0) = false := bne_eq_false_iff_eq.mpr c57
              clear c57
              replace H := Option.bind_eq_some_iff.mp H
              obtain ⟨t119, A580, H⟩ := H
              replace H : ((paronymref26_Texts.f k3 l0).bind fun t122 => ((paronymref02_Same.f k3 t119 t122).bind fun t125 => (some t125))) = some r := H
              have A58 := Aside0.mk A580
              clear A580
              replace H := Option.bind_eq_some_iff.mp H
              obtain ⟨t122, A590, H⟩ := H
              replace H : ((paronymref02_Same.f k3 t119 t122).bind fun t125 => (some t125)) = some r := H
              have A59 := Aside0.mk A590
              clear A590
              replace H := Option.bind_eq_some_iff.mp H
              obtain ⟨t125, A600, H⟩ := H
              replace H : (some t125) = some r := H
              have A60 := Aside0.mk A600
              clear A600
              obtain rfl := Option.some.inj H
              go_wp2_with (first | ((with_reducible refine gate_callee (f := 27) rfl ?_); refine goesL_ (some 72) rfl rfl Tryd.func27 (by kernel_rfl) rfl #[.slice Ao35 t104.length co35] rfl (by (try simp only [List.map_toArray, List.map_cons, List.map_nil]); first | done | rfl | (simp only [List.length_drop, List.length_take]; rfl)) ?_; (with_reducible refine (zone_Labels.calls k3 _ _ t104 t114 t115 t116 _ ?side1 ?side2 A55.out).mono ?_); (case side1 => repeat (first | exact (Kd.R_reads' HO_4.out).2.2 | (with_reducible refine Kd.C_alloc ?_ _) | (with_reducible refine Kd.C_drewN ?_ _) | (with_reducible refine Kd.C_drew ?_))); (case side2 => exact (Kd.R_reads' HO_4.out).2.1); rintro e w61 ⟨v117, rfl, ho0, hb⟩; refine ⟨_, rfl, ?_⟩; have n0_ := Aside0.mk (Kd.R_below (by (with_reducible repeat (first | apply Kd.R_alloc | apply Kd.R_drewN | apply Kd.R_drew)); exact HO_4.out) hb); have n1_ := Aside0.mk (Kd.R_lower (Kd.R_new' ho0 (Kd.R_lt (by (with_reducible repeat (first | apply Kd.R_alloc | apply Kd.R_drewN | apply Kd.R_drew)); exact HO_4.out))) (below_size (by repeat (first | (with_reducible first | exact HB.out | apply below_alloc | apply pw_below_drewN | apply below_drew1) | exact HB.out)))); have n2_ := Aside0.mk (below_step (by repeat (first | (with_reducible first | exact HB.out | apply below_alloc | apply pw_below_drewN | apply below_drew1) | exact HB.out)) hb); clear HO_4; clear HB; have HO_4 := n0_; have HO118 := n1_; have HB := n2_; clear n0_ n1_ n2_; (try clear hb); (try clear hb2); (try clear hk); (try clear hi); (try clear ho0); obtain ⟨Ao62, co62, eo62⟩ := Kd.R_slice HO118.out; subst eo62) | (go_at_call 23; (with_reducible refine (paronymref26_Texts.calls k3 _ _ t114 t119 _ ?side1 ?side2 A58.out).mono ?_); (case side1 => repeat (first | exact (Kd.R_reads' HO118.out).2.2 | (with_reducible refine Kd.C_alloc ?_ _) | (with_reducible refine Kd.C_drewN ?_ _) | (with_reducible refine Kd.C_drew ?_))); (case side2 => exact (Kd.R_reads' HO118.out).2.1); rintro e w63 ⟨v120, rfl, ho0, hb⟩; have n0_ := Aside0.mk (Kd.R_below (by (with_reducible repeat (first | apply Kd.R_alloc | apply Kd.R_drewN | apply Kd.R_drew)); exact HO_4.out) hb); have n1_ := Aside0.mk (Kd.R_below (by (with_reducible repeat (first | apply Kd.R_alloc | apply Kd.R_drewN | apply Kd.R_drew)); exact HO118.out) hb); have n2_ := Aside0.mk (Kd.R_lower ho0 (below_size (by repeat (first | (with_reducible first | exact HB.out | apply below_alloc | apply pw_below_drewN | apply below_drew1) | exact HB.out)))); have n3_ := Aside0.mk (below_step (by repeat (first | (with_reducible first | exact HB.out | apply below_alloc | apply pw_below_drewN | apply below_drew1) | exact HB.out)) hb); clear HO_4; clear HO118; clear HB; have HO_4 := n0_; have HO118 := n1_; have HO121 := n2_; have HB := n3_; clear n0_ n1_ n2_ n3_; (try clear hb); (try clear hb2); (try clear hk); (try clear hi); (try clear ho0)) | (go_at_call 23; (with_reducible refine (paronymref26_Texts.calls k3 _ _ l0 t122 _ ?side1 ?side2 A59.out).mono ?_); (case side1 => repeat (first | exact (Kd.C_below HR0.out HB.out) | (with_reducible refine Kd.C_alloc ?_ _) | (with_reducible refine Kd.C_drewN ?_ _) | (with_reducible refine Kd.C_drew ?_))); (case side2 => exact HC0.out); rintro e w64 ⟨v123, rfl, ho0, hb⟩; have n0_ := Aside0.mk (Kd.R_below (by (with_reducible repeat (first | apply Kd.R_alloc | apply Kd.R_drewN | apply Kd.R_drew)); exact HO_4.out) hb); have n1_ := Aside0.mk (Kd.R_below (by (with_reducible repeat (first | apply Kd.R_alloc | apply Kd.R_drewN | apply Kd.R_drew)); exact HO118.out) hb); have n2_ := Aside0.mk (Kd.R_elder' (by (with_reducible repeat (first | apply Kd.R_alloc | apply Kd.R_drewN | apply Kd.R_drew)); exact HO121.out) (Kd.R_base ho0) hb); have n3_ := Aside0.mk (Kd.R_lower (Kd.R_new' ho0 (Kd.R_lt (by (with_reducible repeat (first | apply Kd.R_alloc | apply Kd.R_drewN | apply Kd.R_drew)); exact HO121.out))) (below_size (by repeat (first | (with_reducible first | exact HB.out | apply below_alloc | apply pw_below_drewN | apply below_drew1) | exact HB.out)))); have n4_ := Aside0.mk (below_step (by repeat (first | (with_reducible first | exact HB.out | apply below_alloc | apply pw_below_drewN | apply below_drew1) | exact HB.out)) hb); clear HO_4; clear HO118; clear HO121; clear HB; have HO_4 := n0_; have HO118 := n1_; have HO121 := n2_; have HO124 := n3_; have HB := n4_; clear n0_ n1_ n2_ n3_ n4_; (try clear hb); (try clear hb2); (try clear hk); (try clear hi); (try clear ho0); obtain ⟨Ao65, co65, eo65⟩ := Kd.R_slice HO121.out; subst eo65; obtain ⟨Ao66, co66, eo66⟩ := Kd.R_slice HO124.out; subst eo66) | (go_at_call 16; (with_reducible refine (paronymref02_Same.calls k3 _ _ t119 _ _ t122 t125 _ ?side1 ?side2 ?side3 ?side4 A60.out).mono ?_); (case side1 => repeat (first | exact (Kd.R_reads' HO121.out).2.2 | (with_reducible refine Kd.C_alloc ?_ _) | (with_reducible refine Kd.C_drewN ?_ _) | (with_reducible refine Kd.C_drew ?_))); (case side2 => exact (Kd.R_reads' HO121.out).2.1); (case side3 => repeat (first | exact (Kd.R_reads' HO124.out).2.2 | (with_reducible refine Kd.C_alloc ?_ _) | (with_reducible refine Kd.C_drewN ?_ _) | (with_reducible refine Kd.C_drew ?_))); (case side4 => exact (Kd.R_reads' HO124.out).2.1); rintro e w' ⟨rfl, ⟨nd, rfl⟩⟩))
              go_ret
              exact ⟨by first | rfl | (simp [errW_none, errW_some] <;> rfl) | (simp [*, errW_none, errW_some] <;> rfl), by repeat (first | (with_reducible first | exact HB.out | apply below_alloc | apply pw_below_drewN | apply below_drew1) | exact HB.out)⟩
             ·rw [if_neg c57] at H
              have c57b0 : (t116 == 0) = false := beq_eq_false_iff_ne.mpr c57
              have c57b1 : (t116 != 0) = true := bne_iff_ne.mpr c57
              obtain rfl := Option.some.inj H
              go_wp2_with (first | ((with_reducible refine gate_callee (f := 27) rfl ?_); refine goesL_ (some 72) rfl rfl Tryd.func27 (by kernel_rfl) rfl #[.slice Ao35 t104.length co35] rfl (by (try simp only [List.map_toArray, List.map_cons, List.map_nil]); first | done | rfl | (simp only [List.length_drop, List.length_take]; rfl)) ?_; (with_reducible refine (zone_Labels.calls k3 _ _ t104 t114 t115 t116 _ ?side1 ?side2 A55.out).mono ?_); (case side1 => repeat (first | exact (Kd.R_reads' HO_4.out).2.2 | (with_reducible refine Kd.C_alloc ?_ _) | (with_reducible refine Kd.C_drewN ?_ _) | (with_reducible refine Kd.C_drew ?_))); (case side2 => exact (Kd.R_reads' HO_4.out).2.1); rintro e w67 ⟨v117, rfl, ho0, hb⟩; refine ⟨_, rfl, ?_⟩; have n0_ := Aside0.mk (Kd.R_below (by (with_reducible repeat (first | apply Kd.R_alloc | apply Kd.R_drewN | apply Kd.R_drew)); exact HO_4.out) hb); have n1_ := Aside0.mk (Kd.R_lower (Kd.R_new' ho0 (Kd.R_lt (by (with_reducible repeat (first | apply Kd.R_alloc | apply Kd.R_drewN | apply Kd.R_drew)); exact HO_4.out))) (below_size (by repeat (first | (with_reducible first | exact HB.out | apply below_alloc | apply pw_below_drewN | apply below_drew1) | exact HB.out)))); have n2_ := Aside0.mk (below_step (by repeat (first | (with_reducible first | exact HB.out | apply below_alloc | apply pw_below_drewN | apply below_drew1) | exact HB.out)) hb); clear HO_4; clear HB; have HO_4 := n0_; have HO118 := n1_; have HB := n2_; clear n0_ n1_ n2_; (try clear hb); (try clear hb2); (try clear hk); (try clear hi); (try clear ho0)))
              go_ret
              exact ⟨by first | rfl | (simp [errW_none, errW_some] <;> rfl) | (simp [*, errW_none, errW_some] <;> rfl), by repeat (first | (with_reducible first | exact HB.out | apply below_alloc | apply pw_below_drewN | apply below_drew1) | exact HB.out)⟩
            ·rw [if_neg c56] at H
             have c56b0 : (t115 == 0) = false := beq_eq_false_iff_ne.mpr c56
             have c56b1 : (t115 != 0) = true := bne_iff_ne.mpr c56
             obtain rfl := Option.some.inj H
             go_wp2_with (first | ((with_reducible refine gate_callee (f := 27) rfl ?_); refine goesL_ (some 72) rfl rfl Tryd.func27 (by kernel_rfl) rfl #[.slice Ao35 t104.length co35] rfl (by (try simp only [List.map_toArray, List.map_cons, List.map_nil]); first | done | rfl | (simp only [List.length_drop, List.length_take]; rfl)) ?_; (with_reducible refine (zone_Labels.calls k3 _ _ t104 t114 t115 t116 _ ?side1 ?side2 A55.out).mono ?_); (case side1 => repeat (first | exact (Kd.R_reads' HO_4.out).2.2 | (with_reducible refine Kd.C_alloc ?_ _) | (with_reducible refine Kd.C_drewN ?_ _) | (with_reducible refine Kd.C_drew ?_))); (case side2 => exact (Kd.R_reads' HO_4.out).2.1); rintro e w68 ⟨v117, rfl, ho0, hb⟩; refine ⟨_, rfl, ?_⟩; have n0_ := Aside0.mk (Kd.R_below (by (with_reducible repeat (first | apply Kd.R_alloc | apply Kd.R_drewN | apply Kd.R_drew)); exact HO_4.out) hb); have n1_ := Aside0.mk (Kd.R_lower (Kd.R_new' ho0 (Kd.R_lt (by (with_reducible repeat (first | apply Kd.R_alloc | apply Kd.R_drewN | apply Kd.R_drew)); exact HO_4.out))) (below_size (by repeat (first | (with_reducible first | exact HB.out | apply below_alloc | apply pw_below_drewN | apply below_drew1) | exact HB.out)))); have n2_ := Aside0.mk (below_step (by repeat (first | (with_reducible first | exact HB.out | apply below_alloc | apply pw_below_drewN | apply below_drew1) | exact HB.out)) hb); clear HO_4; clear HB; have HO_4 := n0_; have HO118 := n1_; have HB := n2_; clear n0_ n1_ n2_; (try clear hb); (try clear hb2); (try clear hk); (try clear hi); (try clear ho0)))
             go_ret
             exact ⟨by first | rfl | (simp [errW_none, errW_some] <;> rfl) | (simp [*, errW_none, errW_some] <;> rfl), by repeat (first | (with_reducible first | exact HB.out | apply below_alloc | apply pw_below_drewN | apply below_drew1) | exact HB.out)⟩
       ·rw [if_neg c16] at H
        have c16b0 : ((strOfNums t104).toList == t110.toList) = false := beq_eq_false_iff_ne.mpr c16
        have c16b1 : ((strOfNums t104).toList != t110.toList) = true := bne_iff_ne.mpr c16
        obtain rfl := Option.some.inj H
        try go_wp2_with (first | ((with_reducible refine gate_callee (f := 30) rfl ?_); refine goesL_ (some 31) rfl rfl Tryd.func30 (by kernel_rfl) rfl #[.slice A0 l0.length c0] rfl (by (try simp only [List.map_toArray, List.map_cons, List.map_nil]); first | done | rfl | (simp only [List.length_drop, List.length_take]; rfl)) ?_; (with_reducible refine (zone_Write.calls k2 _ _ l0 t104 _ ?side1 ?side2 A13.out).mono ?_); (case side1 => repeat (first | exact (Kd.C_below HR0.out HB.out) | (with_reducible refine Kd.C_alloc ?_ _) | (with_reducible refine Kd.C_drewN ?_ _) | (with_reducible refine Kd.C_drew ?_))); (case side2 => exact HC0.out); rintro e w69 ⟨v105, rfl, ho0, hb⟩; refine ⟨_, rfl, ?_⟩; have n0_ := Aside0.mk (Kd.R_lower ho0 (below_size (by repeat (first | (with_reducible first | exact HB.out | apply below_alloc | apply pw_below_drewN | apply below_drew1) | exact HB.out)))); have n1_ := Aside0.mk (below_step (by repeat (first | (with_reducible first | exact HB.out | apply below_alloc | apply pw_below_drewN | apply below_drew1) | exact HB.out)) hb); clear HB; have HO106 := n0_; have HB := n1_; clear n0_ n1_; (try clear hb); (try clear hb2); (try clear hk); (try clear hi); (try clear ho0)))
        have n0_ := Aside0.mk (Kd.R_drew HO106.out)
        have n1_ := Aside0.mk (below_drew1 HB.out)
        clear HO106
        clear HB
        have HO106 := n0_
        have HB := n1_
        clear n0_ n1_
        have hcv71 := own_string (P := Tryd.prog) Tryd.underlying22 Tryd.underlying5 Tryd.underlying9 (Kd.own_of_R HO106.out)
        have hcv72 := fun (nd_ : Nat) => own_string (P := Tryd.prog) Tryd.underlying22 Tryd.underlying5 Tryd.underlying9 (Kd.own_of_R (Kd.R_drewN HO106.out nd_))
        refine start_ (n := 6) (S := fun w' => Kd.R (Kd.int .u8) 5 w' w.heap.size (fun _ => True) v105 t104) (ds := []) #[false, false, false, false, false, false] (by kernel_rfl) rfl rfl HO106.out (fun hHeld => ?_)
        generalize w69.drew = w70 at HO106 HB hHeld ⊢
        refine pure_ (i := 0) (N := some 32) (v := ?_) (a' := ?_) #[true, false, false, false, false, false] rfl rfl (by kernel_rfl) (fun _ _ _ h => h) (Or.inl ⟨by rfl, ?_⟩) ?_ ?_
        rotate_left
        ·intro w'
         go_simp
         with_reducible rfl
        rotate_left
        ·simp only [Act.put, List.setIfInBounds_toArray, List.set_cons_zero, List.set_cons_succ, i64_w, i32_w]
         rfl
        refine take_ (i := 1) (N := some 33) (v := ?_) (a' := ?_) #[true, true, false, false, false, false] rfl rfl (by kernel_rfl) (fun _ _ _ h => h) (Or.inl ⟨by rfl, ?_⟩) HO106.out ?_ ?_
        rotate_left
        ·intro w' hS_
         have q_ := own_string (P := Tryd.prog) Tryd.underlying22 Tryd.underlying5 Tryd.underlying9 (Kd.own_of_R hS_)
         go_simp
         with_reducible rfl
        rotate_left
        ·simp only [Act.put, List.setIfInBounds_toArray, List.set_cons_zero, List.set_cons_succ, i64_w, i32_w]
         rfl
        refine pure_ (i := 2) (N := some 34) (v := ?_) (a' := ?_) #[true, true, true, false, false, false] rfl rfl (by kernel_rfl) (fun _ _ _ h => h) (Or.inl ⟨by rfl, ?_⟩) ?_ ?_
        rotate_left
        ·intro w'
         go_simp
         with_reducible rfl
        rotate_left
        ·simp only [Act.put, List.setIfInBounds_toArray, List.set_cons_zero, List.set_cons_succ, i64_w, i32_w]
         rfl
        refine one_ (i := 3) (N := some 35) #[true, true, true, true, false, false] rfl rfl (by kernel_rfl) (by decide) (fun K hK => ?_)
        refine goes_ Tryd.func23 (by kernel_rfl) rfl #[.slice A0 l0.length c0] (by rfl) rfl rfl (by (try simp only [List.map_toArray, List.map_cons, List.map_nil]); first | done | rfl | (simp only [List.length_drop, List.length_take]; rfl)) ?_
        with_reducible refine (paronymref26_Texts.calls k2 _ _ l0 t107 _ ?side1 ?side2 A14.out).mono ?_
        (case side1 => repeat (first | exact (Kd.C_below HR0.out HB.out) | (with_reducible refine Kd.C_alloc ?_ _) | (with_reducible refine Kd.C_drewN ?_ _) | (with_reducible refine Kd.C_drew ?_)))
        (case side2 => exact HC0.out)
        rintro e w73 ⟨v108, rfl, ho0, hb⟩
        refine ⟨_, rfl, ?_⟩
        have n0_ := Aside0.mk (Kd.R_below (by (with_reducible repeat (first | apply Kd.R_alloc | apply Kd.R_drewN | apply Kd.R_drew)); exact HO106.out) hb)
        have n1_ := Aside0.mk (Kd.R_lower ho0 (below_size (by repeat (first | (with_reducible first | exact HB.out | apply below_alloc | apply pw_below_drewN | apply below_drew1) | exact HB.out))))
        have n2_ := Aside0.mk (below_step (by repeat (first | (with_reducible first | exact HB.out | apply below_alloc | apply pw_below_drewN | apply below_drew1) | exact HB.out)) hb)
        clear HO106
        clear HB
        have HO106 := n0_
        have HO109 := n1_
        have HB := n2_
        clear n0_ n1_ n2_
        (try clear hb)
        (try clear hb2)
        (try clear hk)
        (try clear hi)
        (try clear ho0)
        obtain ⟨Ao74, co74, eo74⟩ := Kd.R_slice HO109.out
        (first | subst eo74 | (injection eo74 with f1_ f2_ f3_; have f4_ := f1_.symm; have f5_ := f3_.symm; clear f1_ f2_ f3_; subst f4_; subst f5_))
        refine hK.out _ _ HO106.out (fun hHeld => ?_)
        clear hK K
        refine norm_ (a' := ?_) ?_ ?_
        rotate_left
        ·show Act.put _ (some 35) _ = _
         simp only [Act.put, List.setIfInBounds_toArray, List.set_cons_zero, List.set_cons_succ, i64_w, i32_w]
         rfl
        refine one_ (i := 4) (N := some 36) #[true, true, true, true, true, false] rfl rfl (by kernel_rfl) (by decide) (fun K hK => ?_)
        refine goes_ Tryd.func31 (by kernel_rfl) rfl #[.slice Ao74 t107.length co74] (by rfl) rfl rfl (by (try simp only [List.map_toArray, List.map_cons, List.map_nil]); first | done | rfl | (simp only [List.length_drop, List.length_take]; rfl)) ?_
        with_reducible refine (paronymref27_Write.calls k2 _ _ t107 t110 _ ?side1 ?side2 A15.out).mono ?_
        (case side1 => repeat (first | exact (Kd.R_reads' HO109.out).2.2 | (with_reducible refine Kd.C_alloc ?_ _) | (with_reducible refine Kd.C_drewN ?_ _) | (with_reducible refine Kd.C_drew ?_)))
        (case side2 => exact (Kd.R_reads' HO109.out).2.1)
        rintro e w75 ⟨rfl, hb⟩
        refine ⟨_, rfl, ?_⟩
        have n0_ := Aside0.mk (Kd.R_below (by (with_reducible repeat (first | apply Kd.R_alloc | apply Kd.R_drewN | apply Kd.R_drew)); exact HO106.out) hb)
        have n1_ := Aside0.mk (Kd.R_below (by (with_reducible repeat (first | apply Kd.R_alloc | apply Kd.R_drewN | apply Kd.R_drew)); exact HO109.out) hb)
        have n2_ := Aside0.mk (below_step (by repeat (first | (with_reducible first | exact HB.out | apply below_alloc | apply pw_below_drewN | apply below_drew1) | exact HB.out)) hb)
        clear HO106
        clear HO109
        clear HB
        have HO106 := n0_
        have HO109 := n1_
        have HB := n2_
        clear n0_ n1_ n2_
        (try clear hb)
        (try clear hb2)
        (try clear hk)
        (try clear hi)
        refine hK.out _ _ HO106.out (fun hHeld => ?_)
        clear hK K
        refine norm_ (a' := ?_) ?_ ?_
        rotate_left
        ·show Act.put _ (some 36) _ = _
         simp only [Act.put, List.setIfInBounds_toArray, List.set_cons_zero, List.set_cons_succ, i64_w, i32_w]
         rfl
        refine pure_ (i := 5) (N := some 37) (v := ?_) (a' := ?_) #[true, true, true, true, true, true] rfl rfl (by kernel_rfl) (fun _ _ _ h => h) (Or.inl ⟨by rfl, ?_⟩) ?_ ?_
        rotate_left
        ·intro w'
         go_simp
         with_reducible rfl
        rotate_left
        ·simp only [Act.put, List.setIfInBounds_toArray, List.set_cons_zero, List.set_cons_succ, i64_w, i32_w]
         rfl
        refine done_ (by kernel_rfl) ?_
        try go_wp2
        go_ret
        exact ⟨by first | rfl | (simp [errW_none, errW_some] <;> rfl) | (simp [*, errW_none, errW_some] <;> rfl), by repeat (first | (with_reducible first | exact HB.out | apply below_alloc | apply pw_below_drewN | apply below_drew1) | exact HB.out)⟩

end Go.Proofs.YtdnfmilnkoocdaaDoor.Q

-- from Ptok
/- Words of a line: the list functions, and what a blank between two lines does. -/
namespace Go.Proofs.YtdnfmilnkoocdaaDoor.K
set_option linter.unusedVariables false
set_option linter.unusedSimpArgs false
open Go.RowKit Go.Proofs.YtdnfmilnkoocdaaDoorW.PrintWords

def dig (c : Int) : Bool := decide (48 ≤ c ∧ c ≤ 57)
def blank (c : Int) : Bool := decide (c = 32 ∨ c = 9)
def sep (c : Int) : Bool := decide (c = 32 ∨ c = 9 ∨ c = 59)
/-- How many octets an escape has with which a list begins; 0: it is none. -/
def escL : List Int → Nat
  | _ :: c1 :: c2 :: c3 :: _ => if dig c1 = true then (if dig c2 = true ∧ dig c3 = true ∧ (c1 - 48) * 100 + (c2 - 48) * 10 + (c3 - 48) ≤ 255 then 4 else 0) else 2
  | _ :: c1 :: _ => if dig c1 = true then 0 else 2
  | _ => 0
def bump : Sum Int Nat → Sum Int Nat
  | .inl e => .inl e
  | .inr n => .inr (n + 1)
def scan (q : Bool) : Nat → List Int → Sum Int Nat
  | _, [] => if q = true then .inl 61 else .inr 0
  | k + 1, _ :: t => bump (scan q k t)
  | 0, c :: t =>
    if c = 92 then (if escL (c :: t) = 0 then .inl 60 else bump (scan q (escL (c :: t) - 1) t))
    else if q = true ∧ c = 34 then (match t with | [] => .inr 1 | d :: _ => if sep d = true then .inr 1 else .inl 61)
    else if c = 34 then .inl 61
    else if q = false ∧ (c = 40 ∨ c = 41) then .inl 11
    else if q = false ∧ sep c = true then .inr 0
    else bump (scan q 0 t)
def wordL : List Int → Sum Int Nat
  | [] => .inr 0
  | c :: u => if c = 34 then bump (scan true 0 u) else scan false 0 (c :: u)
def push (w : List Int) : Sum Int (List (List Int)) → Sum Int (List (List Int))
  | .inl e => .inl e
  | .inr l => .inr (w :: l)
/-- The words of a line, or its first error. -/
inductive Spl : List Int → Sum Int (List (List Int)) → Prop
  | nil {L : List Int} : L.dropWhile blank = [] → Spl L (.inr [])
  | rem {L u : List Int} : L.dropWhile blank = 59 :: u → Spl L (.inr [])
  | err {L u : List Int} {c e : Int} : L.dropWhile blank = c :: u → c ≠ 59 → wordL (c :: u) = .inl e → Spl L (.inl e)
  | more {L u : List Int} {c : Int} {n : Nat} {r : Sum Int (List (List Int))} : L.dropWhile blank = c :: u → c ≠ 59 → wordL (c :: u) = .inr n → Spl ((c :: u).drop n) r → Spl L (push ((c :: u).take n) r)

theorem wordL_cons (c : Int) (u : List Int) : wordL (c :: u) = if c = 34 then bump (scan true 0 u) else scan false 0 (c :: u) := rfl
theorem bump_inr {x : Sum Int Nat} {n : Nat} (h : bump x = .inr n) : ∃ m, x = .inr m ∧ n = m + 1 := by
  cases x with
  | inl e => cases h
  | inr m => exact ⟨m, rfl, by injection h with h; omega⟩
theorem bump_inl {x : Sum Int Nat} {e : Int} (h : bump x = .inl e) : x = .inl e := by
  cases x with
  | inl e' => injection h with h; rw [h]
  | inr m => cases h
theorem escL_2 (a b : Int) : escL [a, b] = if dig b = true then 0 else 2 := rfl
theorem escL_3 (a b c : Int) : escL [a, b, c] = if dig b = true then 0 else 2 := rfl
theorem escL_4 (a b c d : Int) (r : List Int) : escL (a :: b :: c :: d :: r) = (if dig b = true then (if dig c = true ∧ dig d = true ∧ (b - 48) * 100 + (c - 48) * 10 + (d - 48) ≤ 255 then 4 else 0) else 2) := rfl
theorem escL_nz {t : List Int} (h : escL t ≠ 0) : escL t ≤ t.length ∧ 2 ≤ escL t := by
  match t with
  | [] => exact absurd rfl h
  | [_] => exact absurd rfl h
  | [a, b] => unfold escL at h ⊢; split at h <;> simp_all
  | [a, b, c] => unfold escL at h ⊢; split at h <;> simp_all
  | a :: b :: c :: d :: r =>
    have e : escL (a :: b :: c :: d :: r) = (if dig b = true then (if dig c = true ∧ dig d = true ∧ (b - 48) * 100 + (c - 48) * 10 + (d - 48) ≤ 255 then 4 else 0) else 2) := rfl
    rw [e] at h ⊢
    by_cases h1 : dig b = true
    · rw [if_pos h1] at h ⊢
      by_cases h2 : dig c = true ∧ dig d = true ∧ (b - 48) * 100 + (c - 48) * 10 + (d - 48) ≤ 255
      · rw [if_pos h2]; simp
      · rw [if_neg h2] at h; exact absurd rfl h
    · rw [if_neg h1]; simp
theorem escL_app {t r : List Int} (h : escL t ≠ 0) : escL (t ++ r) = escL t := by
  match t with
  | [] => exact absurd rfl h
  | [_] => exact absurd rfl h
  | [a, b] =>
    have hb : ¬ dig b = true := fun hb => h (by rw [escL_2, if_pos hb])
    match r with
    | [] => rfl
    | [c] => show escL [a, b, c] = _; rw [escL_2, escL_3]
    | c :: d :: r => show escL (a :: b :: c :: d :: r) = _; rw [escL_2, escL_4, if_neg hb, if_neg hb]
  | [a, b, c] =>
    have hb : ¬ dig b = true := fun hb => h (by rw [escL_3, if_pos hb])
    match r with
    | [] => rfl
    | d :: r => show escL (a :: b :: c :: d :: r) = _; rw [escL_3, escL_4, if_neg hb, if_neg hb]
  | a :: b :: c :: d :: r' => rfl
theorem dig32 : dig 32 = false := by decide
theorem escL_bad {c : Int} {t b : List Int} (h : escL (c :: t) = 0) (hne : t ≠ []) : escL (c :: t ++ 32 :: b) = 0 := by
  match t with
  | [] => exact absurd rfl hne
  | [x] =>
    have hx : dig x = true := by
      by_cases hx : dig x = true
      · exact hx
      · exfalso; rw [escL_2, if_neg hx] at h; omega
    match b with
    | [] => show escL [c, x, 32] = 0; rw [escL_3, if_pos hx]
    | y :: b => show escL (c :: x :: 32 :: y :: b) = 0; rw [escL_4, if_pos hx, if_neg (by simp [dig32])]
  | [x, y] =>
    have hx : dig x = true := by
      by_cases hx : dig x = true
      · exact hx
      · exfalso; rw [escL_3, if_neg hx] at h; omega
    show escL (c :: x :: y :: 32 :: b) = 0
    rw [escL_4, if_pos hx, if_neg (by simp [dig32])]
  | x :: y :: z :: t => exact h

theorem scan_le (q : Bool) : ∀ (t : List Int) (k n : Nat), scan q k t = .inr n → n ≤ t.length
  | [], k, n, h => by
    unfold scan at h
    split at h
    · cases h
    · injection h with h; omega
  | c :: t, k + 1, n, h => by
    unfold scan at h
    obtain ⟨m, h1, rfl⟩ := bump_inr h
    have := scan_le q t k m h1
    simp; omega
  | c :: t, 0, n, h => by
    unfold scan at h
    split at h
    · split at h
      · cases h
      · obtain ⟨m, h1, rfl⟩ := bump_inr h
        have := scan_le q t _ m h1
        simp; omega
    split at h
    · split at h
      · injection h with h; simp; omega
      · split at h
        · injection h with h; simp; omega
        · cases h
    split at h
    · cases h
    split at h
    · cases h
    split at h
    · injection h with h; omega
    · obtain ⟨m, h1, rfl⟩ := bump_inr h
      have := scan_le q t _ m h1
      simp; omega
theorem wordL_le {L : List Int} {n : Nat} (h : wordL L = .inr n) : n ≤ L.length := by
  cases L with
  | nil => injection h with h; omega
  | cons c u =>
    rw [wordL_cons] at h
    split at h
    · obtain ⟨m, h1, rfl⟩ := bump_inr h
      have := scan_le _ _ _ _ h1
      simp; omega
    · exact scan_le _ _ _ _ h
theorem wordL_pos {c : Int} {u : List Int} {n : Nat} (h : wordL (c :: u) = .inr n) (hb : blank c = false) (h9 : c ≠ 59) : 1 ≤ n := by
  rw [wordL_cons] at h
  split at h
  · obtain ⟨m, h1, rfl⟩ := bump_inr h; omega
  · rename_i h34
    unfold scan at h
    split at h
    · split at h
      · cases h
      · obtain ⟨m, h1, rfl⟩ := bump_inr h; omega
    try rw [if_neg (fun hh => h34 hh.2)] at h
    try rw [if_neg h34] at h
    split at h
    · cases h
    split at h
    · rename_i hs
      exfalso
      have h1 := of_decide_eq_true hs.2
      have h2 := of_decide_eq_false hb
      omega
    · obtain ⟨m, h1, rfl⟩ := bump_inr h; omega
theorem scan_err (q : Bool) : ∀ (t : List Int) (k : Nat) (e : Int), scan q k t = .inl e → e = 60 ∨ e = 61 ∨ e = 11
  | [], k, e, h => by
    unfold scan at h
    split at h
    · injection h with h; omega
    · cases h
  | c :: t, k + 1, e, h => by
    unfold scan at h
    exact scan_err q t k e (bump_inl h)
  | c :: t, 0, e, h => by
    unfold scan at h
    split at h
    · split at h
      · injection h with h; omega
      · exact scan_err q t _ e (bump_inl h)
    split at h
    · split at h
      · cases h
      · split at h
        · cases h
        · injection h with h; omega
    split at h
    · injection h with h; omega
    split at h
    · injection h with h; omega
    split at h
    · cases h
    · exact scan_err q t _ e (bump_inl h)
theorem wordL_err {L : List Int} {e : Int} (h : wordL L = .inl e) : e = 60 ∨ e = 61 ∨ e = 11 := by
  cases L with
  | nil => cases h
  | cons c u =>
    rw [wordL_cons] at h
    split at h
    · exact scan_err _ _ _ _ (bump_inl h)
    · exact scan_err _ _ _ _ h
theorem Spl.err_is {L : List Int} {r : Sum Int (List (List Int))} (h : Spl L r) : ∀ e, r = .inl e → e = 60 ∨ e = 61 ∨ e = 11 := by
  induction h with
  | nil _ => intro e h; cases h
  | rem _ => intro e h; cases h
  | err _ _ h => intro e he; injection he with he; rw [← he]; exact wordL_err h
  | @more L u c n r _ _ _ _ ih =>
    intro e h
    cases r with
    | inl e' => injection h with h; exact ih e (by rw [h])
    | inr l => cases h

theorem dropWhile_len (p : Int → Bool) : ∀ l : List Int, (l.dropWhile p).length ≤ l.length
  | [] => Nat.le_refl _
  | x :: l => by
    rw [List.dropWhile_cons]
    split
    · have := dropWhile_len p l; simp; omega
    · exact Nat.le_refl _
theorem dropWhile_head {p : Int → Bool} : ∀ {l u : List Int} {c : Int}, l.dropWhile p = c :: u → p c = false
  | [], u, c, h => by cases h
  | x :: l, u, c, h => by
    rw [List.dropWhile_cons] at h
    split at h
    · exact dropWhile_head h
    · rename_i hx
      injection h with h1 h2
      rw [← h1]
      simpa using hx
theorem dropWhile_suffix {p : Int → Bool} : ∀ (l : List Int), ∃ w, l = w ++ l.dropWhile p
  | [] => ⟨[], rfl⟩
  | x :: l => by
    rw [List.dropWhile_cons]
    split
    · obtain ⟨w, hw⟩ := dropWhile_suffix (p := p) l
      refine ⟨x :: w, ?_⟩
      rw [List.cons_append, ← hw]
    · exact ⟨[], rfl⟩
theorem dropWhile_app_ne {p : Int → Bool} : ∀ {l u r : List Int} {c : Int}, l.dropWhile p = c :: u → (l ++ r).dropWhile p = c :: (u ++ r)
  | [], u, r, c, h => by cases h
  | x :: l, u, r, c, h => by
    rw [List.cons_append, List.dropWhile_cons]
    rw [List.dropWhile_cons] at h
    split
    · rename_i hx
      rw [if_pos hx] at h
      exact dropWhile_app_ne h
    · rename_i hx
      rw [if_neg hx] at h
      injection h with h1 h2
      rw [h1, h2]
theorem dropWhile_app_nil {p : Int → Bool} : ∀ {l r : List Int}, l.dropWhile p = [] → (l ++ r).dropWhile p = r.dropWhile p
  | [], r, _ => rfl
  | x :: l, r, h => by
    rw [List.dropWhile_cons] at h
    split at h
    · rename_i hx
      rw [List.cons_append, List.dropWhile_cons, if_pos hx]
      exact dropWhile_app_nil h
    · cases h
theorem Spl.total : ∀ (n : Nat) (L : List Int), L.length ≤ n → ∃ r, Spl L r := by
  intro n
  induction n with
  | zero =>
    intro L h
    have : L = [] := List.eq_nil_of_length_eq_zero (by omega)
    subst this
    exact ⟨_, .nil rfl⟩
  | succ n ih =>
    intro L h
    have hl := dropWhile_len blank L
    cases hd : L.dropWhile blank with
    | nil => exact ⟨_, .nil hd⟩
    | cons c u =>
      by_cases h9 : c = 59
      · subst h9; exact ⟨_, .rem hd⟩
      cases hw : wordL (c :: u) with
      | inl e => exact ⟨_, .err hd h9 hw⟩
      | inr m =>
        have hp := wordL_pos hw (dropWhile_head hd) h9
        rw [hd] at hl
        obtain ⟨r, hr⟩ := ih ((c :: u).drop m) (by rw [List.length_drop]; omega)
        exact ⟨_, .more hd h9 hw hr⟩
theorem Spl.same {L L' : List Int} {r : Sum Int (List (List Int))} (h : Spl L r) (e : L'.dropWhile blank = L.dropWhile blank) : Spl L' r := by
  cases h with
  | nil h => exact .nil (e.trans h)
  | rem h => exact .rem (e.trans h)
  | err h a b => exact .err (e.trans h) a b
  | more h a b c => exact .more (e.trans h) a b c
theorem Spl.sum {L : List Int} {r : Sum Int (List (List Int))} (h : Spl L r) : ∀ l, r = .inr l → (l.map List.length).sum ≤ L.length := by
  induction h with
  | nil _ => intro l h; injection h with h; subst h; simp
  | rem _ => intro l h; injection h with h; subst h; simp
  | err _ _ _ => intro l h; cases h
  | @more L u c n r hd _ hw _ ih =>
    intro l h
    cases r with
    | inl e => cases h
    | inr l' =>
      injection h with h
      subst h
      have h1 := ih l' rfl
      have h2 := wordL_le hw
      have h3 := dropWhile_len blank L
      rw [hd] at h3
      rw [List.length_drop] at h1
      rw [List.map_cons, List.sum_cons, List.length_take]
      omega

/-! a blank behind -/
theorem scan_app (q : Bool) (b : List Int) : ∀ (t : List Int) (k n : Nat), k ≤ t.length → scan q k t = .inr n → scan q k (t ++ 32 :: b) = .inr n
  | [], k, n, hk, h => by
    obtain rfl : k = 0 := by simpa using hk
    unfold scan at h
    split at h
    · cases h
    rename_i hq
    have hq' : q = false := by simpa using hq
    subst hq'
    injection h with h
    subst h
    rfl
  | c :: t, k + 1, n, hk, h => by
    unfold scan at h
    obtain ⟨m, h1, rfl⟩ := bump_inr h
    rw [List.cons_append, scan, scan_app q b t k m (by simpa using hk) h1]
    rfl
  | c :: t, 0, n, hk, h => by
    rw [List.cons_append]
    unfold scan at h ⊢
    by_cases h92 : c = 92
    · rw [if_pos h92] at h ⊢
      split at h
      · cases h
      rename_i hz
      have ha := escL_app (r := 32 :: b) hz
      rw [List.cons_append] at ha
      rw [ha, if_neg hz]
      obtain ⟨m, h1, rfl⟩ := bump_inr h
      have hle := escL_nz hz
      rw [scan_app q b t _ m (by rw [List.length_cons] at hle; omega) h1]
      rfl
    rw [if_neg h92] at h ⊢
    by_cases hq : q = true ∧ c = 34
    · rw [if_pos hq] at h ⊢
      cases t with
      | nil => exact h
      | cons d t => exact h
    rw [if_neg hq] at h ⊢
    split at h
    · cases h
    rename_i h34
    rw [if_neg h34]
    split at h
    · cases h
    rename_i h40
    rw [if_neg h40]
    split at h
    · rename_i hs
      rw [if_pos hs]
      exact h
    rename_i hs
    rw [if_neg hs]
    obtain ⟨m, h1, rfl⟩ := bump_inr h
    rw [scan_app q b t 0 m (Nat.zero_le _) h1]
    rfl
theorem scan_app_err (b : List Int) (e : Int) : ∀ (t : List Int) (k : Nat), k ≤ t.length → 34 ∉ t → t.getLast? ≠ some 92 → scan false k t = .inl e → scan false k (t ++ 32 :: b) = .inl e
  | [], k, hk, h3, hl, h => by
    unfold scan at h
    cases h
  | c :: t, k + 1, hk, h3, hl, h => by
    unfold scan at h
    have h1 := bump_inl h
    have hne : t ≠ [] := fun e => by subst e; cases h1
    rw [List.cons_append, scan, scan_app_err b e t k (by simpa using hk) (fun hh => h3 (List.mem_cons_of_mem _ hh)) (by rw [List.getLast?_cons_of_ne_nil hne] at hl; exact hl) h1]
    rfl
  | c :: t, 0, hk, h3, hl, h => by
    have h34 : c ≠ 34 := fun hh => h3 (by rw [hh]; exact List.mem_cons_self)
    have tail : ∀ k, k ≤ t.length → scan false k t = .inl e → scan false k (t ++ 32 :: b) = .inl e := fun k hk' h1 => by
      have hne : t ≠ [] := fun e => by subst e; cases h1
      exact scan_app_err b e t k hk' (fun hh => h3 (List.mem_cons_of_mem _ hh)) (by rw [List.getLast?_cons_of_ne_nil hne] at hl; exact hl) h1
    rw [List.cons_append]
    unfold scan at h ⊢
    by_cases h92 : c = 92
    · rw [if_pos h92] at h ⊢
      have hne : t ≠ [] := fun e => by subst e; exact hl (by rw [h92]; rfl)
      by_cases hz : escL (c :: t) = 0
      · rw [if_pos hz] at h
        have := escL_bad (b := b) hz hne
        rw [List.cons_append] at this
        rw [if_pos this]
        exact h
      · rw [if_neg hz] at h
        have ha := escL_app (r := 32 :: b) hz
        rw [List.cons_append] at ha
        rw [ha, if_neg hz]
        have hle := escL_nz hz
        rw [tail _ (by rw [List.length_cons] at hle; omega) (bump_inl h)]
        rfl
    rw [if_neg h92, if_neg (fun hh => h34 hh.2), if_neg h34] at h ⊢
    split at h
    · rename_i h40
      rw [if_pos h40]
      exact h
    rename_i h40
    rw [if_neg h40]
    split at h
    · cases h
    rename_i hs
    rw [if_neg hs, tail 0 (Nat.zero_le _) (bump_inl h)]
    rfl
theorem wordL_app {L b : List Int} {n : Nat} (hne : L ≠ []) (h : wordL L = .inr n) : wordL (L ++ 32 :: b) = .inr n := by
  cases L with
  | nil => exact absurd rfl hne
  | cons c u =>
    rw [wordL_cons] at h
    rw [List.cons_append]
    rw [wordL_cons]
    split at h
    · rename_i h34
      rw [if_pos h34]
      obtain ⟨m, h1, rfl⟩ := bump_inr h
      rw [scan_app true b u 0 m (Nat.zero_le _) h1]
      rfl
    · rename_i h34
      rw [if_neg h34]
      exact scan_app false b (c :: u) 0 n (Nat.zero_le _) h
theorem wordL_app_err {L b : List Int} {e : Int} (h3 : 34 ∉ L) (hl : L.getLast? ≠ some 92) (h : wordL L = .inl e) : wordL (L ++ 32 :: b) = .inl e := by
  cases L with
  | nil => cases h
  | cons c u =>
    rw [wordL_cons] at h
    rw [List.cons_append]
    rw [wordL_cons]
    have h34 : c ≠ 34 := fun hh => h3 (by rw [hh]; exact List.mem_cons_self)
    rw [if_neg h34] at h ⊢
    exact scan_app_err b e (c :: u) 0 (Nat.zero_le _) h3 hl h
def app (l : List (List Int)) : Sum Int (List (List Int)) → Sum Int (List (List Int))
  | .inl e => .inl e
  | .inr m => .inr (l ++ m)
theorem push_app (w : List Int) (l : List (List Int)) (r : Sum Int (List (List Int))) : push w (app l r) = app (w :: l) r := by cases r <;> rfl
theorem Spl.join {a b : List Int} {r rb : Sum Int (List (List Int))} (h : Spl a r) (hb : Spl b rb) : ∀ l, r = .inr l → 59 ∉ a → Spl (a ++ 32 :: b) (app l rb) := by
  induction h with
  | @nil L hd =>
    intro l hr _
    injection hr with hr
    subst hr
    have : app [] rb = rb := by cases rb <;> rfl
    rw [this]
    refine hb.same ?_
    rw [dropWhile_app_nil hd]
    rfl
  | @rem L u hd =>
    intro l hr h9
    exfalso
    obtain ⟨w, hw⟩ := dropWhile_suffix (p := blank) L
    rw [hd] at hw
    exact h9 (by rw [hw]; simp)
  | err _ _ _ => intro l hr; cases hr
  | @more L u c n r hd h9 hw _ ih =>
    intro l hr h59
    cases r with
    | inl e => cases hr
    | inr l' =>
      injection hr with hr
      subst hr
      have hle := wordL_le hw
      have hn9 : 59 ∉ (c :: u).drop n := fun hh => by
        obtain ⟨w, hw'⟩ := dropWhile_suffix (p := blank) L
        rw [hd] at hw'
        exact h59 (by rw [hw']; exact List.mem_append_right _ (List.mem_of_mem_drop hh))
      have h1 := ih l' rfl hn9
      rw [← push_app]
      have e1 : ((c :: u) ++ 32 :: b).drop n = (c :: u).drop n ++ 32 :: b := List.drop_append_of_le_length hle
      have e2 : ((c :: u) ++ 32 :: b).take n = (c :: u).take n := List.take_append_of_le_length hle
      have := Spl.more (L := L ++ 32 :: b) (u := u ++ 32 :: b) (c := c) (n := n) (dropWhile_app_ne hd) h9 (by have := wordL_app (b := b) (by simp) hw; exact this) (by rw [← List.cons_append, e1]; exact h1)
      rw [← List.cons_append, e2] at this
      exact this
theorem getLast_suffix {w l : List Int} (h : l ≠ []) : (w ++ l).getLast? = l.getLast? := by
  rw [List.getLast?_append]
  cases hl : l.getLast? with
  | none => exact absurd (List.getLast?_eq_none_iff.1 hl) h
  | some x => rfl
theorem Spl.nil_is {L : List Int} {r : Sum Int (List (List Int))} (h : Spl L r) (e : L = []) : r = .inr [] := by
  cases h with
  | nil _ => rfl
  | rem _ => rfl
  | err hd _ _ => subst e; cases hd
  | more hd _ _ _ => subst e; cases hd
theorem Spl.join_err {a b : List Int} {r : Sum Int (List (List Int))} (h : Spl a r) : ∀ e, r = .inl e → 34 ∉ a → a.getLast? ≠ some 92 → Spl (a ++ 32 :: b) (.inl e) := by
  induction h with
  | nil _ => intro e hr; cases hr
  | rem _ => intro e hr; cases hr
  | @err L u c e0 hd h9 hw =>
    intro e hr h3 hl
    injection hr with hr
    subst hr
    obtain ⟨w, hw'⟩ := dropWhile_suffix (p := blank) L
    rw [hd] at hw'
    have h3' : 34 ∉ c :: u := fun hh => h3 (by rw [hw']; exact List.mem_append_right _ hh)
    have hl' : (c :: u).getLast? ≠ some 92 := by rw [hw', getLast_suffix (by simp)] at hl; exact hl
    exact .err (dropWhile_app_ne hd) h9 (wordL_app_err h3' hl' hw)
  | @more L u c n r hd h9 hw hs ih =>
    intro e hr h3 hl
    cases r with
    | inr l => cases hr
    | inl e' =>
      injection hr with hr
      subst hr
      have hle := wordL_le hw
      obtain ⟨w, hw'⟩ := dropWhile_suffix (p := blank) L
      rw [hd] at hw'
      have hne : (c :: u).drop n ≠ [] := fun hh => by
        cases hs.nil_is hh
      have hsplit : c :: u = (c :: u).take n ++ (c :: u).drop n := (List.take_append_drop n _).symm
      have h1 := ih e' rfl (fun hh => h3 (by rw [hw']; exact List.mem_append_right _ (List.mem_of_mem_drop hh))) (by
        rw [hw', hsplit, ← List.append_assoc, getLast_suffix hne] at hl
        exact hl)
      have e1 : ((c :: u) ++ 32 :: b).drop n = (c :: u).drop n ++ 32 :: b := List.drop_append_of_le_length hle
      have := Spl.more (L := L ++ 32 :: b) (u := u ++ 32 :: b) (c := c) (n := n) (dropWhile_app_ne hd) h9 (by have := wordL_app (b := b) (by simp) hw; exact this) (by rw [← List.cons_append, e1]; exact h1)
      exact this
end Go.Proofs.YtdnfmilnkoocdaaDoor.K
