/- Part 2 of 4 of the proof of ZoneBack: a written zone is read back For every input; no condition. -/
import Derived.Test.YtdnfmilnkoocdaaDoorCZoneBack1
import Derived.Deep.LoopGhost
import Derived.Laws.Cover3
import Derived.RangeFuncNested
import Derived.RangeFuncBound
import Derived.RangeFuncCalls
import Derived.RangeFuncLeaves
import Derived.Shelf.Abstract
import Derived.WalkKit
import Derived.OwnWalkIn
import Derived.TacticsInMore
import Derived.LoopNIn
import Derived.LoopIn
import Derived.Maps.AppendAt
import Derived.Sort.LoopGhostIn
import Derived.Deep.RegionHeld3
import Derived.Laws.AppendOwn

-- from Qf24
-- Made by hp.py, a program of this session, with the kit's printer. Not trusted: Lean checks it.
namespace Go.Proofs.YtdnfmilnkoocdaaDoor.Q
open Go.RowKit Go.Proofs.YtdnfmilnkoocdaaDoorW.PrintWords Go.Proofs.YtdnfmilnkoocdaaDoorW.PrintLast Go.Proofs.YtdnfmilnkoocdaaDoorW.PrintMore
attribute [local go_sem] max2_int min2_int max_two min_two max_three min_three max_four min_four   -- for this text's walks alone
set_option linter.unusedVariables false
set_option linter.unusedSimpArgs false

/-! ### owner_Labels: function 24 -/
mutual
def owner_Labels.j0 : Nat → List ByteArray → Bool → Option ((List (List Int)) × Bool × Int)
 | 0, _, _ => none
 | k + 1, x7, x8 => owner_Labels.l0 k x8 ([] : List (List Int)) x7 (x7.length : Int) 0
def owner_Labels.l0 : Nat → Bool → List (List Int) → List ByteArray → Int → Int → Option ((List (List Int)) × Bool × Int)
 | 0, _, _, _, _, _ => none
 | k + 1, x8, x9, x44, x45, x46 => if x46 < x45 then (if 0 ≤ x46 then (if x46 < (x44.length : Int) then ((token_Plain.f k (rdOf ByteArray.empty x44 x46)).bind fun bt113 => (if x9.length < 5864062014805 then (owner_Labels.l0 k x8 (x9 ++ [bt113.1]) x44 x45 (wrap64 (x46 + 1))) else (none))) else (none)) else (none)) else ((owner_right.f k x9).bind fun t120 => (if t120 = true then (some (x9, x8, 0)) else (some (([] : List (List Int)), false, 62))))
end
def owner_Labels.f (k : Nat) (a0 : ByteArray) : Option ((List (List Int)) × Bool × Int) := (token_Plain.f k a0).bind fun bt101 => (if bt101.2 = 0 then (if 0 < (a0.size : Int) then (if (bt a0 0) = 34 then (some (([] : List (List Int)), false, 62)) else (if a0.toList = ([46] : List UInt8) then (some (([] : List (List Int)), true, 0)) else ((owner_cut.f k a0).bind fun t105 => (if 0 ≤ (wrap64 ((t105.length : Int) - 1)) then (if (wrap64 ((t105.length : Int) - 1)) < (t105.length : Int) then (if (rdOf ByteArray.empty t105 (wrap64 ((t105.length : Int) - 1))).toList = ([] : List UInt8) then (if (wrap64 ((t105.length : Int) - 1)) ≤ (t105.length : Int) then (owner_Labels.j0 k (t105.take ((wrap64 ((t105.length : Int) - 1)) : Int).toNat) ((rdOf ByteArray.empty t105 (wrap64 ((t105.length : Int) - 1))).toList == ([] : List UInt8))) else (none)) else (owner_Labels.j0 k t105 ((rdOf ByteArray.empty t105 (wrap64 ((t105.length : Int) - 1))).toList == ([] : List UInt8)))) else (none)) else (none))))) else (none)) else (some (([] : List (List Int)), false, bt101.2)))
theorem owner_Labels.mono_l : ∀ k, (∀ y0 y1, LeO (owner_Labels.j0 k y0 y1) (owner_Labels.j0 (k + 1) y0 y1)) ∧ (∀ y0 y1 y2 y3 y4, LeO (owner_Labels.l0 k y0 y1 y2 y3 y4) (owner_Labels.l0 (k + 1) y0 y1 y2 y3 y4))
 | 0 => ⟨fun _ _ r h => by simp [owner_Labels.j0] at h, fun _ _ _ _ _ r h => by simp [owner_Labels.l0] at h⟩
 | k + 1 => by
  obtain ⟨ih0, ih1⟩ := owner_Labels.mono_l k
  refine ⟨?_, ?_⟩
  ·intro y0 y1
   unfold owner_Labels.j0
   repeat' first
   | (with_reducible exact ih0 _ _)
   | (with_reducible exact ih1 _ _ _ _ _)
   | (with_reducible exact owner_cut.mono _ _)
   | (with_reducible exact owner_right.mono _ _)
   | (with_reducible exact token_Plain.mono _ _)
   | (with_reducible exact LeO.refl _)
   | (with_reducible exact LeO.none _)
   | (with_reducible refine LeO.ite ?_ ?_)
   | (with_reducible refine LeO.bind ?_ (fun _ => ?_))
   | exact ih0 _ _
   | exact ih1 _ _ _ _ _
   | exact owner_cut.mono _ _
   | exact owner_right.mono _ _
   | exact token_Plain.mono _ _
   | exact LeO.none _
   | refine LeO.ite ?_ ?_
   | refine LeO.bind ?_ (fun _ => ?_)
  ·intro y0 y1 y2 y3 y4
   unfold owner_Labels.l0
   repeat' first
   | (with_reducible exact ih0 _ _)
   | (with_reducible exact ih1 _ _ _ _ _)
   | (with_reducible exact owner_cut.mono _ _)
   | (with_reducible exact owner_right.mono _ _)
   | (with_reducible exact token_Plain.mono _ _)
   | (with_reducible exact LeO.refl _)
   | (with_reducible exact LeO.none _)
   | (with_reducible refine LeO.ite ?_ ?_)
   | (with_reducible refine LeO.bind ?_ (fun _ => ?_))
   | exact ih0 _ _
   | exact ih1 _ _ _ _ _
   | exact owner_cut.mono _ _
   | exact owner_right.mono _ _
   | exact token_Plain.mono _ _
   | exact LeO.none _
   | refine LeO.ite ?_ ?_
   | refine LeO.bind ?_ (fun _ => ?_)
theorem owner_Labels.mono : ∀ a0 k, LeO (owner_Labels.f k a0) (owner_Labels.f (k + 1) a0) := by
 intro a0 k
 obtain ⟨ih0, ih1⟩ := owner_Labels.mono_l k
 unfold owner_Labels.f
 repeat' first
   | (with_reducible exact ih0 _ _)
   | (with_reducible exact ih1 _ _ _ _ _)
   | (with_reducible exact owner_cut.mono _ _)
   | (with_reducible exact owner_right.mono _ _)
   | (with_reducible exact token_Plain.mono _ _)
   | (with_reducible exact LeO.refl _)
   | (with_reducible exact LeO.none _)
   | (with_reducible refine LeO.ite ?_ ?_)
   | (with_reducible refine LeO.bind ?_ (fun _ => ?_))
   | exact ih0 _ _
   | exact ih1 _ _ _ _ _
   | exact owner_cut.mono _ _
   | exact owner_right.mono _ _
   | exact token_Plain.mono _ _
   | exact LeO.none _
   | refine LeO.ite ?_ ?_
   | refine LeO.bind ?_ (fun _ => ?_)
set_option maxHeartbeats 8000000 in
set_option maxRecDepth 100000 in
theorem owner_Labels.calls (k : Nat) (a0 : ByteArray) (r1 : List (List Int)) (r2 : Bool) (r3 : Int) (w : World) (h : owner_Labels.f k a0 = some (r1, r2, r3)) :
  Calls Tryd.prog 24 #[.string a0] w fun e w' => ∃ v0_ : Value, e = .returned (.tuple #[v0_, .bool r2, .int .i64 r3]) ∧ Kd.S (Kd.slice 5 (Kd.int .u8)) 22 w' w.heap.size (fun _ => True) v0_ r1 ∧ Below w.heap.size w w' := by
 have HB := Aside0.mk (Below.refl w.heap.size w)
 have H : ((token_Plain.f k a0).bind fun bt101 => (if bt101.2 = 0 then (if 0 < (a0.size : Int) then (if (bt a0 0) = 34 then (some (([] : List (List Int)), false, 62)) else (if a0.toList = ([46] : List UInt8) then (some (([] : List (List Int)), true, 0)) else ((owner_cut.f k a0).bind fun t105 => (if 0 ≤ (wrap64 ((t105.length : Int) - 1)) then (if (wrap64 ((t105.length : Int) - 1)) < (t105.length : Int) then (if (rdOf ByteArray.empty t105 (wrap64 ((t105.length : Int) - 1))).toList = ([] : List UInt8) then (if (wrap64 ((t105.length : Int) - 1)) ≤ (t105.length : Int) then (owner_Labels.j0 k (t105.take ((wrap64 ((t105.length : Int) - 1)) : Int).toNat) ((rdOf ByteArray.empty t105 (wrap64 ((t105.length : Int) - 1))).toList == ([] : List UInt8))) else (none)) else (owner_Labels.j0 k t105 ((rdOf ByteArray.empty t105 (wrap64 ((t105.length : Int) - 1))).toList == ([] : List UInt8)))) else (none)) else (none))))) else (none)) else (some (([] : List (List Int)), false, bt101.2)))) = some (r1, r2, r3) := h
 clear h
 replace H := Option.bind_eq_some_iff.mp H
 obtain ⟨⟨t101, t102⟩, A20, H⟩ := H
 replace H : (if t102 = 0 then (if 0 < (a0.size : Int) then (if (bt a0 0) = 34 then (some (([] : List (List Int)), false, 62)) else (if a0.toList = ([46] : List UInt8) then (some (([] : List (List Int)), true, 0)) else ((owner_cut.f k a0).bind fun t105 => (if 0 ≤ (wrap64 ((t105.length : Int) - 1)) then (if (wrap64 ((t105.length : Int) - 1)) < (t105.length : Int) then (if (rdOf ByteArray.empty t105 (wrap64 ((t105.length : Int) - 1))).toList = ([] : List UInt8) then (if (wrap64 ((t105.length : Int) - 1)) ≤ (t105.length : Int) then (owner_Labels.j0 k (t105.take ((wrap64 ((t105.length : Int) - 1)) : Int).toNat) ((rdOf ByteArray.empty t105 (wrap64 ((t105.length : Int) - 1))).toList == ([] : List UInt8))) else (none)) else (owner_Labels.j0 k t105 ((rdOf ByteArray.empty t105 (wrap64 ((t105.length : Int) - 1))).toList == ([] : List UInt8)))) else (none)) else (none))))) else (none)) else (some (([] : List (List Int)), false, t102))) = some (r1, r2, r3) := H
 have A2 := Aside0.mk A20
 clear A20
 by_cases c3 : t102 = 0
 ·rw [if_pos c3] at H
  have c3b0 : (t102 == 0) = true := beq_iff_eq.mpr c3
  have c3b1 : (t102 != 0) = false := bne_eq_false_iff_eq.mpr c3
  clear c3
  by_cases c4 : 0 < (a0.size : Int)
  ·rw [if_pos c4] at H
   have c4b0 : decide (0 < (a0.size : Int)) = true := decide_eq_true c4
   have c4b1 : decide (0 < a0.size) = true := decide_eq_true (by omega)
   clear c4
   by_cases c6 : (bt a0 0) = 34
   ·rw [if_pos c6] at H
    have c6b0 : ((bt a0 0) == 34) = true := beq_iff_eq.mpr c6
    have c6b1 : ((bt a0 0) != 34) = false := bne_eq_false_iff_eq.mpr c6
    clear c6
    simp only [Option.some.injEq, Prod.mk.injEq] at H
    obtain ⟨rfl, rfl, rfl⟩ := H
    go_enter Tryd.func24, Tryd.ntmps24
    go_wp2_with (first | ((with_reducible refine gate_callee (f := 19) rfl ?_); refine goesL_ (some 16) rfl rfl Tryd.func19 (by kernel_rfl) rfl #[.string a0] rfl (by (try simp only [List.map_toArray, List.map_cons, List.map_nil]); first | done | rfl | (simp only [List.length_drop, List.length_take]; rfl)) ?_; (with_reducible refine (token_Plain.calls k a0 t101 t102 _ A2.out).mono ?_); rintro e w7 ⟨v103, rfl, ho0, hb⟩; refine ⟨_, rfl, ?_⟩; have n0_ := Aside0.mk (Kd.R_lower ho0 (below_size (by repeat (first | (with_reducible first | exact HB.out | apply below_alloc | apply pw_below_drewN | apply below_drew1) | exact HB.out)))); have n1_ := Aside0.mk (below_step (by repeat (first | (with_reducible first | exact HB.out | apply below_alloc | apply pw_below_drewN | apply below_drew1) | exact HB.out)) hb); clear HB; have HO104 := n0_; have HB := n1_; clear n0_ n1_; (try clear hb); (try clear hb2); (try clear hk); (try clear hi); (try clear ho0); have p5 : 0 ≤ (0 : Int) := (by omega); have q5 : 0 < a0.size := (by have : (0 : Int) < (a0.size : Int) := of_decide_eq_true (by first | (with_reducible assumption) | assumption); omega); have hx5 : ∀ h : 0 < a0.size, ((a0[0]'h).toNat : Int) = bt a0 0 := bt_at a0 0; clear p5; have qi5 : (0 < (a0.size : Int)) = True := eq_true (of_decide_eq_true (by first | (with_reducible assumption) | assumption)); replace q5 := eq_true q5))
    go_ret3
    exact ⟨_, by first | rfl | (simp [errW_none, errW_some] <;> rfl) | (simp [*, errW_none, errW_some] <;> rfl), by first | exact Kd.S_nil _ _ _ _ _ | exact Kd.N_nil _ _ _ _ _ | exact Kd.V_nil _ _ _ _ _ | exact Kd.Q_nil _ _ _ _ _ | exact Kd.R_nil _ _ _ _ _, by repeat (first | (with_reducible first | exact HB.out | apply below_alloc | apply pw_below_drewN | apply below_drew1) | exact HB.out)⟩
   ·rw [if_neg c6] at H
    have c6b0 : ((bt a0 0) == 34) = false := beq_eq_false_iff_ne.mpr c6
    have c6b1 : ((bt a0 0) != 34) = true := bne_iff_ne.mpr c6
    by_cases c8 : a0.toList = ([46] : List UInt8)
    ·rw [if_pos c8] at H
     have c8b0 : (a0.toList == ([46] : List UInt8)) = true := beq_iff_eq.mpr c8
     have c8b1 : (a0.toList != ([46] : List UInt8)) = false := bne_eq_false_iff_eq.mpr c8
     clear c8
     simp only [Option.some.injEq, Prod.mk.injEq] at H
     obtain ⟨rfl, rfl, rfl⟩ := H
     go_enter Tryd.func24, Tryd.ntmps24
     go_wp2_with (first | ((with_reducible refine gate_callee (f := 19) rfl ?_); refine goesL_ (some 16) rfl rfl Tryd.func19 (by kernel_rfl) rfl #[.string a0] rfl (by (try simp only [List.map_toArray, List.map_cons, List.map_nil]); first | done | rfl | (simp only [List.length_drop, List.length_take]; rfl)) ?_; (with_reducible refine (token_Plain.calls k a0 t101 t102 _ A2.out).mono ?_); rintro e w9 ⟨v103, rfl, ho0, hb⟩; refine ⟨_, rfl, ?_⟩; have n0_ := Aside0.mk (Kd.R_lower ho0 (below_size (by repeat (first | (with_reducible first | exact HB.out | apply below_alloc | apply pw_below_drewN | apply below_drew1) | exact HB.out)))); have n1_ := Aside0.mk (below_step (by repeat (first | (with_reducible first | exact HB.out | apply below_alloc | apply pw_below_drewN | apply below_drew1) | exact HB.out)) hb); clear HB; have HO104 := n0_; have HB := n1_; clear n0_ n1_; (try clear hb); (try clear hb2); (try clear hk); (try clear hi); (try clear ho0); have p5 : 0 ≤ (0 : Int) := (by omega); have q5 : 0 < a0.size := (by have : (0 : Int) < (a0.size : Int) := of_decide_eq_true (by first | (with_reducible assumption) | assumption); omega); have hx5 : ∀ h : 0 < a0.size, ((a0[0]'h).toNat : Int) = bt a0 0 := bt_at a0 0; clear p5; have qi5 : (0 < (a0.size : Int)) = True := eq_true (of_decide_eq_true (by first | (with_reducible assumption) | assumption)); replace q5 := eq_true q5))
     go_ret3
     exact ⟨_, by first | rfl | (simp [errW_none, errW_some] <;> rfl) | (simp [*, errW_none, errW_some] <;> rfl), by first | exact Kd.S_nil _ _ _ _ _ | exact Kd.N_nil _ _ _ _ _ | exact Kd.V_nil _ _ _ _ _ | exact Kd.Q_nil _ _ _ _ _ | exact Kd.R_nil _ _ _ _ _, by repeat (first | (with_reducible first | exact HB.out | apply below_alloc | apply pw_below_drewN | apply below_drew1) | exact HB.out)⟩
    ·rw [if_neg c8] at H
     have c8b0 : (a0.toList == ([46] : List UInt8)) = false := beq_eq_false_iff_ne.mpr c8
     have c8b1 : (a0.toList != ([46] : List UInt8)) = true := bne_iff_ne.mpr c8
     replace H := Option.bind_eq_some_iff.mp H
     obtain ⟨t105, A100, H⟩ := H
     replace H : (if 0 ≤ (wrap64 ((t105.length : Int) - 1)) then (if (wrap64 ((t105.length : Int) - 1)) < (t105.length : Int) then (if (rdOf ByteArray.empty t105 (wrap64 ((t105.length : Int) - 1))).toList = ([] : List UInt8) then (if (wrap64 ((t105.length : Int) - 1)) ≤ (t105.length : Int) then (owner_Labels.j0 k (t105.take ((wrap64 ((t105.length : Int) - 1)) : Int).toNat) ((rdOf ByteArray.empty t105 (wrap64 ((t105.length : Int) - 1))).toList == ([] : List UInt8))) else (none)) else (owner_Labels.j0 k t105 ((rdOf ByteArray.empty t105 (wrap64 ((t105.length : Int) - 1))).toList == ([] : List UInt8)))) else (none)) else (none)) = some (r1, r2, r3) := H
     have A10 := Aside0.mk A100
     clear A100
     obtain ⟨ji11, hji11⟩ : ∃ j_ : Int, (wrap64 ((t105.length : Int) - 1)) = j_ := ⟨_, rfl⟩
     replace H : (if 0 ≤ (ji11) then (if (ji11) < (t105.length : Int) then (if (rdOf ByteArray.empty t105 (ji11)).toList = ([] : List UInt8) then (if (ji11) ≤ (t105.length : Int) then (owner_Labels.j0 k (t105.take ((ji11) : Int).toNat) ((rdOf ByteArray.empty t105 (ji11)).toList == ([] : List UInt8))) else (none)) else (owner_Labels.j0 k t105 ((rdOf ByteArray.empty t105 (ji11)).toList == ([] : List UInt8)))) else (none)) else (none)) = some (r1, r2, r3) := by first | (rw [hji11] at H; exact H) | (simp only [hji11] at H ⊢; exact H)
     (try rw [hji11] at A2)
     (try rw [hji11] at A10)
     have hji11w : (IntKind.i64.wrap ((t105.length : Int) - 1)) = ji11 := (i64_w _).trans hji11
     by_cases c12 : 0 ≤ (ji11)
     ·rw [if_pos c12] at H
      have c12b0 : decide (0 ≤ (ji11)) = true := decide_eq_true c12
      clear c12
      by_cases c13 : (ji11) < (t105.length : Int)
      ·rw [if_pos c13] at H
       have c13b0 : decide ((ji11) < (t105.length : Int)) = true := decide_eq_true c13
       clear c13
       have HC14 := Aside0.mk H
       clear H
       go_enter Tryd.func24, Tryd.ntmps24
       go_upto_if 38 with (first | ((with_reducible refine gate_callee (f := 19) rfl ?_); refine goesL_ (some 16) rfl rfl Tryd.func19 (by kernel_rfl) rfl #[.string a0] rfl (by (try simp only [List.map_toArray, List.map_cons, List.map_nil]); first | done | rfl | (simp only [List.length_drop, List.length_take]; rfl)) ?_; (with_reducible refine (token_Plain.calls k a0 t101 t102 _ A2.out).mono ?_); rintro e w15 ⟨v103, rfl, ho0, hb⟩; refine ⟨_, rfl, ?_⟩; have n0_ := Aside0.mk (Kd.R_lower ho0 (below_size (by repeat (first | (with_reducible first | exact HB.out | apply below_alloc | apply pw_below_drewN | apply below_drew1) | exact HB.out)))); have n1_ := Aside0.mk (below_step (by repeat (first | (with_reducible first | exact HB.out | apply below_alloc | apply pw_below_drewN | apply below_drew1) | exact HB.out)) hb); clear HB; have HO104 := n0_; have HB := n1_; clear n0_ n1_; (try clear hb); (try clear hb2); (try clear hk); (try clear hi); (try clear ho0); have p5 : 0 ≤ (0 : Int) := (by omega); have q5 : 0 < a0.size := (by have : (0 : Int) < (a0.size : Int) := of_decide_eq_true (by first | (with_reducible assumption) | assumption); omega); have hx5 : ∀ h : 0 < a0.size, ((a0[0]'h).toNat : Int) = bt a0 0 := bt_at a0 0; clear p5; have qi5 : (0 < (a0.size : Int)) = True := eq_true (of_decide_eq_true (by first | (with_reducible assumption) | assumption)); replace q5 := eq_true q5) | ((with_reducible refine gate_callee (f := 54) rfl ?_); refine goesL_ (some 30) rfl rfl Tryd.func54 (by kernel_rfl) rfl #[.string a0] rfl (by (try simp only [List.map_toArray, List.map_cons, List.map_nil]); first | done | rfl | (simp only [List.length_drop, List.length_take]; rfl)) ?_; (with_reducible refine (owner_cut.calls k a0 t105 _ A10.out).mono ?_); rintro e w16 ⟨v106, rfl, ho0, hb⟩; refine ⟨_, rfl, ?_⟩; have n0_ := Aside0.mk (Kd.R_below (by (with_reducible repeat (first | apply Kd.R_alloc | apply Kd.R_drewN | apply Kd.R_drew)); exact HO104.out) hb); have n1_ := Aside0.mk (Kd.R_lower ho0 (below_size (by repeat (first | (with_reducible first | exact HB.out | apply below_alloc | apply pw_below_drewN | apply below_drew1) | exact HB.out)))); have n2_ := Aside0.mk (below_step (by repeat (first | (with_reducible first | exact HB.out | apply below_alloc | apply pw_below_drewN | apply below_drew1) | exact HB.out)) hb); clear HO104; clear HB; have HO104 := n0_; have HO107 := n1_; have HB := n2_; clear n0_ n1_ n2_; (try clear hb); (try clear hb2); (try clear hk); (try clear hi); (try clear ho0); obtain ⟨Ao17, co17, eo17⟩ := Kd.R_slice HO107.out; subst eo17; have p108 : 0 ≤ ((ji11) : Int) := of_decide_eq_true (by first | (with_reducible assumption) | assumption); have q108 : (ji11) < (t105.length : Int) := of_decide_eq_true (by first | (with_reducible assumption) | assumption); obtain ⟨ad108, e108, hx108_0⟩ := Kd.at_string (Kd.R_reads' HO107.out).2.2 (ji11) p108 q108; cases e108; replace p108 := eq_true p108; replace q108 := eq_true q108))
       (try simp only [Act.put, List.setIfInBounds_toArray, List.set_cons_zero, List.set_cons_succ])
       have hem_ : ∀ l_ : List UInt8, l_.isEmpty = (l_ == ([] : List UInt8)) := fun l_ => by cases l_ <;> rfl
       (try rw [hem_])
       (try simp only [hem_])
       clear hem_
       generalize hb8 : ((rdOf ByteArray.empty t105 (ji11)).toList == ([] : List UInt8)) = b8 at *
       go_cut [7] (fun v7 wc => ∃ (kq : Nat) (x7_13 : List ByteArray), Aside0 (owner_Labels.j0 kq x7_13 b8 = some (r1, r2, r3)) ∧ Aside0 (kq ≤ k) ∧ Aside0 (Kd.R Kd.string 9 wc w.heap.size (fun _ => True) v7 x7_13) ∧ Aside0 (Below w.heap.size w wc))
       case first =>
        have H := HC14.out
        clear HC14
        by_cases c18 : (rdOf ByteArray.empty t105 (ji11)).toList = ([] : List UInt8)
        ·rw [if_pos c18] at H
         have c18b0 : b8 = true := hb8.symm.trans (beq_iff_eq.mpr c18)
         have c18b1 : ((rdOf ByteArray.empty t105 (ji11)).toList != ([] : List UInt8)) = false := bne_eq_false_iff_eq.mpr c18
         clear c18
         subst c18b0
         by_cases c19 : (ji11) ≤ (t105.length : Int)
         ·rw [if_pos c19] at H
          have c19b0 := eq_true c19
          have c19b1 : decide ((ji11) ≤ (t105.length : Int)) = true := decide_eq_true c19
          clear c19
          obtain ⟨y109, hy109⟩ : ∃ y_ : List ByteArray, y_ = (t105.take ((ji11) : Int).toNat) := ⟨_, rfl⟩
          replace H : (owner_Labels.j0 k y109 true) = some (r1, r2, r3) := by first | (rw [hy109]; with_reducible exact H) | (have H2_ := (Option.bind_some _ _).symm.trans H; rw [hy109]; with_reducible exact H2_) | (have H2_ := (Option.bind_some _ _).symm.trans H; with_reducible exact H2_) | with_reducible exact H | (rw [hy109]; exact H) | exact H
          have Ny109 := Aside0.mk hy109
          clear hy109
          have H' := Aside0.mk H
          clear H
          have q20 : ((ji11) : Int) ≤ ((t105.length : Int) : Int) := of_decide_eq_true (by first | (with_reducible assumption) | assumption)
          obtain ⟨i020, hi020, _, hsz20, _⟩ := info_parts info9
          have hcut20 := cut_to (P := Tryd.prog) 24 9 .i64 Tryd.underlying24 hi020 (some ad108) t105.length co17 (ji11) (of_decide_eq_true (by first | (with_reducible assumption) | assumption)) q20 (Kd.R_reads' HO107.out).2.1
          have hr20 := Kd.R_take (m := ((ji11) : Int).toNat) HO107.out (by omega)
          have hy20 : y109.length = ((ji11) : Int).toNat := (by rw [Ny109.out, List.length_take]; omega)
          rw [← Ny109.out] at hr20
          rw [← hy20] at hr20 hcut20
          clear hy20 hi020 hsz20 HO107
          have HO111 := Aside0.mk hr20
          clear hr20
          replace q20 := eq_true q20
          go_wp2
          go_meet
          case rel => exact ⟨_, (y109), H', ⟨by first | omega | exact Nat.le_refl _⟩, ⟨by (with_reducible repeat (first | apply Kd.R_alloc | apply Kd.R_drewN | apply Kd.R_drew)); exact HO111.out⟩, ⟨by repeat (first | (with_reducible first | exact HB.out | apply below_alloc | apply pw_below_drewN | apply below_drew1) | exact HB.out)⟩⟩
         ·rw [if_neg c19] at H
          exact absurd H (by simp)
        ·rw [if_neg c18] at H
         have c18b0 : b8 = false := hb8.symm.trans (beq_eq_false_iff_ne.mpr c18)
         have c18b1 : ((rdOf ByteArray.empty t105 (ji11)).toList != ([] : List UInt8)) = true := bne_iff_ne.mpr c18
         subst c18b0
         have H' := Aside0.mk H
         clear H
         go_wp2
         go_meet
         case rel => exact ⟨_, (t105), H', ⟨by first | omega | exact Nat.le_refl _⟩, ⟨by (with_reducible repeat (first | apply Kd.R_alloc | apply Kd.R_drewN | apply Kd.R_drew)); exact HO107.out⟩, ⟨by repeat (first | (with_reducible first | exact HB.out | apply below_alloc | apply pw_below_drewN | apply below_drew1) | exact HB.out)⟩⟩
       case rest =>
        clear HC14
        try clear c1
        try clear p1
        try clear q1
        try clear hx1
        try clear c2
        try clear p2
        try clear q2
        try clear c3
        try clear c3b0
        try clear c3b1
        try clear c4
        try clear c4b0
        try clear c4b1
        try clear c5
        try clear p5
        try clear q5
        try clear hx5
        try clear qi5
        try clear c6
        try clear c6b0
        try clear c6b1
        try clear p6
        try clear c8
        try clear c8b0
        try clear c8b1
        try clear p10
        try clear q10
        try clear hx10
        try clear c12
        try clear c12b0
        try clear c13
        try clear c13b0
        try clear c18
        try clear c18b0
        try clear c18b1
        try clear c19
        try clear c19b0
        try clear c19b1
        try clear q20
        try clear hx108_0
        try clear p108
        try clear p5
        try clear q108
        try clear q20
        try clear q5
        obtain ⟨kq, x7_13, HA, HJ13, HO_7, HB⟩ := hcut
        cases kq with
        | zero => exact absurd HA.out (by simp [owner_Labels.j0])
        | succ kj13 =>
         have H := HA.out
         clear HA
         simp only [owner_Labels.j0] at H
         have H' := Aside0.mk H
         clear H
         obtain ⟨Ao21, co21, eo21⟩ := Kd.R_slice HO_7.out
         subst eo21
         go_wp2
         go_loopg [9, 46] kj13 (fun kq v9 v46 w' => ∃ (x9_2 : List (List Int)) (x46_2 : Int), v46 = .int .i64 x46_2 ∧ Aside0 (owner_Labels.l0 kq b8 x9_2 x7_13 (x7_13.length : Int) x46_2 = some (r1, r2, r3)) ∧ Aside0 (kq ≤ kj13) ∧ Aside0 (Kd.S (Kd.slice 5 (Kd.int .u8)) 22 w' w.heap.size (fun _ => True) v9 x9_2) ∧ Aside0 (Kd.R Kd.string 9 w' w.heap.size (fun _ => True) (.slice Ao21 x7_13.length co21) x7_13) ∧ Aside0 (Below w.heap.size w w'))
         case atStart => exact ⟨(([] : List (List Int))), (0), (by first | rfl | (simp; done) | (simp [*]; done)), H', ⟨Nat.le_refl _⟩, ⟨by first | exact Kd.S_nil _ _ _ _ _ | exact Kd.N_nil _ _ _ _ _ | exact Kd.V_nil _ _ _ _ _ | exact Kd.Q_nil _ _ _ _ _ | exact Kd.R_nil _ _ _ _ _⟩, ⟨by (with_reducible repeat (first | apply Kd.R_alloc | apply Kd.R_drewN | apply Kd.R_drew)); exact HO_7.out⟩, ⟨by repeat (first | (with_reducible first | exact HB.out | apply below_alloc | apply pw_below_drewN | apply below_drew1) | exact HB.out)⟩⟩
         case round =>
          clear H'
          try clear c1
          try clear p1
          try clear q1
          try clear hx1
          try clear c2
          try clear p2
          try clear q2
          try clear c3
          try clear c3b0
          try clear c3b1
          try clear c4
          try clear c4b0
          try clear c4b1
          try clear c5
          try clear p5
          try clear q5
          try clear hx5
          try clear qi5
          try clear c6
          try clear c6b0
          try clear c6b1
          try clear p6
          try clear c8
          try clear c8b0
          try clear c8b1
          try clear p10
          try clear q10
          try clear hx10
          try clear c12
          try clear c12b0
          try clear c13
          try clear c13b0
          try clear c18
          try clear c18b0
          try clear c18b1
          try clear c19
          try clear c19b0
          try clear c19b1
          try clear q20
          try clear hx108_0
          try clear p1
          try clear p10
          try clear p108
          try clear p2
          try clear p5
          try clear p6
          try clear q1
          try clear q10
          try clear q108
          try clear q2
          try clear q20
          try clear q5
          obtain ⟨x9_2, x46_2, rfl, HA, HK2, HO_9, HO_44, HB⟩ := hrel
          cases gk with
          | zero => exact absurd HA.out (by simp [owner_Labels.l0])
          | succ k2 =>
           have H := HA.out
           clear HA
           simp only [owner_Labels.l0] at H
           by_cases c22 : x46_2 < (x7_13.length : Int)
           ·rw [if_pos c22] at H
            have c22b0 : decide (x46_2 < (x7_13.length : Int)) = true := decide_eq_true c22
            clear c22
            by_cases c23 : 0 ≤ x46_2
            ·rw [if_pos c23] at H
             have c23b0 : decide (0 ≤ x46_2) = true := decide_eq_true c23
             clear c23
             by_cases c24 : x46_2 < (x7_13.length : Int)
             ·rw [if_pos c24] at H
              have c24b0 : decide (x46_2 < (x7_13.length : Int)) = true := decide_eq_true c24
              clear c24
              replace H := Option.bind_eq_some_iff.mp H
              obtain ⟨⟨t113, t114⟩, A250, H⟩ := H
              replace H : (if x9_2.length < 5864062014805 then (owner_Labels.l0 k2 b8 (x9_2 ++ [t113]) x7_13 (x7_13.length : Int) (wrap64 (x46_2 + 1))) else (none)) = some (r1, r2, r3) := H
              have A25 := Aside0.mk A250
              clear A250
              by_cases c26 : x9_2.length < 5864062014805
              ·rw [if_pos c26] at H
               have LMc26 := Aside0.mk c26
               clear c26
               obtain ⟨y117, hy117⟩ : ∃ y_ : List (List Int), y_ = (x9_2 ++ [t113]) := ⟨_, rfl⟩
               replace H : (owner_Labels.l0 k2 b8 y117 x7_13 (x7_13.length : Int) (wrap64 (x46_2 + 1))) = some (r1, r2, r3) := by first | (rw [hy117]; with_reducible exact H) | (have H2_ := (Option.bind_some _ _).symm.trans H; rw [hy117]; with_reducible exact H2_) | (have H2_ := (Option.bind_some _ _).symm.trans H; with_reducible exact H2_) | with_reducible exact H | (rw [hy117]; exact H) | exact H
               have Ny117 := Aside0.mk hy117
               clear hy117
               have H' := Aside0.mk H
               clear H
               have p112 : 0 ≤ (x46_2 : Int) := of_decide_eq_true (by first | (with_reducible assumption) | assumption)
               have q112 : x46_2 < (x7_13.length : Int) := of_decide_eq_true (by first | (with_reducible assumption) | assumption)
               obtain ⟨ad112, e112, hx112_0⟩ := Kd.at_string (Kd.R_reads' HO_44.out).2.2 x46_2 p112 q112
               cases e112
               replace p112 := eq_true p112
               replace q112 := eq_true q112
               go_wp2_with (first | ((with_reducible refine gate_callee (f := 19) rfl ?_); refine goesL_ (some 52) rfl rfl Tryd.func19 (by kernel_rfl) rfl #[.string (rdOf ByteArray.empty x7_13 x46_2)] rfl (by (try simp only [List.map_toArray, List.map_cons, List.map_nil]); first | done | rfl | (simp only [List.length_drop, List.length_take]; rfl)) ?_; (with_reducible refine (token_Plain.calls k2 (rdOf ByteArray.empty x7_13 x46_2) t113 t114 _ A25.out).mono ?_); rintro e w27 ⟨v115, rfl, ho0, hb⟩; refine ⟨_, rfl, ?_⟩; have n0_ := Aside0.mk (Kd.S_elder' (by (with_reducible repeat (first | apply Kd.S_alloc | apply Kd.S_drewN | apply Kd.S_drew)); exact HO_9.out) (Kd.R_base ho0) hb); have n1_ := Aside0.mk (Kd.R_below (by (with_reducible repeat (first | apply Kd.R_alloc | apply Kd.R_drewN | apply Kd.R_drew)); exact HO_44.out) hb); have n2_ := Aside0.mk (Kd.R_lower ho0 (below_size (by repeat (first | (with_reducible first | exact HB.out | apply below_alloc | apply pw_below_drewN | apply below_drew1) | exact HB.out)))); have n3_ := Aside0.mk (below_step (by repeat (first | (with_reducible first | exact HB.out | apply below_alloc | apply pw_below_drewN | apply below_drew1) | exact HB.out)) hb); clear HO_9; clear HO_44; clear HB; have HO_9 := n0_; have HO_44 := n1_; have HO116 := n2_; have HB := n3_; clear n0_ n1_ n2_ n3_; (try clear hb); (try clear hb2); (try clear hk); (try clear hi); (try clear ho0); obtain ⟨Ao29, co29, eo29⟩ := Kd.R_slice HO116.out; subst eo29) | ((with_reducible refine gate_builtin (b := .append) (xs := #[.tmp 55, .tmp 57]) rfl ?_); at_builtin; refine Kd.S_append (Kd.slice 5 (Kd.int .u8)) (w0 := w) w.heap.size rfl (.tmp 55) (.tmp 57) 36 22 (.slice none 0 0) 24 rfl Tryd.underlying36 info22 rfl (by decide) (by omega) u9 x9_2 t113 [.slice Ao29 t113.length co29] (fun _ => True) (fun k_ => some k_ = (.slice Ao29 t113.length co29 : Value).ownBlock) rfl rfl ?aP (fun k_ hk_ => ((Kd.R_mono (ok' := fun k_ => ((fun _ => True)) k_ ∧ some k_ ≠ (u9 : Value).ownBlock) (Kd.R_apart' (HO116.out) (Kd.S_typed HO_9.out) (by decide)) (fun k_ hk => ⟨trivial, hk.2⟩))).1 k_ hk_.symm) ?aF ?aO ?aB ?aS ?aL ?_; (case aP => exact Kd.M_row (Kd.R_mono (Kd.R_tight rfl (Kd.R_mono (ok' := fun k_ => ((fun _ => True)) k_ ∧ some k_ ≠ (u9 : Value).ownBlock) (Kd.R_apart' (HO116.out) (Kd.S_typed HO_9.out) (by decide)) (fun k_ hk => ⟨trivial, hk.2⟩))) (fun _ h_ => h_))); (case aB => exact (by repeat (first | (with_reducible first | exact HB.out | apply below_alloc | apply pw_below_drewN | apply below_drew1) | exact HB.out))); (case aF => exact (fun _ _ => trivial)); (case aO => exact (by (with_reducible repeat (first | apply Kd.S_alloc | apply Kd.S_drewN | apply Kd.S_drew)); exact Kd.S_mono HO_9.out (fun k_ hk => ⟨trivial, fun e_ => hk.2 e_⟩))); (case aS => exact (below_size (by repeat (first | (with_reducible first | exact HB.out | apply below_alloc | apply pw_below_drewN | apply below_drew1) | exact HB.out)))); (case aL => have := LMc26.out; omega); intro v118 w28 ho hb hg hat; rw [← Ny117.out] at ho; have n0_ := Aside0.mk (Kd.R_over' (by (with_reducible repeat (first | apply Kd.R_alloc | apply Kd.R_drewN | apply Kd.R_drew)); exact HO_44.out) (Kd.S_typed (by (with_reducible repeat (first | apply Kd.S_alloc | apply Kd.S_drewN | apply Kd.S_drew)); exact HO_9.out)) (by decide) hg); have n1_ := Aside0.mk (hb); have n2_ := Aside0.mk (ho); clear HO_44; clear HB; clear HO_9; clear HO116; have HO_44 := n0_; have HB := n1_; have HO119 := n2_; clear n0_ n1_ n2_; clear ho hb hg hat))
               go_roundg k2
               case measure => have := HJ13.out; have := HK2.out; omega
               case rel => exact ⟨(y117), (wrap64 (x46_2 + 1)), (by first | rfl | (simp; done) | (simp [*]; done)), H', ⟨by have := HJ13.out; have := HK2.out; omega⟩, ⟨by (with_reducible repeat (first | apply Kd.S_alloc | apply Kd.S_drewN | apply Kd.S_drew)); exact HO119.out⟩, ⟨by (with_reducible repeat (first | apply Kd.R_alloc | apply Kd.R_drewN | apply Kd.R_drew)); exact HO_44.out⟩, ⟨by repeat (first | (with_reducible first | exact HB.out | apply below_alloc | apply pw_below_drewN | apply below_drew1) | exact HB.out)⟩⟩
              ·rw [if_neg c26] at H
               exact absurd H (by simp)
             ·rw [if_neg c24] at H
              exact absurd H (by simp)
            ·rw [if_neg c23] at H
             exact absurd H (by simp)
           ·rw [if_neg c22] at H
            have c22b0 : decide (x46_2 < (x7_13.length : Int)) = false := decide_eq_false c22
            clear c22
            replace H := Option.bind_eq_some_iff.mp H
            obtain ⟨t120, A300, H⟩ := H
            replace H : (if t120 = true then (some (x9_2, b8, 0)) else (some (([] : List (List Int)), false, 62))) = some (r1, r2, r3) := H
            have A30 := Aside0.mk A300
            clear A300
            by_cases c31 : t120 = true
            ·subst c31
             have H1 : (some (x9_2, b8, 0)) = some (r1, r2, r3) := by rw [if_pos rfl] at H; exact H
             clear H
             have H := H1
             clear H1
             simp only [Option.some.injEq, Prod.mk.injEq] at H
             obtain ⟨rfl, rfl, rfl⟩ := H
             obtain ⟨Ao32, co32, eo32⟩ := Kd.S_slice HO_9.out
             subst eo32
             go_wp2_with (first | ((with_reducible refine gate_callee (f := 52) rfl ?_); refine goesL_ (some 61) rfl rfl Tryd.func52 (by kernel_rfl) rfl #[.slice Ao32 x9_2.length co32] rfl (by (try simp only [List.map_toArray, List.map_cons, List.map_nil]); first | done | rfl | (simp only [List.length_drop, List.length_take]; rfl)) ?_; (with_reducible refine (owner_right.calls k2 _ _ x9_2 true _ ?side1 ?side2 A30.out).mono ?_); (case side1 => repeat (first | exact (Kd.S_reads' HO_9.out).2.2 | (with_reducible refine Kd.C_alloc ?_ _) | (with_reducible refine Kd.C_drewN ?_ _) | (with_reducible refine Kd.C_drew ?_))); (case side2 => exact (Kd.S_reads' HO_9.out).2.1); rintro e w' ⟨rfl, ⟨nd, rfl⟩⟩; refine ⟨_, rfl, ?_⟩))
             go_ret3
             exact ⟨_, by first | rfl | (simp [errW_none, errW_some] <;> rfl) | (simp only [← hji11]; first | rfl | (simp [errW_none, errW_some] <;> rfl)) | (simp [*, errW_none, errW_some] <;> rfl), by (with_reducible repeat (first | apply Kd.S_alloc | apply Kd.S_drewN | apply Kd.S_drew)); exact HO_9.out, by repeat (first | (with_reducible first | exact HB.out | apply below_alloc | apply pw_below_drewN | apply below_drew1) | exact HB.out)⟩
            ·replace c31 := Bool.eq_false_iff.mpr c31
             subst c31
             have H1 : (some (([] : List (List Int)), false, 62)) = some (r1, r2, r3) := by rw [if_neg (show ¬ (false = true) by decide)] at H; exact H
             clear H
             have H := H1
             clear H1
             simp only [Option.some.injEq, Prod.mk.injEq] at H
             obtain ⟨rfl, rfl, rfl⟩ := H
             obtain ⟨Ao33, co33, eo33⟩ := Kd.S_slice HO_9.out
             subst eo33
             go_wp2_with (first | ((with_reducible refine gate_callee (f := 52) rfl ?_); refine goesL_ (some 61) rfl rfl Tryd.func52 (by kernel_rfl) rfl #[.slice Ao33 x9_2.length co33] rfl (by (try simp only [List.map_toArray, List.map_cons, List.map_nil]); first | done | rfl | (simp only [List.length_drop, List.length_take]; rfl)) ?_; (with_reducible refine (owner_right.calls k2 _ _ x9_2 false _ ?side1 ?side2 A30.out).mono ?_); (case side1 => repeat (first | exact (Kd.S_reads' HO_9.out).2.2 | (with_reducible refine Kd.C_alloc ?_ _) | (with_reducible refine Kd.C_drewN ?_ _) | (with_reducible refine Kd.C_drew ?_))); (case side2 => exact (Kd.S_reads' HO_9.out).2.1); rintro e w' ⟨rfl, ⟨nd, rfl⟩⟩; refine ⟨_, rfl, ?_⟩))
             go_ret3
             exact ⟨_, by first | rfl | (simp [errW_none, errW_some] <;> rfl) | (simp only [← hji11]; first | rfl | (simp [errW_none, errW_some] <;> rfl)) | (simp [*, errW_none, errW_some] <;> rfl), by first | exact Kd.S_nil _ _ _ _ _ | exact Kd.N_nil _ _ _ _ _ | exact Kd.V_nil _ _ _ _ _ | exact Kd.Q_nil _ _ _ _ _ | exact Kd.R_nil _ _ _ _ _, by repeat (first | (with_reducible first | exact HB.out | apply below_alloc | apply pw_below_drewN | apply below_drew1) | exact HB.out)⟩
      ·rw [if_neg c13] at H
       exact absurd H (by simp)
     ·rw [if_neg c12] at H
      exact absurd H (by simp)
  ·rw [if_neg c4] at H
   exact absurd H (by simp)
 ·rw [if_neg c3] at H
  have c3b0 : (t102 == 0) = false := beq_eq_false_iff_ne.mpr c3
  have c3b1 : (t102 != 0) = true := bne_iff_ne.mpr c3
  simp only [Option.some.injEq, Prod.mk.injEq] at H
  obtain ⟨rfl, rfl, rfl⟩ := H
  go_enter Tryd.func24, Tryd.ntmps24
  go_wp2_with (first | ((with_reducible refine gate_callee (f := 19) rfl ?_); refine goesL_ (some 16) rfl rfl Tryd.func19 (by kernel_rfl) rfl #[.string a0] rfl (by (try simp only [List.map_toArray, List.map_cons, List.map_nil]); first | done | rfl | (simp only [List.length_drop, List.length_take]; rfl)) ?_; (with_reducible refine (token_Plain.calls k a0 t101 t102 _ A2.out).mono ?_); rintro e w34 ⟨v103, rfl, ho0, hb⟩; refine ⟨_, rfl, ?_⟩; have n0_ := Aside0.mk (Kd.R_lower ho0 (below_size (by repeat (first | (with_reducible first | exact HB.out | apply below_alloc | apply pw_below_drewN | apply below_drew1) | exact HB.out)))); have n1_ := Aside0.mk (below_step (by repeat (first | (with_reducible first | exact HB.out | apply below_alloc | apply pw_below_drewN | apply below_drew1) | exact HB.out)) hb); clear HB; have HO104 := n0_; have HB := n1_; clear n0_ n1_; (try clear hb); (try clear hb2); (try clear hk); (try clear hi); (try clear ho0)))
  go_ret3
  exact ⟨_, by first | rfl | (simp [errW_none, errW_some] <;> rfl) | (simp [*, errW_none, errW_some] <;> rfl), by first | exact Kd.S_nil _ _ _ _ _ | exact Kd.N_nil _ _ _ _ _ | exact Kd.V_nil _ _ _ _ _ | exact Kd.Q_nil _ _ _ _ _ | exact Kd.R_nil _ _ _ _ _, by repeat (first | (with_reducible first | exact HB.out | apply below_alloc | apply pw_below_drewN | apply below_drew1) | exact HB.out)⟩

end Go.Proofs.YtdnfmilnkoocdaaDoor.Q

-- from Qf55
-- Made by hp.py, a program of this session, with the kit's printer. Not trusted: Lean checks it.
namespace Go.Proofs.YtdnfmilnkoocdaaDoor.Q
open Go.RowKit Go.Proofs.YtdnfmilnkoocdaaDoorW.PrintWords Go.Proofs.YtdnfmilnkoocdaaDoorW.PrintLast Go.Proofs.YtdnfmilnkoocdaaDoorW.PrintMore
attribute [local go_sem] max2_int min2_int max_two min_two max_three min_three max_four min_four   -- for this text's walks alone
set_option linter.unusedVariables false
set_option linter.unusedSimpArgs false

/-! ### token_Indented: function 55 -/
def token_Indented.f (l0 : List Int) : Option (Bool) := if (l0.length : Int) > 0 then (if 0 < (l0.length : Int) then ((strings_IndexByte.f (⟨#[32, 9]⟩ : ByteArray) (rd l0 0)).bind fun t102 => (some (decide (t102 ≥ 0)))) else (none)) else (some false)
set_option maxHeartbeats 8000000 in
set_option maxRecDepth 100000 in
theorem token_Indented.calls (A0 : Option Addr) (c0 : Nat) (l0 : List Int) (r : Bool) (w : World) (hr0 : Kd.C (Kd.int .u8) w A0 l0.length l0) (hc0 : l0.length ≤ c0) (h : token_Indented.f l0 = some r) :
  Calls Tryd.prog 55 #[.slice A0 l0.length c0] w fun e w' => e = .returned (.bool r) ∧ Drawn0 w w' := by
 have HR0 := Aside0.mk hr0
 have HC0 := Aside0.mk hc0
 clear hr0 hc0
 have H : (if (l0.length : Int) > 0 then (if 0 < (l0.length : Int) then ((strings_IndexByte.f (⟨#[32, 9]⟩ : ByteArray) (rd l0 0)).bind fun t102 => (some (decide (t102 ≥ 0)))) else (none)) else (some false)) = some r := h
 clear h
 by_cases c2 : (l0.length : Int) > 0
 ·rw [if_pos c2] at H
  have c2b0 : decide (0 < (l0.length : Int)) = true := decide_eq_true c2
  have c2b1 : decide (0 < l0.length) = true := decide_eq_true (by omega)
  clear c2
  by_cases c3 : 0 < (l0.length : Int)
  ·rw [if_pos c3] at H
   have c3b0 : decide (0 < (l0.length : Int)) = true := decide_eq_true c3
   have c3b1 : decide (0 < l0.length) = true := decide_eq_true (by omega)
   clear c3
   replace H := Option.bind_eq_some_iff.mp H
   obtain ⟨t102, A40, H⟩ := H
   replace H : (some (decide (t102 ≥ 0))) = some r := H
   have A4 := Aside0.mk A40
   clear A40
   obtain rfl := Option.some.inj H
   have p101 : 0 ≤ (0 : Int) := (by omega)
   have q101 : 0 < (l0.length : Int) := of_decide_eq_true (by first | (with_reducible assumption) | assumption)
   obtain ⟨ad101, e101, hx101_0⟩ := Kd.at_int HR0.out 0 p101 q101
   cases e101
   have qi101 : (0 < l0.length) = True := eq_true (by omega)
   (try rw [show ((0 : Int)).toNat = 0 from rfl] at hx101_0)
   (try rw [Addr.add_zero'] at hx101_0)
   replace p101 := eq_true p101
   replace q101 := eq_true q101
   go_enter Tryd.func55, Tryd.ntmps55
   go_wp2_with (first | (go_at_call 46; (with_reducible refine (strings_IndexByte.calls (⟨#[32, 9]⟩ : ByteArray) (rd l0 0) t102 _ A4.out).mono ?_); rintro e w' ⟨rfl, ⟨nd, rfl⟩⟩))
   go_ret
   exact ⟨by first | rfl | (simp; done) | (simp [*]; done), by repeat (first | exact Drawn0.refl _ | apply Drawn0.step)⟩
  ·rw [if_neg c3] at H
   exact absurd H (by simp)
 ·rw [if_neg c2] at H
  have c2b0 : decide (0 < (l0.length : Int)) = false := decide_eq_false c2
  have c2b1 : decide (0 < l0.length) = false := decide_eq_false (by omega)
  clear c2
  obtain rfl := Option.some.inj H
  go_enter Tryd.func55, Tryd.ntmps55
  go_wp2
  go_ret
  exact ⟨by first | rfl | (simp; done) | (simp [*]; done), by repeat (first | exact Drawn0.refl _ | apply Drawn0.step)⟩

end Go.Proofs.YtdnfmilnkoocdaaDoor.Q

-- from Qf79
-- Made by hp.py, a program of this session, with the kit's printer. Not trusted: Lean checks it.
namespace Go.Proofs.YtdnfmilnkoocdaaDoor.Q
open Go.RowKit Go.Proofs.YtdnfmilnkoocdaaDoorW.PrintWords Go.Proofs.YtdnfmilnkoocdaaDoorW.PrintLast Go.Proofs.YtdnfmilnkoocdaaDoorW.PrintMore
attribute [local go_sem] max2_int min2_int max_two min_two max_three min_three max_four min_four   -- for this text's walks alone
set_option linter.unusedVariables false
set_option linter.unusedSimpArgs false

/-! ### stringslite_HasPrefix: function 79 -/
def stringslite_HasPrefix.f (a0 : ByteArray) (a1 : ByteArray) : Option (Bool) := if (a0.size : Int) ≥ (a1.size : Int) then (if 0 ≤ (a1.size : Int) then (if (a1.size : Int) ≤ (a0.size : Int) then (some ((a0.extract 0 ((a1.size : Int) : Int).toNat).toList == a1.toList)) else (none)) else (none)) else (some false)
set_option maxHeartbeats 8000000 in
set_option maxRecDepth 100000 in
theorem stringslite_HasPrefix.calls (a0 : ByteArray) (a1 : ByteArray) (r : Bool) (w : World) (h : stringslite_HasPrefix.f a0 a1 = some r) :
  Calls Tryd.prog 79 #[.string a0, .string a1] w fun e w' => e = .returned (.bool r) ∧ Drawn0 w w' := by
 have H : (if (a0.size : Int) ≥ (a1.size : Int) then (if 0 ≤ (a1.size : Int) then (if (a1.size : Int) ≤ (a0.size : Int) then (some ((a0.extract 0 ((a1.size : Int) : Int).toNat).toList == a1.toList)) else (none)) else (none)) else (some false)) = some r := h
 clear h
 by_cases c3 : (a0.size : Int) ≥ (a1.size : Int)
 ·rw [if_pos c3] at H
  have c3b0 : decide ((a1.size : Int) ≤ (a0.size : Int)) = true := decide_eq_true c3
  have c3b1 : decide (a1.size ≤ a0.size) = true := decide_eq_true (Int.ofNat_le.mp c3)
  clear c3
  by_cases c4 : 0 ≤ (a1.size : Int)
  ·rw [if_pos c4] at H
   have c4b0 := eq_true c4
   have c4b1 : decide (0 ≤ (a1.size : Int)) = true := decide_eq_true c4
   clear c4
   by_cases c5 : (a1.size : Int) ≤ (a0.size : Int)
   ·rw [if_pos c5] at H
    have c5b0 := eq_true c5
    have c5b1 : decide ((a1.size : Int) ≤ (a0.size : Int)) = true := decide_eq_true c5
    clear c5
    obtain rfl := Option.some.inj H
    go_enter Tryd.func79, Tryd.ntmps79
    go_wp2
    go_ret
    exact ⟨by first | rfl | (simp; done) | (simp [*]; done), by repeat (first | exact Drawn0.refl _ | apply Drawn0.step)⟩
   ·rw [if_neg c5] at H
    exact absurd H (by simp)
  ·rw [if_neg c4] at H
   exact absurd H (by simp)
 ·rw [if_neg c3] at H
  have c3b0 : decide ((a1.size : Int) ≤ (a0.size : Int)) = false := decide_eq_false c3
  have c3b1 : decide (a1.size ≤ a0.size) = false := decide_eq_false (fun h => c3 (Int.ofNat_le.mpr h))
  clear c3
  obtain rfl := Option.some.inj H
  go_enter Tryd.func79, Tryd.ntmps79
  go_wp2
  go_ret
  exact ⟨by first | rfl | (simp; done) | (simp [*]; done), by repeat (first | exact Drawn0.refl _ | apply Drawn0.step)⟩

end Go.Proofs.YtdnfmilnkoocdaaDoor.Q

-- from Qf56
-- Made by hp.py, a program of this session, with the kit's printer. Not trusted: Lean checks it.
namespace Go.Proofs.YtdnfmilnkoocdaaDoor.Q
open Go.RowKit Go.Proofs.YtdnfmilnkoocdaaDoorW.PrintWords Go.Proofs.YtdnfmilnkoocdaaDoorW.PrintLast Go.Proofs.YtdnfmilnkoocdaaDoorW.PrintMore
attribute [local go_sem] max2_int min2_int max_two min_two max_three min_three max_four min_four   -- for this text's walks alone
set_option linter.unusedVariables false
set_option linter.unusedSimpArgs false

/-! ### strings_HasPrefix: function 56 -/
def strings_HasPrefix.f (a0 : ByteArray) (a1 : ByteArray) : Option (Bool) := (stringslite_HasPrefix.f a0 a1).bind fun t101 => (some t101)
set_option maxHeartbeats 8000000 in
set_option maxRecDepth 100000 in
theorem strings_HasPrefix.calls (a0 : ByteArray) (a1 : ByteArray) (r : Bool) (w : World) (h : strings_HasPrefix.f a0 a1 = some r) :
  Calls Tryd.prog 56 #[.string a0, .string a1] w fun e w' => e = .returned (.bool r) ∧ Drawn0 w w' := by
 have H : ((stringslite_HasPrefix.f a0 a1).bind fun t101 => (some t101)) = some r := h
 clear h
 replace H := Option.bind_eq_some_iff.mp H
 obtain ⟨t101, A30, H⟩ := H
 replace H : (some t101) = some r := H
 have A3 := Aside0.mk A30
 clear A30
 obtain rfl := Option.some.inj H
 go_enter Tryd.func56, Tryd.ntmps56
 go_wp2_with (first | ((with_reducible refine gate_callee (f := 79) rfl ?_); refine goesL_ (some 7) rfl rfl Tryd.func79 (by kernel_rfl) rfl #[.string a0, .string a1] rfl (by (try simp only [List.map_toArray, List.map_cons, List.map_nil]); first | done | rfl | (simp only [List.length_drop, List.length_take]; rfl)) ?_; (with_reducible refine (stringslite_HasPrefix.calls a0 a1 t101 _ A3.out).mono ?_); rintro e w' ⟨rfl, ⟨nd, rfl⟩⟩; refine ⟨_, rfl, ?_⟩))
 go_ret
 exact ⟨by first | rfl | (simp; done) | (simp [*]; done), by repeat (first | exact Drawn0.refl _ | apply Drawn0.step)⟩

end Go.Proofs.YtdnfmilnkoocdaaDoor.Q

-- from Qf25
-- Made by hp.py, a program of this session, with the kit's printer. Not trusted: Lean checks it.
namespace Go.Proofs.YtdnfmilnkoocdaaDoor.Q
open Go.RowKit Go.Proofs.YtdnfmilnkoocdaaDoorW.PrintWords Go.Proofs.YtdnfmilnkoocdaaDoorW.PrintLast Go.Proofs.YtdnfmilnkoocdaaDoorW.PrintMore
attribute [local go_sem] max2_int min2_int max_two min_two max_three min_three max_four min_four   -- for this text's walks alone
set_option linter.unusedVariables false
set_option linter.unusedSimpArgs false

/-! ### owner_Of: function 25 -/
def owner_Of.j0 : Nat → List ByteArray → Bool → Option (List Int × Bool × Int)
 | 0, _, _ => none
 | k + 1, x5, x18 => if x18 = true then (some (([] : List Int), false, 0)) else (if 0 < (x5.length : Int) then ((owner_Labels.f k (rdOf ByteArray.empty x5 0)).bind fun bt110 => (if bt110.2.2 = 0 then (if (bt110.1.length : Int) = 0 then (some (([] : List Int), false, bt110.2.2)) else (if 0 < (bt110.1.length : Int) then (some (rd_L2 bt110.1 0, true, 0)) else (none))) else (some (([] : List Int), false, bt110.2.2)))) else (none))
def owner_Of.f (k : Nat) (l0 : List Int) : Option (List Int × Bool × Int) := (token_Split.f k l0).bind fun bt101 => (if bt101.2 = 0 then (if (bt101.1.length : Int) = 0 then (owner_Of.j0 k bt101.1 true) else ((token_Indented.f l0).bind fun t105 => (if t105 = true then (owner_Of.j0 k bt101.1 true) else (if 0 < (bt101.1.length : Int) then ((strings_HasPrefix.f (rdOf ByteArray.empty bt101.1 0) (⟨#[36]⟩ : ByteArray)).bind fun t107 => (if t107 = true then (owner_Of.j0 k bt101.1 true) else (owner_Of.j0 k bt101.1 ((rdOf ByteArray.empty bt101.1 0).toList == ([64] : List UInt8))))) else (none))))) else (some (([] : List Int), false, bt101.2)))
theorem owner_Of.mono_l : ∀ k, (∀ y0 y1, LeO (owner_Of.j0 k y0 y1) (owner_Of.j0 (k + 1) y0 y1))
 | 0 => fun _ _ r h => by simp [owner_Of.j0] at h
 | k + 1 => by
  have ih0 := owner_Of.mono_l k
  ·intro y0 y1
   unfold owner_Of.j0
   repeat' first
   | (with_reducible exact ih0 _ _)
   | (with_reducible exact owner_Labels.mono _ _)
   | (with_reducible exact token_Split.mono _ _)
   | (with_reducible exact LeO.refl _)
   | (with_reducible exact LeO.none _)
   | (with_reducible refine LeO.ite ?_ ?_)
   | (with_reducible refine LeO.bind ?_ (fun _ => ?_))
   | exact ih0 _ _
   | exact owner_Labels.mono _ _
   | exact token_Split.mono _ _
   | exact LeO.none _
   | refine LeO.ite ?_ ?_
   | refine LeO.bind ?_ (fun _ => ?_)
theorem owner_Of.mono : ∀ a0 k, LeO (owner_Of.f k a0) (owner_Of.f (k + 1) a0) := by
 intro a0 k
 have ih0 := owner_Of.mono_l k
 unfold owner_Of.f
 repeat' first
   | (with_reducible exact ih0 _ _)
   | (with_reducible exact owner_Labels.mono _ _)
   | (with_reducible exact token_Split.mono _ _)
   | (with_reducible exact LeO.refl _)
   | (with_reducible exact LeO.none _)
   | (with_reducible refine LeO.ite ?_ ?_)
   | (with_reducible refine LeO.bind ?_ (fun _ => ?_))
   | exact ih0 _ _
   | exact owner_Labels.mono _ _
   | exact token_Split.mono _ _
   | exact LeO.none _
   | refine LeO.ite ?_ ?_
   | refine LeO.bind ?_ (fun _ => ?_)
set_option maxHeartbeats 8000000 in
set_option maxRecDepth 100000 in
theorem owner_Of.calls (k : Nat) (A0 : Option Addr) (c0 : Nat) (l0 : List Int) (r1 : List Int) (r2 : Bool) (r3 : Int) (w : World) (hr0 : Kd.C (Kd.int .u8) w A0 l0.length l0) (hc0 : l0.length ≤ c0) (h : owner_Of.f k l0 = some (r1, r2, r3)) :
  Calls Tryd.prog 25 #[.slice A0 l0.length c0] w fun e w' => ∃ v0_ : Value, e = .returned (.tuple #[v0_, .bool r2, .int .i64 r3]) ∧ Kd.R (Kd.int .u8) 5 w' w.heap.size (fun _ => True) v0_ r1 ∧ Below w.heap.size w w' := by
 have HR0 := Aside0.mk hr0
 have HC0 := Aside0.mk hc0
 clear hr0 hc0
 have HB := Aside0.mk (Below.refl w.heap.size w)
 have H : ((token_Split.f k l0).bind fun bt101 => (if bt101.2 = 0 then (if (bt101.1.length : Int) = 0 then (owner_Of.j0 k bt101.1 true) else ((token_Indented.f l0).bind fun t105 => (if t105 = true then (owner_Of.j0 k bt101.1 true) else (if 0 < (bt101.1.length : Int) then ((strings_HasPrefix.f (rdOf ByteArray.empty bt101.1 0) (⟨#[36]⟩ : ByteArray)).bind fun t107 => (if t107 = true then (owner_Of.j0 k bt101.1 true) else (owner_Of.j0 k bt101.1 ((rdOf ByteArray.empty bt101.1 0).toList == ([64] : List UInt8))))) else (none))))) else (some (([] : List Int), false, bt101.2)))) = some (r1, r2, r3) := h
 clear h
 replace H := Option.bind_eq_some_iff.mp H
 obtain ⟨⟨t101, t102⟩, A20, H⟩ := H
 replace H : (if t102 = 0 then (if (t101.length : Int) = 0 then (owner_Of.j0 k t101 true) else ((token_Indented.f l0).bind fun t105 => (if t105 = true then (owner_Of.j0 k t101 true) else (if 0 < (t101.length : Int) then ((strings_HasPrefix.f (rdOf ByteArray.empty t101 0) (⟨#[36]⟩ : ByteArray)).bind fun t107 => (if t107 = true then (owner_Of.j0 k t101 true) else (owner_Of.j0 k t101 ((rdOf ByteArray.empty t101 0).toList == ([64] : List UInt8))))) else (none))))) else (some (([] : List Int), false, t102))) = some (r1, r2, r3) := H
 have A2 := Aside0.mk A20
 clear A20
 by_cases c3 : t102 = 0
 ·rw [if_pos c3] at H
  have c3b0 : (t102 == 0) = true := beq_iff_eq.mpr c3
  have c3b1 : (t102 != 0) = false := bne_eq_false_iff_eq.mpr c3
  clear c3
  have HC4 := Aside0.mk H
  clear H
  go_enter Tryd.func25, Tryd.ntmps25
  go_upto_region 4 with (first | ((with_reducible refine gate_callee (f := 14) rfl ?_); refine goesL_ (some 11) rfl rfl Tryd.func14 (by kernel_rfl) rfl #[.slice A0 l0.length c0] rfl (by (try simp only [List.map_toArray, List.map_cons, List.map_nil]); first | done | rfl | (simp only [List.length_drop, List.length_take]; rfl)) ?_; (with_reducible refine (token_Split.calls k _ _ l0 t101 t102 _ ?side1 ?side2 A2.out).mono ?_); (case side1 => repeat (first | exact HR0.out | (with_reducible refine Kd.C_alloc ?_ _) | (with_reducible refine Kd.C_drewN ?_ _) | (with_reducible refine Kd.C_drew ?_))); (case side2 => exact HC0.out); rintro e w5 ⟨v103, rfl, ho0, hb⟩; refine ⟨_, rfl, ?_⟩; have n0_ := Aside0.mk (Kd.R_lower ho0 (below_size (by repeat (first | (with_reducible first | exact HB.out | apply below_alloc | apply pw_below_drewN | apply below_drew1) | exact HB.out)))); have n1_ := Aside0.mk (below_step (by repeat (first | (with_reducible first | exact HB.out | apply below_alloc | apply pw_below_drewN | apply below_drew1) | exact HB.out)) hb); clear HB; have HO104 := n0_; have HB := n1_; clear n0_ n1_; (try clear hb); (try clear hb2); (try clear hk); (try clear hi); (try clear ho0)))
  (try simp only [Act.put, List.setIfInBounds_toArray, List.set_cons_zero, List.set_cons_succ])
  go_cut [18] (fun v18 wc => ∃ (kq : Nat) (x18_3 : Bool), v18 = .bool x18_3 ∧ Aside0 (owner_Of.j0 kq t101 x18_3 = some (r1, r2, r3)) ∧ Aside0 (kq ≤ k) ∧ Aside0 (Kd.R Kd.string 9 wc w.heap.size (fun _ => True) v103 t101) ∧ Aside0 (Below w.heap.size w wc))
  case first =>
   have H := HC4.out
   clear HC4
   by_cases c6 : (t101.length : Int) = 0
   ·rw [if_pos c6] at H
    have c6b0 : ((t101.length : Int) == 0) = true := beq_iff_eq.mpr c6
    have c6b1 : ((t101.length : Int) != 0) = false := bne_eq_false_iff_eq.mpr c6
    clear c6
    (first | rw [c6b0] | (simp only [i64_w, i32_w]; rw [c6b0]) | rw [c6b1] | (simp only [i64_w, i32_w]; rw [c6b1]) | skip)
    have H' := Aside0.mk H
    clear H
    obtain ⟨Ao7, co7, eo7⟩ := Kd.R_slice HO104.out
    subst eo7
    go_wp2
    go_meet
    case rel => exact ⟨_, (true), (by first | rfl | (simp; done) | (simp [*]; done)), H', ⟨by first | omega | exact Nat.le_refl _⟩, ⟨by (with_reducible repeat (first | apply Kd.R_alloc | apply Kd.R_drewN | apply Kd.R_drew)); exact HO104.out⟩, ⟨by repeat (first | (with_reducible first | exact HB.out | apply below_alloc | apply pw_below_drewN | apply below_drew1) | exact HB.out)⟩⟩
   ·rw [if_neg c6] at H
    have c6b0 : ((t101.length : Int) == 0) = false := beq_eq_false_iff_ne.mpr c6
    have c6b1 : ((t101.length : Int) != 0) = true := bne_iff_ne.mpr c6
    have c6b2 : ¬ (t101 = []) := fun h_ => c6 (by rw [h_]; rfl)
    (first | rw [c6b0] | (simp only [i64_w, i32_w]; rw [c6b0]) | rw [c6b1] | (simp only [i64_w, i32_w]; rw [c6b1]) | skip)
    replace H := Option.bind_eq_some_iff.mp H
    obtain ⟨t105, A80, H⟩ := H
    replace H : (if t105 = true then (owner_Of.j0 k t101 true) else (if 0 < (t101.length : Int) then ((strings_HasPrefix.f (rdOf ByteArray.empty t101 0) (⟨#[36]⟩ : ByteArray)).bind fun t107 => (if t107 = true then (owner_Of.j0 k t101 true) else (owner_Of.j0 k t101 ((rdOf ByteArray.empty t101 0).toList == ([64] : List UInt8))))) else (none))) = some (r1, r2, r3) := H
    have A8 := Aside0.mk A80
    clear A80
    by_cases c9 : t105 = true
    ·subst c9
     have H1 : (owner_Of.j0 k t101 true) = some (r1, r2, r3) := by rw [if_pos rfl] at H; exact H
     clear H
     have H := H1
     clear H1
     have H' := Aside0.mk H
     clear H
     obtain ⟨Ao10, co10, eo10⟩ := Kd.R_slice HO104.out
     subst eo10
     go_wp2_with (first | (go_at_call 55; (with_reducible refine (token_Indented.calls _ _ l0 true _ ?side1 ?side2 A8.out).mono ?_); (case side1 => repeat (first | exact (Kd.C_below HR0.out HB.out) | (with_reducible refine Kd.C_alloc ?_ _) | (with_reducible refine Kd.C_drewN ?_ _) | (with_reducible refine Kd.C_drew ?_))); (case side2 => exact HC0.out); rintro e w' ⟨rfl, ⟨nd, rfl⟩⟩))
     go_meet
     case rel => exact ⟨_, (true), (by first | rfl | (simp; done) | (simp [*]; done)), H', ⟨by first | omega | exact Nat.le_refl _⟩, ⟨by (with_reducible repeat (first | apply Kd.R_alloc | apply Kd.R_drewN | apply Kd.R_drew)); exact HO104.out⟩, ⟨by repeat (first | (with_reducible first | exact HB.out | apply below_alloc | apply pw_below_drewN | apply below_drew1) | exact HB.out)⟩⟩
    ·replace c9 := Bool.eq_false_iff.mpr c9
     subst c9
     have H1 : (if 0 < (t101.length : Int) then ((strings_HasPrefix.f (rdOf ByteArray.empty t101 0) (⟨#[36]⟩ : ByteArray)).bind fun t107 => (if t107 = true then (owner_Of.j0 k t101 true) else (owner_Of.j0 k t101 ((rdOf ByteArray.empty t101 0).toList == ([64] : List UInt8))))) else (none)) = some (r1, r2, r3) := by rw [if_neg (show ¬ (false = true) by decide)] at H; exact H
     clear H
     have H := H1
     clear H1
     by_cases c11 : 0 < (t101.length : Int)
     ·rw [if_pos c11] at H
      have c11b0 : decide (0 < (t101.length : Int)) = true := decide_eq_true c11
      have c11b1 : decide (0 < t101.length) = true := decide_eq_true (by omega)
      clear c11
      replace H := Option.bind_eq_some_iff.mp H
      obtain ⟨t107, A120, H⟩ := H
      replace H : (if t107 = true then (owner_Of.j0 k t101 true) else (owner_Of.j0 k t101 ((rdOf ByteArray.empty t101 0).toList == ([64] : List UInt8)))) = some (r1, r2, r3) := H
      have A12 := Aside0.mk A120
      clear A120
      by_cases c13 : t107 = true
      ·subst c13
       have H1 : (owner_Of.j0 k t101 true) = some (r1, r2, r3) := by rw [if_pos rfl] at H; exact H
       clear H
       have H := H1
       clear H1
       have H' := Aside0.mk H
       clear H
       obtain ⟨Ao14, co14, eo14⟩ := Kd.R_slice HO104.out
       subst eo14
       go_wp2_with (first | (go_at_call 55; (with_reducible refine (token_Indented.calls _ _ l0 false _ ?side1 ?side2 A8.out).mono ?_); (case side1 => repeat (first | exact (Kd.C_below HR0.out HB.out) | (with_reducible refine Kd.C_alloc ?_ _) | (with_reducible refine Kd.C_drewN ?_ _) | (with_reducible refine Kd.C_drew ?_))); (case side2 => exact HC0.out); rintro e w' ⟨rfl, ⟨nd, rfl⟩⟩; have p106 : 0 ≤ (0 : Int) := (by omega); have q106 : 0 < (t101.length : Int) := of_decide_eq_true (by first | (with_reducible assumption) | assumption); obtain ⟨ad106, e106, hx106_0⟩ := Kd.at_string (Kd.R_reads' HO104.out).2.2 0 p106 q106; cases e106; have qi106 : (0 < t101.length) = True := eq_true (by omega); (try rw [show ((0 : Int)).toNat = 0 from rfl] at hx106_0); (try rw [Addr.add_zero'] at hx106_0); replace p106 := eq_true p106; replace q106 := eq_true q106) | (go_at_call 56; (with_reducible refine (strings_HasPrefix.calls (rdOf ByteArray.empty t101 0) (⟨#[36]⟩ : ByteArray) true _ A12.out).mono ?_); rintro e w' ⟨rfl, ⟨nd, rfl⟩⟩))
       go_meet
       case rel => exact ⟨_, (true), (by first | rfl | (simp; done) | (simp [*]; done)), H', ⟨by first | omega | exact Nat.le_refl _⟩, ⟨by (with_reducible repeat (first | apply Kd.R_alloc | apply Kd.R_drewN | apply Kd.R_drew)); exact HO104.out⟩, ⟨by repeat (first | (with_reducible first | exact HB.out | apply below_alloc | apply pw_below_drewN | apply below_drew1) | exact HB.out)⟩⟩
      ·replace c13 := Bool.eq_false_iff.mpr c13
       subst c13
       have H1 : (owner_Of.j0 k t101 ((rdOf ByteArray.empty t101 0).toList == ([64] : List UInt8))) = some (r1, r2, r3) := by rw [if_neg (show ¬ (false = true) by decide)] at H; exact H
       clear H
       have H := H1
       clear H1
       have H' := Aside0.mk H
       clear H
       obtain ⟨Ao15, co15, eo15⟩ := Kd.R_slice HO104.out
       subst eo15
       go_wp2_with (first | (go_at_call 55; (with_reducible refine (token_Indented.calls _ _ l0 false _ ?side1 ?side2 A8.out).mono ?_); (case side1 => repeat (first | exact (Kd.C_below HR0.out HB.out) | (with_reducible refine Kd.C_alloc ?_ _) | (with_reducible refine Kd.C_drewN ?_ _) | (with_reducible refine Kd.C_drew ?_))); (case side2 => exact HC0.out); rintro e w' ⟨rfl, ⟨nd, rfl⟩⟩; have p106 : 0 ≤ (0 : Int) := (by omega); have q106 : 0 < (t101.length : Int) := of_decide_eq_true (by first | (with_reducible assumption) | assumption); obtain ⟨ad106, e106, hx106_0⟩ := Kd.at_string (Kd.R_reads' HO104.out).2.2 0 p106 q106; cases e106; have qi106 : (0 < t101.length) = True := eq_true (by omega); (try rw [show ((0 : Int)).toNat = 0 from rfl] at hx106_0); (try rw [Addr.add_zero'] at hx106_0); replace p106 := eq_true p106; replace q106 := eq_true q106) | (go_at_call 56; (with_reducible refine (strings_HasPrefix.calls (rdOf ByteArray.empty t101 0) (⟨#[36]⟩ : ByteArray) false _ A12.out).mono ?_); rintro e w' ⟨rfl, ⟨nd, rfl⟩⟩; have p108 : 0 ≤ (0 : Int) := (by omega); have q108 : 0 < (t101.length : Int) := of_decide_eq_true (by first | (with_reducible assumption) | assumption); obtain ⟨ad108, e108, hx108_0⟩ := Kd.at_string (Kd.R_reads' HO104.out).2.2 0 p108 q108; obtain rfl : ad106 = ad108 := (by injection e108); have qi108 : (0 < t101.length) = True := eq_true (by omega); (try rw [show ((0 : Int)).toNat = 0 from rfl] at hx108_0); (try rw [Addr.add_zero'] at hx108_0); replace p108 := eq_true p108; replace q108 := eq_true q108))
       go_meet
       case rel => exact ⟨_, (((rdOf ByteArray.empty t101 0).toList == ([64] : List UInt8))), (by first | rfl | (simp; done) | (simp [*]; done)), H', ⟨by first | omega | exact Nat.le_refl _⟩, ⟨by (with_reducible repeat (first | apply Kd.R_alloc | apply Kd.R_drewN | apply Kd.R_drew)); exact HO104.out⟩, ⟨by repeat (first | (with_reducible first | exact HB.out | apply below_alloc | apply pw_below_drewN | apply below_drew1) | exact HB.out)⟩⟩
     ·rw [if_neg c11] at H
      exact absurd H (by simp)
  case rest =>
   clear HC4
   try clear c1
   try clear p1
   try clear q1
   try clear hx1
   try clear qi1
   try clear c2
   try clear p2
   try clear c3
   try clear c3b0
   try clear c3b1
   try clear c6
   try clear c6b0
   try clear c6b1
   try clear c6b2
   try clear c9
   try clear p10
   try clear q10
   try clear hx10
   try clear qi10
   try clear c11
   try clear c11b0
   try clear c11b1
   try clear c13
   try clear c14
   try clear hx106_0
   try clear hx108_0
   try clear p106
   try clear p108
   try clear q106
   try clear q108
   obtain ⟨kq, x18_3, rfl, HA, HJ3, HO_5, HB⟩ := hcut
   cases kq with
   | zero => exact absurd HA.out (by simp [owner_Of.j0])
   | succ kj3 =>
    have H := HA.out
    clear HA
    simp only [owner_Of.j0] at H
    by_cases c16 : x18_3 = true
    ·subst c16
     have H1 : (some (([] : List Int), false, 0)) = some (r1, r2, r3) := by rw [if_pos rfl] at H; exact H
     clear H
     have H := H1
     clear H1
     simp only [Option.some.injEq, Prod.mk.injEq] at H
     obtain ⟨rfl, rfl, rfl⟩ := H
     go_wp2
     go_ret3
     exact ⟨_, by first | rfl | (simp [errW_none, errW_some] <;> rfl) | (simp [*, errW_none, errW_some] <;> rfl), by first | exact Kd.R_nil _ _ _ _ _ | exact Kd.N_nil _ _ _ _ _ | exact Kd.V_nil _ _ _ _ _ | exact Kd.Q_nil _ _ _ _ _ | exact Kd.S_nil _ _ _ _ _, by repeat (first | (with_reducible first | exact HB.out | apply below_alloc | apply pw_below_drewN | apply below_drew1) | exact HB.out)⟩
    ·replace c16 := Bool.eq_false_iff.mpr c16
     subst c16
     have H1 : (if 0 < (t101.length : Int) then ((owner_Labels.f kj3 (rdOf ByteArray.empty t101 0)).bind fun bt110 => (if bt110.2.2 = 0 then (if (bt110.1.length : Int) = 0 then (some (([] : List Int), false, bt110.2.2)) else (if 0 < (bt110.1.length : Int) then (some (rd_L2 bt110.1 0, true, 0)) else (none))) else (some (([] : List Int), false, bt110.2.2)))) else (none)) = some (r1, r2, r3) := by rw [if_neg (show ¬ (false = true) by decide)] at H; exact H
     clear H
     have H := H1
     clear H1
     by_cases c17 : 0 < (t101.length : Int)
     ·rw [if_pos c17] at H
      have c17b0 : decide (0 < (t101.length : Int)) = true := decide_eq_true c17
      have c17b1 : decide (0 < t101.length) = true := decide_eq_true (by omega)
      clear c17
      replace H := Option.bind_eq_some_iff.mp H
      obtain ⟨⟨t110, t111, t112⟩, A180, H⟩ := H
      replace H : (if t112 = 0 then (if (t110.length : Int) = 0 then (some (([] : List Int), false, t112)) else (if 0 < (t110.length : Int) then (some (rd_L2 t110 0, true, 0)) else (none))) else (some (([] : List Int), false, t112))) = some (r1, r2, r3) := H
      have A18 := Aside0.mk A180
      clear A180
      by_cases c19 : t112 = 0
      ·rw [if_pos c19] at H
       have c19b0 : (t112 == 0) = true := beq_iff_eq.mpr c19
       have c19b1 : (t112 != 0) = false := bne_eq_false_iff_eq.mpr c19
       clear c19
       by_cases c20 : (t110.length : Int) = 0
       ·rw [if_pos c20] at H
        have c20b0 : ((t110.length : Int) == 0) = true := beq_iff_eq.mpr c20
        have c20b1 : ((t110.length : Int) != 0) = false := bne_eq_false_iff_eq.mpr c20
        clear c20
        simp only [Option.some.injEq, Prod.mk.injEq] at H
        obtain ⟨rfl, rfl, rfl⟩ := H
        obtain ⟨Ao21, co21, eo21⟩ := Kd.R_slice HO_5.out
        subst eo21
        have p109 : 0 ≤ (0 : Int) := (by omega)
        have q109 : 0 < (t101.length : Int) := of_decide_eq_true (by first | (with_reducible assumption) | assumption)
        obtain ⟨ad109, e109, hx109_0⟩ := Kd.at_string (Kd.R_reads' HO_5.out).2.2 0 p109 q109
        cases e109
        have qi109 : (0 < t101.length) = True := eq_true (by omega)
        (try rw [show ((0 : Int)).toNat = 0 from rfl] at hx109_0)
        (try rw [Addr.add_zero'] at hx109_0)
        replace p109 := eq_true p109
        replace q109 := eq_true q109
        go_wp2_with (first | ((with_reducible refine gate_callee (f := 24) rfl ?_); refine goesL_ (some 42) rfl rfl Tryd.func24 (by kernel_rfl) rfl #[.string (rdOf ByteArray.empty t101 0)] rfl (by (try simp only [List.map_toArray, List.map_cons, List.map_nil]); first | done | rfl | (simp only [List.length_drop, List.length_take]; rfl)) ?_; (with_reducible refine (owner_Labels.calls kj3 (rdOf ByteArray.empty t101 0) t110 t111 t112 _ A18.out).mono ?_); rintro e w22 ⟨v113, rfl, ho0, hb⟩; refine ⟨_, rfl, ?_⟩; have n0_ := Aside0.mk (Kd.R_below (by (with_reducible repeat (first | apply Kd.R_alloc | apply Kd.R_drewN | apply Kd.R_drew)); exact HO_5.out) hb); have n1_ := Aside0.mk (Kd.S_lower ho0 (below_size (by repeat (first | (with_reducible first | exact HB.out | apply below_alloc | apply pw_below_drewN | apply below_drew1) | exact HB.out)))); have n2_ := Aside0.mk (below_step (by repeat (first | (with_reducible first | exact HB.out | apply below_alloc | apply pw_below_drewN | apply below_drew1) | exact HB.out)) hb); clear HO_5; clear HB; have HO_5 := n0_; have HO114 := n1_; have HB := n2_; clear n0_ n1_ n2_; (try clear hb); (try clear hb2); (try clear hk); (try clear hi); (try clear ho0); obtain ⟨Ao23, co23, eo23⟩ := Kd.S_slice HO114.out; subst eo23))
        go_ret3
        exact ⟨_, by first | rfl | (simp [errW_none, errW_some] <;> rfl) | (simp [*, errW_none, errW_some] <;> rfl), by first | exact Kd.R_nil _ _ _ _ _ | exact Kd.N_nil _ _ _ _ _ | exact Kd.V_nil _ _ _ _ _ | exact Kd.Q_nil _ _ _ _ _ | exact Kd.S_nil _ _ _ _ _, by repeat (first | (with_reducible first | exact HB.out | apply below_alloc | apply pw_below_drewN | apply below_drew1) | exact HB.out)⟩
       ·rw [if_neg c20] at H
        have c20b0 : ((t110.length : Int) == 0) = false := beq_eq_false_iff_ne.mpr c20
        have c20b1 : ((t110.length : Int) != 0) = true := bne_iff_ne.mpr c20
        have c20b2 : ¬ (t110 = []) := fun h_ => c20 (by rw [h_]; rfl)
        by_cases c24 : 0 < (t110.length : Int)
        ·rw [if_pos c24] at H
         have c24b0 : decide (0 < (t110.length : Int)) = true := decide_eq_true c24
         have c24b1 : decide (0 < t110.length) = true := decide_eq_true (by omega)
         clear c24
         simp only [Option.some.injEq, Prod.mk.injEq] at H
         obtain ⟨rfl, rfl, rfl⟩ := H
         obtain ⟨Ao25, co25, eo25⟩ := Kd.R_slice HO_5.out
         subst eo25
         have p109 : 0 ≤ (0 : Int) := (by omega)
         have q109 : 0 < (t101.length : Int) := of_decide_eq_true (by first | (with_reducible assumption) | assumption)
         obtain ⟨ad109, e109, hx109_0⟩ := Kd.at_string (Kd.R_reads' HO_5.out).2.2 0 p109 q109
         cases e109
         have qi109 : (0 < t101.length) = True := eq_true (by omega)
         (try rw [show ((0 : Int)).toNat = 0 from rfl] at hx109_0)
         (try rw [Addr.add_zero'] at hx109_0)
         replace p109 := eq_true p109
         replace q109 := eq_true q109
         go_wp2_with (first | ((with_reducible refine gate_callee (f := 24) rfl ?_); refine goesL_ (some 42) rfl rfl Tryd.func24 (by kernel_rfl) rfl #[.string (rdOf ByteArray.empty t101 0)] rfl (by (try simp only [List.map_toArray, List.map_cons, List.map_nil]); first | done | rfl | (simp only [List.length_drop, List.length_take]; rfl)) ?_; (with_reducible refine (owner_Labels.calls kj3 (rdOf ByteArray.empty t101 0) t110 t111 t112 _ A18.out).mono ?_); rintro e w26 ⟨v113, rfl, ho0, hb⟩; refine ⟨_, rfl, ?_⟩; have n0_ := Aside0.mk (Kd.R_below (by (with_reducible repeat (first | apply Kd.R_alloc | apply Kd.R_drewN | apply Kd.R_drew)); exact HO_5.out) hb); have n1_ := Aside0.mk (Kd.S_lower ho0 (below_size (by repeat (first | (with_reducible first | exact HB.out | apply below_alloc | apply pw_below_drewN | apply below_drew1) | exact HB.out)))); have n2_ := Aside0.mk (below_step (by repeat (first | (with_reducible first | exact HB.out | apply below_alloc | apply pw_below_drewN | apply below_drew1) | exact HB.out)) hb); clear HO_5; clear HB; have HO_5 := n0_; have HO114 := n1_; have HB := n2_; clear n0_ n1_ n2_; (try clear hb); (try clear hb2); (try clear hk); (try clear hi); (try clear ho0); obtain ⟨Ao27, co27, eo27⟩ := Kd.S_slice HO114.out; subst eo27; have p115 : 0 ≤ (0 : Int) := (by omega); have q115 : 0 < (t110.length : Int) := of_decide_eq_true (by first | (with_reducible assumption) | assumption); obtain ⟨ad115, A115_0, c115_0, e115, hx115_0, hl115_0, hi115_0⟩ := at_L2 (Kd.S_reads' HO114.out).2.2 0 p115 q115; cases e115; obtain ⟨ce115, hce115, hMe115, hcc115⟩ := Kd.S_get HO114.out [] 0 p115 (by first | exact q115 | exact of_decide_eq_true (by first | (with_reducible assumption) | assumption) | (have e_ := (Kd.S_reads' HO114.out).1; omega)); obtain ⟨ve115_0, rfl, ge115_0⟩ := hMe115; have hv115_0 := hcc115 0 _ rfl; rw [Nat.add_zero, show ((Kd.slice 5 (Kd.int .u8))).sz = 1 from rfl, Nat.mul_one] at hv115_0; replace hv115_0 := Option.some.inj (hv115_0.symm.trans hx115_0); rw [hv115_0] at ge115_0; have HL115_0 := Aside0.mk (show Kd.R (Kd.int .u8) 5 _ _ _ _ (rd_L2 t110 0) from ge115_0); clear hv115_0 ge115_0; clear hcc115 hce115; have qi115 : (0 < t110.length) = True := eq_true (by omega); (try rw [show ((0 : Int)).toNat = 0 from rfl] at hx115_0); (try rw [Addr.add_zero'] at hx115_0); have HR115_0 := Aside0.mk hi115_0; have HC115_0 := Aside0.mk hl115_0; clear hi115_0 hl115_0; replace p115 := eq_true p115; replace q115 := eq_true q115))
         go_ret3
         exact ⟨_, by first | rfl | (simp [errW_none, errW_some] <;> rfl) | (simp [*, errW_none, errW_some] <;> rfl), by (with_reducible repeat (first | apply Kd.R_alloc | apply Kd.R_drewN | apply Kd.R_drew)); exact Kd.R_mono HL115_0.out (fun _ hk => trivial), by repeat (first | (with_reducible first | exact HB.out | apply below_alloc | apply pw_below_drewN | apply below_drew1) | exact HB.out)⟩
        ·rw [if_neg c24] at H
         exact absurd H (by simp)
      ·rw [if_neg c19] at H
       have c19b0 : (t112 == 0) = false := beq_eq_false_iff_ne.mpr c19
       have c19b1 : (t112 != 0) = true := bne_iff_ne.mpr c19
       simp only [Option.some.injEq, Prod.mk.injEq] at H
       obtain ⟨rfl, rfl, rfl⟩ := H
       obtain ⟨Ao28, co28, eo28⟩ := Kd.R_slice HO_5.out
       subst eo28
       have p109 : 0 ≤ (0 : Int) := (by omega)
       have q109 : 0 < (t101.length : Int) := of_decide_eq_true (by first | (with_reducible assumption) | assumption)
       obtain ⟨ad109, e109, hx109_0⟩ := Kd.at_string (Kd.R_reads' HO_5.out).2.2 0 p109 q109
       cases e109
       have qi109 : (0 < t101.length) = True := eq_true (by omega)
       (try rw [show ((0 : Int)).toNat = 0 from rfl] at hx109_0)
       (try rw [Addr.add_zero'] at hx109_0)
       replace p109 := eq_true p109
       replace q109 := eq_true q109
       go_wp2_with (first | ((with_reducible refine gate_callee (f := 24) rfl ?_); refine goesL_ (some 42) rfl rfl Tryd.func24 (by kernel_rfl) rfl #[.string (rdOf ByteArray.empty t101 0)] rfl (by (try simp only [List.map_toArray, List.map_cons, List.map_nil]); first | done | rfl | (simp only [List.length_drop, List.length_take]; rfl)) ?_; (with_reducible refine (owner_Labels.calls kj3 (rdOf ByteArray.empty t101 0) t110 t111 t112 _ A18.out).mono ?_); rintro e w29 ⟨v113, rfl, ho0, hb⟩; refine ⟨_, rfl, ?_⟩; have n0_ := Aside0.mk (Kd.R_below (by (with_reducible repeat (first | apply Kd.R_alloc | apply Kd.R_drewN | apply Kd.R_drew)); exact HO_5.out) hb); have n1_ := Aside0.mk (Kd.S_lower ho0 (below_size (by repeat (first | (with_reducible first | exact HB.out | apply below_alloc | apply pw_below_drewN | apply below_drew1) | exact HB.out)))); have n2_ := Aside0.mk (below_step (by repeat (first | (with_reducible first | exact HB.out | apply below_alloc | apply pw_below_drewN | apply below_drew1) | exact HB.out)) hb); clear HO_5; clear HB; have HO_5 := n0_; have HO114 := n1_; have HB := n2_; clear n0_ n1_ n2_; (try clear hb); (try clear hb2); (try clear hk); (try clear hi); (try clear ho0)))
       go_ret3
       exact ⟨_, by first | rfl | (simp [errW_none, errW_some] <;> rfl) | (simp [*, errW_none, errW_some] <;> rfl), by first | exact Kd.R_nil _ _ _ _ _ | exact Kd.N_nil _ _ _ _ _ | exact Kd.V_nil _ _ _ _ _ | exact Kd.Q_nil _ _ _ _ _ | exact Kd.S_nil _ _ _ _ _, by repeat (first | (with_reducible first | exact HB.out | apply below_alloc | apply pw_below_drewN | apply below_drew1) | exact HB.out)⟩
     ·rw [if_neg c17] at H
      exact absurd H (by simp)
 ·rw [if_neg c3] at H
  have c3b0 : (t102 == 0) = false := beq_eq_false_iff_ne.mpr c3
  have c3b1 : (t102 != 0) = true := bne_iff_ne.mpr c3
  simp only [Option.some.injEq, Prod.mk.injEq] at H
  obtain ⟨rfl, rfl, rfl⟩ := H
  go_enter Tryd.func25, Tryd.ntmps25
  go_wp2_with (first | ((with_reducible refine gate_callee (f := 14) rfl ?_); refine goesL_ (some 11) rfl rfl Tryd.func14 (by kernel_rfl) rfl #[.slice A0 l0.length c0] rfl (by (try simp only [List.map_toArray, List.map_cons, List.map_nil]); first | done | rfl | (simp only [List.length_drop, List.length_take]; rfl)) ?_; (with_reducible refine (token_Split.calls k _ _ l0 t101 t102 _ ?side1 ?side2 A2.out).mono ?_); (case side1 => repeat (first | exact HR0.out | (with_reducible refine Kd.C_alloc ?_ _) | (with_reducible refine Kd.C_drewN ?_ _) | (with_reducible refine Kd.C_drew ?_))); (case side2 => exact HC0.out); rintro e w30 ⟨v103, rfl, ho0, hb⟩; refine ⟨_, rfl, ?_⟩; have n0_ := Aside0.mk (Kd.R_lower ho0 (below_size (by repeat (first | (with_reducible first | exact HB.out | apply below_alloc | apply pw_below_drewN | apply below_drew1) | exact HB.out)))); have n1_ := Aside0.mk (below_step (by repeat (first | (with_reducible first | exact HB.out | apply below_alloc | apply pw_below_drewN | apply below_drew1) | exact HB.out)) hb); clear HB; have HO104 := n0_; have HB := n1_; clear n0_ n1_; (try clear hb); (try clear hb2); (try clear hk); (try clear hi); (try clear ho0)))
  go_ret3
  exact ⟨_, by first | rfl | (simp [errW_none, errW_some] <;> rfl) | (simp [*, errW_none, errW_some] <;> rfl), by first | exact Kd.R_nil _ _ _ _ _ | exact Kd.N_nil _ _ _ _ _ | exact Kd.V_nil _ _ _ _ _ | exact Kd.Q_nil _ _ _ _ _ | exact Kd.S_nil _ _ _ _ _, by repeat (first | (with_reducible first | exact HB.out | apply below_alloc | apply pw_below_drewN | apply below_drew1) | exact HB.out)⟩

end Go.Proofs.YtdnfmilnkoocdaaDoor.Q

-- from Hzen
/- zone.entry: the walk. -/
namespace Go.Proofs.YtdnfmilnkoocdaaDoor.Q
open Go.RowKit Go.Shelf Go.Proofs.YtdnfmilnkoocdaaDoorW.PrintWords Go.Proofs.YtdnfmilnkoocdaaDoorW.PrintLast Go.Proofs.YtdnfmilnkoocdaaDoorW.PrintMore Go.Proofs.YtdnfmilnkoocdaaDoor.K
set_option linter.unusedVariables false
set_option linter.unusedSimpArgs false

theorem bytesIn_of {w : World} {A : Option Addr} {L : List Int} (ho : Oct L) (hr : Kd.C (Kd.int .u8) w A L.length L) : Lib.BytesIn w A L.length L := fun hn => by
  have hrd := Kd.reads_of_C (enc := Value.int .u8) (d := (0 : Int)) (h1 := fun _ => rfl) hr
  obtain ⟨ad, rfl, h⟩ := hrd.2.2 hn
  exact Lib.BytesIn.of_cells (fun i hi => h i hi) hn
/-- A front piece of a row. -/
theorem C_front {w : World} {A : Option Addr} {L : List Int} (n : Nat) (hn : n ≤ L.length) (hr : Kd.C (Kd.int .u8) w A L.length L) : Kd.C (Kd.int .u8) w A n (L.take n) := by
  have hrd := Kd.reads_of_C (enc := Value.int .u8) (d := (0 : Int)) (h1 := fun _ => rfl) hr
  have hl : (L.take n).length = n := by rw [List.length_take]; omega
  refine Kd.C_of_reads (d := (0 : Int)) ⟨hl, by have := hrd.2.1; omega, fun hp => ?_⟩
  obtain ⟨ad, e, h⟩ := hrd.2.2 (by omega)
  refine ⟨ad, e, fun j hj => ?_⟩
  rw [h j (by omega), List.getD_eq_getElem?_getD, List.getD_eq_getElem?_getD, List.getElem?_take_of_lt hj]
theorem zTrim.calls (A : Option Addr) (c : Nat) (L : List Int) (ho : Oct L) (hl : L.length ≤ 1000000) (A2 : Option Addr) (d : Nat) (w : World) (hr : Kd.C (Kd.int .u8) w A L.length L) (hc : L.length ≤ c) (hr2 : Kd.C (Kd.int .u8) w A2 1 [13]) :
    Calls Tryd.prog 99 #[.slice A L.length c, .slice A2 1 d] w fun e w' => ∃ c', e = .returned (.slice A (stripCR L).length c') ∧ (stripCR L).length ≤ c' ∧ Kd.C (Kd.int .u8) w A (stripCR L).length (stripCR L) ∧ w' = w := by
  refine (Any.bytes_TrimSuffix_all Tryd.laysb140 A A2 L.length c 1 d L [13] w rfl rfl hc (by omega) (bytesIn_of ho hr) (bytesIn_of (L := [13]) (fun x hx => by simp at hx; omega) hr2)).mono ?_
  rintro e w' ⟨rfl, rfl⟩
  have hsf : Lib.hasSuffix (Lib.bytesOf L) (Lib.bytesOf [13]) = decide (L.getLast? = some 13) := by
    rw [show Lib.bytesOf [13] = [13] from rfl]
    unfold Lib.hasSuffix
    rcases List.eq_nil_or_concat L with rfl | ⟨l, x, rfl⟩
    · rfl
    · rw [List.concat_eq_append] at ho ⊢
      have hb : Lib.bytesOf (l ++ [x]) = Lib.bytesOf l ++ [UInt8.ofNat x.toNat] := by simp [Lib.bytesOf]
      have hx := ho x (by simp)
      have e := u8_eq hx (y := 13) (by decide)
      rw [show UInt8.ofNat (13 : Int).toNat = 13 from rfl] at e
      rw [hb, Bool.eq_iff_iff, List.isSuffixOf_iff_suffix]
      simp only [List.getLast?_append, List.getLast?_singleton, Option.some_or, decide_eq_true_eq, Option.some.injEq]
      rw [← decide_eq_true_iff (p := x = 13), ← e, beq_iff_eq]
      constructor
      · rintro ⟨t, ht⟩
        have := List.append_inj_right' ht rfl
        simpa using this.symm
      · intro h; exact ⟨_, by rw [h]⟩
  by_cases h13 : L.getLast? = some 13
  · have hs : stripCR L = L.take (L.length - 1) := by unfold stripCR; rw [if_pos h13, List.dropLast_eq_take]
    have hne : 0 < L.length := List.length_pos_iff.2 (fun e => by rw [e] at h13; cases h13)
    have hlen : (stripCR L).length = L.length - 1 := by rw [hs, List.length_take]; omega
    obtain ⟨ad, rfl, hcl⟩ := (Kd.reads_of_C (enc := Value.int .u8) (d := (0 : Int)) (h1 := fun _ => rfl) hr).2.2 hne
    have hpl := Lib.plain_of_cell (by simpa [Addr.add] using hcl 0 hne)
    obtain ⟨b, o, sp⟩ := ad
    simp only [Addr.mk.injEq, true_and] at hpl
    subst hpl
    refine ⟨c, ?_, by omega, ?_, rfl⟩
    · show Ending.returned (Lib.bytesTrimSuffix b o L.length c L [13]) = _
      unfold Lib.bytesTrimSuffix
      rw [if_pos (by rw [hsf]; exact decide_eq_true h13), hlen]
      rfl
    · rw [hlen, hs]; exact C_front (L.length - 1) (by omega) hr
  · have hs : stripCR L = L := by unfold stripCR; rw [if_neg h13]
    rw [hs]
    refine ⟨c, ?_, hc, hr, rfl⟩
    unfold Lib.trimSuffixV
    split
    · unfold Lib.bytesTrimSuffix
      rw [if_neg (by rw [hsf]; simpa using h13)]
    · rfl
/-- An entry's cells. -/
def E3 (W : World) (b : Nat) (x y z : Value) : Prop := W.heap[b]? = some (.cells #[x, y, z] 99 (0, 0))
theorem E3.lt {W : World} {b : Nat} {x y z : Value} (h : E3 W b x y z) : b < W.heap.size := (Array.getElem?_eq_some_iff.1 h).1
theorem E3.at {W : World} {b n : Nat} {x y z : Value} (h : E3 W b x y z) (v : Value) : (W.setCell ⟨b, n, none⟩ v).heap[b]? = some (.cells (#[x, y, z].setIfInBounds n v) 99 (0, 0)) := by
  obtain ⟨hlt, hk⟩ := Array.getElem?_eq_some_iff.1 h
  show (W.heap.modify b _)[b]? = _
  rw [Array.getElem?_eq_getElem (by rw [Array.size_modify]; exact hlt), Array.getElem_modify_self, hk]
  rfl
theorem E3.set0 {W : World} {b : Nat} {x y z : Value} (h : E3 W b x y z) (v : Value) : E3 (W.setCell ⟨b, 0, none⟩ v) b v y z := h.at v
theorem E3.set1 {W : World} {b : Nat} {x y z : Value} (h : E3 W b x y z) (v : Value) : E3 (W.setCell ⟨b, 1, none⟩ v) b x v z := h.at v
theorem E3.set2 {W : World} {b : Nat} {x y z : Value} (h : E3 W b x y z) (v : Value) : E3 (W.setCell ⟨b, 2, none⟩ v) b x y v := h.at v
theorem E3.cells {W : World} {b : Nat} {x y z : Value} (h : E3 W b x y z) : W.cell? ⟨b, 0, none⟩ = some x ∧ W.cell? ⟨b, 1, none⟩ = some y ∧ W.cell? ⟨b, 2, none⟩ = some z := by
  refine ⟨?_, ?_, ?_⟩ <;> (simp only [World.cell?]; rw [h]; rfl)
theorem E3.frz {W : World} {b : Nat} {x y z : Value} (h : E3 W b x y z) (n : Nat) : W.frozen? ⟨b, n, none⟩ = false := by
  simp only [World.frozen?]; rw [h]; simp
theorem E3.facts {W : World} {b : Nat} {x y z : Value} (h : E3 W b x y z) : W.cell? ⟨b, 0, none⟩ = some x ∧ W.frozen? ⟨b, 0, none⟩ = false ∧
    (∀ u, (W.setCell ⟨b, 0, none⟩ u).cell? ⟨b, 1, none⟩ = some y ∧ (W.setCell ⟨b, 0, none⟩ u).frozen? ⟨b, 1, none⟩ = false) ∧
    (∀ u v, ((W.setCell ⟨b, 0, none⟩ u).setCell ⟨b, 1, none⟩ v).cell? ⟨b, 2, none⟩ = some z ∧ ((W.setCell ⟨b, 0, none⟩ u).setCell ⟨b, 1, none⟩ v).frozen? ⟨b, 2, none⟩ = false) :=
  ⟨h.cells.1, h.frz 0, fun u => ⟨(h.set0 u).cells.2.1, (h.set0 u).frz 1⟩, fun u v => ⟨((h.set0 u).set1 v).cells.2.2, ((h.set0 u).set1 v).frz 2⟩⟩
/-- A row stays, where another block's cells are written. -/
theorem rowU_set {W : World} {B b n : Nat} {v u : Value} {l : List Int} (h : Kd.R (Kd.int .u8) 5 W B (fun _ => True) v l) (hb : b < B) : Kd.R (Kd.int .u8) 5 (W.setCell ⟨b, n, none⟩ u) B (fun _ => True) v l := by
  have hown := Kd.own_of_R h
  exact Kd.R_of_own (own_setCell hown (fun e => by have := own_base hown _ e.symm; simp only at this; omega) u) (fun _ _ => trivial)
-- ENTRY (gen_zen.py)
set_option maxHeartbeats 2000000 in
set_option maxRecDepth 100000 in
theorem zone_entry.err (k : Nat) (i : Int) (A : Option Addr) (c : Nat) (L : List Int) (ho : Oct L) (hl : L.length ≤ 1000000) (A2 : Option Addr) (c2 : Nat) (last : List Int) (b0 : List Int) (ok : Bool) (er : Int) (w : World) (hr : Kd.C (Kd.int .u8) w A L.length L) (hc : L.length ≤ c) (hof : owner_Of.f k (stripCR L) = some (b0, ok, er)) (her : er ≠ 0) :
    Calls Tryd.prog 82 #[.int .i64 i, .slice A L.length c, .slice A2 last.length c2] w fun e w' => e = .returned (.tuple #[.agg #[.int .i64 i, .slice none 0 0, .int .i64 er], .bool true]) ∧ Below w.heap.size w w' := by
  have HO := Aside0.mk ho
  have HL := Aside0.mk hl
  have HR := Aside0.mk hr
  have HC := Aside0.mk hc
  have HOF := Aside0.mk hof
  have e0 : (er == 0) = false := beq_eq_false_iff_ne.mpr her
  have e1 : (er != 0) = true := by rw [bne, e0]; rfl
  clear her
  have HB0 : Aside0 (Below w.heap.size w (w.alloc (.cells #[.int .i64 0, .slice none 0 0, .int .i64 0] 99))) := ⟨(Below.refl _ w).alloc (Nat.le_refl _) _⟩
  have HE0 : Aside0 (E3 (w.alloc (.cells #[.int .i64 0, .slice none 0 0, .int .i64 0] 99)) w.heap.size (.int .i64 0) (.slice none 0 0) (.int .i64 0)) := ⟨heap_alloc_new w _⟩
  clear ho hl hr hc hof
  go_enter Tryd.func82, Tryd.ntmps82
  go_wp2_with (first
    | ((with_reducible refine gate_dst (N := 15) rfl ?_); (try (refine gate_guard (by rfl) ?_; dsimp only)); refine bytesLit.step 22 5 _ [13] [13] rfl rfl rfl (by rw [World.size_alloc]; rfl) Tryd.underlying22 Tryd.underlying5 rfl rfl (by decide) (by decide) ?_; intro v1 w2 hv1 hb2; have HV1 := Aside0.mk hv1; have HB2 := Aside0.mk hb2; clear hv1 hb2)
    | (go_at_call 99
       obtain ⟨A1, c1, rfl⟩ := Kd.V_slice HV1.out
       obtain ⟨-, hc1, hC1⟩ := Kd.V_reads' HV1.out
       have hb02 := HB0.out.trans (HB2.out.mono HB0.out.size)
       refine (zTrim.calls A c L HO.out HL.out A1 c1 w2 (Kd.C_below HR.out hb02) HC.out hC1).mono ?_
       rintro e w3 ⟨c3, rfl, hc3, hC3, rfl⟩
       have HC3 := Aside0.mk hc3
       have HR3 := Aside0.mk hC3
       clear hc1 hC1 hb02 hc3 hC3)
    | (go_at_call 25; refine (owner_Of.calls k A c3 (stripCR L) b0 ok er _ HR3.out HC3.out HOF.out).mono ?_; rintro e w4 ⟨v4, rfl, hR4, hb⟩; have HB4 := Aside0.mk (HB2.out.trans (hb.mono HB2.out.size)); have HEw4 : Aside0 (E3 w4 w.heap.size (.int .i64 0) (.slice none 0 0) (.int .i64 0)) := ⟨(HB4.out.block _ HE0.out.lt).trans HE0.out⟩; obtain ⟨q0, q1, q2, q3⟩ := E3.facts HEw4.out
       clear hb hR4))
  have hfin := ((HEw4.out.set0 (.int .i64 i)).set1 (.slice none 0 0)).set2 (.int .i64 er)
  obtain ⟨y0, y1, y2⟩ := E3.cells hfin
  refine bodyPost_ret (v := .tuple #[.agg #[.int .i64 i, .slice none 0 0, .int .i64 er], .bool true]) (by simp [results, Tryd.results82, go_sem, y0, y1, y2]) rfl ?_
  have hbb := (((HB0.out.trans (HB4.out.mono HB0.out.size)).setCell (p := ⟨w.heap.size, 0, none⟩) (Nat.le_refl _) (.int .i64 i)).setCell (p := ⟨w.heap.size, 1, none⟩) (Nat.le_refl _) (.slice none 0 0)).setCell (p := ⟨w.heap.size, 2, none⟩) (Nat.le_refl _) (.int .i64 er)
  exact ⟨rfl, hbb⟩
set_option maxHeartbeats 2000000 in
set_option maxRecDepth 100000 in
theorem zone_entry.skip (k : Nat) (k2 : Nat) (b : List Int) (i : Int) (A : Option Addr) (c : Nat) (L : List Int) (ho : Oct L) (hl : L.length ≤ 1000000) (A2 : Option Addr) (c2 : Nat) (last : List Int) (b0 : List Int) (w : World) (hr : Kd.C (Kd.int .u8) w A L.length L) (hc : L.length ≤ c) (hr2 : Kd.C (Kd.int .u8) w A2 last.length last) (hlow : ldh_Lower.f k2 b0 = some b) (hof : owner_Of.f k (stripCR L) = some (b0, false, 0)) :
    Calls Tryd.prog 82 #[.int .i64 i, .slice A L.length c, .slice A2 last.length c2] w fun e w' => e = .returned (.tuple #[.agg #[.int .i64 0, .slice none 0 0, .int .i64 0], .bool false]) ∧ Below w.heap.size w w' := by
  have HO := Aside0.mk ho
  have HL := Aside0.mk hl
  have HR := Aside0.mk hr
  have HC := Aside0.mk hc
  have HOF := Aside0.mk hof
  have HA2 := Aside0.mk hr2
  have HLOW := Aside0.mk hlow

  have HB0 : Aside0 (Below w.heap.size w (w.alloc (.cells #[.int .i64 0, .slice none 0 0, .int .i64 0] 99))) := ⟨(Below.refl _ w).alloc (Nat.le_refl _) _⟩
  have HE0 : Aside0 (E3 (w.alloc (.cells #[.int .i64 0, .slice none 0 0, .int .i64 0] 99)) w.heap.size (.int .i64 0) (.slice none 0 0) (.int .i64 0)) := ⟨heap_alloc_new w _⟩
  clear ho hl hr hc hof hr2 hlow
  go_enter Tryd.func82, Tryd.ntmps82
  go_wp2_with (first
    | ((with_reducible refine gate_dst (N := 15) rfl ?_); (try (refine gate_guard (by rfl) ?_; dsimp only)); refine bytesLit.step 22 5 _ [13] [13] rfl rfl rfl (by rw [World.size_alloc]; rfl) Tryd.underlying22 Tryd.underlying5 rfl rfl (by decide) (by decide) ?_; intro v1 w2 hv1 hb2; have HV1 := Aside0.mk hv1; have HB2 := Aside0.mk hb2; clear hv1 hb2)
    | (go_at_call 99
       obtain ⟨A1, c1, rfl⟩ := Kd.V_slice HV1.out
       obtain ⟨-, hc1, hC1⟩ := Kd.V_reads' HV1.out
       have hb02 := HB0.out.trans (HB2.out.mono HB0.out.size)
       refine (zTrim.calls A c L HO.out HL.out A1 c1 w2 (Kd.C_below HR.out hb02) HC.out hC1).mono ?_
       rintro e w3 ⟨c3, rfl, hc3, hC3, rfl⟩
       have HC3 := Aside0.mk hc3
       have HR3 := Aside0.mk hC3
       clear hc1 hC1 hb02 hc3 hC3)
    | (go_at_call 25; refine (owner_Of.calls k A c3 (stripCR L) b0 false 0 _ HR3.out HC3.out HOF.out).mono ?_; rintro e w4 ⟨v4, rfl, hR4, hb⟩; have HB4 := Aside0.mk (HB2.out.trans (hb.mono HB2.out.size)); obtain ⟨A4, c4, hv4, hc4, hC4⟩ := Kd.R_reads hR4; subst hv4; have HC4 := Aside0.mk hc4; have HR4 := Aside0.mk hC4; clear hc4 hC4
       clear hb hR4)
    | (go_at_call 100; refine (ldh_Lower.calls k2 A4 c4 b0 b _ HR4.out HC4.out HLOW.out).mono ?_; rintro e w5 ⟨v5, rfl, hR5, hb⟩; obtain ⟨A5, c5, hv5⟩ := Kd.R_slice hR5; subst hv5; have HR5 := Aside0.mk hR5; have HB5 := Aside0.mk (HB4.out.trans (hb.mono HB4.out.size)); have HEw5 : Aside0 (E3 w5 w.heap.size (.int .i64 0) (.slice none 0 0) (.int .i64 0)) := ⟨(HB5.out.block _ HE0.out.lt).trans HE0.out⟩; obtain ⟨q0, q1, q2, q3⟩ := E3.facts HEw5.out
       clear hb hR5)
    | (go_at_call 101
       obtain ⟨A6, c6, hv6, hc6, hC6⟩ := Kd.R_reads HR5.out
       injection hv6 with g1 g2 g3
       subst g1 g3
       refine (bytes_Compare.calls A5 A2 c5 c2 b last w5 hC6 (Kd.C_below HA2.out (HB0.out.trans (HB5.out.mono HB0.out.size)))).mono ?_
       rintro e w6 ⟨rfl, rfl⟩
       clear g2 hc6 hC6))
  have hfin := ((HEw5.out.set0 (.int .i64 0)).set1 (.slice none 0 0)).set2 (.int .i64 0)
  obtain ⟨y0, y1, y2⟩ := E3.cells hfin
  refine bodyPost_ret (v := .tuple #[.agg #[.int .i64 0, .slice none 0 0, .int .i64 0], .bool false]) (by simp [results, Tryd.results82, go_sem, y0, y1, y2]) rfl ?_
  have hbb := (((HB0.out.trans (HB5.out.mono HB0.out.size)).setCell (p := ⟨w.heap.size, 0, none⟩) (Nat.le_refl _) (.int .i64 0)).setCell (p := ⟨w.heap.size, 1, none⟩) (Nat.le_refl _) (.slice none 0 0)).setCell (p := ⟨w.heap.size, 2, none⟩) (Nat.le_refl _) (.int .i64 0)
  exact ⟨rfl, hbb⟩
set_option maxHeartbeats 2000000 in
set_option maxRecDepth 100000 in
theorem zone_entry.same (k : Nat) (k2 : Nat) (b : List Int) (i : Int) (A : Option Addr) (c : Nat) (L : List Int) (ho : Oct L) (hl : L.length ≤ 1000000) (a2 : Addr) (c2 : Nat) (last : List Int) (b0 : List Int) (w : World) (hr : Kd.C (Kd.int .u8) w A L.length L) (hc : L.length ≤ c) (hr2 : Kd.C (Kd.int .u8) w (some a2) last.length last) (hlow : ldh_Lower.f k2 b0 = some b) (hof : owner_Of.f k (stripCR L) = some (b0, true, 0)) (hz : zcmp b last = 0) :
    Calls Tryd.prog 82 #[.int .i64 i, .slice A L.length c, .slice (some a2) last.length c2] w fun e w' => e = .returned (.tuple #[.agg #[.int .i64 0, .slice none 0 0, .int .i64 0], .bool false]) ∧ Below w.heap.size w w' := by
  have HO := Aside0.mk ho
  have HL := Aside0.mk hl
  have HR := Aside0.mk hr
  have HC := Aside0.mk hc
  have HOF := Aside0.mk hof
  have HA2 := Aside0.mk hr2
  have HLOW := Aside0.mk hlow
  have z0 : (zcmp b last == 0) = true := beq_iff_eq.mpr hz
  clear hz
  have HB0 : Aside0 (Below w.heap.size w (w.alloc (.cells #[.int .i64 0, .slice none 0 0, .int .i64 0] 99))) := ⟨(Below.refl _ w).alloc (Nat.le_refl _) _⟩
  have HE0 : Aside0 (E3 (w.alloc (.cells #[.int .i64 0, .slice none 0 0, .int .i64 0] 99)) w.heap.size (.int .i64 0) (.slice none 0 0) (.int .i64 0)) := ⟨heap_alloc_new w _⟩
  clear ho hl hr hc hof hr2 hlow
  go_enter Tryd.func82, Tryd.ntmps82
  go_wp2_with (first
    | ((with_reducible refine gate_dst (N := 15) rfl ?_); (try (refine gate_guard (by rfl) ?_; dsimp only)); refine bytesLit.step 22 5 _ [13] [13] rfl rfl rfl (by rw [World.size_alloc]; rfl) Tryd.underlying22 Tryd.underlying5 rfl rfl (by decide) (by decide) ?_; intro v1 w2 hv1 hb2; have HV1 := Aside0.mk hv1; have HB2 := Aside0.mk hb2; clear hv1 hb2)
    | (go_at_call 99
       obtain ⟨A1, c1, rfl⟩ := Kd.V_slice HV1.out
       obtain ⟨-, hc1, hC1⟩ := Kd.V_reads' HV1.out
       have hb02 := HB0.out.trans (HB2.out.mono HB0.out.size)
       refine (zTrim.calls A c L HO.out HL.out A1 c1 w2 (Kd.C_below HR.out hb02) HC.out hC1).mono ?_
       rintro e w3 ⟨c3, rfl, hc3, hC3, rfl⟩
       have HC3 := Aside0.mk hc3
       have HR3 := Aside0.mk hC3
       clear hc1 hC1 hb02 hc3 hC3)
    | (go_at_call 25; refine (owner_Of.calls k A c3 (stripCR L) b0 true 0 _ HR3.out HC3.out HOF.out).mono ?_; rintro e w4 ⟨v4, rfl, hR4, hb⟩; have HB4 := Aside0.mk (HB2.out.trans (hb.mono HB2.out.size)); obtain ⟨A4, c4, hv4, hc4, hC4⟩ := Kd.R_reads hR4; subst hv4; have HC4 := Aside0.mk hc4; have HR4 := Aside0.mk hC4; clear hc4 hC4
       clear hb hR4)
    | (go_at_call 100; refine (ldh_Lower.calls k2 A4 c4 b0 b _ HR4.out HC4.out HLOW.out).mono ?_; rintro e w5 ⟨v5, rfl, hR5, hb⟩; obtain ⟨A5, c5, hv5⟩ := Kd.R_slice hR5; subst hv5; have HR5 := Aside0.mk hR5; have HB5 := Aside0.mk (HB4.out.trans (hb.mono HB4.out.size)); have HEw5 : Aside0 (E3 w5 w.heap.size (.int .i64 0) (.slice none 0 0) (.int .i64 0)) := ⟨(HB5.out.block _ HE0.out.lt).trans HE0.out⟩; obtain ⟨q0, q1, q2, q3⟩ := E3.facts HEw5.out
       clear hb hR5)
    | (go_at_call 101
       obtain ⟨A6, c6, hv6, hc6, hC6⟩ := Kd.R_reads HR5.out
       injection hv6 with g1 g2 g3
       subst g1 g3
       refine (bytes_Compare.calls A5 (some a2) c5 c2 b last w5 hC6 (Kd.C_below HA2.out (HB0.out.trans (HB5.out.mono HB0.out.size)))).mono ?_
       rintro e w6 ⟨rfl, rfl⟩
       clear g2 hc6 hC6))
  have hfin := ((HEw5.out.set0 (.int .i64 0)).set1 (.slice none 0 0)).set2 (.int .i64 0)
  obtain ⟨y0, y1, y2⟩ := E3.cells hfin
  refine bodyPost_ret (v := .tuple #[.agg #[.int .i64 0, .slice none 0 0, .int .i64 0], .bool false]) (by simp [results, Tryd.results82, go_sem, y0, y1, y2]) rfl ?_
  have hbb := (((HB0.out.trans (HB5.out.mono HB0.out.size)).setCell (p := ⟨w.heap.size, 0, none⟩) (Nat.le_refl _) (.int .i64 0)).setCell (p := ⟨w.heap.size, 1, none⟩) (Nat.le_refl _) (.slice none 0 0)).setCell (p := ⟨w.heap.size, 2, none⟩) (Nat.le_refl _) (.int .i64 0)
  exact ⟨rfl, hbb⟩
set_option maxHeartbeats 2000000 in
set_option maxRecDepth 100000 in
theorem zone_entry.downN (k : Nat) (k2 : Nat) (b : List Int) (i : Int) (A : Option Addr) (c : Nat) (L : List Int) (ho : Oct L) (hl : L.length ≤ 1000000)  (c2 : Nat) (last : List Int) (b0 : List Int) (w : World) (hr : Kd.C (Kd.int .u8) w A L.length L) (hc : L.length ≤ c) (hr2 : Kd.C (Kd.int .u8) w none last.length last) (hlow : ldh_Lower.f k2 b0 = some b) (hof : owner_Of.f k (stripCR L) = some (b0, true, 0)) (hz : zcmp b last < 0) :
    Calls Tryd.prog 82 #[.int .i64 i, .slice A L.length c, .slice none last.length c2] w fun e w' => e = .returned (.tuple #[.agg #[.int .i64 i, .slice none 0 0, .int .i64 63], .bool true]) ∧ Below w.heap.size w w' := by
  have HO := Aside0.mk ho
  have HL := Aside0.mk hl
  have HR := Aside0.mk hr
  have HC := Aside0.mk hc
  have HOF := Aside0.mk hof
  have HA2 := Aside0.mk hr2
  have HLOW := Aside0.mk hlow
  have z0 : (zcmp b last == 0) = false := beq_eq_false_iff_ne.mpr (by omega)
  have z1 : decide (zcmp b last < 0) = true := decide_eq_true hz
  have z2 : (zcmp b last < 0) = True := eq_true hz
  clear hz
  have HB0 : Aside0 (Below w.heap.size w (w.alloc (.cells #[.int .i64 0, .slice none 0 0, .int .i64 0] 99))) := ⟨(Below.refl _ w).alloc (Nat.le_refl _) _⟩
  have HE0 : Aside0 (E3 (w.alloc (.cells #[.int .i64 0, .slice none 0 0, .int .i64 0] 99)) w.heap.size (.int .i64 0) (.slice none 0 0) (.int .i64 0)) := ⟨heap_alloc_new w _⟩
  clear ho hl hr hc hof hr2 hlow
  go_enter Tryd.func82, Tryd.ntmps82
  go_wp2_with (first
    | ((with_reducible refine gate_dst (N := 15) rfl ?_); (try (refine gate_guard (by rfl) ?_; dsimp only)); refine bytesLit.step 22 5 _ [13] [13] rfl rfl rfl (by rw [World.size_alloc]; rfl) Tryd.underlying22 Tryd.underlying5 rfl rfl (by decide) (by decide) ?_; intro v1 w2 hv1 hb2; have HV1 := Aside0.mk hv1; have HB2 := Aside0.mk hb2; clear hv1 hb2)
    | (go_at_call 99
       obtain ⟨A1, c1, rfl⟩ := Kd.V_slice HV1.out
       obtain ⟨-, hc1, hC1⟩ := Kd.V_reads' HV1.out
       have hb02 := HB0.out.trans (HB2.out.mono HB0.out.size)
       refine (zTrim.calls A c L HO.out HL.out A1 c1 w2 (Kd.C_below HR.out hb02) HC.out hC1).mono ?_
       rintro e w3 ⟨c3, rfl, hc3, hC3, rfl⟩
       have HC3 := Aside0.mk hc3
       have HR3 := Aside0.mk hC3
       clear hc1 hC1 hb02 hc3 hC3)
    | (go_at_call 25; refine (owner_Of.calls k A c3 (stripCR L) b0 true 0 _ HR3.out HC3.out HOF.out).mono ?_; rintro e w4 ⟨v4, rfl, hR4, hb⟩; have HB4 := Aside0.mk (HB2.out.trans (hb.mono HB2.out.size)); obtain ⟨A4, c4, hv4, hc4, hC4⟩ := Kd.R_reads hR4; subst hv4; have HC4 := Aside0.mk hc4; have HR4 := Aside0.mk hC4; clear hc4 hC4
       clear hb hR4)
    | (go_at_call 100; refine (ldh_Lower.calls k2 A4 c4 b0 b _ HR4.out HC4.out HLOW.out).mono ?_; rintro e w5 ⟨v5, rfl, hR5, hb⟩; obtain ⟨A5, c5, hv5⟩ := Kd.R_slice hR5; subst hv5; have HR5 := Aside0.mk hR5; have HB5 := Aside0.mk (HB4.out.trans (hb.mono HB4.out.size)); have HEw5 : Aside0 (E3 w5 w.heap.size (.int .i64 0) (.slice none 0 0) (.int .i64 0)) := ⟨(HB5.out.block _ HE0.out.lt).trans HE0.out⟩; obtain ⟨q0, q1, q2, q3⟩ := E3.facts HEw5.out
       clear hb hR5)
    | (go_at_call 101
       obtain ⟨A6, c6, hv6, hc6, hC6⟩ := Kd.R_reads HR5.out
       injection hv6 with g1 g2 g3
       subst g1 g3
       refine (bytes_Compare.calls A5 none c5 c2 b last w5 hC6 (Kd.C_below HA2.out (HB0.out.trans (HB5.out.mono HB0.out.size)))).mono ?_
       rintro e w6 ⟨rfl, rfl⟩
       clear g2 hc6 hC6))
  have hfin := ((HEw5.out.set0 (.int .i64 i)).set1 (.slice none 0 0)).set2 (.int .i64 63)
  obtain ⟨y0, y1, y2⟩ := E3.cells hfin
  refine bodyPost_ret (v := .tuple #[.agg #[.int .i64 i, .slice none 0 0, .int .i64 63], .bool true]) (by simp [results, Tryd.results82, go_sem, y0, y1, y2]) rfl ?_
  have hbb := (((HB0.out.trans (HB5.out.mono HB0.out.size)).setCell (p := ⟨w.heap.size, 0, none⟩) (Nat.le_refl _) (.int .i64 i)).setCell (p := ⟨w.heap.size, 1, none⟩) (Nat.le_refl _) (.slice none 0 0)).setCell (p := ⟨w.heap.size, 2, none⟩) (Nat.le_refl _) (.int .i64 63)
  exact ⟨rfl, hbb⟩
set_option maxHeartbeats 2000000 in
set_option maxRecDepth 100000 in
theorem zone_entry.upN (k : Nat) (k2 : Nat) (b : List Int) (i : Int) (A : Option Addr) (c : Nat) (L : List Int) (ho : Oct L) (hl : L.length ≤ 1000000)  (c2 : Nat) (last : List Int) (b0 : List Int) (w : World) (hr : Kd.C (Kd.int .u8) w A L.length L) (hc : L.length ≤ c) (hr2 : Kd.C (Kd.int .u8) w none last.length last) (hlow : ldh_Lower.f k2 b0 = some b) (hof : owner_Of.f k (stripCR L) = some (b0, true, 0)) (hz : 0 < zcmp b last) :
    Calls Tryd.prog 82 #[.int .i64 i, .slice A L.length c, .slice none last.length c2] w fun e w' => ∃ A5 c5, e = .returned (.tuple #[.agg #[.int .i64 i, .slice A5 b.length c5, .int .i64 0], .bool true]) ∧ Kd.R (Kd.int .u8) 5 w' w.heap.size (fun _ => True) (.slice A5 b.length c5) b ∧ Below w.heap.size w w' := by
  have HO := Aside0.mk ho
  have HL := Aside0.mk hl
  have HR := Aside0.mk hr
  have HC := Aside0.mk hc
  have HOF := Aside0.mk hof
  have HA2 := Aside0.mk hr2
  have HLOW := Aside0.mk hlow
  have z0 : (zcmp b last == 0) = false := beq_eq_false_iff_ne.mpr (by omega)
  have z1 : decide (zcmp b last < 0) = false := decide_eq_false (by omega)
  have z2 : (zcmp b last < 0) = False := eq_false (by omega)
  clear hz
  have HB0 : Aside0 (Below w.heap.size w (w.alloc (.cells #[.int .i64 0, .slice none 0 0, .int .i64 0] 99))) := ⟨(Below.refl _ w).alloc (Nat.le_refl _) _⟩
  have HE0 : Aside0 (E3 (w.alloc (.cells #[.int .i64 0, .slice none 0 0, .int .i64 0] 99)) w.heap.size (.int .i64 0) (.slice none 0 0) (.int .i64 0)) := ⟨heap_alloc_new w _⟩
  clear ho hl hr hc hof hr2 hlow
  go_enter Tryd.func82, Tryd.ntmps82
  go_wp2_with (first
    | ((with_reducible refine gate_dst (N := 15) rfl ?_); (try (refine gate_guard (by rfl) ?_; dsimp only)); refine bytesLit.step 22 5 _ [13] [13] rfl rfl rfl (by rw [World.size_alloc]; rfl) Tryd.underlying22 Tryd.underlying5 rfl rfl (by decide) (by decide) ?_; intro v1 w2 hv1 hb2; have HV1 := Aside0.mk hv1; have HB2 := Aside0.mk hb2; clear hv1 hb2)
    | (go_at_call 99
       obtain ⟨A1, c1, rfl⟩ := Kd.V_slice HV1.out
       obtain ⟨-, hc1, hC1⟩ := Kd.V_reads' HV1.out
       have hb02 := HB0.out.trans (HB2.out.mono HB0.out.size)
       refine (zTrim.calls A c L HO.out HL.out A1 c1 w2 (Kd.C_below HR.out hb02) HC.out hC1).mono ?_
       rintro e w3 ⟨c3, rfl, hc3, hC3, rfl⟩
       have HC3 := Aside0.mk hc3
       have HR3 := Aside0.mk hC3
       clear hc1 hC1 hb02 hc3 hC3)
    | (go_at_call 25; refine (owner_Of.calls k A c3 (stripCR L) b0 true 0 _ HR3.out HC3.out HOF.out).mono ?_; rintro e w4 ⟨v4, rfl, hR4, hb⟩; have HB4 := Aside0.mk (HB2.out.trans (hb.mono HB2.out.size)); obtain ⟨A4, c4, hv4, hc4, hC4⟩ := Kd.R_reads hR4; subst hv4; have HC4 := Aside0.mk hc4; have HR4 := Aside0.mk hC4; clear hc4 hC4
       clear hb hR4)
    | (go_at_call 100; refine (ldh_Lower.calls k2 A4 c4 b0 b _ HR4.out HC4.out HLOW.out).mono ?_; rintro e w5 ⟨v5, rfl, hR5, hb⟩; obtain ⟨A5, c5, hv5⟩ := Kd.R_slice hR5; subst hv5; have HR5 := Aside0.mk hR5; have HB5 := Aside0.mk (HB4.out.trans (hb.mono HB4.out.size)); have HEw5 : Aside0 (E3 w5 w.heap.size (.int .i64 0) (.slice none 0 0) (.int .i64 0)) := ⟨(HB5.out.block _ HE0.out.lt).trans HE0.out⟩; obtain ⟨q0, q1, q2, q3⟩ := E3.facts HEw5.out
       clear hb hR5)
    | (go_at_call 101
       obtain ⟨A6, c6, hv6, hc6, hC6⟩ := Kd.R_reads HR5.out
       injection hv6 with g1 g2 g3
       subst g1 g3
       refine (bytes_Compare.calls A5 none c5 c2 b last w5 hC6 (Kd.C_below HA2.out (HB0.out.trans (HB5.out.mono HB0.out.size)))).mono ?_
       rintro e w6 ⟨rfl, rfl⟩
       clear g2 hc6 hC6))
  have hfin := ((HEw5.out.set0 (.int .i64 i)).set1 (.slice A5 b.length c5)).set2 (.int .i64 0)
  obtain ⟨y0, y1, y2⟩ := E3.cells hfin
  refine bodyPost_ret (v := .tuple #[.agg #[.int .i64 i, .slice A5 b.length c5, .int .i64 0], .bool true]) (by simp [results, Tryd.results82, go_sem, y0, y1, y2]) rfl ?_
  have hbb := (((HB0.out.trans (HB5.out.mono HB0.out.size)).setCell (p := ⟨w.heap.size, 0, none⟩) (Nat.le_refl _) (.int .i64 i)).setCell (p := ⟨w.heap.size, 1, none⟩) (Nat.le_refl _) (.slice A5 b.length c5)).setCell (p := ⟨w.heap.size, 2, none⟩) (Nat.le_refl _) (.int .i64 0)
  refine ⟨A5, c5, rfl, ?_, hbb⟩
  have hs4 := HB4.out.size
  have hs0 := HE0.out.lt
  exact Kd.R_lower (rowU_set (rowU_set (rowU_set HR5.out (by omega)) (by omega)) (by omega)) (by omega)
set_option maxHeartbeats 2000000 in
set_option maxRecDepth 100000 in
theorem zone_entry.downS (k : Nat) (k2 : Nat) (b : List Int) (i : Int) (A : Option Addr) (c : Nat) (L : List Int) (ho : Oct L) (hl : L.length ≤ 1000000) (a2 : Addr) (c2 : Nat) (last : List Int) (b0 : List Int) (w : World) (hr : Kd.C (Kd.int .u8) w A L.length L) (hc : L.length ≤ c) (hr2 : Kd.C (Kd.int .u8) w (some a2) last.length last) (hlow : ldh_Lower.f k2 b0 = some b) (hof : owner_Of.f k (stripCR L) = some (b0, true, 0)) (hz : zcmp b last < 0) :
    Calls Tryd.prog 82 #[.int .i64 i, .slice A L.length c, .slice (some a2) last.length c2] w fun e w' => e = .returned (.tuple #[.agg #[.int .i64 i, .slice none 0 0, .int .i64 63], .bool true]) ∧ Below w.heap.size w w' := by
  have HO := Aside0.mk ho
  have HL := Aside0.mk hl
  have HR := Aside0.mk hr
  have HC := Aside0.mk hc
  have HOF := Aside0.mk hof
  have HA2 := Aside0.mk hr2
  have HLOW := Aside0.mk hlow
  have z0 : (zcmp b last == 0) = false := beq_eq_false_iff_ne.mpr (by omega)
  have z1 : decide (zcmp b last < 0) = true := decide_eq_true hz
  have z2 : (zcmp b last < 0) = True := eq_true hz
  clear hz
  have HB0 : Aside0 (Below w.heap.size w (w.alloc (.cells #[.int .i64 0, .slice none 0 0, .int .i64 0] 99))) := ⟨(Below.refl _ w).alloc (Nat.le_refl _) _⟩
  have HE0 : Aside0 (E3 (w.alloc (.cells #[.int .i64 0, .slice none 0 0, .int .i64 0] 99)) w.heap.size (.int .i64 0) (.slice none 0 0) (.int .i64 0)) := ⟨heap_alloc_new w _⟩
  clear ho hl hr hc hof hr2 hlow
  go_enter Tryd.func82, Tryd.ntmps82
  go_wp2_with (first
    | ((with_reducible refine gate_dst (N := 15) rfl ?_); (try (refine gate_guard (by rfl) ?_; dsimp only)); refine bytesLit.step 22 5 _ [13] [13] rfl rfl rfl (by rw [World.size_alloc]; rfl) Tryd.underlying22 Tryd.underlying5 rfl rfl (by decide) (by decide) ?_; intro v1 w2 hv1 hb2; have HV1 := Aside0.mk hv1; have HB2 := Aside0.mk hb2; clear hv1 hb2)
    | (go_at_call 99
       obtain ⟨A1, c1, rfl⟩ := Kd.V_slice HV1.out
       obtain ⟨-, hc1, hC1⟩ := Kd.V_reads' HV1.out
       have hb02 := HB0.out.trans (HB2.out.mono HB0.out.size)
       refine (zTrim.calls A c L HO.out HL.out A1 c1 w2 (Kd.C_below HR.out hb02) HC.out hC1).mono ?_
       rintro e w3 ⟨c3, rfl, hc3, hC3, rfl⟩
       have HC3 := Aside0.mk hc3
       have HR3 := Aside0.mk hC3
       clear hc1 hC1 hb02 hc3 hC3)
    | (go_at_call 25; refine (owner_Of.calls k A c3 (stripCR L) b0 true 0 _ HR3.out HC3.out HOF.out).mono ?_; rintro e w4 ⟨v4, rfl, hR4, hb⟩; have HB4 := Aside0.mk (HB2.out.trans (hb.mono HB2.out.size)); obtain ⟨A4, c4, hv4, hc4, hC4⟩ := Kd.R_reads hR4; subst hv4; have HC4 := Aside0.mk hc4; have HR4 := Aside0.mk hC4; clear hc4 hC4
       clear hb hR4)
    | (go_at_call 100; refine (ldh_Lower.calls k2 A4 c4 b0 b _ HR4.out HC4.out HLOW.out).mono ?_; rintro e w5 ⟨v5, rfl, hR5, hb⟩; obtain ⟨A5, c5, hv5⟩ := Kd.R_slice hR5; subst hv5; have HR5 := Aside0.mk hR5; have HB5 := Aside0.mk (HB4.out.trans (hb.mono HB4.out.size)); have HEw5 : Aside0 (E3 w5 w.heap.size (.int .i64 0) (.slice none 0 0) (.int .i64 0)) := ⟨(HB5.out.block _ HE0.out.lt).trans HE0.out⟩; obtain ⟨q0, q1, q2, q3⟩ := E3.facts HEw5.out
       clear hb hR5)
    | (go_at_call 101
       obtain ⟨A6, c6, hv6, hc6, hC6⟩ := Kd.R_reads HR5.out
       injection hv6 with g1 g2 g3
       subst g1 g3
       refine (bytes_Compare.calls A5 (some a2) c5 c2 b last w5 hC6 (Kd.C_below HA2.out (HB0.out.trans (HB5.out.mono HB0.out.size)))).mono ?_
       rintro e w6 ⟨rfl, rfl⟩
       clear g2 hc6 hC6))
  have hfin := ((HEw5.out.set0 (.int .i64 i)).set1 (.slice none 0 0)).set2 (.int .i64 63)
  obtain ⟨y0, y1, y2⟩ := E3.cells hfin
  refine bodyPost_ret (v := .tuple #[.agg #[.int .i64 i, .slice none 0 0, .int .i64 63], .bool true]) (by simp [results, Tryd.results82, go_sem, y0, y1, y2]) rfl ?_
  have hbb := (((HB0.out.trans (HB5.out.mono HB0.out.size)).setCell (p := ⟨w.heap.size, 0, none⟩) (Nat.le_refl _) (.int .i64 i)).setCell (p := ⟨w.heap.size, 1, none⟩) (Nat.le_refl _) (.slice none 0 0)).setCell (p := ⟨w.heap.size, 2, none⟩) (Nat.le_refl _) (.int .i64 63)
  exact ⟨rfl, hbb⟩
set_option maxHeartbeats 2000000 in
set_option maxRecDepth 100000 in
theorem zone_entry.upS (k : Nat) (k2 : Nat) (b : List Int) (i : Int) (A : Option Addr) (c : Nat) (L : List Int) (ho : Oct L) (hl : L.length ≤ 1000000) (a2 : Addr) (c2 : Nat) (last : List Int) (b0 : List Int) (w : World) (hr : Kd.C (Kd.int .u8) w A L.length L) (hc : L.length ≤ c) (hr2 : Kd.C (Kd.int .u8) w (some a2) last.length last) (hlow : ldh_Lower.f k2 b0 = some b) (hof : owner_Of.f k (stripCR L) = some (b0, true, 0)) (hz : 0 < zcmp b last) :
    Calls Tryd.prog 82 #[.int .i64 i, .slice A L.length c, .slice (some a2) last.length c2] w fun e w' => ∃ A5 c5, e = .returned (.tuple #[.agg #[.int .i64 i, .slice A5 b.length c5, .int .i64 0], .bool true]) ∧ Kd.R (Kd.int .u8) 5 w' w.heap.size (fun _ => True) (.slice A5 b.length c5) b ∧ Below w.heap.size w w' := by
  have HO := Aside0.mk ho
  have HL := Aside0.mk hl
  have HR := Aside0.mk hr
  have HC := Aside0.mk hc
  have HOF := Aside0.mk hof
  have HA2 := Aside0.mk hr2
  have HLOW := Aside0.mk hlow
  have z0 : (zcmp b last == 0) = false := beq_eq_false_iff_ne.mpr (by omega)
  have z1 : decide (zcmp b last < 0) = false := decide_eq_false (by omega)
  have z2 : (zcmp b last < 0) = False := eq_false (by omega)
  clear hz
  have HB0 : Aside0 (Below w.heap.size w (w.alloc (.cells #[.int .i64 0, .slice none 0 0, .int .i64 0] 99))) := ⟨(Below.refl _ w).alloc (Nat.le_refl _) _⟩
  have HE0 : Aside0 (E3 (w.alloc (.cells #[.int .i64 0, .slice none 0 0, .int .i64 0] 99)) w.heap.size (.int .i64 0) (.slice none 0 0) (.int .i64 0)) := ⟨heap_alloc_new w _⟩
  clear ho hl hr hc hof hr2 hlow
  go_enter Tryd.func82, Tryd.ntmps82
  go_wp2_with (first
    | ((with_reducible refine gate_dst (N := 15) rfl ?_); (try (refine gate_guard (by rfl) ?_; dsimp only)); refine bytesLit.step 22 5 _ [13] [13] rfl rfl rfl (by rw [World.size_alloc]; rfl) Tryd.underlying22 Tryd.underlying5 rfl rfl (by decide) (by decide) ?_; intro v1 w2 hv1 hb2; have HV1 := Aside0.mk hv1; have HB2 := Aside0.mk hb2; clear hv1 hb2)
    | (go_at_call 99
       obtain ⟨A1, c1, rfl⟩ := Kd.V_slice HV1.out
       obtain ⟨-, hc1, hC1⟩ := Kd.V_reads' HV1.out
       have hb02 := HB0.out.trans (HB2.out.mono HB0.out.size)
       refine (zTrim.calls A c L HO.out HL.out A1 c1 w2 (Kd.C_below HR.out hb02) HC.out hC1).mono ?_
       rintro e w3 ⟨c3, rfl, hc3, hC3, rfl⟩
       have HC3 := Aside0.mk hc3
       have HR3 := Aside0.mk hC3
       clear hc1 hC1 hb02 hc3 hC3)
    | (go_at_call 25; refine (owner_Of.calls k A c3 (stripCR L) b0 true 0 _ HR3.out HC3.out HOF.out).mono ?_; rintro e w4 ⟨v4, rfl, hR4, hb⟩; have HB4 := Aside0.mk (HB2.out.trans (hb.mono HB2.out.size)); obtain ⟨A4, c4, hv4, hc4, hC4⟩ := Kd.R_reads hR4; subst hv4; have HC4 := Aside0.mk hc4; have HR4 := Aside0.mk hC4; clear hc4 hC4
       clear hb hR4)
    | (go_at_call 100; refine (ldh_Lower.calls k2 A4 c4 b0 b _ HR4.out HC4.out HLOW.out).mono ?_; rintro e w5 ⟨v5, rfl, hR5, hb⟩; obtain ⟨A5, c5, hv5⟩ := Kd.R_slice hR5; subst hv5; have HR5 := Aside0.mk hR5; have HB5 := Aside0.mk (HB4.out.trans (hb.mono HB4.out.size)); have HEw5 : Aside0 (E3 w5 w.heap.size (.int .i64 0) (.slice none 0 0) (.int .i64 0)) := ⟨(HB5.out.block _ HE0.out.lt).trans HE0.out⟩; obtain ⟨q0, q1, q2, q3⟩ := E3.facts HEw5.out
       clear hb hR5)
    | (go_at_call 101
       obtain ⟨A6, c6, hv6, hc6, hC6⟩ := Kd.R_reads HR5.out
       injection hv6 with g1 g2 g3
       subst g1 g3
       refine (bytes_Compare.calls A5 (some a2) c5 c2 b last w5 hC6 (Kd.C_below HA2.out (HB0.out.trans (HB5.out.mono HB0.out.size)))).mono ?_
       rintro e w6 ⟨rfl, rfl⟩
       clear g2 hc6 hC6))
  have hfin := ((HEw5.out.set0 (.int .i64 i)).set1 (.slice A5 b.length c5)).set2 (.int .i64 0)
  obtain ⟨y0, y1, y2⟩ := E3.cells hfin
  refine bodyPost_ret (v := .tuple #[.agg #[.int .i64 i, .slice A5 b.length c5, .int .i64 0], .bool true]) (by simp [results, Tryd.results82, go_sem, y0, y1, y2]) rfl ?_
  have hbb := (((HB0.out.trans (HB5.out.mono HB0.out.size)).setCell (p := ⟨w.heap.size, 0, none⟩) (Nat.le_refl _) (.int .i64 i)).setCell (p := ⟨w.heap.size, 1, none⟩) (Nat.le_refl _) (.slice A5 b.length c5)).setCell (p := ⟨w.heap.size, 2, none⟩) (Nat.le_refl _) (.int .i64 0)
  refine ⟨A5, c5, rfl, ?_, hbb⟩
  have hs4 := HB4.out.size
  have hs0 := HE0.out.lt
  exact Kd.R_lower (rowU_set (rowU_set (rowU_set HR5.out (by omega)) (by omega)) (by omega)) (by omega)
end Go.Proofs.YtdnfmilnkoocdaaDoor.Q

-- from Hit
namespace Go.Proofs.YtdnfmilnkoocdaaDoor.Q
open Go.RowKit Go.Shelf Go.Proofs.YtdnfmilnkoocdaaDoorW.PrintWords Go.Proofs.YtdnfmilnkoocdaaDoorW.PrintLast Go.Proofs.YtdnfmilnkoocdaaDoorW.PrintMore
set_option linter.unusedVariables false
set_option linter.unusedSimpArgs false

/-- The blocks of S stay as they are. -/
def KeepS (S : Nat → Prop) (A B : World) : Prop := ∀ k, S k → B.heap[k]? = A.heap[k]?
theorem KeepS.refl (S : Nat → Prop) (A : World) : KeepS S A A := fun _ _ => rfl
theorem KeepS.trans {S : Nat → Prop} {A B C : World} (h : KeepS S A B) (k : KeepS S B C) : KeepS S A C := fun j hj => (k j hj).trans (h j hj)
theorem KeepS.grown {S : Nat → Prop} {A B : World} {row : Option Nat} (hg : A.grownBy B row) (hS : ∀ k, S k → k < A.heap.size) (hne : ∀ k, S k → some k ≠ row) : KeepS S A B := fun k hk => hg.block k (hS k hk) (hne k hk)
theorem KeepS.below {S : Nat → Prop} {A B : World} {n : Nat} (hb : Below n A B) (hS : ∀ k, S k → k < n) : KeepS S A B := fun k hk => hb.block k (hS k hk)
theorem keepS_lt {S : Nat → Prop} {A B : World} (h : KeepS S A B) (hS : ∀ k, S k → k < A.heap.size) : ∀ k, S k → k < B.heap.size := fun k hk => by
  have := h k hk
  rw [Array.getElem?_eq_getElem (hS k hk)] at this
  exact (Array.getElem?_eq_some_iff.1 this).1
theorem keepS_b {S : Nat → Prop} {w : World} (hS : ∀ k, S k → k < w.heap.size) : ∀ (W : World) (l : Nat) (o o' : Obj), w.heap.size ≤ l → W.heap[l]? = some o → o.isCells = false → o.isWalk = false → KeepS S W (W.putObj l o') :=
  fun W l o o' hl ho _ _ => by
    intro k hk
    have hkl : k < l := Nat.lt_of_lt_of_le (hS k hk) hl
    have hlt : l < W.heap.size := (Array.getElem?_eq_some_iff.1 ho).1
    exact (grownBy_putObj' W l o').block k (Nat.lt_trans hkl hlt) (fun e => by cases e; exact Nat.lt_irrefl _ hkl)
theorem grownBy_none_of_below {w w1 : World} (h : Below w.heap.size w w1) : w.grownBy w1 none := grown_of_below h none

end Go.Proofs.YtdnfmilnkoocdaaDoor.Q

-- from Hrfp
/- Range over a function whose items are slices: what is told of an item in the world in which it is handed over (Pr) comes with it. The proof follows the library's law wpIn_rangeFunc_ownG (RangeFuncWrites), of which this is the wider form; nothing but Pr is new. -/
namespace Go.Proofs.YtdnfmilnkoocdaaDoor.Q
open Go.RowKit Go.Shelf Go.Proofs.YtdnfmilnkoocdaaDoorW.PrintWords Go.Proofs.YtdnfmilnkoocdaaDoorW.PrintLast Go.Proofs.YtdnfmilnkoocdaaDoorW.PrintMore
set_option linter.unusedVariables false
set_option linter.unusedSimpArgs false

/-- The iterator's contract: an item x is handed over in worlds in which Pr x holds. -/
def SeqPr {α : Type} (F : Fence) (n : Nat) (P : Program) (g : Nat) (lb : Array Value) (encs : α → Array Value) (Kp : World → World → Prop) (Pr : α → World → Prop) (S Sp : List α → Prop) (w : World) : Prop :=
  ∀ (l : Nat) (J Jx : List α → World → Prop) (W : World), Below w.heap.size w W → AbidesFrom W.heap.size J → AbidesFrom W.heap.size Jx →
    (∀ pre x W1, J pre W1 → Pr x W1 → Sp (pre ++ [x]) → YieldAt F (n - 1) P l (encs x) W1 fun e W' =>
      (e = .returned (.bool true) ∧ J (pre ++ [x]) W' ∧ Kp W1 W') ∨ (e = .returned (.bool false) ∧ Jx (pre ++ [x]) W')) →
    J [] W →
    CallsIn F n P g (#[.func (.yield l) #[] #[]] ++ lb) W fun e W' => (∃ v, e = .returned v) ∧ ((∃ xs, S xs ∧ J xs W') ∨ (∃ pre, Sp pre ∧ Jx pre W'))

section
variable {F : Fence} {n : Nat} {P : Program}
theorem wpIn_range_pr {α : Type} {g : Operand} {ps : Array Tmp} {assign body : Code} {Q : Exit → Act → World → Prop} {a : Act} {w : World}
    (hro : F.round = none) (h1 : 1 ≤ n) {gf : Nat} {lb : Array Value} (hg : a.eval g = .func (.func gf) #[] lb) (hFg : F.fn gf) (eg : ∀ args w, (callFunc gf args).run P w = .ok (.enter gf args) w)
    {encs : α → Array Value} {Kp : World → World → Prop} {Pr : α → World → Prop} {S Sp : List α → Prop} {w0 : World} (hseq : SeqPr F (n - 1) P gf lb encs Kp Pr S Sp w0)
    (hKt : ∀ {A B C : World}, Kp A B → Kp B C → Kp A C) (hKb : ∀ (W : World) (l : Nat) (o o' : Obj), w.heap.size ≤ l → W.heap[l]? = some o → o.isCells = false → o.isWalk = false → Kp W (W.putObj l o')) (hb0 : Below w0.heap.size w0 w) (hps : ∀ x, (encs x).size = ps.size)
    (hPr : ∀ x, OwnFrom w.heap.size (fun (_ : Unit) W => Pr x W))
    (I : List α → World → Prop) (Ix : Code → List α → World → Prop) (hI : OwnFrom w.heap.size I) (hIx : ∀ c, OwnFrom w.heap.size (Ix c)) (h0 : I [] w) (a₁ : α → Act)
    (hassign : ∀ (l : Nat) (x : α) (W : World) (K : Act → World → Prop), K (a₁ x) W →
      assign.wpIn (F.inRound l) (n - 1 - 1) P (Exit.then K (fun _ _ _ => False)) { tmps := (ps.zip (encs x)).foldl (fun t (p, v) => t.setIfInBounds p v) a.tmps, defers := [] } W)
    (hbody : ∀ (l : Nat) (pre : List α) (x : α) (W : World), I pre W → Pr x W → Sp (pre ++ [x]) → body.wpIn (F.inRound l) (n - 1 - 1) P (ownPostG w.heap.size Kp I Ix (pre ++ [x]) W) (a₁ x) W)
    (hdone : ∀ (D : Nat) (xs : List α) (W : World), w.heap.size ≤ D → S xs → I xs W → W.heap[D]? = some (.deferred (some [])) → Q .normal { a with defers := { target := .collected D, args := #[] } :: a.defers } W)
    (hstop : ∀ (D : Nat) (c : Code) (pre : List α) (W : World), w.heap.size ≤ D → Sp pre → Ix c pre W → W.heap[D]? = some (.deferred (some [])) → c.wpIn F n P Q { a with defers := { target := .collected D, args := #[] } :: a.defers } W) :
    (Code.rangeFunc g ps assign body).wpIn F n P Q a w := by
  refine wpIn_rangeFunc ?_
  intro fn hfn
  rw [hro]
  -- the two blocks that the loop lays: the deferred calls' and its own record
  let L : Nat := w.heap.size + 1
  obtain ⟨rec, hrec⟩ : ∃ rec : LoopState → Option Code → Loop, rec = fun st pe => { state := st, pending := pe, fn, tmps := a.tmps, params := ps, assign, body, defers := w.heap.size } := ⟨_, rfl⟩
  obtain ⟨W1, hW1⟩ : ∃ W1, (w.alloc (.deferred (some []))).alloc (.loop (rec .ready none)) = W1 := ⟨_, rfl⟩
  have hL1 : W1.heap[L]? = some (.loop (rec .ready none)) := by
    have := World.alloc_heap_new (w.alloc (.deferred (some []))) (.loop (rec .ready none))
    rw [World.size_alloc] at this
    rw [← hW1]; exact this
  have hD1 : W1.heap[w.heap.size]? = some (.deferred (some [])) := by
    rw [← hW1]; exact (Below.heap_alloc _ _ _ (by simp)).trans (World.alloc_heap_new w _)
  have hb1 : Below w0.heap.size w0 W1 := by
    rw [← hW1]; exact hb0.trans ((((Below.refl _ w).alloc (Nat.le_refl _) _).alloc (by simp) _).mono hb0.size)
  have hsz1 : W1.heap.size = w.heap.size + 2 := by rw [← hW1]; simp
  have walk_row : ∀ {A : World} {row : Option Nat}, (∀ r, row = some r → W1.heap.size ≤ r ∧ ∃ o : Obj, A.heap[r]? = some o ∧ o.isWalk = true) → (∀ r, row = some r → w.heap.size ≤ r ∧ ∃ o : Obj, A.heap[r]? = some o ∧ o.isCells = false) :=
    fun hr r e => by obtain ⟨hB, o, ho, hw⟩ := hr r e; exact ⟨by omega, o, ho, Obj.not_cells_of_walk hw⟩
  have stay : ∀ {A B : World} {row : Option Nat} {k : Nat} {o : Obj}, A.grownBy B row → (∀ r, row = some r → W1.heap.size ≤ r ∧ ∃ o : Obj, A.heap[r]? = some o ∧ o.isWalk = true) → A.heap[k]? = some o → o.isWalk = false → B.heap[k]? = some o :=
    fun hg' hr hk hw => (grownBy_keeps hg' (fun r e => (hr r e).2) hk hw).trans hk
  refine ⟨L, [{ target := .collected w.heap.size, args := #[] }], W1, { target := .fn (.func gf) lb, args := #[.func (.yield L) #[] #[]] }, W1, gf, #[.func (.yield L) #[] #[]] ++ lb, W1, ?_, ?_, ?_, ?_, fun _ => h1, ?_⟩
  · rw [← hW1, hrec]; exact run_enterLoop_outer _ _ _ _ _
  · simp only [resolve, hg]
    simp [go_sem]
  · intro f' hf'; simp [Target.leads] at hf'; subst hf'; exact hFg
  · simp [invoke, go_sem, eg]
  · have call := hseq L (fun pre W => I pre W ∧ W.heap[L]? = some (.loop (rec .ready none)) ∧ W.heap[w.heap.size]? = some (.deferred (some [])))
      (fun pre W => ∃ c, Ix c pre W ∧ W.heap[L]? = some (.loop (rec .done (some c))) ∧ W.heap[w.heap.size]? = some (.deferred (some []))) W1 hb1
      (fun s A B row hs hg' hr => ⟨hI s A B row hs.1 hg' (walk_row hr), stay hg' hr hs.2.1 rfl, stay hg' hr hs.2.2 rfl⟩)
      (fun s A B row ⟨c, hc, hl, hk⟩ hg' hr => ⟨c, hIx c s A B row hc hg' (walk_row hr), stay hg' hr hl rfl, stay hg' hr hk rfl⟩)
      ?round ⟨by rw [← hW1]; exact hI.alloc _ (hI.alloc _ h0), hL1, hD1⟩
    case round =>
      rintro pre x W ⟨hi, hl, hk⟩ hpr hlen
      have hlt : L < W.heap.size := (Array.getElem?_eq_some_iff.1 hl).1
      have hLD : w.heap.size ≠ L := by show w.heap.size ≠ w.heap.size + 1; omega
      have hLw : w.heap.size ≤ L := by show w.heap.size ≤ w.heap.size + 1; omega
      have hy := run_yield (P := P) (args := encs x) hl (by rw [hrec]; exact hps x)
      rw [hrec] at hy
      refine ⟨fn, _, assign, body, hy, roundIn_of_wpIn hfn (hassign _ x W _ ⟨_, run_beginRound hl (by rw [hrec]), ?_⟩)⟩
      obtain ⟨WB, hWB⟩ : ∃ WB, W.putObj L (.loop { rec .ready none with state := .busy }) = WB := ⟨_, rfl⟩
      have hl2 : WB.heap[L]? = some (.loop { rec .ready none with state := .busy }) := by rw [← hWB]; exact World.putObj_heap_same hlt
      have hk2 : WB.heap[w.heap.size]? = some (.deferred (some [])) := by rw [← hWB]; exact (World.putObj_heap_other hLD).trans hk
      have hw2 : Kp W WB := by rw [← hWB]; exact hKb _ _ _ _ hLw hl rfl rfl
      have hi2 : I pre WB := by rw [← hWB]; exact hI.putObj _ hi hLw hl rfl
      have hp2 : Pr x WB := by rw [← hWB]; exact (hPr x).putObj (s := ()) _ hpr hLw hl rfl
      rw [hWB]
      refine wpIn_mono (hbody _ pre x WB hi2 hp2 hlen) ?_
      have fin : ∀ (jump : Option Code) (W3 : World), KeepsFrom w.heap.size WB W3 →
          (Instr.endRound L jump).run P W3 = .ok (.bool jump.isNone) (W3.putObj L (.loop (rec (if jump.isNone then .ready else .done) jump))) ∧
          W3.heap[L]? = some (.loop { rec .ready none with state := .busy }) ∧
          (W3.putObj L (.loop (rec (if jump.isNone then .ready else .done) jump))).heap[L]? = some (.loop (rec (if jump.isNone then .ready else .done) jump)) ∧
          (W3.putObj L (.loop (rec (if jump.isNone then .ready else .done) jump))).heap[w.heap.size]? = some (.deferred (some [])) := fun jump W3 hk3 => by
        have hl3 := hk3.same _ _ hLw hl2 rfl
        have hd3 := hk3.same _ _ (Nat.le_refl _) hk2 rfl
        have hend := run_endRound (P := P) jump hl3
        refine ⟨?_, hl3, World.putObj_heap_same (Array.getElem?_eq_some_iff.1 hl3).1, (World.putObj_heap_other hLD).trans hd3⟩
        rw [hrec] at hend ⊢
        exact hend
      have out : ∀ (c : Code) (W3 : World), KeepsFrom w.heap.size WB W3 → Ix c (pre ++ [x]) W3 → ∃ v W', (Instr.endRound L (some c)).run P W3 = .ok v W' ∧ v = .bool false ∧ ∃ c', Ix c' (pre ++ [x]) W' ∧ W'.heap[L]? = some (.loop (rec .done (some c'))) ∧ W'.heap[w.heap.size]? = some (.deferred (some [])) := fun c W3 hk3 hi3 => by
        obtain ⟨hr, hl3, hl4, hk4⟩ := fin (some c) W3 hk3
        exact ⟨_, _, hr, rfl, c, (hIx _).putObj _ hi3 hLw hl3 rfl, hl4, hk4⟩
      rintro e a3 W3 hp
      cases e with
      | normal =>
        obtain ⟨hk3, hkp3, hi3⟩ := hp
        obtain ⟨hr, hl3, hl4, hk4⟩ := fin none W3 hk3
        exact ⟨_, _, hr, .inl ⟨rfl, ⟨hI.putObj _ hi3 hLw hl3 rfl, hl4, hk4⟩, hKt (hKt hw2 hkp3) (hKb _ _ _ _ hLw hl3 rfl rfl)⟩⟩
      | ret =>
        obtain ⟨v, W', hr, rfl, h⟩ := out .ret W3 hp.1 hp.2
        exact ⟨_, _, hr, .inr ⟨rfl, h⟩⟩
      | exit id =>
        obtain ⟨v, W', hr, rfl, h⟩ := out (.exit id) W3 hp.1 hp.2
        exact ⟨_, _, hr, .inr ⟨rfl, h⟩⟩
      | goto t =>
        obtain ⟨v, W', hr, rfl, h⟩ := out (.goto t) W3 hp.1 hp.2
        exact ⟨_, _, hr, .inr ⟨rfl, h⟩⟩
      | panic ch => exact hp.elim
      | outgrown => exact hp.elim
    refine call.mono ?_
    have hLD : w.heap.size ≠ L := by show w.heap.size ≠ w.heap.size + 1; omega
    have hLw : w.heap.size ≤ L := by show w.heap.size ≤ w.heap.size + 1; omega
    rintro e W2 ⟨⟨v, rfl⟩, (⟨xs, hS, hi, hl, hk⟩ | ⟨pre, hSp, c, hi, hl, hk⟩)⟩
    · exact ⟨none, _, by have := run_endLoop (P := P) hl (by rw [hrec]; simp); rw [hrec] at this; exact this, hdone _ xs _ (Nat.le_refl _) hS (hI.putObj _ hi hLw hl rfl) ((World.putObj_heap_other hLD).trans hk)⟩
    · exact ⟨some c, _, by have := run_endLoop (P := P) hl (by rw [hrec]; simp); rw [hrec] at this; exact this, hstop _ c pre _ (Nat.le_refl _) hSp ((hIx c).putObj _ hi hLw hl rfl) ((World.putObj_heap_other hLD).trans hk)⟩
end

/-! a region that draws its order, in a round: operations that defer nothing go as outside of it -/
def noDefer (ops : Array Oper) : Bool := ops.all fun o => match o.op with | .defer _ => false | _ => true
theorem noDefer_spec {ops : Array Oper} (h : noDefer ops = true) (i : Nat) (o : Oper) (ho : ops[i]? = some o) (c : Call) : o.op ≠ .defer c := fun e => by
  have := Array.all_eq_true_iff_forall_mem.1 h o (Array.mem_of_getElem? ho)
  simp [e] at this
theorem wpOpIn_round {F : Fence} {n : Nat} {P : Program} {ops : Array Oper} {Q : Exit → Act → World → Prop} {l i : Nat} (hro : F.round = none) (hno : ∀ (o : Oper), ops[i]? = some o → ∀ c, o.op ≠ .defer c) {K K' : Act → World → Prop} (hK : ∀ a w, K a w → K' a w) {a : Act} {w : World} (h : wpOpIn F n P ops Q i K a w) : wpOpIn (F.inRound l) n P ops Q i K' a w := by
  unfold Go.wpOpIn at h ⊢
  cases ho : ops[i]? with
  | none => rw [ho] at h; exact hK _ _ h
  | some o =>
    rw [ho] at h
    simp only at h ⊢
    by_cases hw : Region.wanted o (yielded ops a.tmps) = true
    · rw [if_pos hw] at h ⊢
      have h := Oper.wpIn_mono hK h
      unfold Oper.wpIn at h ⊢
      rw [hro, Oper.semAt_none] at h
      rw [Oper.semAt_eq _ _ _ (hno o ho)]
      exact h
    · rw [if_neg hw] at h ⊢
      exact ⟨h.1, hK _ _ h.2⟩
theorem wpAnyIn_round {F : Fence} {n : Nat} {P : Program} {md : Region.Mode} {ops : Array Oper} {Q : Exit → Act → World → Prop} {l : Nat} (hro : F.round = none) (hno : noDefer ops = true) : ∀ (fuel : Nat) (listed : Array Bool) (a : Act) (w : World), wpAnyIn F n P md ops Q fuel listed a w → wpAnyIn (F.inRound l) n P md ops Q fuel listed a w
  | 0, _, _, _, h => h
  | fuel + 1, listed, a, w, h => ⟨h.1, fun i hi => wpOpIn_round hro (noDefer_spec hno i) (wpAnyIn_round hro hno fuel _) (h.2 i hi)⟩

end Go.Proofs.YtdnfmilnkoocdaaDoor.Q

-- from Hrfa
/- Range over a function whose loop variable is a cell: the assignment makes memory too. After wpIn_range_pr. -/
namespace Go.Proofs.YtdnfmilnkoocdaaDoor.Q
open Go.RowKit Go.Shelf Go.Proofs.YtdnfmilnkoocdaaDoorW.PrintWords Go.Proofs.YtdnfmilnkoocdaaDoorW.PrintLast Go.Proofs.YtdnfmilnkoocdaaDoorW.PrintMore
set_option linter.unusedVariables false
set_option linter.unusedSimpArgs false
section
variable {F : Fence} {n : Nat} {P : Program}
theorem wpIn_range_as {α : Type} {g : Operand} {ps : Array Tmp} {assign body : Code} {Q : Exit → Act → World → Prop} {a : Act} {w : World}
    (hro : F.round = none) (h1 : 1 ≤ n) {gf : Nat} {lb : Array Value} (hg : a.eval g = .func (.func gf) #[] lb) (hFg : F.fn gf) (eg : ∀ args w, (callFunc gf args).run P w = .ok (.enter gf args) w)
    {encs : α → Array Value} {Kp : World → World → Prop} {Pr : α → World → Prop} {S Sp : List α → Prop} {w0 : World} (hseq : SeqPr F (n - 1) P gf lb encs Kp Pr S Sp w0)
    (hKt : ∀ {A B C : World}, Kp A B → Kp B C → Kp A C) (hKb : ∀ (W : World) (l : Nat) (o o' : Obj), w.heap.size ≤ l → W.heap[l]? = some o → o.isCells = false → o.isWalk = false → Kp W (W.putObj l o')) (hb0 : Below w0.heap.size w0 w) (hps : ∀ x, (encs x).size = ps.size)
    (I : List α → World → Prop) (Ix : Code → List α → World → Prop) (hI : OwnFrom w.heap.size I) (hIx : ∀ c, OwnFrom w.heap.size (Ix c)) (h0 : I [] w) (I1 : List α → α → Act → World → Prop) (hI1 : ∀ pre x a1, OwnFrom w.heap.size (fun (_ : Unit) W => I1 pre x a1 W))
    (hassign : ∀ (l : Nat) (pre : List α) (x : α) (W : World) (K : Act → World → Prop), I pre W → Pr x W → (∀ a1 W1, KeepsFrom w.heap.size W W1 → Kp W W1 → I1 pre x a1 W1 → K a1 W1) →
      assign.wpIn (F.inRound l) (n - 1 - 1) P (Exit.then K (fun _ _ _ => False)) { tmps := (ps.zip (encs x)).foldl (fun t (p, v) => t.setIfInBounds p v) a.tmps, defers := [] } W)
    (hbody : ∀ (l : Nat) (pre : List α) (x : α) (a1 : Act) (W : World), I1 pre x a1 W → Sp (pre ++ [x]) → body.wpIn (F.inRound l) (n - 1 - 1) P (ownPostG w.heap.size Kp I Ix (pre ++ [x]) W) a1 W)
    (hdone : ∀ (D : Nat) (xs : List α) (W : World), w.heap.size ≤ D → S xs → I xs W → W.heap[D]? = some (.deferred (some [])) → Q .normal { a with defers := { target := .collected D, args := #[] } :: a.defers } W)
    (hstop : ∀ (D : Nat) (c : Code) (pre : List α) (W : World), w.heap.size ≤ D → Sp pre → Ix c pre W → W.heap[D]? = some (.deferred (some [])) → c.wpIn F n P Q { a with defers := { target := .collected D, args := #[] } :: a.defers } W) :
    (Code.rangeFunc g ps assign body).wpIn F n P Q a w := by
  refine wpIn_rangeFunc ?_
  intro fn hfn
  rw [hro]
  -- the two blocks that the loop lays: the deferred calls' and its own record
  let L : Nat := w.heap.size + 1
  obtain ⟨rec, hrec⟩ : ∃ rec : LoopState → Option Code → Loop, rec = fun st pe => { state := st, pending := pe, fn, tmps := a.tmps, params := ps, assign, body, defers := w.heap.size } := ⟨_, rfl⟩
  obtain ⟨W1, hW1⟩ : ∃ W1, (w.alloc (.deferred (some []))).alloc (.loop (rec .ready none)) = W1 := ⟨_, rfl⟩
  have hL1 : W1.heap[L]? = some (.loop (rec .ready none)) := by
    have := World.alloc_heap_new (w.alloc (.deferred (some []))) (.loop (rec .ready none))
    rw [World.size_alloc] at this
    rw [← hW1]; exact this
  have hD1 : W1.heap[w.heap.size]? = some (.deferred (some [])) := by
    rw [← hW1]; exact (Below.heap_alloc _ _ _ (by simp)).trans (World.alloc_heap_new w _)
  have hb1 : Below w0.heap.size w0 W1 := by
    rw [← hW1]; exact hb0.trans ((((Below.refl _ w).alloc (Nat.le_refl _) _).alloc (by simp) _).mono hb0.size)
  have hsz1 : W1.heap.size = w.heap.size + 2 := by rw [← hW1]; simp
  have walk_row : ∀ {A : World} {row : Option Nat}, (∀ r, row = some r → W1.heap.size ≤ r ∧ ∃ o : Obj, A.heap[r]? = some o ∧ o.isWalk = true) → (∀ r, row = some r → w.heap.size ≤ r ∧ ∃ o : Obj, A.heap[r]? = some o ∧ o.isCells = false) :=
    fun hr r e => by obtain ⟨hB, o, ho, hw⟩ := hr r e; exact ⟨by omega, o, ho, Obj.not_cells_of_walk hw⟩
  have stay : ∀ {A B : World} {row : Option Nat} {k : Nat} {o : Obj}, A.grownBy B row → (∀ r, row = some r → W1.heap.size ≤ r ∧ ∃ o : Obj, A.heap[r]? = some o ∧ o.isWalk = true) → A.heap[k]? = some o → o.isWalk = false → B.heap[k]? = some o :=
    fun hg' hr hk hw => (grownBy_keeps hg' (fun r e => (hr r e).2) hk hw).trans hk
  refine ⟨L, [{ target := .collected w.heap.size, args := #[] }], W1, { target := .fn (.func gf) lb, args := #[.func (.yield L) #[] #[]] }, W1, gf, #[.func (.yield L) #[] #[]] ++ lb, W1, ?_, ?_, ?_, ?_, fun _ => h1, ?_⟩
  · rw [← hW1, hrec]; exact run_enterLoop_outer _ _ _ _ _
  · simp only [resolve, hg]
    simp [go_sem]
  · intro f' hf'; simp [Target.leads] at hf'; subst hf'; exact hFg
  · simp [invoke, go_sem, eg]
  · have call := hseq L (fun pre W => I pre W ∧ W.heap[L]? = some (.loop (rec .ready none)) ∧ W.heap[w.heap.size]? = some (.deferred (some [])))
      (fun pre W => ∃ c, Ix c pre W ∧ W.heap[L]? = some (.loop (rec .done (some c))) ∧ W.heap[w.heap.size]? = some (.deferred (some []))) W1 hb1
      (fun s A B row hs hg' hr => ⟨hI s A B row hs.1 hg' (walk_row hr), stay hg' hr hs.2.1 rfl, stay hg' hr hs.2.2 rfl⟩)
      (fun s A B row ⟨c, hc, hl, hk⟩ hg' hr => ⟨c, hIx c s A B row hc hg' (walk_row hr), stay hg' hr hl rfl, stay hg' hr hk rfl⟩)
      ?round ⟨by rw [← hW1]; exact hI.alloc _ (hI.alloc _ h0), hL1, hD1⟩
    case round =>
      rintro pre x W ⟨hi, hl, hk⟩ hpr hlen
      have hlt : L < W.heap.size := (Array.getElem?_eq_some_iff.1 hl).1
      have hLD : w.heap.size ≠ L := by show w.heap.size ≠ w.heap.size + 1; omega
      have hLw : w.heap.size ≤ L := by show w.heap.size ≤ w.heap.size + 1; omega
      have hy := run_yield (P := P) (args := encs x) hl (by rw [hrec]; exact hps x)
      rw [hrec] at hy
      refine ⟨fn, _, assign, body, hy, roundIn_of_wpIn hfn (hassign _ pre x W _ hi hpr (fun a1 WA hkA hkpA hi1 => ⟨_, run_beginRound (hkA.same _ _ hLw hl rfl) (by rw [hrec]), ?_⟩))⟩
      have hl := hkA.same _ _ hLw hl rfl
      have hk := hkA.same _ _ (Nat.le_refl _) hk rfl
      have hlt : L < WA.heap.size := (Array.getElem?_eq_some_iff.1 hl).1
      obtain ⟨WB, hWB⟩ : ∃ WB, WA.putObj L (.loop { rec .ready none with state := .busy }) = WB := ⟨_, rfl⟩
      have hl2 : WB.heap[L]? = some (.loop { rec .ready none with state := .busy }) := by rw [← hWB]; exact World.putObj_heap_same hlt
      have hk2 : WB.heap[w.heap.size]? = some (.deferred (some [])) := by rw [← hWB]; exact (World.putObj_heap_other hLD).trans hk
      have hw2 : Kp W WB := by rw [← hWB]; exact hKt hkpA (hKb _ _ _ _ hLw hl rfl rfl)
      have hi2 : I1 pre x a1 WB := by rw [← hWB]; exact (hI1 pre x a1).putObj (s := ()) _ hi1 hLw hl rfl
      rw [hWB]
      refine wpIn_mono (hbody _ pre x a1 WB hi2 hlen) ?_
      have fin : ∀ (jump : Option Code) (W3 : World), KeepsFrom w.heap.size WB W3 →
          (Instr.endRound L jump).run P W3 = .ok (.bool jump.isNone) (W3.putObj L (.loop (rec (if jump.isNone then .ready else .done) jump))) ∧
          W3.heap[L]? = some (.loop { rec .ready none with state := .busy }) ∧
          (W3.putObj L (.loop (rec (if jump.isNone then .ready else .done) jump))).heap[L]? = some (.loop (rec (if jump.isNone then .ready else .done) jump)) ∧
          (W3.putObj L (.loop (rec (if jump.isNone then .ready else .done) jump))).heap[w.heap.size]? = some (.deferred (some [])) := fun jump W3 hk3 => by
        have hl3 := hk3.same _ _ hLw hl2 rfl
        have hd3 := hk3.same _ _ (Nat.le_refl _) hk2 rfl
        have hend := run_endRound (P := P) jump hl3
        refine ⟨?_, hl3, World.putObj_heap_same (Array.getElem?_eq_some_iff.1 hl3).1, (World.putObj_heap_other hLD).trans hd3⟩
        rw [hrec] at hend ⊢
        exact hend
      have out : ∀ (c : Code) (W3 : World), KeepsFrom w.heap.size WB W3 → Ix c (pre ++ [x]) W3 → ∃ v W', (Instr.endRound L (some c)).run P W3 = .ok v W' ∧ v = .bool false ∧ ∃ c', Ix c' (pre ++ [x]) W' ∧ W'.heap[L]? = some (.loop (rec .done (some c'))) ∧ W'.heap[w.heap.size]? = some (.deferred (some [])) := fun c W3 hk3 hi3 => by
        obtain ⟨hr, hl3, hl4, hk4⟩ := fin (some c) W3 hk3
        exact ⟨_, _, hr, rfl, c, (hIx _).putObj _ hi3 hLw hl3 rfl, hl4, hk4⟩
      rintro e a3 W3 hp
      cases e with
      | normal =>
        obtain ⟨hk3, hkp3, hi3⟩ := hp
        obtain ⟨hr, hl3, hl4, hk4⟩ := fin none W3 hk3
        exact ⟨_, _, hr, .inl ⟨rfl, ⟨hI.putObj _ hi3 hLw hl3 rfl, hl4, hk4⟩, hKt (hKt hw2 hkp3) (hKb _ _ _ _ hLw hl3 rfl rfl)⟩⟩
      | ret =>
        obtain ⟨v, W', hr, rfl, h⟩ := out .ret W3 hp.1 hp.2
        exact ⟨_, _, hr, .inr ⟨rfl, h⟩⟩
      | exit id =>
        obtain ⟨v, W', hr, rfl, h⟩ := out (.exit id) W3 hp.1 hp.2
        exact ⟨_, _, hr, .inr ⟨rfl, h⟩⟩
      | goto t =>
        obtain ⟨v, W', hr, rfl, h⟩ := out (.goto t) W3 hp.1 hp.2
        exact ⟨_, _, hr, .inr ⟨rfl, h⟩⟩
      | panic ch => exact hp.elim
      | outgrown => exact hp.elim
    refine call.mono ?_
    have hLD : w.heap.size ≠ L := by show w.heap.size ≠ w.heap.size + 1; omega
    have hLw : w.heap.size ≤ L := by show w.heap.size ≤ w.heap.size + 1; omega
    rintro e W2 ⟨⟨v, rfl⟩, (⟨xs, hS, hi, hl, hk⟩ | ⟨pre, hSp, c, hi, hl, hk⟩)⟩
    · exact ⟨none, _, by have := run_endLoop (P := P) hl (by rw [hrec]; simp); rw [hrec] at this; exact this, hdone _ xs _ (Nat.le_refl _) hS (hI.putObj _ hi hLw hl rfl) ((World.putObj_heap_other hLD).trans hk)⟩
    · exact ⟨some c, _, by have := run_endLoop (P := P) hl (by rw [hrec]; simp); rw [hrec] at this; exact this, hstop _ c pre _ (Nat.le_refl _) hSp ((hIx c).putObj _ hi hLw hl rfl) ((World.putObj_heap_other hLD).trans hk)⟩
end

end Go.Proofs.YtdnfmilnkoocdaaDoor.Q

-- from Hzei
/- zone.Entries: the call, and the iterator. -/
namespace Go.Proofs.YtdnfmilnkoocdaaDoor.Q
open Go.RowKit Go.Shelf Go.Proofs.YtdnfmilnkoocdaaDoorW.PrintWords Go.Proofs.YtdnfmilnkoocdaaDoorW.PrintLast Go.Proofs.YtdnfmilnkoocdaaDoorW.PrintMore Go.Proofs.YtdnfmilnkoocdaaDoor.K
set_option linter.unusedVariables false
set_option linter.unusedSimpArgs false
attribute [local go_sem] Oper.semAt_some

/-! the list functions -/
/-- A line's entry; some none: it has none; none: nothing is told. -/
def zEnt (k : Nat) (i : Int) (line last : List Int) : Option (Option (Int × List Int × Int)) :=
  (owner_Of.f k (stripCR line)).bind fun t =>
    if t.2.2 = 0 then (ldh_Lower.f k t.1).bind fun b =>
      if t.2.1 = true then (if b = [] ∨ 1000000 < b.length then none else if zcmp b last = 0 then (if last = [] then none else some none) else if zcmp b last < 0 then some (some (i, [], 63)) else some (some (i, b, 0)))
      else some none
    else some (some (i, [], t.2.2))
/-- The entries of lines from the i-th on, behind a last label. -/
def zEnts (k : Nat) : Nat → List Int → List (List Int) → Option (List (Int × List Int × Int))
  | _, _, [] => some []
  | i, last, x :: X => (zEnt k ((i : Int) + 1) x last).bind fun r => match r with
    | none => zEnts k (i + 1) last X
    | some e => if e.2.2 = 63 then some [e] else (zEnts k (i + 1) (if e.2.2 = 0 then e.2.1 else last) X).map (e :: ·)
theorem zEnts_cons (k i : Nat) (last x : List Int) (X : List (List Int)) : zEnts k i last (x :: X) = (zEnt k ((i : Int) + 1) x last).bind fun r => match r with
    | none => zEnts k (i + 1) last X
    | some e => if e.2.2 = 63 then some [e] else (zEnts k (i + 1) (if e.2.2 = 0 then e.2.1 else last) X).map (e :: ·) := rfl
/-! what a body keeps -/
def KeepQ (Q : Nat → Obj → Prop) (A B : World) : Prop := A.heap.size ≤ B.heap.size ∧ ∀ k o, A.heap[k]? = some o → o.isCells = true → Q k o → B.heap[k]? = some o
theorem KeepQ.refl (Q : Nat → Obj → Prop) (A : World) : KeepQ Q A A := ⟨Nat.le_refl _, fun _ _ h _ _ => h⟩
theorem KeepQ.trans {Q : Nat → Obj → Prop} {A B C : World} (h : KeepQ Q A B) (k : KeepQ Q B C) : KeepQ Q A C := ⟨Nat.le_trans h.1 k.1, fun j o hj hc hn => k.2 j o (h.2 j o hj hc hn) hc hn⟩
theorem KeepQ.of_below {Q : Nat → Obj → Prop} {A B : World} (h : Below A.heap.size A B) : KeepQ Q A B := ⟨h.size, fun k o hk _ _ => (h.block k (Array.getElem?_eq_some_iff.1 hk).1).trans hk⟩
theorem KeepQ.of_set {Q : Nat → Obj → Prop} {A : World} {p : Addr} {v : Value} (h : ∀ o, ¬ Q p.block o) : KeepQ Q A (A.setCell p v) := ⟨by simp, fun k o hk _ hn => (Below.heap_setCell A p v k (fun e => h o (e ▸ hn))).trans hk⟩
theorem keepQ_put {Q : Nat → Obj → Prop} {w : World} : ∀ (W : World) (l : Nat) (o o' : Obj), w.heap.size ≤ l → W.heap[l]? = some o → o.isCells = false → o.isWalk = false → KeepQ Q W (W.putObj l o') :=
  fun W l o o' _ ho hc _ => ⟨(grownBy_putObj' W l o').size, fun k ob hk hkc _ => by
    have hne : k ≠ l := fun e => by
      subst e
      rw [ho] at hk
      injection hk with hk
      rw [← hk, hc] at hkc
      cases hkc
    exact (World.putObj_heap_other hne).trans hk⟩
/-- A row of octets stays under what keeps rows of octets. -/
theorem rowU_keep {Q : Nat → Obj → Prop} {A B : World} {b : Nat} {v : Value} {l : List Int} (h : Kd.R (Kd.int .u8) 5 A b (fun _ => True) v l) (hk : KeepQ Q A B) (hQ : ∀ k C f, Q k (.cells C 5 f)) : Kd.R (Kd.int .u8) 5 B b (fun _ => True) v l := by
  have hown := Kd.own_of_R h
  refine Kd.R_of_own (own_move hown (fun k hkk => ?_)) (fun _ _ => trivial)
  obtain ⟨cells, hc⟩ := own_typed hown k hkk
  rw [hk.2 k _ hc rfl (hQ _ _ _), hc]
theorem E3.keep {Q : Nat → Obj → Prop} {A B : World} {b : Nat} {x y z : Value} (h : E3 A b x y z) (hk : KeepQ Q A B) (hQ : ∀ k C f, Q k (.cells C 99 f)) : E3 B b x y z := hk.2 b _ h rfl (hQ _ _ _)
theorem E3.below {A B : World} {b : Nat} {x y z : Value} (h : E3 A b x y z) (hb : Below A.heap.size A B) : E3 B b x y z := (hb.block b h.lt).trans h
set_option maxHeartbeats 2000000 in
set_option maxRecDepth 100000 in
theorem zone_Entries.calls (A : Option Addr) (c : Nat) (L : List Int) (ho : Oct L) (hl : L.length ≤ 1000000) (w : World) (hr : Kd.C (Kd.int .u8) w A L.length L) (hc : L.length ≤ c) :
    Calls Tryd.prog 57 #[.slice A L.length c] w fun e w' => ∃ g gb, e = .returned (.func (.func 81) #[] #[.pointer (some ⟨gb, 0, none⟩)]) ∧ w.heap.size ≤ g ∧ w.heap.size ≤ gb ∧
      (∀ W', (∀ k o, w.heap.size ≤ k → w'.heap[k]? = some o → o.isCells = true → W'.heap[k]? = some o) → Kd.C (Kd.slice 5 (Kd.int .u8)) W' (some ⟨g, 0, none⟩) (spl 10 L).length (spl 10 L)) ∧
      Boxed w' gb 36 (.slice (some ⟨g, 0, none⟩) (spl 10 L).length (spl 10 L).length) ∧ Below w.heap.size w w' := by
  have HR := Aside0.mk hr
  have HC := Aside0.mk hc
  have HO := Aside0.mk ho
  have HL := Aside0.mk hl
  clear hr hc ho hl
  go_enter Tryd.func57, Tryd.ntmps57
  go_wp2_with (first
    | (go_at_call 60; refine (zClone.calls A c L _ HR.out HC.out HL.out).mono ?_; rintro e w1 ⟨v, A1, c1, rfl, rfl, hn, h63, hA0, -, hc1, hC1, hb⟩; have HB := Aside0.mk hb; have HC1 := Aside0.mk hC1; have HN := Aside0.mk (And.intro hn (And.intro h63 (And.intro hA0 hc1))); clear hb hC1 hn h63 hA0 hc1)
    | ((with_reducible refine gate_dst (N := 7) rfl ?_); (try (refine gate_guard (by rfl) ?_; dsimp only)); refine bytesLit.step 22 5 _ [10] [10] rfl rfl rfl (by first | rfl | (rw [World.size_alloc]; rfl)) Tryd.underlying22 Tryd.underlying5 rfl rfl (by decide) (by decide) ?_; intro v2 w2 hv2 hb2; have HV2 := Aside0.mk hv2; have HB2 := Aside0.mk hb2; clear hv2 hb2)
    | (go_at_call 80
       obtain ⟨A2, c2, rfl⟩ := Kd.V_slice HV2.out
       obtain ⟨-, hc2, hC2⟩ := Kd.V_reads' HV2.out
       have hs1 := HB.out.size
       have hs2 := HB2.out.size
       refine (zSplit.calls A1 c1 L HO.out HL.out A2 c2 w2 (Kd.C_below HC1.out HB2.out) HN.out.2.2.2 HN.out.2.1 HN.out.1 w.heap.size (by omega) HN.out.2.2.1 hC2).mono ?_
       rintro e w3 ⟨cs, rfl, hrow, hV, hb3⟩
       have HROW := Aside0.mk hrow
       have HVV := Aside0.mk hV
       have HB3 := Aside0.mk hb3
       clear hc2 hC2 hs1 hs2 hrow hV hb3))
  go_ret
  have hs1 := HB.out.size
  have hs2 := HB2.out.size
  have hs3 := HB3.out.size
  refine ⟨w2.heap.size, w3.heap.size, rfl, by omega, by omega, fun W' hW' => HVV.out W' (fun k o h1 h2 h3 => hW' k o h1 ?_ h3), Boxed.new w3 _ _, ((HB.out.trans (HB2.out.mono hs1)).trans (HB3.out.mono (by omega))).alloc (by omega) _⟩
  exact (Below.heap_alloc _ _ _ (Array.getElem?_eq_some_iff.1 h2).1).trans h2
/-- An item: the line's number, where its label lies, the label, the error. -/
abbrev ZItem := Int × Option Addr × Nat × List Int × Int
def ZItem.enc (x : ZItem) : Array Value := #[.agg #[.int .i64 x.1, .slice x.2.1 x.2.2.2.1.length x.2.2.1, .int .i64 x.2.2.2.2]]
def ZItem.pr (x : ZItem) : Int × List Int × Int := (x.1, x.2.2.2.1, x.2.2.2.2)
def ZItem.at_ (B : Nat) (x : ZItem) (W : World) : Prop := (x.2.2.2.2 = 0 → Kd.R (Kd.int .u8) 5 W B (fun _ => True) (.slice x.2.1 x.2.2.2.1.length x.2.2.1) x.2.2.2.1 ∧ x.2.2.2.1 ≠ []) ∧ (x.2.2.2.2 ≠ 0 → x.2.1 = none ∧ x.2.2.1 = 0 ∧ x.2.2.2.1 = [])
/-- The last label: none, or a row of its own. -/
def lastAt (B : Nat) (v : Value) (last : List Int) (W : World) : Prop := (v = .slice none 0 0 ∧ last = []) ∨ (last ≠ [] ∧ (∃ a c, v = .slice (some a) last.length c) ∧ Kd.R (Kd.int .u8) 5 W B (fun _ => True) v last)
theorem zEnt_cases {k : Nat} {i : Int} {p last : List Int} {r : Option (Int × List Int × Int)} (h : zEnt k i p last = some r) : ∃ b0 ok er, owner_Of.f k (stripCR p) = some (b0, ok, er) ∧
    ((er ≠ 0 ∧ r = some (i, [], er)) ∨ (er = 0 ∧ ∃ b, ldh_Lower.f k b0 = some b ∧ ((ok = false ∧ r = none) ∨ (ok = true ∧ (b ≠ [] ∧ b.length ≤ 1000000) ∧ ((zcmp b last = 0 ∧ last ≠ [] ∧ r = none) ∨ (zcmp b last < 0 ∧ r = some (i, [], 63)) ∨ (0 < zcmp b last ∧ r = some (i, b, 0))))))) := by
  unfold zEnt at h
  obtain ⟨⟨b0, ok, er⟩, ht, h⟩ := Option.bind_eq_some_iff.1 h
  refine ⟨b0, ok, er, ht, ?_⟩
  simp only at h
  split at h
  · rename_i her
    obtain ⟨b, hb, h⟩ := Option.bind_eq_some_iff.1 h
    refine .inr ⟨her, b, hb, ?_⟩
    split at h
    · rename_i hok
      refine .inr ⟨hok, ?_⟩
      split at h
      · cases h
      · rename_i hbn
        refine ⟨⟨fun e => hbn (.inl e), by omega⟩, ?_⟩
        split at h
        · rename_i hz
          split at h
          · cases h
          · rename_i hl
            exact .inl ⟨hz, hl, (Option.some.inj h).symm⟩
        · rename_i hz
          split at h
          · rename_i hlt
            exact .inr (.inl ⟨hlt, (Option.some.inj h).symm⟩)
          · exact .inr (.inr ⟨by omega, (Option.some.inj h).symm⟩)
    · rename_i hok
      exact .inl ⟨by simpa using hok, (Option.some.inj h).symm⟩
  · rename_i her
    exact .inl ⟨her, (Option.some.inj h).symm⟩
theorem zEnt_len {k : Nat} {i : Int} {p last : List Int} {x1 : Int} {xb : List Int} {xe : Int} (h : zEnt k i p last = some (some (x1, xb, xe))) : xb.length ≤ 1000000 := by
  obtain ⟨b0, ok, er, _, h⟩ := zEnt_cases h
  rcases h with ⟨_, h⟩ | ⟨_, b, _, ⟨_, h⟩ | ⟨_, hb, ⟨_, _, h⟩ | ⟨_, h⟩ | ⟨_, h⟩⟩⟩
  · injection h with h; injection h with _ h; injection h with h _; rw [h]; simp
  · cases h
  · cases h
  · injection h with h; injection h with _ h; injection h with h _; rw [h]; simp
  · injection h with h; injection h with _ h; injection h with h _; rw [h]; exact hb.2
theorem zone_entry.none_ (k : Nat) (i : Int) (A : Option Addr) (c : Nat) (p : List Int) (ho : Oct p) (hl : p.length ≤ 1000000) (A2 : Option Addr) (c2 : Nat) (last : List Int) (w : World) (hr : Kd.C (Kd.int .u8) w A p.length p) (hc : p.length ≤ c) (hr2 : Kd.C (Kd.int .u8) w A2 last.length last) (hN : (A2 = none ∧ last = []) ∨ (∃ a, A2 = some a) ∧ last ≠ []) (h : zEnt k i p last = some none) :
    Calls Tryd.prog 82 #[.int .i64 i, .slice A p.length c, .slice A2 last.length c2] w fun e w' => e = .returned (.tuple #[.agg #[.int .i64 0, .slice none 0 0, .int .i64 0], .bool false]) ∧ Below w.heap.size w w' := by
  obtain ⟨b0, ok, er, hof, h⟩ := zEnt_cases h
  rcases h with ⟨_, h⟩ | ⟨rfl, b, hb, ⟨rfl, _⟩ | ⟨rfl, hbn, ⟨hz, hl2, _⟩ | ⟨_, h⟩ | ⟨_, h⟩⟩⟩
  · cases h
  · exact zone_entry.skip k k b i A c p ho hl A2 c2 last b0 w hr hc hr2 hb hof
  · rcases hN with ⟨rfl, hn⟩ | ⟨⟨a, rfl⟩, _⟩
    · exact absurd hn hl2
    · exact zone_entry.same k k b i A c p ho hl a c2 last b0 w hr hc hr2 hb hof hz
  · cases h
  · cases h
theorem zone_entry.some_ (k : Nat) (i : Int) (A : Option Addr) (c : Nat) (p : List Int) (ho : Oct p) (hl : p.length ≤ 1000000) (A2 : Option Addr) (c2 : Nat) (last : List Int) (x : Int × List Int × Int) (w : World) (hr : Kd.C (Kd.int .u8) w A p.length p) (hc : p.length ≤ c) (hr2 : Kd.C (Kd.int .u8) w A2 last.length last) (hN : (A2 = none ∧ last = []) ∨ (∃ a, A2 = some a) ∧ last ≠ []) (h : zEnt k i p last = some (some x)) :
    Calls Tryd.prog 82 #[.int .i64 i, .slice A p.length c, .slice A2 last.length c2] w fun e w' => ∃ A5 c5, e = .returned (.tuple #[.agg #[.int .i64 x.1, .slice A5 x.2.1.length c5, .int .i64 x.2.2], .bool true]) ∧
      (x.2.2 = 0 → Kd.R (Kd.int .u8) 5 w' w.heap.size (fun _ => True) (.slice A5 x.2.1.length c5) x.2.1 ∧ x.2.1 ≠ []) ∧ (x.2.2 ≠ 0 → A5 = none ∧ c5 = 0 ∧ x.2.1 = []) ∧ Below w.heap.size w w' := by
  obtain ⟨b0, ok, er, hof, h⟩ := zEnt_cases h
  rcases h with ⟨her, h⟩ | ⟨rfl, b, hb, ⟨_, h⟩ | ⟨rfl, hbn, ⟨_, _, h⟩ | ⟨hz, h⟩ | ⟨hz, h⟩⟩⟩
  · obtain rfl := Option.some.inj h
    exact (zone_entry.err k i A c p ho hl A2 c2 last b0 ok er w hr hc hof her).mono fun e w' ⟨h1, h2⟩ => ⟨none, 0, h1, fun e => absurd e her, fun _ => ⟨rfl, rfl, rfl⟩, h2⟩
  · cases h
  · cases h
  · obtain rfl := Option.some.inj h
    rcases hN with ⟨rfl, hn⟩ | ⟨⟨a, rfl⟩, _⟩
    · exact (zone_entry.downN k k b i A c p ho hl c2 last b0 w hr hc hr2 hb hof hz).mono fun e w' ⟨h1, h2⟩ => ⟨none, 0, h1, (fun e => by cases e), fun _ => ⟨rfl, rfl, rfl⟩, h2⟩
    · exact (zone_entry.downS k k b i A c p ho hl a c2 last b0 w hr hc hr2 hb hof hz).mono fun e w' ⟨h1, h2⟩ => ⟨none, 0, h1, (fun e => by cases e), fun _ => ⟨rfl, rfl, rfl⟩, h2⟩
  · obtain rfl := Option.some.inj h
    rcases hN with ⟨rfl, hn⟩ | ⟨⟨a, rfl⟩, _⟩
    · exact (zone_entry.upN k k b i A c p ho hl c2 last b0 w hr hc hr2 hb hof hz).mono fun e w' ⟨A5, c5, h1, h3, h2⟩ => ⟨A5, c5, h1, fun _ => ⟨h3, hbn.1⟩, fun e => absurd rfl e, h2⟩
    · exact (zone_entry.upS k k b i A c p ho hl a c2 last b0 w hr hc hr2 hb hof hz).mono fun e w' ⟨A5, c5, h1, h3, h2⟩ => ⟨A5, c5, h1, fun _ => ⟨h3, hbn.1⟩, fun e => absurd rfl e, h2⟩
theorem lastAt.keep {Q : Nat → Obj → Prop} {A B : World} {b : Nat} {v : Value} {last : List Int} (h : lastAt b v last A) (hk : KeepQ Q A B) (hQ : ∀ k C f, Q k (.cells C 5 f)) : lastAt b v last B := by
  rcases h with h | ⟨h1, h2, h3⟩
  · exact .inl h
  · exact .inr ⟨h1, h2, rowU_keep h3 hk hQ⟩
set_option maxHeartbeats 8000000 in
set_option maxRecDepth 100000 in
/-- The iterator: every body that keeps the iterator's own blocks, rows of octets, and entries. -/
theorem zone_Entries.stops (k : Nat) (L : List Int) (ho : Oct L) (hl : L.length ≤ 1000000) (E : List (Int × List Int × Int)) (hE : zEnts k 0 [] (spl 10 L) = some E) (g gb n0 : Nat) (w : World) (Q : Nat → Obj → Prop) (hn0 : n0 ≤ gb)
    (hQ0 : ∀ j o, n0 ≤ j → j < w.heap.size → Q j o) (hQ5 : ∀ j C f, Q j (.cells C 5 f)) (hQ9 : ∀ j C f, Q j (.cells C 99 f))
    (hV : ∀ W', (∀ j o, n0 ≤ j → w.heap[j]? = some o → o.isCells = true → W'.heap[j]? = some o) → Kd.C (Kd.slice 5 (Kd.int .u8)) W' (some ⟨g, 0, none⟩) (spl 10 L).length (spl 10 L))
    (hb : Boxed w gb 36 (.slice (some ⟨g, 0, none⟩) (spl 10 L).length (spl 10 L).length)) (n : Nat) (hn : 3 ≤ n) :
    SeqPr Fence.wide n Tryd.prog 81 #[.pointer (some ⟨gb, 0, none⟩)] ZItem.enc (KeepQ Q) (ZItem.at_ w.heap.size) (fun ys => ys.map ZItem.pr = E) (fun pre => pre.map ZItem.pr <+: E) w := fun l J Jx W hW hJ hJx hY h0 => by
  refine callsIn_of_wp Tryd.func81 rfl trivial ?_ rfl
  simp only [Tryd.ntmps81, List.size_toArray, List.length_cons, List.length_nil, Nat.reduceAdd, Nat.reduceSub, Array.replicate_succ, Array.replicate_zero, List.push_toArray, List.append_toArray, List.nil_append, List.cons_append]
  obtain ⟨X, hX⟩ : ∃ X, X = spl 10 L := ⟨_, rfl⟩
  have hXo : ∀ p ∈ X, Oct p := fun p hp => by rw [hX] at hp; exact oct_spl ho hp
  have hXl : ∀ p ∈ X, p.length ≤ 1000000 := fun p hp => by rw [hX] at hp; have := len_spl hp; omega
  have hXn : X.length ≤ 1000001 := by rw [hX]; have := splP_count (fun x => decide (x = (10 : Int))) L; unfold spl; omega
  rw [← hX] at hV hb hE
  have hbW : Boxed W gb 36 (.slice (some ⟨g, 0, none⟩) X.length X.length) := (hW.block _ hb.lt).trans hb
  have HW := Aside0.mk hW
  have HV := Aside0.mk hV
  have HJ := Aside0.mk hJ
  have HY := Aside0.mk hY
  have H0 := Aside0.mk h0
  have HXO := Aside0.mk hXo
  have HXL := Aside0.mk hXl
  have HXN := Aside0.mk hXn
  have HQ := Aside0.mk (And.intro hQ0 (And.intro hQ5 hQ9))
  have HE := Aside0.mk hE
  have hcell := hbW.cell
  clear hX hXo hXl hXn hV hb hbW hJ hJx hY h0 hE hQ0 hQ5 hQ9 hW ho hl
  gi_wp2
  clear hcell
  gi_loopg [3, 10] (X.length + 1) (fun kq s3 s10 wr => ∃ (i : Nat) (pre : List ZItem) (last : List Int) (Er : List (Int × List Int × Int)), s10 = .int .i64 (i : Int) ∧ Aside0 (i + kq = X.length + 1 ∧ i ≤ X.length) ∧ Aside0 (lastAt w.heap.size s3 last wr) ∧ Aside0 (zEnts k i last (X.drop i) = some Er ∧ pre.map ZItem.pr ++ Er = E) ∧ Aside0 (J pre wr) ∧ Aside0 (KeepQ Q W wr))
  case atStart => exact ⟨0, [], [], E, rfl, ⟨by omega, by omega⟩, ⟨.inl ⟨rfl, rfl⟩⟩, ⟨HE.out, rfl⟩, H0, ⟨KeepQ.refl _ _⟩⟩
  case round =>
    obtain ⟨i, pre, last, Er, rfl, HI, HLA, HP, HJp, KK⟩ := hrel
    cases gk with
    | zero => exact absurd HI.out (by omega)
    | succ kq =>
      by_cases c1 : (i : Int) < (X.length : Int)
      · have hi : i < X.length := by omega
        have hkeep : ∀ j o, n0 ≤ j → w.heap[j]? = some o → o.isCells = true → wr.heap[j]? = some o := fun j o h1 h2 h3 =>
          KK.out.2 j o ((HW.out.block j (Array.getElem?_eq_some_iff.1 h2).1).trans h2) h3 (HQ.out.1 j o h1 (Array.getElem?_eq_some_iff.1 h2).1)
        obtain ⟨ad, A1, c1', hA, hcl, hlc, hC1⟩ := at_L2 (HV.out wr hkeep) (i : Int) (by omega) c1
        cases hA
        obtain ⟨p, hp⟩ : ∃ p, p = X[i] := ⟨_, rfl⟩
        have hrd : rd_L2 X (i : Int) = p := by unfold rd_L2; rw [hp, Int.toNat_natCast, List.getD_eq_getElem?_getD, List.getElem?_eq_getElem hi]; rfl
        rw [hrd, Int.toNat_natCast, Addr.add_lit, Nat.zero_add] at hcl
        rw [hrd] at hlc hC1
        have hpm : p ∈ X := hp ▸ List.getElem_mem hi
        have hop := HXO.out p hpm
        have hlp := HXL.out p hpm
        have hz := HP.out.1
        rw [List.drop_eq_getElem_cons hi, ← hp, zEnts_cons] at hz
        obtain ⟨r, hr, hz2⟩ := Option.bind_eq_some_iff.1 hz
        have HII := Aside0.mk hi
        have HC1 := Aside0.mk hC1
        have HLC := Aside0.mk hlc
        have e0 := eq_true c1
        have e1 : decide ((i : Int) < (X.length : Int)) = true := decide_eq_true c1
        have e2 : (i < X.length) = True := eq_true hi
        have m2 : wrap64 ((i : Int) + 1) = (i : Int) + 1 := w64 (by omega) (by have := HXN.out; omega)
        have m2' : IntKind.i64.wrap ((i : Int) + 1) = (i : Int) + 1 := Go.IntWalk.i64_in _ (by have := HXN.out; omega)
        have HOP := Aside0.mk hop
        have HLP := Aside0.mk hlp
        have HRR := Aside0.mk hr
        have HZ2 := Aside0.mk hz2
        have hs3 : ∃ A9 c9, u3 = .slice A9 last.length c9 ∧ Kd.C (Kd.int .u8) wr A9 last.length last ∧ ((A9 = none ∧ last = []) ∨ (∃ a, A9 = some a) ∧ last ≠ []) := by
          rcases HLA.out with ⟨rfl, rfl⟩ | ⟨h1, ⟨a, c, rfl⟩, h3⟩
          · exact ⟨none, 0, rfl, ⟨rfl, by simp, fun h => by simp at h⟩, .inl ⟨rfl, rfl⟩⟩
          · obtain ⟨A9, c9, he, -, hC⟩ := Kd.R_reads h3
            injection he with e1 e2 e3
            subst e1 e3
            exact ⟨_, _, rfl, hC, .inr ⟨⟨a, rfl⟩, h1⟩⟩
        obtain ⟨A9, c9, rfl, hC9, hN9⟩ := hs3
        have HC9 := Aside0.mk hC9
        have HN9 := Aside0.mk hN9
        clear c1 hi hkeep hC1 hlc hpm hop hlp hz hr hz2 hp hrd hC9 hN9
        cases r with
        | none =>
          have HRN := Aside0.mk (show zEnt k ((i : Int) + 1) p last = some none from HRR.out)
          gi_wp2_with (refine ⟨trivial, (fun h => by cases h), ?_⟩; gi_at_call 82; (refine (callsIn_wide.2 (zone_entry.none_ k ((i : Int) + 1) A1 c1' p HOP.out HLP.out A9 c9 last wr HC1.out HLC.out HC9.out HN9.out HRN.out)).mono ?_); rintro e w1 ⟨rfl, hb⟩; have HB := Aside0.mk hb; clear hb)
          have hb2 : Below wr.heap.size wr (w1.alloc (.cells #[.int .i64 0, .slice none 0 0, .int .i64 0] 99)) := HB.out.alloc HB.out.size _
          have HB2 := Aside0.mk hb2
          clear hb2
          gi_roundg kq
          case measure => omega
          case rel =>
            exact ⟨i + 1, pre, last, Er, by first | rfl | (rw [m2]; rfl), ⟨by have := HI.out; omega, by have := HII.out; omega⟩, ⟨HLA.out.keep (KeepQ.of_below HB2.out) HQ.out.2.1⟩, ⟨HZ2.out, HP.out.2⟩, ⟨HJ.out _ _ _ none HJp.out (grownBy_none_of_below HB2.out) (fun r e => by cases e)⟩, ⟨KK.out.trans (KeepQ.of_below HB2.out)⟩⟩
        | some x =>
          obtain ⟨x1, xb, xe⟩ := x
          have hrs : zEnt k ((i : Int) + 1) p last = some (some (x1, xb, xe)) := HRR.out
          have HEP := Aside0.mk HP.out.2
          have hz2 : (if xe = 63 then some [(x1, xb, xe)] else (zEnts k (i + 1) (if xe = 0 then xb else last) (X.drop (i + 1))).map ((x1, xb, xe) :: ·)) = some Er := HZ2.out
          clear HZ2 HRR
          by_cases e63 : xe = 63
          · subst e63
            rw [if_pos rfl] at hz2
            have HEr : Aside0 (Er = [(x1, xb, 63)]) := ⟨(Option.some.inj hz2).symm⟩
            have HRS := Aside0.mk hrs
            clear hz2 hrs
            gi_wp2_with (first
                        | (refine ⟨trivial, (fun h => by cases h), ?_⟩; gi_at_call 82; (refine (callsIn_wide.2 (zone_entry.some_ k ((i : Int) + 1) A1 c1' p HOP.out HLP.out A9 c9 last (x1, xb, 63) wr HC1.out HLC.out HC9.out HN9.out HRS.out)).mono ?_); rintro e w1 ⟨A5, c5, rfl, h5, h6, hb⟩
                           obtain ⟨rfl, rfl, rfl⟩ := h6 (show (63 : Int) ≠ 0 by decide)
                           have HBX : Aside0 (Below wr.heap.size wr (w1.alloc (.cells #[.int .i64 x1, .slice none 0 0, .int .i64 63] 99))) := ⟨hb.alloc hb.size _⟩
                           have HE3 : Aside0 (E3 (w1.alloc (.cells #[.int .i64 x1, .slice none 0 0, .int .i64 63] 99)) w1.heap.size (.int .i64 x1) (.slice none 0 0) (.int .i64 63)) := ⟨heap_alloc_new w1 _⟩
                           have HAT : Aside0 (ZItem.at_ w.heap.size ((x1, none, 0, [], 63) : ZItem) (w1.alloc (.cells #[.int .i64 x1, .slice none 0 0, .int .i64 63] 99))) := ⟨⟨(fun e => absurd e (show (63 : Int) ≠ 0 by decide)), fun _ => ⟨rfl, rfl, rfl⟩⟩⟩
                           clear hb h5 h6
                           have HALL : Aside0 ((pre ++ [((x1, none, 0, [], 63) : ZItem)]).map ZItem.pr ++ [] = E) := ⟨by rw [List.append_nil, List.map_append, ← HEP.out, HEr.out]; rfl⟩
                           have HPF : Aside0 ((pre ++ [((x1, none, 0, [], 63) : ZItem)]).map ZItem.pr <+: E) := ⟨by rw [← HALL.out]; exact List.prefix_append _ _⟩
                           have hj2 := HJ.out _ _ _ none HJp.out (grownBy_none_of_below HBX.out) (fun r e => by cases e)
                           obtain ⟨fn, tmps, assign, body, hy, hRR⟩ := HY.out pre ((x1, none, 0, [], 63) : ZItem) _ hj2 HAT.out HPF.out
                           have HRR2 := Aside0.mk hRR
                           simp only [ZItem.enc, List.length_nil] at hy
                           obtain ⟨y0, y1, y2⟩ := E3.cells HE3.out
                           clear hj2 hRR))
            refine ⟨fun _ => by omega, ?_⟩
            refine HRR2.out.mono ?_
            rintro e W3 (⟨rfl, hJ3, hk3⟩ | ⟨rfl, hJx3⟩)
            · have hE3 := (HE3.out.keep hk3 HQ.out.2.2)
              obtain ⟨z0, z1, z2⟩ := E3.cells hE3
              have HJ3 := Aside0.mk hJ3
              have HK3 := Aside0.mk ((KK.out.trans (KeepQ.of_below HBX.out)).trans hk3)
              have HK33 := Aside0.mk hk3
              clear hJ3 hk3 HRR2 hy y0 y1 y2 hE3
              gi_wp2
              refine bodyPost_ret (results_none rfl _ _ _) rfl ?_
              exact ⟨⟨_, rfl⟩, .inl ⟨_, by rw [← HALL.out, List.append_nil], HJ3.out⟩⟩
            · have HJX := Aside0.mk hJx3
              clear hJx3 HRR2 hy y0 y1 y2
              gi_wp2
              refine bodyPost_ret (results_none rfl _ _ _) rfl ?_
              exact ⟨⟨_, rfl⟩, .inr ⟨_, HPF.out, HJX.out⟩⟩
          · rw [if_neg e63] at hz2
            obtain ⟨Er', hz3, hEr⟩ := Option.map_eq_some_iff.1 hz2
            have HEr := Aside0.mk hEr.symm
            clear hz2 hEr
            by_cases e00 : xe = 0
            · subst e00
              rw [if_pos rfl] at hz3
              have HZ3 := Aside0.mk hz3
              have HRS := Aside0.mk hrs
              have HXB : Aside0 (xb.length ≤ 1000000) := ⟨zEnt_len hrs⟩
              clear hz3 hrs e63
              gi_wp2_with (first
                        | (refine ⟨trivial, (fun h => by cases h), ?_⟩; gi_at_call 82; (refine (callsIn_wide.2 (zone_entry.some_ k ((i : Int) + 1) A1 c1' p HOP.out HLP.out A9 c9 last (x1, xb, 0) wr HC1.out HLC.out HC9.out HN9.out HRS.out)).mono ?_); rintro e w1 ⟨A5, c5, rfl, h5, h6, hb⟩
                           obtain ⟨h5a, h5b⟩ := h5 rfl
                           have HB1 := Aside0.mk hb
                           have HR1 : Aside0 (Kd.R (Kd.int .u8) 5 (w1.alloc (.cells #[.int .i64 x1, .slice A5 xb.length c5, .int .i64 0] 99)) wr.heap.size (fun _ => True) (.slice A5 xb.length c5) xb) := ⟨Kd.R_below h5a ((Below.refl _ w1).alloc (Nat.le_refl _) _)⟩
                           have HNE := Aside0.mk h5b
                           have HBW : Aside0 (Below wr.heap.size wr (w1.alloc (.cells #[.int .i64 x1, .slice A5 xb.length c5, .int .i64 0] 99))) := ⟨hb.alloc hb.size _⟩
                           have HE2 : Aside0 (E3 (w1.alloc (.cells #[.int .i64 x1, .slice A5 xb.length c5, .int .i64 0] 99)) w1.heap.size (.int .i64 x1) (.slice A5 xb.length c5) (.int .i64 0)) := ⟨heap_alloc_new w1 _⟩
                           clear hb h5 h6 h5a h5b)
                        | (refine ⟨trivial, (fun h => by cases h), ?_⟩; gi_at_call 60
                           obtain ⟨A6, c6, hv6, hc6, hC6⟩ := Kd.R_reads HR1.out
                           injection hv6 with g1 g2 g3
                           subst g1 g3
                           refine (callsIn_wide.2 (zClone.calls A5 c5 xb _ hC6 hc6 HXB.out)).mono ?_
                           rintro e w3 ⟨v, A7, c7, rfl, rfl, -, -, -, hR7, -, -, hb3⟩
                           have HR7 := Aside0.mk (hR7 HNE.out)
                           have HB3 := Aside0.mk hb3
                           have HBX := Aside0.mk (HBW.out.trans (hb3.mono HBW.out.size))
                           have HE3 := Aside0.mk (HE2.out.below hb3)
                           have hwsz : w.heap.size ≤ wr.heap.size := Nat.le_trans HW.out.size KK.out.1
                           have HAT : Aside0 (ZItem.at_ w.heap.size ((x1, A5, c5, xb, 0) : ZItem) w3) := ⟨⟨fun _ => ⟨Kd.R_lower (Kd.R_below HR1.out hb3) hwsz, HNE.out⟩, fun e => absurd rfl e⟩⟩
                           clear g2 hc6 hC6 hb3 hR7 hwsz
                           have HALL : Aside0 ((pre ++ [((x1, A5, c5, xb, 0) : ZItem)]).map ZItem.pr ++ Er' = E) := ⟨by rw [List.map_append, ← HEP.out, HEr.out, List.append_assoc]; rfl⟩
                           have HPF : Aside0 ((pre ++ [((x1, A5, c5, xb, 0) : ZItem)]).map ZItem.pr <+: E) := ⟨by rw [← HALL.out]; exact List.prefix_append _ _⟩
                           have hj2 := HJ.out _ _ _ none HJp.out (grownBy_none_of_below HBX.out) (fun r e => by cases e)
                           obtain ⟨fn, tmps, assign, body, hy, hRR⟩ := HY.out pre ((x1, A5, c5, xb, 0) : ZItem) _ hj2 HAT.out HPF.out
                           have HRR2 := Aside0.mk hRR
                           simp only [ZItem.enc, List.length_nil] at hy
                           obtain ⟨y0, y1, y2⟩ := E3.cells HE3.out
                           clear hj2 hRR))
              refine ⟨fun _ => by omega, ?_⟩
              refine HRR2.out.mono ?_
              rintro e W3 (⟨rfl, hJ3, hk3⟩ | ⟨rfl, hJx3⟩)
              · have hE3 := (HE3.out.keep hk3 HQ.out.2.2)
                obtain ⟨z0, z1, z2⟩ := E3.cells hE3
                have HJ3 := Aside0.mk hJ3
                have HK3 := Aside0.mk ((KK.out.trans (KeepQ.of_below HBX.out)).trans hk3)
                have HK33 := Aside0.mk hk3
                clear hJ3 hk3 HRR2 hy y0 y1 y2 hE3
                gi_wp2
                gi_roundg kq
                case measure => omega
                case rel =>
                  exact ⟨i + 1, pre ++ [((x1, A5, c5, xb, 0) : ZItem)], xb, Er', by first | rfl | (rw [m2]; rfl), ⟨by have := HI.out; omega, by have := HII.out; omega⟩, ⟨.inr ⟨HNE.out, (by obtain ⟨A8, c8, he, hc8, hC8⟩ := Kd.R_reads HR7.out; injection he with q1 q2 q3; subst q1 q3; obtain ⟨ad, ea, _⟩ := hC8.2.2 (List.length_pos_iff.2 HNE.out); subst ea; exact ⟨_, _, rfl⟩), rowU_keep (Kd.R_lower HR7.out (by have := HW.out.size; have := KK.out.1; have := HBW.out.size; omega)) HK33.out HQ.out.2.1⟩⟩, ⟨HZ3.out, HALL.out⟩, HJ3, HK3⟩
              · have HJX := Aside0.mk hJx3
                clear hJx3 HRR2 hy y0 y1 y2
                gi_wp2
                refine bodyPost_ret (results_none rfl _ _ _) rfl ?_
                exact ⟨⟨_, rfl⟩, .inr ⟨_, HPF.out, HJX.out⟩⟩
            · rw [if_neg e00] at hz3
              have HZ3 := Aside0.mk hz3
              have HRS := Aside0.mk hrs
              have f0 : (xe == 0) = false := beq_eq_false_iff_ne.mpr e00
              have f1 : (xe == 63) = false := beq_eq_false_iff_ne.mpr e63
              clear hz3 hrs
              gi_wp2_with (first
                        | (refine ⟨trivial, (fun h => by cases h), ?_⟩; gi_at_call 82; (refine (callsIn_wide.2 (zone_entry.some_ k ((i : Int) + 1) A1 c1' p HOP.out HLP.out A9 c9 last (x1, xb, xe) wr HC1.out HLC.out HC9.out HN9.out HRS.out)).mono ?_); rintro e w1 ⟨A5, c5, rfl, h5, h6, hb⟩
                           obtain ⟨rfl, rfl, rfl⟩ := h6 e00
                           have HBX : Aside0 (Below wr.heap.size wr (w1.alloc (.cells #[.int .i64 x1, .slice none 0 0, .int .i64 xe] 99))) := ⟨hb.alloc hb.size _⟩
                           have HE3 : Aside0 (E3 (w1.alloc (.cells #[.int .i64 x1, .slice none 0 0, .int .i64 xe] 99)) w1.heap.size (.int .i64 x1) (.slice none 0 0) (.int .i64 xe)) := ⟨heap_alloc_new w1 _⟩
                           have HAT : Aside0 (ZItem.at_ w.heap.size ((x1, none, 0, [], xe) : ZItem) (w1.alloc (.cells #[.int .i64 x1, .slice none 0 0, .int .i64 xe] 99))) := ⟨⟨(fun e => absurd e e00), fun _ => ⟨rfl, rfl, rfl⟩⟩⟩
                           clear hb h5 h6
                           have HALL : Aside0 ((pre ++ [((x1, none, 0, [], xe) : ZItem)]).map ZItem.pr ++ Er' = E) := ⟨by rw [List.map_append, ← HEP.out, HEr.out, List.append_assoc]; rfl⟩
                           have HPF : Aside0 ((pre ++ [((x1, none, 0, [], xe) : ZItem)]).map ZItem.pr <+: E) := ⟨by rw [← HALL.out]; exact List.prefix_append _ _⟩
                           have hj2 := HJ.out _ _ _ none HJp.out (grownBy_none_of_below HBX.out) (fun r e => by cases e)
                           obtain ⟨fn, tmps, assign, body, hy, hRR⟩ := HY.out pre ((x1, none, 0, [], xe) : ZItem) _ hj2 HAT.out HPF.out
                           have HRR2 := Aside0.mk hRR
                           simp only [ZItem.enc, List.length_nil] at hy
                           obtain ⟨y0, y1, y2⟩ := E3.cells HE3.out
                           clear hj2 hRR))
              refine ⟨fun _ => by omega, ?_⟩
              refine HRR2.out.mono ?_
              rintro e W3 (⟨rfl, hJ3, hk3⟩ | ⟨rfl, hJx3⟩)
              · have hE3 := (HE3.out.keep hk3 HQ.out.2.2)
                obtain ⟨z0, z1, z2⟩ := E3.cells hE3
                have HJ3 := Aside0.mk hJ3
                have HK3 := Aside0.mk ((KK.out.trans (KeepQ.of_below HBX.out)).trans hk3)
                have HK33 := Aside0.mk hk3
                clear hJ3 hk3 HRR2 hy y0 y1 y2 hE3
                gi_wp2
                gi_roundg kq
                case measure => omega
                case rel =>
                  exact ⟨i + 1, pre ++ [((x1, none, 0, [], xe) : ZItem)], last, Er', by first | rfl | (rw [m2]; rfl), ⟨by have := HI.out; omega, by have := HII.out; omega⟩, ⟨(HLA.out.keep (KeepQ.of_below HBX.out) HQ.out.2.1).keep HK33.out HQ.out.2.1⟩, ⟨HZ3.out, HALL.out⟩, HJ3, HK3⟩
              · have HJX := Aside0.mk hJx3
                clear hJx3 HRR2 hy y0 y1 y2
                gi_wp2
                refine bodyPost_ret (results_none rfl _ _ _) rfl ?_
                exact ⟨⟨_, rfl⟩, .inr ⟨_, HPF.out, HJX.out⟩⟩
      · have e0 := eq_false c1
        have e1 : decide ((i : Int) < (X.length : Int)) = false := decide_eq_false c1
        have hi : i = X.length := by have := HI.out; omega
        subst hi
        have hEr := HP.out.1
        rw [List.drop_length] at hEr
        have HALL : Aside0 (pre.map ZItem.pr = E) := ⟨by rw [← HP.out.2, ← Option.some.inj hEr, List.append_nil]⟩
        clear c1 hEr
        gi_wp2
        go_end0
        exact ⟨⟨_, rfl⟩, .inl ⟨pre, HALL.out, HJp.out⟩⟩
end Go.Proofs.YtdnfmilnkoocdaaDoor.Q

-- from Hrrg
/- A region that draws its order, inside a round of a range over a function: the laws for regions outside of a fence serve there too. -/
namespace Go.Proofs.YtdnfmilnkoocdaaDoor.Q
open Go.RowKit Go.Shelf Go.Proofs.YtdnfmilnkoocdaaDoorW.PrintWords Go.Proofs.YtdnfmilnkoocdaaDoorW.PrintLast Go.Proofs.YtdnfmilnkoocdaaDoorW.PrintMore
set_option linter.unusedVariables false
set_option linter.unusedSimpArgs false

theorem rowsIn_wide {n : Nat} {P : Program} {row : String} {args : Array Value} {w : World} {R : Value → World → Prop} (h : Rows P row args w R) : RowsIn Fence.wide n P row args w R :=
  fun c cs _ => let ⟨v, w', r, s⟩ := h c cs; ⟨v, w', r, stepsIn_wide.2 s⟩
theorem wpOpIn_of_any {n : Nat} {P : Program} {ops : Array Oper} {Q : Exit → Act → World → Prop} (hQ : ¬ LetsOut Q) {i : Nat} {K K' : Act → World → Prop} (hK : ∀ a w, K a w → K' a w) {a : Act} {w : World} (h : wpOp P ops Q i K a w) : wpOpIn Fence.wide n P ops Q i K' a w := by
  unfold Go.wpOp at h
  unfold Go.wpOpIn
  cases ho : ops[i]? with
  | none => rw [ho] at h; exact hK _ _ h
  | some o =>
    rw [ho] at h
    simp only at h ⊢
    by_cases hw : Region.wanted o (yielded ops a.tmps) = true
    · rw [if_pos hw] at h ⊢
      rcases h with h | ⟨_, h⟩
      · refine ⟨fun _ _ => trivial, ?_⟩
        unfold Oper.wp at h
        rw [show Fence.wide.round = none from rfl, Oper.semAt_none]
        generalize (execOp a.eval o).run P w = r at h ⊢
        cases r with
        | ok nx w1 =>
          cases nx with
          | value v => exact hK _ _ h
          | skip => exact hK _ _ h
          | defer d => exact hK _ _ h
          | enter f args =>
            refine ⟨(fun e => by cases e), callsIn_wide.2 (Calls.mono h ?_)⟩
            intro e w2 he
            cases e with
            | returned v => exact hK _ _ he
            | panicked c => exact he
            | outgrown => exact he
          | row rw_ args => exact ⟨(fun e => by cases e), rowsIn_wide (Rows.mono h (fun v w2 hv => hK _ _ hv))⟩
          | _ => exact h.elim
        | halt x w1 =>
          cases x <;> first | exact h | exact h.elim
      · exact absurd h hQ
    · rw [if_neg hw] at h ⊢
      exact ⟨fun _ _ => trivial, hK _ _ h⟩
theorem wpAnyIn_of_any {n : Nat} {P : Program} {md : Region.Mode} {ops : Array Oper} {Q : Exit → Act → World → Prop} (hQ : ¬ LetsOut Q) : ∀ (fuel : Nat) (listed : Array Bool) (a : Act) (w : World), wpAny P md ops Q fuel listed a w → wpAnyIn Fence.wide n P md ops Q fuel listed a w
  | 0, _, _, _, h => h
  | fuel + 1, _, _, _, h => ⟨h.1, fun i hi => wpOpIn_of_any hQ (fun a' w' h' => wpAnyIn_of_any hQ fuel _ a' w' h') (h.2 i hi)⟩
/-- Behind the region nothing but what comes next, in the state that K tells. -/
def onlyK (K : Act → World → Prop) : Exit → Act → World → Prop
  | .normal, a, w => K a w
  | _, _, _ => False
/-- In a round: a region that draws. -/
theorem wpIn_region_round {n l id : Nat} {P : Program} {ops : Array Oper} {Q : Exit → Act → World → Prop} {a : Act} {w : World} (hm : P.follows .mixedOrders = true) (hno : noDefer ops = true)
    (h : wpAny P .any ops (onlyK (Q .normal)) ops.size (Array.replicate ops.size false) a w.drew) : (Code.region id ops true).wpIn (Fence.wide.inRound l) n P Q a w := by
  refine wpIn_mono (Q := onlyK (Q .normal)) ?_ (fun e a w he => by cases e <;> first | exact he | exact he.elim)
  exact wpIn_region_any hm (wpAnyIn_round rfl hno _ _ _ _ (wpAnyIn_of_any (fun ⟨_, _, h⟩ => h) _ _ _ _ h))
/-- The same by the held laws. -/
theorem wpIn_region_round_held {n l id : Nat} {P : Program} {ops : Array Oper} {Q : Exit → Act → World → Prop} {a : Act} {w : World} (S : World → Prop) (hm : P.follows .mixedOrders = true) (hno : noDefer ops = true)
    (h : wpAnyH P .any ops (onlyK (Q .normal)) S ops.size (Array.replicate ops.size false) a w.drew) : (Code.region id ops true).wpIn (Fence.wide.inRound l) n P Q a w :=
  wpIn_region_round hm hno (wpAny_of_held _ _ _ _ h)
end Go.Proofs.YtdnfmilnkoocdaaDoor.Q

-- from Hzlb
/- zone.Labels: the walk. -/
namespace Go.Proofs.YtdnfmilnkoocdaaDoor.Q
open Go.RowKit Go.Shelf Go.Proofs.YtdnfmilnkoocdaaDoorW.PrintWords Go.Proofs.YtdnfmilnkoocdaaDoorW.PrintLast Go.Proofs.YtdnfmilnkoocdaaDoorW.PrintMore Go.Proofs.YtdnfmilnkoocdaaDoor.K
set_option linter.unusedVariables false
set_option linter.unusedSimpArgs false
attribute [local go_sem] Oper.semAt_some

/-! the list functions -/
/-- The labels of entries; where one is ahead of its last, its line. -/
def zLab : List (Int × List Int × Int) → List (List Int) → List (List Int) × Int × Int
  | [], acc => (acc, 0, 0)
  | e :: r, acc => if e.2.2 = 0 then zLab r (acc ++ [e.2.1]) else if e.2.2 = 63 then (acc, 63, e.1) else zLab r acc
/-- Of a zone. -/
def zone_Labels.f (k : Nat) (L : List Int) : Option (List (List Int) × Int × Int) :=
  if L.length ≤ 1000000 ∧ L.all (fun x => decide (0 ≤ x ∧ x ≤ 255)) = true then (zEnts k 0 [] (spl 10 L)).map (fun E => zLab E []) else none
/-- Those of entries none of which is ahead of its last. -/
def labs (E : List (Int × List Int × Int)) : List (List Int) := (E.filter (fun e => decide (e.2.2 = 0))).map (·.2.1)
theorem zLab_pre : ∀ (E E' : List (Int × List Int × Int)) (acc : List (List Int)), (∀ e ∈ E, e.2.2 ≠ 63) → zLab (E ++ E') acc = zLab E' (acc ++ labs E)
  | [], E', acc, _ => by simp [labs]
  | e :: E, E', acc, h => by
    have ih := zLab_pre E E'
    have h1 := h e (by simp)
    have h2 : ∀ e ∈ E, e.2.2 ≠ 63 := fun e he => h e (by simp [he])
    rw [List.cons_append, show zLab (e :: (E ++ E')) acc = (if e.2.2 = 0 then zLab (E ++ E') (acc ++ [e.2.1]) else if e.2.2 = 63 then (acc, 63, e.1) else zLab (E ++ E') acc) from rfl]
    by_cases c : e.2.2 = 0
    · rw [if_pos c, ih _ h2]
      unfold labs
      rw [List.filter_cons, if_pos (decide_eq_true c)]
      simp
    · rw [if_neg c, if_neg h1, ih _ h2]
      unfold labs
      rw [List.filter_cons, if_neg (by simpa using c)]
theorem labs_snoc (E : List (Int × List Int × Int)) (e : Int × List Int × Int) : labs (E ++ [e]) = labs E ++ (if e.2.2 = 0 then [e.2.1] else []) := by
  unfold labs
  rw [List.filter_append, List.map_append]
  by_cases c : e.2.2 = 0
  · rw [if_pos c, List.filter_cons, if_pos (decide_eq_true c)]; rfl
  · rw [if_neg c, List.filter_cons, if_neg (by simpa using c)]; rfl
/-! rows of rows -/
abbrev kRows : Kd (List Int) := Kd.slice 5 (Kd.int .u8)
theorem rowU_grown {W W9 : World} {B g : Nat} {ok : Nat → Prop} {v : Value} {l : List Int} {cur : Array Value} {f : Nat × Nat} (h : Kd.R (Kd.int .u8) 5 W B ok v l) (hg : W.grownBy W9 (some g)) (hr : W.heap[g]? = some (.cells cur 22 f)) : Kd.R (Kd.int .u8) 5 W9 B ok v l := by
  have hown := Kd.own_of_R h
  refine Kd.R_of_own (own_move hown (fun k hk => hg.block k (own_lt hown k hk) (fun e => ?_))) h.1
  injection e with e
  subst e
  obtain ⟨cells, hc⟩ := own_typed hown _ hk
  rw [hc] at hr
  injection hr with hr
  injection hr with _ ht _
  exact absurd ht (by decide)
theorem rowU_none {W W9 : World} {B : Nat} {ok : Nat → Prop} {v : Value} {l : List Int} (h : Kd.R (Kd.int .u8) 5 W B ok v l) (hg : W.grownBy W9 none) : Kd.R (Kd.int .u8) 5 W9 B ok v l := by
  have hown := Kd.own_of_R h
  exact Kd.R_of_own (own_move hown (fun k hk => hg.block k (own_lt hown k hk) (fun e => by cases e))) h.1
theorem rowU_set' {W : World} {B b n : Nat} {ok : Nat → Prop} {v u : Value} {l : List Int} (h : Kd.R (Kd.int .u8) 5 W B ok v l) (hb : b < B) : Kd.R (Kd.int .u8) 5 (W.setCell ⟨b, n, none⟩ u) B ok v l := by
  have hown := Kd.own_of_R h
  exact Kd.R_of_own (own_setCell hown (fun e => by have := own_base hown _ e.symm; simp only at this; omega) u) h.1
/-- Rows of rows, where a cell of another block is written. -/
theorem rows_set {W : World} {B b : Nat} {v u : Value} {ls : List (List Int)} (h : Kd.R kRows 22 W B (fun _ => True) v ls) (hb : b < B) : Kd.R kRows 22 (W.setCell ⟨b, 0, none⟩ u) B (fun _ => True) v ls := by
  obtain ⟨_, inner, hown, hrep⟩ := h
  refine ⟨fun _ _ => trivial, inner, own_setCell hown (fun e => by have := own_base hown _ e.symm; simp only at this; omega) u, hrep.imp_ (fun y c h => ?_)⟩
  obtain ⟨x, rfl, hR⟩ := h
  exact ⟨x, rfl, rowU_set' hR hb⟩
/-- A row of octets is no row of rows. -/
theorem elemOK {W : World} {B n : Nat} {ok : Nat → Prop} {v x : Value} {inner : List Value} {l : List Int} (hown : W.ownsRow B 22 1 v n inner) (h : Kd.R (Kd.int .u8) 5 W B ok x l) : Kd.R (Kd.int .u8) 5 W B (fun k => True ∧ some k ≠ v.ownBlock) x l := by
  have ho := Kd.own_of_R h
  refine Kd.R_of_own ho (fun k hk => ⟨trivial, fun e => ?_⟩)
  obtain ⟨c1, h1⟩ := own_typed ho k hk
  obtain ⟨c2, h2⟩ := own_typed hown k e.symm
  rw [h1] at h2
  injection h2 with h2
  injection h2 with _ ht _
  exact absurd ht (by decide)
/-- One more row. -/
theorem rows_snoc {W W9 : World} {B : Nat} {v v9 x : Value} {inner : List Value} {ls : List (List Int)} {l : List Int} (hown : W.ownsRow B 22 1 v ls.length inner) (hrep : Reps (kRows.M W B (fun k => True ∧ some k ≠ v.ownBlock)) 1 ls inner) (hx : Kd.R (Kd.int .u8) 5 W B (fun _ => True) x l)
    (hown9 : W9.ownsRow B 22 1 v9 (ls.length + 1) (inner ++ [x])) (hg : W.grownBy W9 v.ownBlock) : Kd.R kRows 22 W9 B (fun _ => True) v9 (ls ++ [l]) := by
  have move : ∀ {ok : Nat → Prop} {y : Value} {m : List Int}, Kd.R (Kd.int .u8) 5 W B ok y m → Kd.R (Kd.int .u8) 5 W9 B ok y m := fun h => by
    cases hv : v.ownBlock with
    | none => rw [hv] at hg; exact rowU_none h hg
    | some g =>
      rw [hv] at hg
      obtain ⟨cells, hc⟩ := own_typed hown g hv
      exact rowU_grown h hg hc
  refine ⟨fun _ _ => trivial, inner ++ [x], by rw [List.length_append]; exact hown9, ?_⟩
  refine Reps.snoc (hrep.imp_ (fun y c h => ?_)) ?_ rfl
  · obtain ⟨z, rfl, hR⟩ := h
    exact ⟨z, rfl, elemOK hown9 (move hR)⟩
  · exact ⟨x, rfl, elemOK hown9 (move hx)⟩
theorem KeepQ.set {Q : Nat → Obj → Prop} {A : World} {p : Addr} {v : Value} (h : ∀ o, A.heap[p.block]? = some o → ¬ Q p.block o) : KeepQ Q A (A.setCell p v) := ⟨by simp, fun k o hk _ hn => by
  by_cases e : k = p.block
  · subst e; exact absurd hn (h o hk)
  · exact (Below.heap_setCell A p v k e).trans hk⟩
theorem KeepQ.grown {Q : Nat → Obj → Prop} {A B : World} {row : Option Nat} (hg : A.grownBy B row) (h : ∀ k o, row = some k → A.heap[k]? = some o → ¬ Q k o) : KeepQ Q A B := ⟨hg.size, fun k o hk _ hn => (hg.block k (Array.getElem?_eq_some_iff.1 hk).1 (fun e => h k o e.symm hk hn)).trans hk⟩
theorem zEnts_len (k : Nat) : ∀ (X : List (List Int)) (i : Nat) (last : List Int) (E : List (Int × List Int × Int)), zEnts k i last X = some E → E.length ≤ X.length
  | [], i, last, E, h => by rw [← Option.some.inj h]; simp
  | x :: X, i, last, E, h => by
    rw [zEnts_cons] at h
    obtain ⟨r, _, h⟩ := Option.bind_eq_some_iff.1 h
    cases r with
    | none => have := zEnts_len k X _ _ _ h; rw [List.length_cons]; omega
    | some e =>
      simp only at h
      split at h
      · rw [← Option.some.inj h]; simp
      · obtain ⟨E', h2, rfl⟩ := Option.map_eq_some_iff.1 h
        have := zEnts_len k X _ _ _ h2
        simp only [List.length_cons]; omega
theorem boxed_set_z {W : World} {k b : Nat} {t : TypeId} {v u : Value} (h : Boxed W k t v) (hn : k ≠ b) : Boxed (W.setCell ⟨b, 0, none⟩ u) k t v := (Below.heap_setCell W ⟨b, 0, none⟩ u k hn).trans h
theorem own_some_z {w : World} {base : Nat} {e : TypeId} {size n : Nat} {v : Value} {xs : List Value} (h : w.ownsRow base e size v (n + 1) xs) : ∃ A c, v = .slice A (n + 1) c := by
  rcases h.2 with ⟨_, h0⟩ | ⟨g, c, _, rfl, _⟩
  · omega
  · exact ⟨_, _, rfl⟩
/-- What the body keeps. -/
def zlQ (n0 B : Nat) (k : Nat) (o : Obj) : Prop := (n0 ≤ k ∧ k < B) ∨ (∃ C f, o = .cells C 5 f) ∨ (∃ C f, o = .cells C 99 f)
theorem zlQ_box {n0 B k : Nat} {C : Array Value} {t : TypeId} {f : Nat × Nat} (h1 : k < n0 ∨ B ≤ k) (h2 : t ≠ 5) (h3 : t ≠ 99) : ¬ zlQ n0 B k (.cells C t f) := fun h => by
  rcases h with h | ⟨C', f', e⟩ | ⟨C', f', e⟩
  · omega
  · injection e with _ e _; exact h2 e
  · injection e with _ e _; exact h3 e
/-- The labels so far. -/
def zlI (w : World) (B : Nat) (pre : List ZItem) (W : World) : Prop := ∃ v : Value, Boxed W (w.heap.size + 3) 36 v ∧ Kd.R kRows 22 W B (fun _ => True) v (labs (pre.map ZItem.pr)) ∧ (∀ e ∈ pre.map ZItem.pr, e.2.2 ≠ 63) ∧
  Boxed W w.heap.size 36 (.slice none 0 0) ∧ Boxed W (w.heap.size + 1) 25 (.int .i64 0) ∧ Boxed W (w.heap.size + 2) 3 (.int .i64 0) ∧ Below w.heap.size w W ∧ B ≤ W.heap.size ∧ pre.length ≤ 2000000
def zlX (w : World) (B : Nat) (c : Code) (xs : List ZItem) (W : World) : Prop := c = .ret ∧ ∃ (pre : List ZItem) (x : ZItem) (v : Value), xs = pre ++ [x] ∧ (∀ e ∈ pre.map ZItem.pr, e.2.2 ≠ 63) ∧ x.2.2.2.2 = 63 ∧
  Boxed W w.heap.size 36 v ∧ Kd.R kRows 22 W B (fun _ => True) v (labs (pre.map ZItem.pr)) ∧ Boxed W (w.heap.size + 1) 25 (.int .i64 63) ∧ Boxed W (w.heap.size + 2) 3 (.int .i64 x.1) ∧ Below w.heap.size w W ∧ B ≤ W.heap.size
theorem rowsK_own {α : Type} {d : Kd α} {e B base : Nat} {T : Nat → Prop} {v : Value} {s : List α} : OwnFrom B (fun (_ : Unit) W => Kd.R d e W base T v s) := fun _ W W' row hs hg hr =>
  Kd.R_mono (Kd.R_grown (Kd.R_bound hs) hg (fun k hk e => by
    obtain ⟨_, o, ho, hc⟩ := hr k e.symm
    obtain ⟨_, _, _, q, _, cells, hcell⟩ := hk
    rw [hcell] at ho
    cases ho
    cases hc)) (fun k hk => hk.1)
/-- The three results, told, and a mark taken. -/
theorem mark_end3 {w W : World} {D : Nat} {v0 v1 v2 : Value} (u0 u1 u2 : Value) (hb : Below w.heap.size w W) (h0 : Boxed W w.heap.size 36 v0) (h1 : Boxed W (w.heap.size + 1) 25 v1) (h2 : Boxed W (w.heap.size + 2) 3 v2) (hD : W.heap[D]? = some (.deferred (some []))) (lD : w.heap.size + 3 ≤ D) :
    (((W.setCell ⟨w.heap.size, 0, none⟩ u0).setCell ⟨w.heap.size + 1, 0, none⟩ u1).setCell ⟨w.heap.size + 2, 0, none⟩ u2).heap[D]? = some (.deferred (some [])) ∧
    (∀ o, ((((W.setCell ⟨w.heap.size, 0, none⟩ u0).setCell ⟨w.heap.size + 1, 0, none⟩ u1).setCell ⟨w.heap.size + 2, 0, none⟩ u2).putObj D o).cell? ⟨w.heap.size, 0, none⟩ = some u0 ∧ ((((W.setCell ⟨w.heap.size, 0, none⟩ u0).setCell ⟨w.heap.size + 1, 0, none⟩ u1).setCell ⟨w.heap.size + 2, 0, none⟩ u2).putObj D o).cell? ⟨w.heap.size + 1, 0, none⟩ = some u1 ∧
      ((((W.setCell ⟨w.heap.size, 0, none⟩ u0).setCell ⟨w.heap.size + 1, 0, none⟩ u1).setCell ⟨w.heap.size + 2, 0, none⟩ u2).putObj D o).cell? ⟨w.heap.size + 2, 0, none⟩ = some u2 ∧ Below w.heap.size w ((((W.setCell ⟨w.heap.size, 0, none⟩ u0).setCell ⟨w.heap.size + 1, 0, none⟩ u1).setCell ⟨w.heap.size + 2, 0, none⟩ u2).putObj D o)) := by
  have hB := ((hb.setCell (p := ⟨w.heap.size, 0, none⟩) (Nat.le_refl _) u0).setCell (p := ⟨w.heap.size + 1, 0, none⟩) (by simp) u1).setCell (p := ⟨w.heap.size + 2, 0, none⟩) (by simp) u2
  have x0 : Boxed (((W.setCell ⟨w.heap.size, 0, none⟩ u0).setCell ⟨w.heap.size + 1, 0, none⟩ u1).setCell ⟨w.heap.size + 2, 0, none⟩ u2) w.heap.size 36 u0 := boxed_set_z (boxed_set_z (Boxed.set u0 h0) (by omega)) (by omega)
  have x1 : Boxed (((W.setCell ⟨w.heap.size, 0, none⟩ u0).setCell ⟨w.heap.size + 1, 0, none⟩ u1).setCell ⟨w.heap.size + 2, 0, none⟩ u2) (w.heap.size + 1) 25 u1 := boxed_set_z (Boxed.set u1 (boxed_set_z h1 (by omega))) (by omega)
  have x2 : Boxed (((W.setCell ⟨w.heap.size, 0, none⟩ u0).setCell ⟨w.heap.size + 1, 0, none⟩ u1).setCell ⟨w.heap.size + 2, 0, none⟩ u2) (w.heap.size + 2) 3 u2 := Boxed.set u2 (boxed_set_z (boxed_set_z h2 (by omega)) (by omega))
  refine ⟨(Below.heap_setCell _ ⟨w.heap.size + 2, 0, none⟩ u2 D (show D ≠ w.heap.size + 2 by omega)).trans ((Below.heap_setCell _ ⟨w.heap.size + 1, 0, none⟩ u1 D (show D ≠ w.heap.size + 1 by omega)).trans ((Below.heap_setCell W ⟨w.heap.size, 0, none⟩ u0 D (show D ≠ w.heap.size by omega)).trans hD)), fun o => ⟨?_, ?_, ?_, hB.grown (grownBy_putObj' _ D o) hB.size (fun k e => by cases e; omega)⟩⟩
  · exact (show Boxed _ w.heap.size _ u0 from (World.putObj_heap_other (show w.heap.size ≠ D by omega)).trans x0).cell
  · exact (show Boxed _ (w.heap.size + 1) _ u1 from (World.putObj_heap_other (show w.heap.size + 1 ≠ D by omega)).trans x1).cell
  · exact (show Boxed _ (w.heap.size + 2) _ u2 from (World.putObj_heap_other (show w.heap.size + 2 ≠ D by omega)).trans x2).cell
theorem zlI_own (w : World) (B B' : Nat) (hB : w.heap.size ≤ B') : OwnFrom B' (zlI w B) := fun s W W' row hs hg hr => by
  obtain ⟨v, h1, h2, h3, h4, h5, h6, h7, h8, h9⟩ := hs
  exact ⟨v, boxed_own (w.heap.size + 3) 36 (fun _ : Unit => v) () W W' row h1 hg (fun r e => (hr r e).2), rowsK_own (B := B') () W W' row h2 hg hr, h3,
    boxed_own w.heap.size 36 (fun _ : Unit => .slice none 0 0) () W W' row h4 hg (fun r e => (hr r e).2), boxed_own (w.heap.size + 1) 25 (fun _ : Unit => .int .i64 0) () W W' row h5 hg (fun r e => (hr r e).2), boxed_own (w.heap.size + 2) 3 (fun _ : Unit => .int .i64 0) () W W' row h6 hg (fun r e => (hr r e).2),
    ownFrom_below (β := Unit) (Nat.le_refl _) hB () W W' row h7 hg hr, Nat.le_trans h8 hg.size, h9⟩
theorem zlX_own (w : World) (B B' : Nat) (hB : w.heap.size ≤ B') (c : Code) : OwnFrom B' (zlX w B c) := fun s W W' row hs hg hr => by
  obtain ⟨h0, pre, x, v, e1, e2, e3, h4, h2, h5, h6, h7, h8⟩ := hs
  exact ⟨h0, pre, x, v, e1, e2, e3, boxed_own w.heap.size 36 (fun _ : Unit => v) () W W' row h4 hg (fun r e => (hr r e).2), rowsK_own (B := B') () W W' row h2 hg hr, boxed_own (w.heap.size + 1) 25 (fun _ : Unit => .int .i64 63) () W W' row h5 hg (fun r e => (hr r e).2), boxed_own (w.heap.size + 2) 3 (fun _ : Unit => .int .i64 x.1) () W W' row h6 hg (fun r e => (hr r e).2),
    ownFrom_below (β := Unit) (Nat.le_refl _) hB () W W' row h7 hg hr, Nat.le_trans h8 hg.size⟩
theorem at_own (B B' : Nat) (x : ZItem) : OwnFrom B' (fun (_ : Unit) W => ZItem.at_ B x W) := fun s W W' row hs hg hr => ⟨fun e => ⟨rowsK_own (B := B') () W W' row (hs.1 e).1 hg hr, (hs.1 e).2⟩, hs.2⟩
theorem zlI_step {w W W9 : World} {n0 B : Nat} {pre : List ZItem} {x : ZItem} {v v9 : Value} {inner : List Value} (hn0 : n0 = w.heap.size + 4) (hnB : n0 ≤ B) (hx0 : x.2.2.2.2 = 0) (hO : Boxed W (w.heap.size + 3) 36 v) (h63 : ∀ e ∈ pre.map ZItem.pr, e.2.2 ≠ 63)
    (hr0 : Boxed W w.heap.size 36 (.slice none 0 0)) (hr1 : Boxed W (w.heap.size + 1) 25 (.int .i64 0)) (hr2 : Boxed W (w.heap.size + 2) 3 (.int .i64 0)) (hb : Below w.heap.size w W) (hsz : B ≤ W.heap.size) (hpl : (pre ++ [x]).length ≤ 2000000)
    {o : Obj} (hown : (W.alloc o).ownsRow B 22 1 v (labs (pre.map ZItem.pr)).length inner) (hrep : Reps (kRows.M (W.alloc o) B (fun k => True ∧ some k ≠ v.ownBlock)) 1 (labs (pre.map ZItem.pr)) inner)
    (hx : Kd.R (Kd.int .u8) 5 (W.alloc o) B (fun _ => True) (.slice x.2.1 x.2.2.2.1.length x.2.2.1) x.2.2.2.1)
    (hown9 : W9.ownsRow B 22 1 v9 ((labs (pre.map ZItem.pr)).length + 1) (inner ++ [.slice x.2.1 x.2.2.2.1.length x.2.2.1])) (hg : (W.alloc o).grownBy W9 v.ownBlock) :
    KeepsFrom B W (W9.setCell ⟨w.heap.size + 3, 0, none⟩ v9) ∧ KeepQ (zlQ n0 B) W (W9.setCell ⟨w.heap.size + 3, 0, none⟩ v9) ∧ zlI w B (pre ++ [x]) (W9.setCell ⟨w.heap.size + 3, 0, none⟩ v9) := by
  have hrow : ∀ k, v.ownBlock = some k → B ≤ k := fun k e => own_base hown k e
  have hne : ∀ j, j < B → some j ≠ v.ownBlock := fun j hj e => by have := hrow _ e.symm; omega
  have hO9 := (hO.alloc o).kept hg (hne _ (by omega))
  have k2 : KeepsOthers (W.alloc o) W9 := KeepsOthers.of_grownBy hg (fun j ob hj hob => by
    obtain ⟨cells, hc⟩ := own_typed hown j hj
    rw [hc] at hob
    injection hob with hob
    rw [← hob]; rfl)
  refine ⟨(((KeepsOthers.alloc W o).trans k2).trans (KeepsOthers.setCell _ _ _)).from _, ?_, v9, Boxed.set _ hO9, ?_, ?_, boxed_set_z ((hr0.alloc o).kept hg (hne _ (by omega))) (by omega), boxed_set_z ((hr1.alloc o).kept hg (hne _ (by omega))) (by omega), boxed_set_z ((hr2.alloc o).kept hg (hne _ (by omega))) (by omega), ?_, ?_, hpl⟩
  · refine KeepQ.trans (KeepQ.of_below ((Below.refl _ W).alloc (Nat.le_refl _) o)) (KeepQ.trans (KeepQ.grown hg (fun k ob e hk => ?_)) (KeepQ.set (fun ob hk => ?_)))
    · obtain ⟨cells, hc⟩ := own_typed hown k e
      rw [hc] at hk
      injection hk with hk
      subst hk
      exact zlQ_box (.inr (hrow k e)) (by decide) (by decide)
    · rw [show W9.heap[w.heap.size + 3]? = _ from hO9] at hk
      injection hk with hk
      subst hk
      exact zlQ_box (.inl (by show w.heap.size + 3 < _; omega)) (by decide) (by decide)
  · rw [List.map_append, show List.map ZItem.pr [x] = [ZItem.pr x] from rfl, labs_snoc, if_pos (show (ZItem.pr x).2.2 = 0 from hx0)]
    exact rows_set (rows_snoc hown hrep hx hown9 hg) (by omega)
  · intro e he
    rw [List.map_append] at he
    rcases List.mem_append.1 he with he | he
    · exact h63 e he
    · rw [List.mem_singleton.1 he]
      show x.2.2.2.2 ≠ 63
      rw [hx0]; decide
  · exact ((hb.alloc (by omega) o).grown hg (by have := hb.size; simp; omega) (fun k e => by have := hrow k e; omega)).setCell (p := ⟨w.heap.size + 3, 0, none⟩) (by simp) _
  · have h1 := hg.size
    simp only [World.size_alloc] at h1
    show _ ≤ (World.setCell _ _ _).heap.size
    simp; omega
set_option maxHeartbeats 8000000 in
set_option maxRecDepth 100000 in
theorem zone_Labels.main (k : Nat) (A : Option Addr) (c : Nat) (L : List Int) (ho : Oct L) (hl : L.length ≤ 1000000) (E : List (Int × List Int × Int)) (hE : zEnts k 0 [] (spl 10 L) = some E) (w : World) (hr : Kd.C (Kd.int .u8) w A L.length L) (hc : L.length ≤ c) :
    Calls Tryd.prog 27 #[.slice A L.length c] w fun e w' => ∃ v, e = .returned (.tuple #[v, .int .i64 (zLab E []).2.1, .int .i64 (zLab E []).2.2]) ∧ Kd.R kRows 22 w' w.heap.size (fun _ => True) v (zLab E []).1 ∧ Below w.heap.size w w' := by
  have hEl : E.length ≤ 1000001 := by
    have h1 := zEnts_len k _ _ _ _ hE
    have h2 := splP_count (fun x => decide (x = (10 : Int))) L
    unfold spl at h1
    omega
  obtain ⟨w4, hw4⟩ : ∃ w4, w4 = (((w.alloc (.cells #[.slice none 0 0] 36)).alloc (.cells #[.int .i64 0] 25)).alloc (.cells #[.int .i64 0] 3)).alloc (.cells #[.slice none 0 0] 36) := ⟨_, rfl⟩
  have hsz4 : w4.heap.size = w.heap.size + 4 := by rw [hw4]; simp
  have hb4 : Below w.heap.size w w4 := by
    rw [hw4]
    exact ((((Below.refl _ w).alloc (Nat.le_refl _) _).alloc (by simp only [World.size_alloc]; omega) _).alloc (by simp only [World.size_alloc]; omega) _).alloc (by simp only [World.size_alloc]; omega) _
  have hx0 : Boxed w4 w.heap.size 36 (.slice none 0 0) := by rw [hw4]; exact (((Boxed.new w _ _).alloc _).alloc _).alloc _
  have hx1 : Boxed w4 (w.heap.size + 1) 25 (.int .i64 0) := by
    have := Boxed.new (w.alloc (.cells #[.slice none 0 0] 36)) 25 (.int .i64 0)
    simp only [World.size_alloc] at this
    rw [hw4]; exact (this.alloc _).alloc _
  have hx2 : Boxed w4 (w.heap.size + 2) 3 (.int .i64 0) := by
    have := Boxed.new ((w.alloc (.cells #[.slice none 0 0] 36)).alloc (.cells #[.int .i64 0] 25)) 3 (.int .i64 0)
    simp only [World.size_alloc] at this
    rw [hw4]; exact this.alloc _
  have hx3 : Boxed w4 (w.heap.size + 3) 36 (.slice none 0 0) := by
    have := Boxed.new (((w.alloc (.cells #[.slice none 0 0] 36)).alloc (.cells #[.int .i64 0] 25)).alloc (.cells #[.int .i64 0] 3)) 36 (.slice none 0 0)
    simp only [World.size_alloc] at this
    rw [hw4]; exact this
  have hcall := zone_Entries.calls A c L ho hl w4 (Kd.C_below hr hb4) hc
  rw [hw4] at hcall
  have HCALL := Aside0.mk hcall
  have HW4 := Aside0.mk hw4
  have HX := Aside0.mk (And.intro hx0 (And.intro hx1 (And.intro hx2 hx3)))
  have HS4 := Aside0.mk hsz4
  have HB4 := Aside0.mk hb4
  have HO := Aside0.mk ho
  have HL := Aside0.mk hl
  have HE := Aside0.mk hE
  have HEL := Aside0.mk hEl
  clear hcall hw4 hx0 hx1 hx2 hx3 hsz4 hb4 ho hl hE hr hc hEl
  refine (callsIn_wide (n := 20)).1 ?_
  refine callsIn_of_wp_marks Tryd.func27 rfl trivial ?_ rfl
  simp only [Tryd.ntmps27, List.size_toArray, List.length_cons, List.length_nil, Nat.reduceAdd, Nat.reduceSub, Array.replicate_succ, Array.replicate_zero, List.push_toArray, List.append_toArray, List.nil_append, List.cons_append]
  refine wpIn_wide.2 ?_
  go_wp2_with (go_at_call 57; refine HCALL.out.mono ?_; rw [← HW4.out]; rintro e w5 ⟨g, gb, rfl, hg0, hgb0, hV, hgb, hb⟩; have HG := Aside0.mk (And.intro hg0 hgb0); have HV := Aside0.mk hV; have HGB := Aside0.mk hgb; have HB := Aside0.mk hb; clear hg0 hgb0 hV hgb hb)
  have hs5 := HB.out.size
  have hs4 := HS4.out
  have hst := zone_Entries.stops k L HO.out HL.out E HE.out g gb w4.heap.size w5 (zlQ w4.heap.size w5.heap.size) HG.out.2 (fun j o h1 h2 => .inl ⟨h1, h2⟩) (fun j C f => .inr (.inl ⟨C, f, rfl⟩)) (fun j C f => .inr (.inr ⟨C, f, rfl⟩)) HV.out HGB.out 19 (by omega)
  have hI0 : zlI w w5.heap.size [] w5 := ⟨_, (HB.out.block _ HX.out.2.2.2.lt).trans HX.out.2.2.2, Kd.R_nil _ _ _ _ _, (fun e he => by cases he), (HB.out.block _ HX.out.1.lt).trans HX.out.1, (HB.out.block _ HX.out.2.1.lt).trans HX.out.2.1, (HB.out.block _ HX.out.2.2.1.lt).trans HX.out.2.2.1, HB4.out.trans (HB.out.mono HB4.out.size), Nat.le_refl _, by simp⟩
  have hw5 : w.heap.size ≤ w5.heap.size := by omega
  have HST := Aside0.mk hst
  have HI0 := Aside0.mk hI0
  have HW5 := Aside0.mk hw5
  have HS5 : Aside0 (w4.heap.size = w.heap.size + 4 ∧ w4.heap.size ≤ w5.heap.size) := ⟨hs4, hs5⟩
  clear hst hI0 hw5 hs4 hs5 HCALL HX HV HGB
  refine (wpIn_wide (n := 20)).1 ?_
  refine wpIn_range_as rfl (by omega) (gf := 81) (lb := #[.pointer (some ⟨gb, 0, none⟩)]) rfl trivial (enters_of Tryd.func81 (by kernel_rfl) rfl)
    HST.out KeepQ.trans keepQ_put (Below.refl _ _) (fun _ => rfl)
    (zlI w w5.heap.size) (zlX w w5.heap.size) (zlI_own w _ _ HW5.out) (fun c => zlX_own w _ _ HW5.out c) HI0.out
    (fun pre x a1 W => (∃ vb, a1 = { tmps := #[Value.slice A L.length c, undef, Value.pointer (some ⟨w.heap.size, 0, none⟩), Value.pointer (some ⟨w.heap.size + 1, 0, none⟩), Value.pointer (some ⟨w.heap.size + 2, 0, none⟩), Value.pointer (some ⟨w.heap.size + 3, 0, none⟩), Value.pointer (some ⟨vb, 0, none⟩), Value.slice A L.length c, Value.func (Fn.func 81) #[] #[Value.pointer (some ⟨gb, 0, none⟩)], Value.agg #[.int .i64 x.1, .slice x.2.1 x.2.2.2.1.length x.2.2.1, .int .i64 x.2.2.2.2], undef, undef, undef, undef, undef, undef, undef, undef, undef, undef, undef, undef, undef, undef, undef, undef, undef], defers := [] } ∧ w5.heap.size ≤ vb ∧ E3 W vb (.int .i64 x.1) (.slice x.2.1 x.2.2.2.1.length x.2.2.1) (.int .i64 x.2.2.2.2)) ∧ ZItem.at_ w5.heap.size x W ∧ zlI w w5.heap.size pre W)
    (fun pre x a1 s W W' row hs hg hr => by
      obtain ⟨⟨vb, h1, h2, h3⟩, h4, h5⟩ := hs
      refine ⟨⟨vb, h1, h2, (hg.block vb h3.lt (fun e => ?_)).trans h3⟩, at_own w5.heap.size w5.heap.size x () W W' row h4 hg hr, zlI_own w _ _ HW5.out pre W W' row h5 hg hr⟩
      obtain ⟨_, o, ho, hc⟩ := hr vb e.symm
      rw [show W.heap[vb]? = _ from h3] at ho
      cases ho
      cases hc) ?assign ?body ?done ?stop
  case assign =>
    rintro l pre x W K hI hat hK
    have HI := Aside0.mk hI
    have HK := Aside0.mk hK
    have HAT := Aside0.mk hat
    clear hI hK hat
    simp only [ZItem.enc]
    gi_wp2
    have hsz := HI.out
    obtain ⟨v, -, -, -, -, -, -, -, hsz, -⟩ := hsz
    have hb1 : Below W.heap.size W (W.alloc (.cells #[.int .i64 x.1, .slice x.2.1 x.2.2.2.1.length x.2.2.1, .int .i64 x.2.2.2.2] 99)) := (Below.refl _ W).alloc (Nat.le_refl _) _
    refine HK.out _ _ ((KeepsOthers.alloc W _).from _) (KeepQ.of_below hb1) ⟨⟨W.heap.size, rfl, hsz, heap_alloc_new W _⟩, at_own w5.heap.size w5.heap.size x () W _ none HAT.out (World.grownBy_alloc W _ none) (fun r e => by cases e), zlI_own w _ w5.heap.size HW5.out pre W _ none HI.out (World.grownBy_alloc W _ none) (fun r e => by cases e)⟩
  case body =>
    rintro l' pre x a1 W ⟨⟨vb, rfl, hvl, hvb⟩, hat, v, hO, hR, h63, hr0, hr1, hr2, hb, hsz, hpl⟩ hsp
    obtain ⟨x1, xA, xc, xb, xe⟩ := x
    have hpl2 : (pre ++ [((x1, xA, xc, xb, xe) : ZItem)]).length ≤ 2000000 := by
      have h1 := hsp.length_le
      rw [List.length_map] at h1
      have := HEL.out
      omega
    obtain ⟨y0, y1, y2⟩ := hvb.cells
    have hcO := hO.cell
    have hfO := hO.frozen
    have HO5 := Aside0.mk hO
    have HR5 := Aside0.mk hR
    have H63 := Aside0.mk h63
    have HX0 := Aside0.mk hr0
    have HX1 := Aside0.mk hr1
    have HX2 := Aside0.mk hr2
    have HBB := Aside0.mk hb
    have HSZ := Aside0.mk hsz
    have HPL := Aside0.mk hpl2
    have HAT := Aside0.mk hat
    have HVB := Aside0.mk (And.intro hvl hvb)
    clear hvl hvb hat hO hR h63 hr0 hr1 hr2 hb hsz hpl hpl2 hsp HST HI0
    by_cases e0 : xe = 0
    · subst e0
      obtain ⟨hx, hxn⟩ := HAT.out.1 rfl
      have hW1 : Below W.heap.size W (W.alloc (.cells #[.slice xA xb.length xc] 22)) := (Below.refl _ W).alloc (Nat.le_refl _) _
      obtain ⟨-, inner, hown, hrep⟩ := Kd.R_below HR5.out hW1
      obtain ⟨A5, c5, hv5⟩ := Kd.R_slice HR5.out
      subst hv5
      have HX9 := Aside0.mk (Kd.R_below hx hW1)
      have HOWN := Aside0.mk hown
      have HREP := Aside0.mk hrep
      obtain ⟨i0, hi0, hii⟩ := Option.map_eq_some_iff.1 info22
      simp only [Prod.mk.injEq] at hii
      have hnc : ∀ j u, ([.slice xA xb.length xc] : List Value)[j]? = some u → (W.alloc (.cells #[.slice xA xb.length xc] 22)).cell? ((⟨W.heap.size, 0, none⟩ : Addr).add j) = some u := fun j u hj => by
        rw [Addr.add_lit]; simp only [World.cell?]; rw [World.alloc_heap_new]; simpa using hj
      have hll : (labs (pre.map ZItem.pr)).length ≤ 2000000 := by
        have h1 : (labs (pre.map ZItem.pr)).length ≤ (pre.map ZItem.pr).length := by unfold labs; rw [List.length_map]; exact List.length_filter_le _ _
        have h2 := HPL.out
        rw [List.length_map] at h1
        rw [List.length_append] at h2
        omega
      have HLL := Aside0.mk hll
      clear hx hxn hW1 hown hrep hll
      gi_wp2_with (gi_at_builtin; refine wpListIn_append_own _ rfl _ _ 36 rfl w5.heap.size 22 i0 _ 1 24 Tryd.underlying36 hi0 hii.1 hii.2.1 hii.2.2 rfl (by omega) _ (labs (pre.map ZItem.pr)).length inner rfl HOWN.out ⟨W.heap.size, 0, none⟩ 1 1 [.slice xA xb.length xc] rfl rfl hnc (by simp [Value.oneCell']) (by simp only [maxLen]; have := HLL.out; omega) (by have := HLL.out; omega) (by simp; have := HSZ.out; omega) ?_; (intro v9 W9 ho9 hg9 _; have hb9 := (HO5.out.alloc (.cells #[.slice xA xb.length xc] 22)).kept hg9 (fun e => by have := own_base HOWN.out _ e.symm; have := HS5.out; omega); have hc9 := hb9.cell; have hf9 := hb9.frozen; obtain ⟨A7, c7, rfl⟩ := own_some_z ho9; have HO9 := Aside0.mk ho9; have HG9 := Aside0.mk hg9; clear ho9 hg9 hb9 hcO hfO hnc hii hi0))
      obtain ⟨z1, z2, z3⟩ := zlI_step (x := (x1, xA, xc, xb, 0)) HS5.out.1 HS5.out.2 rfl HO5.out H63.out HX0.out HX1.out HX2.out HBB.out HSZ.out HPL.out HOWN.out HREP.out HX9.out HO9.out HG9.out
      exact ⟨z1, z2, z3⟩
    · have f0 : (xe == 0) = false := beq_eq_false_iff_ne.mpr e0
      by_cases e63 : xe = 63
      · subst e63
        have hq0 := HX0.out.cell
        have hq1 := HX0.out.frozen
        have hq2 := HX1.out.cell
        have hq3 := HX1.out.frozen
        have hq4 := HX2.out.cell
        have hq5 := HX2.out.frozen
        obtain ⟨A5, c5, hv5⟩ := Kd.R_slice HR5.out
        subst hv5
        clear e0 f0
        gi_wp2
        clear hcO hfO y0 y1 y2 hq0 hq1 hq2 hq3 hq4 hq5
        have hB := HBB.out.size
        have h5 := HS5.out
        have hvb := HVB.out.1
        have hn0 : ∀ (V : World) (b : Nat) (u : Value) (p : Addr), p.block ≠ b → (V.setCell ⟨b, 0, none⟩ u).cell? p = V.cell? p := fun V b u p h => World.cell?_of_block (Below.heap_setCell V ⟨b, 0, none⟩ u p.block h)
        have hS : (fun w' : World => w'.cell? ⟨w.heap.size + 3, 0, none⟩ = some (.slice A5 (labs (pre.map ZItem.pr)).length c5) ∧ w'.cell? ⟨vb, 0, none⟩ = some (.int .i64 x1) ∧ w'.cell? ⟨vb, 2, none⟩ = some (.int .i64 63)) W.drew := ⟨HO5.out.cell, HVB.out.2.cells.1, HVB.out.2.cells.2.2⟩
        have hS1 : (fun w' : World => w'.cell? ⟨w.heap.size + 3, 0, none⟩ = some (.slice A5 (labs (pre.map ZItem.pr)).length c5) ∧ w'.cell? ⟨vb, 0, none⟩ = some (.int .i64 x1) ∧ w'.cell? ⟨vb, 2, none⟩ = some (.int .i64 63)) ((W.setCell ⟨w.heap.size, 0, none⟩ (.slice A5 (labs (pre.map ZItem.pr)).length c5)).drew) := ⟨(hn0 _ _ _ _ (by show w.heap.size + 3 ≠ _; omega)).trans hS.1, (hn0 _ _ _ _ (by show vb ≠ _; omega)).trans hS.2.1, (hn0 _ _ _ _ (by show vb ≠ _; omega)).trans hS.2.2⟩
        have hS2 : (fun w' : World => w'.cell? ⟨w.heap.size + 3, 0, none⟩ = some (.slice A5 (labs (pre.map ZItem.pr)).length c5) ∧ w'.cell? ⟨vb, 0, none⟩ = some (.int .i64 x1) ∧ w'.cell? ⟨vb, 2, none⟩ = some (.int .i64 63)) (((W.setCell ⟨w.heap.size, 0, none⟩ (.slice A5 (labs (pre.map ZItem.pr)).length c5)).setCell ⟨w.heap.size + 1, 0, none⟩ (.int .i64 63)).drew) := ⟨(hn0 _ _ _ _ (by show w.heap.size + 3 ≠ _; omega)).trans hS1.1, (hn0 _ _ _ _ (by show vb ≠ _; omega)).trans hS1.2.1, (hn0 _ _ _ _ (by show vb ≠ _; omega)).trans hS1.2.2⟩
        have hS3 : (fun w' : World => w'.cell? ⟨w.heap.size + 3, 0, none⟩ = some (.slice A5 (labs (pre.map ZItem.pr)).length c5) ∧ w'.cell? ⟨vb, 0, none⟩ = some (.int .i64 x1) ∧ w'.cell? ⟨vb, 2, none⟩ = some (.int .i64 63)) ((((W.setCell ⟨w.heap.size, 0, none⟩ (.slice A5 (labs (pre.map ZItem.pr)).length c5)).setCell ⟨w.heap.size + 1, 0, none⟩ (.int .i64 63)).setCell ⟨w.heap.size + 2, 0, none⟩ (.int .i64 x1)).drew) := ⟨(hn0 _ _ _ _ (by show w.heap.size + 3 ≠ _; omega)).trans hS2.1, (hn0 _ _ _ _ (by show vb ≠ _; omega)).trans hS2.2.1, (hn0 _ _ _ _ (by show vb ≠ _; omega)).trans hS2.2.2⟩
        have bx0 : Boxed W.drew w.heap.size 36 (.slice none 0 0) := HX0.out
        have bx1 : Boxed ((W.setCell ⟨w.heap.size, 0, none⟩ (.slice A5 (labs (pre.map ZItem.pr)).length c5)).drew) (w.heap.size + 1) 25 (.int .i64 0) := boxed_set_z HX1.out (by omega)
        have bx2 : Boxed (((W.setCell ⟨w.heap.size, 0, none⟩ (.slice A5 (labs (pre.map ZItem.pr)).length c5)).setCell ⟨w.heap.size + 1, 0, none⟩ (.int .i64 63)).drew) (w.heap.size + 2) 3 (.int .i64 0) := boxed_set_z (boxed_set_z HX2.out (by omega)) (by omega)
        have g0 := bx0.cell
        have g1 := bx0.frozen
        have g2 := bx1.cell
        have g3 := bx1.frozen
        have g4 := bx2.cell
        have g5 := bx2.frozen
        refine wpIn_region_round_held (fun w' : World => w'.cell? ⟨w.heap.size + 3, 0, none⟩ = some (.slice A5 (labs (pre.map ZItem.pr)).length c5) ∧ w'.cell? ⟨vb, 0, none⟩ = some (.int .i64 x1) ∧ w'.cell? ⟨vb, 2, none⟩ = some (.int .i64 63)) (by kernel_rfl) (by kernel_rfl) ?_
        show wpAnyH _ _ _ _ _ _ _ _ W.drew
        refine wpAnyH_take (i := 0) (v := .slice A5 (labs (pre.map ZItem.pr)).length c5) rfl (by kernel_rfl) (by kernel_rfl) (by kernel_rfl) (fun _ _ _ h => h) (.inl ⟨by kernel_rfl, fun w' hS => by obtain ⟨q_1, q_2, q_3⟩ := hS; first | (go_simp; done) | (go_simp; simp [*]; done)⟩) hS ?_
        try simp only [List.getElem_toArray, List.getElem_cons_succ, List.getElem_cons_zero, Act.put, List.setIfInBounds_toArray, List.set_cons_zero, List.set_cons_succ]
        refine wpAnyH_take (i := 1) (v := .pointer (some ⟨vb, 2, none⟩)) rfl (by kernel_rfl) (by kernel_rfl) (by kernel_rfl) (fun _ _ _ h => h) (.inl ⟨by kernel_rfl, fun w' hS => by obtain ⟨q_1, q_2, q_3⟩ := hS; first | (go_simp; done) | (go_simp; simp [*]; done)⟩) hS ?_
        try simp only [List.getElem_toArray, List.getElem_cons_succ, List.getElem_cons_zero, Act.put, List.setIfInBounds_toArray, List.set_cons_zero, List.set_cons_succ]
        refine wpAnyH_take (i := 2) (v := .int .i64 63) rfl (by kernel_rfl) (by kernel_rfl) (by kernel_rfl) (fun _ _ _ h => h) (.inl ⟨by kernel_rfl, fun w' hS => by obtain ⟨q_1, q_2, q_3⟩ := hS; first | (go_simp; done) | (go_simp; simp [*]; done)⟩) hS ?_
        try simp only [List.getElem_toArray, List.getElem_cons_succ, List.getElem_cons_zero, Act.put, List.setIfInBounds_toArray, List.set_cons_zero, List.set_cons_succ]
        refine wpAnyH_take (i := 3) (v := .pointer (some ⟨vb, 0, none⟩)) rfl (by kernel_rfl) (by kernel_rfl) (by kernel_rfl) (fun _ _ _ h => h) (.inl ⟨by kernel_rfl, fun w' hS => by obtain ⟨q_1, q_2, q_3⟩ := hS; first | (go_simp; done) | (go_simp; simp [*]; done)⟩) hS ?_
        try simp only [List.getElem_toArray, List.getElem_cons_succ, List.getElem_cons_zero, Act.put, List.setIfInBounds_toArray, List.set_cons_zero, List.set_cons_succ]
        refine wpAnyH_take (i := 4) (v := .int .i64 x1) rfl (by kernel_rfl) (by kernel_rfl) (by kernel_rfl) (fun _ _ _ h => h) (.inl ⟨by kernel_rfl, fun w' hS => by obtain ⟨q_1, q_2, q_3⟩ := hS; first | (go_simp; done) | (go_simp; simp [*]; done)⟩) hS ?_
        try simp only [List.getElem_toArray, List.getElem_cons_succ, List.getElem_cons_zero, Act.put, List.setIfInBounds_toArray, List.set_cons_zero, List.set_cons_succ]
        refine wpAnyH_ready (rs := [5]) (by kernel_rfl) (by simp) (AllReadyH.cons rfl (fun K' hK => ?_) AllReadyH.nil)
        rw [if_pos (by kernel_rfl)]
        go_simp
        refine hK.out _ _ hS1 (fun _ => ?_)
        clear hK
        try simp only [List.getElem_toArray, List.getElem_cons_succ, List.getElem_cons_zero, Act.put, List.setIfInBounds_toArray, List.set_cons_zero, List.set_cons_succ]
        refine wpAnyH_ready (rs := [6]) (by kernel_rfl) (by simp) (AllReadyH.cons rfl (fun K' hK => ?_) AllReadyH.nil)
        rw [if_pos (by kernel_rfl)]
        go_simp
        refine hK.out _ _ hS2 (fun _ => ?_)
        clear hK
        try simp only [List.getElem_toArray, List.getElem_cons_succ, List.getElem_cons_zero, Act.put, List.setIfInBounds_toArray, List.set_cons_zero, List.set_cons_succ]
        refine wpAnyH_ready (rs := [7]) (by kernel_rfl) (by simp) (AllReadyH.cons rfl (fun K' hK => ?_) AllReadyH.nil)
        rw [if_pos (by kernel_rfl)]
        go_simp
        refine hK.out _ _ hS3 (fun _ => ?_)
        clear hK
        try simp only [List.getElem_toArray, List.getElem_cons_succ, List.getElem_cons_zero, Act.put, List.setIfInBounds_toArray, List.set_cons_zero, List.set_cons_succ]
        refine wpAnyH_done (by kernel_rfl) ?_ _
        refine NoPanic.normal ?_
        gi_wp2
        refine ⟨(((KeepsOthers.drew W).trans ((KeepsOthers.setCell _ _ _).trans (KeepsOthers.setCell _ _ _))).trans (KeepsOthers.setCell _ _ _)).from _, rfl, pre, (x1, xA, xc, xb, 63), .slice A5 (labs (pre.map ZItem.pr)).length c5, rfl, H63.out, rfl, ?_, ?_, ?_, ?_, ?_, ?_⟩
        · exact boxed_set_z (boxed_set_z (Boxed.set _ bx0) (by omega)) (by omega)
        · exact Kd.R_drew (rows_set (rows_set (rows_set HR5.out (by omega)) (by omega)) (by omega))
        · exact boxed_set_z (Boxed.set _ bx1) (by omega)
        · exact Boxed.set _ bx2
        · exact (((below_drew HBB.out).setCell (p := ⟨w.heap.size, 0, none⟩) (Nat.le_refl _) _).setCell (p := ⟨w.heap.size + 1, 0, none⟩) (by simp) _).setCell (p := ⟨w.heap.size + 2, 0, none⟩) (by simp) _
        · have h1 := HSZ.out
          show _ ≤ (World.setCell (World.setCell (World.setCell _ _ _) _ _) _ _).heap.size
          simp; exact h1
      · have f1 : (xe == 63) = false := beq_eq_false_iff_ne.mpr e63
        have HNX : Aside0 (xe ≠ 0 ∧ xe ≠ 63) := ⟨e0, e63⟩
        clear e0 e63
        gi_wp2
        refine ⟨KeepsFrom.refl _ _, KeepQ.refl _ _, _, HO5.out, ?_, ?_, HX0.out, HX1.out, HX2.out, HBB.out, HSZ.out, HPL.out⟩
        · rw [List.map_append, show List.map ZItem.pr [((x1, xA, xc, xb, xe) : ZItem)] = [ZItem.pr (x1, xA, xc, xb, xe)] from rfl, labs_snoc, if_neg (show ¬ (ZItem.pr (x1, xA, xc, xb, xe)).2.2 = 0 from HNX.out.1), List.append_nil]
          exact HR5.out
        · intro e he
          rw [List.map_append] at he
          rcases List.mem_append.1 he with he | he
          · exact H63.out e he
          · rw [List.mem_singleton.1 he]; exact HNX.out.2
  case done =>
    rintro D ys W hD hys ⟨v, hO, hR, h63, hr0, hr1, hr2, hb, hsz, hpl⟩ hK
    have hz : zLab E [] = (labs (ys.map ZItem.pr), 0, 0) := by
      have := zLab_pre (ys.map ZItem.pr) [] [] h63
      rw [List.append_nil, List.nil_append, hys] at this
      rw [hys, this]; rfl
    have hcO := hO.cell
    have hc0 := hr0.cell
    have hf0 := hr0.frozen
    have hc1 := hr1.cell
    have hf1 := hr1.frozen
    have hc2 := hr2.cell
    have hf2 := hr2.frozen
    have hq1 : ∀ u, (W.setCell ⟨w.heap.size, 0, none⟩ u).cell? ⟨w.heap.size + 1, 0, none⟩ = some (.int .i64 0) ∧ (W.setCell ⟨w.heap.size, 0, none⟩ u).frozen? ⟨w.heap.size + 1, 0, none⟩ = false := fun u => by
      have h := boxed_set_z (b := w.heap.size) (u := u) hr1 (by omega)
      exact ⟨h.cell, h.frozen⟩
    have hq2 : ∀ u u', ((W.setCell ⟨w.heap.size, 0, none⟩ u).setCell ⟨w.heap.size + 1, 0, none⟩ u').cell? ⟨w.heap.size + 2, 0, none⟩ = some (.int .i64 0) ∧ ((W.setCell ⟨w.heap.size, 0, none⟩ u).setCell ⟨w.heap.size + 1, 0, none⟩ u').frozen? ⟨w.heap.size + 2, 0, none⟩ = false := fun u u' => by
      have h := boxed_set_z (b := w.heap.size + 1) (u := u') (boxed_set_z (b := w.heap.size) (u := u) hr2 (by omega)) (by omega)
      exact ⟨h.cell, h.frozen⟩
    obtain ⟨A5, c5, hv5⟩ := Kd.R_slice hR
    subst hv5
    have HR5 := Aside0.mk hR
    have HX0 := Aside0.mk hr0
    have HX1 := Aside0.mk hr1
    have HX2 := Aside0.mk hr2
    have HBB := Aside0.mk hb
    have HK := Aside0.mk hK
    have HZ := Aside0.mk hz
    have HD := Aside0.mk hD
    clear hO hR h63 hr0 hr1 hr2 hb hsz hpl hK hz hD hys HST HI0
    go_wp2
    have h5 := HS5.out
    have hd := HD.out
    obtain ⟨m1, m2⟩ := mark_end3 (.slice A5 (labs (ys.map ZItem.pr)).length c5) (.int .i64 0) (.int .i64 0) HBB.out HX0.out HX1.out HX2.out HK.out (by omega)
    refine ⟨by simp, .inl ⟨_, _, rfl, run_takeDeferred m1, ?_⟩⟩
    have m3 := fun o => (m2 o).1
    have m4 := fun o => (m2 o).2.1
    have m5 := fun o => (m2 o).2.2.1
    refine ⟨.tuple #[.slice A5 (labs (ys.map ZItem.pr)).length c5, .int .i64 0, .int .i64 0], by simp [results, Tryd.results27, go_sem, m3, m4, m5], _, by rw [HZ.out], ?_, (m2 _).2.2.2⟩
    rw [HZ.out]
    exact Kd.R_lower (rowsK_own (B := w5.heap.size) () _ _ (some D) (rows_set (rows_set (rows_set HR5.out (by omega)) (by omega)) (by omega)) (grownBy_putObj' _ D _) (fun r e => by cases e; exact ⟨by omega, _, m1, rfl⟩)) (by omega)
  case stop =>
    rintro D c' xs W hD hSp ⟨rfl, pre, x, v, rfl, h63, hx63, hr0, hR, hr1, hr2, hb, hsz⟩ hK
    have hz : zLab E [] = (labs (pre.map ZItem.pr), 63, x.1) := by
      obtain ⟨r, hr⟩ := hSp
      rw [← hr, List.map_append, List.append_assoc, zLab_pre _ _ _ h63, List.nil_append]
      show zLab (ZItem.pr x :: ([] ++ r)) _ = _
      unfold zLab
      rw [if_neg (by show ¬ x.2.2.2.2 = 0; rw [hx63]; decide), if_pos (by exact hx63)]
      rfl
    have hc0 := hr0.cell
    have hc1 := hr1.cell
    have hc2 := hr2.cell
    obtain ⟨A5, c5, hv5⟩ := Kd.R_slice hR
    subst hv5
    have HR5 := Aside0.mk hR
    have HX0 := Aside0.mk hr0
    have HX1 := Aside0.mk hr1
    have HX2 := Aside0.mk hr2
    have HBB := Aside0.mk hb
    have HK := Aside0.mk hK
    have HZ := Aside0.mk hz
    have HD := Aside0.mk hD
    clear hSp h63 hr0 hr1 hr2 hb hsz hK hz hD hR HST HI0
    refine wpIn_wide.2 ?_
    go_wp2
    have h5 := HS5.out
    have hd := HD.out
    refine ⟨by simp, .inl ⟨_, _, rfl, run_takeDeferred HK.out, ?_⟩⟩
    have m3 : ∀ o, (W.putObj D o).cell? ⟨w.heap.size, 0, none⟩ = some (.slice A5 (labs (pre.map ZItem.pr)).length c5) := fun o => (show Boxed (W.putObj D o) w.heap.size _ _ from (World.putObj_heap_other (show w.heap.size ≠ D by omega)).trans HX0.out).cell
    have m4 : ∀ o, (W.putObj D o).cell? ⟨w.heap.size + 1, 0, none⟩ = some (.int .i64 63) := fun o => (show Boxed (W.putObj D o) (w.heap.size + 1) _ _ from (World.putObj_heap_other (show w.heap.size + 1 ≠ D by omega)).trans HX1.out).cell
    have m5 : ∀ o, (W.putObj D o).cell? ⟨w.heap.size + 2, 0, none⟩ = some (.int .i64 x.1) := fun o => (show Boxed (W.putObj D o) (w.heap.size + 2) _ _ from (World.putObj_heap_other (show w.heap.size + 2 ≠ D by omega)).trans HX2.out).cell
    refine ⟨.tuple #[.slice A5 (labs (pre.map ZItem.pr)).length c5, .int .i64 63, .int .i64 x.1], by simp [results, Tryd.results27, go_sem, m3, m4, m5], _, by rw [HZ.out], ?_, HBB.out.grown (grownBy_putObj' _ D _) HBB.out.size (fun k e => by cases e; omega)⟩
    rw [HZ.out]
    exact Kd.R_lower (rowsK_own (B := w5.heap.size) () _ _ (some D) HR5.out (grownBy_putObj' _ D _) (fun r e => by cases e; exact ⟨by omega, _, HK.out, rfl⟩)) (by omega)
end Go.Proofs.YtdnfmilnkoocdaaDoor.Q

-- from Hzla
/- zone.Labels: the contract as the printed walks take it. -/
namespace Go.Proofs.YtdnfmilnkoocdaaDoor.Q
open Go.RowKit Go.Shelf Go.Proofs.YtdnfmilnkoocdaaDoorW.PrintWords Go.Proofs.YtdnfmilnkoocdaaDoorW.PrintLast Go.Proofs.YtdnfmilnkoocdaaDoorW.PrintMore Go.Proofs.YtdnfmilnkoocdaaDoor.K
set_option linter.unusedVariables false
set_option linter.unusedSimpArgs false

theorem LeO.some_of {α : Type} {a b : Option α} (h : ∀ r, a = some r → b = some r) : LeO a b := h
theorem zEnt_mono (k : Nat) (i : Int) (x last : List Int) : LeO (zEnt k i x last) (zEnt (k + 1) i x last) := by
  unfold zEnt
  refine LeO.bind (owner_Of.mono _ _) (fun t => ?_)
  refine LeO.ite ?_ (LeO.refl _)
  exact LeO.bind (ldh_Lower.mono _ _) (fun b => LeO.refl _)
theorem zEnts_mono (k : Nat) : ∀ (X : List (List Int)) (i : Nat) (last : List Int), LeO (zEnts k i last X) (zEnts (k + 1) i last X)
  | [], i, last => LeO.refl _
  | x :: X, i, last => by
    rw [zEnts_cons, zEnts_cons]
    refine LeO.bind (zEnt_mono k _ x last) (fun r => ?_)
    cases r with
    | none => exact zEnts_mono k X _ _
    | some e =>
      simp only
      refine LeO.ite (LeO.refl _) ?_
      intro r hr
      obtain ⟨E, h1, h2⟩ := Option.map_eq_some_iff.1 hr
      exact Option.map_eq_some_iff.2 ⟨E, zEnts_mono k X _ _ _ h1, h2⟩
theorem zone_Labels.mono : ∀ a0 k, LeO (zone_Labels.f k a0) (zone_Labels.f (k + 1) a0) := by
  intro a0 k
  unfold zone_Labels.f
  refine LeO.ite ?_ (LeO.refl _)
  intro r hr
  obtain ⟨E, h1, h2⟩ := Option.map_eq_some_iff.1 hr
  exact Option.map_eq_some_iff.2 ⟨E, zEnts_mono k _ _ _ _ h1, h2⟩
theorem zone_Labels.calls (k : Nat) (A0 : Option Addr) (c0 : Nat) (l0 : List Int) (r1 : List (List Int)) (r2 : Int) (r3 : Int) (w : World) (hr0 : Kd.C (Kd.int .u8) w A0 l0.length l0) (hc0 : l0.length ≤ c0) (h : zone_Labels.f k l0 = some (r1, r2, r3)) :
    Calls Tryd.prog 27 #[.slice A0 l0.length c0] w fun e w' => ∃ v0_ : Value, e = .returned (.tuple #[v0_, .int .i64 r2, .int .i64 r3]) ∧ Kd.R (Kd.slice 5 (Kd.int .u8)) 22 w' w.heap.size (fun _ => True) v0_ r1 ∧ Below w.heap.size w w' := by
  unfold zone_Labels.f at h
  by_cases c : l0.length ≤ 1000000 ∧ l0.all (fun x => decide (0 ≤ x ∧ x ≤ 255)) = true
  · rw [if_pos c] at h
    obtain ⟨E, h1, h2⟩ := Option.map_eq_some_iff.1 h
    have ho : Oct l0 := fun x hx => of_decide_eq_true (List.all_eq_true.1 c.2 x hx)
    refine (zone_Labels.main k A0 c0 l0 ho c.1 E h1 w hr0 hc0).mono ?_
    rintro e w' ⟨v, rfl, hR, hb⟩
    rw [h2] at hR
    refine ⟨v, ?_, hR, hb⟩
    rw [h2]
  · rw [if_neg c] at h
    cases h
end Go.Proofs.YtdnfmilnkoocdaaDoor.Q

-- from Qf26
-- Made by hp.py, a program of this session, with the kit's printer. Not trusted: Lean checks it.
namespace Go.Proofs.YtdnfmilnkoocdaaDoor.Q
open Go.RowKit Go.Proofs.YtdnfmilnkoocdaaDoorW.PrintWords Go.Proofs.YtdnfmilnkoocdaaDoorW.PrintLast Go.Proofs.YtdnfmilnkoocdaaDoorW.PrintMore
attribute [local go_sem] max2_int min2_int max_two min_two max_three min_three max_four min_four   -- for this text's walks alone
set_option linter.unusedVariables false
set_option linter.unusedSimpArgs false

/-! ### paronymlaw27_awake: function 26 -/
def paronymlaw27_awake.f (k : Nat)  : Option (Bool) := (bytesLit.f ([98, 46, 32, 73, 78, 32, 65, 10, 97, 46, 32, 73, 78, 32, 65, 10] : List Int)).bind fun t101 => ((zone_Labels.f k t101).bind fun bt104 => ((bytesLit.f ([97, 46, 32, 73, 78, 32, 65, 10, 65, 46, 32, 73, 78, 32, 65, 10, 98, 46, 32, 73, 78, 32, 65] : List Int)).bind fun t109 => ((zone_Labels.f k t109).bind fun bt112 => (if (bt104.1.length : Int) = 1 then (if bt104.2.1 = 63 then (if bt104.2.2 = 2 then (if bt112.2.1 = 0 then ((paronymref26_Texts.f k bt112.1).bind fun t117 => ((paronymref02_Same.f k t117 (([(⟨#[97]⟩ : ByteArray), (⟨#[98]⟩ : ByteArray)] : List ByteArray))).bind fun t123 => (some t123))) else (some false)) else (some false)) else (some false)) else (some false)))))
theorem paronymlaw27_awake.mono : ∀ k, LeO (paronymlaw27_awake.f k ) (paronymlaw27_awake.f (k + 1) ) := by
 intro  k
 unfold paronymlaw27_awake.f
 repeat' first
   | (with_reducible exact paronymref02_Same.mono _ _ _)
   | (with_reducible exact paronymref26_Texts.mono _ _)
   | (with_reducible exact zone_Labels.mono _ _)
   | (with_reducible exact LeO.refl _)
   | (with_reducible exact LeO.none _)
   | (with_reducible refine LeO.ite ?_ ?_)
   | (with_reducible refine LeO.bind ?_ (fun _ => ?_))
   | exact paronymref02_Same.mono _ _ _
   | exact paronymref26_Texts.mono _ _
   | exact zone_Labels.mono _ _
   | exact LeO.none _
   | refine LeO.ite ?_ ?_
   | refine LeO.bind ?_ (fun _ => ?_)
set_option maxHeartbeats 8000000 in
set_option maxRecDepth 100000 in
theorem paronymlaw27_awake.calls (k : Nat)  (r : Bool) (w : World) (h : paronymlaw27_awake.f k  = some r) :
  Calls Tryd.prog 26 #[] w fun e w' => e = .returned (.bool r) ∧ Below w.heap.size w w' := by
 have HB := Aside0.mk (Below.refl w.heap.size w)
 have H : ((bytesLit.f ([98, 46, 32, 73, 78, 32, 65, 10, 97, 46, 32, 73, 78, 32, 65, 10] : List Int)).bind fun t101 => ((zone_Labels.f k t101).bind fun bt104 => ((bytesLit.f ([97, 46, 32, 73, 78, 32, 65, 10, 65, 46, 32, 73, 78, 32, 65, 10, 98, 46, 32, 73, 78, 32, 65] : List Int)).bind fun t109 => ((zone_Labels.f k t109).bind fun bt112 => (if (bt104.1.length : Int) = 1 then (if bt104.2.1 = 63 then (if bt104.2.2 = 2 then (if bt112.2.1 = 0 then ((paronymref26_Texts.f k bt112.1).bind fun t117 => ((paronymref02_Same.f k t117 (([(⟨#[97]⟩ : ByteArray), (⟨#[98]⟩ : ByteArray)] : List ByteArray))).bind fun t123 => (some t123))) else (some false)) else (some false)) else (some false)) else (some false)))))) = some r := h
 clear h
 replace H := Option.bind_eq_some_iff.mp H
 obtain ⟨t101, A10, H⟩ := H
 replace H : ((zone_Labels.f k t101).bind fun bt104 => ((bytesLit.f ([97, 46, 32, 73, 78, 32, 65, 10, 65, 46, 32, 73, 78, 32, 65, 10, 98, 46, 32, 73, 78, 32, 65] : List Int)).bind fun t109 => ((zone_Labels.f k t109).bind fun bt112 => (if (bt104.1.length : Int) = 1 then (if bt104.2.1 = 63 then (if bt104.2.2 = 2 then (if bt112.2.1 = 0 then ((paronymref26_Texts.f k bt112.1).bind fun t117 => ((paronymref02_Same.f k t117 (([(⟨#[97]⟩ : ByteArray), (⟨#[98]⟩ : ByteArray)] : List ByteArray))).bind fun t123 => (some t123))) else (some false)) else (some false)) else (some false)) else (some false))))) = some r := H
 have A1 := Aside0.mk A10
 clear A10
 replace H := Option.bind_eq_some_iff.mp H
 obtain ⟨⟨t104, t105, t106⟩, A20, H⟩ := H
 replace H : ((bytesLit.f ([97, 46, 32, 73, 78, 32, 65, 10, 65, 46, 32, 73, 78, 32, 65, 10, 98, 46, 32, 73, 78, 32, 65] : List Int)).bind fun t109 => ((zone_Labels.f k t109).bind fun bt112 => (if (t104.length : Int) = 1 then (if t105 = 63 then (if t106 = 2 then (if bt112.2.1 = 0 then ((paronymref26_Texts.f k bt112.1).bind fun t117 => ((paronymref02_Same.f k t117 (([(⟨#[97]⟩ : ByteArray), (⟨#[98]⟩ : ByteArray)] : List ByteArray))).bind fun t123 => (some t123))) else (some false)) else (some false)) else (some false)) else (some false)))) = some r := H
 have A2 := Aside0.mk A20
 clear A20
 replace H := Option.bind_eq_some_iff.mp H
 obtain ⟨t109, A30, H⟩ := H
 replace H : ((zone_Labels.f k t109).bind fun bt112 => (if (t104.length : Int) = 1 then (if t105 = 63 then (if t106 = 2 then (if bt112.2.1 = 0 then ((paronymref26_Texts.f k bt112.1).bind fun t117 => ((paronymref02_Same.f k t117 (([(⟨#[97]⟩ : ByteArray), (⟨#[98]⟩ : ByteArray)] : List ByteArray))).bind fun t123 => (some t123))) else (some false)) else (some false)) else (some false)) else (some false))) = some r := H
 have A3 := Aside0.mk A30
 clear A30
 replace H := Option.bind_eq_some_iff.mp H
 obtain ⟨⟨t112, t113, t114⟩, A40, H⟩ := H
 replace H : (if (t104.length : Int) = 1 then (if t105 = 63 then (if t106 = 2 then (if t113 = 0 then ((paronymref26_Texts.f k t112).bind fun t117 => ((paronymref02_Same.f k t117 (([(⟨#[97]⟩ : ByteArray), (⟨#[98]⟩ : ByteArray)] : List ByteArray))).bind fun t123 => (some t123))) else (some false)) else (some false)) else (some false)) else (some false)) = some r := H
 have A4 := Aside0.mk A40
 clear A40
 by_cases c5 : (t104.length : Int) = 1
 ·rw [if_pos c5] at H
  have c5b0 : ((t104.length : Int) == 1) = true := beq_iff_eq.mpr c5
  have c5b1 : ((t104.length : Int) != 1) = false := bne_eq_false_iff_eq.mpr c5
  clear c5
  by_cases c6 : t105 = 63
  ·rw [if_pos c6] at H
   have c6b0 : (t105 == 63) = true := beq_iff_eq.mpr c6
   have c6b1 : (t105 != 63) = false := bne_eq_false_iff_eq.mpr c6
   clear c6
   by_cases c7 : t106 = 2
   ·rw [if_pos c7] at H
    have c7b0 : (t106 == 2) = true := beq_iff_eq.mpr c7
    have c7b1 : (t106 != 2) = false := bne_eq_false_iff_eq.mpr c7
    clear c7
    by_cases c8 : t113 = 0
    ·rw [if_pos c8] at H
     have c8b0 : (t113 == 0) = true := beq_iff_eq.mpr c8
     have c8b1 : (t113 != 0) = false := bne_eq_false_iff_eq.mpr c8
     clear c8
     replace H := Option.bind_eq_some_iff.mp H
     obtain ⟨t117, A90, H⟩ := H
     replace H : ((paronymref02_Same.f k t117 (([(⟨#[97]⟩ : ByteArray), (⟨#[98]⟩ : ByteArray)] : List ByteArray))).bind fun t123 => (some t123)) = some r := H
     have A9 := Aside0.mk A90
     clear A90
     obtain ⟨y120, hy120⟩ : ∃ y_ : List ByteArray, y_ = (([(⟨#[97]⟩ : ByteArray), (⟨#[98]⟩ : ByteArray)] : List ByteArray)) := ⟨_, rfl⟩
     replace H : ((paronymref02_Same.f k t117 y120).bind fun t123 => (some t123)) = some r := by first | (rw [hy120]; with_reducible exact H) | (have H2_ := (Option.bind_some _ _).symm.trans H; rw [hy120]; with_reducible exact H2_) | (have H2_ := (Option.bind_some _ _).symm.trans H; with_reducible exact H2_) | with_reducible exact H | (rw [hy120]; exact H) | exact H
     have Ny120 := Aside0.mk hy120
     clear hy120
     replace H := Option.bind_eq_some_iff.mp H
     obtain ⟨t123, A100, H⟩ := H
     replace H : (some t123) = some r := H
     have A10 := Aside0.mk A100
     clear A100
     obtain rfl := Option.some.inj H
     go_enter Tryd.func26, Tryd.ntmps26
     go_wp2_with (first | ((with_reducible refine gate_dst (N := 9) rfl ?_); (try (refine gate_guard (by rfl) ?_; dsimp only)); refine bytesLit.step 22 5 _ ([98, 46, 32, 73, 78, 32, 65, 10, 97, 46, 32, 73, 78, 32, 65, 10] : List Int) t101 A1.out rfl rfl rfl Tryd.underlying22 Tryd.underlying5 rfl rfl (by decide) (by decide) ?_; intro v102 w11 ho0 hb; have n0_ := Aside0.mk (Kd.V_lower (Kd.V_mono (ok' := fun k_ => True) ho0 (fun k_ hk_ => trivial)) (below_size (by repeat (first | (with_reducible first | exact HB.out | apply below_alloc | apply pw_below_drewN | apply below_drew1) | exact HB.out)))); have n1_ := Aside0.mk (below_step (by repeat (first | (with_reducible first | exact HB.out | apply below_alloc | apply pw_below_drewN | apply below_drew1) | exact HB.out)) hb); clear HB; have HO103 := n0_; have HB := n1_; clear n0_ n1_; (try clear hb); (try clear hb2); (try clear hk); (try clear hi); (try clear ho0); obtain ⟨Ao12, co12, eo12⟩ := Kd.V_slice HO103.out; subst eo12) | ((with_reducible refine gate_callee (f := 27) rfl ?_); refine goesL_ (some 10) rfl rfl Tryd.func27 (by kernel_rfl) rfl #[.slice Ao12 t101.length co12] rfl (by (try simp only [List.map_toArray, List.map_cons, List.map_nil]); first | done | rfl | (simp only [List.length_drop, List.length_take]; rfl)) ?_; (with_reducible refine (zone_Labels.calls k _ _ t101 t104 t105 t106 _ ?side1 ?side2 A2.out).mono ?_); (case side1 => repeat (first | exact (Kd.V_reads' HO103.out).2.2 | (with_reducible refine Kd.C_alloc ?_ _) | (with_reducible refine Kd.C_drewN ?_ _) | (with_reducible refine Kd.C_drew ?_))); (case side2 => exact (Kd.V_reads' HO103.out).2.1); rintro e w13 ⟨v107, rfl, ho0, hb⟩; refine ⟨_, rfl, ?_⟩; have n0_ := Aside0.mk (Kd.V_elder' (by (with_reducible repeat (first | apply Kd.V_alloc | apply Kd.V_drewN | apply Kd.V_drew)); exact HO103.out) (Kd.R_base ho0) hb); have n1_ := Aside0.mk (Kd.R_lower ho0 (below_size (by repeat (first | (with_reducible first | exact HB.out | apply below_alloc | apply pw_below_drewN | apply below_drew1) | exact HB.out)))); have n2_ := Aside0.mk (below_step (by repeat (first | (with_reducible first | exact HB.out | apply below_alloc | apply pw_below_drewN | apply below_drew1) | exact HB.out)) hb); clear HO103; clear HB; have HO103 := n0_; have HO108 := n1_; have HB := n2_; clear n0_ n1_ n2_; (try clear hb); (try clear hb2); (try clear hk); (try clear hi); (try clear ho0)) | ((with_reducible refine gate_dst (N := 16) rfl ?_); (try (refine gate_guard (by rfl) ?_; dsimp only)); refine bytesLit.step 22 5 _ ([97, 46, 32, 73, 78, 32, 65, 10, 65, 46, 32, 73, 78, 32, 65, 10, 98, 46, 32, 73, 78, 32, 65] : List Int) t109 A3.out rfl rfl rfl Tryd.underlying22 Tryd.underlying5 rfl rfl (by decide) (by decide) ?_; intro v110 w14 ho0 hb; have n0_ := Aside0.mk (Kd.V_below (by (with_reducible repeat (first | apply Kd.V_alloc | apply Kd.V_drewN | apply Kd.V_drew)); exact HO103.out) hb); have n1_ := Aside0.mk (Kd.R_below (by (with_reducible repeat (first | apply Kd.R_alloc | apply Kd.R_drewN | apply Kd.R_drew)); exact HO108.out) hb); have n2_ := Aside0.mk (Kd.V_lower (Kd.V_mono (ok' := fun k_ => some k_ ≠ (v107 : Value).ownBlock) ho0 (fun k_ hk_ => (Kd.fresh' (Kd.R_lt (by (with_reducible repeat (first | apply Kd.R_alloc | apply Kd.R_drewN | apply Kd.R_drew)); exact HO108.out)) k_ hk_))) (below_size (by repeat (first | (with_reducible first | exact HB.out | apply below_alloc | apply pw_below_drewN | apply below_drew1) | exact HB.out)))); have n3_ := Aside0.mk (below_step (by repeat (first | (with_reducible first | exact HB.out | apply below_alloc | apply pw_below_drewN | apply below_drew1) | exact HB.out)) hb); clear HO103; clear HO108; clear HB; have HO103 := n0_; have HO108 := n1_; have HO111 := n2_; have HB := n3_; clear n0_ n1_ n2_ n3_; (try clear hb); (try clear hb2); (try clear hk); (try clear hi); (try clear ho0); obtain ⟨Ao15, co15, eo15⟩ := Kd.V_slice HO111.out; subst eo15) | ((with_reducible refine gate_callee (f := 27) rfl ?_); refine goesL_ (some 17) rfl rfl Tryd.func27 (by kernel_rfl) rfl #[.slice Ao15 t109.length co15] rfl (by (try simp only [List.map_toArray, List.map_cons, List.map_nil]); first | done | rfl | (simp only [List.length_drop, List.length_take]; rfl)) ?_; (with_reducible refine (zone_Labels.calls k _ _ t109 t112 t113 t114 _ ?side1 ?side2 A4.out).mono ?_); (case side1 => repeat (first | exact (Kd.V_reads' HO111.out).2.2 | (with_reducible refine Kd.C_alloc ?_ _) | (with_reducible refine Kd.C_drewN ?_ _) | (with_reducible refine Kd.C_drew ?_))); (case side2 => exact (Kd.V_reads' HO111.out).2.1); rintro e w16 ⟨v115, rfl, ho0, hb⟩; refine ⟨_, rfl, ?_⟩; have n0_ := Aside0.mk (Kd.V_elder' (by (with_reducible repeat (first | apply Kd.V_alloc | apply Kd.V_drewN | apply Kd.V_drew)); exact HO103.out) (Kd.R_base ho0) hb); have n1_ := Aside0.mk (Kd.R_elder' (by (with_reducible repeat (first | apply Kd.R_alloc | apply Kd.R_drewN | apply Kd.R_drew)); exact HO108.out) (Kd.R_base ho0) hb); have n2_ := Aside0.mk (Kd.V_elder' (by (with_reducible repeat (first | apply Kd.V_alloc | apply Kd.V_drewN | apply Kd.V_drew)); exact HO111.out) (Kd.R_base ho0) hb); have n3_ := Aside0.mk (Kd.R_lower (Kd.R_new' ho0 (Kd.R_lt (by (with_reducible repeat (first | apply Kd.R_alloc | apply Kd.R_drewN | apply Kd.R_drew)); exact HO108.out))) (below_size (by repeat (first | (with_reducible first | exact HB.out | apply below_alloc | apply pw_below_drewN | apply below_drew1) | exact HB.out)))); have n4_ := Aside0.mk (below_step (by repeat (first | (with_reducible first | exact HB.out | apply below_alloc | apply pw_below_drewN | apply below_drew1) | exact HB.out)) hb); clear HO103; clear HO108; clear HO111; clear HB; have HO103 := n0_; have HO108 := n1_; have HO111 := n2_; have HO116 := n3_; have HB := n4_; clear n0_ n1_ n2_ n3_ n4_; (try clear hb); (try clear hb2); (try clear hk); (try clear hi); (try clear ho0); obtain ⟨Ao17, co17, eo17⟩ := Kd.R_slice HO108.out; subst eo17; obtain ⟨Ao18, co18, eo18⟩ := Kd.R_slice HO116.out; subst eo18) | (go_at_call 23; (with_reducible refine (paronymref26_Texts.calls k _ _ t112 t117 _ ?side1 ?side2 A9.out).mono ?_); (case side1 => repeat (first | exact (Kd.R_reads' HO116.out).2.2 | (with_reducible refine Kd.C_alloc ?_ _) | (with_reducible refine Kd.C_drewN ?_ _) | (with_reducible refine Kd.C_drew ?_))); (case side2 => exact (Kd.R_reads' HO116.out).2.1); rintro e w19 ⟨v118, rfl, ho0, hb⟩; have n0_ := Aside0.mk (Kd.V_elder' (by (with_reducible repeat (first | apply Kd.V_alloc | apply Kd.V_drewN | apply Kd.V_drew)); exact HO103.out) (Kd.R_base ho0) hb); have n1_ := Aside0.mk (Kd.R_below (by (with_reducible repeat (first | apply Kd.R_alloc | apply Kd.R_drewN | apply Kd.R_drew)); exact HO108.out) hb); have n2_ := Aside0.mk (Kd.V_elder' (by (with_reducible repeat (first | apply Kd.V_alloc | apply Kd.V_drewN | apply Kd.V_drew)); exact HO111.out) (Kd.R_base ho0) hb); have n3_ := Aside0.mk (Kd.R_below (by (with_reducible repeat (first | apply Kd.R_alloc | apply Kd.R_drewN | apply Kd.R_drew)); exact HO116.out) hb); have n4_ := Aside0.mk (Kd.R_lower ho0 (below_size (by repeat (first | (with_reducible first | exact HB.out | apply below_alloc | apply pw_below_drewN | apply below_drew1) | exact HB.out)))); have n5_ := Aside0.mk (below_step (by repeat (first | (with_reducible first | exact HB.out | apply below_alloc | apply pw_below_drewN | apply below_drew1) | exact HB.out)) hb); clear HO103; clear HO108; clear HO111; clear HO116; clear HB; have HO103 := n0_; have HO108 := n1_; have HO111 := n2_; have HO116 := n3_; have HO119 := n4_; have HB := n5_; clear n0_ n1_ n2_ n3_ n4_ n5_; (try clear hb); (try clear hb2); (try clear hk); (try clear hi); (try clear ho0)) | ((with_reducible refine gate_dst (N := 39) rfl ?_); (try (refine gate_guard (by rfl) ?_; dsimp only)); refine Kd.R_lit Kd.string _ 9 ?hg (N := 39) ?hd (xs := ([(⟨#[97]⟩ : ByteArray), (⟨#[98]⟩ : ByteArray)] : List ByteArray)) (inner := [.string (⟨#[97]⟩ : ByteArray), .string (⟨#[98]⟩ : ByteArray)]) (ok := fun _ => True) (okp := fun _ => True) ?hr ?hp (fun _ hk => hk) trivial (Below.refl _ _) (Nat.le_refl _) (by simp) ?_; (case hd => rfl); (case hg => rfl); (case hr => first | (go_simp; done) | (go_simp; rfl)); (case hp => exact (Reps.one (show Kd.M Kd.string _ _ _ (⟨#[97]⟩ : ByteArray) [.string (⟨#[97]⟩ : ByteArray)] from rfl) (Reps.one (show Kd.M Kd.string _ _ _ (⟨#[98]⟩ : ByteArray) [.string (⟨#[98]⟩ : ByteArray)] from rfl) (Reps.none _ _)))); intro v121 w20 ho21 hb hg_ hnew_; clear hg_ hnew_; (first | rw [← Ny120.out] at ho21 | (simp only [Int.reduceToNat] at ho21; rw [← Ny120.out] at ho21)); have n0_ := Aside0.mk (Kd.V_elder' (by (with_reducible repeat (first | apply Kd.V_alloc | apply Kd.V_drewN | apply Kd.V_drew)); exact HO103.out) (Kd.R_base ho21) hb); have n1_ := Aside0.mk (Kd.R_below (by (with_reducible repeat (first | apply Kd.R_alloc | apply Kd.R_drewN | apply Kd.R_drew)); exact HO108.out) hb); have n2_ := Aside0.mk (Kd.V_elder' (by (with_reducible repeat (first | apply Kd.V_alloc | apply Kd.V_drewN | apply Kd.V_drew)); exact HO111.out) (Kd.R_base ho21) hb); have n3_ := Aside0.mk (Kd.R_below (by (with_reducible repeat (first | apply Kd.R_alloc | apply Kd.R_drewN | apply Kd.R_drew)); exact HO116.out) hb); have n4_ := Aside0.mk (Kd.R_elder' (by (with_reducible repeat (first | apply Kd.R_alloc | apply Kd.R_drewN | apply Kd.R_drew)); exact HO119.out) (Kd.R_base ho21) hb); have n5_ := Aside0.mk (Kd.R_lower (Kd.R_new' ho21 (Kd.R_lt (by (with_reducible repeat (first | apply Kd.R_alloc | apply Kd.R_drewN | apply Kd.R_drew)); exact HO119.out))) (below_size (by repeat (first | (with_reducible first | exact HB.out | apply below_alloc | apply pw_below_drewN | apply below_drew1) | exact HB.out)))); have n6_ := Aside0.mk (below_step (by repeat (first | (with_reducible first | exact HB.out | apply below_alloc | apply pw_below_drewN | apply below_drew1) | exact HB.out)) hb); clear HO103; clear HO108; clear HO111; clear HO116; clear HO119; clear HB; have HO103 := n0_; have HO108 := n1_; have HO111 := n2_; have HO116 := n3_; have HO119 := n4_; have HO122 := n5_; have HB := n6_; clear n0_ n1_ n2_ n3_ n4_ n5_ n6_; clear hb ho21; obtain ⟨Ao22, co22, eo22⟩ := Kd.R_slice HO119.out; subst eo22; obtain ⟨Ao23, co23, eo23⟩ := Kd.R_slice HO122.out; subst eo23) | (go_at_call 16; (with_reducible refine (paronymref02_Same.calls k _ _ t117 _ _ y120 t123 _ ?side1 ?side2 ?side3 ?side4 A10.out).mono ?_); (case side1 => repeat (first | exact (Kd.R_reads' HO119.out).2.2 | (with_reducible refine Kd.C_alloc ?_ _) | (with_reducible refine Kd.C_drewN ?_ _) | (with_reducible refine Kd.C_drew ?_))); (case side2 => exact (Kd.R_reads' HO119.out).2.1); (case side3 => repeat (first | exact (Kd.R_reads' HO122.out).2.2 | (with_reducible refine Kd.C_alloc ?_ _) | (with_reducible refine Kd.C_drewN ?_ _) | (with_reducible refine Kd.C_drew ?_))); (case side4 => exact (Kd.R_reads' HO122.out).2.1); rintro e w' ⟨rfl, ⟨nd, rfl⟩⟩))
     go_ret
     exact ⟨by first | rfl | (simp [errW_none, errW_some] <;> rfl) | (simp [*, errW_none, errW_some] <;> rfl), by repeat (first | (with_reducible first | exact HB.out | apply below_alloc | apply pw_below_drewN | apply below_drew1) | exact HB.out)⟩
    ·rw [if_neg c8] at H
     have c8b0 : (t113 == 0) = false := beq_eq_false_iff_ne.mpr c8
     have c8b1 : (t113 != 0) = true := bne_iff_ne.mpr c8
     obtain rfl := Option.some.inj H
     go_enter Tryd.func26, Tryd.ntmps26
     go_wp2_with (first | ((with_reducible refine gate_dst (N := 9) rfl ?_); (try (refine gate_guard (by rfl) ?_; dsimp only)); refine bytesLit.step 22 5 _ ([98, 46, 32, 73, 78, 32, 65, 10, 97, 46, 32, 73, 78, 32, 65, 10] : List Int) t101 A1.out rfl rfl rfl Tryd.underlying22 Tryd.underlying5 rfl rfl (by decide) (by decide) ?_; intro v102 w24 ho0 hb; have n0_ := Aside0.mk (Kd.V_lower (Kd.V_mono (ok' := fun k_ => True) ho0 (fun k_ hk_ => trivial)) (below_size (by repeat (first | (with_reducible first | exact HB.out | apply below_alloc | apply pw_below_drewN | apply below_drew1) | exact HB.out)))); have n1_ := Aside0.mk (below_step (by repeat (first | (with_reducible first | exact HB.out | apply below_alloc | apply pw_below_drewN | apply below_drew1) | exact HB.out)) hb); clear HB; have HO103 := n0_; have HB := n1_; clear n0_ n1_; (try clear hb); (try clear hb2); (try clear hk); (try clear hi); (try clear ho0); obtain ⟨Ao25, co25, eo25⟩ := Kd.V_slice HO103.out; subst eo25) | ((with_reducible refine gate_callee (f := 27) rfl ?_); refine goesL_ (some 10) rfl rfl Tryd.func27 (by kernel_rfl) rfl #[.slice Ao25 t101.length co25] rfl (by (try simp only [List.map_toArray, List.map_cons, List.map_nil]); first | done | rfl | (simp only [List.length_drop, List.length_take]; rfl)) ?_; (with_reducible refine (zone_Labels.calls k _ _ t101 t104 t105 t106 _ ?side1 ?side2 A2.out).mono ?_); (case side1 => repeat (first | exact (Kd.V_reads' HO103.out).2.2 | (with_reducible refine Kd.C_alloc ?_ _) | (with_reducible refine Kd.C_drewN ?_ _) | (with_reducible refine Kd.C_drew ?_))); (case side2 => exact (Kd.V_reads' HO103.out).2.1); rintro e w26 ⟨v107, rfl, ho0, hb⟩; refine ⟨_, rfl, ?_⟩; have n0_ := Aside0.mk (Kd.V_elder' (by (with_reducible repeat (first | apply Kd.V_alloc | apply Kd.V_drewN | apply Kd.V_drew)); exact HO103.out) (Kd.R_base ho0) hb); have n1_ := Aside0.mk (Kd.R_lower ho0 (below_size (by repeat (first | (with_reducible first | exact HB.out | apply below_alloc | apply pw_below_drewN | apply below_drew1) | exact HB.out)))); have n2_ := Aside0.mk (below_step (by repeat (first | (with_reducible first | exact HB.out | apply below_alloc | apply pw_below_drewN | apply below_drew1) | exact HB.out)) hb); clear HO103; clear HB; have HO103 := n0_; have HO108 := n1_; have HB := n2_; clear n0_ n1_ n2_; (try clear hb); (try clear hb2); (try clear hk); (try clear hi); (try clear ho0)) | ((with_reducible refine gate_dst (N := 16) rfl ?_); (try (refine gate_guard (by rfl) ?_; dsimp only)); refine bytesLit.step 22 5 _ ([97, 46, 32, 73, 78, 32, 65, 10, 65, 46, 32, 73, 78, 32, 65, 10, 98, 46, 32, 73, 78, 32, 65] : List Int) t109 A3.out rfl rfl rfl Tryd.underlying22 Tryd.underlying5 rfl rfl (by decide) (by decide) ?_; intro v110 w27 ho0 hb; have n0_ := Aside0.mk (Kd.V_below (by (with_reducible repeat (first | apply Kd.V_alloc | apply Kd.V_drewN | apply Kd.V_drew)); exact HO103.out) hb); have n1_ := Aside0.mk (Kd.R_below (by (with_reducible repeat (first | apply Kd.R_alloc | apply Kd.R_drewN | apply Kd.R_drew)); exact HO108.out) hb); have n2_ := Aside0.mk (Kd.V_lower (Kd.V_mono (ok' := fun k_ => some k_ ≠ (v107 : Value).ownBlock) ho0 (fun k_ hk_ => (Kd.fresh' (Kd.R_lt (by (with_reducible repeat (first | apply Kd.R_alloc | apply Kd.R_drewN | apply Kd.R_drew)); exact HO108.out)) k_ hk_))) (below_size (by repeat (first | (with_reducible first | exact HB.out | apply below_alloc | apply pw_below_drewN | apply below_drew1) | exact HB.out)))); have n3_ := Aside0.mk (below_step (by repeat (first | (with_reducible first | exact HB.out | apply below_alloc | apply pw_below_drewN | apply below_drew1) | exact HB.out)) hb); clear HO103; clear HO108; clear HB; have HO103 := n0_; have HO108 := n1_; have HO111 := n2_; have HB := n3_; clear n0_ n1_ n2_ n3_; (try clear hb); (try clear hb2); (try clear hk); (try clear hi); (try clear ho0); obtain ⟨Ao28, co28, eo28⟩ := Kd.V_slice HO111.out; subst eo28) | ((with_reducible refine gate_callee (f := 27) rfl ?_); refine goesL_ (some 17) rfl rfl Tryd.func27 (by kernel_rfl) rfl #[.slice Ao28 t109.length co28] rfl (by (try simp only [List.map_toArray, List.map_cons, List.map_nil]); first | done | rfl | (simp only [List.length_drop, List.length_take]; rfl)) ?_; (with_reducible refine (zone_Labels.calls k _ _ t109 t112 t113 t114 _ ?side1 ?side2 A4.out).mono ?_); (case side1 => repeat (first | exact (Kd.V_reads' HO111.out).2.2 | (with_reducible refine Kd.C_alloc ?_ _) | (with_reducible refine Kd.C_drewN ?_ _) | (with_reducible refine Kd.C_drew ?_))); (case side2 => exact (Kd.V_reads' HO111.out).2.1); rintro e w29 ⟨v115, rfl, ho0, hb⟩; refine ⟨_, rfl, ?_⟩; have n0_ := Aside0.mk (Kd.V_elder' (by (with_reducible repeat (first | apply Kd.V_alloc | apply Kd.V_drewN | apply Kd.V_drew)); exact HO103.out) (Kd.R_base ho0) hb); have n1_ := Aside0.mk (Kd.R_elder' (by (with_reducible repeat (first | apply Kd.R_alloc | apply Kd.R_drewN | apply Kd.R_drew)); exact HO108.out) (Kd.R_base ho0) hb); have n2_ := Aside0.mk (Kd.V_elder' (by (with_reducible repeat (first | apply Kd.V_alloc | apply Kd.V_drewN | apply Kd.V_drew)); exact HO111.out) (Kd.R_base ho0) hb); have n3_ := Aside0.mk (Kd.R_lower (Kd.R_new' ho0 (Kd.R_lt (by (with_reducible repeat (first | apply Kd.R_alloc | apply Kd.R_drewN | apply Kd.R_drew)); exact HO108.out))) (below_size (by repeat (first | (with_reducible first | exact HB.out | apply below_alloc | apply pw_below_drewN | apply below_drew1) | exact HB.out)))); have n4_ := Aside0.mk (below_step (by repeat (first | (with_reducible first | exact HB.out | apply below_alloc | apply pw_below_drewN | apply below_drew1) | exact HB.out)) hb); clear HO103; clear HO108; clear HO111; clear HB; have HO103 := n0_; have HO108 := n1_; have HO111 := n2_; have HO116 := n3_; have HB := n4_; clear n0_ n1_ n2_ n3_ n4_; (try clear hb); (try clear hb2); (try clear hk); (try clear hi); (try clear ho0); obtain ⟨Ao30, co30, eo30⟩ := Kd.R_slice HO108.out; subst eo30))
     go_ret
     exact ⟨by first | rfl | (simp [errW_none, errW_some] <;> rfl) | (simp [*, errW_none, errW_some] <;> rfl), by repeat (first | (with_reducible first | exact HB.out | apply below_alloc | apply pw_below_drewN | apply below_drew1) | exact HB.out)⟩
   ·rw [if_neg c7] at H
    have c7b0 : (t106 == 2) = false := beq_eq_false_iff_ne.mpr c7
    have c7b1 : (t106 != 2) = true := bne_iff_ne.mpr c7
    obtain rfl := Option.some.inj H
    go_enter Tryd.func26, Tryd.ntmps26
    go_wp2_with (first | ((with_reducible refine gate_dst (N := 9) rfl ?_); (try (refine gate_guard (by rfl) ?_; dsimp only)); refine bytesLit.step 22 5 _ ([98, 46, 32, 73, 78, 32, 65, 10, 97, 46, 32, 73, 78, 32, 65, 10] : List Int) t101 A1.out rfl rfl rfl Tryd.underlying22 Tryd.underlying5 rfl rfl (by decide) (by decide) ?_; intro v102 w31 ho0 hb; have n0_ := Aside0.mk (Kd.V_lower (Kd.V_mono (ok' := fun k_ => True) ho0 (fun k_ hk_ => trivial)) (below_size (by repeat (first | (with_reducible first | exact HB.out | apply below_alloc | apply pw_below_drewN | apply below_drew1) | exact HB.out)))); have n1_ := Aside0.mk (below_step (by repeat (first | (with_reducible first | exact HB.out | apply below_alloc | apply pw_below_drewN | apply below_drew1) | exact HB.out)) hb); clear HB; have HO103 := n0_; have HB := n1_; clear n0_ n1_; (try clear hb); (try clear hb2); (try clear hk); (try clear hi); (try clear ho0); obtain ⟨Ao32, co32, eo32⟩ := Kd.V_slice HO103.out; subst eo32) | ((with_reducible refine gate_callee (f := 27) rfl ?_); refine goesL_ (some 10) rfl rfl Tryd.func27 (by kernel_rfl) rfl #[.slice Ao32 t101.length co32] rfl (by (try simp only [List.map_toArray, List.map_cons, List.map_nil]); first | done | rfl | (simp only [List.length_drop, List.length_take]; rfl)) ?_; (with_reducible refine (zone_Labels.calls k _ _ t101 t104 t105 t106 _ ?side1 ?side2 A2.out).mono ?_); (case side1 => repeat (first | exact (Kd.V_reads' HO103.out).2.2 | (with_reducible refine Kd.C_alloc ?_ _) | (with_reducible refine Kd.C_drewN ?_ _) | (with_reducible refine Kd.C_drew ?_))); (case side2 => exact (Kd.V_reads' HO103.out).2.1); rintro e w33 ⟨v107, rfl, ho0, hb⟩; refine ⟨_, rfl, ?_⟩; have n0_ := Aside0.mk (Kd.V_elder' (by (with_reducible repeat (first | apply Kd.V_alloc | apply Kd.V_drewN | apply Kd.V_drew)); exact HO103.out) (Kd.R_base ho0) hb); have n1_ := Aside0.mk (Kd.R_lower ho0 (below_size (by repeat (first | (with_reducible first | exact HB.out | apply below_alloc | apply pw_below_drewN | apply below_drew1) | exact HB.out)))); have n2_ := Aside0.mk (below_step (by repeat (first | (with_reducible first | exact HB.out | apply below_alloc | apply pw_below_drewN | apply below_drew1) | exact HB.out)) hb); clear HO103; clear HB; have HO103 := n0_; have HO108 := n1_; have HB := n2_; clear n0_ n1_ n2_; (try clear hb); (try clear hb2); (try clear hk); (try clear hi); (try clear ho0)) | ((with_reducible refine gate_dst (N := 16) rfl ?_); (try (refine gate_guard (by rfl) ?_; dsimp only)); refine bytesLit.step 22 5 _ ([97, 46, 32, 73, 78, 32, 65, 10, 65, 46, 32, 73, 78, 32, 65, 10, 98, 46, 32, 73, 78, 32, 65] : List Int) t109 A3.out rfl rfl rfl Tryd.underlying22 Tryd.underlying5 rfl rfl (by decide) (by decide) ?_; intro v110 w34 ho0 hb; have n0_ := Aside0.mk (Kd.V_below (by (with_reducible repeat (first | apply Kd.V_alloc | apply Kd.V_drewN | apply Kd.V_drew)); exact HO103.out) hb); have n1_ := Aside0.mk (Kd.R_below (by (with_reducible repeat (first | apply Kd.R_alloc | apply Kd.R_drewN | apply Kd.R_drew)); exact HO108.out) hb); have n2_ := Aside0.mk (Kd.V_lower (Kd.V_mono (ok' := fun k_ => some k_ ≠ (v107 : Value).ownBlock) ho0 (fun k_ hk_ => (Kd.fresh' (Kd.R_lt (by (with_reducible repeat (first | apply Kd.R_alloc | apply Kd.R_drewN | apply Kd.R_drew)); exact HO108.out)) k_ hk_))) (below_size (by repeat (first | (with_reducible first | exact HB.out | apply below_alloc | apply pw_below_drewN | apply below_drew1) | exact HB.out)))); have n3_ := Aside0.mk (below_step (by repeat (first | (with_reducible first | exact HB.out | apply below_alloc | apply pw_below_drewN | apply below_drew1) | exact HB.out)) hb); clear HO103; clear HO108; clear HB; have HO103 := n0_; have HO108 := n1_; have HO111 := n2_; have HB := n3_; clear n0_ n1_ n2_ n3_; (try clear hb); (try clear hb2); (try clear hk); (try clear hi); (try clear ho0); obtain ⟨Ao35, co35, eo35⟩ := Kd.V_slice HO111.out; subst eo35) | ((with_reducible refine gate_callee (f := 27) rfl ?_); refine goesL_ (some 17) rfl rfl Tryd.func27 (by kernel_rfl) rfl #[.slice Ao35 t109.length co35] rfl (by (try simp only [List.map_toArray, List.map_cons, List.map_nil]); first | done | rfl | (simp only [List.length_drop, List.length_take]; rfl)) ?_; (with_reducible refine (zone_Labels.calls k _ _ t109 t112 t113 t114 _ ?side1 ?side2 A4.out).mono ?_); (case side1 => repeat (first | exact (Kd.V_reads' HO111.out).2.2 | (with_reducible refine Kd.C_alloc ?_ _) | (with_reducible refine Kd.C_drewN ?_ _) | (with_reducible refine Kd.C_drew ?_))); (case side2 => exact (Kd.V_reads' HO111.out).2.1); rintro e w36 ⟨v115, rfl, ho0, hb⟩; refine ⟨_, rfl, ?_⟩; have n0_ := Aside0.mk (Kd.V_elder' (by (with_reducible repeat (first | apply Kd.V_alloc | apply Kd.V_drewN | apply Kd.V_drew)); exact HO103.out) (Kd.R_base ho0) hb); have n1_ := Aside0.mk (Kd.R_elder' (by (with_reducible repeat (first | apply Kd.R_alloc | apply Kd.R_drewN | apply Kd.R_drew)); exact HO108.out) (Kd.R_base ho0) hb); have n2_ := Aside0.mk (Kd.V_elder' (by (with_reducible repeat (first | apply Kd.V_alloc | apply Kd.V_drewN | apply Kd.V_drew)); exact HO111.out) (Kd.R_base ho0) hb); have n3_ := Aside0.mk (Kd.R_lower (Kd.R_new' ho0 (Kd.R_lt (by (with_reducible repeat (first | apply Kd.R_alloc | apply Kd.R_drewN | apply Kd.R_drew)); exact HO108.out))) (below_size (by repeat (first | (with_reducible first | exact HB.out | apply below_alloc | apply pw_below_drewN | apply below_drew1) | exact HB.out)))); have n4_ := Aside0.mk (below_step (by repeat (first | (with_reducible first | exact HB.out | apply below_alloc | apply pw_below_drewN | apply below_drew1) | exact HB.out)) hb); clear HO103; clear HO108; clear HO111; clear HB; have HO103 := n0_; have HO108 := n1_; have HO111 := n2_; have HO116 := n3_; have HB := n4_; clear n0_ n1_ n2_ n3_ n4_; (try clear hb); (try clear hb2); (try clear hk); (try clear hi); (try clear ho0); obtain ⟨Ao37, co37, eo37⟩ := Kd.R_slice HO108.out; subst eo37))
    go_ret
    exact ⟨by first | rfl | (simp [errW_none, errW_some] <;> rfl) | (simp [*, errW_none, errW_some] <;> rfl), by repeat (first | (with_reducible first | exact HB.out | apply below_alloc | apply pw_below_drewN | apply below_drew1) | exact HB.out)⟩
  ·rw [if_neg c6] at H
   have c6b0 : (t105 == 63) = false := beq_eq_false_iff_ne.mpr c6
   have c6b1 : (t105 != 63) = true := bne_iff_ne.mpr c6
   obtain rfl := Option.some.inj H
   go_enter Tryd.func26, Tryd.ntmps26
   go_wp2_with (first | ((with_reducible refine gate_dst (N := 9) rfl ?_); (try (refine gate_guard (by rfl) ?_; dsimp only)); refine bytesLit.step 22 5 _ ([98, 46, 32, 73, 78, 32, 65, 10, 97, 46, 32, 73, 78, 32, 65, 10] : List Int) t101 A1.out rfl rfl rfl Tryd.underlying22 Tryd.underlying5 rfl rfl (by decide) (by decide) ?_; intro v102 w38 ho0 hb; have n0_ := Aside0.mk (Kd.V_lower (Kd.V_mono (ok' := fun k_ => True) ho0 (fun k_ hk_ => trivial)) (below_size (by repeat (first | (with_reducible first | exact HB.out | apply below_alloc | apply pw_below_drewN | apply below_drew1) | exact HB.out)))); have n1_ := Aside0.mk (below_step (by repeat (first | (with_reducible first | exact HB.out | apply below_alloc | apply pw_below_drewN | apply below_drew1) | exact HB.out)) hb); clear HB; have HO103 := n0_; have HB := n1_; clear n0_ n1_; (try clear hb); (try clear hb2); (try clear hk); (try clear hi); (try clear ho0); obtain ⟨Ao39, co39, eo39⟩ := Kd.V_slice HO103.out; subst eo39) | ((with_reducible refine gate_callee (f := 27) rfl ?_); refine goesL_ (some 10) rfl rfl Tryd.func27 (by kernel_rfl) rfl #[.slice Ao39 t101.length co39] rfl (by (try simp only [List.map_toArray, List.map_cons, List.map_nil]); first | done | rfl | (simp only [List.length_drop, List.length_take]; rfl)) ?_; (with_reducible refine (zone_Labels.calls k _ _ t101 t104 t105 t106 _ ?side1 ?side2 A2.out).mono ?_); (case side1 => repeat (first | exact (Kd.V_reads' HO103.out).2.2 | (with_reducible refine Kd.C_alloc ?_ _) | (with_reducible refine Kd.C_drewN ?_ _) | (with_reducible refine Kd.C_drew ?_))); (case side2 => exact (Kd.V_reads' HO103.out).2.1); rintro e w40 ⟨v107, rfl, ho0, hb⟩; refine ⟨_, rfl, ?_⟩; have n0_ := Aside0.mk (Kd.V_elder' (by (with_reducible repeat (first | apply Kd.V_alloc | apply Kd.V_drewN | apply Kd.V_drew)); exact HO103.out) (Kd.R_base ho0) hb); have n1_ := Aside0.mk (Kd.R_lower ho0 (below_size (by repeat (first | (with_reducible first | exact HB.out | apply below_alloc | apply pw_below_drewN | apply below_drew1) | exact HB.out)))); have n2_ := Aside0.mk (below_step (by repeat (first | (with_reducible first | exact HB.out | apply below_alloc | apply pw_below_drewN | apply below_drew1) | exact HB.out)) hb); clear HO103; clear HB; have HO103 := n0_; have HO108 := n1_; have HB := n2_; clear n0_ n1_ n2_; (try clear hb); (try clear hb2); (try clear hk); (try clear hi); (try clear ho0)) | ((with_reducible refine gate_dst (N := 16) rfl ?_); (try (refine gate_guard (by rfl) ?_; dsimp only)); refine bytesLit.step 22 5 _ ([97, 46, 32, 73, 78, 32, 65, 10, 65, 46, 32, 73, 78, 32, 65, 10, 98, 46, 32, 73, 78, 32, 65] : List Int) t109 A3.out rfl rfl rfl Tryd.underlying22 Tryd.underlying5 rfl rfl (by decide) (by decide) ?_; intro v110 w41 ho0 hb; have n0_ := Aside0.mk (Kd.V_below (by (with_reducible repeat (first | apply Kd.V_alloc | apply Kd.V_drewN | apply Kd.V_drew)); exact HO103.out) hb); have n1_ := Aside0.mk (Kd.R_below (by (with_reducible repeat (first | apply Kd.R_alloc | apply Kd.R_drewN | apply Kd.R_drew)); exact HO108.out) hb); have n2_ := Aside0.mk (Kd.V_lower (Kd.V_mono (ok' := fun k_ => some k_ ≠ (v107 : Value).ownBlock) ho0 (fun k_ hk_ => (Kd.fresh' (Kd.R_lt (by (with_reducible repeat (first | apply Kd.R_alloc | apply Kd.R_drewN | apply Kd.R_drew)); exact HO108.out)) k_ hk_))) (below_size (by repeat (first | (with_reducible first | exact HB.out | apply below_alloc | apply pw_below_drewN | apply below_drew1) | exact HB.out)))); have n3_ := Aside0.mk (below_step (by repeat (first | (with_reducible first | exact HB.out | apply below_alloc | apply pw_below_drewN | apply below_drew1) | exact HB.out)) hb); clear HO103; clear HO108; clear HB; have HO103 := n0_; have HO108 := n1_; have HO111 := n2_; have HB := n3_; clear n0_ n1_ n2_ n3_; (try clear hb); (try clear hb2); (try clear hk); (try clear hi); (try clear ho0); obtain ⟨Ao42, co42, eo42⟩ := Kd.V_slice HO111.out; subst eo42) | ((with_reducible refine gate_callee (f := 27) rfl ?_); refine goesL_ (some 17) rfl rfl Tryd.func27 (by kernel_rfl) rfl #[.slice Ao42 t109.length co42] rfl (by (try simp only [List.map_toArray, List.map_cons, List.map_nil]); first | done | rfl | (simp only [List.length_drop, List.length_take]; rfl)) ?_; (with_reducible refine (zone_Labels.calls k _ _ t109 t112 t113 t114 _ ?side1 ?side2 A4.out).mono ?_); (case side1 => repeat (first | exact (Kd.V_reads' HO111.out).2.2 | (with_reducible refine Kd.C_alloc ?_ _) | (with_reducible refine Kd.C_drewN ?_ _) | (with_reducible refine Kd.C_drew ?_))); (case side2 => exact (Kd.V_reads' HO111.out).2.1); rintro e w43 ⟨v115, rfl, ho0, hb⟩; refine ⟨_, rfl, ?_⟩; have n0_ := Aside0.mk (Kd.V_elder' (by (with_reducible repeat (first | apply Kd.V_alloc | apply Kd.V_drewN | apply Kd.V_drew)); exact HO103.out) (Kd.R_base ho0) hb); have n1_ := Aside0.mk (Kd.R_elder' (by (with_reducible repeat (first | apply Kd.R_alloc | apply Kd.R_drewN | apply Kd.R_drew)); exact HO108.out) (Kd.R_base ho0) hb); have n2_ := Aside0.mk (Kd.V_elder' (by (with_reducible repeat (first | apply Kd.V_alloc | apply Kd.V_drewN | apply Kd.V_drew)); exact HO111.out) (Kd.R_base ho0) hb); have n3_ := Aside0.mk (Kd.R_lower (Kd.R_new' ho0 (Kd.R_lt (by (with_reducible repeat (first | apply Kd.R_alloc | apply Kd.R_drewN | apply Kd.R_drew)); exact HO108.out))) (below_size (by repeat (first | (with_reducible first | exact HB.out | apply below_alloc | apply pw_below_drewN | apply below_drew1) | exact HB.out)))); have n4_ := Aside0.mk (below_step (by repeat (first | (with_reducible first | exact HB.out | apply below_alloc | apply pw_below_drewN | apply below_drew1) | exact HB.out)) hb); clear HO103; clear HO108; clear HO111; clear HB; have HO103 := n0_; have HO108 := n1_; have HO111 := n2_; have HO116 := n3_; have HB := n4_; clear n0_ n1_ n2_ n3_ n4_; (try clear hb); (try clear hb2); (try clear hk); (try clear hi); (try clear ho0); obtain ⟨Ao44, co44, eo44⟩ := Kd.R_slice HO108.out; subst eo44))
   go_ret
   exact ⟨by first | rfl | (simp [errW_none, errW_some] <;> rfl) | (simp [*, errW_none, errW_some] <;> rfl), by repeat (first | (with_reducible first | exact HB.out | apply below_alloc | apply pw_below_drewN | apply below_drew1) | exact HB.out)⟩
 ·rw [if_neg c5] at H
  have c5b0 : ((t104.length : Int) == 1) = false := beq_eq_false_iff_ne.mpr c5
  have c5b1 : ((t104.length : Int) != 1) = true := bne_iff_ne.mpr c5
  obtain rfl := Option.some.inj H
  go_enter Tryd.func26, Tryd.ntmps26
  go_wp2_with (first | ((with_reducible refine gate_dst (N := 9) rfl ?_); (try (refine gate_guard (by rfl) ?_; dsimp only)); refine bytesLit.step 22 5 _ ([98, 46, 32, 73, 78, 32, 65, 10, 97, 46, 32, 73, 78, 32, 65, 10] : List Int) t101 A1.out rfl rfl rfl Tryd.underlying22 Tryd.underlying5 rfl rfl (by decide) (by decide) ?_; intro v102 w45 ho0 hb; have n0_ := Aside0.mk (Kd.V_lower (Kd.V_mono (ok' := fun k_ => True) ho0 (fun k_ hk_ => trivial)) (below_size (by repeat (first | (with_reducible first | exact HB.out | apply below_alloc | apply pw_below_drewN | apply below_drew1) | exact HB.out)))); have n1_ := Aside0.mk (below_step (by repeat (first | (with_reducible first | exact HB.out | apply below_alloc | apply pw_below_drewN | apply below_drew1) | exact HB.out)) hb); clear HB; have HO103 := n0_; have HB := n1_; clear n0_ n1_; (try clear hb); (try clear hb2); (try clear hk); (try clear hi); (try clear ho0); obtain ⟨Ao46, co46, eo46⟩ := Kd.V_slice HO103.out; subst eo46) | ((with_reducible refine gate_callee (f := 27) rfl ?_); refine goesL_ (some 10) rfl rfl Tryd.func27 (by kernel_rfl) rfl #[.slice Ao46 t101.length co46] rfl (by (try simp only [List.map_toArray, List.map_cons, List.map_nil]); first | done | rfl | (simp only [List.length_drop, List.length_take]; rfl)) ?_; (with_reducible refine (zone_Labels.calls k _ _ t101 t104 t105 t106 _ ?side1 ?side2 A2.out).mono ?_); (case side1 => repeat (first | exact (Kd.V_reads' HO103.out).2.2 | (with_reducible refine Kd.C_alloc ?_ _) | (with_reducible refine Kd.C_drewN ?_ _) | (with_reducible refine Kd.C_drew ?_))); (case side2 => exact (Kd.V_reads' HO103.out).2.1); rintro e w47 ⟨v107, rfl, ho0, hb⟩; refine ⟨_, rfl, ?_⟩; have n0_ := Aside0.mk (Kd.V_elder' (by (with_reducible repeat (first | apply Kd.V_alloc | apply Kd.V_drewN | apply Kd.V_drew)); exact HO103.out) (Kd.R_base ho0) hb); have n1_ := Aside0.mk (Kd.R_lower ho0 (below_size (by repeat (first | (with_reducible first | exact HB.out | apply below_alloc | apply pw_below_drewN | apply below_drew1) | exact HB.out)))); have n2_ := Aside0.mk (below_step (by repeat (first | (with_reducible first | exact HB.out | apply below_alloc | apply pw_below_drewN | apply below_drew1) | exact HB.out)) hb); clear HO103; clear HB; have HO103 := n0_; have HO108 := n1_; have HB := n2_; clear n0_ n1_ n2_; (try clear hb); (try clear hb2); (try clear hk); (try clear hi); (try clear ho0)) | ((with_reducible refine gate_dst (N := 16) rfl ?_); (try (refine gate_guard (by rfl) ?_; dsimp only)); refine bytesLit.step 22 5 _ ([97, 46, 32, 73, 78, 32, 65, 10, 65, 46, 32, 73, 78, 32, 65, 10, 98, 46, 32, 73, 78, 32, 65] : List Int) t109 A3.out rfl rfl rfl Tryd.underlying22 Tryd.underlying5 rfl rfl (by decide) (by decide) ?_; intro v110 w48 ho0 hb; have n0_ := Aside0.mk (Kd.V_below (by (with_reducible repeat (first | apply Kd.V_alloc | apply Kd.V_drewN | apply Kd.V_drew)); exact HO103.out) hb); have n1_ := Aside0.mk (Kd.R_below (by (with_reducible repeat (first | apply Kd.R_alloc | apply Kd.R_drewN | apply Kd.R_drew)); exact HO108.out) hb); have n2_ := Aside0.mk (Kd.V_lower (Kd.V_mono (ok' := fun k_ => some k_ ≠ (v107 : Value).ownBlock) ho0 (fun k_ hk_ => (Kd.fresh' (Kd.R_lt (by (with_reducible repeat (first | apply Kd.R_alloc | apply Kd.R_drewN | apply Kd.R_drew)); exact HO108.out)) k_ hk_))) (below_size (by repeat (first | (with_reducible first | exact HB.out | apply below_alloc | apply pw_below_drewN | apply below_drew1) | exact HB.out)))); have n3_ := Aside0.mk (below_step (by repeat (first | (with_reducible first | exact HB.out | apply below_alloc | apply pw_below_drewN | apply below_drew1) | exact HB.out)) hb); clear HO103; clear HO108; clear HB; have HO103 := n0_; have HO108 := n1_; have HO111 := n2_; have HB := n3_; clear n0_ n1_ n2_ n3_; (try clear hb); (try clear hb2); (try clear hk); (try clear hi); (try clear ho0); obtain ⟨Ao49, co49, eo49⟩ := Kd.V_slice HO111.out; subst eo49) | ((with_reducible refine gate_callee (f := 27) rfl ?_); refine goesL_ (some 17) rfl rfl Tryd.func27 (by kernel_rfl) rfl #[.slice Ao49 t109.length co49] rfl (by (try simp only [List.map_toArray, List.map_cons, List.map_nil]); first | done | rfl | (simp only [List.length_drop, List.length_take]; rfl)) ?_; (with_reducible refine (zone_Labels.calls k _ _ t109 t112 t113 t114 _ ?side1 ?side2 A4.out).mono ?_); (case side1 => repeat (first | exact (Kd.V_reads' HO111.out).2.2 | (with_reducible refine Kd.C_alloc ?_ _) | (with_reducible refine Kd.C_drewN ?_ _) | (with_reducible refine Kd.C_drew ?_))); (case side2 => exact (Kd.V_reads' HO111.out).2.1); rintro e w50 ⟨v115, rfl, ho0, hb⟩; refine ⟨_, rfl, ?_⟩; have n0_ := Aside0.mk (Kd.V_elder' (by (with_reducible repeat (first | apply Kd.V_alloc | apply Kd.V_drewN | apply Kd.V_drew)); exact HO103.out) (Kd.R_base ho0) hb); have n1_ := Aside0.mk (Kd.R_elder' (by (with_reducible repeat (first | apply Kd.R_alloc | apply Kd.R_drewN | apply Kd.R_drew)); exact HO108.out) (Kd.R_base ho0) hb); have n2_ := Aside0.mk (Kd.V_elder' (by (with_reducible repeat (first | apply Kd.V_alloc | apply Kd.V_drewN | apply Kd.V_drew)); exact HO111.out) (Kd.R_base ho0) hb); have n3_ := Aside0.mk (Kd.R_lower (Kd.R_new' ho0 (Kd.R_lt (by (with_reducible repeat (first | apply Kd.R_alloc | apply Kd.R_drewN | apply Kd.R_drew)); exact HO108.out))) (below_size (by repeat (first | (with_reducible first | exact HB.out | apply below_alloc | apply pw_below_drewN | apply below_drew1) | exact HB.out)))); have n4_ := Aside0.mk (below_step (by repeat (first | (with_reducible first | exact HB.out | apply below_alloc | apply pw_below_drewN | apply below_drew1) | exact HB.out)) hb); clear HO103; clear HO108; clear HO111; clear HB; have HO103 := n0_; have HO108 := n1_; have HO111 := n2_; have HO116 := n3_; have HB := n4_; clear n0_ n1_ n2_ n3_ n4_; (try clear hb); (try clear hb2); (try clear hk); (try clear hi); (try clear ho0); obtain ⟨Ao51, co51, eo51⟩ := Kd.R_slice HO108.out; subst eo51))
  go_ret
  exact ⟨by first | rfl | (simp [errW_none, errW_some] <;> rfl) | (simp [*, errW_none, errW_some] <;> rfl), by repeat (first | (with_reducible first | exact HB.out | apply below_alloc | apply pw_below_drewN | apply below_drew1) | exact HB.out)⟩

end Go.Proofs.YtdnfmilnkoocdaaDoor.Q
