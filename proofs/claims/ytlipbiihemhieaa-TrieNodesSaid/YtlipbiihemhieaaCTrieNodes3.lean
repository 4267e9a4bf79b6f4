/- Part 3 of 4 of the proof of TrieNodes: all nodes of a trie For every input; no condition. -/
import Derived.Test.YtlipbiihemhieaaCTrieNodes1
import Derived.Test.YtlipbiihemhieaaCTrieNodes2
import Derived.Sort.LoopGhostIn
import Derived.WalkSpells
import Derived.Lib.LazyBuf
import Derived.Deep.RegionHeld3
import Derived.RangeFuncLeaves
import Derived.RangeFuncBox

-- from Qf18
-- Made by hp.py, a program of this session, with the kit's printer. Not trusted: Lean checks it.
namespace Go.Proofs.Ytlipbiihemhieaa.Q
open Go.RowKit Go.Proofs.YtlipbiihemhieaaW.PrintWords Go.Proofs.YtlipbiihemhieaaW.PrintLast Go.Proofs.YtlipbiihemhieaaW.PrintMore
attribute [local go_sem] max2_int min2_int max_two min_two max_three min_three max_four min_four   -- for this text's walks alone
set_option linter.unusedVariables false
set_option linter.unusedSimpArgs false

/-! ### order_Skip: function 18 -/
def order_Skip.l0 : Nat → List Int → List Int → Option (List Int × Bool)
  | 0, _, _ => none
  | k + 1, x0, x8 => if (x8.length : Int) > 0 then (if 0 ≤ (wrap64 ((x8.length : Int) - 1)) then (if (wrap64 ((x8.length : Int) - 1)) < (x8.length : Int) then ((slices_BinarySearch_int_int.f k x0 (rd x8 (wrap64 ((x8.length : Int) - 1)))).bind fun bt106 => (if (wrap64 (bt106.1 + 1)) < (x0.length : Int) then (if 0 ≤ (wrap64 (bt106.1 + 1)) then (some ((x8.set ((wrap64 ((x8.length : Int) - 1)) : Int).toNat (rd x0 (wrap64 (bt106.1 + 1)))), true)) else (none)) else (if (wrap64 ((x8.length : Int) - 1)) ≤ (x8.length : Int) then (order_Skip.l0 k x0 (x8.take ((wrap64 ((x8.length : Int) - 1)) : Int).toNat)) else (none)))) else (none)) else (none)) else (some (([] : List Int), false))
def order_Skip.f (k : Nat) (l0 : List Int) (l1 : List Int) (a2 : Int) : Option (List Int × Bool) := (order_over.f k l0 l1 a2).bind fun t101 => (if t101 = true then ((slices_Clone_int_int.f l1).bind fun t102 => (order_Skip.l0 k l0 t102)) else (some (([] : List Int), false)))
theorem order_Skip.mono_l : ∀ k, (∀ y0 y1, LeO (order_Skip.l0 k y0 y1) (order_Skip.l0 (k + 1) y0 y1))
  | 0 => fun _ _ r h => by simp [order_Skip.l0] at h
  | k + 1 => by
    have ih0 := order_Skip.mono_l k
    · intro y0 y1
      unfold order_Skip.l0
      repeat' first
      | (with_reducible exact ih0 _ _)
      | (with_reducible exact order_over.mono _ _ _ _)
      | (with_reducible exact slices_BinarySearch_int_int.mono _ _ _)
      | (with_reducible exact LeO.refl _)
      | (with_reducible exact LeO.none _)
      | (with_reducible refine LeO.ite ?_ ?_)
      | (with_reducible refine LeO.bind ?_ (fun _ => ?_))
      | exact ih0 _ _
      | exact order_over.mono _ _ _ _
      | exact slices_BinarySearch_int_int.mono _ _ _
      | exact LeO.none _
      | refine LeO.ite ?_ ?_
      | refine LeO.bind ?_ (fun _ => ?_)
theorem order_Skip.mono : ∀ a0 a1 a2 k, LeO (order_Skip.f k a0 a1 a2) (order_Skip.f (k + 1) a0 a1 a2) := by
  intro a0 a1 a2 k
  have ih0 := order_Skip.mono_l k
  unfold order_Skip.f
  repeat' first
      | (with_reducible exact ih0 _ _)
      | (with_reducible exact order_over.mono _ _ _ _)
      | (with_reducible exact slices_BinarySearch_int_int.mono _ _ _)
      | (with_reducible exact LeO.refl _)
      | (with_reducible exact LeO.none _)
      | (with_reducible refine LeO.ite ?_ ?_)
      | (with_reducible refine LeO.bind ?_ (fun _ => ?_))
      | exact ih0 _ _
      | exact order_over.mono _ _ _ _
      | exact slices_BinarySearch_int_int.mono _ _ _
      | exact LeO.none _
      | refine LeO.ite ?_ ?_
      | refine LeO.bind ?_ (fun _ => ?_)
set_option maxHeartbeats 8000000 in
set_option maxRecDepth 100000 in
theorem order_Skip.calls (k : Nat) (A0 : Option Addr) (c0 : Nat) (l0 : List Int) (A1 : Option Addr) (c1 : Nat) (l1 : List Int) (a2 : Int) (r1 : List Int) (r2 : Bool) (w : World) (hr0 : Kd.C (Kd.int .i64) w A0 l0.length l0) (hc0 : l0.length ≤ c0) (hr1 : Kd.C (Kd.int .i64) w A1 l1.length l1) (hc1 : l1.length ≤ c1) (h : order_Skip.f k l0 l1 a2 = some (r1, r2)) :
    Calls Try.prog 18 #[.slice A0 l0.length c0, .slice A1 l1.length c1, .int .i64 a2] w fun e w' => ∃ v0_ : Value, e = .returned (.tuple #[v0_, .bool r2]) ∧ Kd.R (Kd.int .i64) 3 w' w.heap.size (fun _ => True) v0_ r1 ∧ Below w.heap.size w w' := by
  have HR0 := Aside0.mk hr0
  have HC0 := Aside0.mk hc0
  clear hr0 hc0
  have HR1 := Aside0.mk hr1
  have HC1 := Aside0.mk hc1
  clear hr1 hc1
  have HB := Aside0.mk (Below.refl w.heap.size w)
  have H : ((order_over.f k l0 l1 a2).bind fun t101 => (if t101 = true then ((slices_Clone_int_int.f l1).bind fun t102 => (order_Skip.l0 k l0 t102)) else (some (([] : List Int), false)))) = some (r1, r2) := h
  clear h
  replace H := Option.bind_eq_some_iff.mp H
  obtain ⟨t101, A40, H⟩ := H
  replace H : (if t101 = true then ((slices_Clone_int_int.f l1).bind fun t102 => (order_Skip.l0 k l0 t102)) else (some (([] : List Int), false))) = some (r1, r2) := H
  have A4 := Aside0.mk A40
  clear A40
  by_cases c5 : t101 = true
  · subst c5
    have H1 : ((slices_Clone_int_int.f l1).bind fun t102 => (order_Skip.l0 k l0 t102)) = some (r1, r2) := by rw [if_pos rfl] at H; exact H
    clear H
    have H := H1
    clear H1
    replace H := Option.bind_eq_some_iff.mp H
    obtain ⟨t102, A60, H⟩ := H
    replace H : (order_Skip.l0 k l0 t102) = some (r1, r2) := H
    have A6 := Aside0.mk A60
    clear A60
    have H' := Aside0.mk H
    clear H
    go_enter Try.func18, Try.ntmps18
    go_wp2_with (first | ((with_reducible refine gate_callee (f := 56) rfl ?_); refine goesL_ (some 15) rfl rfl Try.func56 (by kernel_rfl) rfl #[.slice A0 l0.length c0, .slice A1 l1.length c1, .int .i64 a2] rfl (by (try simp only [List.map_toArray, List.map_cons, List.map_nil]); first | done | rfl | (simp only [List.length_drop, List.length_take]; rfl)) ?_; (with_reducible refine (order_over.calls k _ _ l0 _ _ l1 a2 true _ ?side1 ?side2 ?side3 ?side4 A4.out).mono ?_); (case side1 => repeat (first | exact HR0.out | (with_reducible refine Kd.C_alloc ?_ _) | (with_reducible refine Kd.C_drewN ?_ _) | (with_reducible refine Kd.C_drew ?_))); (case side2 => exact HC0.out); (case side3 => repeat (first | exact HR1.out | (with_reducible refine Kd.C_alloc ?_ _) | (with_reducible refine Kd.C_drewN ?_ _) | (with_reducible refine Kd.C_drew ?_))); (case side4 => exact HC1.out); rintro e w7 ⟨rfl, hb⟩; refine ⟨_, rfl, ?_⟩; have n0_ := Aside0.mk (below_step (by repeat (first | (with_reducible first | exact HB.out | apply below_alloc | apply pw_below_drewN | apply below_drew1) | exact HB.out)) hb); clear HB; have HB := n0_; clear n0_; (try clear hb); (try clear hb2); (try clear hk); (try clear hi)) | ((with_reducible refine gate_callee (f := 57) rfl ?_); refine goesL_ (some 18) rfl rfl Try.func57 (by kernel_rfl) rfl #[.slice A1 l1.length c1] rfl (by (try simp only [List.map_toArray, List.map_cons, List.map_nil]); first | done | rfl | (simp only [List.length_drop, List.length_take]; rfl)) ?_; (with_reducible refine (slices_Clone_int_int.calls _ _ l1 t102 _ ?side1 ?side2 A6.out).mono ?_); (case side1 => repeat (first | exact (Kd.C_below HR1.out HB.out) | (with_reducible refine Kd.C_alloc ?_ _) | (with_reducible refine Kd.C_drewN ?_ _) | (with_reducible refine Kd.C_drew ?_))); (case side2 => exact HC1.out); rintro e w8 ⟨v103, rfl, ho0, hb⟩; refine ⟨_, rfl, ?_⟩; have n0_ := Aside0.mk (Kd.R_lower ho0 (below_size (by repeat (first | (with_reducible first | exact HB.out | apply below_alloc | apply pw_below_drewN | apply below_drew1) | exact HB.out)))); have n1_ := Aside0.mk (below_step (by repeat (first | (with_reducible first | exact HB.out | apply below_alloc | apply pw_below_drewN | apply below_drew1) | exact HB.out)) hb); clear HB; have HO104 := n0_; have HB := n1_; clear n0_ n1_; (try clear hb); (try clear hb2); (try clear hk); (try clear hi); (try clear ho0)))
    go_loopg [8] k (fun kq v8 w' => ∃ (x8_1 : List Int), Aside0 (order_Skip.l0 kq l0 x8_1 = some (r1, r2)) ∧ Aside0 (kq ≤ k) ∧ Aside0 (Kd.R (Kd.int .i64) 3 w' w.heap.size (fun _ => True) v8 x8_1) ∧ Aside0 (Below w.heap.size w w'))
    case atStart => exact ⟨(t102), H', ⟨Nat.le_refl _⟩, ⟨by (with_reducible repeat (first | apply Kd.R_alloc | apply Kd.R_drewN | apply Kd.R_drew)); exact HO104.out⟩, ⟨by repeat (first | (with_reducible first | exact HB.out | apply below_alloc | apply pw_below_drewN | apply below_drew1) | exact HB.out)⟩⟩
    case round =>
      clear H'
      try clear c1
      try clear p2
      try clear c5
      obtain ⟨x8_1, HA, HK1, HO_8, HB⟩ := hrel
      cases gk with
      | zero => exact absurd HA.out (by simp [order_Skip.l0])
      | succ k1 =>
        have H := HA.out
        clear HA
        simp only [order_Skip.l0] at H
        by_cases c9 : (x8_1.length : Int) > 0
        · rw [if_pos c9] at H
          have c9b0 : decide (0 < (x8_1.length : Int)) = true := decide_eq_true c9
          have c9b1 : decide (0 < x8_1.length) = true := decide_eq_true (by omega)
          clear c9
          obtain ⟨ji10, hji10⟩ : ∃ j_ : Int, (wrap64 ((x8_1.length : Int) - 1)) = j_ := ⟨_, rfl⟩
          replace H : (if 0 ≤ (ji10) then (if (ji10) < (x8_1.length : Int) then ((slices_BinarySearch_int_int.f k1 l0 (rd x8_1 (ji10))).bind fun bt106 => (if (wrap64 (bt106.1 + 1)) < (l0.length : Int) then (if 0 ≤ (wrap64 (bt106.1 + 1)) then (some ((x8_1.set ((ji10) : Int).toNat (rd l0 (wrap64 (bt106.1 + 1)))), true)) else (none)) else (if (ji10) ≤ (x8_1.length : Int) then (order_Skip.l0 k1 l0 (x8_1.take ((ji10) : Int).toNat)) else (none)))) else (none)) else (none)) = some (r1, r2) := by first | (rw [hji10] at H; exact H) | (simp only [hji10] at H ⊢; exact H)
          have hji10w : (IntKind.i64.wrap ((x8_1.length : Int) - 1)) = ji10 := (i64_w _).trans hji10
          by_cases c11 : 0 ≤ (ji10)
          · rw [if_pos c11] at H
            have c11b0 : decide (0 ≤ (ji10)) = true := decide_eq_true c11
            clear c11
            by_cases c12 : (ji10) < (x8_1.length : Int)
            · rw [if_pos c12] at H
              have c12b0 : decide ((ji10) < (x8_1.length : Int)) = true := decide_eq_true c12
              clear c12
              replace H := Option.bind_eq_some_iff.mp H
              obtain ⟨⟨t106, t107⟩, A130, H⟩ := H
              replace H : (if (wrap64 (t106 + 1)) < (l0.length : Int) then (if 0 ≤ (wrap64 (t106 + 1)) then (some ((x8_1.set ((ji10) : Int).toNat (rd l0 (wrap64 (t106 + 1)))), true)) else (none)) else (if (ji10) ≤ (x8_1.length : Int) then (order_Skip.l0 k1 l0 (x8_1.take ((ji10) : Int).toNat)) else (none))) = some (r1, r2) := H
              have A13 := Aside0.mk A130
              clear A130
              by_cases c14 : (wrap64 (t106 + 1)) < (l0.length : Int)
              · rw [if_pos c14] at H
                have c14b0 : decide ((wrap64 (t106 + 1)) < (l0.length : Int)) = true := decide_eq_true c14
                clear c14
                obtain ⟨ji15, hji15⟩ : ∃ j_ : Int, (wrap64 (t106 + 1)) = j_ := ⟨_, rfl⟩
                replace H : (if 0 ≤ (ji15) then (some ((x8_1.set ((ji10) : Int).toNat (rd l0 (ji15))), true)) else (none)) = some (r1, r2) := by first | (rw [hji15] at H; exact H) | (simp only [hji15] at H ⊢; exact H)
                (try rw [hji15] at c14b0)
                (try rw [hji15] at A13)
                have hji15w : (IntKind.i64.wrap (t106 + 1)) = ji15 := (i64_w _).trans hji15
                by_cases c16 : 0 ≤ (ji15)
                · rw [if_pos c16] at H
                  have c16b0 : decide (0 ≤ (ji15)) = true := decide_eq_true c16
                  clear c16
                  obtain ⟨y109, hy109⟩ : ∃ y_ : List Int, y_ = (x8_1.set ((ji10) : Int).toNat (rd l0 (ji15))) := ⟨_, rfl⟩
                  replace H : (some (y109, true)) = some (r1, r2) := by first | (rw [hy109]; with_reducible exact H) | (have H2_ := (Option.bind_some _ _).symm.trans H; rw [hy109]; with_reducible exact H2_) | (have H2_ := (Option.bind_some _ _).symm.trans H; with_reducible exact H2_) | with_reducible exact H | (rw [hy109]; exact H) | exact H
                  have Ny109 := Aside0.mk hy109
                  clear hy109
                  simp only [Option.some.injEq, Prod.mk.injEq] at H
                  obtain ⟨rfl, rfl⟩ := H
                  obtain ⟨Ao18, co18, eo18⟩ := Kd.R_slice HO_8.out
                  subst eo18
                  have p105 : 0 ≤ ((ji10) : Int) := of_decide_eq_true (by first | (with_reducible assumption) | assumption)
                  have q105 : (ji10) < (x8_1.length : Int) := of_decide_eq_true (by first | (with_reducible assumption) | assumption)
                  obtain ⟨ad105, e105, hx105_0⟩ := Kd.at_int (Kd.R_reads' HO_8.out).2.2 (ji10) p105 q105
                  cases e105
                  replace p105 := eq_true p105
                  replace q105 := eq_true q105
                  go_wp2_with (first | ((with_reducible refine gate_callee (f := 58) rfl ?_); refine goesL_ (some 31) rfl rfl Try.func58 (by kernel_rfl) rfl #[.slice A0 l0.length c0, .int .i64 (rd x8_1 (ji10))] rfl (by (try simp only [List.map_toArray, List.map_cons, List.map_nil]); first | done | (simp only [hji10]; rfl) | rfl | (simp only [List.length_drop, List.length_take]; rfl)) ?_; (with_reducible refine (slices_BinarySearch_int_int.calls k1 _ _ l0 (rd x8_1 (ji10)) t106 t107 _ ?side1 ?side2 A13.out).mono ?_); (case side1 => repeat (first | exact (Kd.C_below HR0.out HB.out) | (with_reducible refine Kd.C_alloc ?_ _) | (with_reducible refine Kd.C_drewN ?_ _) | (with_reducible refine Kd.C_drew ?_))); (case side2 => exact HC0.out); rintro e w' ⟨rfl, ⟨nd, rfl⟩⟩; refine ⟨_, rfl, ?_⟩; (try (rw [drewN_self wr]; generalize hq_ : World.drewN wr _ = wr; have n0_ : Aside0 (Kd.R (Kd.int .i64) 3 wr w.heap.size (fun _ => True) (.slice (some ad105) x8_1.length co18) x8_1) := ⟨by rw [← hq_]; exact (by (with_reducible repeat (first | apply Kd.R_alloc | apply Kd.R_drewN | apply Kd.R_drew)); exact HO_8.out)⟩; have n1_ : Aside0 (Below w.heap.size w wr) := ⟨by rw [← hq_]; exact (by repeat (first | (with_reducible first | exact HB.out | apply below_alloc | apply pw_below_drewN | apply below_drew1) | exact HB.out))⟩; clear HO_8 HB hq_; have HO_8 := n0_; have HB := n1_; clear n0_ n1_)); have p108 : 0 ≤ ((ji15) : Int) := of_decide_eq_true (by first | (with_reducible assumption) | assumption); have q108 : (ji15) < (l0.length : Int) := of_decide_eq_true (by first | (with_reducible assumption) | assumption); obtain ⟨ad108, e108, hx108_0⟩ := Kd.at_int HR0.out (ji15) p108 q108; cases e108; replace hx108_0 := (HB.out.cell (World.block_lt_of_cell? w _ hx108_0)).trans hx108_0; replace p108 := eq_true p108; replace q108 := eq_true q108; have p17 : 0 ≤ ((ji10) : Int) := of_decide_eq_true (by first | (with_reducible assumption) | assumption); have q17 : ((ji10) : Int) < ((x8_1.length : Int) : Int) := of_decide_eq_true (by first | (with_reducible assumption) | assumption); obtain ⟨go17, co17, eo17, gb17, gl17, cl17, HG17⟩ := Kd.R_form HO_8.out (by omega); (first | cases eo17 | (injection eo17 with ea_ en_ ec_; (first | subst ea_ | (injection ea_ with ea_; subst ea_)); subst ec_; clear en_)); have GB17 := Aside0.mk gb17; have GG17 := Aside0.mk HG17; clear gb17 gl17 HG17; (first | simp only [add_plain] at hx105_0 | skip); obtain ⟨hx17_0, hf17_0⟩ := Kd.R_celln 0 HO_8.out ((ji10) : Int) p17 q17; replace p17 := eq_true p17; replace q17 := eq_true q17; obtain ⟨hy19_, hz19_⟩ := Kd.R_celln 0 HO_8.out ((ji10) : Int) (of_decide_eq_true (by first | (with_reducible assumption) | assumption)) (of_decide_eq_true (by first | (with_reducible assumption) | assumption)); have HP19 := Kd.R_putg HO_8.out ((ji10) : Int) (rd l0 (ji15))) | ((with_reducible refine gate_store (t := 3) (p := 46) rfl ?_); refine store_event (t := 3) (p := 46) (v := ?vo_w20) (w1 := (wr.setCell ⟨go17, ((ji10) : Int).toNat, none⟩ (.int .i64 (rd l0 (ji15))))) ?hg ?ho ?hn ?hr ?_; (case ho => rfl); (case hg => rfl); (case hn => rfl); (case hr => first | (go_simp; done) | (go_simp; rfl)); intro w20 hw; have hg : wr.grownBy w20 (some go17) := (by rw [hw]; exact HP19.2); have hp_ : Kd.R (Kd.int .i64) 3 w20 w.heap.size (fun _ => True) (.slice (some ⟨go17, 0, none⟩) x8_1.length co18) y109 := (by rw [hw, Ny109.out]; exact HP19.1); clear HP19; have n0_ := Aside0.mk (hp_); have n1_ := Aside0.mk ((by rw [hw]; exact below_set (HB.out) GB17.out : Below w.heap.size w w20)); clear HO_8; clear HB; have HO_8 := n0_; have HB := n1_; clear n0_ n1_; clear hg hw hp_))
                  go_ret2
                  exact ⟨_, by first | rfl | (simp [errW_none, errW_some] <;> rfl) | (simp only [← hji10, ← hji15]; first | rfl | (simp [errW_none, errW_some] <;> rfl)) | (simp [*, errW_none, errW_some] <;> rfl), by (with_reducible repeat (first | apply Kd.R_alloc | apply Kd.R_drewN | apply Kd.R_drew)); exact HO_8.out, by repeat (first | (with_reducible first | exact HB.out | apply below_alloc | apply pw_below_drewN | apply below_drew1) | exact HB.out)⟩
                · rw [if_neg c16] at H
                  exact absurd H (by simp)
              · rw [if_neg c14] at H
                have c14b0 : decide ((wrap64 (t106 + 1)) < (l0.length : Int)) = false := decide_eq_false c14
                clear c14
                by_cases c21 : (ji10) ≤ (x8_1.length : Int)
                · rw [if_pos c21] at H
                  have c21b0 := eq_true c21
                  have c21b1 : decide ((ji10) ≤ (x8_1.length : Int)) = true := decide_eq_true c21
                  clear c21
                  obtain ⟨y110, hy110⟩ : ∃ y_ : List Int, y_ = (x8_1.take ((ji10) : Int).toNat) := ⟨_, rfl⟩
                  replace H : (order_Skip.l0 k1 l0 y110) = some (r1, r2) := by first | (rw [hy110]; with_reducible exact H) | (have H2_ := (Option.bind_some _ _).symm.trans H; rw [hy110]; with_reducible exact H2_) | (have H2_ := (Option.bind_some _ _).symm.trans H; with_reducible exact H2_) | with_reducible exact H | (rw [hy110]; exact H) | exact H
                  have Ny110 := Aside0.mk hy110
                  clear hy110
                  have H' := Aside0.mk H
                  clear H
                  obtain ⟨Ao22, co22, eo22⟩ := Kd.R_slice HO_8.out
                  subst eo22
                  have p105 : 0 ≤ ((ji10) : Int) := of_decide_eq_true (by first | (with_reducible assumption) | assumption)
                  have q105 : (ji10) < (x8_1.length : Int) := of_decide_eq_true (by first | (with_reducible assumption) | assumption)
                  obtain ⟨ad105, e105, hx105_0⟩ := Kd.at_int (Kd.R_reads' HO_8.out).2.2 (ji10) p105 q105
                  cases e105
                  replace p105 := eq_true p105
                  replace q105 := eq_true q105
                  go_wp2_with (first | ((with_reducible refine gate_callee (f := 58) rfl ?_); refine goesL_ (some 31) rfl rfl Try.func58 (by kernel_rfl) rfl #[.slice A0 l0.length c0, .int .i64 (rd x8_1 (ji10))] rfl (by (try simp only [List.map_toArray, List.map_cons, List.map_nil]); first | done | (simp only [hji10]; rfl) | rfl | (simp only [List.length_drop, List.length_take]; rfl)) ?_; (with_reducible refine (slices_BinarySearch_int_int.calls k1 _ _ l0 (rd x8_1 (ji10)) t106 t107 _ ?side1 ?side2 A13.out).mono ?_); (case side1 => repeat (first | exact (Kd.C_below HR0.out HB.out) | (with_reducible refine Kd.C_alloc ?_ _) | (with_reducible refine Kd.C_drewN ?_ _) | (with_reducible refine Kd.C_drew ?_))); (case side2 => exact HC0.out); rintro e w' ⟨rfl, ⟨nd, rfl⟩⟩; refine ⟨_, rfl, ?_⟩; have q23 : ((ji10) : Int) ≤ ((x8_1.length : Int) : Int) := of_decide_eq_true (by first | (with_reducible assumption) | assumption); obtain ⟨i023, hi023, _, hsz23, _⟩ := info_parts info3; have hcut23 := cut_to (P := Try.prog) 22 3 .i64 Try.underlying22 hi023 (some ad105) x8_1.length co22 (ji10) (of_decide_eq_true (by first | (with_reducible assumption) | assumption)) q23 (Kd.R_reads' HO_8.out).2.1; have hr23 := Kd.R_take (m := ((ji10) : Int).toNat) HO_8.out (by omega); have hy23 : y110.length = ((ji10) : Int).toNat := (by rw [Ny110.out, List.length_take]; omega); rw [← Ny110.out] at hr23; rw [← hy23] at hr23 hcut23; clear hy23 hi023 hsz23 HO_8; have HO112 := Aside0.mk hr23; clear hr23; replace q23 := eq_true q23))
                  go_roundg k1
                  case measure => have := HK1.out; omega
                  case rel => exact ⟨(y110), H', ⟨by have := HK1.out; omega⟩, ⟨by (with_reducible repeat (first | apply Kd.R_alloc | apply Kd.R_drewN | apply Kd.R_drew)); exact HO112.out⟩, ⟨by repeat (first | (with_reducible first | exact HB.out | apply below_alloc | apply pw_below_drewN | apply below_drew1) | exact HB.out)⟩⟩
                · rw [if_neg c21] at H
                  exact absurd H (by simp)
            · rw [if_neg c12] at H
              exact absurd H (by simp)
          · rw [if_neg c11] at H
            exact absurd H (by simp)
        · rw [if_neg c9] at H
          have c9b0 : decide (0 < (x8_1.length : Int)) = false := decide_eq_false c9
          have c9b1 : decide (0 < x8_1.length) = false := decide_eq_false (by omega)
          clear c9
          simp only [Option.some.injEq, Prod.mk.injEq] at H
          obtain ⟨rfl, rfl⟩ := H
          obtain ⟨Ao24, co24, eo24⟩ := Kd.R_slice HO_8.out
          subst eo24
          go_wp2
          go_ret2
          exact ⟨_, by first | rfl | (simp [errW_none, errW_some] <;> rfl) | (simp [*, errW_none, errW_some] <;> rfl), by first | exact Kd.R_nil _ _ _ _ _ | exact Kd.N_nil _ _ _ _ _ | exact Kd.V_nil _ _ _ _ _ | exact Kd.Q_nil _ _ _ _ _ | exact Kd.S_nil _ _ _ _ _, by repeat (first | (with_reducible first | exact HB.out | apply below_alloc | apply pw_below_drewN | apply below_drew1) | exact HB.out)⟩
  · replace c5 := Bool.eq_false_iff.mpr c5
    subst c5
    have H1 : (some (([] : List Int), false)) = some (r1, r2) := by rw [if_neg (show ¬ (false = true) by decide)] at H; exact H
    clear H
    have H := H1
    clear H1
    simp only [Option.some.injEq, Prod.mk.injEq] at H
    obtain ⟨rfl, rfl⟩ := H
    go_enter Try.func18, Try.ntmps18
    go_wp2_with (first | ((with_reducible refine gate_callee (f := 56) rfl ?_); refine goesL_ (some 15) rfl rfl Try.func56 (by kernel_rfl) rfl #[.slice A0 l0.length c0, .slice A1 l1.length c1, .int .i64 a2] rfl (by (try simp only [List.map_toArray, List.map_cons, List.map_nil]); first | done | rfl | (simp only [List.length_drop, List.length_take]; rfl)) ?_; (with_reducible refine (order_over.calls k _ _ l0 _ _ l1 a2 false _ ?side1 ?side2 ?side3 ?side4 A4.out).mono ?_); (case side1 => repeat (first | exact HR0.out | (with_reducible refine Kd.C_alloc ?_ _) | (with_reducible refine Kd.C_drewN ?_ _) | (with_reducible refine Kd.C_drew ?_))); (case side2 => exact HC0.out); (case side3 => repeat (first | exact HR1.out | (with_reducible refine Kd.C_alloc ?_ _) | (with_reducible refine Kd.C_drewN ?_ _) | (with_reducible refine Kd.C_drew ?_))); (case side4 => exact HC1.out); rintro e w25 ⟨rfl, hb⟩; refine ⟨_, rfl, ?_⟩; have n0_ := Aside0.mk (below_step (by repeat (first | (with_reducible first | exact HB.out | apply below_alloc | apply pw_below_drewN | apply below_drew1) | exact HB.out)) hb); clear HB; have HB := n0_; clear n0_; (try clear hb); (try clear hb2); (try clear hk); (try clear hi)))
    go_ret2
    exact ⟨_, by first | rfl | (simp [errW_none, errW_some] <;> rfl) | (simp [*, errW_none, errW_some] <;> rfl), by first | exact Kd.R_nil _ _ _ _ _ | exact Kd.N_nil _ _ _ _ _ | exact Kd.V_nil _ _ _ _ _ | exact Kd.Q_nil _ _ _ _ _ | exact Kd.S_nil _ _ _ _ _, by repeat (first | (with_reducible first | exact HB.out | apply below_alloc | apply pw_below_drewN | apply below_drew1) | exact HB.out)⟩

end Go.Proofs.Ytlipbiihemhieaa.Q

-- from Qf17
-- Made by hp.py, a program of this session, with the kit's printer. Not trusted: Lean checks it.
namespace Go.Proofs.Ytlipbiihemhieaa.Q
open Go.RowKit Go.Proofs.YtlipbiihemhieaaW.PrintWords Go.Proofs.YtlipbiihemhieaaW.PrintLast Go.Proofs.YtlipbiihemhieaaW.PrintMore
attribute [local go_sem] max2_int min2_int max_two min_two max_three min_three max_four min_four   -- for this text's walks alone
set_option linter.unusedVariables false
set_option linter.unusedSimpArgs false

/-! ### order_Next: function 17 -/
def order_Next.f (k : Nat) (l0 : List Int) (l1 : List Int) (a2 : Int) : Option (List Int × Bool) := (order_over.f k l0 l1 a2).bind fun t101 => (if t101 = true then (if (l1.length : Int) < a2 then ((slices_Clone_int_int.f l1).bind fun t102 => (if 0 < (l0.length : Int) then ((some (([rd l0 0] : List Int) : List Int)).bind fun y106 => (if t102.length + y106.length < 17592186044416 then (some ((t102 ++ y106), true)) else (none))) else (none))) else ((order_Skip.f k l0 l1 a2).bind fun bt112 => (some (bt112.1, bt112.2)))) else (some (([] : List Int), false)))
theorem order_Next.mono : ∀ a0 a1 a2 k, LeO (order_Next.f k a0 a1 a2) (order_Next.f (k + 1) a0 a1 a2) := by
  intro a0 a1 a2 k
  unfold order_Next.f
  repeat' first
      | (with_reducible exact order_Skip.mono _ _ _ _)
      | (with_reducible exact order_over.mono _ _ _ _)
      | (with_reducible exact LeO.refl _)
      | (with_reducible exact LeO.none _)
      | (with_reducible refine LeO.ite ?_ ?_)
      | (with_reducible refine LeO.bind ?_ (fun _ => ?_))
      | exact order_Skip.mono _ _ _ _
      | exact order_over.mono _ _ _ _
      | exact LeO.none _
      | refine LeO.ite ?_ ?_
      | refine LeO.bind ?_ (fun _ => ?_)
def order_Next.T4 : Bool × List (List Nat × List Nat) := (true, [([], []), ([0], [0]), ([], []), ([2], [2]), ([3], [3]), ([4], [4]), ([1, 5, 1], [1, 5]), ([6, 6, 0, 1, 2, 3, 4, 5, 6], [6]), ([7, 0, 1, 2, 3, 4, 5, 6, 7], [])])
def order_Next.B4 : List Nat := [0, 1, 0, 4, 12, 28, 63, 127, 255]
theorem order_Next.tab4 : rtab .any (opsOf Try.f17 4) = order_Next.T4 := by kernel_rfl
theorem order_Next.bits4 : waitsOk order_Next.T4.2 order_Next.B4 = true := by kernel_rfl
set_option maxHeartbeats 8000000 in
set_option maxRecDepth 100000 in
theorem order_Next.calls (k : Nat) (A0 : Option Addr) (c0 : Nat) (l0 : List Int) (A1 : Option Addr) (c1 : Nat) (l1 : List Int) (a2 : Int) (r1 : List Int) (r2 : Bool) (w : World) (hr0 : Kd.C (Kd.int .i64) w A0 l0.length l0) (hc0 : l0.length ≤ c0) (hr1 : Kd.C (Kd.int .i64) w A1 l1.length l1) (hc1 : l1.length ≤ c1) (h : order_Next.f k l0 l1 a2 = some (r1, r2)) :
    Calls Try.prog 17 #[.slice A0 l0.length c0, .slice A1 l1.length c1, .int .i64 a2] w fun e w' => ∃ v0_ : Value, e = .returned (.tuple #[v0_, .bool r2]) ∧ Kd.R (Kd.int .i64) 3 w' w.heap.size (fun _ => True) v0_ r1 ∧ Below w.heap.size w w' := by
  have HR0 := Aside0.mk hr0
  have HC0 := Aside0.mk hc0
  clear hr0 hc0
  have HR1 := Aside0.mk hr1
  have HC1 := Aside0.mk hc1
  clear hr1 hc1
  have HB := Aside0.mk (Below.refl w.heap.size w)
  have H : ((order_over.f k l0 l1 a2).bind fun t101 => (if t101 = true then (if (l1.length : Int) < a2 then ((slices_Clone_int_int.f l1).bind fun t102 => (if 0 < (l0.length : Int) then ((some (([rd l0 0] : List Int) : List Int)).bind fun y106 => (if t102.length + y106.length < 17592186044416 then (some ((t102 ++ y106), true)) else (none))) else (none))) else ((order_Skip.f k l0 l1 a2).bind fun bt112 => (some (bt112.1, bt112.2)))) else (some (([] : List Int), false)))) = some (r1, r2) := h
  clear h
  replace H := Option.bind_eq_some_iff.mp H
  obtain ⟨t101, A40, H⟩ := H
  replace H : (if t101 = true then (if (l1.length : Int) < a2 then ((slices_Clone_int_int.f l1).bind fun t102 => (if 0 < (l0.length : Int) then ((some (([rd l0 0] : List Int) : List Int)).bind fun y106 => (if t102.length + y106.length < 17592186044416 then (some ((t102 ++ y106), true)) else (none))) else (none))) else ((order_Skip.f k l0 l1 a2).bind fun bt112 => (some (bt112.1, bt112.2)))) else (some (([] : List Int), false))) = some (r1, r2) := H
  have A4 := Aside0.mk A40
  clear A40
  by_cases c5 : t101 = true
  · subst c5
    have H1 : (if (l1.length : Int) < a2 then ((slices_Clone_int_int.f l1).bind fun t102 => (if 0 < (l0.length : Int) then ((some (([rd l0 0] : List Int) : List Int)).bind fun y106 => (if t102.length + y106.length < 17592186044416 then (some ((t102 ++ y106), true)) else (none))) else (none))) else ((order_Skip.f k l0 l1 a2).bind fun bt112 => (some (bt112.1, bt112.2)))) = some (r1, r2) := by rw [if_pos rfl] at H; exact H
    clear H
    have H := H1
    clear H1
    by_cases c6 : (l1.length : Int) < a2
    · rw [if_pos c6] at H
      have c6b0 : decide ((l1.length : Int) < a2) = true := decide_eq_true c6
      clear c6
      replace H := Option.bind_eq_some_iff.mp H
      obtain ⟨t102, A70, H⟩ := H
      replace H : (if 0 < (l0.length : Int) then ((some (([rd l0 0] : List Int) : List Int)).bind fun y106 => (if t102.length + y106.length < 17592186044416 then (some ((t102 ++ y106), true)) else (none))) else (none)) = some (r1, r2) := H
      have A7 := Aside0.mk A70
      clear A70
      by_cases c8 : 0 < (l0.length : Int)
      · rw [if_pos c8] at H
        have c8b0 : decide (0 < (l0.length : Int)) = true := decide_eq_true c8
        have c8b1 : decide (0 < l0.length) = true := decide_eq_true (by omega)
        clear c8
        obtain ⟨y106, hy106⟩ : ∃ y_ : List Int, y_ = (([rd l0 0] : List Int)) := ⟨_, rfl⟩
        replace H : (if t102.length + y106.length < 17592186044416 then (some ((t102 ++ y106), true)) else (none)) = some (r1, r2) := by first | (rw [hy106]; with_reducible exact H) | (have H2_ := (Option.bind_some _ _).symm.trans H; rw [hy106]; with_reducible exact H2_) | (have H2_ := (Option.bind_some _ _).symm.trans H; with_reducible exact H2_) | with_reducible exact H | (rw [hy106]; exact H) | exact H
        have Ny106 := Aside0.mk hy106
        clear hy106
        by_cases c9 : t102.length + y106.length < 17592186044416
        · rw [if_pos c9] at H
          have LMc9 := Aside0.mk c9
          clear c9
          obtain ⟨y109, hy109⟩ : ∃ y_ : List Int, y_ = (t102 ++ y106) := ⟨_, rfl⟩
          replace H : (some (y109, true)) = some (r1, r2) := by first | (rw [hy109]; with_reducible exact H) | (have H2_ := (Option.bind_some _ _).symm.trans H; rw [hy109]; with_reducible exact H2_) | (have H2_ := (Option.bind_some _ _).symm.trans H; with_reducible exact H2_) | with_reducible exact H | (rw [hy109]; exact H) | exact H
          have Ny109 := Aside0.mk hy109
          clear hy109
          simp only [Option.some.injEq, Prod.mk.injEq] at H
          obtain ⟨rfl, rfl⟩ := H
          go_enter Try.func17, Try.ntmps17
          try go_wp2_with (first | ((with_reducible refine gate_callee (f := 56) rfl ?_); refine goesL_ (some 12) rfl rfl Try.func56 (by kernel_rfl) rfl #[.slice A0 l0.length c0, .slice A1 l1.length c1, .int .i64 a2] rfl (by (try simp only [List.map_toArray, List.map_cons, List.map_nil]); first | done | rfl | (simp only [List.length_drop, List.length_take]; rfl)) ?_; (with_reducible refine (order_over.calls k _ _ l0 _ _ l1 a2 true _ ?side1 ?side2 ?side3 ?side4 A4.out).mono ?_); (case side1 => repeat (first | exact HR0.out | (with_reducible refine Kd.C_alloc ?_ _) | (with_reducible refine Kd.C_drewN ?_ _) | (with_reducible refine Kd.C_drew ?_))); (case side2 => exact HC0.out); (case side3 => repeat (first | exact HR1.out | (with_reducible refine Kd.C_alloc ?_ _) | (with_reducible refine Kd.C_drewN ?_ _) | (with_reducible refine Kd.C_drew ?_))); (case side4 => exact HC1.out); rintro e w10 ⟨rfl, hb⟩; refine ⟨_, rfl, ?_⟩; have n0_ := Aside0.mk (below_step (by repeat (first | (with_reducible first | exact HB.out | apply below_alloc | apply pw_below_drewN | apply below_drew1) | exact HB.out)) hb); clear HB; have HB := n0_; clear n0_; (try clear hb); (try clear hb2); (try clear hk); (try clear hi)))
          have n0_ := Aside0.mk (below_drew1 HB.out)
          clear HB
          have HB := n0_
          clear n0_
          have p105 : 0 ≤ (0 : Int) := (by omega)
          have q105 : 0 < (l0.length : Int) := of_decide_eq_true (by first | (with_reducible assumption) | assumption)
          obtain ⟨ad105, e105, hx105_0⟩ := Kd.at_int HR0.out 0 p105 q105
          have hw105_0 := hx105_0
          (try rw [show ((0 : Int)).toNat = 0 from rfl] at hw105_0)
          (try rw [show 0 * 1 = 0 from rfl] at hw105_0)
          (try rw [Addr.add_zero'] at hw105_0)
          cases e105
          have qi105 : (0 < l0.length) = True := eq_true (by omega)
          (try rw [show ((0 : Int)).toNat = 0 from rfl] at hx105_0)
          (try rw [Addr.add_zero'] at hx105_0)
          replace hx105_0 := (HB.out.cell (World.block_lt_of_cell? w _ hx105_0)).trans hx105_0
          replace p105 := eq_true p105
          replace q105 := eq_true q105
          refine start_ (n := 9) (S := fun w' => w'.cell? ad105 = some (.int .i64 (rd l0 0))) (ds := []) #[false, false, false, false, false, false, false, false, false] (by kernel_rfl) rfl rfl (((HB.out.cell (World.block_lt_of_cell? w _ hw105_0)).trans hw105_0)) (fun hHeld => ?_); refine with_tabW order_Next.tab4 order_Next.bits4 (fun HT_ HW_ => ?_)
          generalize w10.drew = w11 at HB hx105_0 hHeld ⊢
          refine pure_ (i := 0) (N := some 19) (v := ?_) (a' := ?_) #[true, false, false, false, false, false, false, false, false] rfl rfl (any_of HT_.out (by kernel_rfl)) (fun _ _ _ h => h) (Or.inl ⟨by rfl, ?_⟩) ?_ ?_
          rotate_left
          · intro w'
            go_simp
            with_reducible rfl
          rotate_left
          · simp only [Act.put, List.setIfInBounds_toArray, List.set_cons_zero, List.set_cons_succ, i64_w, i32_w]
            rfl
          refine pure_ (i := 2) (N := some 21) (v := ?_) (a' := ?_) #[true, false, true, false, false, false, false, false, false] rfl rfl (any_of HT_.out (by kernel_rfl)) (fun _ _ _ h => h) (Or.inl ⟨by rfl, ?_⟩) ?_ ?_
          rotate_left
          · intro w'
            go_simp
            with_reducible rfl
          rotate_left
          · simp only [Act.put, List.setIfInBounds_toArray, List.set_cons_zero, List.set_cons_succ, i64_w, i32_w]
            rfl
          refine pure_ (i := 3) (N := some 22) (v := ?_) (a' := ?_) #[true, false, true, true, false, false, false, false, false] rfl rfl (any_of HT_.out (by kernel_rfl)) (fun _ _ _ h => h) (Or.inl ⟨by rfl, ?_⟩) ?_ ?_
          rotate_left
          · intro w'
            go_simp
            with_reducible rfl
          rotate_left
          · simp only [Act.put, List.setIfInBounds_toArray, List.set_cons_zero, List.set_cons_succ, i64_w, i32_w]
            rfl
          refine take_ (i := 4) (N := some 23) (v := ?_) (a' := ?_) #[true, false, true, true, true, false, false, false, false] rfl rfl (take_ofW HT_.out HW_.out (by kernel_rfl)) (fun _ _ _ h => h) (Or.inl ⟨by rfl, ?_⟩) hHeld ?_ ?_
          rotate_left
          · intro w' s0
            go_simp
            with_reducible rfl
          rotate_left
          · simp only [Act.put, List.setIfInBounds_toArray, List.set_cons_zero, List.set_cons_succ, i64_w, i32_w]
            rfl
          refine join_ (σ := Value × Value) 3 #[true, true, true, true, true, true, false, false, false] (fun s_ => [(20, s_.1), (24, s_.2)]) (fun s_ w' => (w'.cell? ad105 = some (.int .i64 (rd l0 0))) ∧ (Kd.R (Kd.int .i64) 3 w' w.heap.size (fun k_ => some k_ ≠ (s_.2 : Value).ownBlock) s_.1 t102) ∧ (Kd.R (Kd.int .i64) 3 w' w.heap.size (fun k_ => some k_ ≠ (s_.1 : Value).ownBlock) s_.2 y106) ∧ (Below w.heap.size w w')) ?_ ?_
          rotate_left
          · intro hCont
            refine two_ (i := 1) (j := 5) (Ni := some 20) (Nj := some 24) #[true, true, true, true, true, false, false, false, false] #[true, false, true, true, true, true, false, false, false] rfl rfl rfl rfl (two_of HT_.out (by kernel_rfl)) (by decide) (by decide) (fun K hK => ?_) (fun K hK => ?_)
            · skip
              refine goes_ Try.func57 (by kernel_rfl) rfl #[.slice A1 l1.length c1] (by rfl) rfl rfl (by (try simp only [List.map_toArray, List.map_cons, List.map_nil]); first | done | rfl | (simp only [List.length_drop, List.length_take]; rfl)) ?_
              with_reducible refine (slices_Clone_int_int.calls _ _ l1 t102 _ ?side1 ?side2 A7.out).mono ?_
              (case side1 => repeat (first | exact (Kd.C_below HR1.out HB.out) | (with_reducible refine Kd.C_alloc ?_ _) | (with_reducible refine Kd.C_drewN ?_ _) | (with_reducible refine Kd.C_drew ?_)))
              (case side2 => exact HC1.out)
              rintro e w12 ⟨v103, rfl, ho0, hb⟩
              refine ⟨_, rfl, ?_⟩
              have n0_ := Aside0.mk (Kd.R_lower ho0 (below_size (by repeat (first | (with_reducible first | exact HB.out | apply below_alloc | apply pw_below_drewN | apply below_drew1) | exact HB.out))))
              have n1_ := Aside0.mk (below_step (by repeat (first | (with_reducible first | exact HB.out | apply below_alloc | apply pw_below_drewN | apply below_drew1) | exact HB.out)) hb)
              clear HB
              have HO104 := n0_
              have HB := n1_
              clear n0_ n1_
              (try clear hb)
              (try clear hb2)
              (try clear hk)
              (try clear hi)
              (try clear ho0)
              refine hK.out _ _ (((HB.out.cell (World.block_lt_of_cell? w _ hw105_0)).trans hw105_0)) (fun hHeld => ?_)
              clear hK K
              refine norm_ (a' := ?_) ?_ ?_
              rotate_left
              · show Act.put _ (some 20) _ = _
                simp only [Act.put, List.setIfInBounds_toArray, List.set_cons_zero, List.set_cons_succ, i64_w, i32_w]
                rfl
              refine one_ (i := 5) (N := some 24) #[true, true, true, true, true, true, false, false, false] rfl rfl (one_of HT_.out (by kernel_rfl)) (by decide) (fun K hK => ?_)
              refine Kd.R_lit_step (Kd.int .i64) _ 3 ?hg (N := 24) ?hd (xs := ([rd l0 0] : List Int)) (inner := [.int .i64 (rd l0 0)]) (ok := fun _ => True) (okp := fun _ => True) ?hr ?hp (fun _ hk => hk) trivial (Below.refl _ _) (Nat.le_refl _) (by simp) ?_; (case hd => rfl); (case hg => rfl); (case hr => first | (go_simp; done) | (go_simp; rfl)); (case hp => exact (Reps.one (show Kd.M (Kd.int .i64) _ _ _ (rd l0 0) [.int .i64 (rd l0 0)] from rfl) (Reps.none _ _)))
              intro v107 w13 ho14 hb hg_ hnew_
              clear hg_ hnew_
              (first | rw [← Ny106.out] at ho14 | (simp only [Int.reduceToNat] at ho14; rw [← Ny106.out] at ho14))
              have n0_ := Aside0.mk (Kd.R_elder' (by (with_reducible repeat (first | apply Kd.R_alloc | apply Kd.R_drewN | apply Kd.R_drew)); exact HO104.out) (Kd.R_base ho14) hb)
              have n1_ := Aside0.mk (Kd.R_lower (Kd.R_new' ho14 (Kd.R_lt (by (with_reducible repeat (first | apply Kd.R_alloc | apply Kd.R_drewN | apply Kd.R_drew)); exact HO104.out))) (below_size (by repeat (first | (with_reducible first | exact HB.out | apply below_alloc | apply pw_below_drewN | apply below_drew1) | exact HB.out))))
              have n2_ := Aside0.mk (below_step (by repeat (first | (with_reducible first | exact HB.out | apply below_alloc | apply pw_below_drewN | apply below_drew1) | exact HB.out)) hb)
              clear HO104
              clear HB
              have HO104 := n0_
              have HO108 := n1_
              have HB := n2_
              clear n0_ n1_ n2_
              clear hb ho14
              refine hK.out _ _ (((HB.out.cell (World.block_lt_of_cell? w _ hw105_0)).trans hw105_0)) (fun hHeld => ?_)
              clear hK K
              refine norm_ (a' := ?_) ?_ ?_
              rotate_left
              · show Act.put _ (some 24) _ = _
                simp only [Act.put, List.setIfInBounds_toArray, List.set_cons_zero, List.set_cons_succ, i64_w, i32_w]
                rfl
              exact norm_ (by simp only [putAll, Act.put, List.setIfInBounds_toArray, List.set_cons_zero, List.set_cons_succ]) (hCont (v103, v107) _ ⟨hHeld, (by (with_reducible repeat (first | apply Kd.R_alloc | apply Kd.R_drewN | apply Kd.R_drew)); exact Kd.R_mono HO104.out (fun _ hk => hk.2)), (by (with_reducible repeat (first | apply Kd.R_alloc | apply Kd.R_drewN | apply Kd.R_drew)); exact Kd.R_mono HO108.out (fun _ hk => hk.2)), (by repeat (first | (with_reducible first | exact HB.out | apply below_alloc | apply pw_below_drewN | apply below_drew1) | exact HB.out))⟩)
            · skip
              refine Kd.R_lit_step (Kd.int .i64) _ 3 ?hg (N := 24) ?hd (xs := ([rd l0 0] : List Int)) (inner := [.int .i64 (rd l0 0)]) (ok := fun _ => True) (okp := fun _ => True) ?hr ?hp (fun _ hk => hk) trivial (Below.refl _ _) (Nat.le_refl _) (by simp) ?_; (case hd => rfl); (case hg => rfl); (case hr => first | (go_simp; done) | (go_simp; rfl)); (case hp => exact (Reps.one (show Kd.M (Kd.int .i64) _ _ _ (rd l0 0) [.int .i64 (rd l0 0)] from rfl) (Reps.none _ _)))
              intro v107 w12 ho13 hb hg_ hnew_
              clear hg_ hnew_
              (first | rw [← Ny106.out] at ho13 | (simp only [Int.reduceToNat] at ho13; rw [← Ny106.out] at ho13))
              have n0_ := Aside0.mk (Kd.R_lower ho13 (below_size (by repeat (first | (with_reducible first | exact HB.out | apply below_alloc | apply pw_below_drewN | apply below_drew1) | exact HB.out))))
              have n1_ := Aside0.mk (below_step (by repeat (first | (with_reducible first | exact HB.out | apply below_alloc | apply pw_below_drewN | apply below_drew1) | exact HB.out)) hb)
              clear HB
              have HO108 := n0_
              have HB := n1_
              clear n0_ n1_
              clear hb ho13
              refine hK.out _ _ (((HB.out.cell (World.block_lt_of_cell? w _ hw105_0)).trans hw105_0)) (fun hHeld => ?_)
              clear hK K
              refine norm_ (a' := ?_) ?_ ?_
              rotate_left
              · show Act.put _ (some 24) _ = _
                simp only [Act.put, List.setIfInBounds_toArray, List.set_cons_zero, List.set_cons_succ, i64_w, i32_w]
                rfl
              refine one_ (i := 1) (N := some 20) #[true, true, true, true, true, true, false, false, false] rfl rfl (one_of HT_.out (by kernel_rfl)) (by decide) (fun K hK => ?_)
              refine goes_ Try.func57 (by kernel_rfl) rfl #[.slice A1 l1.length c1] (by rfl) rfl rfl (by (try simp only [List.map_toArray, List.map_cons, List.map_nil]); first | done | rfl | (simp only [List.length_drop, List.length_take]; rfl)) ?_
              with_reducible refine (slices_Clone_int_int.calls _ _ l1 t102 _ ?side1 ?side2 A7.out).mono ?_
              (case side1 => repeat (first | exact (Kd.C_below HR1.out HB.out) | (with_reducible refine Kd.C_alloc ?_ _) | (with_reducible refine Kd.C_drewN ?_ _) | (with_reducible refine Kd.C_drew ?_)))
              (case side2 => exact HC1.out)
              rintro e w14 ⟨v103, rfl, ho0, hb⟩
              refine ⟨_, rfl, ?_⟩
              have n0_ := Aside0.mk (Kd.R_elder' (by (with_reducible repeat (first | apply Kd.R_alloc | apply Kd.R_drewN | apply Kd.R_drew)); exact HO108.out) (Kd.R_base ho0) hb)
              have n1_ := Aside0.mk (Kd.R_lower (Kd.R_new' ho0 (Kd.R_lt (by (with_reducible repeat (first | apply Kd.R_alloc | apply Kd.R_drewN | apply Kd.R_drew)); exact HO108.out))) (below_size (by repeat (first | (with_reducible first | exact HB.out | apply below_alloc | apply pw_below_drewN | apply below_drew1) | exact HB.out))))
              have n2_ := Aside0.mk (below_step (by repeat (first | (with_reducible first | exact HB.out | apply below_alloc | apply pw_below_drewN | apply below_drew1) | exact HB.out)) hb)
              clear HO108
              clear HB
              have HO108 := n0_
              have HO104 := n1_
              have HB := n2_
              clear n0_ n1_ n2_
              (try clear hb)
              (try clear hb2)
              (try clear hk)
              (try clear hi)
              (try clear ho0)
              refine hK.out _ _ (((HB.out.cell (World.block_lt_of_cell? w _ hw105_0)).trans hw105_0)) (fun hHeld => ?_)
              clear hK K
              refine norm_ (a' := ?_) ?_ ?_
              rotate_left
              · show Act.put _ (some 20) _ = _
                simp only [Act.put, List.setIfInBounds_toArray, List.set_cons_zero, List.set_cons_succ, i64_w, i32_w]
                rfl
              exact norm_ (by simp only [putAll, Act.put, List.setIfInBounds_toArray, List.set_cons_zero, List.set_cons_succ]) (hCont (v103, v107) _ ⟨hHeld, (by (with_reducible repeat (first | apply Kd.R_alloc | apply Kd.R_drewN | apply Kd.R_drew)); exact Kd.R_mono HO104.out (fun _ hk => hk.2)), (by (with_reducible repeat (first | apply Kd.R_alloc | apply Kd.R_drewN | apply Kd.R_drew)); exact Kd.R_mono HO108.out (fun _ hk => hk.2)), (by repeat (first | (with_reducible first | exact HB.out | apply below_alloc | apply pw_below_drewN | apply below_drew1) | exact HB.out))⟩)
          rintro ⟨v103, v107⟩ w15 ⟨hS_, h0_, h1_, h2_⟩
          have n0_ : Aside0 (Kd.R (Kd.int .i64) 3 w15 w.heap.size (fun k_ => some k_ ≠ (v107 : Value).ownBlock) v103 t102) := ⟨h0_⟩
          have n1_ : Aside0 (Kd.R (Kd.int .i64) 3 w15 w.heap.size (fun k_ => some k_ ≠ (v103 : Value).ownBlock) v107 y106) := ⟨h1_⟩
          have n2_ : Aside0 (Below w.heap.size w w15) := ⟨h2_⟩
          clear HB
          clear h0_ h1_ h2_
          have HO104 := n0_
          have HO108 := n1_
          have HB := n2_
          clear n0_ n1_ n2_
          have hHeld : w15.cell? ad105 = some (.int .i64 (rd l0 0)) := hS_
          obtain ⟨Ao17, co17, eo17⟩ := Kd.R_slice HO108.out
          (first | subst eo17 | (injection eo17 with f1_ f2_ f3_; have f4_ := f1_.symm; have f5_ := f3_.symm; clear f1_ f2_ f3_; subst f4_; subst f5_))
          refine norm_ (a' := ?_) ?_ ?_
          rotate_left
          · simp only [putAll, Act.put, List.setIfInBounds_toArray, List.set_cons_zero, List.set_cons_succ]
            rfl
          refine one_ (i := 6) (N := some 25) #[true, true, true, true, true, true, true, false, false] rfl rfl (one_of HT_.out (by kernel_rfl)) (by decide) (fun K hK => ?_)
          refine Kd.R_append_rows_step (Kd.int .i64) (w0 := w) w.heap.size (by rfl) (.tmp 20) (.tmp 24) 22 3 (.int .i64 0) 8 rfl Try.underlying22 info3 rfl (by decide) (by omega) v103 t102 y106 _ _ _ (fun k_ => some k_ ≠ (.slice Ao17 y106.length co17 : Value).ownBlock) (fun _ => False) rfl rfl ?aO ?aR (fun _ _ h => h) (fun _ h => h.elim) ?aF ?aB ?aS ?aL ?_
          (case aR => repeat (first | exact (Kd.R_reads' HO108.out).2.2 | (with_reducible refine Kd.C_alloc ?_ _) | (with_reducible refine Kd.C_drewN ?_ _) | (with_reducible refine Kd.C_drew ?_)))
          (case aB => exact (by repeat (first | (with_reducible first | exact HB.out | apply below_alloc | apply pw_below_drewN | apply below_drew1) | exact HB.out)))
          (case aF => exact (fun k_ hk => Kd.fresh' (Kd.R_lt (by (with_reducible repeat (first | apply Kd.R_alloc | apply Kd.R_drewN | apply Kd.R_drew)); exact HO108.out)) k_ hk))
          (case aO => exact (by (with_reducible repeat (first | apply Kd.R_alloc | apply Kd.R_drewN | apply Kd.R_drew)); exact HO104.out))
          (case aS => exact (below_size (by repeat (first | (with_reducible first | exact HB.out | apply below_alloc | apply pw_below_drewN | apply below_drew1) | exact HB.out))))
          (case aL => have := LMc9.out; omega)
          intro v110 w16 ho hb hg hat
          rw [← Ny109.out] at ho
          have n0_ := Aside0.mk (Kd.R_after (ok := (fun _ => True)) (by (with_reducible repeat (first | apply Kd.R_alloc | apply Kd.R_drewN | apply Kd.R_drew)); exact Kd.R_mono HO108.out (fun _ hk => ⟨trivial, hk⟩)) hg hat)
          have n1_ := Aside0.mk (hb)
          have n2_ := Aside0.mk (ho)
          clear HO108
          clear HB
          clear HO104
          have HO108 := n0_
          have HB := n1_
          have HO111 := n2_
          clear n0_ n1_ n2_
          clear ho hb hg hat
          refine hK.out _ _ (((HB.out.cell (World.block_lt_of_cell? w _ hw105_0)).trans hw105_0)) (fun hHeld => ?_)
          clear hK K
          refine norm_ (a' := ?_) ?_ ?_
          rotate_left
          · show Act.put _ (some 25) _ = _
            simp only [Act.put, List.setIfInBounds_toArray, List.set_cons_zero, List.set_cons_succ, i64_w, i32_w]
            rfl
          refine pure_ (i := 7) (N := some 6) (v := ?_) (a' := ?_) #[true, true, true, true, true, true, true, true, false] rfl rfl (any_of HT_.out (by kernel_rfl)) (fun _ _ _ h => h) (Or.inl ⟨by rfl, ?_⟩) ?_ ?_
          rotate_left
          · intro w'
            go_simp
            with_reducible rfl
          rotate_left
          · simp only [Act.put, List.setIfInBounds_toArray, List.set_cons_zero, List.set_cons_succ, i64_w, i32_w]
            rfl
          refine pure_ (i := 8) (N := some 7) (v := ?_) (a' := ?_) #[true, true, true, true, true, true, true, true, true] rfl rfl (any_of HT_.out (by kernel_rfl)) (fun _ _ _ h => h) (Or.inl ⟨by rfl, ?_⟩) ?_ ?_
          rotate_left
          · intro w'
            go_simp
            with_reducible rfl
          rotate_left
          · simp only [Act.put, List.setIfInBounds_toArray, List.set_cons_zero, List.set_cons_succ, i64_w, i32_w]
            rfl
          refine done_ (done_of HT_.out (by kernel_rfl)) ?_
          try go_wp2
          go_ret2
          exact ⟨_, by first | rfl | (simp [errW_none, errW_some] <;> rfl) | (simp [*, errW_none, errW_some] <;> rfl), by (with_reducible repeat (first | apply Kd.R_alloc | apply Kd.R_drewN | apply Kd.R_drew)); exact Kd.R_mono HO111.out (fun _ hk => trivial), by repeat (first | (with_reducible first | exact HB.out | apply below_alloc | apply pw_below_drewN | apply below_drew1) | exact HB.out)⟩
        · rw [if_neg c9] at H
          exact absurd H (by simp)
      · rw [if_neg c8] at H
        exact absurd H (by simp)
    · rw [if_neg c6] at H
      have c6b0 : decide ((l1.length : Int) < a2) = false := decide_eq_false c6
      clear c6
      replace H := Option.bind_eq_some_iff.mp H
      obtain ⟨⟨t112, t113⟩, A180, H⟩ := H
      replace H : (some (t112, t113)) = some (r1, r2) := H
      have A18 := Aside0.mk A180
      clear A180
      simp only [Option.some.injEq, Prod.mk.injEq] at H
      obtain ⟨rfl, rfl⟩ := H
      go_enter Try.func17, Try.ntmps17
      go_wp2_with (first | ((with_reducible refine gate_callee (f := 56) rfl ?_); refine goesL_ (some 12) rfl rfl Try.func56 (by kernel_rfl) rfl #[.slice A0 l0.length c0, .slice A1 l1.length c1, .int .i64 a2] rfl (by (try simp only [List.map_toArray, List.map_cons, List.map_nil]); first | done | rfl | (simp only [List.length_drop, List.length_take]; rfl)) ?_; (with_reducible refine (order_over.calls k _ _ l0 _ _ l1 a2 true _ ?side1 ?side2 ?side3 ?side4 A4.out).mono ?_); (case side1 => repeat (first | exact HR0.out | (with_reducible refine Kd.C_alloc ?_ _) | (with_reducible refine Kd.C_drewN ?_ _) | (with_reducible refine Kd.C_drew ?_))); (case side2 => exact HC0.out); (case side3 => repeat (first | exact HR1.out | (with_reducible refine Kd.C_alloc ?_ _) | (with_reducible refine Kd.C_drewN ?_ _) | (with_reducible refine Kd.C_drew ?_))); (case side4 => exact HC1.out); rintro e w19 ⟨rfl, hb⟩; refine ⟨_, rfl, ?_⟩; have n0_ := Aside0.mk (below_step (by repeat (first | (with_reducible first | exact HB.out | apply below_alloc | apply pw_below_drewN | apply below_drew1) | exact HB.out)) hb); clear HB; have HB := n0_; clear n0_; (try clear hb); (try clear hb2); (try clear hk); (try clear hi)) | ((with_reducible refine gate_callee (f := 18) rfl ?_); refine goesL_ (some 29) rfl rfl Try.func18 (by kernel_rfl) rfl #[.slice A0 l0.length c0, .slice A1 l1.length c1, .int .i64 a2] rfl (by (try simp only [List.map_toArray, List.map_cons, List.map_nil]); first | done | rfl | (simp only [List.length_drop, List.length_take]; rfl)) ?_; (with_reducible refine (order_Skip.calls k _ _ l0 _ _ l1 a2 t112 t113 _ ?side1 ?side2 ?side3 ?side4 A18.out).mono ?_); (case side1 => repeat (first | exact (Kd.C_below HR0.out HB.out) | (with_reducible refine Kd.C_alloc ?_ _) | (with_reducible refine Kd.C_drewN ?_ _) | (with_reducible refine Kd.C_drew ?_))); (case side2 => exact HC0.out); (case side3 => repeat (first | exact (Kd.C_below HR1.out HB.out) | (with_reducible refine Kd.C_alloc ?_ _) | (with_reducible refine Kd.C_drewN ?_ _) | (with_reducible refine Kd.C_drew ?_))); (case side4 => exact HC1.out); rintro e w20 ⟨v114, rfl, ho0, hb⟩; refine ⟨_, rfl, ?_⟩; have n0_ := Aside0.mk (Kd.R_lower ho0 (below_size (by repeat (first | (with_reducible first | exact HB.out | apply below_alloc | apply pw_below_drewN | apply below_drew1) | exact HB.out)))); have n1_ := Aside0.mk (below_step (by repeat (first | (with_reducible first | exact HB.out | apply below_alloc | apply pw_below_drewN | apply below_drew1) | exact HB.out)) hb); clear HB; have HO115 := n0_; have HB := n1_; clear n0_ n1_; (try clear hb); (try clear hb2); (try clear hk); (try clear hi); (try clear ho0)))
      go_ret2
      exact ⟨_, by first | rfl | (simp [errW_none, errW_some] <;> rfl) | (simp [*, errW_none, errW_some] <;> rfl), by (with_reducible repeat (first | apply Kd.R_alloc | apply Kd.R_drewN | apply Kd.R_drew)); exact HO115.out, by repeat (first | (with_reducible first | exact HB.out | apply below_alloc | apply pw_below_drewN | apply below_drew1) | exact HB.out)⟩
  · replace c5 := Bool.eq_false_iff.mpr c5
    subst c5
    have H1 : (some (([] : List Int), false)) = some (r1, r2) := by rw [if_neg (show ¬ (false = true) by decide)] at H; exact H
    clear H
    have H := H1
    clear H1
    simp only [Option.some.injEq, Prod.mk.injEq] at H
    obtain ⟨rfl, rfl⟩ := H
    go_enter Try.func17, Try.ntmps17
    go_wp2_with (first | ((with_reducible refine gate_callee (f := 56) rfl ?_); refine goesL_ (some 12) rfl rfl Try.func56 (by kernel_rfl) rfl #[.slice A0 l0.length c0, .slice A1 l1.length c1, .int .i64 a2] rfl (by (try simp only [List.map_toArray, List.map_cons, List.map_nil]); first | done | rfl | (simp only [List.length_drop, List.length_take]; rfl)) ?_; (with_reducible refine (order_over.calls k _ _ l0 _ _ l1 a2 false _ ?side1 ?side2 ?side3 ?side4 A4.out).mono ?_); (case side1 => repeat (first | exact HR0.out | (with_reducible refine Kd.C_alloc ?_ _) | (with_reducible refine Kd.C_drewN ?_ _) | (with_reducible refine Kd.C_drew ?_))); (case side2 => exact HC0.out); (case side3 => repeat (first | exact HR1.out | (with_reducible refine Kd.C_alloc ?_ _) | (with_reducible refine Kd.C_drewN ?_ _) | (with_reducible refine Kd.C_drew ?_))); (case side4 => exact HC1.out); rintro e w21 ⟨rfl, hb⟩; refine ⟨_, rfl, ?_⟩; have n0_ := Aside0.mk (below_step (by repeat (first | (with_reducible first | exact HB.out | apply below_alloc | apply pw_below_drewN | apply below_drew1) | exact HB.out)) hb); clear HB; have HB := n0_; clear n0_; (try clear hb); (try clear hb2); (try clear hk); (try clear hi)))
    go_ret2
    exact ⟨_, by first | rfl | (simp [errW_none, errW_some] <;> rfl) | (simp [*, errW_none, errW_some] <;> rfl), by first | exact Kd.R_nil _ _ _ _ _ | exact Kd.N_nil _ _ _ _ _ | exact Kd.V_nil _ _ _ _ _ | exact Kd.Q_nil _ _ _ _ _ | exact Kd.S_nil _ _ _ _ _, by repeat (first | (with_reducible first | exact HB.out | apply below_alloc | apply pw_below_drewN | apply below_drew1) | exact HB.out)⟩

end Go.Proofs.Ytlipbiihemhieaa.Q

-- from Hall
/- order.All: the function value, and what it yields. -/
namespace Go.Proofs.Ytlipbiihemhieaa.Q
open Go.RowKit Go.Shelf Go.Proofs.YtlipbiihemhieaaW.PrintWords Go.Proofs.YtlipbiihemhieaaW.PrintLast Go.Proofs.YtlipbiihemhieaaW.PrintMore
set_option linter.unusedVariables false
set_option linter.unusedSimpArgs false
attribute [local go_sem] Oper.semAt_some

/-- All cells but those of T stay as they are. -/
def KeepC (T : Nat → Prop) (A B : World) : Prop := A.heap.size ≤ B.heap.size ∧ ∀ k o, A.heap[k]? = some o → o.isCells = true → ¬ T k → B.heap[k]? = some o
theorem KeepC.refl (T : Nat → Prop) (A : World) : KeepC T A A := ⟨Nat.le_refl _, fun _ _ h _ _ => h⟩
theorem KeepC.trans {T : Nat → Prop} {A B C : World} (h : KeepC T A B) (k : KeepC T B C) : KeepC T A C := ⟨Nat.le_trans h.1 k.1, fun j o hj hc hn => k.2 j o (h.2 j o hj hc hn) hc hn⟩
theorem KeepC.of_below {T : Nat → Prop} {A B : World} (h : Below A.heap.size A B) : KeepC T A B := ⟨h.size, fun k o hk _ _ => (h.block k (Array.getElem?_eq_some_iff.1 hk).1).trans hk⟩
theorem KeepC.of_set {T : Nat → Prop} {A : World} {p : Addr} {v : Value} (h : T p.block) : KeepC T A (A.setCell p v) := ⟨by simp, fun k o hk _ hn => (Below.heap_setCell A p v k (fun e => hn (e ▸ h))).trans hk⟩
theorem keepC_put {T : Nat → Prop} {w : World} : ∀ (W : World) (l : Nat) (o o' : Obj), w.heap.size ≤ l → W.heap[l]? = some o → o.isCells = false → o.isWalk = false → KeepC T W (W.putObj l o') :=
  fun W l o o' _ ho hc _ => ⟨(grownBy_putObj' W l o').size, fun k ob hk hkc _ => by
    have hne : k ≠ l := fun e => by
      subst e
      rw [ho] at hk
      injection hk with hk
      rw [← hk, hc] at hkc
      cases hkc
    exact (World.putObj_heap_other hne).trans hk⟩
theorem KeepC.boxed {T : Nat → Prop} {A B : World} (h : KeepC T A B) {k : Nat} {t : TypeId} {v : Value} (hb : Boxed A k t v) (hk : ¬ T k) : Boxed B k t v := h.2 k _ hb rfl hk
theorem KeepC.row {T : Nat → Prop} {A B : World} (h : KeepC T A B) {base : Nat} {v : Value} {s : List Int} (hr : Kd.R (Kd.int .i64) 3 A base (fun k => ¬ T k) v s) : Kd.R (Kd.int .i64) 3 B base (fun k => ¬ T k) v s :=
  Kd.R_mono (Kd.R_step (Kd.R_bound hr) (fun k hk _ => by
    obtain ⟨h1, _, _, q, _, cells, hc⟩ := hk
    exact (h.2 k _ hc rfl h1).trans hc.symm)) (fun k hk => hk.1)

/-- The texts that are yielded from a text on. -/
def order_All.texts : Nat → List Int → Int → List Int → Bool → Option (List (List Int))
  | 0, _, _, _, _ => none
  | k + 1, l, n, s, ok => if ok = true then (slices_Clone_int_int.f s).bind fun c => (order_Next.f k l s n).bind fun r => (order_All.texts k l n r.1 r.2).bind fun q => some (c :: q) else some []
def order_All.pts (k : Nat) (l : List Int) (n : Int) : Option (List (List Int)) := (order_First.f k l n).bind fun r => order_All.texts k l n r.1 r.2
theorem order_All.mono_l : ∀ k, (∀ y0 y1 y2 y3, LeO (order_All.texts k y0 y1 y2 y3) (order_All.texts (k + 1) y0 y1 y2 y3))
  | 0 => fun _ _ _ _ r h => by simp [order_All.texts] at h
  | k + 1 => by
    have ih0 := order_All.mono_l k
    intro y0 y1 y2 y3
    unfold order_All.texts
    repeat' first
      | (with_reducible exact ih0 _ _ _ _)
      | (with_reducible exact order_Next.mono _ _ _ _)
      | (with_reducible exact LeO.refl _)
      | (with_reducible exact LeO.none _)
      | (with_reducible refine LeO.ite ?_ ?_)
      | (with_reducible refine LeO.bind ?_ (fun _ => ?_))

set_option maxHeartbeats 2000000 in
set_option maxRecDepth 100000 in
/-- The iterator: every body that keeps all cells but those of T. -/
theorem order_All.stops (k : Nat) (l0 : List Int) (n0 : Int) (xs : List (List Int)) (hx : order_All.pts k l0 n0 = some xs) (B : Nat) (A : Option Addr) (c : Nat) (T : Nat → Prop) (w : World)
    (hT : ∀ k, T k → k < w.heap.size) (hTB : ¬ T B ∧ ¬ T (B + 1)) (hBox : Boxed w B 22 (.slice A l0.length c)) (hBn : Boxed w (B + 1) 3 (.int .i64 n0)) (hR : Kd.R (Kd.int .i64) 3 w 0 (fun k => ¬ T k) (.slice A l0.length c) l0) (n : Nat) (hn : 3 ≤ n) :
    SeqPr Fence.wide n Try.prog 60 #[.pointer (some ⟨B, 0, none⟩), .pointer (some ⟨B + 1, 0, none⟩)] (fun x : Value × List Int => #[x.1]) (KeepC T) (fun x W => Kd.R (Kd.int .i64) 3 W 0 (fun k => ¬ T k) x.1 x.2) (fun ys => ys.map Prod.snd = xs) (fun pre => pre.map Prod.snd <+: xs) w := fun l J Jx W hW hJ hJx hY h0 => by
  refine callsIn_of_wp Try.func60 rfl trivial ?_ rfl
  simp only [Try.ntmps60, List.size_toArray, List.length_cons, List.length_nil, Nat.reduceAdd, Nat.reduceSub, Array.replicate_succ, Array.replicate_zero, List.push_toArray, List.append_toArray, List.nil_append, List.cons_append]
  have KC : Aside0 (KeepC T w W) := ⟨hW.size, fun k o hk _ _ => (hW.block k (Array.getElem?_eq_some_iff.1 hk).1).trans hk⟩
  obtain ⟨⟨s0, b0⟩, hf, hx2⟩ := Option.bind_eq_some_iff.mp hx
  have HT := Aside0.mk hT
  have HTB := Aside0.mk hTB
  have HF := Aside0.mk hf
  have HX := Aside0.mk hx2
  have HRL := Aside0.mk hR
  have HBX := Aside0.mk hBox
  have HBN := Aside0.mk hBn
  have HJ := Aside0.mk hJ
  have HY := Aside0.mk hY
  have H0 := Aside0.mk h0
  have hSz := hW.size
  have HSZ := Aside0.mk hSz
  clear hT hTB hf hx hx2 hR hBox hBn hJ hY h0 hJx hW hSz
  have hcell := (KC.out.boxed HBX.out HTB.out.1).cell
  have hcelln := (KC.out.boxed HBN.out HTB.out.2).cell
  have HR1 := Aside0.mk (KC.out.row HRL.out)
  have hr1 := Kd.R_reads' HR1.out
  have HC := Aside0.mk hr1.2.1
  have HRC := Aside0.mk hr1.2.2
  clear hr1
  have hle1 := HSZ.out
  gi_wp2_with (refine ⟨trivial, (fun h => by cases h), ?_⟩; gi_at_call 23; refine (callsIn_wide.2 (order_First.calls k A c l0 n0 s0 b0 _ HRC.out HC.out HF.out)).mono ?_; rintro e w1 ⟨v, rfl, hv, hb⟩; obtain ⟨A1, c1, rfl⟩ := Kd.R_slice hv; have HV := Aside0.mk (Kd.R_lower (Kd.R_mono (Kd.R_bound hv) (fun j hj hTj => by have := HT.out j hTj; have := hj.2.1; omega : ∀ j, _ → ¬ T j)) (Nat.zero_le _)); have KC1 := Aside0.mk (KC.out.trans (KeepC.of_below hb)); have HJ1 := Aside0.mk (HJ.out _ _ _ none H0.out (grownBy_none_of_below hb) (fun r e => by cases e)); clear hv hb)
  clear hcell hcelln HR1 HC HRC HF H0 KC
  gi_loopg [4, 5] k (fun kq v4 v5 wr => ∃ (A1 : Option Addr) (c1 : Nat) (s : List Int) (ok : Bool) (pre : List (Value × List Int)) (rest : List (List Int)), v4 = .slice A1 s.length c1 ∧ v5 = .bool ok ∧ Aside0 (Kd.R (Kd.int .i64) 3 wr 0 (fun j => ¬ T j) (.slice A1 s.length c1) s) ∧ Aside0 (order_All.texts kq l0 n0 s ok = some rest) ∧ Aside0 (xs = pre.map Prod.snd ++ rest) ∧ Aside0 (J pre wr) ∧ Aside0 (KeepC T w wr))
  case atStart => exact ⟨A1, c1, s0, b0, [], xs, rfl, rfl, HV, HX, ⟨rfl⟩, HJ1, KC1⟩
  case round =>
    clear HV HX HJ1 KC1
    obtain ⟨A1, c1, s, ok, pre, rest, rfl, rfl, HV, HP, HE, HJp, KC⟩ := hrel
    cases gk with
    | zero => exact absurd HP.out (by simp [order_All.texts])
    | succ kq =>
      have H := HP.out
      simp only [order_All.texts] at H
      cases ok with
      | false =>
        rw [if_neg (by decide)] at H
        obtain rfl := (Option.some.inj H)
        clear H HP
        gi_wp2
        go_end0
        exact ⟨⟨_, rfl⟩, .inl ⟨pre, by rw [HE.out, List.append_nil], HJp.out⟩⟩
      | true =>
        rw [if_pos rfl] at H
        obtain ⟨cl, hcl, H⟩ := Option.bind_eq_some_iff.mp H
        obtain ⟨⟨s2, b2⟩, hnx, H⟩ := Option.bind_eq_some_iff.mp H
        obtain ⟨q, hq, H⟩ := Option.bind_eq_some_iff.mp H
        have HR := Aside0.mk (Option.some.inj H)
        have HCL := Aside0.mk hcl
        have HNX := Aside0.mk hnx
        have HQ := Aside0.mk hq
        clear H hcl hnx hq HP
        have hv1 := Kd.R_reads' HV.out
        have HVC := Aside0.mk hv1.2.2
        have HVc := Aside0.mk hv1.2.1
        clear hv1
        gi_wp2_with (refine ⟨trivial, (fun h => by cases h), ?_⟩; gi_at_call 57; refine (callsIn_wide.2 (slices_Clone_int_int.calls A1 c1 s cl _ HVC.out HVc.out HCL.out)).mono ?_; rintro e w2 ⟨v2, rfl, hv2, hb2⟩; have hk2 := KC.out.trans (KeepC.of_below hb2); have hp2 : Kd.R (Kd.int .i64) 3 w2 0 (fun j => ¬ T j) v2 cl := Kd.R_lower (Kd.R_mono (Kd.R_bound hv2) (fun j hj hTj => by have := HT.out j hTj; have := hj.2.1; have := KC.out.1; omega : ∀ j, _ → ¬ T j)) (Nat.zero_le _); have hj2 := HJ.out _ _ _ none HJp.out (grownBy_none_of_below hb2) (fun r e => by cases e); obtain ⟨fn, tmps, assign, body, hy, hR⟩ := HY.out pre (v2, cl) w2 hj2 hp2 ⟨q, by rw [HE.out, ← HR.out]; simp⟩; have HV2 := Aside0.mk (Kd.R_below HV.out hb2); have HK2 := Aside0.mk hk2; have HRR := Aside0.mk hR; clear hv2 hb2 hk2 hp2 hj2 hR)
        refine ⟨fun _ => by omega, ?_⟩
        refine HRR.out.mono ?_
        rintro e W3 (⟨rfl, hJ3, hk3⟩ | ⟨rfl, hJx3⟩)
        · have HJ3 := Aside0.mk hJ3
          have HK3 := Aside0.mk (HK2.out.trans hk3)
          have HV3 := Aside0.mk (hk3.row HV2.out)
          clear hJ3 hk3 HRR hy HV HV2 HK2 HJp
          have hcell := (HK3.out.boxed HBX.out HTB.out.1).cell
          have hcelln := (HK3.out.boxed HBN.out HTB.out.2).cell
          have hl1 := Kd.R_reads' (HK3.out.row HRL.out)
          have HC := Aside0.mk hl1.2.1
          have HRC := Aside0.mk hl1.2.2
          have hv1 := Kd.R_reads' HV3.out
          have HVC := Aside0.mk hv1.2.2
          have HVc := Aside0.mk hv1.2.1
          clear hl1 hv1
          gi_wp2_with (refine ⟨trivial, (fun h => by cases h), ?_⟩; gi_at_call 17; refine (callsIn_wide.2 (order_Next.calls kq A c l0 A1 c1 s n0 s2 b2 _ HRC.out HC.out HVC.out HVc.out HNX.out)).mono ?_; rintro e w4 ⟨v4, rfl, hv4, hb4⟩; obtain ⟨A4, c4, rfl⟩ := Kd.R_slice hv4; have HV4 := Aside0.mk (Kd.R_lower (Kd.R_mono (Kd.R_bound hv4) (fun j hj hTj => by have := HT.out j hTj; have := hj.2.1; have := HK3.out.1; omega : ∀ j, _ → ¬ T j)) (Nat.zero_le _)); have HK4 := Aside0.mk (HK3.out.trans (KeepC.of_below hb4)); have HJ4 := Aside0.mk (HJ.out _ _ _ none HJ3.out (grownBy_none_of_below hb4) (fun r e => by cases e)); clear hv4 hb4)
          gi_roundg kq
          case measure => omega
          case rel => exact ⟨A4, c4, s2, b2, pre ++ [(v2, cl)], q, rfl, rfl, HV4, HQ, ⟨by rw [HE.out, ← HR.out]; simp⟩, HJ4, HK4⟩
        · have HJX := Aside0.mk hJx3
          clear hJx3 HRR hy
          gi_wp2
          refine bodyPost_ret (results_none rfl _ _ _) rfl ?_
          exact ⟨⟨_, rfl⟩, .inr ⟨pre ++ [(v2, cl)], ⟨q, by rw [HE.out, ← HR.out]; simp⟩, HJX.out⟩⟩

set_option maxHeartbeats 1000000 in
set_option maxRecDepth 100000 in
/-- order.All: the function value captures two variables: a copy of the alphabet, and the length. -/
theorem order_All.calls (A0 : Option Addr) (c0 : Nat) (l0 : List Int) (n0 : Int) (r : List Int) (w : World) (hr0 : Kd.C (Kd.int .i64) w A0 l0.length l0) (hc0 : l0.length ≤ c0) (h : slices_Clone_int_int.f l0 = some r) :
    Calls Try.prog 21 #[.slice A0 l0.length c0, .int .i64 n0] w fun e w' => ∃ v : Value, e = .returned (.func (.func 60) #[] #[.pointer (some ⟨w.heap.size, 0, none⟩), .pointer (some ⟨w.heap.size + 1, 0, none⟩)]) ∧ Aside0 (Boxed w' w.heap.size 22 v) ∧ Aside0 (Boxed w' (w.heap.size + 1) 3 (.int .i64 n0)) ∧ Aside0 (Kd.R (Kd.int .i64) 3 w' (w.heap.size + 2) (fun _ => True) v r) ∧ Aside0 (Below w.heap.size w w') ∧ Aside0 (w.heap.size + 2 ≤ w'.heap.size) := by
  have HR := Aside0.mk (Kd.C_alloc (Kd.C_alloc hr0 (.cells #[.slice A0 l0.length c0] 22)) (.cells #[.int .i64 n0] 3))
  have HC := Aside0.mk hc0
  have HH := Aside0.mk h
  clear hr0 hc0 h
  have b1 : Boxed ((w.alloc (.cells #[.slice A0 l0.length c0] 22)).alloc (.cells #[.int .i64 n0] 3)) w.heap.size 22 (.slice A0 l0.length c0) := (Boxed.new w _ _).alloc _
  have b2 : Boxed ((w.alloc (.cells #[.slice A0 l0.length c0] 22)).alloc (.cells #[.int .i64 n0] 3)) (w.heap.size + 1) 3 (.int .i64 n0) := by
    have := Boxed.new (w.alloc (.cells #[.slice A0 l0.length c0] 22)) 3 (.int .i64 n0)
    rwa [World.size_alloc] at this
  have hb : Below w.heap.size w ((w.alloc (.cells #[.slice A0 l0.length c0] 22)).alloc (.cells #[.int .i64 n0] 3)) := ((Below.refl _ w).alloc (Nat.le_refl _) _).alloc (by simp) _
  have hsz : ((w.alloc (.cells #[.slice A0 l0.length c0] 22)).alloc (.cells #[.int .i64 n0] 3)).heap.size = w.heap.size + 2 := by simp
  go_enter Try.func21, Try.ntmps21
  have hcell := b1.cell
  have B1 := Aside0.mk b1
  have B2 := Aside0.mk b2
  have HB := Aside0.mk hb
  have HS := Aside0.mk hsz
  clear b1 b2 hb hsz
  go_wp2_with (go_at_call 57; (with_reducible refine (slices_Clone_int_int.calls A0 c0 l0 r _ HR.out HC.out HH.out).mono ?_); rintro e w1 ⟨v, rfl, hv, hb⟩; obtain ⟨A1, c1, rfl⟩ := Kd.R_slice hv; have hbx := (hb.block _ B1.out.lt).trans B1.out; have hcl := Boxed.cell (show Boxed w1 w.heap.size 22 (.slice A0 l0.length c0) from hbx); have hfz := Boxed.frozen (show Boxed w1 w.heap.size 22 (.slice A0 l0.length c0) from hbx); have HBX := Aside0.mk (show Boxed w1 w.heap.size 22 (.slice A0 l0.length c0) from hbx); have HBN := Aside0.mk (show Boxed w1 (w.heap.size + 1) 3 (.int .i64 n0) from (hb.block _ B2.out.lt).trans B2.out); have HV := Aside0.mk hv; have HB1 := Aside0.mk hb; clear hbx hv hb)
  go_ret
  have hs := HS.out
  have hs1 := HB1.out.size
  refine ⟨_, rfl, ⟨HBX.out.set _⟩, ⟨HBN.out.other (by show w.heap.size + 1 ≠ w.heap.size; omega) _⟩, ⟨Kd.R_mono (Kd.R_grown (Kd.R_lower (Kd.R_bound HV.out) (show w.heap.size + 2 ≤ _ by omega)) (grownBy_setCell' _ _ _) ?_) (fun _ _ => trivial)⟩, ⟨?_⟩, ⟨?_⟩⟩
  · rintro k ⟨_, hk, _⟩ e
    cases e
    omega
  · exact (HB.out.trans (HB1.out.mono (by omega))).setCell (p := ⟨w.heap.size, 0, none⟩) (Nat.le_refl _) _
  · simp
    omega

end Go.Proofs.Ytlipbiihemhieaa.Q

-- from Qf82
-- Made by hp.py, a program of this session, with the kit's printer. Not trusted: Lean checks it.
namespace Go.Proofs.Ytlipbiihemhieaa.Q
open Go.RowKit Go.Proofs.YtlipbiihemhieaaW.PrintWords Go.Proofs.YtlipbiihemhieaaW.PrintLast Go.Proofs.YtlipbiihemhieaaW.PrintMore
attribute [local go_sem] max2_int min2_int max_two min_two max_three min_three max_four min_four   -- for this text's walks alone
set_option linter.unusedVariables false
set_option linter.unusedSimpArgs false

/-! ### span_Table_find_1: function 82 -/
def span_Table_find_1.f (a0_0 : Int) (a0_1 : Int) (a0_2 : ByteArray) (a1 : Int) : Option (Int) := if a0_1 < a1 then (some (-1)) else (some 1)
set_option maxHeartbeats 8000000 in
set_option maxRecDepth 100000 in
theorem span_Table_find_1.calls (a0_0 : Int) (a0_1 : Int) (a0_2 : ByteArray) (a1 : Int) (r : Int) (w : World) (h : span_Table_find_1.f a0_0 a0_1 a0_2 a1 = some r) :
    Calls Try.prog 82 #[.agg #[.int .i64 a0_0, .int .i64 a0_1, .string a0_2], .int .i64 a1] w fun e w' => e = .returned (.int .i64 r) ∧ Below w.heap.size w w' := by
  have hu43 := Try.underlying43
  have HB := Aside0.mk (Below.refl w.heap.size w)
  have H : (if a0_1 < a1 then (some (-1)) else (some 1)) = some r := h
  clear h
  by_cases c3 : a0_1 < a1
  · rw [if_pos c3] at H
    have c3b0 : decide (a0_1 < a1) = true := decide_eq_true c3
    clear c3
    obtain rfl := Option.some.inj H
    go_enter Try.func82, Try.ntmps82
    go_wp2_with (first | ((with_reducible refine gate_dst (N := 2) rfl ?_); refine box_event ?hg (N := 2) ?hd (cs := #[.int .i64 a0_0, .int .i64 a0_1, .string a0_2]) (t := 43) ?hr ?_; (case hd => rfl); (case hg => rfl); (case hr => first | (go_simp; done) | (go_simp; rfl)); intro gb101 hg w4 hbox hb; have n0_ := Aside0.mk (below_step (by repeat (first | (with_reducible first | exact HB.out | apply below_alloc | apply pw_below_drewN | apply below_drew1) | exact HB.out)) hb); have n1_ := Aside0.mk (hbox); have n2_ := Aside0.mk ((by rw [hg]; exact (below_size (by repeat (first | (with_reducible first | exact HB.out | apply below_alloc | apply pw_below_drewN | apply below_drew1) | exact HB.out))) : w.heap.size ≤ gb101)); have n3_ := Aside0.mk ((by rw [hg]; exact (below_size (by repeat (first | (with_reducible first | exact HB.out | apply below_alloc | apply pw_below_drewN | apply below_drew1) | exact HB.out))) : w.heap.size ≤ gb101)); clear HB; have HB := n0_; have BK101 := n1_; have GW101 := n2_; have GE101 := n3_; clear n0_ n1_ n2_ n3_; clear hb hbox hg; have hcz5_0 : w4.cell? ⟨gb101, 0, none⟩ = some (.int .i64 a0_0) := (blk_cell BK101.out 0).trans rfl; have hcz5_1 : w4.cell? ⟨gb101, 1, none⟩ = some (.int .i64 a0_1) := (blk_cell BK101.out 1).trans rfl; have hcz5_2 : w4.cell? ⟨gb101, 2, none⟩ = some (.string a0_2) := (blk_cell BK101.out 2).trans rfl; have hfz5_0 := blk_frozen BK101.out 0; have hfz5_1 := blk_frozen BK101.out 1; have hfz5_2 := blk_frozen BK101.out 2))
    go_ret
    exact ⟨by first | rfl | (simp [errW_none, errW_some] <;> rfl) | (simp [*, errW_none, errW_some] <;> rfl), by repeat (first | (with_reducible first | exact HB.out | apply below_alloc | apply pw_below_drewN | apply below_drew1 | refine below_set ?_ GE101.out) | exact HB.out)⟩
  · rw [if_neg c3] at H
    have c3b0 : decide (a0_1 < a1) = false := decide_eq_false c3
    clear c3
    obtain rfl := Option.some.inj H
    go_enter Try.func82, Try.ntmps82
    go_wp2_with (first | ((with_reducible refine gate_dst (N := 2) rfl ?_); refine box_event ?hg (N := 2) ?hd (cs := #[.int .i64 a0_0, .int .i64 a0_1, .string a0_2]) (t := 43) ?hr ?_; (case hd => rfl); (case hg => rfl); (case hr => first | (go_simp; done) | (go_simp; rfl)); intro gb101 hg w6 hbox hb; have n0_ := Aside0.mk (below_step (by repeat (first | (with_reducible first | exact HB.out | apply below_alloc | apply pw_below_drewN | apply below_drew1) | exact HB.out)) hb); have n1_ := Aside0.mk (hbox); have n2_ := Aside0.mk ((by rw [hg]; exact (below_size (by repeat (first | (with_reducible first | exact HB.out | apply below_alloc | apply pw_below_drewN | apply below_drew1) | exact HB.out))) : w.heap.size ≤ gb101)); have n3_ := Aside0.mk ((by rw [hg]; exact (below_size (by repeat (first | (with_reducible first | exact HB.out | apply below_alloc | apply pw_below_drewN | apply below_drew1) | exact HB.out))) : w.heap.size ≤ gb101)); clear HB; have HB := n0_; have BK101 := n1_; have GW101 := n2_; have GE101 := n3_; clear n0_ n1_ n2_ n3_; clear hb hbox hg; have hcz7_0 : w6.cell? ⟨gb101, 0, none⟩ = some (.int .i64 a0_0) := (blk_cell BK101.out 0).trans rfl; have hcz7_1 : w6.cell? ⟨gb101, 1, none⟩ = some (.int .i64 a0_1) := (blk_cell BK101.out 1).trans rfl; have hcz7_2 : w6.cell? ⟨gb101, 2, none⟩ = some (.string a0_2) := (blk_cell BK101.out 2).trans rfl; have hfz7_0 := blk_frozen BK101.out 0; have hfz7_1 := blk_frozen BK101.out 1; have hfz7_2 := blk_frozen BK101.out 2))
    go_ret
    exact ⟨by first | rfl | (simp [errW_none, errW_some] <;> rfl) | (simp [*, errW_none, errW_some] <;> rfl), by repeat (first | (with_reducible first | exact HB.out | apply below_alloc | apply pw_below_drewN | apply below_drew1 | refine below_set ?_ GE101.out) | exact HB.out)⟩

end Go.Proofs.Ytlipbiihemhieaa.Q

-- from Qf81at82
-- Made by hp.py, a program of this session, with the kit's printer. Not trusted: Lean checks it.
namespace Go.Proofs.Ytlipbiihemhieaa.Q
open Go.RowKit Go.Proofs.YtlipbiihemhieaaW.PrintWords Go.Proofs.YtlipbiihemhieaaW.PrintLast Go.Proofs.YtlipbiihemhieaaW.PrintMore
attribute [local go_sem] max2_int min2_int max_two min_two max_three min_three max_four min_four   -- for this text's walks alone
set_option linter.unusedVariables false
set_option linter.unusedSimpArgs false

/-! ### span_Span_int_at_span_Table_find_1: function 81 -/
def span_Span_int_at_span_Table_find_1.l0 : Nat → List (S43) → Int → Int → Int → Int → Option (Int × Bool)
  | 0, _, _, _, _, _ => none
  | k + 1, x0, x1, x8, x9, x10 => if x9 < x10 then (if 0 ≤ (wrap64 ((IntKind.u64.wrap (wrap64 (x9 + x10))) / 2)) then (if (wrap64 ((IntKind.u64.wrap (wrap64 (x9 + x10))) / 2)) < (x0.length : Int) then ((span_Table_find_1.f ((rd_T43 x0 (wrap64 ((IntKind.u64.wrap (wrap64 (x9 + x10))) / 2))).f0) ((rd_T43 x0 (wrap64 ((IntKind.u64.wrap (wrap64 (x9 + x10))) / 2))).f1) ((rd_T43 x0 (wrap64 ((IntKind.u64.wrap (wrap64 (x9 + x10))) / 2))).f2) x1).bind fun t102 => (if t102 < 0 then (span_Span_int_at_span_Table_find_1.l0 k x0 x1 x8 (wrap64 ((wrap64 ((IntKind.u64.wrap (wrap64 (x9 + x10))) / 2)) + 1)) x10) else (span_Span_int_at_span_Table_find_1.l0 k x0 x1 x8 x9 (wrap64 ((IntKind.u64.wrap (wrap64 (x9 + x10))) / 2))))) else (none)) else (none)) else (if x9 < x8 then (if 0 ≤ x9 then (if x9 < (x0.length : Int) then ((span_Table_find_1.f ((rd_T43 x0 x9).f0) ((rd_T43 x0 x9).f1) ((rd_T43 x0 x9).f2) x1).bind fun t104 => (some (x9, (t104 == 0)))) else (none)) else (none)) else (some (x9, false)))
def span_Span_int_at_span_Table_find_1.f (k : Nat) (l0 : List (S43)) (a1 : Int)  : Option (Int × Bool) := span_Span_int_at_span_Table_find_1.l0 k l0 a1 (l0.length : Int) 0 (l0.length : Int)
theorem span_Span_int_at_span_Table_find_1.mono_l : ∀ k, (∀ y0 y1 y2 y3 y4, LeO (span_Span_int_at_span_Table_find_1.l0 k y0 y1 y2 y3 y4) (span_Span_int_at_span_Table_find_1.l0 (k + 1) y0 y1 y2 y3 y4))
  | 0 => fun _ _ _ _ _ r h => by simp [span_Span_int_at_span_Table_find_1.l0] at h
  | k + 1 => by
    have ih0 := span_Span_int_at_span_Table_find_1.mono_l k
    · intro y0 y1 y2 y3 y4
      unfold span_Span_int_at_span_Table_find_1.l0
      repeat' first
      | (with_reducible exact ih0 _ _ _ _ _)
      | (with_reducible exact LeO.refl _)
      | (with_reducible exact LeO.none _)
      | (with_reducible refine LeO.ite ?_ ?_)
      | (with_reducible refine LeO.bind ?_ (fun _ => ?_))
      | exact ih0 _ _ _ _ _
      | exact LeO.none _
      | refine LeO.ite ?_ ?_
      | refine LeO.bind ?_ (fun _ => ?_)
theorem span_Span_int_at_span_Table_find_1.mono : ∀ a0 a1 k, LeO (span_Span_int_at_span_Table_find_1.f k a0 a1) (span_Span_int_at_span_Table_find_1.f (k + 1) a0 a1) := by
  intro a0 a1 k
  have ih0 := span_Span_int_at_span_Table_find_1.mono_l k
  unfold span_Span_int_at_span_Table_find_1.f
  repeat' first
      | (with_reducible exact ih0 _ _ _ _ _)
      | (with_reducible exact LeO.refl _)
      | (with_reducible exact LeO.none _)
      | (with_reducible refine LeO.ite ?_ ?_)
      | (with_reducible refine LeO.bind ?_ (fun _ => ?_))
      | exact ih0 _ _ _ _ _
      | exact LeO.none _
      | refine LeO.ite ?_ ?_
      | refine LeO.bind ?_ (fun _ => ?_)
set_option maxHeartbeats 8000000 in
set_option maxRecDepth 100000 in
theorem span_Span_int_at_span_Table_find_1.calls (k : Nat) (A0 : Option Addr) (c0 : Nat) (l0 : List (S43)) (a1 : Int)  (r1 : Int) (r2 : Bool) (w : World) (hr0 : Kd.C k43 w A0 l0.length l0) (hc0 : l0.length ≤ c0) (h : span_Span_int_at_span_Table_find_1.f k l0 a1 = some (r1, r2)) :
    Calls Try.prog 81 #[.slice A0 l0.length c0, .int .i64 a1, .func (.func 82) #[] #[]] w fun e w' => e = .returned (.tuple #[.int .i64 r1, .bool r2]) ∧ Below w.heap.size w w' := by
  have hu43 := Try.underlying43
  have HR0 := Aside0.mk hr0
  have HC0 := Aside0.mk hc0
  clear hr0 hc0
  have HB := Aside0.mk (Below.refl w.heap.size w)
  have H : (span_Span_int_at_span_Table_find_1.l0 k l0 a1 (l0.length : Int) 0 (l0.length : Int)) = some (r1, r2) := h
  clear h
  have H' := Aside0.mk H
  clear H
  go_enter Try.func81, Try.ntmps81
  go_wp2
  go_loopg [9, 10] k (fun kq v9 v10 w' => ∃ (x9_1 : Int) (x10_1 : Int), v9 = .int .i64 x9_1 ∧ v10 = .int .i64 x10_1 ∧ Aside0 (span_Span_int_at_span_Table_find_1.l0 kq l0 a1 (l0.length : Int) x9_1 x10_1 = some (r1, r2)) ∧ Aside0 (kq ≤ k) ∧ Aside0 (Below w.heap.size w w'))
  case atStart => exact ⟨(0), ((l0.length : Int)), (by first | rfl | (simp; done) | (simp [*]; done)), (by first | rfl | (simp; done) | (simp [*]; done)), H', ⟨Nat.le_refl _⟩, ⟨by repeat (first | (with_reducible first | exact HB.out | apply below_alloc | apply pw_below_drewN | apply below_drew1) | exact HB.out)⟩⟩
  case round =>
    clear H'
    try clear p2
    obtain ⟨x9_1, x10_1, rfl, rfl, HA, HK1, HB⟩ := hrel
    cases gk with
    | zero => exact absurd HA.out (by simp [span_Span_int_at_span_Table_find_1.l0])
    | succ k1 =>
      have H := HA.out
      clear HA
      simp only [span_Span_int_at_span_Table_find_1.l0] at H
      by_cases c4 : x9_1 < x10_1
      · rw [if_pos c4] at H
        have c4b0 : decide (x9_1 < x10_1) = true := decide_eq_true c4
        clear c4
        obtain ⟨ji5, hji5⟩ : ∃ j_ : Int, (wrap64 ((IntKind.u64.wrap (wrap64 (x9_1 + x10_1))) / 2)) = j_ := ⟨_, rfl⟩
        replace H : (if 0 ≤ (ji5) then (if (ji5) < (l0.length : Int) then ((span_Table_find_1.f ((rd_T43 l0 (ji5)).f0) ((rd_T43 l0 (ji5)).f1) ((rd_T43 l0 (ji5)).f2) a1).bind fun t102 => (if t102 < 0 then (span_Span_int_at_span_Table_find_1.l0 k1 l0 a1 (l0.length : Int) (wrap64 ((ji5) + 1)) x10_1) else (span_Span_int_at_span_Table_find_1.l0 k1 l0 a1 (l0.length : Int) x9_1 ji5))) else (none)) else (none)) = some (r1, r2) := by first | (rw [hji5] at H; exact H) | (simp only [hji5] at H ⊢; exact H)
        have hji5w : (IntKind.i64.wrap ((IntKind.u64.wrap (wrap64 (x9_1 + x10_1))) / 2)) = ji5 := (i64_w _).trans hji5
        by_cases c6 : 0 ≤ (ji5)
        · rw [if_pos c6] at H
          have c6b0 : decide (0 ≤ (ji5)) = true := decide_eq_true c6
          clear c6
          by_cases c7 : (ji5) < (l0.length : Int)
          · rw [if_pos c7] at H
            have c7b0 : decide ((ji5) < (l0.length : Int)) = true := decide_eq_true c7
            clear c7
            replace H := Option.bind_eq_some_iff.mp H
            obtain ⟨t102, A80, H⟩ := H
            replace H : (if t102 < 0 then (span_Span_int_at_span_Table_find_1.l0 k1 l0 a1 (l0.length : Int) (wrap64 ((ji5) + 1)) x10_1) else (span_Span_int_at_span_Table_find_1.l0 k1 l0 a1 (l0.length : Int) x9_1 ji5)) = some (r1, r2) := H
            have A8 := Aside0.mk A80
            clear A80
            by_cases c9 : t102 < 0
            · rw [if_pos c9] at H
              have c9b0 : decide (t102 < 0) = true := decide_eq_true c9
              clear c9
              have H' := Aside0.mk H
              clear H
              have p101 : 0 ≤ ((ji5) : Int) := of_decide_eq_true (by first | (with_reducible assumption) | assumption)
              have q101 : (ji5) < (l0.length : Int) := of_decide_eq_true (by first | (with_reducible assumption) | assumption)
              obtain ⟨ad101, e101, hx101_0, hx101_1, hx101_2⟩ := at_T43 HR0.out (ji5) p101 q101
              cases e101
              replace hx101_0 := (HB.out.cell (World.block_lt_of_cell? w _ hx101_0)).trans hx101_0
              replace hx101_1 := (HB.out.cell (World.block_lt_of_cell? w _ hx101_1)).trans hx101_1
              replace hx101_2 := (HB.out.cell (World.block_lt_of_cell? w _ hx101_2)).trans hx101_2
              replace p101 := eq_true p101
              replace q101 := eq_true q101
              go_wp2_with (first | (go_at_call 82; (with_reducible refine (span_Table_find_1.calls ((rd_T43 l0 (ji5)).f0) ((rd_T43 l0 (ji5)).f1) ((rd_T43 l0 (ji5)).f2) a1 t102 _ A8.out).mono ?_); rintro e w10 ⟨rfl, hb⟩; have n0_ := Aside0.mk (below_step (by repeat (first | (with_reducible first | exact HB.out | apply below_alloc | apply pw_below_drewN | apply below_drew1) | exact HB.out)) hb); clear HB; have HB := n0_; clear n0_; (try clear hb); (try clear hb2); (try clear hk); (try clear hi)))
              go_roundg k1
              case measure => have := HK1.out; omega
              case rel => exact ⟨(wrap64 ((ji5) + 1)), (x10_1), (by first | rfl | (simp; done) | (simp only [← hji5] <;> (first | rfl | simp)) | (simp [*]; done)), (by first | rfl | (simp; done) | (simp [*]; done)), H', ⟨by have := HK1.out; omega⟩, ⟨by repeat (first | (with_reducible first | exact HB.out | apply below_alloc | apply pw_below_drewN | apply below_drew1) | exact HB.out)⟩⟩
            · rw [if_neg c9] at H
              have c9b0 : decide (t102 < 0) = false := decide_eq_false c9
              clear c9
              have H' := Aside0.mk H
              clear H
              have p101 : 0 ≤ ((ji5) : Int) := of_decide_eq_true (by first | (with_reducible assumption) | assumption)
              have q101 : (ji5) < (l0.length : Int) := of_decide_eq_true (by first | (with_reducible assumption) | assumption)
              obtain ⟨ad101, e101, hx101_0, hx101_1, hx101_2⟩ := at_T43 HR0.out (ji5) p101 q101
              cases e101
              replace hx101_0 := (HB.out.cell (World.block_lt_of_cell? w _ hx101_0)).trans hx101_0
              replace hx101_1 := (HB.out.cell (World.block_lt_of_cell? w _ hx101_1)).trans hx101_1
              replace hx101_2 := (HB.out.cell (World.block_lt_of_cell? w _ hx101_2)).trans hx101_2
              replace p101 := eq_true p101
              replace q101 := eq_true q101
              go_wp2_with (first | (go_at_call 82; (with_reducible refine (span_Table_find_1.calls ((rd_T43 l0 (ji5)).f0) ((rd_T43 l0 (ji5)).f1) ((rd_T43 l0 (ji5)).f2) a1 t102 _ A8.out).mono ?_); rintro e w11 ⟨rfl, hb⟩; have n0_ := Aside0.mk (below_step (by repeat (first | (with_reducible first | exact HB.out | apply below_alloc | apply pw_below_drewN | apply below_drew1) | exact HB.out)) hb); clear HB; have HB := n0_; clear n0_; (try clear hb); (try clear hb2); (try clear hk); (try clear hi)))
              go_roundg k1
              case measure => have := HK1.out; omega
              case rel => exact ⟨(x9_1), (ji5), (by first | rfl | (simp; done) | (simp [*]; done)), (by first | rfl | (simp; done) | (simp only [← hji5] <;> (first | rfl | simp)) | (simp [*]; done)), H', ⟨by have := HK1.out; omega⟩, ⟨by repeat (first | (with_reducible first | exact HB.out | apply below_alloc | apply pw_below_drewN | apply below_drew1) | exact HB.out)⟩⟩
          · rw [if_neg c7] at H
            exact absurd H (by simp)
        · rw [if_neg c6] at H
          exact absurd H (by simp)
      · rw [if_neg c4] at H
        have c4b0 : decide (x9_1 < x10_1) = false := decide_eq_false c4
        clear c4
        by_cases c12 : x9_1 < (l0.length : Int)
        · rw [if_pos c12] at H
          have c12b0 : decide (x9_1 < (l0.length : Int)) = true := decide_eq_true c12
          clear c12
          by_cases c13 : 0 ≤ x9_1
          · rw [if_pos c13] at H
            have c13b0 : decide (0 ≤ x9_1) = true := decide_eq_true c13
            clear c13
            by_cases c14 : x9_1 < (l0.length : Int)
            · rw [if_pos c14] at H
              have c14b0 : decide (x9_1 < (l0.length : Int)) = true := decide_eq_true c14
              clear c14
              replace H := Option.bind_eq_some_iff.mp H
              obtain ⟨t104, A150, H⟩ := H
              replace H : (some (x9_1, (t104 == 0))) = some (r1, r2) := H
              have A15 := Aside0.mk A150
              clear A150
              simp only [Option.some.injEq, Prod.mk.injEq] at H
              obtain ⟨rfl, rfl⟩ := H
              have p103 : 0 ≤ (x9_1 : Int) := of_decide_eq_true (by first | (with_reducible assumption) | assumption)
              have q103 : x9_1 < (l0.length : Int) := of_decide_eq_true (by first | (with_reducible assumption) | assumption)
              obtain ⟨ad103, e103, hx103_0, hx103_1, hx103_2⟩ := at_T43 HR0.out x9_1 p103 q103
              cases e103
              replace hx103_0 := (HB.out.cell (World.block_lt_of_cell? w _ hx103_0)).trans hx103_0
              replace hx103_1 := (HB.out.cell (World.block_lt_of_cell? w _ hx103_1)).trans hx103_1
              replace hx103_2 := (HB.out.cell (World.block_lt_of_cell? w _ hx103_2)).trans hx103_2
              replace p103 := eq_true p103
              replace q103 := eq_true q103
              go_wp2_with (first | (go_at_call 82; (with_reducible refine (span_Table_find_1.calls ((rd_T43 l0 x9_1).f0) ((rd_T43 l0 x9_1).f1) ((rd_T43 l0 x9_1).f2) a1 t104 _ A15.out).mono ?_); rintro e w16 ⟨rfl, hb⟩; have n0_ := Aside0.mk (below_step (by repeat (first | (with_reducible first | exact HB.out | apply below_alloc | apply pw_below_drewN | apply below_drew1) | exact HB.out)) hb); clear HB; have HB := n0_; clear n0_; (try clear hb); (try clear hb2); (try clear hk); (try clear hi)))
              go_ret2
              exact ⟨by first | rfl | (simp [errW_none, errW_some] <;> rfl) | (simp [*, errW_none, errW_some] <;> rfl), by repeat (first | (with_reducible first | exact HB.out | apply below_alloc | apply pw_below_drewN | apply below_drew1) | exact HB.out)⟩
            · rw [if_neg c14] at H
              exact absurd H (by simp)
          · rw [if_neg c13] at H
            exact absurd H (by simp)
        · rw [if_neg c12] at H
          have c12b0 : decide (x9_1 < (l0.length : Int)) = false := decide_eq_false c12
          clear c12
          simp only [Option.some.injEq, Prod.mk.injEq] at H
          obtain ⟨rfl, rfl⟩ := H
          go_wp2
          go_ret2
          exact ⟨by first | rfl | (simp [errW_none, errW_some] <;> rfl) | (simp [*, errW_none, errW_some] <;> rfl), by repeat (first | (with_reducible first | exact HB.out | apply below_alloc | apply pw_below_drewN | apply below_drew1) | exact HB.out)⟩

end Go.Proofs.Ytlipbiihemhieaa.Q

-- from Hspn
/- span: a table, its spans, find, Len, Value, Has. -/
namespace Go.Proofs.Ytlipbiihemhieaa.Q
open Go.RowKit Go.Proofs.YtlipbiihemhieaaW.PrintWords Go.Proofs.YtlipbiihemhieaaW.PrintLast Go.Proofs.YtlipbiihemhieaaW.PrintMore
set_option linter.unusedVariables false
set_option linter.unusedSimpArgs false

/-- A row of spans: nil, or one that lies there. -/
def Row43 (W : World) (v : Value) (L : List S43) : Prop :=
  (v = .slice none 0 0 ∧ L = []) ∨ ∃ ad c, v = .slice (some ad) L.length c ∧ L.length ≤ c ∧ Kd.C k43 W (some ad) L.length L ∧ ∃ cells, W.heap[ad.block]? = some (.cells cells 43 (0, 0))
theorem Row43.below {W W' : World} {v : Value} {L : List S43} (h : Row43 W v L) (hb : Below W.heap.size W W') : Row43 W' v L := by
  rcases h with h | ⟨ad, c, h1, h2, h3, cells, h4⟩
  · exact .inl h
  · exact .inr ⟨ad, c, h1, h2, Kd.C_below h3 hb, cells, (hb.block _ (Array.getElem?_eq_some_iff.1 h4).1).trans h4⟩
theorem Row43.open_ {W : World} {v : Value} {L : List S43} (h : Row43 W v L) : ∃ A c, v = .slice A L.length c ∧ L.length ≤ c ∧ Kd.C k43 W A L.length L := by
  rcases h with ⟨rfl, rfl⟩ | ⟨ad, c, h1, h2, h3, _⟩
  · exact ⟨none, 0, rfl, Nat.le_refl _, ⟨rfl, by simp, fun h => by simp at h⟩⟩
  · exact ⟨some ad, c, h1, h2, h3⟩
/-- A pointer to a table of these spans; nil: of none. -/
def Tab (W : World) (p : Option Addr) (L : List S43) : Prop :=
  (p = none ∧ L = []) ∨ ∃ g v, p = some ⟨g, 0, none⟩ ∧ W.heap[g]? = some (.cells #[v] 91 (0, 0)) ∧ Row43 W v L
theorem Tab.below {W W' : World} {p : Option Addr} {L : List S43} (h : Tab W p L) (hb : Below W.heap.size W W') : Tab W' p L := by
  rcases h with h | ⟨g, v, h1, h2, h3⟩
  · exact .inl h
  · exact .inr ⟨g, v, h1, (hb.block g (Array.getElem?_eq_some_iff.1 h2).1).trans h2, h3.below hb⟩
set_option maxHeartbeats 2000000 in
set_option maxRecDepth 100000 in
theorem span_spans.calls (p : Option Addr) (L : List S43) (w : World) (hT : Tab w p L) :
    Calls Try.prog 63 #[.pointer p] w fun e w' => (∃ A c, e = .returned (.slice A L.length c) ∧ Row43 w (.slice A L.length c) L ∧ L.length ≤ c ∧ Kd.C k43 w A L.length L) ∧ w' = w := by
  rcases hT with ⟨rfl, rfl⟩ | ⟨g, v, rfl, h2, h3⟩
  · go_enter Try.func63, Try.ntmps63
    go_wp2
    go_ret
    exact ⟨⟨none, 0, rfl, .inl ⟨rfl, rfl⟩, Nat.le_refl _, ⟨rfl, by simp, fun h => by simp at h⟩⟩, rfl⟩
  · have h3' := h3
    obtain ⟨A, c, rfl, h4, h5⟩ := h3'.open_
    have hc : w.cell? ⟨g, 0, none⟩ = some (.slice A L.length c) := by unfold World.cell?; rw [h2]; rfl
    have H3 := Aside0.mk h3
    have H4 := Aside0.mk h4
    have H5 := Aside0.mk h5
    clear h2 h3 h4 h5 h3'
    go_enter Try.func63, Try.ntmps63
    go_wp2
    go_ret
    exact ⟨⟨A, c, rfl, H3.out, H4.out, H5.out⟩, rfl⟩
theorem Tab.open_ {W : World} {p : Option Addr} {L : List S43} (h : Tab W p L) :
    (p = none ∧ L = []) ∨ ∃ g A c, p = some ⟨g, 0, none⟩ ∧ W.heap[g]? = some (.cells #[.slice A L.length c] 91 (0, 0)) ∧ L.length ≤ c ∧ Kd.C k43 W A L.length L := by
  rcases h with h | ⟨g, v, h1, h2, h3⟩
  · exact .inl h
  · obtain ⟨A, c, rfl, h4, h5⟩ := h3.open_
    exact .inr ⟨g, A, c, h1, h2, h4, h5⟩
theorem span_spans.calls' (p : Option Addr) (L : List S43) (w : World) (hT : Tab w p L) :
    Calls Try.prog 63 #[.pointer p] w fun e w' => (∃ A c, e = .returned (.slice A L.length c) ∧ L.length ≤ c ∧ Kd.C k43 w A L.length L) ∧ w' = w :=
  (span_spans.calls p L w hT).mono fun e w' ⟨⟨A, c, h1, _, h3, h4⟩, h5⟩ => ⟨⟨A, c, h1, h3, h4⟩, h5⟩
def span_find.f (k : Nat) (L : List S43) (c : Int) : Option Int := (span_Span_int_at_span_Table_find_1.f k L c).bind fun t => some t.1
set_option maxHeartbeats 2000000 in
set_option maxRecDepth 100000 in
theorem span_find.calls (k : Nat) (p : Option Addr) (L : List S43) (c r : Int) (w : World) (hT : Tab w p L) (h : span_find.f k L c = some r) :
    Calls Try.prog 62 #[.pointer p, .int .i64 c] w fun e w' => e = .returned (.int .i64 r) ∧ Below w.heap.size w w' := by
  unfold span_find.f at h
  obtain ⟨⟨t1, t2⟩, h1, h2⟩ := Option.bind_eq_some_iff.mp h
  obtain rfl := Option.some.inj h2
  have HT := Aside0.mk hT
  have H1 := Aside0.mk h1
  clear hT h1 h h2
  go_enter Try.func62, Try.ntmps62
  go_wp2_with (first
    | (go_at_call 63
       refine (span_spans.calls p L _ HT.out).mono ?_
       rintro e w1 ⟨⟨A, n, rfl, -, hn, hC⟩, rfl⟩
       have HN := Aside0.mk hn
       have HC := Aside0.mk hC
       clear hn hC)
    | (go_at_call 81
       refine (span_Span_int_at_span_Table_find_1.calls k A n L c t1 t2 _ HC.out HN.out H1.out).mono ?_
       rintro e w2 ⟨rfl, hb⟩
       have HB := Aside0.mk hb
       clear hb))
  go_ret
  exact ⟨rfl, HB.out⟩
set_option maxHeartbeats 2000000 in
set_option maxRecDepth 100000 in
theorem span_Len.calls (p : Option Addr) (L : List S43) (w : World) (hT : Tab w p L) :
    Calls Try.prog 37 #[.pointer p] w fun e w' => e = .returned (.int .i64 (L.length : Int)) ∧ w' = w := by
  have HT := Aside0.mk hT
  clear hT
  go_enter Try.func37, Try.ntmps37
  go_wp2_with (first
    | (go_at_call 63
       refine (span_spans.calls p L _ HT.out).mono ?_
       rintro e w1 ⟨⟨A, n, rfl, -, hn, hC⟩, rfl⟩
       have HN := Aside0.mk hn
       have HC := Aside0.mk hC
       clear hn hC))
  go_ret
  exact ⟨rfl, rfl⟩
end Go.Proofs.Ytlipbiihemhieaa.Q

-- from Hspv
/- span: Value, Has. -/
namespace Go.Proofs.Ytlipbiihemhieaa.Q
open Go.RowKit Go.Proofs.YtlipbiihemhieaaW.PrintWords Go.Proofs.YtlipbiihemhieaaW.PrintLast Go.Proofs.YtlipbiihemhieaaW.PrintMore
set_option linter.unusedVariables false
set_option linter.unusedSimpArgs false
def span_Value.f (k : Nat) (L : List S43) (c : Int) : Option ByteArray := (span_find.f k L c).bind fun i => if i < (L.length : Int) then (if 0 ≤ i then (if (rd_T43 L i).f0 ≤ c then some (rd_T43 L i).f2 else some (⟨#[]⟩ : ByteArray)) else none) else some (⟨#[]⟩ : ByteArray)
set_option maxHeartbeats 2000000 in
set_option maxRecDepth 100000 in
theorem span_Value.calls (k : Nat) (p : Option Addr) (L : List S43) (c : Int) (r : ByteArray) (w : World) (hT : Tab w p L) (h : span_Value.f k L c = some r) :
    Calls Try.prog 38 #[.pointer p, .int .i64 c] w fun e w' => e = .returned (.string r) ∧ Below w.heap.size w w' := by
  unfold span_Value.f at h
  obtain ⟨i, h1, h2⟩ := Option.bind_eq_some_iff.mp h
  have H1 := Aside0.mk h1
  clear h1 h
  by_cases c1 : i < (L.length : Int)
  · rw [if_pos c1] at h2
    by_cases c2 : 0 ≤ i
    · rw [if_pos c2] at h2
      have hT' := hT.open_
      rcases hT' with ⟨_, rfl⟩ | ⟨g, A, n, rfl, q2, q3, q4⟩
      · simp at c1; omega
      have hcg : w.cell? ⟨g, 0, none⟩ = some (.slice A L.length n) := by unfold World.cell?; rw [q2]; rfl
      obtain ⟨ad, rfl, hx0, hx1, hx2⟩ := at_T43 q4 i c2 c1
      have HT := Aside0.mk hT
      have HCG := Aside0.mk hcg
      have HX0 := Aside0.mk hx0
      have HX2 := Aside0.mk hx2
      have HX1 := Aside0.mk hx1
      have HN := Aside0.mk q3
      have b1 : decide (i < (L.length : Int)) = true := decide_eq_true c1
      have b2 : decide (0 ≤ i) = true := decide_eq_true c2
      have e1 := eq_true c1
      have e2 := eq_true c2
      clear hT q2 q3 q4 hcg hx0 hx1 hx2 c1 c2
      by_cases c3 : (rd_T43 L i).f0 ≤ c
      · rw [if_pos c3] at h2
        obtain rfl := Option.some.inj h2
        have b3 : decide ((rd_T43 L i).f0 ≤ c) = true := decide_eq_true c3
        clear h2 c3
        go_enter Try.func38, Try.ntmps38
        go_wp2_with (first
          | (go_at_call 62
             refine (span_find.calls k _ L c i _ HT.out H1.out).mono ?_
             rintro e w2 ⟨rfl, hb⟩
             have HB := Aside0.mk hb
             have hcg := (hb.cell (World.block_lt_of_cell? w _ HCG.out)).trans HCG.out
             have hx0 := (hb.cell (World.block_lt_of_cell? w _ HX0.out)).trans HX0.out
             have hx1 := (hb.cell (World.block_lt_of_cell? w _ HX1.out)).trans HX1.out
             have hx2 := (hb.cell (World.block_lt_of_cell? w _ HX2.out)).trans HX2.out
             clear hb)
          | (go_at_call 63
             refine (span_spans.calls' _ L _ (HT.out.below HB.out)).mono ?_
             rintro e w1 ⟨⟨A, n, rfl, hn, hC⟩, rfl⟩
             clear hn hC))
        go_ret
        exact ⟨rfl, HB.out⟩
      · rw [if_neg c3] at h2
        obtain rfl := Option.some.inj h2
        have b3 : decide ((rd_T43 L i).f0 ≤ c) = false := decide_eq_false c3
        clear h2 c3
        go_enter Try.func38, Try.ntmps38
        go_wp2_with (first
          | (go_at_call 62
             refine (span_find.calls k _ L c i _ HT.out H1.out).mono ?_
             rintro e w2 ⟨rfl, hb⟩
             have HB := Aside0.mk hb
             have hcg := (hb.cell (World.block_lt_of_cell? w _ HCG.out)).trans HCG.out
             have hx0 := (hb.cell (World.block_lt_of_cell? w _ HX0.out)).trans HX0.out
             have hx1 := (hb.cell (World.block_lt_of_cell? w _ HX1.out)).trans HX1.out
             have hx2 := (hb.cell (World.block_lt_of_cell? w _ HX2.out)).trans HX2.out
             clear hb)
          | (go_at_call 63
             refine (span_spans.calls' _ L _ (HT.out.below HB.out)).mono ?_
             rintro e w1 ⟨⟨A, n, rfl, hn, hC⟩, rfl⟩
             clear hn hC))
        go_ret
        exact ⟨rfl, HB.out⟩
    · rw [if_neg c2] at h2; cases h2
  · rw [if_neg c1] at h2
    obtain rfl := Option.some.inj h2
    have b1 : decide (i < (L.length : Int)) = false := decide_eq_false c1
    have e1 := eq_false c1
    have HT := Aside0.mk hT
    have hT' := hT.open_
    rcases hT' with ⟨rfl, -⟩ | ⟨g, A, n, rfl, q2, q3, q4⟩
    · clear h2 c1 hT
      go_enter Try.func38, Try.ntmps38
      go_wp2_with (first
        | (go_at_call 62
           refine (span_find.calls k _ L c i _ HT.out H1.out).mono ?_
           rintro e w2 ⟨rfl, hb⟩
           have HB := Aside0.mk hb
           clear hb)
        | (go_at_call 63
           refine (span_spans.calls' _ L _ (HT.out.below HB.out)).mono ?_
           rintro e w1 ⟨⟨A, n, rfl, hn, hC⟩, rfl⟩
           clear hn hC))
      go_ret
      exact ⟨rfl, HB.out⟩
    · clear h2 c1 hT q2 q3 q4
      go_enter Try.func38, Try.ntmps38
      go_wp2_with (first
        | (go_at_call 62
           refine (span_find.calls k _ L c i _ HT.out H1.out).mono ?_
           rintro e w2 ⟨rfl, hb⟩
           have HB := Aside0.mk hb
           clear hb)
        | (go_at_call 63
           refine (span_spans.calls' _ L _ (HT.out.below HB.out)).mono ?_
           rintro e w1 ⟨⟨A, n, rfl, hn, hC⟩, rfl⟩
           clear hn hC))
      go_ret
      exact ⟨rfl, HB.out⟩
def span_Has.f (k : Nat) (L : List S43) (c : Int) (v : ByteArray) : Option Bool := if v.toList = ([] : List UInt8) then some false else (span_Value.f k L c).bind fun t => some (t.toList == v.toList)
set_option maxHeartbeats 2000000 in
set_option maxRecDepth 100000 in
theorem span_Has.calls (k : Nat) (p : Option Addr) (L : List S43) (c : Int) (v : ByteArray) (r : Bool) (w : World) (hT : Tab w p L) (h : span_Has.f k L c v = some r) :
    Calls Try.prog 39 #[.pointer p, .int .i64 c, .string v] w fun e w' => e = .returned (.bool r) ∧ Below w.heap.size w w' := by
  unfold span_Has.f at h
  have HT := Aside0.mk hT
  by_cases c1 : v.toList = ([] : List UInt8)
  · rw [if_pos c1] at h
    obtain rfl := Option.some.inj h
    have b1 : (v.toList == ([] : List UInt8)) = true := beq_iff_eq.mpr c1
    have b2 : (v.toList != ([] : List UInt8)) = false := bne_eq_false_iff_eq.mpr c1
    have b3 : v.toList.isEmpty = true := by rw [c1]; rfl
    clear hT h c1
    go_enter Try.func39, Try.ntmps39
    go_wp2
    go_ret
    exact ⟨rfl, Below.refl _ _⟩
  · rw [if_neg c1] at h
    obtain ⟨t, h1, h2⟩ := Option.bind_eq_some_iff.mp h
    obtain rfl := Option.some.inj h2
    have H1 := Aside0.mk h1
    have b1 : (v.toList == ([] : List UInt8)) = false := beq_eq_false_iff_ne.mpr c1
    have b2 : (v.toList != ([] : List UInt8)) = true := bne_iff_ne.mpr c1
    have b3 : v.toList.isEmpty = false := by
      cases hv : v.toList with
      | nil => exact absurd hv c1
      | cons _ _ => rfl
    clear hT h h1 h2 c1
    go_enter Try.func39, Try.ntmps39
    go_wp2_with (first
      | (go_at_call 38
         refine (span_Value.calls k _ L c t _ HT.out H1.out).mono ?_
         rintro e w2 ⟨rfl, hb⟩
         have HB := Aside0.mk hb
         clear hb))
    go_ret
    exact ⟨rfl, HB.out⟩
end Go.Proofs.Ytlipbiihemhieaa.Q

-- from Hclspan
/- slices.Clone at []span.Span: printed by genrow.py. -/
namespace Go.Proofs.Ytlipbiihemhieaa.Q
open Go.RowKit Go.Proofs.YtlipbiihemhieaaW.PrintWords Go.Proofs.YtlipbiihemhieaaW.PrintLast Go.Proofs.YtlipbiihemhieaaW.PrintMore
set_option linter.unusedVariables false
set_option linter.unusedSimpArgs false

theorem span_info : (Try.prog.info? 43).map (fun i => (i.zero, i.size, i.bytes)) = some (some (.agg #[(.int .i64 0), (.int .i64 0), (.string ⟨#[]⟩)]), 3, 32) := by kernel_rfl
set_option maxHeartbeats 1000000 in
set_option maxRecDepth 100000 in
theorem span_Clone.calls (A0 : Option Addr) (c0 : Nat) (l0 : List S43) (w : World) (hr0 : Kd.C k43 w A0 l0.length l0) (hc0 : l0.length ≤ c0) (hl : l0.length < 1099511627776) :
    Calls Try.prog 65 #[.slice A0 l0.length c0] w fun e w' => ∃ v0_ : Value, e = .returned (v0_) ∧ Kd.R k43 43 w' w.heap.size (fun _ => True) v0_ l0 ∧ Below w.heap.size w w' := by
    have HR := Aside0.mk hr0
    have HL := Aside0.mk hl
    have heq := fun (W : World) => run_eql_slice_nil (P := Try.prog) W 41 43 A0 l0.length c0 Try.underlying41
    clear hr0 hl
    cases A0 with
    | none =>
      have hz : l0 = [] := by
        rcases Nat.eq_zero_or_pos l0.length with e | e
        · exact List.eq_nil_of_length_eq_zero e
        · obtain ⟨ad, h, _⟩ := HR.out.2.2 e
          cases h
      have HZ := Aside0.mk hz
      clear hz
      go_enter Try.func65, Try.ntmps65
      go_wp2
      go_ret
      exact ⟨_, rfl, by rw [HZ.out]; exact Kd.R_nil _ _ _ _ _, Below.refl _ _⟩
    | some ad =>
      go_enter Try.func65, Try.ntmps65
      go_wp2_with (first
        | ((with_reducible refine gate_dst (N := 5) rfl ?_)
           refine Kd.R_lit k43 (w0 := w) w.heap.size 43 ?hg (N := 5) ?hd (xs := ([] : List S43)) (inner := []) (ok := fun _ => True) (okp := fun _ => True) ?hr (Reps.none _ _) (fun _ hk => hk) trivial (Below.refl _ _) (Nat.le_refl _) (by simp) ?_
           (case hd => rfl)
           (case hg => rfl)
           (case hr => first | (go_simp; done) | (go_simp; rfl))
           intro v1 w1 hR1 hB1 _ _
           have HR1 := Aside0.mk hR1
           have HB1 := Aside0.mk hB1
           clear hR1 hB1)
        | ((with_reducible refine gate_builtin (b := .append) (xs := #[.tmp 5, .tmp 6]) rfl ?_)
           at_builtin
           refine Kd.R_append_rows k43 (w0 := w) w.heap.size rfl (.tmp 5) (.tmp 6) 41 43 (.agg #[(.int .i64 0), (.int .i64 0), (.string ⟨#[]⟩)]) 32 rfl Try.underlying41 span_info rfl (by decide) (by omega) _ [] l0 _ _ _ (fun _ => True) (fun _ => False) rfl rfl HR1.out (Kd.C_below HR.out HB1.out) (fun _ _ h => h) (fun _ h => h.elim) (fun _ _ => trivial) HB1.out HB1.out.size (by have := HL.out; simp only [List.length_nil]; omega) ?_
           intro v2 w2 hR2 hB2 _ _
           rw [List.nil_append] at hR2
           have HR2 := Aside0.mk hR2
           have HB2 := Aside0.mk hB2
           clear hR2 hB2 HR1 HB1))
      go_ret
      exact ⟨_, rfl, HR2.out, HB2.out⟩

end Go.Proofs.Ytlipbiihemhieaa.Q

-- from Hinspan
/- slices.Insert of one element at []span.Span: printed by genrow.py. -/
namespace Go.Proofs.Ytlipbiihemhieaa.Q
open Go.Shelf Go.RowKit Go.Lib Go.Proofs.YtlipbiihemhieaaW.PrintWords Go.Proofs.YtlipbiihemhieaaW.PrintLast Go.Proofs.YtlipbiihemhieaaW.PrintMore
set_option linter.unusedVariables false
set_option linter.unusedSimpArgs false

set_option maxHeartbeats 4000000 in
set_option maxRecDepth 100000 in
theorem span_Insert.shift (g cap n i vb vc : Nat) (cur : Array Value) (vs : List Value) (tV : TypeId) (w : World) (hi : i < n) (hroom : n + 1 ≤ cap) (hc63 : cap ≤ 9223372036854775807) (hvb : vb ≠ g)
    (hg : w.heap[g]? = some (.cells cur 43 (0, 0))) (hcz : cur.size = cap * 3) (hvl : vs.length = 3) (hv : w.heap[vb]? = some (.cells vs.toArray tV (0, 0)))
    (h1c : ∀ v ∈ cur.toList.take (n * 3), v.oneCell' = true) (h1v : ∀ v ∈ vs, v.oneCell' = true) :
    Calls Try.prog 64 #[.slice (some ⟨g, 0, none⟩) n cap, .int .i64 i, .slice (some ⟨vb, 0, none⟩) 1 vc] w fun e w' =>
      e = .returned (.slice (some ⟨g, 0, none⟩) (n + 1) cap) ∧ ∃ c1 c2 : Array Value, w' = (w.drew.setRow g c1).setRow g c2 ∧ c2.size = cap * 3 ∧
        c2.toList.take ((n + 1) * 3) = (cur.toList.take (n * 3)).take (i * 3) ++ vs ++ (cur.toList.take (n * 3)).drop (i * 3) := by
  have mixed : Try.prog.follows .mixedOrders = true := by kernel_rfl
  have hz2 : ¬ ((i : Int) = (n : Int)) := by omega
  obtain ⟨i0, hi0, hii⟩ := Option.map_eq_some_iff.1 span_info
  simp only [Prod.mk.injEq] at hii
  have hsz : (Try.prog.info? 43).map (·.size) = some 3 := by rw [hi0]; simp [hii.2.1]
  have hso : ∀ w, (Go.sizeOf 43).run Try.prog w = .ok 3 w := fun w => by simp [sizeOf, typeInfo, hi0, hii.2.1]
  have hov : ∀ lb cb, (callFunc 83 #[.slice (some ⟨vb, 0, none⟩) 1 vc, .slice (some ⟨g, (i + 1) * 3, none⟩) lb cb]).run Try.prog w = .ok (.value (.bool false)) w := fun lb cb => by
    rw [run_callFunc_extern Try.func83 (by kernel_rfl) (by kernel_rfl) (by kernel_rfl) (e := Extern.SlicesOverlaps.overlaps #[41, 41] #[4]) (by kernel_rfl),
      Lib.run_overlaps_apart w 41 4 43 Try.underlying41 3 hso ⟨vb, 0, none⟩ ⟨g, (i + 1) * 3, none⟩ 1 vc lb cb hvb tV 43 vs.length cur.size (by simp [World.shape?, hv]) (by simp [World.shape?, hg]) (by omega) (by simp [World.frozen?, hv]) (by simp [World.frozen?, hv])]
    rfl
  obtain ⟨cs, hcs⟩ : ∃ cs, cs = cur.toList.take (n * 3) := ⟨_, rfl⟩
  have hcl : cs.length = n * 3 := by rw [hcs, List.length_take, Array.length_toList]; omega
  have hdl : (cs.drop (i * 3)).length = (n - i) * 3 := by rw [List.length_drop, hcl]; omega
  have hget : ∀ j v, (cs.drop (i * 3))[j]? = some v → cur[i * 3 + j]? = some v := fun j v hj => by
    rw [List.getElem?_drop, hcs, List.getElem?_take] at hj
    split at hj
    · simpa using hj
    · cases hj
  obtain ⟨c1, hc1⟩ : ∃ c1, c1 = (cur.toList.take ((i + 1) * 3) ++ cs.drop (i * 3) ++ cur.toList.drop ((i + 1) * 3 + (cs.drop (i * 3)).length)).toArray := ⟨_, rfl⟩
  obtain ⟨c2, hc2⟩ : ∃ c2, c2 = (c1.toList.take (i * 3) ++ vs ++ c1.toList.drop (i * 3 + vs.length)).toArray := ⟨_, rfl⟩
  have hs1 : c1.size = cap * 3 := by
    rw [hc1, List.size_toArray, put_length _ _ _ (by rw [hdl, Array.length_toList]; omega), Array.length_toList, hcz]
  have hs2 : c2.size = cap * 3 := by
    rw [hc2, List.size_toArray, put_length _ _ _ (by rw [hvl, Array.length_toList]; omega), Array.length_toList, hs1]
  have ht2 : c2.toList.take ((n + 1) * 3) = cs.take (i * 3) ++ vs ++ cs.drop (i * 3) := by
    have h0 : cur.toList.take ((n + 1) * 3) = cs ++ (cur.toList.drop (n * 3)).take 3 := by
      rw [hcs, ← List.take_append_drop (n * 3) cur.toList, List.take_append]
      have : (List.take (n * 3) cur.toList).length = n * 3 := by rw [List.length_take, Array.length_toList]; omega
      simp only [List.take_append_drop, List.take_take, this]
      congr 1
      · rw [Nat.min_eq_right (by omega)]
      · congr 1; omega
    have l1 : c1.toList = cur.toList.take ((i + 1) * 3) ++ cs.drop (i * 3) ++ cur.toList.drop ((i + 1) * 3 + (cs.drop (i * 3)).length) := by rw [hc1]
    have l2 : c2.toList = c1.toList.take (i * 3) ++ vs ++ c1.toList.drop (i * 3 + vs.length) := by rw [hc2]
    have h1 := put_take cur.toList (cs.drop (i * 3)) ((i + 1) * 3) ((n + 1) * 3) (by rw [hdl]; omega) (by rw [Array.length_toList]; omega)
    rw [← l1] at h1
    have h2 := put_take c1.toList vs (i * 3) ((n + 1) * 3) (by rw [hvl]; omega) (by rw [Array.length_toList]; omega)
    rw [← l2] at h2
    rw [h2, h1, h0, show (i + 1) * 3 = i * 3 + 3 by omega]
    exact put_shift cs ((cur.toList.drop (n * 3)).take 3) vs (i * 3) (n * 3) 3 hcl (by omega) hvl (by rw [List.length_take, List.length_drop, Array.length_toList]; omega)
  have hcp1 : ∀ ty dc sc, (Builtin.copy_ #[41, 41] ty #[.slice (some ⟨g, (i + 1) * 3, none⟩) (n - i) dc, .slice (some ⟨g, i * 3, none⟩) (n + 1 - i) sc]).run Try.prog w.drew = .ok (goInt (Nat.min (n + 1 - i) (n - i) : Nat)) (w.drew.setRow g c1) := fun ty dc sc => by
    rw [run_copy_rowN w.drew _ _ ty 43 3 g ((i + 1) * 3) (n - i) dc ⟨g, i * 3, none⟩ (n + 1 - i) sc cur _ (cs.drop (i * 3)) Try.underlying41 hsz hg
      (by rw [hdl, show Nat.min (n + 1 - i) (n - i) = n - i from by simp only [Nat.min_def]; split <;> omega])
      (fun j v hj => by rw [Addr.add_lit]; simp only [World.cell?]; rw [show w.drew.heap[g]? = _ from hg]; exact hget j v hj) (by rw [hdl, hcz]; omega) (fun v hv => h1c v (by rw [← hcs]; exact List.mem_of_mem_drop hv)), ← hc1]
  have hcp2 : ∀ (W : World), W.heap[g]? = some (.cells c1 43 (0, 0)) → W.heap[vb]? = some (.cells vs.toArray tV (0, 0)) → ∀ ty dc, (Builtin.copy_ #[41, 41] ty #[.slice (some ⟨g, i * 3, none⟩) (n + 1 - i) dc, .slice (some ⟨vb, 0, none⟩) 1 vc]).run Try.prog W = .ok (goInt (Nat.min 1 (n + 1 - i) : Nat)) (W.setRow g c2) := fun W hW hV ty dc => by
    rw [run_copy_rowN W _ _ ty 43 3 g (i * 3) (n + 1 - i) dc ⟨vb, 0, none⟩ 1 vc c1 _ vs Try.underlying41 hsz hW
      (by rw [hvl, show Nat.min 1 (n + 1 - i) = 1 from by simp only [Nat.min_def]; split <;> omega])
      (fun j v hj => by rw [Addr.add_lit]; simp only [World.cell?]; rw [hV]; simpa using hj) (by rw [hvl, hs1]; omega) h1v, ← hc2]
  have hW1 : (w.drew.setRow g c1).heap[g]? = some (.cells c1 43 (0, 0)) := setRow_heap _ _ _ _ _ _ hg
  have hV1 : (w.drew.setRow g c1).heap[vb]? = some (.cells vs.toArray tV (0, 0)) := by rw [setRow_other _ _ _ _ hvb]; exact hv
  have hw1 : IntKind.i64.wrap ((i : Int) + 1) = (i : Int) + 1 := by rw [IntKind.wrap_i64]; omega
  have hw2 : IntKind.i64.wrap ((n : Int) + 1) = (n : Int) + 1 := by rw [IntKind.wrap_i64]; omega
  have hb1 : (0 : Int) ≤ (i : Int) + 1 := by omega
  have hin : i ≤ n := by omega
  have htn : ((i : Int) + 1).toNat = i + 1 := by omega
  have htm : ((n : Int) + 1).toNat = n + 1 := by omega
  have hb2 : ¬ (cap = i + 1) := by omega
  have hb3 : (i : Int) ≤ (n : Int) + 1 := by omega
  have hb4 : ¬ (cap = i) := by omega
  have hb5 : (0 : Int) ≤ (n : Int) + 1 := by omega
  have hb6 : ¬ ((cap : Int) < (n : Int) + 1) := by omega
  have HT := Aside0.mk ht2
  have HS := Aside0.mk hs2
  rw [← hcs]
  clear hdl hget hc1 hc2 hs1 hs2 ht2 hsz hso hi0 hii hcs hcl h1c h1v
  go_enter Try.func64, Try.ntmps64
  go_wp2_with (simp only [hov])
  go_region_law_o (refine step_copy_runI rfl _ _ 41 41 rfl _ _ (by simp [Act.eval, Act.put]) (by simp [Act.eval, Act.put]) (hcp1 _ _ _) ?_)
  go_wp2_with (at_builtin; refine wpList_copy_runI _ rfl _ _ 41 41 rfl _ _ rfl rfl (hcp2 _ hW1 hV1 _ _) ?_)
  go_ret
  exact ⟨rfl, c1, c2, rfl, HS.out, HT.out⟩
set_option maxHeartbeats 4000000 in
set_option maxRecDepth 100000 in
theorem span_Insert.end_ (base : Nat) (v : Value) (n vb vc : Nat) (cs vs : List Value) (tV : TypeId) (w : World) (hown : w.ownsRow base 43 3 v n cs) (hbase : base ≤ w.heap.size) (hsm : n < 1099511627776)
    (hvl : vs.length = 3) (hv : w.heap[vb]? = some (.cells vs.toArray tV (0, 0))) (h1v : ∀ v ∈ vs, v.oneCell' = true) :
    Calls Try.prog 64 #[v, .int .i64 n, .slice (some ⟨vb, 0, none⟩) 1 vc] w fun e w' =>
      ∃ v', e = .returned v' ∧ w'.ownsRow base 43 3 v' (n + 1) (cs ++ vs) ∧ w.grownBy w' v.ownBlock ∧ ∃ g c, v' = .slice (some ⟨g, 0, none⟩) (n + 1) c := by
  obtain ⟨i0, hi0, hii⟩ := Option.map_eq_some_iff.1 span_info
  simp only [Prod.mk.injEq] at hii
  have hvs : ∀ j u, vs[j]? = some u → w.cell? ((⟨vb, 0, none⟩ : Addr).add j) = some u := fun j u hj => by
    rw [Addr.add_lit]; simp only [World.cell?]; rw [hv]; simpa using hj
  have hop : ∀ (ops : Array Oper) (rest : List Oper) (o : Oper) (a : Act) (Q : Exit → Act → World → Prop), o.guard = none → o.op = Op.call { callee := Callee.builtin Builtin.append, args := #[Operand.tmp 23, Operand.tmp 24], argTypes := #[41, 41] } →
      a.eval (.tmp 23) = v → a.eval (.tmp 24) = .slice (some ⟨vb, 0, none⟩) 1 vc →
      (∀ v' w', (w'.ownsRow base 43 3 v' (n + 1) (cs ++ vs) ∧ w.grownBy w' v.ownBlock ∧ ∃ g c, v' = .slice (some ⟨g, 0, none⟩) (n + 1) c) → wpList Try.prog ops Q rest (a.put o.dst v') w') → wpList Try.prog ops Q (o :: rest) a w := by
    intro ops rest o a Q hgd ho hs hx h
    refine wpList_append_own w hgd _ _ _ ho base 43 i0 _ 3 32 Try.underlying41 hi0 hii.1 hii.2.1 hii.2.2 rfl (by omega) v n cs hs hown ⟨vb, 0, none⟩ 1 vc vs hx (by rw [hvl]) hvs h1v (by simp only [maxLen]; omega) (by omega) hbase ?_
    intro v' w' q1 q2 q3
    refine h v' w' ⟨q1, q2, ?_⟩
    rcases q1.2 with ⟨_, q⟩ | ⟨g, c, _, q, _⟩
    · omega
    · exact ⟨g, c, q⟩
  have HO := Aside0.mk hown
  rcases hown.2 with ⟨rfl, rfl⟩ | ⟨g, cap, cur, rfl, hbg, hg, hnc, hcm, hcs, htake⟩
  · clear hown hi0 hii hvs hvl h1v
    go_enter Try.func64, Try.ntmps64
    go_wp2_with (at_builtin; refine hop _ _ _ _ _ rfl rfl rfl rfl ?_; (rintro v' w' hv'; have HV := Aside0.mk hv'; clear hv'))
    go_ret
    exact ⟨_, rfl, HV.out⟩
  · clear hown hi0 hii hvs hvl h1v hg hcs htake hcm hbg
    go_enter Try.func64, Try.ntmps64
    go_wp2_with (at_builtin; refine hop _ _ _ _ _ rfl rfl rfl rfl ?_; (rintro v' w' hv'; have HV := Aside0.mk hv'; clear hv'))
    all_goals (go_ret; exact ⟨_, rfl, HV.out⟩)
def span_cells (x : S43) : List Value := [.int .i64 x.f0, .int .i64 x.f1, .string x.f2]
theorem span_grown (w : World) (ROW c1 c2 : Array Value) (e : TypeId) :
    Below w.heap.size w ((((w.alloc (.cells ROW e)).drew.setRow w.heap.size c1).drew).setRow w.heap.size c2) ∧ ((((w.alloc (.cells ROW e)).drew.setRow w.heap.size c1).drew).setRow w.heap.size c2).heap[w.heap.size]? = some (.cells c2 e (0, 0)) := by
  have h0 : (w.alloc (.cells ROW e)).heap[w.heap.size]? = some (.cells ROW e (0, 0)) := heap_alloc_new w _
  have h1 : ((w.alloc (.cells ROW e)).drew.setRow w.heap.size c1).heap[w.heap.size]? = some (.cells c1 e (0, 0)) := setRow_heap _ _ ROW _ _ _ h0
  have h2 := setRow_heap ((w.alloc (.cells ROW e)).drew.setRow w.heap.size c1).drew w.heap.size c1 c2 e (0, 0) h1
  refine ⟨⟨rfl, rfl, rfl, ?_, fun k hk => ?_⟩, h2⟩
  · have := (Array.getElem?_eq_some_iff.1 h2).1
    omega
  · rw [setRow_other _ _ _ _ (by omega)]
    show ((w.alloc (.cells ROW e)).drew.setRow w.heap.size c1).heap[k]? = _
    rw [setRow_other _ _ _ _ (by omega)]
    exact heap_alloc_old w _ hk
set_option maxHeartbeats 4000000 in
set_option maxRecDepth 100000 in
theorem span_Insert.grow (g n i vb vc : Nat) (cur : Array Value) (vs : List Value) (tV : TypeId) (w : World) (hi : i < n) (hsm : n < 1099511627776) (hvb : vb ≠ g)
    (hg : w.heap[g]? = some (.cells cur 43 (0, 0))) (hcz : cur.size = n * 3) (hvl : vs.length = 3) (hv : w.heap[vb]? = some (.cells vs.toArray tV (0, 0)))
    (h1c : ∀ v ∈ cur.toList, v.oneCell' = true) (h1v : ∀ v ∈ vs, v.oneCell' = true) :
    Calls Try.prog 64 #[.slice (some ⟨g, 0, none⟩) n n, .int .i64 i, .slice (some ⟨vb, 0, none⟩) 1 vc] w fun e w' =>
      ∃ G c2, e = .returned (.slice (some ⟨w.heap.size, 0, none⟩) (n + 1) G) ∧ n + 1 ≤ G ∧ G ≤ maxLen ∧ Below w.heap.size w w' ∧ w'.heap[w.heap.size]? = some (.cells c2 43 (0, 0)) ∧ c2.size = G * 3 ∧
        c2.toList.take ((n + 1) * 3) = cur.toList.take (i * 3) ++ vs ++ cur.toList.drop (i * 3) := by
  have mixed : Try.prog.follows .mixedOrders = true := by kernel_rfl
  have hz2 : ¬ ((i : Int) = (n : Int)) := by omega
  obtain ⟨i0, hi0, hii⟩ := Option.map_eq_some_iff.1 span_info
  simp only [Prod.mk.injEq] at hii
  have hsz : (Try.prog.info? 43).map (·.size) = some 3 := by rw [hi0]; simp [hii.2.1]
  have hbw : g < w.heap.size := (Array.getElem?_eq_some_iff.1 hg).1
  have hvw : vb < w.heap.size := (Array.getElem?_eq_some_iff.1 hv).1
  obtain ⟨cs, hcs⟩ : ∃ cs, cs = cur.toList := ⟨_, rfl⟩
  have hcl : cs.length = n * 3 := by rw [hcs, Array.length_toList, hcz]
  have hdl : (cs.drop (i * 3)).length = (n - i) * 3 := by rw [List.length_drop, hcl]; omega
  have hold : (Builtin.firstCells i0.size i (.slice (some ⟨g, 0, none⟩) i n)).run Try.prog w.drew = .ok (cs.take (i * 3)).toArray w.drew := by
    rw [hii.2.1]
    exact run_firstCells_some w.drew 3 i ⟨g, 0, none⟩ i n (cs.take (i * 3)) (by rw [List.length_take]; omega) (fun j v hj => by
      rw [Addr.add_lit]; simp only [World.cell?]; rw [show w.drew.heap[g]? = _ from hg]
      rw [List.getElem?_take, hcs] at hj
      split at hj
      · simpa using hj
      · cases hj)
  obtain ⟨G, hG⟩ : ∃ G, G = grownCap w (n + 1) n 43 := ⟨_, rfl⟩
  have hGn : n + 1 ≤ G := by rw [hG]; exact grownCap_ge w _ _ _
  have hG63 : G ≤ maxLen := by rw [hG]; exact grownCap_le_maxLen w (n + 1) n _ (by unfold maxLen; omega)
  have hG64 : G ≤ 9223372036854775807 := by unfold maxLen at hG63; omega
  obtain ⟨zs, hzs⟩ : ∃ zs : Array Value, zs = Builtin.zeroCells (Value.cells (.agg #[(.int .i64 0), (.int .i64 0), (.string ⟨#[]⟩)])) (n + 1 - i) := ⟨_, rfl⟩
  obtain ⟨zr, hzr⟩ : ∃ zr : Array Value, zr = Builtin.zeroCells (Value.cells (.agg #[(.int .i64 0), (.int .i64 0), (.string ⟨#[]⟩)])) (G - (n + 1)) := ⟨_, rfl⟩
  have hzl : zs.size = (n + 1 - i) * 3 := by rw [hzs, size_zeroCells]; rfl
  have hzrl : zr.size = (G - (n + 1)) * 3 := by rw [hzr, size_zeroCells]; rfl
  obtain ⟨ROW, hROW⟩ : ∃ ROW : Array Value, ROW = (cs.take (i * 3)).toArray ++ zs ++ zr := ⟨_, rfl⟩
  have hRl : ROW.size = G * 3 := by
    rw [hROW]
    simp only [Array.size_append, List.size_toArray, List.length_take, hzl, hzrl]
    omega
  have hRt : ROW.toList.take ((n + 1) * 3) = cs.take (i * 3) ++ zs.toList := by
    rw [hROW]
    simp only [Array.toList_append]
    rw [List.take_left']
    simp only [List.length_append, List.length_take, Array.length_toList, hzl]
    omega
  have hrz : ∀ ty, (Builtin.append_ #[41, 3] ty #[.slice (some ⟨g, 0, none⟩) i n, .int .i64 ((n : Int) + 1 - (i : Int))]).run Try.prog w =
      .ok (.slice (some ⟨w.heap.size, 0, none⟩) (n + 1) G) (w.drew.alloc (.cells ROW 43)) := fun ty => by
    have h := Lib.run_append_grow_zeros w 41 3 ty 43 i0 _ .i64 .i64 Try.underlying41 Try.underlying3 hi0 hii.1 (some ⟨g, 0, none⟩) i n (cs.take (i * 3)) hold (n + 1 - i) (by omega) (by rw [hii.2.1]; omega) (by omega) (by omega) (by rw [hii.2.2]; omega) (by rw [hii.2.2, show i + (n + 1 - i) = n + 1 by omega]; exact growslice_fits (by omega) (by omega))
    rw [show i + (n + 1 - i) = n + 1 by omega, ← hG, ← hzs, ← hzr, ← hROW] at h
    rw [show (n : Int) + 1 - (i : Int) = ((n + 1 - i : Nat) : Int) by omega]
    exact h
  obtain ⟨c1, hc1⟩ : ∃ c1, c1 = (ROW.toList.take (i * 3) ++ vs ++ ROW.toList.drop (i * 3 + vs.length)).toArray := ⟨_, rfl⟩
  obtain ⟨c2, hc2⟩ : ∃ c2, c2 = (c1.toList.take ((i + 1) * 3) ++ cs.drop (i * 3) ++ c1.toList.drop ((i + 1) * 3 + (cs.drop (i * 3)).length)).toArray := ⟨_, rfl⟩
  have hs1 : c1.size = G * 3 := by
    rw [hc1, List.size_toArray, put_length _ _ _ (by rw [hvl, Array.length_toList]; omega), Array.length_toList, hRl]
  have hs2 : c2.size = G * 3 := by
    rw [hc2, List.size_toArray, put_length _ _ _ (by rw [hdl, Array.length_toList]; omega), Array.length_toList, hs1]
  have ht2 : c2.toList.take ((n + 1) * 3) = cs.take (i * 3) ++ vs ++ cs.drop (i * 3) := by
    have l1 : c1.toList = ROW.toList.take (i * 3) ++ vs ++ ROW.toList.drop (i * 3 + vs.length) := by rw [hc1]
    have l2 : c2.toList = c1.toList.take ((i + 1) * 3) ++ cs.drop (i * 3) ++ c1.toList.drop ((i + 1) * 3 + (cs.drop (i * 3)).length) := by rw [hc2]
    have h1 := put_take ROW.toList vs (i * 3) ((n + 1) * 3) (by rw [hvl]; omega) (by rw [Array.length_toList]; omega)
    rw [← l1] at h1
    have h2 := put_take c1.toList (cs.drop (i * 3)) ((i + 1) * 3) ((n + 1) * 3) (by rw [hdl]; omega) (by rw [Array.length_toList]; omega)
    rw [← l2] at h2
    rw [h2, h1, hRt, show (i + 1) * 3 = i * 3 + 3 by omega]
    exact put_grow cs zs.toList vs (i * 3) (n * 3) 3 hcl (by omega) hvl (by rw [Array.length_toList, hzl]; omega)
  have hcpA : ∀ (W : World), W.heap[w.heap.size]? = some (.cells ROW 43 (0, 0)) → W.heap[vb]? = some (.cells vs.toArray tV (0, 0)) → ∀ ty dc, (Builtin.copy_ #[41, 41] ty #[.slice (some ⟨w.heap.size, i * 3, none⟩) (n + 1 - i) dc, .slice (some ⟨vb, 0, none⟩) 1 vc]).run Try.prog W = .ok (goInt (Nat.min 1 (n + 1 - i) : Nat)) (W.setRow w.heap.size c1) := fun W hW hV ty dc => by
    rw [run_copy_rowN W _ _ ty 43 3 w.heap.size (i * 3) (n + 1 - i) dc ⟨vb, 0, none⟩ 1 vc ROW _ vs Try.underlying41 hsz hW
      (by rw [hvl, show Nat.min 1 (n + 1 - i) = 1 from by simp only [Nat.min_def]; split <;> omega])
      (fun j v hj => by rw [Addr.add_lit]; simp only [World.cell?]; rw [hV]; simpa using hj) (by rw [hvl, hRl]; omega) h1v, ← hc1]
  have hcpB : ∀ (W : World), W.heap[w.heap.size]? = some (.cells c1 43 (0, 0)) → W.heap[g]? = some (.cells cur 43 (0, 0)) → ∀ ty dc sc, (Builtin.copy_ #[41, 41] ty #[.slice (some ⟨w.heap.size, (i + 1) * 3, none⟩) (n - i) dc, .slice (some ⟨g, i * 3, none⟩) (n - i) sc]).run Try.prog W = .ok (goInt (Nat.min (n - i) (n - i) : Nat)) (W.setRow w.heap.size c2) := fun W hW hV ty dc sc => by
    rw [run_copy_rowN W _ _ ty 43 3 w.heap.size ((i + 1) * 3) (n - i) dc ⟨g, i * 3, none⟩ (n - i) sc c1 _ (cs.drop (i * 3)) Try.underlying41 hsz hW
      (by rw [hdl, show Nat.min (n - i) (n - i) = n - i from by simp only [Nat.min_def]; split <;> omega])
      (fun j v hj => by
        rw [Addr.add_lit]; simp only [World.cell?]; rw [hV]
        rw [List.getElem?_drop, hcs] at hj
        simpa using hj) (by rw [hdl, hs1]; omega) (fun v hv => h1c v (by rw [← hcs]; exact List.mem_of_mem_drop hv)), ← hc2]
  have hA1 : (w.alloc (.cells ROW 43)).drew.heap[w.heap.size]? = some (.cells ROW 43 (0, 0)) := heap_alloc_new w _
  have hA2 : (w.alloc (.cells ROW 43)).drew.heap[vb]? = some (.cells vs.toArray tV (0, 0)) := (heap_alloc_old w _ hvw).trans hv
  have hA3 : (w.alloc (.cells ROW 43)).drew.heap[g]? = some (.cells cur 43 (0, 0)) := (heap_alloc_old w _ hbw).trans hg
  have hB1 : ((w.alloc (.cells ROW 43)).drew.setRow w.heap.size c1).drew.heap[w.heap.size]? = some (.cells c1 43 (0, 0)) := setRow_heap _ _ _ _ _ _ hA1
  have hB2 : ((w.alloc (.cells ROW 43)).drew.setRow w.heap.size c1).drew.heap[g]? = some (.cells cur 43 (0, 0)) := (setRow_other _ _ _ _ (by omega)).trans hA3
  have hw1 : IntKind.i64.wrap ((i : Int) + 1) = (i : Int) + 1 := by rw [IntKind.wrap_i64]; omega
  have hw2 : IntKind.i64.wrap ((n : Int) + 1) = (n : Int) + 1 := by rw [IntKind.wrap_i64]; omega
  have hw3 : IntKind.i64.wrap ((n : Int) + 1 - (i : Int)) = (n : Int) + 1 - (i : Int) := by rw [IntKind.wrap_i64]; omega
  have hb1 : (0 : Int) ≤ (i : Int) + 1 := by omega
  have hin : i ≤ n := by omega
  have htn : ((i : Int) + 1).toNat = i + 1 := by omega
  have hb3 : (i : Int) ≤ (n : Int) := by omega
  have hb4 : ¬ (n = i) := by omega
  have hGi : ¬ (G = i) := by omega
  have hGim : ¬ (G = i + 1) := by omega
  have hb6 : ((n : Int) < (n : Int) + 1) := by omega
  have HT := Aside0.mk ht2
  have HS := Aside0.mk hs2
  have HG := Aside0.mk hGn
  have HG63 := Aside0.mk hG63
  have HF := Aside0.mk (span_grown w ROW c1 c2 43)
  rw [← hcs]
  clear hdl hc1 hc2 hs1 hs2 ht2 hsz hi0 hii hcs hcl h1c h1v hold hG hzs hzr hzl hzrl hROW hRl hRt hG63
  go_enter Try.func64, Try.ntmps64
  go_wp2_with (first
    | (at_builtin; refine Lib.wpList_append_run _ rfl _ _ _ _ rfl _ _ rfl rfl _ _ (hrz _) ?_)
    | (at_builtin; refine wpList_copy_runI _ rfl _ _ 41 41 rfl _ _ rfl rfl (hcpA _ hA1 hA2 _ _) ?_)
    | (simp only [hcpA _ hA1 hA2]))
  go_region_law_o (refine step_copy_runI rfl _ _ 41 41 rfl (.slice (some ⟨w.heap.size, (i + 1) * 3, none⟩) (n - i) (G - (i + 1))) (.slice (some ⟨g, i * 3, none⟩) (n - i) (n - i)) (by simp [Act.eval, Act.put]) (by simp [Act.eval, Act.put]) (hcpB _ hB1 hB2 _ _ _) ?_)
  go_wp2
  go_ret
  exact ⟨G, c2, rfl, HG.out, HG63.out, HF.out.1, HF.out.2, HS.out, HT.out⟩
theorem span_flat (w : World) (base : Nat) (ok : Nat → Prop) (x : S43) (cs : List Value) : k43.M w base ok x cs ↔ cs = span_cells x := ⟨k43_openM, fun h => h ▸ k43_mkM w base ok x⟩
theorem span_Insert.calls (base : Nat) (v : Value) (L : List S43) (i : Nat) (x : S43) (vb vc : Nat) (tV : TypeId) (w : World) (hR : Kd.R k43 43 w base (fun _ => True) v L) (hi : i ≤ L.length) (hsm : L.length < 1099511627776) (hbase : base ≤ w.heap.size)
    (hv : w.heap[vb]? = some (.cells (span_cells x).toArray tV (0, 0))) (hvb : some vb ≠ v.ownBlock) :
    Calls Try.prog 64 #[v, .int .i64 i, .slice (some ⟨vb, 0, none⟩) 1 vc] w fun e w' =>
      ∃ v', e = .returned v' ∧ Kd.R k43 43 w' base (fun _ => True) v' (L.take i ++ x :: L.drop i) ∧ Below base w w' := by
  obtain ⟨_, cs, hown, hrep⟩ := hR
  have hown : w.ownsRow base 43 3 v L.length cs := hown
  have hrep : Reps (fun x c => c = span_cells x) 3 L cs := hrep.imp_ (fun p c h => (span_flat _ _ _ _ _).1 h)
  have hx1 : (span_cells x).length = 3 := rfl
  have h1v : ∀ u ∈ span_cells x, u.oneCell' = true := k43.K_one (w := w) (x := x) (k43.K_of_M (base := 0) (ok := fun _ => True) ((span_flat w 0 _ x _).2 rfl))
  have hone : ∀ u ∈ cs, u.oneCell' = true := by
    intro u hu
    obtain ⟨j, hj, hju⟩ := List.mem_iff_getElem.1 hu
    have hl := hown.1
    have hq := hrep.2 (j / 3) (L[j / 3]'(by omega)) (List.getElem?_eq_getElem (by omega))
    have hm : u ∈ (cs.drop (j / 3 * 3)).take 3 := by
      rw [List.mem_take_iff_getElem]
      refine ⟨j % 3, by rw [List.length_drop]; omega, ?_⟩
      rw [List.getElem_drop, ← hju]
      congr 1
      omega
    rw [hq] at hm
    exact k43.K_one (w := w) (x := L[j / 3]'(by omega)) (k43.K_of_M (base := 0) (ok := fun _ => True) ((span_flat w 0 _ _ _).2 rfl)) u hm
  have hnew : Reps (fun x c => c = span_cells x) 3 (L.take i ++ x :: L.drop i) (cs.take (i * 3) ++ span_cells x ++ cs.drop (i * 3)) := by
    have h1 := Kd.reps_append (Reps.snoc (p := x) (Kd.reps_take hrep hi) rfl hx1) (Kd.reps_drop (m := i) hrep)
    rw [List.append_assoc] at h1
    exact h1
  have hln : (cs.take (i * 3) ++ span_cells x ++ cs.drop (i * 3)).length = (L.length + 1) * 3 := by
    have := hown.1
    simp only [List.length_append, List.length_take, List.length_drop, hx1]
    omega
  have hLn : (L.take i ++ x :: L.drop i).length = L.length + 1 := by
    simp only [List.length_append, List.length_take, List.length_drop, List.length_cons]
    omega
  have fin : ∀ (w' : World) (v' : Value), w'.ownsRow base 43 3 v' (L.length + 1) (cs.take (i * 3) ++ span_cells x ++ cs.drop (i * 3)) → Kd.R k43 43 w' base (fun _ => True) v' (L.take i ++ x :: L.drop i) := fun w' v' h =>
    ⟨fun _ _ => trivial, _, by rw [hLn]; exact h, hnew.imp_ (fun p c h => (span_flat _ _ _ _ _).2 h)⟩
  by_cases hin : i = L.length
  · subst hin
    have he : cs.take (L.length * 3) ++ span_cells x ++ cs.drop (L.length * 3) = cs ++ span_cells x := by
      rw [List.take_of_length_le (by have := hown.1; omega), List.drop_eq_nil_of_le (by have := hown.1; omega), List.append_nil]
    refine (span_Insert.end_ base v L.length vb vc cs (span_cells x) tV w hown hbase hsm hx1 hv h1v).mono ?_
    rintro e w' ⟨v', rfl, h1, h2, _⟩
    refine ⟨v', rfl, fin w' v' (by rw [he]; exact h1), (Below.refl base w).grown h2 hbase (own_base hown)⟩
  · rcases hown.2 with ⟨rfl, h0⟩ | ⟨g, cap, cur, rfl, hbg, hg, hnc, hcm, hcs, htake⟩
    · omega
    · have hvb' : vb ≠ g := fun e => hvb (by rw [e]; rfl)
      have hgs : g < w.heap.size := (Array.getElem?_eq_some_iff.1 hg).1
      have h1c : ∀ u ∈ cur.toList.take (L.length * 3), u.oneCell' = true := by rw [htake]; exact hone
      by_cases hroom : L.length + 1 ≤ cap
      · refine (span_Insert.shift g cap L.length i vb vc cur (span_cells x) tV w (by omega) hroom (by unfold maxLen at hcm; omega) hvb' hg hcs hx1 hv h1c h1v).mono ?_
        rintro e w' ⟨rfl, c1, c2, rfl, h2, h3⟩
        rw [htake] at h3
        have q1 : (w.drew.setRow g c1).heap[g]? = some (.cells c1 43 (0, 0)) := setRow_heap _ _ cur _ _ _ hg
        have q2 := setRow_heap (w.drew.setRow g c1) g c1 c2 _ _ q1
        refine ⟨_, rfl, fin _ _ ⟨hln, .inr ⟨g, cap, c2, rfl, hbg, q2, hroom, hcm, h2, h3⟩⟩, rfl, rfl, rfl, ?_, fun k hk => ?_⟩
        · simp [World.setRow]
        · rw [setRow_other _ _ _ _ (by omega), setRow_other _ _ _ _ (by omega)]
          rfl
      · have hcap : cap = L.length := by omega
        subst hcap
        have hct : cur.toList.take (L.length * 3) = cur.toList := List.take_of_length_le (by rw [Array.length_toList]; omega)
        rw [hct] at htake h1c
        refine (span_Insert.grow g L.length i vb vc cur (span_cells x) tV w (by omega) hsm hvb' hg hcs hx1 hv h1c h1v).mono ?_
        rintro e w' ⟨G, c2, rfl, h1, h2, h3, h4, h5, h6⟩
        rw [htake] at h6
        exact ⟨_, rfl, fin _ _ ⟨hln, .inr ⟨w.heap.size, G, c2, rfl, hbase, h4, h1, h2, h5, h6⟩⟩, h3.mono hbase⟩
end Go.Proofs.Ytlipbiihemhieaa.Q

-- from Hadd
/- span: Add, its refusals ahead of the last switch. -/
namespace Go.Proofs.Ytlipbiihemhieaa.Q
open Go.RowKit Go.Shelf Go.Proofs.YtlipbiihemhieaaW.PrintWords Go.Proofs.YtlipbiihemhieaaW.PrintLast Go.Proofs.YtlipbiihemhieaaW.PrintMore
set_option linter.unusedVariables false
set_option linter.unusedSimpArgs false

/-- Add's answer. -/
def span_Add.r (L : List S43) (s : S43) (i : Int) : Int × List S43 :=
  if s.f0 < 0 ∨ 1114111 < s.f1 ∨ s.f1 < s.f0 then (14, [])
  else if s.f2.toList = [] then (16, [])
  else if i < (L.length : Int) ∧ (rd_T43 L i).f0 ≤ s.f1 then (15, [])
  else (0, L.take i.toNat ++ s :: L.drop i.toNat)
/-- What Add's world is: the box of its second parameter. -/
def AddS (w : World) (s : S43) (W : World) : Prop := W.heap[w.heap.size]? = some (.cells #[.int .i64 s.f0, .int .i64 s.f1, .string s.f2] 43 (0, 0)) ∧ Below w.heap.size w W
theorem AddS.below {w : World} {s : S43} {W W' : World} (h : AddS w s W) (hb : Below W.heap.size W W') : AddS w s W' :=
  ⟨(hb.block _ (Array.getElem?_eq_some_iff.1 h.1).1).trans h.1, h.2.trans (hb.mono h.2.size)⟩
theorem AddS.cells {w : World} {s : S43} {W : World} (h : AddS w s W) : W.cell? ⟨w.heap.size, 0, none⟩ = some (.int .i64 s.f0) ∧ W.cell? ⟨w.heap.size, 1, none⟩ = some (.int .i64 s.f1) ∧ W.cell? ⟨w.heap.size, 2, none⟩ = some (.string s.f2) := by
  refine ⟨?_, ?_, ?_⟩ <;> (simp only [World.cell?]; rw [h.1]; rfl)
theorem AddS.start (w : World) (s : S43) : AddS w s (w.alloc (.cells #[.int .i64 s.f0, .int .i64 s.f1, .string s.f2] 43 (0, 0))) := ⟨heap_alloc_new w _, (Below.refl _ w).alloc (Nat.le_refl _) _⟩
set_option maxHeartbeats 2000000 in
set_option maxRecDepth 100000 in
theorem span_Add.range (k : Nat) (p : Option Addr) (L : List S43) (s : S43) (i : Int) (w : World) (hT : Tab w p L) (hf : span_find.f k L s.f0 = some i) (hc : s.f0 < 0 ∨ 1114111 < s.f1 ∨ s.f1 < s.f0) :
    Calls Try.prog 30 #[.pointer p, .agg #[.int .i64 s.f0, .int .i64 s.f1, .string s.f2]] w fun e w' => e = .returned (.tuple #[.pointer none, .int .i64 14]) ∧ Below w.heap.size w w' := by
  have HT := Aside0.mk hT
  have HF := Aside0.mk hf
  clear hT hf
  have arm : ∀ b1 b2 b3 : Bool, decide (s.f0 < 0) = b1 → decide (1114111 < s.f1) = b2 → decide (s.f1 < s.f0) = b3 → (b1 || (b2 || b3)) = true → Calls Try.prog 30 #[.pointer p, .agg #[.int .i64 s.f0, .int .i64 s.f1, .string s.f2]] w fun e w' => e = .returned (.tuple #[.pointer none, .int .i64 14]) ∧ Below w.heap.size w w' := by
    intro b1 b2 b3 h1 h2 h3 h4
    cases b1 <;> cases b2 <;> cases b3 <;> (first | (simp at h4; done) | skip)
    all_goals
      clear h4
      go_enter Try.func30, Try.ntmps30
      have HS := Aside0.mk (AddS.start w s)
      go_wp2_with (first
        | (go_at_call 62
           refine (span_find.calls k p L s.f0 i _ (HT.out.below HS.out.2) HF.out).mono ?_
           rintro e w2 ⟨rfl, hb⟩
           have HS2 := Aside0.mk (HS.out.below hb)
           obtain ⟨hx0, hx1, hx2⟩ := HS2.out.cells
           clear hb))
      go_ret2
      exact ⟨rfl, HS2.out.2⟩
  refine arm _ _ _ rfl rfl rfl ?_
  rcases hc with h | h | h <;> simp [h]
set_option maxHeartbeats 2000000 in
set_option maxRecDepth 100000 in
theorem span_Add.empty (k : Nat) (p : Option Addr) (L : List S43) (s : S43) (i : Int) (w : World) (hT : Tab w p L) (hf : span_find.f k L s.f0 = some i) (hc : ¬ (s.f0 < 0 ∨ 1114111 < s.f1 ∨ s.f1 < s.f0)) (hv : s.f2.toList = ([] : List UInt8)) :
    Calls Try.prog 30 #[.pointer p, .agg #[.int .i64 s.f0, .int .i64 s.f1, .string s.f2]] w fun e w' => e = .returned (.tuple #[.pointer none, .int .i64 16]) ∧ Below w.heap.size w w' := by
  have HT := Aside0.mk hT
  have HF := Aside0.mk hf
  have h1 : decide (s.f0 < 0) = false := by simp; omega
  have h2 : decide (1114111 < s.f1) = false := by simp; omega
  have h3 : decide (s.f1 < s.f0) = false := by simp; omega
  have b1 : (s.f2.toList == ([] : List UInt8)) = true := beq_iff_eq.mpr hv
  have b3 : s.f2.toList.isEmpty = true := by rw [hv]; rfl
  clear hT hf hc
  go_enter Try.func30, Try.ntmps30
  have HS := Aside0.mk (AddS.start w s)
  go_wp2_with (first
    | (go_at_call 62
       refine (span_find.calls k p L s.f0 i _ (HT.out.below HS.out.2) HF.out).mono ?_
       rintro e w2 ⟨rfl, hb⟩
       have HS2 := Aside0.mk (HS.out.below hb)
       obtain ⟨hx0, hx1, hx2⟩ := HS2.out.cells
       clear hb))
  go_ret2
  exact ⟨rfl, HS2.out.2⟩
end Go.Proofs.Ytlipbiihemhieaa.Q

-- from Had6
/- span: Add where the new span is one: printed by genadd.py. -/
namespace Go.Proofs.Ytlipbiihemhieaa.Q
open Go.RowKit Go.Shelf Go.Proofs.YtlipbiihemhieaaW.PrintWords Go.Proofs.YtlipbiihemhieaaW.PrintLast Go.Proofs.YtlipbiihemhieaaW.PrintMore
set_option linter.unusedVariables false
set_option linter.unusedSimpArgs false
attribute [local go_sem] Oper.semAt_some

set_option maxHeartbeats 2000000 in
set_option maxRecDepth 100000 in
theorem span_Add.twice (k : Nat) (p : Option Addr) (L : List S43) (s : S43) (i : Int) (w : World) (hT : Tab w p L) (hf : span_find.f k L s.f0 = some i) (hc : ¬ (s.f0 < 0 ∨ 1114111 < s.f1 ∨ s.f1 < s.f0)) (hv : ¬ s.f2.toList = ([] : List UInt8)) (c1 : i < (L.length : Int)) (c2 : 0 ≤ i) (c3 : (rd_T43 L i).f0 ≤ s.f1) :
    Calls Try.prog 30 #[.pointer p, .agg #[.int .i64 s.f0, .int .i64 s.f1, .string s.f2]] w fun e w' => e = .returned (.tuple #[.pointer none, .int .i64 15]) ∧ Below w.heap.size w w' := by
  have HT := Aside0.mk hT
  have HF := Aside0.mk hf
  have h1 : decide (s.f0 < 0) = false := by simp; omega
  have h2 : decide (1114111 < s.f1) = false := by simp; omega
  have h3 : decide (s.f1 < s.f0) = false := by simp; omega
  have b1 : (s.f2.toList == ([] : List UInt8)) = false := beq_eq_false_iff_ne.mpr hv
  have b3 : s.f2.toList.isEmpty = false := by
    cases hv' : s.f2.toList with
    | nil => exact absurd hv' hv
    | cons _ _ => rfl
  rcases hT.open_ with ⟨_, rfl⟩ | ⟨g, A, n, rfl, q2, q3, q4⟩
  · simp at c1; omega
  have hcg : w.cell? ⟨g, 0, none⟩ = some (.slice A L.length n) := by unfold World.cell?; rw [q2]; rfl
  obtain ⟨ad, rfl, hx0, hx1, hx2⟩ := at_T43 q4 i c2 c1
  have HCG := Aside0.mk hcg
  have HX0 := Aside0.mk hx0
  have e1 : decide (i < (L.length : Int)) = true := decide_eq_true c1
  have e2 := eq_true c1
  have e3 := eq_true c2
  have e4 := eq_true c3
  have e5 : decide ((rd_T43 L i).f0 ≤ s.f1) = true := decide_eq_true c3
  clear hT hf hc q2 q3 q4 hcg hx0 hx1 hx2 c1 c2 c3
  go_enter Try.func30, Try.ntmps30
  have HS := Aside0.mk (AddS.start w s)
  go_wp2_with (first
    | (go_at_call 62
       refine (span_find.calls k _ L s.f0 i _ (HT.out.below HS.out.2) HF.out).mono ?_
       rintro e w2 ⟨rfl, hb⟩
       have HS2 := Aside0.mk (HS.out.below hb)
       obtain ⟨hx0, hx1, hx2⟩ := HS2.out.cells
       clear hb))
  refine wp_region_noPanic ?_
  refine wp_region_held (S := AddS w s) (by kernel_rfl) ?_
  have hS : AddS w s w2.drew := ⟨HS2.out.1, HS2.out.2.drew⟩
  show wpAnyH _ _ _ _ _ _ _ _ w2.drew
  refine wpAnyH_take (i := 0) (v := .int .i64 i) rfl (by kernel_rfl) (by kernel_rfl) (by kernel_rfl) (fun _ _ _ h => h) (.inl ⟨by kernel_rfl, fun w' hS => by go_simp⟩) hS ?_
  try simp only [List.getElem_toArray, List.getElem_cons_succ, List.getElem_cons_zero, Act.put, List.setIfInBounds_toArray, List.set_cons_zero, List.set_cons_succ]
  refine wpAnyH_take (i := 1) (v := .pointer (some ⟨g, 0, none⟩)) rfl (by kernel_rfl) (by kernel_rfl) (by kernel_rfl) (fun _ _ _ h => h) (.inl ⟨by kernel_rfl, fun w' hS => by go_simp⟩) hS ?_
  try simp only [List.getElem_toArray, List.getElem_cons_succ, List.getElem_cons_zero, Act.put, List.setIfInBounds_toArray, List.set_cons_zero, List.set_cons_succ]
  refine wpAnyH_ready (rs := [2]) (by kernel_rfl) (by simp) (AllReadyH.cons rfl (fun K' hK => ?_) AllReadyH.nil)
  rw [if_pos (by kernel_rfl)]
  go_simp
  go_at_call 63
  refine (span_spans.calls' _ L _ (HT.out.below hS.2)).mono ?_
  rintro e w7 ⟨⟨A6, n6, rfl, hn6, hC6⟩, rfl⟩
  have hS' := hS
  refine hK.out _ _ hS' (fun _ => ?_)
  clear hK hS
  have hS := hS'
  clear hS'
  try simp only [List.getElem_toArray, List.getElem_cons_succ, List.getElem_cons_zero, Act.put, List.setIfInBounds_toArray, List.set_cons_zero, List.set_cons_succ]
  refine wpAnyH_take (i := 3) (v := .int .i64 (L.length : Int)) rfl (by kernel_rfl) (by kernel_rfl) (by kernel_rfl) (fun _ _ _ h => h) (.inl ⟨by kernel_rfl, fun w' hS => by go_simp⟩) hS ?_
  try simp only [List.getElem_toArray, List.getElem_cons_succ, List.getElem_cons_zero, Act.put, List.setIfInBounds_toArray, List.set_cons_zero, List.set_cons_succ]
  refine wpAnyH_take (i := 4) (v := .bool true) rfl (by kernel_rfl) (by kernel_rfl) (by kernel_rfl) (fun _ _ _ h => h) (.inl ⟨by kernel_rfl, fun w' hS => by go_simp⟩) hS ?_
  try simp only [List.getElem_toArray, List.getElem_cons_succ, List.getElem_cons_zero, Act.put, List.setIfInBounds_toArray, List.set_cons_zero, List.set_cons_succ]
  refine wpAnyH_take (i := 5) (v := .bool true) rfl (by kernel_rfl) (by kernel_rfl) (by kernel_rfl) (fun _ _ _ h => h) (.inl ⟨by kernel_rfl, fun w' hS => by go_simp⟩) hS ?_
  try simp only [List.getElem_toArray, List.getElem_cons_succ, List.getElem_cons_zero, Act.put, List.setIfInBounds_toArray, List.set_cons_zero, List.set_cons_succ]
  refine wpAnyH_take (i := 6) (v := .pointer (some ⟨g, 0, none⟩)) rfl (by kernel_rfl) (by kernel_rfl) (by kernel_rfl) (fun _ _ _ h => h) (.inl ⟨by kernel_rfl, fun w' hS => by go_simp⟩) hS ?_
  try simp only [List.getElem_toArray, List.getElem_cons_succ, List.getElem_cons_zero, Act.put, List.setIfInBounds_toArray, List.set_cons_zero, List.set_cons_succ]
  refine wpAnyH_take (i := 7) (v := .pointer (some ⟨g, 0, none⟩)) rfl (by kernel_rfl) (by kernel_rfl) (by kernel_rfl) (fun _ _ _ h => h) (.inl ⟨by kernel_rfl, fun w' hS => by go_simp⟩) hS ?_
  try simp only [List.getElem_toArray, List.getElem_cons_succ, List.getElem_cons_zero, Act.put, List.setIfInBounds_toArray, List.set_cons_zero, List.set_cons_succ]
  refine wpAnyH_take (i := 8) (v := .pointer (some ⟨g, 0, none⟩)) rfl (by kernel_rfl) (by kernel_rfl) (by kernel_rfl) (fun _ _ _ h => h) (.inl ⟨by kernel_rfl, fun w' hS => by go_simp⟩) hS ?_
  try simp only [List.getElem_toArray, List.getElem_cons_succ, List.getElem_cons_zero, Act.put, List.setIfInBounds_toArray, List.set_cons_zero, List.set_cons_succ]
  refine wpAnyH_take (i := 9) (v := .slice (some ad) L.length n) rfl (by kernel_rfl) (by kernel_rfl) (by kernel_rfl) (fun _ _ _ h => h) (.inl ⟨by kernel_rfl, fun w' hS => by have q_ := (hS.2.cell (World.block_lt_of_cell? w _ HCG.out)).trans HCG.out; go_simp⟩) hS ?_
  try simp only [List.getElem_toArray, List.getElem_cons_succ, List.getElem_cons_zero, Act.put, List.setIfInBounds_toArray, List.set_cons_zero, List.set_cons_succ]
  refine wpAnyH_take (i := 10) (v := .int .i64 i) rfl (by kernel_rfl) (by kernel_rfl) (by kernel_rfl) (fun _ _ _ h => h) (.inl ⟨by kernel_rfl, fun w' hS => by go_simp⟩) hS ?_
  try simp only [List.getElem_toArray, List.getElem_cons_succ, List.getElem_cons_zero, Act.put, List.setIfInBounds_toArray, List.set_cons_zero, List.set_cons_succ]
  refine wpAnyH_take (i := 11) (v := .pointer (some (ad.add (i.toNat * 3)))) rfl (by kernel_rfl) (by kernel_rfl) (by kernel_rfl) (fun _ _ _ h => h) (.inl ⟨by kernel_rfl, fun w' hS => by go_simp⟩) hS ?_
  try simp only [List.getElem_toArray, List.getElem_cons_succ, List.getElem_cons_zero, Act.put, List.setIfInBounds_toArray, List.set_cons_zero, List.set_cons_succ]
  refine wpAnyH_take (i := 12) (v := .pointer (some (ad.add (i.toNat * 3)))) rfl (by kernel_rfl) (by kernel_rfl) (by kernel_rfl) (fun _ _ _ h => h) (.inl ⟨by kernel_rfl, fun w' hS => by go_simp⟩) hS ?_
  try simp only [List.getElem_toArray, List.getElem_cons_succ, List.getElem_cons_zero, Act.put, List.setIfInBounds_toArray, List.set_cons_zero, List.set_cons_succ]
  refine wpAnyH_take (i := 13) (v := .int .i64 (rd_T43 L i).f0) rfl (by kernel_rfl) (by kernel_rfl) (by kernel_rfl) (fun _ _ _ h => h) (.inl ⟨by kernel_rfl, fun w' hS => by have q_ := (hS.2.cell (World.block_lt_of_cell? w _ HX0.out)).trans HX0.out; go_simp⟩) hS ?_
  try simp only [List.getElem_toArray, List.getElem_cons_succ, List.getElem_cons_zero, Act.put, List.setIfInBounds_toArray, List.set_cons_zero, List.set_cons_succ]
  refine wpAnyH_take (i := 14) (v := .pointer (some ⟨w.heap.size, 1, none⟩)) rfl (by kernel_rfl) (by kernel_rfl) (by kernel_rfl) (fun _ _ _ h => h) (.inl ⟨by kernel_rfl, fun w' hS => by go_simp⟩) hS ?_
  try simp only [List.getElem_toArray, List.getElem_cons_succ, List.getElem_cons_zero, Act.put, List.setIfInBounds_toArray, List.set_cons_zero, List.set_cons_succ]
  refine wpAnyH_take (i := 15) (v := .int .i64 s.f1) rfl (by kernel_rfl) (by kernel_rfl) (by kernel_rfl) (fun _ _ _ h => h) (.inl ⟨by kernel_rfl, fun w' hS => by have q_ := hS.cells.2.1; go_simp⟩) hS ?_
  try simp only [List.getElem_toArray, List.getElem_cons_succ, List.getElem_cons_zero, Act.put, List.setIfInBounds_toArray, List.set_cons_zero, List.set_cons_succ]
  refine wpAnyH_take (i := 16) (v := .bool true) rfl (by kernel_rfl) (by kernel_rfl) (by kernel_rfl) (fun _ _ _ h => h) (.inl ⟨by kernel_rfl, fun w' hS => by go_simp⟩) hS ?_
  try simp only [List.getElem_toArray, List.getElem_cons_succ, List.getElem_cons_zero, Act.put, List.setIfInBounds_toArray, List.set_cons_zero, List.set_cons_succ]
  refine wpAnyH_take (i := 17) (v := .bool true) rfl (by kernel_rfl) (by kernel_rfl) (by kernel_rfl) (fun _ _ _ h => h) (.inl ⟨by kernel_rfl, fun w' hS => by go_simp⟩) hS ?_
  try simp only [List.getElem_toArray, List.getElem_cons_succ, List.getElem_cons_zero, Act.put, List.setIfInBounds_toArray, List.set_cons_zero, List.set_cons_succ]
  refine wpAnyH_take (i := 18) (v := .bool true) rfl (by kernel_rfl) (by kernel_rfl) (by kernel_rfl) (fun _ _ _ h => h) (.inl ⟨by kernel_rfl, fun w' hS => by go_simp⟩) hS ?_
  try simp only [List.getElem_toArray, List.getElem_cons_succ, List.getElem_cons_zero, Act.put, List.setIfInBounds_toArray, List.set_cons_zero, List.set_cons_succ]
  refine wpAnyH_done (by kernel_rfl) ?_ _
  refine NoPanic.normal ?_
  go_wp2
  go_ret2
  exact ⟨rfl, hS.2⟩
theorem AddS.lt {w : World} {s : S43} {W : World} (h : AddS w s W) : w.heap.size < W.heap.size := (Array.getElem?_eq_some_iff.1 h.1).1
theorem span_Add.end {w w9 : World} {B : Nat} {ad : Addr} {c m : Nat} {L' : List S43} (h : Kd.R k43 43 w9 B (fun _ => True) (.slice (some ad) L'.length c) L') (hb : Below w.heap.size w (w9.alloc (.cells #[.slice (some ad) m c] 91 (0, 0)))) (hm : m = L'.length) :
    ∃ g, (Ending.returned (.tuple #[.pointer (some ⟨w9.heap.size, 0, none⟩), .int .i64 0]) = .returned (.tuple #[.pointer (some ⟨g, 0, none⟩), .int .i64 0])) ∧ Tab (w9.alloc (.cells #[.slice (some ad) m c] 91 (0, 0))) (some ⟨g, 0, none⟩) L' ∧ Below w.heap.size w (w9.alloc (.cells #[.slice (some ad) m c] 91 (0, 0))) := by
  subst hm
  obtain ⟨inner, ho⟩ := Kd.R_own h
  have hcell : ∃ cells, w9.heap[ad.block]? = some (.cells cells 43 (0, 0)) := by
    rcases ho.2 with ⟨h0, _⟩ | ⟨g, cap, cur, e0, hg, hh, r⟩
    · cases h0
    · injection e0 with e1 e2 e3
      injection e1 with e1
      subst e1
      exact ⟨cur, hh⟩
  obtain ⟨cells, hcell⟩ := hcell
  obtain ⟨A, c', he, hl, hC⟩ := Kd.R_reads h
  injection he with e1 e2 e3
  subst e1 e3
  have hbA : Below w9.heap.size w9 (w9.alloc (.cells #[.slice (some ad) L'.length c] 91 (0, 0))) := (Below.refl w9.heap.size w9).alloc (Nat.le_refl _) _
  exact ⟨w9.heap.size, rfl, .inr ⟨_, _, rfl, heap_alloc_new w9 _, .inr ⟨ad, c, rfl, hl, Kd.C_below hC hbA, cells, (hbA.block _ (Array.getElem?_eq_some_iff.1 hcell).1).trans hcell⟩⟩, hb⟩
set_option maxHeartbeats 4000000 in
set_option maxRecDepth 100000 in
theorem span_Add.fitsA (k : Nat) (p : Option Addr) (L : List S43) (s : S43) (j : Nat) (w : World) (hT : Tab w p L) (hf : span_find.f k L s.f0 = some (j : Int)) (hc : ¬ (s.f0 < 0 ∨ 1114111 < s.f1 ∨ s.f1 < s.f0)) (hv : ¬ s.f2.toList = ([] : List UInt8)) (hj : j ≤ L.length) (hsm : L.length < 1099511627776) (c1 : j = L.length) :
    Calls Try.prog 30 #[.pointer p, .agg #[.int .i64 s.f0, .int .i64 s.f1, .string s.f2]] w fun e w' => ∃ g, e = .returned (.tuple #[.pointer (some ⟨g, 0, none⟩), .int .i64 0]) ∧ Tab w' (some ⟨g, 0, none⟩) (L.take j ++ s :: L.drop j) ∧ Below w.heap.size w w' := by
  have HT := Aside0.mk hT
  have HF := Aside0.mk hf
  have h1 : decide (s.f0 < 0) = false := by simp; omega
  have h2 : decide (1114111 < s.f1) = false := by simp; omega
  have h3 : decide (s.f1 < s.f0) = false := by simp; omega
  have b1 : (s.f2.toList == ([] : List UInt8)) = false := beq_eq_false_iff_ne.mpr hv
  have b3 : s.f2.toList.isEmpty = false := by
    cases hv' : s.f2.toList with
    | nil => exact absurd hv' hv
    | cons _ _ => rfl
  have HSM := Aside0.mk hsm
  have HJ := Aside0.mk hj
  have e1 : decide ((j : Int) < (L.length : Int)) = false := by simp; omega
  have e2 : ((j : Int) < (L.length : Int)) = False := by simp; omega
  clear hT hf hc hj hsm c1
  go_enter Try.func30, Try.ntmps30
  have HS := Aside0.mk (AddS.start w s)
  go_wp2_with (first
    | (go_at_call 62
       refine (span_find.calls k _ L s.f0 (j : Int) _ (HT.out.below HS.out.2) HF.out).mono ?_
       rintro e w2 ⟨rfl, hb⟩
       have HS2 := Aside0.mk (HS.out.below hb)
       obtain ⟨hx0, hx1, hx2⟩ := HS2.out.cells
       clear hb))
  refine wp_region_noPanic ?_
  refine wp_region_held (S := AddS w s) (by kernel_rfl) ?_
  have hS : AddS w s w2.drew := ⟨HS2.out.1, HS2.out.2.drew⟩
  show wpAnyH _ _ _ _ _ _ _ _ w2.drew
  refine wpAnyH_take (i := 0) (v := .int .i64 (j : Int)) rfl (by kernel_rfl) (by kernel_rfl) (by kernel_rfl) (fun _ _ _ h => h) (.inl ⟨by kernel_rfl, fun w' hS => by go_simp⟩) hS ?_
  try simp only [List.getElem_toArray, List.getElem_cons_succ, List.getElem_cons_zero, Act.put, List.setIfInBounds_toArray, List.set_cons_zero, List.set_cons_succ]
  refine wpAnyH_take (i := 1) (v := .pointer p) rfl (by kernel_rfl) (by kernel_rfl) (by kernel_rfl) (fun _ _ _ h => h) (.inl ⟨by kernel_rfl, fun w' hS => by go_simp⟩) hS ?_
  try simp only [List.getElem_toArray, List.getElem_cons_succ, List.getElem_cons_zero, Act.put, List.setIfInBounds_toArray, List.set_cons_zero, List.set_cons_succ]
  refine wpAnyH_ready (rs := [2]) (by kernel_rfl) (by simp) (AllReadyH.cons rfl (fun K' hK => ?_) AllReadyH.nil)
  rw [if_pos (by kernel_rfl)]
  go_simp
  go_at_call 63
  refine (span_spans.calls' _ L _ (HT.out.below hS.2)).mono ?_
  rintro e w7 ⟨⟨A6, n6, rfl, hn6, hC6⟩, rfl⟩
  have hS' := hS
  refine hK.out _ _ hS' (fun _ => ?_)
  clear hK hS
  have hS := hS'
  clear hS'
  try simp only [List.getElem_toArray, List.getElem_cons_succ, List.getElem_cons_zero, Act.put, List.setIfInBounds_toArray, List.set_cons_zero, List.set_cons_succ]
  refine wpAnyH_take (i := 3) (v := .int .i64 (L.length : Int)) rfl (by kernel_rfl) (by kernel_rfl) (by kernel_rfl) (fun _ _ _ h => h) (.inl ⟨by kernel_rfl, fun w' hS => by go_simp⟩) hS ?_
  try simp only [List.getElem_toArray, List.getElem_cons_succ, List.getElem_cons_zero, Act.put, List.setIfInBounds_toArray, List.set_cons_zero, List.set_cons_succ]
  refine wpAnyH_take (i := 4) (v := .bool false) rfl (by kernel_rfl) (by kernel_rfl) (by kernel_rfl) (fun _ _ _ h => h) (.inl ⟨by kernel_rfl, fun w' hS => by go_simp⟩) hS ?_
  try simp only [List.getElem_toArray, List.getElem_cons_succ, List.getElem_cons_zero, Act.put, List.setIfInBounds_toArray, List.set_cons_zero, List.set_cons_succ]
  refine wpAnyH_take (i := 5) (v := .bool false) rfl (by kernel_rfl) (by kernel_rfl) (by kernel_rfl) (fun _ _ _ h => h) (.inl ⟨by kernel_rfl, fun w' hS => by go_simp⟩) hS ?_
  try simp only [List.getElem_toArray, List.getElem_cons_succ, List.getElem_cons_zero, Act.put, List.setIfInBounds_toArray, List.set_cons_zero, List.set_cons_succ]
  refine wpAnyH_take (i := 6) (v := undef) rfl (by kernel_rfl) (by kernel_rfl) (by kernel_rfl) (fun _ _ _ h => h) (.inr ⟨by kernel_rfl, rfl⟩) hS ?_
  try simp only [List.getElem_toArray, List.getElem_cons_succ, List.getElem_cons_zero, Act.put, List.setIfInBounds_toArray, List.set_cons_zero, List.set_cons_succ]
  refine wpAnyH_take (i := 7) (v := undef) rfl (by kernel_rfl) (by kernel_rfl) (by kernel_rfl) (fun _ _ _ h => h) (.inr ⟨by kernel_rfl, rfl⟩) hS ?_
  try simp only [List.getElem_toArray, List.getElem_cons_succ, List.getElem_cons_zero, Act.put, List.setIfInBounds_toArray, List.set_cons_zero, List.set_cons_succ]
  refine wpAnyH_take (i := 8) (v := undef) rfl (by kernel_rfl) (by kernel_rfl) (by kernel_rfl) (fun _ _ _ h => h) (.inr ⟨by kernel_rfl, rfl⟩) hS ?_
  try simp only [List.getElem_toArray, List.getElem_cons_succ, List.getElem_cons_zero, Act.put, List.setIfInBounds_toArray, List.set_cons_zero, List.set_cons_succ]
  refine wpAnyH_take (i := 9) (v := undef) rfl (by kernel_rfl) (by kernel_rfl) (by kernel_rfl) (fun _ _ _ h => h) (.inr ⟨by kernel_rfl, rfl⟩) hS ?_
  try simp only [List.getElem_toArray, List.getElem_cons_succ, List.getElem_cons_zero, Act.put, List.setIfInBounds_toArray, List.set_cons_zero, List.set_cons_succ]
  refine wpAnyH_take (i := 10) (v := undef) rfl (by kernel_rfl) (by kernel_rfl) (by kernel_rfl) (fun _ _ _ h => h) (.inr ⟨by kernel_rfl, rfl⟩) hS ?_
  try simp only [List.getElem_toArray, List.getElem_cons_succ, List.getElem_cons_zero, Act.put, List.setIfInBounds_toArray, List.set_cons_zero, List.set_cons_succ]
  refine wpAnyH_take (i := 11) (v := undef) rfl (by kernel_rfl) (by kernel_rfl) (by kernel_rfl) (fun _ _ _ h => h) (.inr ⟨by kernel_rfl, rfl⟩) hS ?_
  try simp only [List.getElem_toArray, List.getElem_cons_succ, List.getElem_cons_zero, Act.put, List.setIfInBounds_toArray, List.set_cons_zero, List.set_cons_succ]
  refine wpAnyH_take (i := 12) (v := undef) rfl (by kernel_rfl) (by kernel_rfl) (by kernel_rfl) (fun _ _ _ h => h) (.inr ⟨by kernel_rfl, rfl⟩) hS ?_
  try simp only [List.getElem_toArray, List.getElem_cons_succ, List.getElem_cons_zero, Act.put, List.setIfInBounds_toArray, List.set_cons_zero, List.set_cons_succ]
  refine wpAnyH_take (i := 13) (v := undef) rfl (by kernel_rfl) (by kernel_rfl) (by kernel_rfl) (fun _ _ _ h => h) (.inr ⟨by kernel_rfl, rfl⟩) hS ?_
  try simp only [List.getElem_toArray, List.getElem_cons_succ, List.getElem_cons_zero, Act.put, List.setIfInBounds_toArray, List.set_cons_zero, List.set_cons_succ]
  refine wpAnyH_take (i := 14) (v := undef) rfl (by kernel_rfl) (by kernel_rfl) (by kernel_rfl) (fun _ _ _ h => h) (.inr ⟨by kernel_rfl, rfl⟩) hS ?_
  try simp only [List.getElem_toArray, List.getElem_cons_succ, List.getElem_cons_zero, Act.put, List.setIfInBounds_toArray, List.set_cons_zero, List.set_cons_succ]
  refine wpAnyH_take (i := 15) (v := undef) rfl (by kernel_rfl) (by kernel_rfl) (by kernel_rfl) (fun _ _ _ h => h) (.inr ⟨by kernel_rfl, rfl⟩) hS ?_
  try simp only [List.getElem_toArray, List.getElem_cons_succ, List.getElem_cons_zero, Act.put, List.setIfInBounds_toArray, List.set_cons_zero, List.set_cons_succ]
  refine wpAnyH_take (i := 16) (v := undef) rfl (by kernel_rfl) (by kernel_rfl) (by kernel_rfl) (fun _ _ _ h => h) (.inr ⟨by kernel_rfl, rfl⟩) hS ?_
  try simp only [List.getElem_toArray, List.getElem_cons_succ, List.getElem_cons_zero, Act.put, List.setIfInBounds_toArray, List.set_cons_zero, List.set_cons_succ]
  refine wpAnyH_take (i := 17) (v := .bool false) rfl (by kernel_rfl) (by kernel_rfl) (by kernel_rfl) (fun _ _ _ h => h) (.inl ⟨by kernel_rfl, fun w' hS => by go_simp⟩) hS ?_
  try simp only [List.getElem_toArray, List.getElem_cons_succ, List.getElem_cons_zero, Act.put, List.setIfInBounds_toArray, List.set_cons_zero, List.set_cons_succ]
  refine wpAnyH_take (i := 18) (v := .bool false) rfl (by kernel_rfl) (by kernel_rfl) (by kernel_rfl) (fun _ _ _ h => h) (.inl ⟨by kernel_rfl, fun w' hS => by go_simp⟩) hS ?_
  try simp only [List.getElem_toArray, List.getElem_cons_succ, List.getElem_cons_zero, Act.put, List.setIfInBounds_toArray, List.set_cons_zero, List.set_cons_succ]
  refine wpAnyH_done (by kernel_rfl) ?_ _
  refine NoPanic.normal ?_
  go_wp2
  generalize w2.drew = w7 at *
  refine wp_region_noPanic ?_
  refine wp_region_held (S := AddS w s) (by kernel_rfl) ?_
  replace hS : AddS w s w7.drew := ⟨hS.1, hS.2.drew⟩
  show wpAnyH _ _ _ _ _ _ _ _ w7.drew
  generalize w7.drew = w8 at hS ⊢
  refine wpAnyH_take (i := 0) (v := .pointer p) rfl (by kernel_rfl) (by kernel_rfl) (by kernel_rfl) (fun _ _ _ h => h) (.inl ⟨by kernel_rfl, fun w' hS => by go_simp⟩) hS ?_
  try simp only [List.getElem_toArray, List.getElem_cons_succ, List.getElem_cons_zero, Act.put, List.setIfInBounds_toArray, List.set_cons_zero, List.set_cons_succ]
  refine wpAnyH_take (i := 3) (v := .int .i64 (j : Int)) rfl (by kernel_rfl) (by kernel_rfl) (by kernel_rfl) (fun _ _ _ h => h) (.inl ⟨by kernel_rfl, fun w' hS => by go_simp⟩) hS ?_
  try simp only [List.getElem_toArray, List.getElem_cons_succ, List.getElem_cons_zero, Act.put, List.setIfInBounds_toArray, List.set_cons_zero, List.set_cons_succ]
  refine wpAnyH_take (i := 4) (v := .agg #[.int .i64 s.f0, .int .i64 s.f1, .string s.f2]) rfl (by kernel_rfl) (by kernel_rfl) (by kernel_rfl) (fun _ _ _ h => h) (.inl ⟨by kernel_rfl, fun w' hS => by obtain ⟨q0_, q1_, q2_⟩ := hS.cells; go_simp⟩) hS ?_
  try simp only [List.getElem_toArray, List.getElem_cons_succ, List.getElem_cons_zero, Act.put, List.setIfInBounds_toArray, List.set_cons_zero, List.set_cons_succ]
  refine wpAnyH_ready (rs := [1, 5]) (by kernel_rfl) (by simp) (AllReadyH.cons rfl (fun K' hK => ?_) (AllReadyH.cons rfl (fun K' hK => ?_) AllReadyH.nil))
  · rw [if_pos (by kernel_rfl)]
    go_simp
    go_at_call 63
    refine (span_spans.calls' _ L _ (HT.out.below hS.2)).mono ?_
    rintro e w9 ⟨⟨A6, n6, rfl, hn6, hC6⟩, rfl⟩
    have hS' := hS
    have HN6 := Aside0.mk hn6
    have HC6 := Aside0.mk hC6
    clear hn6 hC6
    refine hK.out _ _ hS' (fun _ => ?_)
    clear hK hS
    have hS := hS'
    clear hS'
    try simp only [List.getElem_toArray, List.getElem_cons_succ, List.getElem_cons_zero, Act.put, List.setIfInBounds_toArray, List.set_cons_zero, List.set_cons_succ]
    refine wpAnyH_ready (rs := [2, 5]) (by kernel_rfl) (by simp) (AllReadyH.cons rfl (fun K' hK => ?_) (AllReadyH.cons rfl (fun K' hK => ?_) AllReadyH.nil))
    · rw [if_pos (by kernel_rfl)]
      go_simp
      go_at_call 65
      refine (span_Clone.calls A6 n6 L _ HC6.out HN6.out HSM.out).mono ?_
      rintro e w10 ⟨v0, rfl, hR0, hb0⟩
      have hS' : AddS w s w10 := hS.below hb0
      have HB0 : Aside0 (w.heap.size < w9.heap.size) := ⟨hS.lt⟩
      refine hK.out _ _ hS' (fun _ => ?_)
      clear hK hS
      have hS := hS'
      clear hS'
      try simp only [List.getElem_toArray, List.getElem_cons_succ, List.getElem_cons_zero, Act.put, List.setIfInBounds_toArray, List.set_cons_zero, List.set_cons_succ]
      refine wpAnyH_ready (rs := [5]) (by kernel_rfl) (by simp) (AllReadyH.cons rfl (fun K' hK => ?_) AllReadyH.nil)
      rw [if_pos (by kernel_rfl)]
      go_simp
      have hbA := (Below.refl w10.heap.size w10).alloc (Nat.le_refl _) (.cells #[.int .i64 s.f0, .int .i64 s.f1, .string s.f2] 43)
      have hS' := hS.below hbA
      have hvA : (w10.alloc (.cells #[.int .i64 s.f0, .int .i64 s.f1, .string s.f2] 43)).heap[w10.heap.size]? = some (.cells (span_cells s).toArray 43 (0, 0)) := heap_alloc_new w10 _
      refine hK.out _ _ hS' (fun _ => ?_)
      clear hK
      have hS0 := hS
      replace hS := hS'
      clear hS'
      try simp only [List.getElem_toArray, List.getElem_cons_succ, List.getElem_cons_zero, Act.put, List.setIfInBounds_toArray, List.set_cons_zero, List.set_cons_succ]
      have HR0 := Aside0.mk (Kd.R_below hR0 hbA)
      have HBB := Aside0.mk (Nat.le_trans hb0.size hbA.size)
      have HV := Aside0.mk hvA
      have HNE : Aside0 (some w10.heap.size ≠ v0.ownBlock) := ⟨fun e => by obtain ⟨_, ho⟩ := Kd.R_own hR0; have := own_lt ho _ e.symm; omega⟩
      clear hR0 hb0 hvA hbA hS0
      generalize w9.heap.size = B at *
      generalize w10.heap.size = vb at *
      generalize w10.alloc (.cells #[.int .i64 s.f0, .int .i64 s.f1, .string s.f2] 43) = w11 at *
      refine wpAnyH_ready (rs := [6]) (by kernel_rfl) (by simp) (AllReadyH.cons rfl (fun K' hK => ?_) AllReadyH.nil)
      rw [if_pos (by kernel_rfl)]
      go_simp
      go_at_call 64
      refine (span_Insert.calls B v0 L j s vb 1 43 _ HR0.out HJ.out HSM.out HBB.out HV.out HNE.out).mono ?_
      rintro e w9 ⟨v9, rfl, hR9, hb9⟩
      have hS' : AddS w s w9 := ⟨(hb9.block _ HB0.out).trans hS.1, hS.2.trans (hb9.mono (Nat.le_of_lt HB0.out))⟩
      obtain ⟨ad9, c9, rfl⟩ := Kd.R_slice1 hR9 (by simp only [List.length_append, List.length_cons]; omega)
      have HR9 := Aside0.mk hR9
      clear hR9 hb9
      refine hK.out _ _ hS' (fun _ => ?_)
      clear hK hS
      have hS := hS'
      clear hS'
      try simp only [List.getElem_toArray, List.getElem_cons_succ, List.getElem_cons_zero, Act.put, List.setIfInBounds_toArray, List.set_cons_zero, List.set_cons_succ]
      refine wpAnyH_take (i := 7) (v := .agg #[.slice (some ad9) (L.take j ++ s :: L.drop j).length c9]) rfl (by kernel_rfl) (by kernel_rfl) (by kernel_rfl) (fun _ _ _ h => h) (.inl ⟨by kernel_rfl, fun w' hS => by go_simp⟩) hS ?_
      try simp only [List.getElem_toArray, List.getElem_cons_succ, List.getElem_cons_zero, Act.put, List.setIfInBounds_toArray, List.set_cons_zero, List.set_cons_succ]
      refine wpAnyH_ready (rs := [8]) (by kernel_rfl) (by simp) (AllReadyH.cons rfl (fun K' hK => ?_) AllReadyH.nil)
      rw [if_pos (by kernel_rfl)]
      go_simp
      have hS' := hS.below ((Below.refl w9.heap.size w9).alloc (Nat.le_refl _) (.cells #[.slice (some ad9) (L.take j ++ s :: L.drop j).length c9] 91 (0, 0)))
      simp only [List.length_append, List.length_take, List.length_drop, List.length_cons] at hS'
      refine hK.out _ _ hS' (fun _ => ?_)
      clear hK
      try simp only [List.getElem_toArray, List.getElem_cons_succ, List.getElem_cons_zero, Act.put, List.setIfInBounds_toArray, List.set_cons_zero, List.set_cons_succ]
      replace hS := hS'
      clear hS'
      refine wpAnyH_take (i := 9) (v := .pointer (some ⟨w9.heap.size, 0, none⟩)) rfl (by kernel_rfl) (by kernel_rfl) (by kernel_rfl) (fun _ _ _ h => h) (.inl ⟨by kernel_rfl, fun w' hS => by go_simp⟩) hS ?_
      try simp only [List.getElem_toArray, List.getElem_cons_succ, List.getElem_cons_zero, Act.put, List.setIfInBounds_toArray, List.set_cons_zero, List.set_cons_succ]
      refine wpAnyH_take (i := 10) (v := .int .i64 0) rfl (by kernel_rfl) (by kernel_rfl) (by kernel_rfl) (fun _ _ _ h => h) (.inl ⟨by kernel_rfl, fun w' hS => by go_simp⟩) hS ?_
      try simp only [List.getElem_toArray, List.getElem_cons_succ, List.getElem_cons_zero, Act.put, List.setIfInBounds_toArray, List.set_cons_zero, List.set_cons_succ]
      refine wpAnyH_done (by kernel_rfl) ?_ _
      refine NoPanic.normal ?_
      go_wp2
      go_ret2
      exact span_Add.end HR9.out hS.2 (by simp only [List.length_append, List.length_take, List.length_drop, List.length_cons])
    · rw [if_pos (by kernel_rfl)]
      go_simp
      have hbA := (Below.refl w9.heap.size w9).alloc (Nat.le_refl _) (.cells #[.int .i64 s.f0, .int .i64 s.f1, .string s.f2] 43)
      have hS' := hS.below hbA
      have hvA : (w9.alloc (.cells #[.int .i64 s.f0, .int .i64 s.f1, .string s.f2] 43)).heap[w9.heap.size]? = some (.cells (span_cells s).toArray 43 (0, 0)) := heap_alloc_new w9 _
      refine hK.out _ _ hS' (fun _ => ?_)
      clear hK
      have hS0 := hS
      replace hS := hS'
      clear hS'
      try simp only [List.getElem_toArray, List.getElem_cons_succ, List.getElem_cons_zero, Act.put, List.setIfInBounds_toArray, List.set_cons_zero, List.set_cons_succ]
      replace HC6 := Aside0.mk (Kd.C_below HC6.out hbA)
      have hvl : w9.heap.size < (w9.alloc (.cells #[.int .i64 s.f0, .int .i64 s.f1, .string s.f2] 43)).heap.size := (Array.getElem?_eq_some_iff.1 hvA).1
      have HB0 : Aside0 (w.heap.size < (w9.alloc (.cells #[.int .i64 s.f0, .int .i64 s.f1, .string s.f2] 43)).heap.size) := ⟨Nat.lt_trans hS0.lt hvl⟩
      clear hbA hS0
      generalize w9.heap.size = vb at *
      generalize w9.alloc (.cells #[.int .i64 s.f0, .int .i64 s.f1, .string s.f2] 43) = w11 at *
      refine wpAnyH_ready (rs := [2]) (by kernel_rfl) (by simp) (AllReadyH.cons rfl (fun K' hK => ?_) AllReadyH.nil)
      rw [if_pos (by kernel_rfl)]
      go_simp
      go_at_call 65
      refine (span_Clone.calls A6 n6 L _ HC6.out HN6.out HSM.out).mono ?_
      rintro e w12 ⟨v0, rfl, hR0, hb0⟩
      have hS' : AddS w s w12 := hS.below hb0
      refine hK.out _ _ hS' (fun _ => ?_)
      clear hK hS
      have hS := hS'
      clear hS'
      try simp only [List.getElem_toArray, List.getElem_cons_succ, List.getElem_cons_zero, Act.put, List.setIfInBounds_toArray, List.set_cons_zero, List.set_cons_succ]
      have HR0 := Aside0.mk hR0
      have HBB := Aside0.mk hb0.size
      have HV := Aside0.mk ((hb0.block _ hvl).trans hvA)
      have HNE : Aside0 (some vb ≠ v0.ownBlock) := ⟨fun e => by obtain ⟨_, ho⟩ := Kd.R_own hR0; have := own_base ho _ e.symm; omega⟩
      clear hR0 hb0 hvA hvl
      generalize w11.heap.size = B at *
      refine wpAnyH_ready (rs := [6]) (by kernel_rfl) (by simp) (AllReadyH.cons rfl (fun K' hK => ?_) AllReadyH.nil)
      rw [if_pos (by kernel_rfl)]
      go_simp
      go_at_call 64
      refine (span_Insert.calls B v0 L j s vb 1 43 _ HR0.out HJ.out HSM.out HBB.out HV.out HNE.out).mono ?_
      rintro e w9 ⟨v9, rfl, hR9, hb9⟩
      have hS' : AddS w s w9 := ⟨(hb9.block _ HB0.out).trans hS.1, hS.2.trans (hb9.mono (Nat.le_of_lt HB0.out))⟩
      obtain ⟨ad9, c9, rfl⟩ := Kd.R_slice1 hR9 (by simp only [List.length_append, List.length_cons]; omega)
      have HR9 := Aside0.mk hR9
      clear hR9 hb9
      refine hK.out _ _ hS' (fun _ => ?_)
      clear hK hS
      have hS := hS'
      clear hS'
      try simp only [List.getElem_toArray, List.getElem_cons_succ, List.getElem_cons_zero, Act.put, List.setIfInBounds_toArray, List.set_cons_zero, List.set_cons_succ]
      refine wpAnyH_take (i := 7) (v := .agg #[.slice (some ad9) (L.take j ++ s :: L.drop j).length c9]) rfl (by kernel_rfl) (by kernel_rfl) (by kernel_rfl) (fun _ _ _ h => h) (.inl ⟨by kernel_rfl, fun w' hS => by go_simp⟩) hS ?_
      try simp only [List.getElem_toArray, List.getElem_cons_succ, List.getElem_cons_zero, Act.put, List.setIfInBounds_toArray, List.set_cons_zero, List.set_cons_succ]
      refine wpAnyH_ready (rs := [8]) (by kernel_rfl) (by simp) (AllReadyH.cons rfl (fun K' hK => ?_) AllReadyH.nil)
      rw [if_pos (by kernel_rfl)]
      go_simp
      have hS' := hS.below ((Below.refl w9.heap.size w9).alloc (Nat.le_refl _) (.cells #[.slice (some ad9) (L.take j ++ s :: L.drop j).length c9] 91 (0, 0)))
      simp only [List.length_append, List.length_take, List.length_drop, List.length_cons] at hS'
      refine hK.out _ _ hS' (fun _ => ?_)
      clear hK
      try simp only [List.getElem_toArray, List.getElem_cons_succ, List.getElem_cons_zero, Act.put, List.setIfInBounds_toArray, List.set_cons_zero, List.set_cons_succ]
      replace hS := hS'
      clear hS'
      refine wpAnyH_take (i := 9) (v := .pointer (some ⟨w9.heap.size, 0, none⟩)) rfl (by kernel_rfl) (by kernel_rfl) (by kernel_rfl) (fun _ _ _ h => h) (.inl ⟨by kernel_rfl, fun w' hS => by go_simp⟩) hS ?_
      try simp only [List.getElem_toArray, List.getElem_cons_succ, List.getElem_cons_zero, Act.put, List.setIfInBounds_toArray, List.set_cons_zero, List.set_cons_succ]
      refine wpAnyH_take (i := 10) (v := .int .i64 0) rfl (by kernel_rfl) (by kernel_rfl) (by kernel_rfl) (fun _ _ _ h => h) (.inl ⟨by kernel_rfl, fun w' hS => by go_simp⟩) hS ?_
      try simp only [List.getElem_toArray, List.getElem_cons_succ, List.getElem_cons_zero, Act.put, List.setIfInBounds_toArray, List.set_cons_zero, List.set_cons_succ]
      refine wpAnyH_done (by kernel_rfl) ?_ _
      refine NoPanic.normal ?_
      go_wp2
      go_ret2
      exact span_Add.end HR9.out hS.2 (by simp only [List.length_append, List.length_take, List.length_drop, List.length_cons])
  · rw [if_pos (by kernel_rfl)]
    go_simp
    have hbA := (Below.refl w8.heap.size w8).alloc (Nat.le_refl _) (.cells #[.int .i64 s.f0, .int .i64 s.f1, .string s.f2] 43)
    have hS' := hS.below hbA
    have hvA : (w8.alloc (.cells #[.int .i64 s.f0, .int .i64 s.f1, .string s.f2] 43)).heap[w8.heap.size]? = some (.cells (span_cells s).toArray 43 (0, 0)) := heap_alloc_new w8 _
    refine hK.out _ _ hS' (fun _ => ?_)
    clear hK
    have hS0 := hS
    replace hS := hS'
    clear hS'
    try simp only [List.getElem_toArray, List.getElem_cons_succ, List.getElem_cons_zero, Act.put, List.setIfInBounds_toArray, List.set_cons_zero, List.set_cons_succ]
    have hvl : w8.heap.size < (w8.alloc (.cells #[.int .i64 s.f0, .int .i64 s.f1, .string s.f2] 43)).heap.size := (Array.getElem?_eq_some_iff.1 hvA).1
    have HB0 : Aside0 (w.heap.size < (w8.alloc (.cells #[.int .i64 s.f0, .int .i64 s.f1, .string s.f2] 43)).heap.size) := ⟨Nat.lt_trans hS0.lt hvl⟩
    clear hbA hS0
    generalize w8.heap.size = vb at *
    generalize w8.alloc (.cells #[.int .i64 s.f0, .int .i64 s.f1, .string s.f2] 43) = w11 at *
    refine wpAnyH_ready (rs := [1]) (by kernel_rfl) (by simp) (AllReadyH.cons rfl (fun K' hK => ?_) AllReadyH.nil)
    rw [if_pos (by kernel_rfl)]
    go_simp
    go_at_call 63
    refine (span_spans.calls' _ L _ (HT.out.below hS.2)).mono ?_
    rintro e w9 ⟨⟨A6, n6, rfl, hn6, hC6⟩, rfl⟩
    have hS' := hS
    have HN6 := Aside0.mk hn6
    have HC6 := Aside0.mk hC6
    clear hn6 hC6
    refine hK.out _ _ hS' (fun _ => ?_)
    clear hK hS
    have hS := hS'
    clear hS'
    try simp only [List.getElem_toArray, List.getElem_cons_succ, List.getElem_cons_zero, Act.put, List.setIfInBounds_toArray, List.set_cons_zero, List.set_cons_succ]
    refine wpAnyH_ready (rs := [2]) (by kernel_rfl) (by simp) (AllReadyH.cons rfl (fun K' hK => ?_) AllReadyH.nil)
    rw [if_pos (by kernel_rfl)]
    go_simp
    go_at_call 65
    refine (span_Clone.calls A6 n6 L _ HC6.out HN6.out HSM.out).mono ?_
    rintro e w12 ⟨v0, rfl, hR0, hb0⟩
    have hS' : AddS w s w12 := hS.below hb0
    refine hK.out _ _ hS' (fun _ => ?_)
    clear hK hS
    have hS := hS'
    clear hS'
    try simp only [List.getElem_toArray, List.getElem_cons_succ, List.getElem_cons_zero, Act.put, List.setIfInBounds_toArray, List.set_cons_zero, List.set_cons_succ]
    have HR0 := Aside0.mk hR0
    have HBB := Aside0.mk hb0.size
    have HV := Aside0.mk ((hb0.block _ hvl).trans hvA)
    have HNE : Aside0 (some vb ≠ v0.ownBlock) := ⟨fun e => by obtain ⟨_, ho⟩ := Kd.R_own hR0; have := own_base ho _ e.symm; omega⟩
    clear hR0 hb0 hvA hvl
    generalize w9.heap.size = B at *
    refine wpAnyH_ready (rs := [6]) (by kernel_rfl) (by simp) (AllReadyH.cons rfl (fun K' hK => ?_) AllReadyH.nil)
    rw [if_pos (by kernel_rfl)]
    go_simp
    go_at_call 64
    refine (span_Insert.calls B v0 L j s vb 1 43 _ HR0.out HJ.out HSM.out HBB.out HV.out HNE.out).mono ?_
    rintro e w9 ⟨v9, rfl, hR9, hb9⟩
    have hS' : AddS w s w9 := ⟨(hb9.block _ HB0.out).trans hS.1, hS.2.trans (hb9.mono (Nat.le_of_lt HB0.out))⟩
    obtain ⟨ad9, c9, rfl⟩ := Kd.R_slice1 hR9 (by simp only [List.length_append, List.length_cons]; omega)
    have HR9 := Aside0.mk hR9
    clear hR9 hb9
    refine hK.out _ _ hS' (fun _ => ?_)
    clear hK hS
    have hS := hS'
    clear hS'
    try simp only [List.getElem_toArray, List.getElem_cons_succ, List.getElem_cons_zero, Act.put, List.setIfInBounds_toArray, List.set_cons_zero, List.set_cons_succ]
    refine wpAnyH_take (i := 7) (v := .agg #[.slice (some ad9) (L.take j ++ s :: L.drop j).length c9]) rfl (by kernel_rfl) (by kernel_rfl) (by kernel_rfl) (fun _ _ _ h => h) (.inl ⟨by kernel_rfl, fun w' hS => by go_simp⟩) hS ?_
    try simp only [List.getElem_toArray, List.getElem_cons_succ, List.getElem_cons_zero, Act.put, List.setIfInBounds_toArray, List.set_cons_zero, List.set_cons_succ]
    refine wpAnyH_ready (rs := [8]) (by kernel_rfl) (by simp) (AllReadyH.cons rfl (fun K' hK => ?_) AllReadyH.nil)
    rw [if_pos (by kernel_rfl)]
    go_simp
    have hS' := hS.below ((Below.refl w9.heap.size w9).alloc (Nat.le_refl _) (.cells #[.slice (some ad9) (L.take j ++ s :: L.drop j).length c9] 91 (0, 0)))
    simp only [List.length_append, List.length_take, List.length_drop, List.length_cons] at hS'
    refine hK.out _ _ hS' (fun _ => ?_)
    clear hK
    try simp only [List.getElem_toArray, List.getElem_cons_succ, List.getElem_cons_zero, Act.put, List.setIfInBounds_toArray, List.set_cons_zero, List.set_cons_succ]
    replace hS := hS'
    clear hS'
    refine wpAnyH_take (i := 9) (v := .pointer (some ⟨w9.heap.size, 0, none⟩)) rfl (by kernel_rfl) (by kernel_rfl) (by kernel_rfl) (fun _ _ _ h => h) (.inl ⟨by kernel_rfl, fun w' hS => by go_simp⟩) hS ?_
    try simp only [List.getElem_toArray, List.getElem_cons_succ, List.getElem_cons_zero, Act.put, List.setIfInBounds_toArray, List.set_cons_zero, List.set_cons_succ]
    refine wpAnyH_take (i := 10) (v := .int .i64 0) rfl (by kernel_rfl) (by kernel_rfl) (by kernel_rfl) (fun _ _ _ h => h) (.inl ⟨by kernel_rfl, fun w' hS => by go_simp⟩) hS ?_
    try simp only [List.getElem_toArray, List.getElem_cons_succ, List.getElem_cons_zero, Act.put, List.setIfInBounds_toArray, List.set_cons_zero, List.set_cons_succ]
    refine wpAnyH_done (by kernel_rfl) ?_ _
    refine NoPanic.normal ?_
    go_wp2
    go_ret2
    exact span_Add.end HR9.out hS.2 (by simp only [List.length_append, List.length_take, List.length_drop, List.length_cons])
set_option maxHeartbeats 4000000 in
set_option maxRecDepth 100000 in
theorem span_Add.fitsC (k : Nat) (p : Option Addr) (L : List S43) (s : S43) (j : Nat) (w : World) (hT : Tab w p L) (hf : span_find.f k L s.f0 = some (j : Int)) (hc : ¬ (s.f0 < 0 ∨ 1114111 < s.f1 ∨ s.f1 < s.f0)) (hv : ¬ s.f2.toList = ([] : List UInt8)) (hj : j ≤ L.length) (hsm : L.length < 1099511627776) (c1 : (j : Int) < (L.length : Int)) (c3 : ¬ (rd_T43 L (j : Int)).f0 ≤ s.f1) :
    Calls Try.prog 30 #[.pointer p, .agg #[.int .i64 s.f0, .int .i64 s.f1, .string s.f2]] w fun e w' => ∃ g, e = .returned (.tuple #[.pointer (some ⟨g, 0, none⟩), .int .i64 0]) ∧ Tab w' (some ⟨g, 0, none⟩) (L.take j ++ s :: L.drop j) ∧ Below w.heap.size w w' := by
  have HT := Aside0.mk hT
  have HF := Aside0.mk hf
  have h1 : decide (s.f0 < 0) = false := by simp; omega
  have h2 : decide (1114111 < s.f1) = false := by simp; omega
  have h3 : decide (s.f1 < s.f0) = false := by simp; omega
  have b1 : (s.f2.toList == ([] : List UInt8)) = false := beq_eq_false_iff_ne.mpr hv
  have b3 : s.f2.toList.isEmpty = false := by
    cases hv' : s.f2.toList with
    | nil => exact absurd hv' hv
    | cons _ _ => rfl
  have HSM := Aside0.mk hsm
  have HJ := Aside0.mk hj
  rcases hT.open_ with ⟨_, rfl⟩ | ⟨g, A, n, rfl, q2, q3, q4⟩
  · simp at c1; omega
  have hcg : w.cell? ⟨g, 0, none⟩ = some (.slice A L.length n) := by unfold World.cell?; rw [q2]; rfl
  obtain ⟨ad, rfl, hx0, hx1, hx2⟩ := at_T43 q4 (j : Int) (by omega) c1
  rw [Int.toNat_natCast] at hx0
  have HCG := Aside0.mk hcg
  have HX0 := Aside0.mk hx0
  have e1 : decide ((j : Int) < (L.length : Int)) = true := decide_eq_true c1
  have e2 := eq_true c1
  have e4 := eq_false c3
  have e5 : decide ((rd_T43 L (j : Int)).f0 ≤ s.f1) = false := decide_eq_false c3
  clear hT hf hc hj hsm q2 q3 q4 hcg hx0 hx1 hx2 c1 c3
  go_enter Try.func30, Try.ntmps30
  have HS := Aside0.mk (AddS.start w s)
  go_wp2_with (first
    | (go_at_call 62
       refine (span_find.calls k _ L s.f0 (j : Int) _ (HT.out.below HS.out.2) HF.out).mono ?_
       rintro e w2 ⟨rfl, hb⟩
       have HS2 := Aside0.mk (HS.out.below hb)
       obtain ⟨hx0, hx1, hx2⟩ := HS2.out.cells
       clear hb))
  refine wp_region_noPanic ?_
  refine wp_region_held (S := AddS w s) (by kernel_rfl) ?_
  have hS : AddS w s w2.drew := ⟨HS2.out.1, HS2.out.2.drew⟩
  show wpAnyH _ _ _ _ _ _ _ _ w2.drew
  refine wpAnyH_take (i := 0) (v := .int .i64 (j : Int)) rfl (by kernel_rfl) (by kernel_rfl) (by kernel_rfl) (fun _ _ _ h => h) (.inl ⟨by kernel_rfl, fun w' hS => by go_simp⟩) hS ?_
  try simp only [List.getElem_toArray, List.getElem_cons_succ, List.getElem_cons_zero, Act.put, List.setIfInBounds_toArray, List.set_cons_zero, List.set_cons_succ]
  refine wpAnyH_take (i := 1) (v := .pointer (some ⟨g, 0, none⟩)) rfl (by kernel_rfl) (by kernel_rfl) (by kernel_rfl) (fun _ _ _ h => h) (.inl ⟨by kernel_rfl, fun w' hS => by go_simp⟩) hS ?_
  try simp only [List.getElem_toArray, List.getElem_cons_succ, List.getElem_cons_zero, Act.put, List.setIfInBounds_toArray, List.set_cons_zero, List.set_cons_succ]
  refine wpAnyH_ready (rs := [2]) (by kernel_rfl) (by simp) (AllReadyH.cons rfl (fun K' hK => ?_) AllReadyH.nil)
  rw [if_pos (by kernel_rfl)]
  go_simp
  go_at_call 63
  refine (span_spans.calls' _ L _ (HT.out.below hS.2)).mono ?_
  rintro e w7 ⟨⟨A6, n6, rfl, hn6, hC6⟩, rfl⟩
  have hS' := hS
  refine hK.out _ _ hS' (fun _ => ?_)
  clear hK hS
  have hS := hS'
  clear hS'
  try simp only [List.getElem_toArray, List.getElem_cons_succ, List.getElem_cons_zero, Act.put, List.setIfInBounds_toArray, List.set_cons_zero, List.set_cons_succ]
  refine wpAnyH_take (i := 3) (v := .int .i64 (L.length : Int)) rfl (by kernel_rfl) (by kernel_rfl) (by kernel_rfl) (fun _ _ _ h => h) (.inl ⟨by kernel_rfl, fun w' hS => by go_simp⟩) hS ?_
  try simp only [List.getElem_toArray, List.getElem_cons_succ, List.getElem_cons_zero, Act.put, List.setIfInBounds_toArray, List.set_cons_zero, List.set_cons_succ]
  refine wpAnyH_take (i := 4) (v := .bool true) rfl (by kernel_rfl) (by kernel_rfl) (by kernel_rfl) (fun _ _ _ h => h) (.inl ⟨by kernel_rfl, fun w' hS => by go_simp⟩) hS ?_
  try simp only [List.getElem_toArray, List.getElem_cons_succ, List.getElem_cons_zero, Act.put, List.setIfInBounds_toArray, List.set_cons_zero, List.set_cons_succ]
  refine wpAnyH_take (i := 5) (v := .bool true) rfl (by kernel_rfl) (by kernel_rfl) (by kernel_rfl) (fun _ _ _ h => h) (.inl ⟨by kernel_rfl, fun w' hS => by go_simp⟩) hS ?_
  try simp only [List.getElem_toArray, List.getElem_cons_succ, List.getElem_cons_zero, Act.put, List.setIfInBounds_toArray, List.set_cons_zero, List.set_cons_succ]
  refine wpAnyH_take (i := 6) (v := .pointer (some ⟨g, 0, none⟩)) rfl (by kernel_rfl) (by kernel_rfl) (by kernel_rfl) (fun _ _ _ h => h) (.inl ⟨by kernel_rfl, fun w' hS => by go_simp⟩) hS ?_
  try simp only [List.getElem_toArray, List.getElem_cons_succ, List.getElem_cons_zero, Act.put, List.setIfInBounds_toArray, List.set_cons_zero, List.set_cons_succ]
  refine wpAnyH_take (i := 7) (v := .pointer (some ⟨g, 0, none⟩)) rfl (by kernel_rfl) (by kernel_rfl) (by kernel_rfl) (fun _ _ _ h => h) (.inl ⟨by kernel_rfl, fun w' hS => by go_simp⟩) hS ?_
  try simp only [List.getElem_toArray, List.getElem_cons_succ, List.getElem_cons_zero, Act.put, List.setIfInBounds_toArray, List.set_cons_zero, List.set_cons_succ]
  refine wpAnyH_take (i := 8) (v := .pointer (some ⟨g, 0, none⟩)) rfl (by kernel_rfl) (by kernel_rfl) (by kernel_rfl) (fun _ _ _ h => h) (.inl ⟨by kernel_rfl, fun w' hS => by go_simp⟩) hS ?_
  try simp only [List.getElem_toArray, List.getElem_cons_succ, List.getElem_cons_zero, Act.put, List.setIfInBounds_toArray, List.set_cons_zero, List.set_cons_succ]
  refine wpAnyH_take (i := 9) (v := .slice (some ad) L.length n) rfl (by kernel_rfl) (by kernel_rfl) (by kernel_rfl) (fun _ _ _ h => h) (.inl ⟨by kernel_rfl, fun w' hS => by have q_ := (hS.2.cell (World.block_lt_of_cell? w _ HCG.out)).trans HCG.out; go_simp⟩) hS ?_
  try simp only [List.getElem_toArray, List.getElem_cons_succ, List.getElem_cons_zero, Act.put, List.setIfInBounds_toArray, List.set_cons_zero, List.set_cons_succ]
  refine wpAnyH_take (i := 10) (v := .int .i64 (j : Int)) rfl (by kernel_rfl) (by kernel_rfl) (by kernel_rfl) (fun _ _ _ h => h) (.inl ⟨by kernel_rfl, fun w' hS => by go_simp⟩) hS ?_
  try simp only [List.getElem_toArray, List.getElem_cons_succ, List.getElem_cons_zero, Act.put, List.setIfInBounds_toArray, List.set_cons_zero, List.set_cons_succ]
  refine wpAnyH_take (i := 11) (v := .pointer (some (ad.add (j * 3)))) rfl (by kernel_rfl) (by kernel_rfl) (by kernel_rfl) (fun _ _ _ h => h) (.inl ⟨by kernel_rfl, fun w' hS => by go_simp⟩) hS ?_
  try simp only [List.getElem_toArray, List.getElem_cons_succ, List.getElem_cons_zero, Act.put, List.setIfInBounds_toArray, List.set_cons_zero, List.set_cons_succ]
  refine wpAnyH_take (i := 12) (v := .pointer (some (ad.add (j * 3)))) rfl (by kernel_rfl) (by kernel_rfl) (by kernel_rfl) (fun _ _ _ h => h) (.inl ⟨by kernel_rfl, fun w' hS => by go_simp⟩) hS ?_
  try simp only [List.getElem_toArray, List.getElem_cons_succ, List.getElem_cons_zero, Act.put, List.setIfInBounds_toArray, List.set_cons_zero, List.set_cons_succ]
  refine wpAnyH_take (i := 13) (v := .int .i64 (rd_T43 L (j : Int)).f0) rfl (by kernel_rfl) (by kernel_rfl) (by kernel_rfl) (fun _ _ _ h => h) (.inl ⟨by kernel_rfl, fun w' hS => by have q_ := (hS.2.cell (World.block_lt_of_cell? w _ HX0.out)).trans HX0.out; go_simp⟩) hS ?_
  try simp only [List.getElem_toArray, List.getElem_cons_succ, List.getElem_cons_zero, Act.put, List.setIfInBounds_toArray, List.set_cons_zero, List.set_cons_succ]
  refine wpAnyH_take (i := 14) (v := .pointer (some ⟨w.heap.size, 1, none⟩)) rfl (by kernel_rfl) (by kernel_rfl) (by kernel_rfl) (fun _ _ _ h => h) (.inl ⟨by kernel_rfl, fun w' hS => by go_simp⟩) hS ?_
  try simp only [List.getElem_toArray, List.getElem_cons_succ, List.getElem_cons_zero, Act.put, List.setIfInBounds_toArray, List.set_cons_zero, List.set_cons_succ]
  refine wpAnyH_take (i := 15) (v := .int .i64 s.f1) rfl (by kernel_rfl) (by kernel_rfl) (by kernel_rfl) (fun _ _ _ h => h) (.inl ⟨by kernel_rfl, fun w' hS => by have q_ := hS.cells.2.1; go_simp⟩) hS ?_
  try simp only [List.getElem_toArray, List.getElem_cons_succ, List.getElem_cons_zero, Act.put, List.setIfInBounds_toArray, List.set_cons_zero, List.set_cons_succ]
  refine wpAnyH_take (i := 16) (v := .bool false) rfl (by kernel_rfl) (by kernel_rfl) (by kernel_rfl) (fun _ _ _ h => h) (.inl ⟨by kernel_rfl, fun w' hS => by go_simp⟩) hS ?_
  try simp only [List.getElem_toArray, List.getElem_cons_succ, List.getElem_cons_zero, Act.put, List.setIfInBounds_toArray, List.set_cons_zero, List.set_cons_succ]
  refine wpAnyH_take (i := 17) (v := .bool false) rfl (by kernel_rfl) (by kernel_rfl) (by kernel_rfl) (fun _ _ _ h => h) (.inl ⟨by kernel_rfl, fun w' hS => by go_simp⟩) hS ?_
  try simp only [List.getElem_toArray, List.getElem_cons_succ, List.getElem_cons_zero, Act.put, List.setIfInBounds_toArray, List.set_cons_zero, List.set_cons_succ]
  refine wpAnyH_take (i := 18) (v := .bool false) rfl (by kernel_rfl) (by kernel_rfl) (by kernel_rfl) (fun _ _ _ h => h) (.inl ⟨by kernel_rfl, fun w' hS => by go_simp⟩) hS ?_
  try simp only [List.getElem_toArray, List.getElem_cons_succ, List.getElem_cons_zero, Act.put, List.setIfInBounds_toArray, List.set_cons_zero, List.set_cons_succ]
  refine wpAnyH_done (by kernel_rfl) ?_ _
  refine NoPanic.normal ?_
  go_wp2
  generalize w2.drew = w7 at *
  refine wp_region_noPanic ?_
  refine wp_region_held (S := AddS w s) (by kernel_rfl) ?_
  replace hS : AddS w s w7.drew := ⟨hS.1, hS.2.drew⟩
  show wpAnyH _ _ _ _ _ _ _ _ w7.drew
  generalize w7.drew = w8 at hS ⊢
  refine wpAnyH_take (i := 0) (v := .pointer (some ⟨g, 0, none⟩)) rfl (by kernel_rfl) (by kernel_rfl) (by kernel_rfl) (fun _ _ _ h => h) (.inl ⟨by kernel_rfl, fun w' hS => by go_simp⟩) hS ?_
  try simp only [List.getElem_toArray, List.getElem_cons_succ, List.getElem_cons_zero, Act.put, List.setIfInBounds_toArray, List.set_cons_zero, List.set_cons_succ]
  refine wpAnyH_take (i := 3) (v := .int .i64 (j : Int)) rfl (by kernel_rfl) (by kernel_rfl) (by kernel_rfl) (fun _ _ _ h => h) (.inl ⟨by kernel_rfl, fun w' hS => by go_simp⟩) hS ?_
  try simp only [List.getElem_toArray, List.getElem_cons_succ, List.getElem_cons_zero, Act.put, List.setIfInBounds_toArray, List.set_cons_zero, List.set_cons_succ]
  refine wpAnyH_take (i := 4) (v := .agg #[.int .i64 s.f0, .int .i64 s.f1, .string s.f2]) rfl (by kernel_rfl) (by kernel_rfl) (by kernel_rfl) (fun _ _ _ h => h) (.inl ⟨by kernel_rfl, fun w' hS => by obtain ⟨q0_, q1_, q2_⟩ := hS.cells; go_simp⟩) hS ?_
  try simp only [List.getElem_toArray, List.getElem_cons_succ, List.getElem_cons_zero, Act.put, List.setIfInBounds_toArray, List.set_cons_zero, List.set_cons_succ]
  refine wpAnyH_ready (rs := [1, 5]) (by kernel_rfl) (by simp) (AllReadyH.cons rfl (fun K' hK => ?_) (AllReadyH.cons rfl (fun K' hK => ?_) AllReadyH.nil))
  · rw [if_pos (by kernel_rfl)]
    go_simp
    go_at_call 63
    refine (span_spans.calls' _ L _ (HT.out.below hS.2)).mono ?_
    rintro e w9 ⟨⟨A6, n6, rfl, hn6, hC6⟩, rfl⟩
    have hS' := hS
    have HN6 := Aside0.mk hn6
    have HC6 := Aside0.mk hC6
    clear hn6 hC6
    refine hK.out _ _ hS' (fun _ => ?_)
    clear hK hS
    have hS := hS'
    clear hS'
    try simp only [List.getElem_toArray, List.getElem_cons_succ, List.getElem_cons_zero, Act.put, List.setIfInBounds_toArray, List.set_cons_zero, List.set_cons_succ]
    refine wpAnyH_ready (rs := [2, 5]) (by kernel_rfl) (by simp) (AllReadyH.cons rfl (fun K' hK => ?_) (AllReadyH.cons rfl (fun K' hK => ?_) AllReadyH.nil))
    · rw [if_pos (by kernel_rfl)]
      go_simp
      go_at_call 65
      refine (span_Clone.calls A6 n6 L _ HC6.out HN6.out HSM.out).mono ?_
      rintro e w10 ⟨v0, rfl, hR0, hb0⟩
      have hS' : AddS w s w10 := hS.below hb0
      have HB0 : Aside0 (w.heap.size < w9.heap.size) := ⟨hS.lt⟩
      refine hK.out _ _ hS' (fun _ => ?_)
      clear hK hS
      have hS := hS'
      clear hS'
      try simp only [List.getElem_toArray, List.getElem_cons_succ, List.getElem_cons_zero, Act.put, List.setIfInBounds_toArray, List.set_cons_zero, List.set_cons_succ]
      refine wpAnyH_ready (rs := [5]) (by kernel_rfl) (by simp) (AllReadyH.cons rfl (fun K' hK => ?_) AllReadyH.nil)
      rw [if_pos (by kernel_rfl)]
      go_simp
      have hbA := (Below.refl w10.heap.size w10).alloc (Nat.le_refl _) (.cells #[.int .i64 s.f0, .int .i64 s.f1, .string s.f2] 43)
      have hS' := hS.below hbA
      have hvA : (w10.alloc (.cells #[.int .i64 s.f0, .int .i64 s.f1, .string s.f2] 43)).heap[w10.heap.size]? = some (.cells (span_cells s).toArray 43 (0, 0)) := heap_alloc_new w10 _
      refine hK.out _ _ hS' (fun _ => ?_)
      clear hK
      have hS0 := hS
      replace hS := hS'
      clear hS'
      try simp only [List.getElem_toArray, List.getElem_cons_succ, List.getElem_cons_zero, Act.put, List.setIfInBounds_toArray, List.set_cons_zero, List.set_cons_succ]
      have HR0 := Aside0.mk (Kd.R_below hR0 hbA)
      have HBB := Aside0.mk (Nat.le_trans hb0.size hbA.size)
      have HV := Aside0.mk hvA
      have HNE : Aside0 (some w10.heap.size ≠ v0.ownBlock) := ⟨fun e => by obtain ⟨_, ho⟩ := Kd.R_own hR0; have := own_lt ho _ e.symm; omega⟩
      clear hR0 hb0 hvA hbA hS0
      generalize w9.heap.size = B at *
      generalize w10.heap.size = vb at *
      generalize w10.alloc (.cells #[.int .i64 s.f0, .int .i64 s.f1, .string s.f2] 43) = w11 at *
      refine wpAnyH_ready (rs := [6]) (by kernel_rfl) (by simp) (AllReadyH.cons rfl (fun K' hK => ?_) AllReadyH.nil)
      rw [if_pos (by kernel_rfl)]
      go_simp
      go_at_call 64
      refine (span_Insert.calls B v0 L j s vb 1 43 _ HR0.out HJ.out HSM.out HBB.out HV.out HNE.out).mono ?_
      rintro e w9 ⟨v9, rfl, hR9, hb9⟩
      have hS' : AddS w s w9 := ⟨(hb9.block _ HB0.out).trans hS.1, hS.2.trans (hb9.mono (Nat.le_of_lt HB0.out))⟩
      obtain ⟨ad9, c9, rfl⟩ := Kd.R_slice1 hR9 (by simp only [List.length_append, List.length_cons]; omega)
      have HR9 := Aside0.mk hR9
      clear hR9 hb9
      refine hK.out _ _ hS' (fun _ => ?_)
      clear hK hS
      have hS := hS'
      clear hS'
      try simp only [List.getElem_toArray, List.getElem_cons_succ, List.getElem_cons_zero, Act.put, List.setIfInBounds_toArray, List.set_cons_zero, List.set_cons_succ]
      refine wpAnyH_take (i := 7) (v := .agg #[.slice (some ad9) (L.take j ++ s :: L.drop j).length c9]) rfl (by kernel_rfl) (by kernel_rfl) (by kernel_rfl) (fun _ _ _ h => h) (.inl ⟨by kernel_rfl, fun w' hS => by go_simp⟩) hS ?_
      try simp only [List.getElem_toArray, List.getElem_cons_succ, List.getElem_cons_zero, Act.put, List.setIfInBounds_toArray, List.set_cons_zero, List.set_cons_succ]
      refine wpAnyH_ready (rs := [8]) (by kernel_rfl) (by simp) (AllReadyH.cons rfl (fun K' hK => ?_) AllReadyH.nil)
      rw [if_pos (by kernel_rfl)]
      go_simp
      have hS' := hS.below ((Below.refl w9.heap.size w9).alloc (Nat.le_refl _) (.cells #[.slice (some ad9) (L.take j ++ s :: L.drop j).length c9] 91 (0, 0)))
      simp only [List.length_append, List.length_take, List.length_drop, List.length_cons] at hS'
      refine hK.out _ _ hS' (fun _ => ?_)
      clear hK
      try simp only [List.getElem_toArray, List.getElem_cons_succ, List.getElem_cons_zero, Act.put, List.setIfInBounds_toArray, List.set_cons_zero, List.set_cons_succ]
      replace hS := hS'
      clear hS'
      refine wpAnyH_take (i := 9) (v := .pointer (some ⟨w9.heap.size, 0, none⟩)) rfl (by kernel_rfl) (by kernel_rfl) (by kernel_rfl) (fun _ _ _ h => h) (.inl ⟨by kernel_rfl, fun w' hS => by go_simp⟩) hS ?_
      try simp only [List.getElem_toArray, List.getElem_cons_succ, List.getElem_cons_zero, Act.put, List.setIfInBounds_toArray, List.set_cons_zero, List.set_cons_succ]
      refine wpAnyH_take (i := 10) (v := .int .i64 0) rfl (by kernel_rfl) (by kernel_rfl) (by kernel_rfl) (fun _ _ _ h => h) (.inl ⟨by kernel_rfl, fun w' hS => by go_simp⟩) hS ?_
      try simp only [List.getElem_toArray, List.getElem_cons_succ, List.getElem_cons_zero, Act.put, List.setIfInBounds_toArray, List.set_cons_zero, List.set_cons_succ]
      refine wpAnyH_done (by kernel_rfl) ?_ _
      refine NoPanic.normal ?_
      go_wp2
      go_ret2
      exact span_Add.end HR9.out hS.2 (by simp only [List.length_append, List.length_take, List.length_drop, List.length_cons])
    · rw [if_pos (by kernel_rfl)]
      go_simp
      have hbA := (Below.refl w9.heap.size w9).alloc (Nat.le_refl _) (.cells #[.int .i64 s.f0, .int .i64 s.f1, .string s.f2] 43)
      have hS' := hS.below hbA
      have hvA : (w9.alloc (.cells #[.int .i64 s.f0, .int .i64 s.f1, .string s.f2] 43)).heap[w9.heap.size]? = some (.cells (span_cells s).toArray 43 (0, 0)) := heap_alloc_new w9 _
      refine hK.out _ _ hS' (fun _ => ?_)
      clear hK
      have hS0 := hS
      replace hS := hS'
      clear hS'
      try simp only [List.getElem_toArray, List.getElem_cons_succ, List.getElem_cons_zero, Act.put, List.setIfInBounds_toArray, List.set_cons_zero, List.set_cons_succ]
      replace HC6 := Aside0.mk (Kd.C_below HC6.out hbA)
      have hvl : w9.heap.size < (w9.alloc (.cells #[.int .i64 s.f0, .int .i64 s.f1, .string s.f2] 43)).heap.size := (Array.getElem?_eq_some_iff.1 hvA).1
      have HB0 : Aside0 (w.heap.size < (w9.alloc (.cells #[.int .i64 s.f0, .int .i64 s.f1, .string s.f2] 43)).heap.size) := ⟨Nat.lt_trans hS0.lt hvl⟩
      clear hbA hS0
      generalize w9.heap.size = vb at *
      generalize w9.alloc (.cells #[.int .i64 s.f0, .int .i64 s.f1, .string s.f2] 43) = w11 at *
      refine wpAnyH_ready (rs := [2]) (by kernel_rfl) (by simp) (AllReadyH.cons rfl (fun K' hK => ?_) AllReadyH.nil)
      rw [if_pos (by kernel_rfl)]
      go_simp
      go_at_call 65
      refine (span_Clone.calls A6 n6 L _ HC6.out HN6.out HSM.out).mono ?_
      rintro e w12 ⟨v0, rfl, hR0, hb0⟩
      have hS' : AddS w s w12 := hS.below hb0
      refine hK.out _ _ hS' (fun _ => ?_)
      clear hK hS
      have hS := hS'
      clear hS'
      try simp only [List.getElem_toArray, List.getElem_cons_succ, List.getElem_cons_zero, Act.put, List.setIfInBounds_toArray, List.set_cons_zero, List.set_cons_succ]
      have HR0 := Aside0.mk hR0
      have HBB := Aside0.mk hb0.size
      have HV := Aside0.mk ((hb0.block _ hvl).trans hvA)
      have HNE : Aside0 (some vb ≠ v0.ownBlock) := ⟨fun e => by obtain ⟨_, ho⟩ := Kd.R_own hR0; have := own_base ho _ e.symm; omega⟩
      clear hR0 hb0 hvA hvl
      generalize w11.heap.size = B at *
      refine wpAnyH_ready (rs := [6]) (by kernel_rfl) (by simp) (AllReadyH.cons rfl (fun K' hK => ?_) AllReadyH.nil)
      rw [if_pos (by kernel_rfl)]
      go_simp
      go_at_call 64
      refine (span_Insert.calls B v0 L j s vb 1 43 _ HR0.out HJ.out HSM.out HBB.out HV.out HNE.out).mono ?_
      rintro e w9 ⟨v9, rfl, hR9, hb9⟩
      have hS' : AddS w s w9 := ⟨(hb9.block _ HB0.out).trans hS.1, hS.2.trans (hb9.mono (Nat.le_of_lt HB0.out))⟩
      obtain ⟨ad9, c9, rfl⟩ := Kd.R_slice1 hR9 (by simp only [List.length_append, List.length_cons]; omega)
      have HR9 := Aside0.mk hR9
      clear hR9 hb9
      refine hK.out _ _ hS' (fun _ => ?_)
      clear hK hS
      have hS := hS'
      clear hS'
      try simp only [List.getElem_toArray, List.getElem_cons_succ, List.getElem_cons_zero, Act.put, List.setIfInBounds_toArray, List.set_cons_zero, List.set_cons_succ]
      refine wpAnyH_take (i := 7) (v := .agg #[.slice (some ad9) (L.take j ++ s :: L.drop j).length c9]) rfl (by kernel_rfl) (by kernel_rfl) (by kernel_rfl) (fun _ _ _ h => h) (.inl ⟨by kernel_rfl, fun w' hS => by go_simp⟩) hS ?_
      try simp only [List.getElem_toArray, List.getElem_cons_succ, List.getElem_cons_zero, Act.put, List.setIfInBounds_toArray, List.set_cons_zero, List.set_cons_succ]
      refine wpAnyH_ready (rs := [8]) (by kernel_rfl) (by simp) (AllReadyH.cons rfl (fun K' hK => ?_) AllReadyH.nil)
      rw [if_pos (by kernel_rfl)]
      go_simp
      have hS' := hS.below ((Below.refl w9.heap.size w9).alloc (Nat.le_refl _) (.cells #[.slice (some ad9) (L.take j ++ s :: L.drop j).length c9] 91 (0, 0)))
      simp only [List.length_append, List.length_take, List.length_drop, List.length_cons] at hS'
      refine hK.out _ _ hS' (fun _ => ?_)
      clear hK
      try simp only [List.getElem_toArray, List.getElem_cons_succ, List.getElem_cons_zero, Act.put, List.setIfInBounds_toArray, List.set_cons_zero, List.set_cons_succ]
      replace hS := hS'
      clear hS'
      refine wpAnyH_take (i := 9) (v := .pointer (some ⟨w9.heap.size, 0, none⟩)) rfl (by kernel_rfl) (by kernel_rfl) (by kernel_rfl) (fun _ _ _ h => h) (.inl ⟨by kernel_rfl, fun w' hS => by go_simp⟩) hS ?_
      try simp only [List.getElem_toArray, List.getElem_cons_succ, List.getElem_cons_zero, Act.put, List.setIfInBounds_toArray, List.set_cons_zero, List.set_cons_succ]
      refine wpAnyH_take (i := 10) (v := .int .i64 0) rfl (by kernel_rfl) (by kernel_rfl) (by kernel_rfl) (fun _ _ _ h => h) (.inl ⟨by kernel_rfl, fun w' hS => by go_simp⟩) hS ?_
      try simp only [List.getElem_toArray, List.getElem_cons_succ, List.getElem_cons_zero, Act.put, List.setIfInBounds_toArray, List.set_cons_zero, List.set_cons_succ]
      refine wpAnyH_done (by kernel_rfl) ?_ _
      refine NoPanic.normal ?_
      go_wp2
      go_ret2
      exact span_Add.end HR9.out hS.2 (by simp only [List.length_append, List.length_take, List.length_drop, List.length_cons])
  · rw [if_pos (by kernel_rfl)]
    go_simp
    have hbA := (Below.refl w8.heap.size w8).alloc (Nat.le_refl _) (.cells #[.int .i64 s.f0, .int .i64 s.f1, .string s.f2] 43)
    have hS' := hS.below hbA
    have hvA : (w8.alloc (.cells #[.int .i64 s.f0, .int .i64 s.f1, .string s.f2] 43)).heap[w8.heap.size]? = some (.cells (span_cells s).toArray 43 (0, 0)) := heap_alloc_new w8 _
    refine hK.out _ _ hS' (fun _ => ?_)
    clear hK
    have hS0 := hS
    replace hS := hS'
    clear hS'
    try simp only [List.getElem_toArray, List.getElem_cons_succ, List.getElem_cons_zero, Act.put, List.setIfInBounds_toArray, List.set_cons_zero, List.set_cons_succ]
    have hvl : w8.heap.size < (w8.alloc (.cells #[.int .i64 s.f0, .int .i64 s.f1, .string s.f2] 43)).heap.size := (Array.getElem?_eq_some_iff.1 hvA).1
    have HB0 : Aside0 (w.heap.size < (w8.alloc (.cells #[.int .i64 s.f0, .int .i64 s.f1, .string s.f2] 43)).heap.size) := ⟨Nat.lt_trans hS0.lt hvl⟩
    clear hbA hS0
    generalize w8.heap.size = vb at *
    generalize w8.alloc (.cells #[.int .i64 s.f0, .int .i64 s.f1, .string s.f2] 43) = w11 at *
    refine wpAnyH_ready (rs := [1]) (by kernel_rfl) (by simp) (AllReadyH.cons rfl (fun K' hK => ?_) AllReadyH.nil)
    rw [if_pos (by kernel_rfl)]
    go_simp
    go_at_call 63
    refine (span_spans.calls' _ L _ (HT.out.below hS.2)).mono ?_
    rintro e w9 ⟨⟨A6, n6, rfl, hn6, hC6⟩, rfl⟩
    have hS' := hS
    have HN6 := Aside0.mk hn6
    have HC6 := Aside0.mk hC6
    clear hn6 hC6
    refine hK.out _ _ hS' (fun _ => ?_)
    clear hK hS
    have hS := hS'
    clear hS'
    try simp only [List.getElem_toArray, List.getElem_cons_succ, List.getElem_cons_zero, Act.put, List.setIfInBounds_toArray, List.set_cons_zero, List.set_cons_succ]
    refine wpAnyH_ready (rs := [2]) (by kernel_rfl) (by simp) (AllReadyH.cons rfl (fun K' hK => ?_) AllReadyH.nil)
    rw [if_pos (by kernel_rfl)]
    go_simp
    go_at_call 65
    refine (span_Clone.calls A6 n6 L _ HC6.out HN6.out HSM.out).mono ?_
    rintro e w12 ⟨v0, rfl, hR0, hb0⟩
    have hS' : AddS w s w12 := hS.below hb0
    refine hK.out _ _ hS' (fun _ => ?_)
    clear hK hS
    have hS := hS'
    clear hS'
    try simp only [List.getElem_toArray, List.getElem_cons_succ, List.getElem_cons_zero, Act.put, List.setIfInBounds_toArray, List.set_cons_zero, List.set_cons_succ]
    have HR0 := Aside0.mk hR0
    have HBB := Aside0.mk hb0.size
    have HV := Aside0.mk ((hb0.block _ hvl).trans hvA)
    have HNE : Aside0 (some vb ≠ v0.ownBlock) := ⟨fun e => by obtain ⟨_, ho⟩ := Kd.R_own hR0; have := own_base ho _ e.symm; omega⟩
    clear hR0 hb0 hvA hvl
    generalize w9.heap.size = B at *
    refine wpAnyH_ready (rs := [6]) (by kernel_rfl) (by simp) (AllReadyH.cons rfl (fun K' hK => ?_) AllReadyH.nil)
    rw [if_pos (by kernel_rfl)]
    go_simp
    go_at_call 64
    refine (span_Insert.calls B v0 L j s vb 1 43 _ HR0.out HJ.out HSM.out HBB.out HV.out HNE.out).mono ?_
    rintro e w9 ⟨v9, rfl, hR9, hb9⟩
    have hS' : AddS w s w9 := ⟨(hb9.block _ HB0.out).trans hS.1, hS.2.trans (hb9.mono (Nat.le_of_lt HB0.out))⟩
    obtain ⟨ad9, c9, rfl⟩ := Kd.R_slice1 hR9 (by simp only [List.length_append, List.length_cons]; omega)
    have HR9 := Aside0.mk hR9
    clear hR9 hb9
    refine hK.out _ _ hS' (fun _ => ?_)
    clear hK hS
    have hS := hS'
    clear hS'
    try simp only [List.getElem_toArray, List.getElem_cons_succ, List.getElem_cons_zero, Act.put, List.setIfInBounds_toArray, List.set_cons_zero, List.set_cons_succ]
    refine wpAnyH_take (i := 7) (v := .agg #[.slice (some ad9) (L.take j ++ s :: L.drop j).length c9]) rfl (by kernel_rfl) (by kernel_rfl) (by kernel_rfl) (fun _ _ _ h => h) (.inl ⟨by kernel_rfl, fun w' hS => by go_simp⟩) hS ?_
    try simp only [List.getElem_toArray, List.getElem_cons_succ, List.getElem_cons_zero, Act.put, List.setIfInBounds_toArray, List.set_cons_zero, List.set_cons_succ]
    refine wpAnyH_ready (rs := [8]) (by kernel_rfl) (by simp) (AllReadyH.cons rfl (fun K' hK => ?_) AllReadyH.nil)
    rw [if_pos (by kernel_rfl)]
    go_simp
    have hS' := hS.below ((Below.refl w9.heap.size w9).alloc (Nat.le_refl _) (.cells #[.slice (some ad9) (L.take j ++ s :: L.drop j).length c9] 91 (0, 0)))
    simp only [List.length_append, List.length_take, List.length_drop, List.length_cons] at hS'
    refine hK.out _ _ hS' (fun _ => ?_)
    clear hK
    try simp only [List.getElem_toArray, List.getElem_cons_succ, List.getElem_cons_zero, Act.put, List.setIfInBounds_toArray, List.set_cons_zero, List.set_cons_succ]
    replace hS := hS'
    clear hS'
    refine wpAnyH_take (i := 9) (v := .pointer (some ⟨w9.heap.size, 0, none⟩)) rfl (by kernel_rfl) (by kernel_rfl) (by kernel_rfl) (fun _ _ _ h => h) (.inl ⟨by kernel_rfl, fun w' hS => by go_simp⟩) hS ?_
    try simp only [List.getElem_toArray, List.getElem_cons_succ, List.getElem_cons_zero, Act.put, List.setIfInBounds_toArray, List.set_cons_zero, List.set_cons_succ]
    refine wpAnyH_take (i := 10) (v := .int .i64 0) rfl (by kernel_rfl) (by kernel_rfl) (by kernel_rfl) (fun _ _ _ h => h) (.inl ⟨by kernel_rfl, fun w' hS => by go_simp⟩) hS ?_
    try simp only [List.getElem_toArray, List.getElem_cons_succ, List.getElem_cons_zero, Act.put, List.setIfInBounds_toArray, List.set_cons_zero, List.set_cons_succ]
    refine wpAnyH_done (by kernel_rfl) ?_ _
    refine NoPanic.normal ?_
    go_wp2
    go_ret2
    exact span_Add.end HR9.out hS.2 (by simp only [List.length_append, List.length_take, List.length_drop, List.length_cons])
/-- Add. -/
theorem span_Add.calls (k : Nat) (p : Option Addr) (L : List S43) (s : S43) (j : Nat) (w : World) (hT : Tab w p L) (hf : span_find.f k L s.f0 = some (j : Int)) (hj : j ≤ L.length) (hsm : L.length < 1099511627776) :
    Calls Try.prog 30 #[.pointer p, .agg #[.int .i64 s.f0, .int .i64 s.f1, .string s.f2]] w fun e w' => Below w.heap.size w w' ∧ ∃ q, e = .returned (.tuple #[.pointer q, .int .i64 (span_Add.r L s j).1]) ∧
      (((span_Add.r L s j).1 ≠ 0 ∧ q = none) ∨ ((span_Add.r L s j).1 = 0 ∧ (∃ g, q = some ⟨g, 0, none⟩) ∧ Tab w' q (span_Add.r L s j).2)) := by
  unfold span_Add.r
  by_cases c0 : s.f0 < 0 ∨ 1114111 < s.f1 ∨ s.f1 < s.f0
  · simp only [if_pos c0]
    exact (span_Add.range k p L s j w hT hf c0).mono fun e w' h => ⟨h.2, none, h.1, .inl ⟨by omega, rfl⟩⟩
  · simp only [if_neg c0]
    by_cases cv : s.f2.toList = []
    · simp only [if_pos cv]
      exact (span_Add.empty k p L s j w hT hf c0 cv).mono fun e w' h => ⟨h.2, none, h.1, .inl ⟨by omega, rfl⟩⟩
    · simp only [if_neg cv]
      by_cases c1 : (j : Int) < (L.length : Int)
      · by_cases c3 : (rd_T43 L (j : Int)).f0 ≤ s.f1
        · simp only [if_pos (And.intro c1 c3)]
          exact (span_Add.twice k p L s j w hT hf c0 cv c1 (by omega) c3).mono fun e w' h => ⟨h.2, none, h.1, .inl ⟨by omega, rfl⟩⟩
        · simp only [if_neg (fun h : (j : Int) < (L.length : Int) ∧ (rd_T43 L (j : Int)).f0 ≤ s.f1 => c3 h.2)]
          exact (span_Add.fitsC k p L s j w hT hf c0 cv hj hsm c1 c3).mono fun e w' ⟨g, h1, h2, h3⟩ => ⟨h3, _, h1, .inr ⟨trivial, ⟨g, rfl⟩, by rw [Int.toNat_natCast]; exact h2⟩⟩
      · simp only [if_neg (fun h : (j : Int) < (L.length : Int) ∧ (rd_T43 L (j : Int)).f0 ≤ s.f1 => c1 h.1)]
        exact (span_Add.fitsA k p L s j w hT hf c0 cv hj hsm (by omega)).mono fun e w' ⟨g, h1, h2, h3⟩ => ⟨h3, _, h1, .inr ⟨trivial, ⟨g, rfl⟩, by rw [Int.toNat_natCast]; exact h2⟩⟩
end Go.Proofs.Ytlipbiihemhieaa.Q

-- from Pspan
/- Layer 3 on lists: where a code point stands in a table; Add; New. -/
namespace Go.Proofs.Ytlipbiihemhieaa.K
set_option linter.unusedVariables false
set_option linter.unusedSimpArgs false
open Go.RowKit Go.Proofs.YtlipbiihemhieaaW.PrintWords Go.Proofs.YtlipbiihemhieaaW.PrintMore Go.Proofs.Ytlipbiihemhieaa.Q

theorem rd43 {L : List S43} (i : Nat) (h : i < L.length) : rd_T43 L (i : Int) = L[i] := by
  unfold rd_T43
  rw [Int.toNat_natCast, List.getD_eq_getElem?_getD, List.getElem?_eq_getElem h]; rfl
/-- A span that may stand in a table. -/
def valid (s : S43) : Prop := 0 ≤ s.f0 ∧ s.f0 ≤ s.f1 ∧ s.f1 ≤ 1114111 ∧ s.f2.toList ≠ []
/-- A table's spans: they rise, none is empty. -/
def SpOK (L : List S43) : Prop := L.Pairwise (fun a b => a.f1 < b.f0) ∧ ∀ s ∈ L, valid s
theorem SpOK.nil : SpOK [] := ⟨List.Pairwise.nil, fun _ h => by cases h⟩
theorem SpOK.lt {L : List S43} (h : SpOK L) {i j : Nat} (hij : i < j) (hj : j < L.length) : L[i].f1 < L[j].f0 := List.pairwise_iff_getElem.1 h.1 i j (by omega) hj hij
theorem SpOK.at {L : List S43} (h : SpOK L) {i : Nat} (hi : i < L.length) : valid L[i] := h.2 _ (List.getElem_mem hi)
theorem SpOK.last {L : List S43} (h : SpOK L) {i j : Nat} (hij : i ≤ j) (hj : j < L.length) : L[i].f1 ≤ L[j].f1 := by
  rcases Nat.lt_or_eq_of_le hij with e | e
  · have := h.lt e hj
    have := (h.at hj).2.1
    omega
  · subst e; exact Int.le_refl _
/-- The first span that does not end ahead of a code point. -/
def pos (L : List S43) (c : Int) : Nat := (L.takeWhile (fun s => decide (s.f1 < c))).length
theorem pos_le (L : List S43) (c : Int) : pos L c ≤ L.length := (List.takeWhile_prefix _).length_le
theorem pos_before {L : List S43} {c : Int} : ∀ {i : Nat} (h : i < pos L c), (L[i]'(Nat.lt_of_lt_of_le h (pos_le L c))).f1 < c := by
  unfold pos
  induction L with
  | nil => intro i h; simp at h
  | cons s L ih =>
    intro i h
    by_cases e : s.f1 < c
    · cases i with
      | zero => exact e
      | succ i =>
        simp only [List.getElem_cons_succ]
        simp only [List.takeWhile_cons, decide_eq_true e, if_true, List.length_cons] at h
        exact ih (by omega)
    · simp [List.takeWhile_cons, e] at h
theorem pos_at {L : List S43} {c : Int} (h : pos L c < L.length) : ¬ L[pos L c].f1 < c := by
  induction L with
  | nil => simp at h
  | cons s L ih =>
    by_cases e : s.f1 < c
    · have hp : pos (s :: L) c = pos L c + 1 := by simp [pos, List.takeWhile_cons, e]
      have h' : pos L c < L.length := by rw [hp] at h; simpa using h
      have := ih h'
      simp only [hp, List.getElem_cons_succ]
      exact this
    · have hp : pos (s :: L) c = 0 := by simp [pos, List.takeWhile_cons, e]
      simp only [hp, List.getElem_cons_zero]
      exact e
theorem pos_uniq {L : List S43} (hL : SpOK L) {c : Int} {i : Nat} (hi : i ≤ L.length) (h1 : ∀ j, (hj : j < i) → (L[j]'(by omega)).f1 < c) (h2 : (h : i < L.length) → ¬ L[i].f1 < c) : pos L c = i := by
  have hp := pos_le L c
  rcases Nat.lt_trichotomy (pos L c) i with h | h | h
  · exact absurd (h1 _ h) (pos_at (by omega))
  · exact h
  · exact absurd (pos_before h) (h2 (by omega))
theorem find_ev {L : List S43} (hl : L.length ≤ 1000000) (hL : SpOK L) (c : Int) : Ev (fun k => span_find.f k L c) (pos L c : Int) := by
  have hle := pos_le L c
  have key : ∀ (d lo hi' : Nat), hi' - lo = d → lo ≤ pos L c → pos L c ≤ hi' → hi' ≤ L.length → ∃ b, Ev (fun k => span_Span_int_at_span_Table_find_1.l0 k L c L.length (lo : Int) (hi' : Int)) ((pos L c : Int), b) := by
    intro d
    induction d using Nat.strongRecOn with
    | ind d ih =>
      intro lo hi' h1 h2 h3 h4
      by_cases c' : lo < hi'
      · have eh : wrap64 ((IntKind.u64.wrap (wrap64 ((lo : Int) + (hi' : Int)))) / 2) = (((lo + hi') / 2 : Nat) : Int) := by
          rw [w64 (n := (lo : Int) + hi') (by omega) (by omega)]
          have : IntKind.u64.wrap ((lo : Int) + (hi' : Int)) = (lo : Int) + hi' := by
            simp only [IntKind.wrap, IntKind.bits, IntKind.signed]
            simp
            omega
          rw [this, w64 (by omega) (by omega)]
          omega
        have hm : (lo + hi') / 2 < hi' := by omega
        have hg := rd43 (L := L) ((lo + hi') / 2) (by omega)
        by_cases c2 : (rd_T43 L (((lo + hi') / 2 : Nat) : Int)).f1 < c
        · have : (lo + hi') / 2 < pos L c := by
            apply Classical.byContradiction
            intro hn
            have hp := pos_at (L := L) (c := c) (by omega)
            have := hL.last (i := pos L c) (j := (lo + hi') / 2) (by omega) (by omega)
            rw [hg] at c2
            omega
          obtain ⟨b, hb⟩ := ih (hi' - ((lo + hi') / 2 + 1)) (by omega) ((lo + hi') / 2 + 1) hi' rfl (by omega) h3 h4
          refine ⟨b, Ev.step (fun k => rfl) (Ev.pos (by omega) ?_)⟩
          rw [eh]
          refine Ev.pos (by omega) (Ev.pos (by omega) (Ev.bindS (show span_Table_find_1.f _ _ _ _ = some (-1) by unfold span_Table_find_1.f; rw [if_pos c2]) (Ev.pos (by omega) ?_)))
          rw [w64 (n := (((lo + hi') / 2 : Nat) : Int) + 1) (by omega) (by omega)]
          exact hb
        · have : pos L c ≤ (lo + hi') / 2 := by
            apply Classical.byContradiction
            intro hn
            have := pos_before (L := L) (c := c) (i := (lo + hi') / 2) (by omega)
            rw [hg] at c2
            exact c2 this
          obtain ⟨b, hb⟩ := ih ((lo + hi') / 2 - lo) (by omega) lo ((lo + hi') / 2) rfl h2 this (by omega)
          refine ⟨b, Ev.step (fun k => rfl) (Ev.pos (by omega) ?_)⟩
          rw [eh]
          refine Ev.pos (by omega) (Ev.pos (by omega) (Ev.bindS (show span_Table_find_1.f _ _ _ _ = some 1 by unfold span_Table_find_1.f; rw [if_neg c2]) (Ev.neg (by omega) hb)))
      · have e1 : lo = pos L c := by omega
        subst e1
        by_cases c3 : pos L c < L.length
        · by_cases c4 : (rd_T43 L (pos L c : Int)).f1 < c
          · exact ⟨_, Ev.step (fun k => rfl) (Ev.neg (by omega) (Ev.pos (by omega) (Ev.pos (by omega) (Ev.pos (by omega) (Ev.bindS (show span_Table_find_1.f _ _ _ _ = some (-1) by unfold span_Table_find_1.f; rw [if_pos c4]) (Ev.now _))))))⟩
          · exact ⟨_, Ev.step (fun k => rfl) (Ev.neg (by omega) (Ev.pos (by omega) (Ev.pos (by omega) (Ev.pos (by omega) (Ev.bindS (show span_Table_find_1.f _ _ _ _ = some 1 by unfold span_Table_find_1.f; rw [if_neg c4]) (Ev.now _))))))⟩
        · exact ⟨_, Ev.step (fun k => rfl) (Ev.neg (by omega) (Ev.neg (by omega) (Ev.now _)))⟩
  obtain ⟨b, hb⟩ := key L.length 0 L.length (by omega) (by omega) hle (Nat.le_refl _)
  unfold span_find.f span_Span_int_at_span_Table_find_1.f
  exact Ev.bind hb (Ev.now _)

/-! Add -/
def addR (L : List S43) (s : S43) : Int × List S43 := span_Add.r L s (pos L s.f0 : Int)
theorem addR_eq (L : List S43) (s : S43) : addR L s = if s.f0 < 0 ∨ 1114111 < s.f1 ∨ s.f1 < s.f0 then (14, []) else if s.f2.toList = [] then (16, []) else if (pos L s.f0 : Int) < (L.length : Int) ∧ (rd_T43 L (pos L s.f0 : Int)).f0 ≤ s.f1 then (15, []) else (0, L.take (pos L s.f0) ++ s :: L.drop (pos L s.f0)) := by
  unfold addR span_Add.r
  rw [Int.toNat_natCast]
/-- Two spans with a code point in common. -/
def meets (a b : S43) : Prop := a.f0 ≤ b.f1 ∧ b.f0 ≤ a.f1
instance (a b : S43) : Decidable (meets a b) := inferInstanceAs (Decidable (_ ∧ _))
/-- What Add answers: the error of a span behind others, whichever their order. -/
def errOf (L : List S43) (s : S43) : Int :=
  if s.f0 < 0 ∨ 1114111 < s.f1 ∨ s.f1 < s.f0 then 14 else if s.f2.toList = [] then 16 else if ∃ t ∈ L, meets t s then 15 else 0
theorem meets_pos {L : List S43} (hL : SpOK L) {s : S43} (hs : s.f0 ≤ s.f1) : (∃ t ∈ L, meets t s) ↔ ((pos L s.f0 : Int) < (L.length : Int) ∧ (rd_T43 L (pos L s.f0 : Int)).f0 ≤ s.f1) := by
  constructor
  · rintro ⟨t, ht, h1, h2⟩
    obtain ⟨i, hi, rfl⟩ := List.getElem_of_mem ht
    have hp : pos L s.f0 ≤ i := by
      apply Classical.byContradiction
      intro hn
      have := pos_before (L := L) (c := s.f0) (i := i) (by omega)
      omega
    refine ⟨by omega, ?_⟩
    rw [rd43 _ (by omega)]
    rcases Nat.lt_or_eq_of_le hp with e | e
    · have := hL.lt e hi
      have := (hL.at (i := pos L s.f0) (by omega)).2.1
      omega
    · simp only [e]; exact h1
  · rintro ⟨h1, h2⟩
    rw [rd43 _ (by omega)] at h2
    exact ⟨_, List.getElem_mem (by omega), h2, by have := pos_at (L := L) (c := s.f0) (by omega); omega⟩
theorem addR_err {L : List S43} (hL : SpOK L) (s : S43) : (addR L s).1 = errOf L s := by
  rw [addR_eq]
  unfold errOf
  by_cases h1 : s.f0 < 0 ∨ 1114111 < s.f1 ∨ s.f1 < s.f0
  · rw [if_pos h1, if_pos h1]
  · rw [if_neg h1, if_neg h1]
    by_cases h2 : s.f2.toList = []
    · rw [if_pos h2, if_pos h2]
    · rw [if_neg h2, if_neg h2]
      have := meets_pos hL (s := s) (by omega)
      by_cases h3 : ∃ t ∈ L, meets t s
      · rw [if_pos h3, if_pos (this.1 h3)]
      · rw [if_neg h3, if_neg (fun h => h3 (this.2 h))]
theorem addR_ok {L : List S43} (hL : SpOK L) {s : S43} (h : (addR L s).1 = 0) : (addR L s).2 = L.take (pos L s.f0) ++ s :: L.drop (pos L s.f0) ∧ valid s ∧ (∀ t ∈ L, ¬ meets t s) := by
  have he := addR_err hL s
  rw [h] at he
  unfold errOf at he
  by_cases h1 : s.f0 < 0 ∨ 1114111 < s.f1 ∨ s.f1 < s.f0
  · rw [if_pos h1] at he; cases he
  · rw [if_neg h1] at he
    by_cases h2 : s.f2.toList = []
    · rw [if_pos h2] at he; cases he
    · rw [if_neg h2] at he
      by_cases h3 : ∃ t ∈ L, meets t s
      · rw [if_pos h3] at he; cases he
      · refine ⟨?_, ⟨by omega, by omega, by omega, h2⟩, fun t ht hm => h3 ⟨t, ht, hm⟩⟩
        rw [addR_eq, if_neg h1, if_neg h2, if_neg (fun hh => h3 ((meets_pos hL (by omega)).2 hh))]
theorem addR_zero {L : List S43} (hL : SpOK L) {s : S43} (hv : valid s) (h : ∀ t ∈ L, ¬ meets t s) : (addR L s).1 = 0 := by
  rw [addR_err hL]
  unfold errOf
  have := hv
  unfold valid at this
  rw [if_neg (by omega), if_neg hv.2.2.2, if_neg (fun ⟨t, ht, hm⟩ => h t ht hm)]
/-- What is ahead of the place ends ahead; what is behind it begins behind. -/
theorem place_sides {L : List S43} (hL : SpOK L) {s : S43} (hv : valid s) (hm : ∀ t ∈ L, ¬ meets t s) : (∀ t ∈ L.take (pos L s.f0), t.f1 < s.f0) ∧ (∀ t ∈ L.drop (pos L s.f0), s.f1 < t.f0) := by
  constructor
  · intro t ht
    obtain ⟨i, hi, rfl⟩ := List.getElem_of_mem ht
    rw [List.length_take] at hi
    rw [List.getElem_take]
    exact pos_before (by omega)
  · intro t ht
    obtain ⟨i, hi, rfl⟩ := List.getElem_of_mem ht
    rw [List.length_drop] at hi
    rw [List.getElem_drop]
    have h1 := pos_at (L := L) (c := s.f0) (by omega)
    have h2 := hL.last (i := pos L s.f0) (j := pos L s.f0 + i) (by omega) (by omega)
    have h3 := hm _ (List.getElem_mem (h := (by omega : pos L s.f0 + i < L.length)))
    unfold meets at h3
    omega
theorem place_ok {L : List S43} (hL : SpOK L) {s : S43} (hv : valid s) (hm : ∀ t ∈ L, ¬ meets t s) : SpOK (L.take (pos L s.f0) ++ s :: L.drop (pos L s.f0)) := by
  obtain ⟨h1, h2⟩ := place_sides hL hv hm
  refine ⟨?_, ?_⟩
  · rw [List.pairwise_append]
    refine ⟨hL.1.sublist (List.take_sublist _ _), ?_, ?_⟩
    · rw [List.pairwise_cons]
      exact ⟨h2, hL.1.sublist (List.drop_sublist _ _)⟩
    · intro a ha b hb
      have ha1 := h1 a ha
      rcases List.mem_cons.1 hb with rfl | hb
      · exact ha1
      · have := h2 b hb
        have := hv.2.1
        omega
  · intro t ht
    rcases List.mem_append.1 ht with h | h
    · exact hL.2 t (List.mem_of_mem_take h)
    · rcases List.mem_cons.1 h with rfl | h
      · exact hv
      · exact hL.2 t (List.mem_of_mem_drop h)
theorem addR_SpOK {L : List S43} (hL : SpOK L) {s : S43} (h : (addR L s).1 = 0) : SpOK (addR L s).2 := by
  obtain ⟨e, hv, hm⟩ := addR_ok hL h
  rw [e]
  exact place_ok hL hv hm
theorem addR_perm {L : List S43} (hL : SpOK L) {s : S43} (h : (addR L s).1 = 0) : ((addR L s).2).Perm (s :: L) := by
  obtain ⟨e, _, _⟩ := addR_ok hL h
  rw [e]
  exact List.perm_middle.trans (List.Perm.cons _ (by rw [List.take_append_drop]))

/-! New -/
def newR : List S43 → List S43 → Int × List S43
  | acc, [] => (0, acc)
  | acc, s :: r => if (addR acc s).1 = 0 then newR (addR acc s).2 r else ((addR acc s).1, [])
theorem newR_len {acc l : List S43} (h : SpOK acc) (h0 : (newR acc l).1 = 0) : SpOK (newR acc l).2 ∧ ((newR acc l).2).Perm (l ++ acc) := by
  induction l generalizing acc with
  | nil => exact ⟨h, by simp [newR]⟩
  | cons s r ih =>
    unfold newR at h0 ⊢
    by_cases e : (addR acc s).1 = 0
    · rw [if_pos e] at h0 ⊢
      obtain ⟨h1, h2⟩ := ih (addR_SpOK h e) h0
      refine ⟨h1, h2.trans ?_⟩
      exact ((List.Perm.append_left r (addR_perm h e)).trans List.perm_middle)
    · rw [if_neg e] at h0
      exact absurd h0 e
/-- New's spans are all of a kind: valid, and none in common. -/
def Good (l : List S43) : Prop := (∀ s ∈ l, valid s) ∧ l.Pairwise (fun a b => ¬ meets a b)
theorem newR_good {acc l : List S43} (h : SpOK acc) : (newR acc l).1 = 0 ↔ (Good l ∧ ∀ s ∈ l, ∀ t ∈ acc, ¬ meets t s) := by
  induction l generalizing acc with
  | nil => simp [newR, Good]
  | cons s r ih =>
    unfold newR
    by_cases e : (addR acc s).1 = 0
    · rw [if_pos e, ih (addR_SpOK h e)]
      obtain ⟨_, hv, hm⟩ := addR_ok h e
      have hp := addR_perm h e
      constructor
      · rintro ⟨⟨g1, g2⟩, g3⟩
        refine ⟨⟨fun t ht => ?_, ?_⟩, fun t ht u hu => ?_⟩
        · rcases List.mem_cons.1 ht with rfl | ht
          · exact hv
          · exact g1 t ht
        · rw [List.pairwise_cons]
          exact ⟨fun t ht => g3 t ht s (hp.mem_iff.2 List.mem_cons_self), g2⟩
        · rcases List.mem_cons.1 ht with rfl | ht
          · exact hm u hu
          · exact g3 t ht u (hp.mem_iff.2 (List.mem_cons_of_mem _ hu))
      · rintro ⟨⟨g1, g2⟩, g3⟩
        rw [List.pairwise_cons] at g2
        refine ⟨⟨fun t ht => g1 t (List.mem_cons_of_mem _ ht), g2.2⟩, fun t ht u hu => ?_⟩
        rcases List.mem_cons.1 (hp.mem_iff.1 hu) with rfl | hu
        · exact g2.1 t ht
        · exact g3 t (List.mem_cons_of_mem _ ht) u hu
    · rw [if_neg e]
      refine ⟨fun h0 => absurd h0 e, ?_⟩
      rintro ⟨⟨g1, g2⟩, g3⟩
      exact absurd (addR_zero h (g1 s List.mem_cons_self) (fun t ht => g3 s List.mem_cons_self t ht)) e
end Go.Proofs.Ytlipbiihemhieaa.K

-- from Hnew
/- span: New. -/
namespace Go.Proofs.Ytlipbiihemhieaa.Q
open Go.RowKit Go.Shelf Go.Proofs.YtlipbiihemhieaaW.PrintWords Go.Proofs.YtlipbiihemhieaaW.PrintLast Go.Proofs.YtlipbiihemhieaaW.PrintMore Go.Proofs.Ytlipbiihemhieaa.K
set_option linter.unusedVariables false
set_option linter.unusedSimpArgs false

set_option maxHeartbeats 4000000 in
set_option maxRecDepth 100000 in
theorem span_New.calls (A0 : Option Addr) (c0 : Nat) (l : List S43) (w : World) (hr0 : Kd.C k43 w A0 l.length l) (hc0 : l.length ≤ c0) (hl : l.length ≤ 1000) :
    Calls Try.prog 28 #[.slice A0 l.length c0] w fun e w' => Below w.heap.size w w' ∧ ∃ q, e = .returned (.tuple #[.pointer q, .int .i64 (newR [] l).1]) ∧
      (((newR [] l).1 ≠ 0 ∧ q = none) ∨ ((newR [] l).1 = 0 ∧ (∃ g, q = some ⟨g, 0, none⟩) ∧ Tab w' q (newR [] l).2)) := by
  have HR0 := Aside0.mk hr0
  have HC0 := Aside0.mk hc0
  have HL := Aside0.mk hl
  clear hr0 hc0 hl
  go_enter Try.func28, Try.ntmps28
  go_wp2
  go_loopg [4, 13] (l.length + 1) (fun kq v4 v13 wr => ∃ (i : Nat) (acc : List S43) (g : Nat), v13 = .int .i64 (i : Int) ∧ v4 = .pointer (some ⟨g, 0, none⟩) ∧ Aside0 (Tab wr (some ⟨g, 0, none⟩) acc) ∧ Aside0 (SpOK acc) ∧ Aside0 (newR acc (l.drop i) = newR [] l) ∧ Aside0 (i + kq = l.length + 1 ∧ i ≤ l.length ∧ acc.length = i) ∧ Aside0 (Below w.heap.size w wr))
  case atStart => exact ⟨0, [], _, rfl, rfl, ⟨.inr ⟨_, _, rfl, heap_alloc_new w _, .inl ⟨rfl, rfl⟩⟩⟩, ⟨SpOK.nil⟩, ⟨rfl⟩, ⟨by omega, by omega, rfl⟩, ⟨(Below.refl _ w).alloc (Nat.le_refl _) _⟩⟩
  case round =>
    obtain ⟨i, acc, g, rfl, rfl, HT, HS, HN, HI, HB⟩ := hrel
    obtain ⟨hi1, hi2, hi3⟩ := HI.out
    cases gk with
    | zero => omega
    | succ k1 =>
      by_cases c1 : (i : Int) < (l.length : Int)
      · obtain ⟨ad, rfl, hx0, hx1, hx2⟩ := at_T43 HR0.out (i : Int) (by omega) c1
        rw [Int.toNat_natCast] at hx0 hx1 hx2
        have hx0 := (HB.out.cell (World.block_lt_of_cell? w _ hx0)).trans hx0
        have hx1 := (HB.out.cell (World.block_lt_of_cell? w _ hx1)).trans hx1
        have hx2 := (HB.out.cell (World.block_lt_of_cell? w _ hx2)).trans hx2
        obtain ⟨s, hs⟩ : ∃ s, s = rd_T43 l (i : Int) := ⟨_, rfl⟩
        rw [← hs] at hx0 hx1 hx2
        obtain ⟨kf, hkf⟩ := (find_ev (L := acc) (by have := HL.out; omega) HS.out s.f0).rounds
        have HKF := Aside0.mk hkf
        have HSS := Aside0.mk hs
        clear hkf hs hi1 hi2 hi3
        have e0 := eq_true c1
        have e1 : decide ((i : Int) < (l.length : Int)) = true := decide_eq_true c1
        clear c1
        have hdrop : l.drop i = s :: l.drop (i + 1) := by
          have hlt : i < l.length := by have := of_decide_eq_true e1; omega
          rw [List.drop_eq_getElem_cons hlt, HSS.out, rd43 i hlt]
        have hstep : newR [] l = if (addR acc s).1 = 0 then newR (addR acc s).2 (l.drop (i + 1)) else ((addR acc s).1, []) := by
          rw [← HN.out, hdrop]; rfl
        have HSTEP := Aside0.mk hstep
        clear hdrop hstep
        by_cases ce : (addR acc s).1 = 0
        · have HCE := Aside0.mk ce
          clear ce
          go_wp2_with (go_at_call 30; refine (span_Add.calls kf _ acc s (pos acc s.f0) _ (HT.out.below ((Below.refl _ _).alloc (Nat.le_refl _) _)) HKF.out (pos_le _ _) (by have := HI.out; have := HL.out; omega)).mono ?_; rintro e w5 ⟨hb5, q, rfl, hq⟩; rw [show (span_Add.r acc s (pos acc s.f0 : Int)).1 = 0 from HCE.out] at *; rcases hq with ⟨hq, _⟩ | ⟨_, ⟨g5, rfl⟩, hT5⟩; (exact absurd rfl hq); have HB5 := Aside0.mk hb5; have HT5 := Aside0.mk hT5; clear hb5 hT5)
          go_roundg k1
          case measure => omega
          case rel =>
            have hi := HI.out
            refine ⟨i + 1, (addR acc s).2, g5, ?_, rfl, HT5, ⟨addR_SpOK HS.out HCE.out⟩, ⟨?_⟩, ⟨by omega, ?_, ?_⟩, ⟨?_⟩⟩
            · have := of_decide_eq_true e1; have := HL.out; rw [w64 (by omega) (by omega)]; congr 1
            · rw [HSTEP.out, if_pos HCE.out]
            · have := of_decide_eq_true e1; omega
            · have := (addR_perm HS.out HCE.out).length_eq
              rw [this, List.length_cons]; omega
            · exact HB.out.trans ((((Below.refl _ _).alloc (Nat.le_refl _) _).trans (HB5.out.mono (by simp))).mono HB.out.size)
        · have HCE := Aside0.mk ce
          have e5 : decide ((addR acc s).1 = 0) = false := decide_eq_false ce
          have e6 : ((addR acc s).1 == 0) = false := beq_eq_false_iff_ne.mpr ce
          have e7 := eq_false ce
          clear ce
          go_wp2_with (go_at_call 30; refine (span_Add.calls kf _ acc s (pos acc s.f0) _ (HT.out.below ((Below.refl _ _).alloc (Nat.le_refl _) _)) HKF.out (pos_le _ _) (by have := HI.out; have := HL.out; omega)).mono ?_; rintro e w5 ⟨hb5, q, rfl, hq⟩; rw [show (span_Add.r acc s (pos acc s.f0 : Int)).1 = (addR acc s).1 from rfl] at *; rcases hq with ⟨_, rfl⟩ | ⟨hq, _⟩; rotate_left; (exact absurd hq HCE.out); have HB5 := Aside0.mk hb5; clear hb5)
          go_ret2
          rw [HSTEP.out, if_neg HCE.out]
          exact ⟨HB.out.trans ((((Below.refl _ _).alloc (Nat.le_refl _) _).trans (HB5.out.mono (by simp))).mono HB.out.size), none, rfl, .inl ⟨HCE.out, rfl⟩⟩
      · have e0 := eq_false c1
        have e1 : decide ((i : Int) < (l.length : Int)) = false := decide_eq_false c1
        have hd : l.drop i = [] := List.drop_eq_nil_of_le (by omega)
        have hN := HN.out
        rw [hd] at hN
        have HN' := Aside0.mk hN
        clear hN hd hi1 hi2 hi3 c1
        go_wp2
        go_ret2
        rw [← HN'.out]
        exact ⟨HB.out, _, rfl, .inr ⟨rfl, ⟨g, rfl⟩, HT.out⟩⟩
end Go.Proofs.Ytlipbiihemhieaa.Q

-- from Hval
/- span: slices.Values at []Span, and Table.All. -/
namespace Go.Proofs.Ytlipbiihemhieaa.Q
open Go.RowKit Go.Shelf Go.Proofs.YtlipbiihemhieaaW.PrintWords Go.Proofs.YtlipbiihemhieaaW.PrintLast Go.Proofs.YtlipbiihemhieaaW.PrintMore
set_option linter.unusedVariables false
set_option linter.unusedSimpArgs false
attribute [local go_sem] Oper.semAt_some

theorem KeepC.cell {T : Nat → Prop} {A B : World} (h : KeepC T A B) {p : Addr} {v : Value} (hc : A.cell? p = some v) (hp : ¬ T p.block) : B.cell? p = some v := by
  unfold World.cell? at hc ⊢
  cases ho : A.heap[p.block]? with
  | none => rw [ho] at hc; cases hc
  | some o =>
    rw [ho] at hc
    cases o with
    | cells c t fr => rw [h.2 _ _ ho rfl hp]; exact hc
    | _ => cases hc
/-- A span as it is handed over. -/
def span_val (s : S43) : Value := .agg #[.int .i64 s.f0, .int .i64 s.f1, .string s.f2]
set_option maxHeartbeats 2000000 in
set_option maxRecDepth 100000 in
/-- The iterator: every body that keeps all cells but those of T. -/
theorem span_Values.stops (L : List S43) (hl : L.length ≤ 1000000) (B : Nat) (A : Option Addr) (c : Nat) (T : Nat → Prop) (w : World)
    (hTB : ¬ T B) (hTA : ∀ ad, A = some ad → L ≠ [] → ¬ T ad.block) (hBox : Boxed w B 41 (.slice A L.length c)) (hR : Kd.C k43 w A L.length L) (n : Nat) (hn : 3 ≤ n) :
    SeqPr Fence.wide n Try.prog 93 #[.pointer (some ⟨B, 0, none⟩)] (fun x : S43 => #[span_val x]) (KeepC T) (fun _ _ => True) (fun ys => ys = L) (fun pre => pre <+: L) w := fun l J Jx W hW hJ hJx hY h0 => by
  refine callsIn_of_wp Try.func93 rfl trivial ?_ rfl
  simp only [Try.ntmps93, List.size_toArray, List.length_cons, List.length_nil, Nat.reduceAdd, Nat.reduceSub, Array.replicate_succ, Array.replicate_zero, List.push_toArray, List.append_toArray, List.nil_append, List.cons_append]
  have KC : Aside0 (KeepC T w W) := ⟨hW.size, fun k o hk _ _ => (hW.block k (Array.getElem?_eq_some_iff.1 hk).1).trans hk⟩
  have HTA := Aside0.mk hTA
  have HTB := Aside0.mk hTB
  have HRL := Aside0.mk hR
  have HBX := Aside0.mk hBox
  have HJ := Aside0.mk hJ
  have HY := Aside0.mk hY
  have H0 := Aside0.mk h0
  have HL := Aside0.mk hl
  clear hTA hTB hR hBox hJ hY h0 hJx hW hl
  have hcell := (KC.out.boxed HBX.out HTB.out).cell
  gi_wp2
  clear hcell
  gi_loopg [7] (L.length + 1) (fun kq v7 wr => ∃ (i : Nat), v7 = .int .i64 (i : Int) ∧ Aside0 (i + kq = L.length + 1 ∧ i ≤ L.length) ∧ Aside0 (J (L.take i) wr) ∧ Aside0 (KeepC T w wr))
  case atStart => exact ⟨0, rfl, ⟨by omega, by omega⟩, ⟨H0.out⟩, KC⟩
  case round =>
    clear H0 KC
    obtain ⟨i, rfl, HI, HJp, KC⟩ := hrel
    cases gk with
    | zero => exact absurd HI.out (by omega)
    | succ kq =>
      by_cases c1 : (i : Int) < (L.length : Int)
      · obtain ⟨ad, rfl, hx0, hx1, hx2⟩ := at_T43 HRL.out (i : Int) (by omega) c1
        rw [Int.toNat_natCast] at hx0 hx1 hx2
        have hblk : (ad.add (i * 3)).block = ad.block := by unfold Addr.add; split <;> rfl
        have hnT : ¬ T (ad.add (i * 3)).block := by rw [hblk]; exact HTA.out _ rfl (fun e => by rw [e] at c1; simp at c1; omega)
        have hx0 := KC.out.cell hx0 hnT
        have hx1 := KC.out.cell hx1 hnT
        have hx2 := KC.out.cell hx2 hnT
        obtain ⟨s, hs⟩ : ∃ s, s = rd_T43 L (i : Int) := ⟨_, rfl⟩
        rw [← hs] at hx0 hx1 hx2
        have HSS := Aside0.mk hs
        have htake : L.take i ++ [s] = L.take (i + 1) := by
          have hlt : i < L.length := by omega
          rw [hs, Go.Proofs.Ytlipbiihemhieaa.K.rd43 i hlt, List.take_add_one, List.getElem?_eq_getElem hlt]
          rfl
        have HTK := Aside0.mk htake
        have e0 := eq_true c1
        have e1 : decide ((i : Int) < (L.length : Int)) = true := decide_eq_true c1
        clear hs c1 htake hblk hnT
        have hj2 := HJ.out _ _ _ none HJp.out (World.grownBy_alloc wr (.cells #[.int .i64 s.f0, .int .i64 s.f1, .string s.f2] 43) none) (fun r e => by cases e)
        obtain ⟨fn, tmps, assign, body, hy, hRR⟩ := HY.out (L.take i) s _ hj2 trivial (by rw [HTK.out]; exact List.take_prefix _ _)
        have hk2 : KeepC T w (wr.alloc (.cells #[.int .i64 s.f0, .int .i64 s.f1, .string s.f2] 43)) := KC.out.trans (KeepC.of_below ((Below.refl _ _).alloc (Nat.le_refl _) _))
        have HK2 := Aside0.mk hk2
        have HRR := Aside0.mk hRR
        simp only [span_val] at hy
        clear hj2 hRR hk2 KC HJp
        gi_wp2
        refine ⟨fun _ => by omega, ?_⟩
        refine HRR.out.mono ?_
        rintro e W3 (⟨rfl, hJ3, hk3⟩ | ⟨rfl, hJx3⟩)
        · have HJ3 := Aside0.mk hJ3
          have HK3 := Aside0.mk (HK2.out.trans hk3)
          clear hJ3 hk3 HRR hy HK2 hx0 hx1 hx2
          gi_wp2
          gi_roundg kq
          case measure => omega
          case rel =>
            have := HI.out
            have := of_decide_eq_true e1
            have := HL.out
            exact ⟨i + 1, by rw [Go.Proofs.Ytlipbiihemhieaa.K.w64 (by omega) (by omega)]; rfl, ⟨by omega, by omega⟩, ⟨by rw [← HTK.out]; exact HJ3.out⟩, HK3⟩
        · have HJX := Aside0.mk hJx3
          clear hJx3 HRR hy hx0 hx1 hx2
          gi_wp2
          refine bodyPost_ret (results_none rfl _ _ _) rfl ?_
          exact ⟨⟨_, rfl⟩, .inr ⟨L.take i ++ [s], by rw [HTK.out]; exact List.take_prefix _ _, HJX.out⟩⟩
      · have e0 := eq_false c1
        have e1 : decide ((i : Int) < (L.length : Int)) = false := decide_eq_false c1
        have hi : i = L.length := by have := HI.out; omega
        subst hi
        clear c1
        gi_wp2
        go_end0
        exact ⟨⟨_, rfl⟩, .inl ⟨L, rfl, by have := HJp.out; rwa [List.take_length] at this⟩⟩
set_option maxHeartbeats 1000000 in
set_option maxRecDepth 100000 in
theorem span_Values.calls (A : Option Addr) (n c : Nat) (w : World) :
    Calls Try.prog 80 #[.slice A n c] w fun e w' => e = .returned (.func (.func 93) #[] #[.pointer (some ⟨w.heap.size, 0, none⟩)]) ∧ w' = w.alloc (.cells #[.slice A n c] 41) := by
  go_enter Try.func80, Try.ntmps80
  go_wp2
  go_ret
  exact ⟨rfl, rfl⟩
set_option maxHeartbeats 2000000 in
set_option maxRecDepth 100000 in
theorem span_spans.calls0 (p : Option Addr) (L : List S43) (w0 w : World) (hT : Tab w0 p L) (hb : Below w0.heap.size w0 w) :
    Calls Try.prog 63 #[.pointer p] w fun e w' => (∃ A c, e = .returned (.slice A L.length c) ∧ Row43 w0 (.slice A L.length c) L ∧ Kd.C k43 w0 A L.length L) ∧ w' = w := by
  rcases hT with ⟨rfl, rfl⟩ | ⟨g, v, rfl, h2, h3⟩
  · go_enter Try.func63, Try.ntmps63
    go_wp2
    go_ret
    exact ⟨⟨none, 0, rfl, .inl ⟨rfl, rfl⟩, ⟨rfl, by simp, fun h => by simp at h⟩⟩, rfl⟩
  · have h3' := h3
    obtain ⟨A, c, rfl, h4, h5⟩ := h3'.open_
    have hc : w.cell? ⟨g, 0, none⟩ = some (.slice A L.length c) := by unfold World.cell?; rw [(hb.block g (Array.getElem?_eq_some_iff.1 h2).1).trans h2]; rfl
    have H3 := Aside0.mk h3
    have H5 := Aside0.mk h5
    clear h2 h3 h4 h5 h3' hb
    go_enter Try.func63, Try.ntmps63
    go_wp2
    go_ret
    exact ⟨⟨A, c, rfl, H3.out, H5.out⟩, rfl⟩
set_option maxHeartbeats 1000000 in
set_option maxRecDepth 100000 in
theorem span_All.calls (p : Option Addr) (L : List S43) (w0 w : World) (hT : Tab w0 p L) (hb : Below w0.heap.size w0 w) :
    Calls Try.prog 61 #[.pointer p] w fun e w' => ∃ A c, e = .returned (.func (.func 93) #[] #[.pointer (some ⟨w.heap.size, 0, none⟩)]) ∧ w' = w.alloc (.cells #[.slice A L.length c] 41) ∧ Row43 w0 (.slice A L.length c) L ∧ Kd.C k43 w0 A L.length L := by
  have HT := Aside0.mk hT
  have HB := Aside0.mk hb
  clear hT hb
  go_enter Try.func61, Try.ntmps61
  go_wp2_with (first
    | (go_at_call 63
       refine (span_spans.calls0 p L w0 _ HT.out HB.out).mono ?_
       rintro e w1 ⟨⟨A, n, rfl, hr, hC⟩, rfl⟩
       have HN := Aside0.mk hr
       have HC := Aside0.mk hC
       clear hr hC)
    | (go_at_call 80
       refine (span_Values.calls A L.length n _).mono ?_
       rintro e w2 ⟨rfl, rfl⟩))
  go_ret
  exact ⟨A, n, rfl, rfl, HN.out, HC.out⟩
theorem row43_lt {w : World} {A : Option Addr} {c : Nat} {L : List S43} (h : Row43 w (.slice A L.length c) L) (hl : L.length ≤ 9223372036854775807) : ∀ ad, A = some ad → L ≠ [] → ad.block < w.heap.size := by
  rintro ad rfl hne
  rcases h with ⟨h1, h2⟩ | ⟨ad', c', h1, h2, h3, _⟩
  · exact absurd h2 hne
  · injection h1 with h1
    injection h1 with h1
    subst h1
    obtain ⟨ad2, e2, hx, _⟩ := at_T43 h3 0 (by omega) (by have := List.length_pos_iff.2 hne; omega)
    injection e2 with e2
    subst e2
    have := World.block_lt_of_cell? w _ hx
    have hblk : (ad.add ((0 : Int).toNat * 3)).block = ad.block := by unfold Addr.add; split <;> rfl
    rwa [hblk] at this
theorem row43_type {w : World} {A : Option Addr} {c : Nat} {L : List S43} (h : Row43 w (.slice A L.length c) L) : ∀ ad o, A = some ad → L ≠ [] → w.heap[ad.block]? = some o → ∃ cells, o = .cells cells 43 (0, 0) := by
  rintro ad o rfl hne ho
  rcases h with ⟨h1, h2⟩ | ⟨ad', c', h1, h2, h3, cells, h4⟩
  · exact absurd h2 hne
  · injection h1 with h1
    injection h1 with h1
    subst h1
    rw [ho] at h4
    exact ⟨cells, Option.some.inj h4⟩
end Go.Proofs.Ytlipbiihemhieaa.Q

-- from Hrfa
/- Range over a function whose loop variable is a cell: the assignment makes memory too. After wpIn_range_pr. -/
namespace Go.Proofs.Ytlipbiihemhieaa.Q
open Go.RowKit Go.Shelf Go.Proofs.YtlipbiihemhieaaW.PrintWords Go.Proofs.YtlipbiihemhieaaW.PrintLast Go.Proofs.YtlipbiihemhieaaW.PrintMore
set_option linter.unusedVariables false
set_option linter.unusedSimpArgs false
section
variable {F : Fence} {n : Nat} {P : Program}
theorem wpIn_range_as {α : Type} {g : Operand} {ps : Array Tmp} {assign body : Code} {Q : Exit → Act → World → Prop} {a : Act} {w : World}
    (hro : F.round = none) (h1 : 1 ≤ n) {gf : Nat} {lb : Array Value} (hg : a.eval g = .func (.func gf) #[] lb) (hFg : F.fn gf) (eg : ∀ args w, (callFunc gf args).run P w = .ok (.enter gf args) w)
    {encs : α → Array Value} {Kp : World → World → Prop} {Pr : α → World → Prop} {S Sp : List α → Prop} {w0 : World} (hseq : SeqPr F (n - 1) P gf lb encs Kp Pr S Sp w0)
    (hKt : ∀ {A B C : World}, Kp A B → Kp B C → Kp A C) (hKb : ∀ (W : World) (l : Nat) (o o' : Obj), w.heap.size ≤ l → W.heap[l]? = some o → o.isCells = false → o.isWalk = false → Kp W (W.putObj l o')) (hb0 : Below w0.heap.size w0 w) (hps : ∀ x, (encs x).size = ps.size)
    (I : List α → World → Prop) (Ix : Code → List α → World → Prop) (hI : OwnFrom w.heap.size I) (hIx : ∀ c, OwnFrom w.heap.size (Ix c)) (h0 : I [] w) (I1 : List α → α → Act → World → Prop) (hI1 : ∀ pre x a1, OwnFrom w.heap.size (fun (_ : Unit) W => I1 pre x a1 W))
    (hassign : ∀ (l : Nat) (pre : List α) (x : α) (W : World) (K : Act → World → Prop), I pre W → Pr x W → (∀ a1 W1, KeepsFrom w.heap.size W W1 → Kp W W1 → I1 pre x a1 W1 → K a1 W1) →
      assign.wpIn (F.inRound l) (n - 1 - 1) P (Exit.then K (fun _ _ _ => False)) { tmps := (ps.zip (encs x)).foldl (fun t (p, v) => t.setIfInBounds p v) a.tmps, defers := [] } W)
    (hbody : ∀ (l : Nat) (pre : List α) (x : α) (a1 : Act) (W : World), I1 pre x a1 W → Sp (pre ++ [x]) → body.wpIn (F.inRound l) (n - 1 - 1) P (ownPostG w.heap.size Kp I Ix (pre ++ [x]) W) a1 W)
    (hdone : ∀ (D : Nat) (xs : List α) (W : World), w.heap.size ≤ D → S xs → I xs W → W.heap[D]? = some (.deferred (some [])) → Q .normal { a with defers := { target := .collected D, args := #[] } :: a.defers } W)
    (hstop : ∀ (D : Nat) (c : Code) (pre : List α) (W : World), w.heap.size ≤ D → Sp pre → Ix c pre W → W.heap[D]? = some (.deferred (some [])) → c.wpIn F n P Q { a with defers := { target := .collected D, args := #[] } :: a.defers } W) :
    (Code.rangeFunc g ps assign body).wpIn F n P Q a w := by
  refine wpIn_rangeFunc ?_
  intro fn hfn
  rw [hro]
  -- the two blocks that the loop lays: the deferred calls' and its own record
  let L : Nat := w.heap.size + 1
  obtain ⟨rec, hrec⟩ : ∃ rec : LoopState → Option Code → Loop, rec = fun st pe => { state := st, pending := pe, fn, tmps := a.tmps, params := ps, assign, body, defers := w.heap.size } := ⟨_, rfl⟩
  obtain ⟨W1, hW1⟩ : ∃ W1, (w.alloc (.deferred (some []))).alloc (.loop (rec .ready none)) = W1 := ⟨_, rfl⟩
  have hL1 : W1.heap[L]? = some (.loop (rec .ready none)) := by
    have := World.alloc_heap_new (w.alloc (.deferred (some []))) (.loop (rec .ready none))
    rw [World.size_alloc] at this
    rw [← hW1]; exact this
  have hD1 : W1.heap[w.heap.size]? = some (.deferred (some [])) := by
    rw [← hW1]; exact (Below.heap_alloc _ _ _ (by simp)).trans (World.alloc_heap_new w _)
  have hb1 : Below w0.heap.size w0 W1 := by
    rw [← hW1]; exact hb0.trans ((((Below.refl _ w).alloc (Nat.le_refl _) _).alloc (by simp) _).mono hb0.size)
  have hsz1 : W1.heap.size = w.heap.size + 2 := by rw [← hW1]; simp
  have walk_row : ∀ {A : World} {row : Option Nat}, (∀ r, row = some r → W1.heap.size ≤ r ∧ ∃ o : Obj, A.heap[r]? = some o ∧ o.isWalk = true) → (∀ r, row = some r → w.heap.size ≤ r ∧ ∃ o : Obj, A.heap[r]? = some o ∧ o.isCells = false) :=
    fun hr r e => by obtain ⟨hB, o, ho, hw⟩ := hr r e; exact ⟨by omega, o, ho, Obj.not_cells_of_walk hw⟩
  have stay : ∀ {A B : World} {row : Option Nat} {k : Nat} {o : Obj}, A.grownBy B row → (∀ r, row = some r → W1.heap.size ≤ r ∧ ∃ o : Obj, A.heap[r]? = some o ∧ o.isWalk = true) → A.heap[k]? = some o → o.isWalk = false → B.heap[k]? = some o :=
    fun hg' hr hk hw => (grownBy_keeps hg' (fun r e => (hr r e).2) hk hw).trans hk
  refine ⟨L, [{ target := .collected w.heap.size, args := #[] }], W1, { target := .fn (.func gf) lb, args := #[.func (.yield L) #[] #[]] }, W1, gf, #[.func (.yield L) #[] #[]] ++ lb, W1, ?_, ?_, ?_, ?_, fun _ => h1, ?_⟩
  · rw [← hW1, hrec]; exact run_enterLoop_outer _ _ _ _ _
  · simp only [resolve, hg]
    simp [go_sem]
  · intro f' hf'; simp [Target.leads] at hf'; subst hf'; exact hFg
  · simp [invoke, go_sem, eg]
  · have call := hseq L (fun pre W => I pre W ∧ W.heap[L]? = some (.loop (rec .ready none)) ∧ W.heap[w.heap.size]? = some (.deferred (some [])))
      (fun pre W => ∃ c, Ix c pre W ∧ W.heap[L]? = some (.loop (rec .done (some c))) ∧ W.heap[w.heap.size]? = some (.deferred (some []))) W1 hb1
      (fun s A B row hs hg' hr => ⟨hI s A B row hs.1 hg' (walk_row hr), stay hg' hr hs.2.1 rfl, stay hg' hr hs.2.2 rfl⟩)
      (fun s A B row ⟨c, hc, hl, hk⟩ hg' hr => ⟨c, hIx c s A B row hc hg' (walk_row hr), stay hg' hr hl rfl, stay hg' hr hk rfl⟩)
      ?round ⟨by rw [← hW1]; exact hI.alloc _ (hI.alloc _ h0), hL1, hD1⟩
    case round =>
      rintro pre x W ⟨hi, hl, hk⟩ hpr hlen
      have hlt : L < W.heap.size := (Array.getElem?_eq_some_iff.1 hl).1
      have hLD : w.heap.size ≠ L := by show w.heap.size ≠ w.heap.size + 1; omega
      have hLw : w.heap.size ≤ L := by show w.heap.size ≤ w.heap.size + 1; omega
      have hy := run_yield (P := P) (args := encs x) hl (by rw [hrec]; exact hps x)
      rw [hrec] at hy
      refine ⟨fn, _, assign, body, hy, roundIn_of_wpIn hfn (hassign _ pre x W _ hi hpr (fun a1 WA hkA hkpA hi1 => ⟨_, run_beginRound (hkA.same _ _ hLw hl rfl) (by rw [hrec]), ?_⟩))⟩
      have hl := hkA.same _ _ hLw hl rfl
      have hk := hkA.same _ _ (Nat.le_refl _) hk rfl
      have hlt : L < WA.heap.size := (Array.getElem?_eq_some_iff.1 hl).1
      obtain ⟨WB, hWB⟩ : ∃ WB, WA.putObj L (.loop { rec .ready none with state := .busy }) = WB := ⟨_, rfl⟩
      have hl2 : WB.heap[L]? = some (.loop { rec .ready none with state := .busy }) := by rw [← hWB]; exact World.putObj_heap_same hlt
      have hk2 : WB.heap[w.heap.size]? = some (.deferred (some [])) := by rw [← hWB]; exact (World.putObj_heap_other hLD).trans hk
      have hw2 : Kp W WB := by rw [← hWB]; exact hKt hkpA (hKb _ _ _ _ hLw hl rfl rfl)
      have hi2 : I1 pre x a1 WB := by rw [← hWB]; exact (hI1 pre x a1).putObj (s := ()) _ hi1 hLw hl rfl
      rw [hWB]
      refine wpIn_mono (hbody _ pre x a1 WB hi2 hlen) ?_
      have fin : ∀ (jump : Option Code) (W3 : World), KeepsFrom w.heap.size WB W3 →
          (Instr.endRound L jump).run P W3 = .ok (.bool jump.isNone) (W3.putObj L (.loop (rec (if jump.isNone then .ready else .done) jump))) ∧
          W3.heap[L]? = some (.loop { rec .ready none with state := .busy }) ∧
          (W3.putObj L (.loop (rec (if jump.isNone then .ready else .done) jump))).heap[L]? = some (.loop (rec (if jump.isNone then .ready else .done) jump)) ∧
          (W3.putObj L (.loop (rec (if jump.isNone then .ready else .done) jump))).heap[w.heap.size]? = some (.deferred (some [])) := fun jump W3 hk3 => by
        have hl3 := hk3.same _ _ hLw hl2 rfl
        have hd3 := hk3.same _ _ (Nat.le_refl _) hk2 rfl
        have hend := run_endRound (P := P) jump hl3
        refine ⟨?_, hl3, World.putObj_heap_same (Array.getElem?_eq_some_iff.1 hl3).1, (World.putObj_heap_other hLD).trans hd3⟩
        rw [hrec] at hend ⊢
        exact hend
      have out : ∀ (c : Code) (W3 : World), KeepsFrom w.heap.size WB W3 → Ix c (pre ++ [x]) W3 → ∃ v W', (Instr.endRound L (some c)).run P W3 = .ok v W' ∧ v = .bool false ∧ ∃ c', Ix c' (pre ++ [x]) W' ∧ W'.heap[L]? = some (.loop (rec .done (some c'))) ∧ W'.heap[w.heap.size]? = some (.deferred (some [])) := fun c W3 hk3 hi3 => by
        obtain ⟨hr, hl3, hl4, hk4⟩ := fin (some c) W3 hk3
        exact ⟨_, _, hr, rfl, c, (hIx _).putObj _ hi3 hLw hl3 rfl, hl4, hk4⟩
      rintro e a3 W3 hp
      cases e with
      | normal =>
        obtain ⟨hk3, hkp3, hi3⟩ := hp
        obtain ⟨hr, hl3, hl4, hk4⟩ := fin none W3 hk3
        exact ⟨_, _, hr, .inl ⟨rfl, ⟨hI.putObj _ hi3 hLw hl3 rfl, hl4, hk4⟩, hKt (hKt hw2 hkp3) (hKb _ _ _ _ hLw hl3 rfl rfl)⟩⟩
      | ret =>
        obtain ⟨v, W', hr, rfl, h⟩ := out .ret W3 hp.1 hp.2
        exact ⟨_, _, hr, .inr ⟨rfl, h⟩⟩
      | exit id =>
        obtain ⟨v, W', hr, rfl, h⟩ := out (.exit id) W3 hp.1 hp.2
        exact ⟨_, _, hr, .inr ⟨rfl, h⟩⟩
      | goto t =>
        obtain ⟨v, W', hr, rfl, h⟩ := out (.goto t) W3 hp.1 hp.2
        exact ⟨_, _, hr, .inr ⟨rfl, h⟩⟩
      | panic ch => exact hp.elim
      | outgrown => exact hp.elim
    refine call.mono ?_
    have hLD : w.heap.size ≠ L := by show w.heap.size ≠ w.heap.size + 1; omega
    have hLw : w.heap.size ≤ L := by show w.heap.size ≤ w.heap.size + 1; omega
    rintro e W2 ⟨⟨v, rfl⟩, (⟨xs, hS, hi, hl, hk⟩ | ⟨pre, hSp, c, hi, hl, hk⟩)⟩
    · exact ⟨none, _, by have := run_endLoop (P := P) hl (by rw [hrec]; simp); rw [hrec] at this; exact this, hdone _ xs _ (Nat.le_refl _) hS (hI.putObj _ hi hLw hl rfl) ((World.putObj_heap_other hLD).trans hk)⟩
    · exact ⟨some c, _, by have := run_endLoop (P := P) hl (by rw [hrec]; simp); rw [hrec] at this; exact this, hstop _ c pre _ (Nat.le_refl _) hSp ((hIx c).putObj _ hi hLw hl rfl) ((World.putObj_heap_other hLD).trans hk)⟩
end

end Go.Proofs.Ytlipbiihemhieaa.Q

-- from Hrfw
/- The same, where the iterator is told of the rounds' other objects too (an iterator that ranges over another one wants that). After wpIn_range_as. -/
namespace Go.Proofs.Ytlipbiihemhieaa.Q
open Go.RowKit Go.Shelf Go.Proofs.YtlipbiihemhieaaW.PrintWords Go.Proofs.YtlipbiihemhieaaW.PrintLast Go.Proofs.YtlipbiihemhieaaW.PrintMore
set_option linter.unusedVariables false
set_option linter.unusedSimpArgs false

/-- As SeqPr; a round leaves the objects that were laid since the call of the iterator began as they are (but for cells). -/
def SeqPw {α : Type} (F : Fence) (n : Nat) (P : Program) (g : Nat) (lb : Array Value) (encs : α → Array Value) (Kp : World → World → Prop) (Pr : α → World → Prop) (S Sp : List α → Prop) (w : World) : Prop :=
  ∀ (l : Nat) (J Jx : List α → World → Prop) (W : World), Below w.heap.size w W → OwnFrom W.heap.size J → OwnFrom W.heap.size Jx →
    (∀ pre x W1, J pre W1 → Pr x W1 → Sp (pre ++ [x]) → YieldAt F (n - 1) P l (encs x) W1 fun e W' =>
      ((e = .returned (.bool true) ∧ J (pre ++ [x]) W' ∧ Kp W1 W') ∨ (e = .returned (.bool false) ∧ Jx (pre ++ [x]) W')) ∧ KeepsFrom W.heap.size W1 W') →
    J [] W →
    CallsIn F n P g (#[.func (.yield l) #[] #[]] ++ lb) W fun e W' => (∃ v, e = .returned v) ∧ ((∃ xs, S xs ∧ J xs W') ∨ (∃ pre, Sp pre ∧ Jx pre W'))
theorem ownFrom_abides {β : Type} {B : Nat} {J : β → World → Prop} (h : OwnFrom B J) : AbidesFrom B J := fun s W W' row hs hg hr => h s W W' row hs hg (fun r e => by obtain ⟨hB, o, ho, hw⟩ := hr r e; exact ⟨hB, o, ho, Obj.not_cells_of_walk hw⟩)
theorem SeqPr.toPw {α : Type} {F : Fence} {n : Nat} {P : Program} {g : Nat} {lb : Array Value} {encs : α → Array Value} {Kp : World → World → Prop} {Pr : α → World → Prop} {S Sp : List α → Prop} {w : World} (h : SeqPr F n P g lb encs Kp Pr S Sp w) : SeqPw F n P g lb encs Kp Pr S Sp w :=
  fun l J Jx W hW hJ hJx hY h0 => h l J Jx W hW (ownFrom_abides hJ) (ownFrom_abides hJx) (fun pre x W1 a b c => (hY pre x W1 a b c).mono (fun e w' hr => hr.1)) h0
theorem KeepsFrom.up {B B' : Nat} {W W' : World} (h : KeepsFrom B W W') (hB : B ≤ B') : KeepsFrom B' W W' := ⟨h.size, fun k o hk => h.same k o (Nat.le_trans hB hk)⟩
theorem KeepsFrom.putObj {B : Nat} (W : World) {l : Nat} (o : Obj) (hl : l < B) : KeepsFrom B W (W.putObj l o) := ⟨(grownBy_putObj' W l o).size, fun k ob hk ho _ => (World.putObj_heap_other (by omega)).trans ho⟩
section
variable {F : Fence} {n : Nat} {P : Program}
theorem wpIn_range_w {α : Type} {g : Operand} {ps : Array Tmp} {assign body : Code} {Q : Exit → Act → World → Prop} {a : Act} {w : World}
    (hro : F.round = none) (h1 : 1 ≤ n) {gf : Nat} {lb : Array Value} (hg : a.eval g = .func (.func gf) #[] lb) (hFg : F.fn gf) (eg : ∀ args w, (callFunc gf args).run P w = .ok (.enter gf args) w)
    {encs : α → Array Value} {Kp : World → World → Prop} {Pr : α → World → Prop} {S Sp : List α → Prop} {w0 : World} (hseq : SeqPw F (n - 1) P gf lb encs Kp Pr S Sp w0)
    (hKt : ∀ {A B C : World}, Kp A B → Kp B C → Kp A C) (hKb : ∀ (W : World) (l : Nat) (o o' : Obj), w.heap.size ≤ l → W.heap[l]? = some o → o.isCells = false → o.isWalk = false → Kp W (W.putObj l o')) (hb0 : Below w0.heap.size w0 w) (hps : ∀ x, (encs x).size = ps.size)
    (I : List α → World → Prop) (Ix : Code → List α → World → Prop) (hI : OwnFrom w.heap.size I) (hIx : ∀ c, OwnFrom w.heap.size (Ix c)) (h0 : I [] w) (I1 : List α → α → Act → World → Prop) (hI1 : ∀ pre x a1, OwnFrom w.heap.size (fun (_ : Unit) W => I1 pre x a1 W))
    (hassign : ∀ (l : Nat) (pre : List α) (x : α) (W : World) (K : Act → World → Prop), I pre W → Pr x W → (∀ a1 W1, KeepsFrom w.heap.size W W1 → Kp W W1 → I1 pre x a1 W1 → K a1 W1) →
      assign.wpIn (F.inRound l) (n - 1 - 1) P (Exit.then K (fun _ _ _ => False)) { tmps := (ps.zip (encs x)).foldl (fun t (p, v) => t.setIfInBounds p v) a.tmps, defers := [] } W)
    (hbody : ∀ (l : Nat) (pre : List α) (x : α) (a1 : Act) (W : World), I1 pre x a1 W → Sp (pre ++ [x]) → body.wpIn (F.inRound l) (n - 1 - 1) P (ownPostG w.heap.size Kp I Ix (pre ++ [x]) W) a1 W)
    (hdone : ∀ (D : Nat) (xs : List α) (W : World), w.heap.size ≤ D → S xs → I xs W → W.heap[D]? = some (.deferred (some [])) → Q .normal { a with defers := { target := .collected D, args := #[] } :: a.defers } W)
    (hstop : ∀ (D : Nat) (c : Code) (pre : List α) (W : World), w.heap.size ≤ D → Sp pre → Ix c pre W → W.heap[D]? = some (.deferred (some [])) → c.wpIn F n P Q { a with defers := { target := .collected D, args := #[] } :: a.defers } W) :
    (Code.rangeFunc g ps assign body).wpIn F n P Q a w := by
  refine wpIn_rangeFunc ?_
  intro fn hfn
  rw [hro]
  -- the two blocks that the loop lays: the deferred calls' and its own record
  let L : Nat := w.heap.size + 1
  obtain ⟨rec, hrec⟩ : ∃ rec : LoopState → Option Code → Loop, rec = fun st pe => { state := st, pending := pe, fn, tmps := a.tmps, params := ps, assign, body, defers := w.heap.size } := ⟨_, rfl⟩
  obtain ⟨W1, hW1⟩ : ∃ W1, (w.alloc (.deferred (some []))).alloc (.loop (rec .ready none)) = W1 := ⟨_, rfl⟩
  have hL1 : W1.heap[L]? = some (.loop (rec .ready none)) := by
    have := World.alloc_heap_new (w.alloc (.deferred (some []))) (.loop (rec .ready none))
    rw [World.size_alloc] at this
    rw [← hW1]; exact this
  have hD1 : W1.heap[w.heap.size]? = some (.deferred (some [])) := by
    rw [← hW1]; exact (Below.heap_alloc _ _ _ (by simp)).trans (World.alloc_heap_new w _)
  have hb1 : Below w0.heap.size w0 W1 := by
    rw [← hW1]; exact hb0.trans ((((Below.refl _ w).alloc (Nat.le_refl _) _).alloc (by simp) _).mono hb0.size)
  have hsz1 : W1.heap.size = w.heap.size + 2 := by rw [← hW1]; simp
  have walk_row : ∀ {A : World} {row : Option Nat}, (∀ r, row = some r → W1.heap.size ≤ r ∧ ∃ o : Obj, A.heap[r]? = some o ∧ o.isWalk = true) → (∀ r, row = some r → w.heap.size ≤ r ∧ ∃ o : Obj, A.heap[r]? = some o ∧ o.isCells = false) :=
    fun hr r e => by obtain ⟨hB, o, ho, hw⟩ := hr r e; exact ⟨by omega, o, ho, Obj.not_cells_of_walk hw⟩
  have stay : ∀ {A B : World} {row : Option Nat} {k : Nat} {o : Obj}, A.grownBy B row → (∀ r, row = some r → W1.heap.size ≤ r ∧ ∃ o : Obj, A.heap[r]? = some o ∧ o.isWalk = true) → A.heap[k]? = some o → o.isWalk = false → B.heap[k]? = some o :=
    fun hg' hr hk hw => (grownBy_keeps hg' (fun r e => (hr r e).2) hk hw).trans hk
  have stay2 : ∀ {A B : World} {row : Option Nat} {k : Nat} {o : Obj}, A.grownBy B row → (∀ r, row = some r → W1.heap.size ≤ r ∧ ∃ o : Obj, A.heap[r]? = some o ∧ o.isCells = false) → A.heap[k]? = some o → k < W1.heap.size → B.heap[k]? = some o :=
    fun hg' hr hk hlt => (hg'.block _ (Array.getElem?_eq_some_iff.1 hk).1 (fun e => by have := (hr _ e.symm).1; omega)).trans hk
  refine ⟨L, [{ target := .collected w.heap.size, args := #[] }], W1, { target := .fn (.func gf) lb, args := #[.func (.yield L) #[] #[]] }, W1, gf, #[.func (.yield L) #[] #[]] ++ lb, W1, ?_, ?_, ?_, ?_, fun _ => h1, ?_⟩
  · rw [← hW1, hrec]; exact run_enterLoop_outer _ _ _ _ _
  · simp only [resolve, hg]
    simp [go_sem]
  · intro f' hf'; simp [Target.leads] at hf'; subst hf'; exact hFg
  · simp [invoke, go_sem, eg]
  · have call := hseq L (fun pre W => I pre W ∧ W.heap[L]? = some (.loop (rec .ready none)) ∧ W.heap[w.heap.size]? = some (.deferred (some [])))
      (fun pre W => ∃ c, Ix c pre W ∧ W.heap[L]? = some (.loop (rec .done (some c))) ∧ W.heap[w.heap.size]? = some (.deferred (some []))) W1 hb1
      (fun s A B row hs hg' hr => ⟨hI s A B row hs.1 hg' (fun r e => ⟨by have := (hr r e).1; omega, (hr r e).2⟩), stay2 hg' hr hs.2.1 (by show w.heap.size + 1 < _; omega), stay2 hg' hr hs.2.2 (by omega)⟩)
      (fun s A B row ⟨c, hc, hl, hk⟩ hg' hr => ⟨c, hIx c s A B row hc hg' (fun r e => ⟨by have := (hr r e).1; omega, (hr r e).2⟩), stay2 hg' hr hl (by show w.heap.size + 1 < _; omega), stay2 hg' hr hk (by omega)⟩)
      ?round ⟨by rw [← hW1]; exact hI.alloc _ (hI.alloc _ h0), hL1, hD1⟩
    case round =>
      rintro pre x W ⟨hi, hl, hk⟩ hpr hlen
      have hlt : L < W.heap.size := (Array.getElem?_eq_some_iff.1 hl).1
      have hLD : w.heap.size ≠ L := by show w.heap.size ≠ w.heap.size + 1; omega
      have hLw : w.heap.size ≤ L := by show w.heap.size ≤ w.heap.size + 1; omega
      have hy := run_yield (P := P) (args := encs x) hl (by rw [hrec]; exact hps x)
      rw [hrec] at hy
      refine ⟨fn, _, assign, body, hy, roundIn_of_wpIn hfn (hassign _ pre x W _ hi hpr (fun a1 WA hkA hkpA hi1 => ⟨_, run_beginRound (hkA.same _ _ hLw hl rfl) (by rw [hrec]), ?_⟩))⟩
      have hl := hkA.same _ _ hLw hl rfl
      have hk := hkA.same _ _ (Nat.le_refl _) hk rfl
      have hlt : L < WA.heap.size := (Array.getElem?_eq_some_iff.1 hl).1
      obtain ⟨WB, hWB⟩ : ∃ WB, WA.putObj L (.loop { rec .ready none with state := .busy }) = WB := ⟨_, rfl⟩
      have hl2 : WB.heap[L]? = some (.loop { rec .ready none with state := .busy }) := by rw [← hWB]; exact World.putObj_heap_same hlt
      have hk2 : WB.heap[w.heap.size]? = some (.deferred (some [])) := by rw [← hWB]; exact (World.putObj_heap_other hLD).trans hk
      have hw2 : Kp W WB := by rw [← hWB]; exact hKt hkpA (hKb _ _ _ _ hLw hl rfl rfl)
      have hi2 : I1 pre x a1 WB := by rw [← hWB]; exact (hI1 pre x a1).putObj (s := ()) _ hi1 hLw hl rfl
      rw [hWB]
      refine wpIn_mono (hbody _ pre x a1 WB hi2 hlen) ?_
      have fin : ∀ (jump : Option Code) (W3 : World), KeepsFrom w.heap.size WB W3 →
          (Instr.endRound L jump).run P W3 = .ok (.bool jump.isNone) (W3.putObj L (.loop (rec (if jump.isNone then .ready else .done) jump))) ∧
          W3.heap[L]? = some (.loop { rec .ready none with state := .busy }) ∧
          (W3.putObj L (.loop (rec (if jump.isNone then .ready else .done) jump))).heap[L]? = some (.loop (rec (if jump.isNone then .ready else .done) jump)) ∧
          (W3.putObj L (.loop (rec (if jump.isNone then .ready else .done) jump))).heap[w.heap.size]? = some (.deferred (some [])) := fun jump W3 hk3 => by
        have hl3 := hk3.same _ _ hLw hl2 rfl
        have hd3 := hk3.same _ _ (Nat.le_refl _) hk2 rfl
        have hend := run_endRound (P := P) jump hl3
        refine ⟨?_, hl3, World.putObj_heap_same (Array.getElem?_eq_some_iff.1 hl3).1, (World.putObj_heap_other hLD).trans hd3⟩
        rw [hrec] at hend ⊢
        exact hend
      have keeps : ∀ (W3 : World) (o3 : Obj), KeepsFrom w.heap.size WB W3 → KeepsFrom W1.heap.size W (W3.putObj L o3) := fun W3 o3 hk3 => by
        refine ((KeepsFrom.up hkA (by omega)).trans ?_).trans ((KeepsFrom.up hk3 (by omega)).trans (KeepsFrom.putObj _ _ (by show w.heap.size + 1 < _; omega)))
        rw [← hWB]
        exact KeepsFrom.putObj _ _ (by show w.heap.size + 1 < _; omega)
      have out : ∀ (c : Code) (W3 : World), KeepsFrom w.heap.size WB W3 → Ix c (pre ++ [x]) W3 → ∃ v W', (Instr.endRound L (some c)).run P W3 = .ok v W' ∧ v = .bool false ∧ (∃ c', Ix c' (pre ++ [x]) W' ∧ W'.heap[L]? = some (.loop (rec .done (some c'))) ∧ W'.heap[w.heap.size]? = some (.deferred (some []))) ∧ KeepsFrom W1.heap.size W W' := fun c W3 hk3 hi3 => by
        obtain ⟨hr, hl3, hl4, hk4⟩ := fin (some c) W3 hk3
        exact ⟨_, _, hr, rfl, ⟨c, (hIx _).putObj _ hi3 hLw hl3 rfl, hl4, hk4⟩, keeps _ _ hk3⟩
      rintro e a3 W3 hp
      cases e with
      | normal =>
        obtain ⟨hk3, hkp3, hi3⟩ := hp
        obtain ⟨hr, hl3, hl4, hk4⟩ := fin none W3 hk3
        exact ⟨_, _, hr, .inl ⟨rfl, ⟨hI.putObj _ hi3 hLw hl3 rfl, hl4, hk4⟩, hKt (hKt hw2 hkp3) (hKb _ _ _ _ hLw hl3 rfl rfl)⟩, keeps _ _ hk3⟩
      | ret =>
        obtain ⟨v, W', hr, rfl, h, hkf⟩ := out .ret W3 hp.1 hp.2
        exact ⟨_, _, hr, .inr ⟨rfl, h⟩, hkf⟩
      | exit id =>
        obtain ⟨v, W', hr, rfl, h, hkf⟩ := out (.exit id) W3 hp.1 hp.2
        exact ⟨_, _, hr, .inr ⟨rfl, h⟩, hkf⟩
      | goto t =>
        obtain ⟨v, W', hr, rfl, h, hkf⟩ := out (.goto t) W3 hp.1 hp.2
        exact ⟨_, _, hr, .inr ⟨rfl, h⟩, hkf⟩
      | panic ch => exact hp.elim
      | outgrown => exact hp.elim
    refine call.mono ?_
    have hLD : w.heap.size ≠ L := by show w.heap.size ≠ w.heap.size + 1; omega
    have hLw : w.heap.size ≤ L := by show w.heap.size ≤ w.heap.size + 1; omega
    rintro e W2 ⟨⟨v, rfl⟩, (⟨xs, hS, hi, hl, hk⟩ | ⟨pre, hSp, c, hi, hl, hk⟩)⟩
    · exact ⟨none, _, by have := run_endLoop (P := P) hl (by rw [hrec]; simp); rw [hrec] at this; exact this, hdone _ xs _ (Nat.le_refl _) hS (hI.putObj _ hi hLw hl rfl) ((World.putObj_heap_other hLD).trans hk)⟩
    · exact ⟨some c, _, by have := run_endLoop (P := P) hl (by rw [hrec]; simp); rw [hrec] at this; exact this, hstop _ c pre _ (Nat.le_refl _) hSp ((hIx c).putObj _ hi hLw hl rfl) ((World.putObj_heap_other hLD).trans hk)⟩
end
/-- A round of the widest fence is one of every round's. -/
theorem roundIn_any {m m' : Nat} {P : Program} {l l' : Nat} {f : FuncId} {tmps : Array Value} {assign body : Code} {w : World} {R : Ending → World → Prop} (h : RoundIn Fence.wide m P l f tmps assign body w R) : RoundIn (Fence.wide.inRound l') m' P l f tmps assign body w R :=
  ⟨h.1, fun c cs _ => h.2 c cs (fun d hd => by cases hd)⟩
end Go.Proofs.Ytlipbiihemhieaa.Q

-- from Hted
/- trie: Edges' iterator. -/
namespace Go.Proofs.Ytlipbiihemhieaa.Q
open Go.RowKit Go.Shelf Go.Proofs.YtlipbiihemhieaaW.PrintWords Go.Proofs.YtlipbiihemhieaaW.PrintLast Go.Proofs.YtlipbiihemhieaaW.PrintMore Go.Proofs.Ytlipbiihemhieaa.K
set_option linter.unusedVariables false
set_option linter.unusedSimpArgs false
attribute [local go_sem] Oper.semAt_some

theorem rd112 {L : List S112} (i : Nat) (h : i < L.length) : rd_T112 L (i : Int) = L[i] := by
  unfold rd_T112
  rw [Int.toNat_natCast, List.getD_eq_getElem?_getD, List.getElem?_eq_getElem h]; rfl
set_option maxHeartbeats 2000000 in
set_option maxRecDepth 100000 in
/-- The iterator: every body that keeps all cells but those of T, which are newer than the trie. -/
theorem trie_Edges.stops (p : Option Addr) (N : List S107) (nn : Int) (w0 w : World) (T : Nat → Prop) (hT : TrieR w0 p N) (hb : Below w0.heap.size w0 w) (hTT : ∀ k, T k → w0.heap.size ≤ k)
    (Bt Bn : Nat) (hBt : Boxed w Bt 71 (.pointer p)) (hBn : Boxed w Bn 3 (.int .i64 nn)) (hl : (nodeAt N nn).f3.length ≤ 1000000) (n : Nat) (hn : 3 ≤ n) :
    SeqPr Fence.wide n Try.prog 73 #[.pointer (some ⟨Bt, 0, none⟩), .pointer (some ⟨Bn, 0, none⟩)] (fun x : S112 => #[.int .i64 x.f0, .int .i64 x.f1]) (KeepC T) (fun _ _ => True) (fun ys => ys = (nodeAt N nn).f3) (fun pre => pre <+: (nodeAt N nn).f3) w := fun l J Jx W hW hJ hJx hY h0 => by
  refine callsIn_of_wp Try.func73 rfl trivial ?_ rfl
  simp only [Try.ntmps73, List.size_toArray, List.length_cons, List.length_nil, Nat.reduceAdd, Nat.reduceSub, Array.replicate_succ, Array.replicate_zero, List.push_toArray, List.append_toArray, List.nil_append, List.cons_append]
  obtain ⟨x, hx⟩ : ∃ x, x = nodeAt N nn := ⟨_, rfl⟩
  rw [← hx] at hl hY ⊢
  have HX := Aside0.mk hx
  have HT := Aside0.mk hT
  have HTT := Aside0.mk hTT
  have hbW : Below w0.heap.size w0 W := hb.trans (hW.mono hb.size)
  have HBW := Aside0.mk hbW
  have hbt : Boxed W Bt 71 (.pointer p) := (hW.block _ hBt.lt).trans hBt
  have hbn : Boxed W Bn 3 (.int .i64 nn) := (hW.block _ hBn.lt).trans hBn
  have hct := hbt.cell
  have hcn := hbn.cell
  have HJ := Aside0.mk hJ
  have HY := Aside0.mk hY
  have H0 := Aside0.mk h0
  have HL := Aside0.mk hl
  clear hx hT hb hTT hBt hBn hJ hY h0 hJx hW hl hbW hbt hbn
  gi_wp2_with (refine ⟨trivial, (fun h => by cases h), ?_⟩; gi_at_call 71; refine (callsIn_wide.2 (trie_find.calls0 p N nn w0 _ HT.out HBW.out)).mono ?_; rintro e w1 ⟨⟨v, rfl, hv⟩, hb1⟩; rw [← HX.out] at hv; obtain ⟨A3, c3, A4, c4, rfl, hl3, h3, h4⟩ := hv; have HB1 := Aside0.mk hb1; have HRL := Aside0.mk h3; have hfd : ∀ w : World, (Instr.field 107 (.agg #[.int .i64 x.f0, .int .i64 x.f1, .int .i64 x.f2, .slice A3 x.f3.length c3, .slice A4 x.f4.length c4]) 3).run Try.prog w = .ok (.slice A3 x.f3.length c3) w := (fun _ => by kernel_rfl); clear hb1 h3 h4 hl3)
  clear hct hcn hfd
  have KC : Aside0 (Below w0.heap.size w0 w1) := ⟨HBW.out.trans (HB1.out.mono HBW.out.size)⟩
  have HJ1 : Aside0 (J [] w1) := ⟨HJ.out _ _ _ none H0.out (grownBy_none_of_below HB1.out) (fun r e => by cases e)⟩
  gi_loopg [11] (x.f3.length + 1) (fun kq v11 wr => ∃ (i : Nat), v11 = .int .i64 (i : Int) ∧ Aside0 (i + kq = x.f3.length + 1 ∧ i ≤ x.f3.length) ∧ Aside0 (J (x.f3.take i) wr) ∧ Aside0 (KeepC T w1 wr))
  case atStart => exact ⟨0, rfl, ⟨by omega, by omega⟩, HJ1, ⟨KeepC.refl _ _⟩⟩
  case round =>
    obtain ⟨i, rfl, HI, HJp, KK⟩ := hrel
    cases gk with
    | zero => exact absurd HI.out (by omega)
    | succ kq =>
      by_cases c1 : (i : Int) < (x.f3.length : Int)
      · obtain ⟨ad, rfl, hx0, hx1⟩ := at_T112 HRL.out (i : Int) (by omega) c1
        rw [Int.toNat_natCast] at hx0 hx1
        have hlt0 := World.block_lt_of_cell? w0 _ hx0
        have hblk : (ad.add (i * 2)).block = ad.block := by unfold Addr.add; split <;> rfl
        have hnT : ¬ T (ad.add (i * 2)).block := fun h => by have := HTT.out _ h; omega
        have hx0 := KK.out.cell ((KC.out.cell hlt0).trans hx0) hnT
        have hx1 := KK.out.cell ((KC.out.cell (World.block_lt_of_cell? w0 _ hx1)).trans hx1) hnT
        obtain ⟨s, hs⟩ : ∃ s, s = rd_T112 x.f3 (i : Int) := ⟨_, rfl⟩
        rw [← hs] at hx0 hx1
        have htake : x.f3.take i ++ [s] = x.f3.take (i + 1) := by
          have hlt : i < x.f3.length := by omega
          rw [hs, rd112 i hlt, List.take_add_one, List.getElem?_eq_getElem hlt]
          rfl
        have HTK := Aside0.mk htake
        have e0 := eq_true c1
        have e1 : decide ((i : Int) < (x.f3.length : Int)) = true := decide_eq_true c1
        clear hs c1 htake hblk hnT hlt0
        have hj2 := HJ.out _ _ _ none HJp.out (World.grownBy_alloc wr (.cells #[.int .i64 s.f0, .int .i64 s.f1] 112) none) (fun r e => by cases e)
        obtain ⟨fn, tmps, assign, body, hy, hRR⟩ := HY.out (x.f3.take i) s _ hj2 trivial (by rw [HTK.out]; exact List.take_prefix _ _)
        have hk2 : KeepC T w1 (wr.alloc (.cells #[.int .i64 s.f0, .int .i64 s.f1] 112)) := KK.out.trans (KeepC.of_below ((Below.refl _ _).alloc (Nat.le_refl _) _))
        have HK2 := Aside0.mk hk2
        have HRR := Aside0.mk hRR
        clear hj2 hRR hk2 KK HJp
        gi_wp2
        refine ⟨fun _ => by omega, ?_⟩
        refine HRR.out.mono ?_
        rintro e W3 (⟨rfl, hJ3, hk3⟩ | ⟨rfl, hJx3⟩)
        · have HJ3 := Aside0.mk hJ3
          have HK3 := Aside0.mk (HK2.out.trans hk3)
          clear hJ3 hk3 HRR hy HK2 hx0 hx1
          gi_wp2
          gi_roundg kq
          case measure => omega
          case rel =>
            have := HI.out
            have := of_decide_eq_true e1
            have := HL.out
            exact ⟨i + 1, by first | rfl | (rw [w64 (by omega) (by omega)]; rfl), ⟨by omega, by omega⟩, ⟨by rw [← HTK.out]; exact HJ3.out⟩, HK3⟩
        · have HJX := Aside0.mk hJx3
          clear hJx3 HRR hy hx0 hx1
          gi_wp2
          refine bodyPost_ret (results_none rfl _ _ _) rfl ?_
          exact ⟨⟨_, rfl⟩, .inr ⟨x.f3.take i ++ [s], by rw [HTK.out]; exact List.take_prefix _ _, HJX.out⟩⟩
      · have e0 := eq_false c1
        have e1 : decide ((i : Int) < (x.f3.length : Int)) = false := decide_eq_false c1
        have hi : i = x.f3.length := by have := HI.out; omega
        subst hi
        clear c1
        gi_wp2
        go_end0
        exact ⟨⟨_, rfl⟩, .inl ⟨x.f3, rfl, by have := HJp.out; rwa [List.take_length] at this⟩⟩
end Go.Proofs.Ytlipbiihemhieaa.Q

-- from Hmrk
/- Marks among the deferred calls. -/
namespace Go.Proofs.Ytlipbiihemhieaa.Q
open Go.RowKit Go.Shelf Go.Proofs.YtlipbiihemhieaaW.PrintWords Go.Proofs.YtlipbiihemhieaaW.PrintLast Go.Proofs.YtlipbiihemhieaaW.PrintMore
set_option linter.unusedVariables false
set_option linter.unusedSimpArgs false

/-- The marks of ranges that have ended. -/
def marks (Ds : List Nat) : List Deferred := Ds.map (fun D => { target := .collected D, args := #[] })
/-- Marks that are whole: different places from n0 on. -/
def MarksIn (n0 : Nat) (Ds : List Nat) (W : World) : Prop := Ds.Nodup ∧ ∀ D ∈ Ds, n0 ≤ D ∧ W.heap[D]? = some (.deferred (some []))
theorem MarksIn.nil (n0 : Nat) (W : World) : MarksIn n0 [] W := ⟨List.nodup_nil, fun D h => by cases h⟩
theorem MarksIn.step {n0 : Nat} {Ds : List Nat} {W W' : World} (h : MarksIn n0 Ds W) (hb : ∀ D ∈ Ds, W'.heap[D]? = W.heap[D]?) : MarksIn n0 Ds W' := ⟨h.1, fun D hD => ⟨(h.2 D hD).1, (hb D hD).trans (h.2 D hD).2⟩⟩
theorem MarksIn.lt {n0 : Nat} {Ds : List Nat} {W : World} (h : MarksIn n0 Ds W) {D : Nat} (hD : D ∈ Ds) : D < W.heap.size := (Array.getElem?_eq_some_iff.1 (h.2 D hD).2).1
theorem MarksIn.below {n0 B : Nat} {Ds : List Nat} {W W' : World} (h : MarksIn n0 Ds W) (hb : Below B W W') (hB : W.heap.size ≤ B) : MarksIn n0 Ds W' := h.step fun D hD => hb.block D (Nat.lt_of_lt_of_le (h.lt hD) hB)
theorem MarksIn.cons {n0 : Nat} {Ds : List Nat} {W : World} {D : Nat} (h : MarksIn n0 Ds W) (hn : ∀ E ∈ Ds, E < D) (hB : n0 ≤ D) (hD : W.heap[D]? = some (.deferred (some []))) : MarksIn n0 (D :: Ds) W :=
  ⟨List.nodup_cons.2 ⟨fun hm => Nat.lt_irrefl _ (hn D hm), h.1⟩, fun E hE => by
    rcases List.mem_cons.1 hE with rfl | hE
    · exact ⟨hB, hD⟩
    · exact h.2 E hE⟩
theorem leaves_marks {F : Fence} {n : Nat} {P : Program} {fn : Func} {tmps : Array Value} {R : Ending → World → Prop} {n0 : Nat} : ∀ (Ds : List Nat) (W : World), MarksIn n0 Ds W →
    (∀ W', Below n0 W W' → LeavesInM F n P fn tmps R [] .returning W') → LeavesInM F n P fn tmps R (marks Ds) .returning W
  | [], W, _, h => h W (Below.refl _ _)
  | D :: Ds, W, hn, h => by
    have hd := hn.2 D (List.mem_cons_self ..)
    have hlt : D < W.heap.size := (Array.getElem?_eq_some_iff.1 hd.2).1
    have hb : Below n0 W (W.putObj D (.deferred none)) := (Below.refl n0 W).grown (grownBy_putObj' W D _) (by omega) (fun k e => by cases e; exact hd.1)
    refine ⟨by simp, .inl ⟨_, _, rfl, run_takeDeferred hd.2, ?_⟩⟩
    refine leaves_marks Ds _ ⟨(List.nodup_cons.1 hn.1).2, fun E hE => ⟨(hn.2 E (List.mem_cons_of_mem _ hE)).1, ?_⟩⟩ (fun W' hW' => h W' (hb.trans hW'))
    have hne : E ≠ D := fun e => (List.nodup_cons.1 hn.1).1 (e ▸ hE)
    rw [World.putObj_heap_other hne]
    exact (hn.2 E (List.mem_cons_of_mem _ hE)).2
end Go.Proofs.Ytlipbiihemhieaa.Q

-- from Hrrg
/- A region that draws its order, inside a round of a range over a function: the laws for regions outside of a fence serve there too. -/
namespace Go.Proofs.Ytlipbiihemhieaa.Q
open Go.RowKit Go.Shelf Go.Proofs.YtlipbiihemhieaaW.PrintWords Go.Proofs.YtlipbiihemhieaaW.PrintLast Go.Proofs.YtlipbiihemhieaaW.PrintMore
set_option linter.unusedVariables false
set_option linter.unusedSimpArgs false

theorem rowsIn_wide {n : Nat} {P : Program} {row : String} {args : Array Value} {w : World} {R : Value → World → Prop} (h : Rows P row args w R) : RowsIn Fence.wide n P row args w R :=
  fun c cs _ => let ⟨v, w', r, s⟩ := h c cs; ⟨v, w', r, stepsIn_wide.2 s⟩
theorem wpOpIn_of_any {n : Nat} {P : Program} {ops : Array Oper} {Q : Exit → Act → World → Prop} (hQ : ¬ LetsOut Q) {i : Nat} {K K' : Act → World → Prop} (hK : ∀ a w, K a w → K' a w) {a : Act} {w : World} (h : wpOp P ops Q i K a w) : wpOpIn Fence.wide n P ops Q i K' a w := by
  unfold Go.wpOp at h
  unfold Go.wpOpIn
  cases ho : ops[i]? with
  | none => rw [ho] at h; exact hK _ _ h
  | some o =>
    rw [ho] at h
    simp only at h ⊢
    by_cases hw : Region.wanted o (yielded ops a.tmps) = true
    · rw [if_pos hw] at h ⊢
      rcases h with h | ⟨_, h⟩
      · refine ⟨fun _ _ => trivial, ?_⟩
        unfold Oper.wp at h
        rw [show Fence.wide.round = none from rfl, Oper.semAt_none]
        generalize (execOp a.eval o).run P w = r at h ⊢
        cases r with
        | ok nx w1 =>
          cases nx with
          | value v => exact hK _ _ h
          | skip => exact hK _ _ h
          | defer d => exact hK _ _ h
          | enter f args =>
            refine ⟨(fun e => by cases e), callsIn_wide.2 (Calls.mono h ?_)⟩
            intro e w2 he
            cases e with
            | returned v => exact hK _ _ he
            | panicked c => exact he
            | outgrown => exact he
          | row rw_ args => exact ⟨(fun e => by cases e), rowsIn_wide (Rows.mono h (fun v w2 hv => hK _ _ hv))⟩
          | _ => exact h.elim
        | halt x w1 =>
          cases x <;> first | exact h | exact h.elim
      · exact absurd h hQ
    · rw [if_neg hw] at h ⊢
      exact ⟨fun _ _ => trivial, hK _ _ h⟩
theorem wpAnyIn_of_any {n : Nat} {P : Program} {md : Region.Mode} {ops : Array Oper} {Q : Exit → Act → World → Prop} (hQ : ¬ LetsOut Q) : ∀ (fuel : Nat) (listed : Array Bool) (a : Act) (w : World), wpAny P md ops Q fuel listed a w → wpAnyIn Fence.wide n P md ops Q fuel listed a w
  | 0, _, _, _, h => h
  | fuel + 1, _, _, _, h => ⟨h.1, fun i hi => wpOpIn_of_any hQ (fun a' w' h' => wpAnyIn_of_any hQ fuel _ a' w' h') (h.2 i hi)⟩
/-- Behind the region nothing but what comes next, in the state that K tells. -/
def onlyK (K : Act → World → Prop) : Exit → Act → World → Prop
  | .normal, a, w => K a w
  | _, _, _ => False
/-- In a round: a region that draws. -/
theorem wpIn_region_round {n l id : Nat} {P : Program} {ops : Array Oper} {Q : Exit → Act → World → Prop} {a : Act} {w : World} (hm : P.follows .mixedOrders = true) (hno : noDefer ops = true)
    (h : wpAny P .any ops (onlyK (Q .normal)) ops.size (Array.replicate ops.size false) a w.drew) : (Code.region id ops true).wpIn (Fence.wide.inRound l) n P Q a w := by
  refine wpIn_mono (Q := onlyK (Q .normal)) ?_ (fun e a w he => by cases e <;> first | exact he | exact he.elim)
  exact wpIn_region_any hm (wpAnyIn_round rfl hno _ _ _ _ (wpAnyIn_of_any (fun ⟨_, _, h⟩ => h) _ _ _ _ h))
/-- The same by the held laws. -/
theorem wpIn_region_round_held {n l id : Nat} {P : Program} {ops : Array Oper} {Q : Exit → Act → World → Prop} {a : Act} {w : World} (S : World → Prop) (hm : P.follows .mixedOrders = true) (hno : noDefer ops = true)
    (h : wpAnyH P .any ops (onlyK (Q .normal)) S ops.size (Array.replicate ops.size false) a w.drew) : (Code.region id ops true).wpIn (Fence.wide.inRound l) n P Q a w :=
  wpIn_region_round hm hno (wpAny_of_held _ _ _ _ h)
end Go.Proofs.Ytlipbiihemhieaa.Q
