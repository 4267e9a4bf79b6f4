/- Part 2 of 2 of the proof of TokenBack: for every octets: escaped they are one word, whose plain octets are they, and the document's escape is the same For every input; no condition. -/
import Derived.Test.YtdnfmilnkoocdaaDoorCTokenBack1
import Derived.Lib.Bytes
import Derived.Test.YtdnfmilnkoocdaaDoorRows
import Derived.Test.YtdnfmilnkoocdaaDoorCards
import Derived.Test.YtdnfmilnkoocdaaDoorTie
import Derived.LaidMore
import Derived.Lay
import Derived.SevenTiedAt
import Derived.Stop.Joined
import Derived.WalkKit
import Derived.ProofKit
import Derived.OpenShut
import Derived.ShutString
import Derived.ChangeOld
import Derived.Below
import Derived.SizedLaws
import Derived.Test.YtdnfmilnkoocdaaDoorWSized

-- from Qf4
-- Made by hp.py, a program of this session, with the kit's printer. Not trusted: Lean checks it.
namespace Go.Proofs.YtdnfmilnkoocdaaDoor.Q
open Go.RowKit Go.Proofs.YtdnfmilnkoocdaaDoorW.PrintWords Go.Proofs.YtdnfmilnkoocdaaDoorW.PrintLast Go.Proofs.YtdnfmilnkoocdaaDoorW.PrintMore
attribute [local go_sem] max2_int min2_int max_two min_two max_three min_three max_four min_four   -- for this text's walks alone
set_option linter.unusedVariables false
set_option linter.unusedSimpArgs false

/-! ### paronymlaw25_TokenBack: function 4 -/
def paronymlaw25_TokenBack.j0 : Nat → List Int → Bool → Option (Bool)
  | 0, _, _ => none
  | k + 1, x0, x14 => if x14 = true then ((paronymlaw25_awake.f k).bind fun t102 => (some t102)) else ((token_Escape.f x0).bind fun t103 => ((paronymref25_Escaped.f k (strOfNums x0)).bind fun t104 => (if t103.toList = t104.toList then ((token_Plain.f k t103).bind fun bt105 => (if (x0.length : Int) = 0 then (if t103.toList = ([] : List UInt8) then (some (bt105.2 == 12)) else (some false)) else (if t103.size + 2 ≤ 9223372036854775807 then ((bytesOf.f (t103 ++ (⟨#[32, 120]⟩ : ByteArray))).bind fun t109 => ((token_Split.f k t109).bind fun bt112 => (if bt105.2 = 0 then (if (strOfNums bt105.1).toList = (strOfNums x0).toList then (if bt112.2 = 0 then (if (bt112.1.length : Int) = 2 then (if 0 < (bt112.1.length : Int) then (some ((rdOf ByteArray.empty bt112.1 0).toList == t103.toList)) else (none)) else (some false)) else (some false)) else (some false)) else (some false)))) else (none)))) else (some false))))
def paronymlaw25_TokenBack.f (k : Nat) (l0 : List Int) : Option (Bool) := (paronymlaw25_awake.f k).bind fun t101 => (if t101 = true then (paronymlaw25_TokenBack.j0 k l0 (decide ((l0.length : Int) > 200))) else (paronymlaw25_TokenBack.j0 k l0 true))
theorem paronymlaw25_TokenBack.mono_l : ∀ k, (∀ y0 y1, LeO (paronymlaw25_TokenBack.j0 k y0 y1) (paronymlaw25_TokenBack.j0 (k + 1) y0 y1))
  | 0 => fun _ _ r h => by simp [paronymlaw25_TokenBack.j0] at h
  | k + 1 => by
    have ih0 := paronymlaw25_TokenBack.mono_l k
    · intro y0 y1
      unfold paronymlaw25_TokenBack.j0
      repeat' first
      | (with_reducible exact ih0 _ _)
      | (with_reducible exact paronymlaw25_awake.mono _)
      | (with_reducible exact paronymref25_Escaped.mono _ _)
      | (with_reducible exact token_Plain.mono _ _)
      | (with_reducible exact token_Split.mono _ _)
      | (with_reducible exact LeO.refl _)
      | (with_reducible exact LeO.none _)
      | (with_reducible refine LeO.ite ?_ ?_)
      | (with_reducible refine LeO.bind ?_ (fun _ => ?_))
      | exact ih0 _ _
      | exact paronymlaw25_awake.mono _
      | exact paronymref25_Escaped.mono _ _
      | exact token_Plain.mono _ _
      | exact token_Split.mono _ _
      | exact LeO.none _
      | refine LeO.ite ?_ ?_
      | refine LeO.bind ?_ (fun _ => ?_)
theorem paronymlaw25_TokenBack.mono : ∀ a0 k, LeO (paronymlaw25_TokenBack.f k a0) (paronymlaw25_TokenBack.f (k + 1) a0) := by
  intro a0 k
  have ih0 := paronymlaw25_TokenBack.mono_l k
  unfold paronymlaw25_TokenBack.f
  repeat' first
      | (with_reducible exact ih0 _ _)
      | (with_reducible exact paronymlaw25_awake.mono _)
      | (with_reducible exact paronymref25_Escaped.mono _ _)
      | (with_reducible exact token_Plain.mono _ _)
      | (with_reducible exact token_Split.mono _ _)
      | (with_reducible exact LeO.refl _)
      | (with_reducible exact LeO.none _)
      | (with_reducible refine LeO.ite ?_ ?_)
      | (with_reducible refine LeO.bind ?_ (fun _ => ?_))
      | exact ih0 _ _
      | exact paronymlaw25_awake.mono _
      | exact paronymref25_Escaped.mono _ _
      | exact token_Plain.mono _ _
      | exact token_Split.mono _ _
      | exact LeO.none _
      | refine LeO.ite ?_ ?_
      | refine LeO.bind ?_ (fun _ => ?_)
set_option maxHeartbeats 8000000 in
set_option maxRecDepth 100000 in
theorem paronymlaw25_TokenBack.calls (k : Nat) (A0 : Option Addr) (c0 : Nat) (l0 : List Int) (r : Bool) (w : World) (hr0 : Kd.C (Kd.int .u8) w A0 l0.length l0) (hc0 : l0.length ≤ c0) (h : paronymlaw25_TokenBack.f k l0 = some r) :
    Calls Tryd.prog 4 #[.slice A0 l0.length c0] w fun e w' => e = .returned (.bool r) ∧ Below w.heap.size w w' := by
  have HR0 := Aside0.mk hr0
  have HC0 := Aside0.mk hc0
  clear hr0 hc0
  have HB := Aside0.mk (Below.refl w.heap.size w)
  have H : ((paronymlaw25_awake.f k).bind fun t101 => (if t101 = true then (paronymlaw25_TokenBack.j0 k l0 (decide ((l0.length : Int) > 200))) else (paronymlaw25_TokenBack.j0 k l0 true))) = some r := h
  clear h
  have HC2 := Aside0.mk H
  clear H
  go_enter Tryd.func4, Tryd.ntmps4
  go_upto_region 1 with (fail)
  go_cut [14] (fun v14 wc => ∃ (kq : Nat) (x14_1 : Bool), v14 = .bool x14_1 ∧ Aside0 (paronymlaw25_TokenBack.j0 kq l0 x14_1 = some r) ∧ Aside0 (kq ≤ k) ∧ Aside0 (Below w.heap.size w wc))
  case first =>
    have H := HC2.out
    clear HC2
    replace H := Option.bind_eq_some_iff.mp H
    obtain ⟨t101, A30, H⟩ := H
    replace H : (if t101 = true then (paronymlaw25_TokenBack.j0 k l0 (decide ((l0.length : Int) > 200))) else (paronymlaw25_TokenBack.j0 k l0 true)) = some r := H
    have A3 := Aside0.mk A30
    clear A30
    by_cases c4 : t101 = true
    · subst c4
      have H1 : (paronymlaw25_TokenBack.j0 k l0 (decide ((l0.length : Int) > 200))) = some r := by rw [if_pos rfl] at H; exact H
      clear H
      have H := H1
      clear H1
      have H' := Aside0.mk H
      clear H
      go_wp2_with (first | ((with_reducible refine gate_callee (f := 13) rfl ?_); refine goesL_ (some 8) rfl rfl Tryd.func13 (by kernel_rfl) rfl #[] rfl (by (try simp only [List.map_toArray, List.map_cons, List.map_nil]); first | done | rfl | (simp only [List.length_drop, List.length_take]; rfl)) ?_; (with_reducible refine (paronymlaw25_awake.calls k  true _ A3.out).mono ?_); rintro e w5 ⟨rfl, hb⟩; refine ⟨_, rfl, ?_⟩; have n0_ := Aside0.mk (below_step (by repeat (first | (with_reducible first | exact HB.out | apply below_alloc | apply pw_below_drewN | apply below_drew1) | exact HB.out)) hb); clear HB; have HB := n0_; clear n0_; (try clear hb); (try clear hb2); (try clear hk); (try clear hi)))
      go_meet
      case rel => exact ⟨_, (decide ((l0.length : Int) > 200)), (by first | rfl | (simp; done) | (simp [*]; done)), H', ⟨by first | omega | exact Nat.le_refl _⟩, ⟨by repeat (first | (with_reducible first | exact HB.out | apply below_alloc | apply pw_below_drewN | apply below_drew1) | exact HB.out)⟩⟩
    · replace c4 := Bool.eq_false_iff.mpr c4
      subst c4
      have H1 : (paronymlaw25_TokenBack.j0 k l0 true) = some r := by rw [if_neg (show ¬ (false = true) by decide)] at H; exact H
      clear H
      have H := H1
      clear H1
      have H' := Aside0.mk H
      clear H
      go_wp2_with (first | ((with_reducible refine gate_callee (f := 13) rfl ?_); refine goesL_ (some 8) rfl rfl Tryd.func13 (by kernel_rfl) rfl #[] rfl (by (try simp only [List.map_toArray, List.map_cons, List.map_nil]); first | done | rfl | (simp only [List.length_drop, List.length_take]; rfl)) ?_; (with_reducible refine (paronymlaw25_awake.calls k  false _ A3.out).mono ?_); rintro e w6 ⟨rfl, hb⟩; refine ⟨_, rfl, ?_⟩; have n0_ := Aside0.mk (below_step (by repeat (first | (with_reducible first | exact HB.out | apply below_alloc | apply pw_below_drewN | apply below_drew1) | exact HB.out)) hb); clear HB; have HB := n0_; clear n0_; (try clear hb); (try clear hb2); (try clear hk); (try clear hi)))
      go_meet
      case rel => exact ⟨_, (true), (by first | rfl | (simp; done) | (simp [*]; done)), H', ⟨by first | omega | exact Nat.le_refl _⟩, ⟨by repeat (first | (with_reducible first | exact HB.out | apply below_alloc | apply pw_below_drewN | apply below_drew1) | exact HB.out)⟩⟩
  case rest =>
    clear HC2
    try clear c1
    try clear p2
    try clear c4
    obtain ⟨kq, x14_1, rfl, HA, HJ1, HB⟩ := hcut
    cases kq with
    | zero => exact absurd HA.out (by simp [paronymlaw25_TokenBack.j0])
    | succ kj1 =>
      have H := HA.out
      clear HA
      simp only [paronymlaw25_TokenBack.j0] at H
      by_cases c7 : x14_1 = true
      · subst c7
        have H1 : ((paronymlaw25_awake.f kj1).bind fun t102 => (some t102)) = some r := by rw [if_pos rfl] at H; exact H
        clear H
        have H := H1
        clear H1
        replace H := Option.bind_eq_some_iff.mp H
        obtain ⟨t102, A80, H⟩ := H
        replace H : (some t102) = some r := H
        have A8 := Aside0.mk A80
        clear A80
        obtain rfl := Option.some.inj H
        go_wp2_with (first | ((with_reducible refine gate_callee (f := 13) rfl ?_); refine goesL_ (some 15) rfl rfl Tryd.func13 (by kernel_rfl) rfl #[] rfl (by (try simp only [List.map_toArray, List.map_cons, List.map_nil]); first | done | rfl | (simp only [List.length_drop, List.length_take]; rfl)) ?_; (with_reducible refine (paronymlaw25_awake.calls kj1  t102 _ A8.out).mono ?_); rintro e w9 ⟨rfl, hb⟩; refine ⟨_, rfl, ?_⟩; have n0_ := Aside0.mk (below_step (by repeat (first | (with_reducible first | exact HB.out | apply below_alloc | apply pw_below_drewN | apply below_drew1) | exact HB.out)) hb); clear HB; have HB := n0_; clear n0_; (try clear hb); (try clear hb2); (try clear hk); (try clear hi)))
        go_ret
        exact ⟨by first | rfl | (simp [errW_none, errW_some] <;> rfl) | (simp [*, errW_none, errW_some] <;> rfl), by repeat (first | (with_reducible first | exact HB.out | apply below_alloc | apply pw_below_drewN | apply below_drew1) | exact HB.out)⟩
      · replace c7 := Bool.eq_false_iff.mpr c7
        subst c7
        have H1 : ((token_Escape.f l0).bind fun t103 => ((paronymref25_Escaped.f kj1 (strOfNums l0)).bind fun t104 => (if t103.toList = t104.toList then ((token_Plain.f kj1 t103).bind fun bt105 => (if (l0.length : Int) = 0 then (if t103.toList = ([] : List UInt8) then (some (bt105.2 == 12)) else (some false)) else (if t103.size + 2 ≤ 9223372036854775807 then ((bytesOf.f (t103 ++ (⟨#[32, 120]⟩ : ByteArray))).bind fun t109 => ((token_Split.f kj1 t109).bind fun bt112 => (if bt105.2 = 0 then (if (strOfNums bt105.1).toList = (strOfNums l0).toList then (if bt112.2 = 0 then (if (bt112.1.length : Int) = 2 then (if 0 < (bt112.1.length : Int) then (some ((rdOf ByteArray.empty bt112.1 0).toList == t103.toList)) else (none)) else (some false)) else (some false)) else (some false)) else (some false)))) else (none)))) else (some false)))) = some r := by rw [if_neg (show ¬ (false = true) by decide)] at H; exact H
        clear H
        have H := H1
        clear H1
        replace H := Option.bind_eq_some_iff.mp H
        obtain ⟨t103, A100, H⟩ := H
        replace H : ((paronymref25_Escaped.f kj1 (strOfNums l0)).bind fun t104 => (if t103.toList = t104.toList then ((token_Plain.f kj1 t103).bind fun bt105 => (if (l0.length : Int) = 0 then (if t103.toList = ([] : List UInt8) then (some (bt105.2 == 12)) else (some false)) else (if t103.size + 2 ≤ 9223372036854775807 then ((bytesOf.f (t103 ++ (⟨#[32, 120]⟩ : ByteArray))).bind fun t109 => ((token_Split.f kj1 t109).bind fun bt112 => (if bt105.2 = 0 then (if (strOfNums bt105.1).toList = (strOfNums l0).toList then (if bt112.2 = 0 then (if (bt112.1.length : Int) = 2 then (if 0 < (bt112.1.length : Int) then (some ((rdOf ByteArray.empty bt112.1 0).toList == t103.toList)) else (none)) else (some false)) else (some false)) else (some false)) else (some false)))) else (none)))) else (some false))) = some r := H
        have A10 := Aside0.mk A100
        clear A100
        replace H := Option.bind_eq_some_iff.mp H
        obtain ⟨t104, A110, H⟩ := H
        replace H : (if t103.toList = t104.toList then ((token_Plain.f kj1 t103).bind fun bt105 => (if (l0.length : Int) = 0 then (if t103.toList = ([] : List UInt8) then (some (bt105.2 == 12)) else (some false)) else (if t103.size + 2 ≤ 9223372036854775807 then ((bytesOf.f (t103 ++ (⟨#[32, 120]⟩ : ByteArray))).bind fun t109 => ((token_Split.f kj1 t109).bind fun bt112 => (if bt105.2 = 0 then (if (strOfNums bt105.1).toList = (strOfNums l0).toList then (if bt112.2 = 0 then (if (bt112.1.length : Int) = 2 then (if 0 < (bt112.1.length : Int) then (some ((rdOf ByteArray.empty bt112.1 0).toList == t103.toList)) else (none)) else (some false)) else (some false)) else (some false)) else (some false)))) else (none)))) else (some false)) = some r := H
        have A11 := Aside0.mk A110
        clear A110
        by_cases c12 : t103.toList = t104.toList
        · rw [if_pos c12] at H
          have c12b0 : (t103.toList == t104.toList) = true := beq_iff_eq.mpr c12
          have c12b1 : (t103.toList != t104.toList) = false := bne_eq_false_iff_eq.mpr c12
          clear c12
          replace H := Option.bind_eq_some_iff.mp H
          obtain ⟨⟨t105, t106⟩, A130, H⟩ := H
          replace H : (if (l0.length : Int) = 0 then (if t103.toList = ([] : List UInt8) then (some (t106 == 12)) else (some false)) else (if t103.size + 2 ≤ 9223372036854775807 then ((bytesOf.f (t103 ++ (⟨#[32, 120]⟩ : ByteArray))).bind fun t109 => ((token_Split.f kj1 t109).bind fun bt112 => (if t106 = 0 then (if (strOfNums t105).toList = (strOfNums l0).toList then (if bt112.2 = 0 then (if (bt112.1.length : Int) = 2 then (if 0 < (bt112.1.length : Int) then (some ((rdOf ByteArray.empty bt112.1 0).toList == t103.toList)) else (none)) else (some false)) else (some false)) else (some false)) else (some false)))) else (none))) = some r := H
          have A13 := Aside0.mk A130
          clear A130
          by_cases c14 : (l0.length : Int) = 0
          · rw [if_pos c14] at H
            have c14b0 : ((l0.length : Int) == 0) = true := beq_iff_eq.mpr c14
            have c14b1 : ((l0.length : Int) != 0) = false := bne_eq_false_iff_eq.mpr c14
            clear c14
            by_cases c15 : t103.toList = ([] : List UInt8)
            · rw [if_pos c15] at H
              have c15b0 : (t103.toList == ([] : List UInt8)) = true := beq_iff_eq.mpr c15
              have c15b1 : (t103.toList != ([] : List UInt8)) = false := bne_eq_false_iff_eq.mpr c15
              clear c15
              obtain rfl := Option.some.inj H
              go_wp2_with (first | ((with_reducible refine gate_callee (f := 17) rfl ?_); refine goesL_ (some 17) rfl rfl Tryd.func17 (by kernel_rfl) rfl #[.slice A0 l0.length c0] rfl (by (try simp only [List.map_toArray, List.map_cons, List.map_nil]); first | done | rfl | (simp only [List.length_drop, List.length_take]; rfl)) ?_; (with_reducible refine (token_Escape.calls _ _ l0 t103 _ ?side1 ?side2 A10.out).mono ?_); (case side1 => repeat (first | exact (Kd.C_below HR0.out HB.out) | (with_reducible refine Kd.C_alloc ?_ _) | (with_reducible refine Kd.C_drewN ?_ _) | (with_reducible refine Kd.C_drew ?_))); (case side2 => exact HC0.out); rintro e w16 ⟨rfl, hb⟩; refine ⟨_, rfl, ?_⟩; have n0_ := Aside0.mk (below_step (by repeat (first | (with_reducible first | exact HB.out | apply below_alloc | apply pw_below_drewN | apply below_drew1) | exact HB.out)) hb); clear HB; have HB := n0_; clear n0_; (try clear hb); (try clear hb2); (try clear hk); (try clear hi); have hcv17 := Kd.C_string (P := Tryd.prog) (A := A0) (c := c0) Tryd.underlying22 Tryd.underlying5 Tryd.underlying9 (Kd.C_below HR0.out HB.out)) | ((with_reducible refine gate_callee (f := 18) rfl ?_); refine goesL_ (some 21) rfl rfl Tryd.func18 (by kernel_rfl) rfl #[.string (strOfNums l0)] rfl (by (try simp only [List.map_toArray, List.map_cons, List.map_nil]); first | done | rfl | (simp only [List.length_drop, List.length_take]; rfl)) ?_; (with_reducible refine (paronymref25_Escaped.calls kj1 (strOfNums l0) t104 _ A11.out).mono ?_); rintro e w18 ⟨rfl, hb⟩; refine ⟨_, rfl, ?_⟩; have n0_ := Aside0.mk (below_step (by repeat (first | (with_reducible first | exact HB.out | apply below_alloc | apply pw_below_drewN | apply below_drew1) | exact HB.out)) hb); clear HB; have HB := n0_; clear n0_; (try clear hb); (try clear hb2); (try clear hk); (try clear hi)) | ((with_reducible refine gate_callee (f := 19) rfl ?_); refine goesL_ (some 25) rfl rfl Tryd.func19 (by kernel_rfl) rfl #[.string t103] rfl (by (try simp only [List.map_toArray, List.map_cons, List.map_nil]); first | done | rfl | (simp only [List.length_drop, List.length_take]; rfl)) ?_; (with_reducible refine (token_Plain.calls kj1 t103 t105 t106 _ A13.out).mono ?_); rintro e w19 ⟨v107, rfl, ho0, hb⟩; refine ⟨_, rfl, ?_⟩; have n0_ := Aside0.mk (Kd.R_lower ho0 (below_size (by repeat (first | (with_reducible first | exact HB.out | apply below_alloc | apply pw_below_drewN | apply below_drew1) | exact HB.out)))); have n1_ := Aside0.mk (below_step (by repeat (first | (with_reducible first | exact HB.out | apply below_alloc | apply pw_below_drewN | apply below_drew1) | exact HB.out)) hb); clear HB; have HO108 := n0_; have HB := n1_; clear n0_ n1_; (try clear hb); (try clear hb2); (try clear hk); (try clear hi); (try clear ho0)))
              go_ret
              exact ⟨by first | rfl | (simp [errW_none, errW_some] <;> rfl) | (simp [*, errW_none, errW_some] <;> rfl), by repeat (first | (with_reducible first | exact HB.out | apply below_alloc | apply pw_below_drewN | apply below_drew1) | exact HB.out)⟩
            · rw [if_neg c15] at H
              have c15b0 : (t103.toList == ([] : List UInt8)) = false := beq_eq_false_iff_ne.mpr c15
              have c15b1 : (t103.toList != ([] : List UInt8)) = true := bne_iff_ne.mpr c15
              obtain rfl := Option.some.inj H
              go_wp2_with (first | ((with_reducible refine gate_callee (f := 17) rfl ?_); refine goesL_ (some 17) rfl rfl Tryd.func17 (by kernel_rfl) rfl #[.slice A0 l0.length c0] rfl (by (try simp only [List.map_toArray, List.map_cons, List.map_nil]); first | done | rfl | (simp only [List.length_drop, List.length_take]; rfl)) ?_; (with_reducible refine (token_Escape.calls _ _ l0 t103 _ ?side1 ?side2 A10.out).mono ?_); (case side1 => repeat (first | exact (Kd.C_below HR0.out HB.out) | (with_reducible refine Kd.C_alloc ?_ _) | (with_reducible refine Kd.C_drewN ?_ _) | (with_reducible refine Kd.C_drew ?_))); (case side2 => exact HC0.out); rintro e w20 ⟨rfl, hb⟩; refine ⟨_, rfl, ?_⟩; have n0_ := Aside0.mk (below_step (by repeat (first | (with_reducible first | exact HB.out | apply below_alloc | apply pw_below_drewN | apply below_drew1) | exact HB.out)) hb); clear HB; have HB := n0_; clear n0_; (try clear hb); (try clear hb2); (try clear hk); (try clear hi); have hcv21 := Kd.C_string (P := Tryd.prog) (A := A0) (c := c0) Tryd.underlying22 Tryd.underlying5 Tryd.underlying9 (Kd.C_below HR0.out HB.out)) | ((with_reducible refine gate_callee (f := 18) rfl ?_); refine goesL_ (some 21) rfl rfl Tryd.func18 (by kernel_rfl) rfl #[.string (strOfNums l0)] rfl (by (try simp only [List.map_toArray, List.map_cons, List.map_nil]); first | done | rfl | (simp only [List.length_drop, List.length_take]; rfl)) ?_; (with_reducible refine (paronymref25_Escaped.calls kj1 (strOfNums l0) t104 _ A11.out).mono ?_); rintro e w22 ⟨rfl, hb⟩; refine ⟨_, rfl, ?_⟩; have n0_ := Aside0.mk (below_step (by repeat (first | (with_reducible first | exact HB.out | apply below_alloc | apply pw_below_drewN | apply below_drew1) | exact HB.out)) hb); clear HB; have HB := n0_; clear n0_; (try clear hb); (try clear hb2); (try clear hk); (try clear hi)) | ((with_reducible refine gate_callee (f := 19) rfl ?_); refine goesL_ (some 25) rfl rfl Tryd.func19 (by kernel_rfl) rfl #[.string t103] rfl (by (try simp only [List.map_toArray, List.map_cons, List.map_nil]); first | done | rfl | (simp only [List.length_drop, List.length_take]; rfl)) ?_; (with_reducible refine (token_Plain.calls kj1 t103 t105 t106 _ A13.out).mono ?_); rintro e w23 ⟨v107, rfl, ho0, hb⟩; refine ⟨_, rfl, ?_⟩; have n0_ := Aside0.mk (Kd.R_lower ho0 (below_size (by repeat (first | (with_reducible first | exact HB.out | apply below_alloc | apply pw_below_drewN | apply below_drew1) | exact HB.out)))); have n1_ := Aside0.mk (below_step (by repeat (first | (with_reducible first | exact HB.out | apply below_alloc | apply pw_below_drewN | apply below_drew1) | exact HB.out)) hb); clear HB; have HO108 := n0_; have HB := n1_; clear n0_ n1_; (try clear hb); (try clear hb2); (try clear hk); (try clear hi); (try clear ho0)))
              go_ret
              exact ⟨by first | rfl | (simp [errW_none, errW_some] <;> rfl) | (simp [*, errW_none, errW_some] <;> rfl), by repeat (first | (with_reducible first | exact HB.out | apply below_alloc | apply pw_below_drewN | apply below_drew1) | exact HB.out)⟩
          · rw [if_neg c14] at H
            have c14b0 : ((l0.length : Int) == 0) = false := beq_eq_false_iff_ne.mpr c14
            have c14b1 : ((l0.length : Int) != 0) = true := bne_iff_ne.mpr c14
            have c14b2 : ¬ (l0 = []) := fun h_ => c14 (by rw [h_]; rfl)
            by_cases c24 : t103.size + 2 ≤ 9223372036854775807
            · rw [if_pos c24] at H
              have c24b0 := eq_true c24
              have c24b1 : decide (t103.size + 2 ≤ 9223372036854775807) = true := decide_eq_true c24
              try have c24b2 : (9223372036854775807 < t103.size + 2) = False := eq_false (Nat.not_lt.2 c24)
              replace H := Option.bind_eq_some_iff.mp H
              obtain ⟨t109, A250, H⟩ := H
              replace H : ((token_Split.f kj1 t109).bind fun bt112 => (if t106 = 0 then (if (strOfNums t105).toList = (strOfNums l0).toList then (if bt112.2 = 0 then (if (bt112.1.length : Int) = 2 then (if 0 < (bt112.1.length : Int) then (some ((rdOf ByteArray.empty bt112.1 0).toList == t103.toList)) else (none)) else (some false)) else (some false)) else (some false)) else (some false))) = some r := H
              have A25 := Aside0.mk A250
              clear A250
              replace H := Option.bind_eq_some_iff.mp H
              obtain ⟨⟨t112, t113⟩, A260, H⟩ := H
              replace H : (if t106 = 0 then (if (strOfNums t105).toList = (strOfNums l0).toList then (if t113 = 0 then (if (t112.length : Int) = 2 then (if 0 < (t112.length : Int) then (some ((rdOf ByteArray.empty t112 0).toList == t103.toList)) else (none)) else (some false)) else (some false)) else (some false)) else (some false)) = some r := H
              have A26 := Aside0.mk A260
              clear A260
              by_cases c27 : t106 = 0
              · rw [if_pos c27] at H
                have c27b0 : (t106 == 0) = true := beq_iff_eq.mpr c27
                have c27b1 : (t106 != 0) = false := bne_eq_false_iff_eq.mpr c27
                clear c27
                by_cases c28 : (strOfNums t105).toList = (strOfNums l0).toList
                · rw [if_pos c28] at H
                  have c28b0 : ((strOfNums t105).toList == (strOfNums l0).toList) = true := beq_iff_eq.mpr c28
                  have c28b1 : ((strOfNums t105).toList != (strOfNums l0).toList) = false := bne_eq_false_iff_eq.mpr c28
                  clear c28
                  by_cases c29 : t113 = 0
                  · rw [if_pos c29] at H
                    have c29b0 : (t113 == 0) = true := beq_iff_eq.mpr c29
                    have c29b1 : (t113 != 0) = false := bne_eq_false_iff_eq.mpr c29
                    clear c29
                    by_cases c30 : (t112.length : Int) = 2
                    · rw [if_pos c30] at H
                      have c30b0 : ((t112.length : Int) == 2) = true := beq_iff_eq.mpr c30
                      have c30b1 : ((t112.length : Int) != 2) = false := bne_eq_false_iff_eq.mpr c30
                      clear c30
                      by_cases c31 : 0 < (t112.length : Int)
                      · rw [if_pos c31] at H
                        have c31b0 : decide (0 < (t112.length : Int)) = true := decide_eq_true c31
                        have c31b1 : decide (0 < t112.length) = true := decide_eq_true (by omega)
                        clear c31
                        obtain rfl := Option.some.inj H
                        go_wp2_with (first | ((with_reducible refine gate_callee (f := 17) rfl ?_); refine goesL_ (some 17) rfl rfl Tryd.func17 (by kernel_rfl) rfl #[.slice A0 l0.length c0] rfl (by (try simp only [List.map_toArray, List.map_cons, List.map_nil]); first | done | rfl | (simp only [List.length_drop, List.length_take]; rfl)) ?_; (with_reducible refine (token_Escape.calls _ _ l0 t103 _ ?side1 ?side2 A10.out).mono ?_); (case side1 => repeat (first | exact (Kd.C_below HR0.out HB.out) | (with_reducible refine Kd.C_alloc ?_ _) | (with_reducible refine Kd.C_drewN ?_ _) | (with_reducible refine Kd.C_drew ?_))); (case side2 => exact HC0.out); rintro e w32 ⟨rfl, hb⟩; refine ⟨_, rfl, ?_⟩; have n0_ := Aside0.mk (below_step (by repeat (first | (with_reducible first | exact HB.out | apply below_alloc | apply pw_below_drewN | apply below_drew1) | exact HB.out)) hb); clear HB; have HB := n0_; clear n0_; (try clear hb); (try clear hb2); (try clear hk); (try clear hi); have hcv33 := Kd.C_string (P := Tryd.prog) (A := A0) (c := c0) Tryd.underlying22 Tryd.underlying5 Tryd.underlying9 (Kd.C_below HR0.out HB.out)) | ((with_reducible refine gate_callee (f := 18) rfl ?_); refine goesL_ (some 21) rfl rfl Tryd.func18 (by kernel_rfl) rfl #[.string (strOfNums l0)] rfl (by (try simp only [List.map_toArray, List.map_cons, List.map_nil]); first | done | rfl | (simp only [List.length_drop, List.length_take]; rfl)) ?_; (with_reducible refine (paronymref25_Escaped.calls kj1 (strOfNums l0) t104 _ A11.out).mono ?_); rintro e w34 ⟨rfl, hb⟩; refine ⟨_, rfl, ?_⟩; have n0_ := Aside0.mk (below_step (by repeat (first | (with_reducible first | exact HB.out | apply below_alloc | apply pw_below_drewN | apply below_drew1) | exact HB.out)) hb); clear HB; have HB := n0_; clear n0_; (try clear hb); (try clear hb2); (try clear hk); (try clear hi)) | ((with_reducible refine gate_callee (f := 19) rfl ?_); refine goesL_ (some 25) rfl rfl Tryd.func19 (by kernel_rfl) rfl #[.string t103] rfl (by (try simp only [List.map_toArray, List.map_cons, List.map_nil]); first | done | rfl | (simp only [List.length_drop, List.length_take]; rfl)) ?_; (with_reducible refine (token_Plain.calls kj1 t103 t105 t106 _ A13.out).mono ?_); rintro e w35 ⟨v107, rfl, ho0, hb⟩; refine ⟨_, rfl, ?_⟩; have n0_ := Aside0.mk (Kd.R_lower ho0 (below_size (by repeat (first | (with_reducible first | exact HB.out | apply below_alloc | apply pw_below_drewN | apply below_drew1) | exact HB.out)))); have n1_ := Aside0.mk (below_step (by repeat (first | (with_reducible first | exact HB.out | apply below_alloc | apply pw_below_drewN | apply below_drew1) | exact HB.out)) hb); clear HB; have HO108 := n0_; have HB := n1_; clear n0_ n1_; (try clear hb); (try clear hb2); (try clear hk); (try clear hi); (try clear ho0)) | ((with_reducible refine gate_dst (N := 40) rfl ?_); (try (refine gate_guard (by rfl) ?_; dsimp only)); refine bytesOf.step 9 22 5 _ (t103 ++ (⟨#[32, 120]⟩ : ByteArray)) t109 A25.out rfl rfl rfl Tryd.underlying9 Tryd.underlying22 Tryd.underlying5 ?_; intro v110 w36 ho0 hb; have n0_ := Aside0.mk (Kd.R_below (by (with_reducible repeat (first | apply Kd.R_alloc | apply Kd.R_drewN | apply Kd.R_drew)); exact HO108.out) hb); have n1_ := Aside0.mk (Kd.V_lower (Kd.V_mono (ok' := fun k_ => some k_ ≠ (v107 : Value).ownBlock) ho0 (fun k_ hk_ => (Kd.fresh' (Kd.R_lt (by (with_reducible repeat (first | apply Kd.R_alloc | apply Kd.R_drewN | apply Kd.R_drew)); exact HO108.out)) k_ hk_))) (below_size (by repeat (first | (with_reducible first | exact HB.out | apply below_alloc | apply pw_below_drewN | apply below_drew1) | exact HB.out)))); have n2_ := Aside0.mk (below_step (by repeat (first | (with_reducible first | exact HB.out | apply below_alloc | apply pw_below_drewN | apply below_drew1) | exact HB.out)) hb); clear HO108; clear HB; have HO108 := n0_; have HO111 := n1_; have HB := n2_; clear n0_ n1_ n2_; (try clear hb); (try clear hb2); (try clear hk); (try clear hi); (try clear ho0); obtain ⟨Ao37, co37, eo37⟩ := Kd.V_slice HO111.out; subst eo37) | ((with_reducible refine gate_callee (f := 14) rfl ?_); refine goesL_ (some 41) rfl rfl Tryd.func14 (by kernel_rfl) rfl #[.slice Ao37 t109.length co37] rfl (by (try simp only [List.map_toArray, List.map_cons, List.map_nil]); first | done | rfl | (simp only [List.length_drop, List.length_take]; rfl)) ?_; (with_reducible refine (token_Split.calls kj1 _ _ t109 t112 t113 _ ?side1 ?side2 A26.out).mono ?_); (case side1 => repeat (first | exact (Kd.V_reads' HO111.out).2.2 | (with_reducible refine Kd.C_alloc ?_ _) | (with_reducible refine Kd.C_drewN ?_ _) | (with_reducible refine Kd.C_drew ?_))); (case side2 => exact (Kd.V_reads' HO111.out).2.1); rintro e w38 ⟨v114, rfl, ho0, hb⟩; refine ⟨_, rfl, ?_⟩; have n0_ := Aside0.mk (Kd.R_below (by (with_reducible repeat (first | apply Kd.R_alloc | apply Kd.R_drewN | apply Kd.R_drew)); exact HO108.out) hb); have n1_ := Aside0.mk (Kd.V_elder' (by (with_reducible repeat (first | apply Kd.V_alloc | apply Kd.V_drewN | apply Kd.V_drew)); exact HO111.out) (Kd.R_base ho0) hb); have n2_ := Aside0.mk (Kd.R_lower ho0 (below_size (by repeat (first | (with_reducible first | exact HB.out | apply below_alloc | apply pw_below_drewN | apply below_drew1) | exact HB.out)))); have n3_ := Aside0.mk (below_step (by repeat (first | (with_reducible first | exact HB.out | apply below_alloc | apply pw_below_drewN | apply below_drew1) | exact HB.out)) hb); clear HO108; clear HO111; clear HB; have HO108 := n0_; have HO111 := n1_; have HO115 := n2_; have HB := n3_; clear n0_ n1_ n2_ n3_; (try clear hb); (try clear hb2); (try clear hk); (try clear hi); (try clear ho0); have hcv39 := own_string (P := Tryd.prog) Tryd.underlying22 Tryd.underlying5 Tryd.underlying9 (Kd.own_of_R HO108.out); have hcv40 := fun (nd_ : Nat) => own_string (P := Tryd.prog) Tryd.underlying22 Tryd.underlying5 Tryd.underlying9 (Kd.own_of_R (Kd.R_drewN HO108.out nd_)); have hcv41 := Kd.C_string (P := Tryd.prog) (A := A0) (c := c0) Tryd.underlying22 Tryd.underlying5 Tryd.underlying9 (Kd.C_below HR0.out HB.out); obtain ⟨Ao42, co42, eo42⟩ := Kd.R_slice HO115.out; subst eo42; have p116 : 0 ≤ (0 : Int) := (by omega); have q116 : 0 < (t112.length : Int) := of_decide_eq_true (by first | (with_reducible assumption) | assumption); obtain ⟨ad116, e116, hx116_0⟩ := Kd.at_string (Kd.R_reads' HO115.out).2.2 0 p116 q116; cases e116; have qi116 : (0 < t112.length) = True := eq_true (by omega); (try rw [show ((0 : Int)).toNat = 0 from rfl] at hx116_0); (try rw [Addr.add_zero'] at hx116_0); replace p116 := eq_true p116; replace q116 := eq_true q116))
                        go_ret
                        exact ⟨by first | rfl | (simp [errW_none, errW_some] <;> rfl) | (simp [*, errW_none, errW_some] <;> rfl), by repeat (first | (with_reducible first | exact HB.out | apply below_alloc | apply pw_below_drewN | apply below_drew1) | exact HB.out)⟩
                      · rw [if_neg c31] at H
                        exact absurd H (by simp)
                    · rw [if_neg c30] at H
                      have c30b0 : ((t112.length : Int) == 2) = false := beq_eq_false_iff_ne.mpr c30
                      have c30b1 : ((t112.length : Int) != 2) = true := bne_iff_ne.mpr c30
                      obtain rfl := Option.some.inj H
                      go_wp2_with (first | ((with_reducible refine gate_callee (f := 17) rfl ?_); refine goesL_ (some 17) rfl rfl Tryd.func17 (by kernel_rfl) rfl #[.slice A0 l0.length c0] rfl (by (try simp only [List.map_toArray, List.map_cons, List.map_nil]); first | done | rfl | (simp only [List.length_drop, List.length_take]; rfl)) ?_; (with_reducible refine (token_Escape.calls _ _ l0 t103 _ ?side1 ?side2 A10.out).mono ?_); (case side1 => repeat (first | exact (Kd.C_below HR0.out HB.out) | (with_reducible refine Kd.C_alloc ?_ _) | (with_reducible refine Kd.C_drewN ?_ _) | (with_reducible refine Kd.C_drew ?_))); (case side2 => exact HC0.out); rintro e w43 ⟨rfl, hb⟩; refine ⟨_, rfl, ?_⟩; have n0_ := Aside0.mk (below_step (by repeat (first | (with_reducible first | exact HB.out | apply below_alloc | apply pw_below_drewN | apply below_drew1) | exact HB.out)) hb); clear HB; have HB := n0_; clear n0_; (try clear hb); (try clear hb2); (try clear hk); (try clear hi); have hcv44 := Kd.C_string (P := Tryd.prog) (A := A0) (c := c0) Tryd.underlying22 Tryd.underlying5 Tryd.underlying9 (Kd.C_below HR0.out HB.out)) | ((with_reducible refine gate_callee (f := 18) rfl ?_); refine goesL_ (some 21) rfl rfl Tryd.func18 (by kernel_rfl) rfl #[.string (strOfNums l0)] rfl (by (try simp only [List.map_toArray, List.map_cons, List.map_nil]); first | done | rfl | (simp only [List.length_drop, List.length_take]; rfl)) ?_; (with_reducible refine (paronymref25_Escaped.calls kj1 (strOfNums l0) t104 _ A11.out).mono ?_); rintro e w45 ⟨rfl, hb⟩; refine ⟨_, rfl, ?_⟩; have n0_ := Aside0.mk (below_step (by repeat (first | (with_reducible first | exact HB.out | apply below_alloc | apply pw_below_drewN | apply below_drew1) | exact HB.out)) hb); clear HB; have HB := n0_; clear n0_; (try clear hb); (try clear hb2); (try clear hk); (try clear hi)) | ((with_reducible refine gate_callee (f := 19) rfl ?_); refine goesL_ (some 25) rfl rfl Tryd.func19 (by kernel_rfl) rfl #[.string t103] rfl (by (try simp only [List.map_toArray, List.map_cons, List.map_nil]); first | done | rfl | (simp only [List.length_drop, List.length_take]; rfl)) ?_; (with_reducible refine (token_Plain.calls kj1 t103 t105 t106 _ A13.out).mono ?_); rintro e w46 ⟨v107, rfl, ho0, hb⟩; refine ⟨_, rfl, ?_⟩; have n0_ := Aside0.mk (Kd.R_lower ho0 (below_size (by repeat (first | (with_reducible first | exact HB.out | apply below_alloc | apply pw_below_drewN | apply below_drew1) | exact HB.out)))); have n1_ := Aside0.mk (below_step (by repeat (first | (with_reducible first | exact HB.out | apply below_alloc | apply pw_below_drewN | apply below_drew1) | exact HB.out)) hb); clear HB; have HO108 := n0_; have HB := n1_; clear n0_ n1_; (try clear hb); (try clear hb2); (try clear hk); (try clear hi); (try clear ho0)) | ((with_reducible refine gate_dst (N := 40) rfl ?_); (try (refine gate_guard (by rfl) ?_; dsimp only)); refine bytesOf.step 9 22 5 _ (t103 ++ (⟨#[32, 120]⟩ : ByteArray)) t109 A25.out rfl rfl rfl Tryd.underlying9 Tryd.underlying22 Tryd.underlying5 ?_; intro v110 w47 ho0 hb; have n0_ := Aside0.mk (Kd.R_below (by (with_reducible repeat (first | apply Kd.R_alloc | apply Kd.R_drewN | apply Kd.R_drew)); exact HO108.out) hb); have n1_ := Aside0.mk (Kd.V_lower (Kd.V_mono (ok' := fun k_ => some k_ ≠ (v107 : Value).ownBlock) ho0 (fun k_ hk_ => (Kd.fresh' (Kd.R_lt (by (with_reducible repeat (first | apply Kd.R_alloc | apply Kd.R_drewN | apply Kd.R_drew)); exact HO108.out)) k_ hk_))) (below_size (by repeat (first | (with_reducible first | exact HB.out | apply below_alloc | apply pw_below_drewN | apply below_drew1) | exact HB.out)))); have n2_ := Aside0.mk (below_step (by repeat (first | (with_reducible first | exact HB.out | apply below_alloc | apply pw_below_drewN | apply below_drew1) | exact HB.out)) hb); clear HO108; clear HB; have HO108 := n0_; have HO111 := n1_; have HB := n2_; clear n0_ n1_ n2_; (try clear hb); (try clear hb2); (try clear hk); (try clear hi); (try clear ho0); obtain ⟨Ao48, co48, eo48⟩ := Kd.V_slice HO111.out; subst eo48) | ((with_reducible refine gate_callee (f := 14) rfl ?_); refine goesL_ (some 41) rfl rfl Tryd.func14 (by kernel_rfl) rfl #[.slice Ao48 t109.length co48] rfl (by (try simp only [List.map_toArray, List.map_cons, List.map_nil]); first | done | rfl | (simp only [List.length_drop, List.length_take]; rfl)) ?_; (with_reducible refine (token_Split.calls kj1 _ _ t109 t112 t113 _ ?side1 ?side2 A26.out).mono ?_); (case side1 => repeat (first | exact (Kd.V_reads' HO111.out).2.2 | (with_reducible refine Kd.C_alloc ?_ _) | (with_reducible refine Kd.C_drewN ?_ _) | (with_reducible refine Kd.C_drew ?_))); (case side2 => exact (Kd.V_reads' HO111.out).2.1); rintro e w49 ⟨v114, rfl, ho0, hb⟩; refine ⟨_, rfl, ?_⟩; have n0_ := Aside0.mk (Kd.R_below (by (with_reducible repeat (first | apply Kd.R_alloc | apply Kd.R_drewN | apply Kd.R_drew)); exact HO108.out) hb); have n1_ := Aside0.mk (Kd.V_elder' (by (with_reducible repeat (first | apply Kd.V_alloc | apply Kd.V_drewN | apply Kd.V_drew)); exact HO111.out) (Kd.R_base ho0) hb); have n2_ := Aside0.mk (Kd.R_lower ho0 (below_size (by repeat (first | (with_reducible first | exact HB.out | apply below_alloc | apply pw_below_drewN | apply below_drew1) | exact HB.out)))); have n3_ := Aside0.mk (below_step (by repeat (first | (with_reducible first | exact HB.out | apply below_alloc | apply pw_below_drewN | apply below_drew1) | exact HB.out)) hb); clear HO108; clear HO111; clear HB; have HO108 := n0_; have HO111 := n1_; have HO115 := n2_; have HB := n3_; clear n0_ n1_ n2_ n3_; (try clear hb); (try clear hb2); (try clear hk); (try clear hi); (try clear ho0); have hcv50 := own_string (P := Tryd.prog) Tryd.underlying22 Tryd.underlying5 Tryd.underlying9 (Kd.own_of_R HO108.out); have hcv51 := fun (nd_ : Nat) => own_string (P := Tryd.prog) Tryd.underlying22 Tryd.underlying5 Tryd.underlying9 (Kd.own_of_R (Kd.R_drewN HO108.out nd_)); have hcv52 := Kd.C_string (P := Tryd.prog) (A := A0) (c := c0) Tryd.underlying22 Tryd.underlying5 Tryd.underlying9 (Kd.C_below HR0.out HB.out); obtain ⟨Ao53, co53, eo53⟩ := Kd.R_slice HO115.out; subst eo53))
                      go_ret
                      exact ⟨by first | rfl | (simp [errW_none, errW_some] <;> rfl) | (simp [*, errW_none, errW_some] <;> rfl), by repeat (first | (with_reducible first | exact HB.out | apply below_alloc | apply pw_below_drewN | apply below_drew1) | exact HB.out)⟩
                  · rw [if_neg c29] at H
                    have c29b0 : (t113 == 0) = false := beq_eq_false_iff_ne.mpr c29
                    have c29b1 : (t113 != 0) = true := bne_iff_ne.mpr c29
                    obtain rfl := Option.some.inj H
                    go_wp2_with (first | ((with_reducible refine gate_callee (f := 17) rfl ?_); refine goesL_ (some 17) rfl rfl Tryd.func17 (by kernel_rfl) rfl #[.slice A0 l0.length c0] rfl (by (try simp only [List.map_toArray, List.map_cons, List.map_nil]); first | done | rfl | (simp only [List.length_drop, List.length_take]; rfl)) ?_; (with_reducible refine (token_Escape.calls _ _ l0 t103 _ ?side1 ?side2 A10.out).mono ?_); (case side1 => repeat (first | exact (Kd.C_below HR0.out HB.out) | (with_reducible refine Kd.C_alloc ?_ _) | (with_reducible refine Kd.C_drewN ?_ _) | (with_reducible refine Kd.C_drew ?_))); (case side2 => exact HC0.out); rintro e w54 ⟨rfl, hb⟩; refine ⟨_, rfl, ?_⟩; have n0_ := Aside0.mk (below_step (by repeat (first | (with_reducible first | exact HB.out | apply below_alloc | apply pw_below_drewN | apply below_drew1) | exact HB.out)) hb); clear HB; have HB := n0_; clear n0_; (try clear hb); (try clear hb2); (try clear hk); (try clear hi); have hcv55 := Kd.C_string (P := Tryd.prog) (A := A0) (c := c0) Tryd.underlying22 Tryd.underlying5 Tryd.underlying9 (Kd.C_below HR0.out HB.out)) | ((with_reducible refine gate_callee (f := 18) rfl ?_); refine goesL_ (some 21) rfl rfl Tryd.func18 (by kernel_rfl) rfl #[.string (strOfNums l0)] rfl (by (try simp only [List.map_toArray, List.map_cons, List.map_nil]); first | done | rfl | (simp only [List.length_drop, List.length_take]; rfl)) ?_; (with_reducible refine (paronymref25_Escaped.calls kj1 (strOfNums l0) t104 _ A11.out).mono ?_); rintro e w56 ⟨rfl, hb⟩; refine ⟨_, rfl, ?_⟩; have n0_ := Aside0.mk (below_step (by repeat (first | (with_reducible first | exact HB.out | apply below_alloc | apply pw_below_drewN | apply below_drew1) | exact HB.out)) hb); clear HB; have HB := n0_; clear n0_; (try clear hb); (try clear hb2); (try clear hk); (try clear hi)) | ((with_reducible refine gate_callee (f := 19) rfl ?_); refine goesL_ (some 25) rfl rfl Tryd.func19 (by kernel_rfl) rfl #[.string t103] rfl (by (try simp only [List.map_toArray, List.map_cons, List.map_nil]); first | done | rfl | (simp only [List.length_drop, List.length_take]; rfl)) ?_; (with_reducible refine (token_Plain.calls kj1 t103 t105 t106 _ A13.out).mono ?_); rintro e w57 ⟨v107, rfl, ho0, hb⟩; refine ⟨_, rfl, ?_⟩; have n0_ := Aside0.mk (Kd.R_lower ho0 (below_size (by repeat (first | (with_reducible first | exact HB.out | apply below_alloc | apply pw_below_drewN | apply below_drew1) | exact HB.out)))); have n1_ := Aside0.mk (below_step (by repeat (first | (with_reducible first | exact HB.out | apply below_alloc | apply pw_below_drewN | apply below_drew1) | exact HB.out)) hb); clear HB; have HO108 := n0_; have HB := n1_; clear n0_ n1_; (try clear hb); (try clear hb2); (try clear hk); (try clear hi); (try clear ho0)) | ((with_reducible refine gate_dst (N := 40) rfl ?_); (try (refine gate_guard (by rfl) ?_; dsimp only)); refine bytesOf.step 9 22 5 _ (t103 ++ (⟨#[32, 120]⟩ : ByteArray)) t109 A25.out rfl rfl rfl Tryd.underlying9 Tryd.underlying22 Tryd.underlying5 ?_; intro v110 w58 ho0 hb; have n0_ := Aside0.mk (Kd.R_below (by (with_reducible repeat (first | apply Kd.R_alloc | apply Kd.R_drewN | apply Kd.R_drew)); exact HO108.out) hb); have n1_ := Aside0.mk (Kd.V_lower (Kd.V_mono (ok' := fun k_ => some k_ ≠ (v107 : Value).ownBlock) ho0 (fun k_ hk_ => (Kd.fresh' (Kd.R_lt (by (with_reducible repeat (first | apply Kd.R_alloc | apply Kd.R_drewN | apply Kd.R_drew)); exact HO108.out)) k_ hk_))) (below_size (by repeat (first | (with_reducible first | exact HB.out | apply below_alloc | apply pw_below_drewN | apply below_drew1) | exact HB.out)))); have n2_ := Aside0.mk (below_step (by repeat (first | (with_reducible first | exact HB.out | apply below_alloc | apply pw_below_drewN | apply below_drew1) | exact HB.out)) hb); clear HO108; clear HB; have HO108 := n0_; have HO111 := n1_; have HB := n2_; clear n0_ n1_ n2_; (try clear hb); (try clear hb2); (try clear hk); (try clear hi); (try clear ho0); obtain ⟨Ao59, co59, eo59⟩ := Kd.V_slice HO111.out; subst eo59) | ((with_reducible refine gate_callee (f := 14) rfl ?_); refine goesL_ (some 41) rfl rfl Tryd.func14 (by kernel_rfl) rfl #[.slice Ao59 t109.length co59] rfl (by (try simp only [List.map_toArray, List.map_cons, List.map_nil]); first | done | rfl | (simp only [List.length_drop, List.length_take]; rfl)) ?_; (with_reducible refine (token_Split.calls kj1 _ _ t109 t112 t113 _ ?side1 ?side2 A26.out).mono ?_); (case side1 => repeat (first | exact (Kd.V_reads' HO111.out).2.2 | (with_reducible refine Kd.C_alloc ?_ _) | (with_reducible refine Kd.C_drewN ?_ _) | (with_reducible refine Kd.C_drew ?_))); (case side2 => exact (Kd.V_reads' HO111.out).2.1); rintro e w60 ⟨v114, rfl, ho0, hb⟩; refine ⟨_, rfl, ?_⟩; have n0_ := Aside0.mk (Kd.R_below (by (with_reducible repeat (first | apply Kd.R_alloc | apply Kd.R_drewN | apply Kd.R_drew)); exact HO108.out) hb); have n1_ := Aside0.mk (Kd.V_elder' (by (with_reducible repeat (first | apply Kd.V_alloc | apply Kd.V_drewN | apply Kd.V_drew)); exact HO111.out) (Kd.R_base ho0) hb); have n2_ := Aside0.mk (Kd.R_lower ho0 (below_size (by repeat (first | (with_reducible first | exact HB.out | apply below_alloc | apply pw_below_drewN | apply below_drew1) | exact HB.out)))); have n3_ := Aside0.mk (below_step (by repeat (first | (with_reducible first | exact HB.out | apply below_alloc | apply pw_below_drewN | apply below_drew1) | exact HB.out)) hb); clear HO108; clear HO111; clear HB; have HO108 := n0_; have HO111 := n1_; have HO115 := n2_; have HB := n3_; clear n0_ n1_ n2_ n3_; (try clear hb); (try clear hb2); (try clear hk); (try clear hi); (try clear ho0); have hcv61 := own_string (P := Tryd.prog) Tryd.underlying22 Tryd.underlying5 Tryd.underlying9 (Kd.own_of_R HO108.out); have hcv62 := fun (nd_ : Nat) => own_string (P := Tryd.prog) Tryd.underlying22 Tryd.underlying5 Tryd.underlying9 (Kd.own_of_R (Kd.R_drewN HO108.out nd_)); have hcv63 := Kd.C_string (P := Tryd.prog) (A := A0) (c := c0) Tryd.underlying22 Tryd.underlying5 Tryd.underlying9 (Kd.C_below HR0.out HB.out)))
                    go_ret
                    exact ⟨by first | rfl | (simp [errW_none, errW_some] <;> rfl) | (simp [*, errW_none, errW_some] <;> rfl), by repeat (first | (with_reducible first | exact HB.out | apply below_alloc | apply pw_below_drewN | apply below_drew1) | exact HB.out)⟩
                · rw [if_neg c28] at H
                  have c28b0 : ((strOfNums t105).toList == (strOfNums l0).toList) = false := beq_eq_false_iff_ne.mpr c28
                  have c28b1 : ((strOfNums t105).toList != (strOfNums l0).toList) = true := bne_iff_ne.mpr c28
                  obtain rfl := Option.some.inj H
                  go_wp2_with (first | ((with_reducible refine gate_callee (f := 17) rfl ?_); refine goesL_ (some 17) rfl rfl Tryd.func17 (by kernel_rfl) rfl #[.slice A0 l0.length c0] rfl (by (try simp only [List.map_toArray, List.map_cons, List.map_nil]); first | done | rfl | (simp only [List.length_drop, List.length_take]; rfl)) ?_; (with_reducible refine (token_Escape.calls _ _ l0 t103 _ ?side1 ?side2 A10.out).mono ?_); (case side1 => repeat (first | exact (Kd.C_below HR0.out HB.out) | (with_reducible refine Kd.C_alloc ?_ _) | (with_reducible refine Kd.C_drewN ?_ _) | (with_reducible refine Kd.C_drew ?_))); (case side2 => exact HC0.out); rintro e w64 ⟨rfl, hb⟩; refine ⟨_, rfl, ?_⟩; have n0_ := Aside0.mk (below_step (by repeat (first | (with_reducible first | exact HB.out | apply below_alloc | apply pw_below_drewN | apply below_drew1) | exact HB.out)) hb); clear HB; have HB := n0_; clear n0_; (try clear hb); (try clear hb2); (try clear hk); (try clear hi); have hcv65 := Kd.C_string (P := Tryd.prog) (A := A0) (c := c0) Tryd.underlying22 Tryd.underlying5 Tryd.underlying9 (Kd.C_below HR0.out HB.out)) | ((with_reducible refine gate_callee (f := 18) rfl ?_); refine goesL_ (some 21) rfl rfl Tryd.func18 (by kernel_rfl) rfl #[.string (strOfNums l0)] rfl (by (try simp only [List.map_toArray, List.map_cons, List.map_nil]); first | done | rfl | (simp only [List.length_drop, List.length_take]; rfl)) ?_; (with_reducible refine (paronymref25_Escaped.calls kj1 (strOfNums l0) t104 _ A11.out).mono ?_); rintro e w66 ⟨rfl, hb⟩; refine ⟨_, rfl, ?_⟩; have n0_ := Aside0.mk (below_step (by repeat (first | (with_reducible first | exact HB.out | apply below_alloc | apply pw_below_drewN | apply below_drew1) | exact HB.out)) hb); clear HB; have HB := n0_; clear n0_; (try clear hb); (try clear hb2); (try clear hk); (try clear hi)) | ((with_reducible refine gate_callee (f := 19) rfl ?_); refine goesL_ (some 25) rfl rfl Tryd.func19 (by kernel_rfl) rfl #[.string t103] rfl (by (try simp only [List.map_toArray, List.map_cons, List.map_nil]); first | done | rfl | (simp only [List.length_drop, List.length_take]; rfl)) ?_; (with_reducible refine (token_Plain.calls kj1 t103 t105 t106 _ A13.out).mono ?_); rintro e w67 ⟨v107, rfl, ho0, hb⟩; refine ⟨_, rfl, ?_⟩; have n0_ := Aside0.mk (Kd.R_lower ho0 (below_size (by repeat (first | (with_reducible first | exact HB.out | apply below_alloc | apply pw_below_drewN | apply below_drew1) | exact HB.out)))); have n1_ := Aside0.mk (below_step (by repeat (first | (with_reducible first | exact HB.out | apply below_alloc | apply pw_below_drewN | apply below_drew1) | exact HB.out)) hb); clear HB; have HO108 := n0_; have HB := n1_; clear n0_ n1_; (try clear hb); (try clear hb2); (try clear hk); (try clear hi); (try clear ho0)) | ((with_reducible refine gate_dst (N := 40) rfl ?_); (try (refine gate_guard (by rfl) ?_; dsimp only)); refine bytesOf.step 9 22 5 _ (t103 ++ (⟨#[32, 120]⟩ : ByteArray)) t109 A25.out rfl rfl rfl Tryd.underlying9 Tryd.underlying22 Tryd.underlying5 ?_; intro v110 w68 ho0 hb; have n0_ := Aside0.mk (Kd.R_below (by (with_reducible repeat (first | apply Kd.R_alloc | apply Kd.R_drewN | apply Kd.R_drew)); exact HO108.out) hb); have n1_ := Aside0.mk (Kd.V_lower (Kd.V_mono (ok' := fun k_ => some k_ ≠ (v107 : Value).ownBlock) ho0 (fun k_ hk_ => (Kd.fresh' (Kd.R_lt (by (with_reducible repeat (first | apply Kd.R_alloc | apply Kd.R_drewN | apply Kd.R_drew)); exact HO108.out)) k_ hk_))) (below_size (by repeat (first | (with_reducible first | exact HB.out | apply below_alloc | apply pw_below_drewN | apply below_drew1) | exact HB.out)))); have n2_ := Aside0.mk (below_step (by repeat (first | (with_reducible first | exact HB.out | apply below_alloc | apply pw_below_drewN | apply below_drew1) | exact HB.out)) hb); clear HO108; clear HB; have HO108 := n0_; have HO111 := n1_; have HB := n2_; clear n0_ n1_ n2_; (try clear hb); (try clear hb2); (try clear hk); (try clear hi); (try clear ho0); obtain ⟨Ao69, co69, eo69⟩ := Kd.V_slice HO111.out; subst eo69) | ((with_reducible refine gate_callee (f := 14) rfl ?_); refine goesL_ (some 41) rfl rfl Tryd.func14 (by kernel_rfl) rfl #[.slice Ao69 t109.length co69] rfl (by (try simp only [List.map_toArray, List.map_cons, List.map_nil]); first | done | rfl | (simp only [List.length_drop, List.length_take]; rfl)) ?_; (with_reducible refine (token_Split.calls kj1 _ _ t109 t112 t113 _ ?side1 ?side2 A26.out).mono ?_); (case side1 => repeat (first | exact (Kd.V_reads' HO111.out).2.2 | (with_reducible refine Kd.C_alloc ?_ _) | (with_reducible refine Kd.C_drewN ?_ _) | (with_reducible refine Kd.C_drew ?_))); (case side2 => exact (Kd.V_reads' HO111.out).2.1); rintro e w70 ⟨v114, rfl, ho0, hb⟩; refine ⟨_, rfl, ?_⟩; have n0_ := Aside0.mk (Kd.R_below (by (with_reducible repeat (first | apply Kd.R_alloc | apply Kd.R_drewN | apply Kd.R_drew)); exact HO108.out) hb); have n1_ := Aside0.mk (Kd.V_elder' (by (with_reducible repeat (first | apply Kd.V_alloc | apply Kd.V_drewN | apply Kd.V_drew)); exact HO111.out) (Kd.R_base ho0) hb); have n2_ := Aside0.mk (Kd.R_lower ho0 (below_size (by repeat (first | (with_reducible first | exact HB.out | apply below_alloc | apply pw_below_drewN | apply below_drew1) | exact HB.out)))); have n3_ := Aside0.mk (below_step (by repeat (first | (with_reducible first | exact HB.out | apply below_alloc | apply pw_below_drewN | apply below_drew1) | exact HB.out)) hb); clear HO108; clear HO111; clear HB; have HO108 := n0_; have HO111 := n1_; have HO115 := n2_; have HB := n3_; clear n0_ n1_ n2_ n3_; (try clear hb); (try clear hb2); (try clear hk); (try clear hi); (try clear ho0); have hcv71 := own_string (P := Tryd.prog) Tryd.underlying22 Tryd.underlying5 Tryd.underlying9 (Kd.own_of_R HO108.out); have hcv72 := fun (nd_ : Nat) => own_string (P := Tryd.prog) Tryd.underlying22 Tryd.underlying5 Tryd.underlying9 (Kd.own_of_R (Kd.R_drewN HO108.out nd_)); have hcv73 := Kd.C_string (P := Tryd.prog) (A := A0) (c := c0) Tryd.underlying22 Tryd.underlying5 Tryd.underlying9 (Kd.C_below HR0.out HB.out)))
                  go_ret
                  exact ⟨by first | rfl | (simp [errW_none, errW_some] <;> rfl) | (simp [*, errW_none, errW_some] <;> rfl), by repeat (first | (with_reducible first | exact HB.out | apply below_alloc | apply pw_below_drewN | apply below_drew1) | exact HB.out)⟩
              · rw [if_neg c27] at H
                have c27b0 : (t106 == 0) = false := beq_eq_false_iff_ne.mpr c27
                have c27b1 : (t106 != 0) = true := bne_iff_ne.mpr c27
                obtain rfl := Option.some.inj H
                go_wp2_with (first | ((with_reducible refine gate_callee (f := 17) rfl ?_); refine goesL_ (some 17) rfl rfl Tryd.func17 (by kernel_rfl) rfl #[.slice A0 l0.length c0] rfl (by (try simp only [List.map_toArray, List.map_cons, List.map_nil]); first | done | rfl | (simp only [List.length_drop, List.length_take]; rfl)) ?_; (with_reducible refine (token_Escape.calls _ _ l0 t103 _ ?side1 ?side2 A10.out).mono ?_); (case side1 => repeat (first | exact (Kd.C_below HR0.out HB.out) | (with_reducible refine Kd.C_alloc ?_ _) | (with_reducible refine Kd.C_drewN ?_ _) | (with_reducible refine Kd.C_drew ?_))); (case side2 => exact HC0.out); rintro e w74 ⟨rfl, hb⟩; refine ⟨_, rfl, ?_⟩; have n0_ := Aside0.mk (below_step (by repeat (first | (with_reducible first | exact HB.out | apply below_alloc | apply pw_below_drewN | apply below_drew1) | exact HB.out)) hb); clear HB; have HB := n0_; clear n0_; (try clear hb); (try clear hb2); (try clear hk); (try clear hi); have hcv75 := Kd.C_string (P := Tryd.prog) (A := A0) (c := c0) Tryd.underlying22 Tryd.underlying5 Tryd.underlying9 (Kd.C_below HR0.out HB.out)) | ((with_reducible refine gate_callee (f := 18) rfl ?_); refine goesL_ (some 21) rfl rfl Tryd.func18 (by kernel_rfl) rfl #[.string (strOfNums l0)] rfl (by (try simp only [List.map_toArray, List.map_cons, List.map_nil]); first | done | rfl | (simp only [List.length_drop, List.length_take]; rfl)) ?_; (with_reducible refine (paronymref25_Escaped.calls kj1 (strOfNums l0) t104 _ A11.out).mono ?_); rintro e w76 ⟨rfl, hb⟩; refine ⟨_, rfl, ?_⟩; have n0_ := Aside0.mk (below_step (by repeat (first | (with_reducible first | exact HB.out | apply below_alloc | apply pw_below_drewN | apply below_drew1) | exact HB.out)) hb); clear HB; have HB := n0_; clear n0_; (try clear hb); (try clear hb2); (try clear hk); (try clear hi)) | ((with_reducible refine gate_callee (f := 19) rfl ?_); refine goesL_ (some 25) rfl rfl Tryd.func19 (by kernel_rfl) rfl #[.string t103] rfl (by (try simp only [List.map_toArray, List.map_cons, List.map_nil]); first | done | rfl | (simp only [List.length_drop, List.length_take]; rfl)) ?_; (with_reducible refine (token_Plain.calls kj1 t103 t105 t106 _ A13.out).mono ?_); rintro e w77 ⟨v107, rfl, ho0, hb⟩; refine ⟨_, rfl, ?_⟩; have n0_ := Aside0.mk (Kd.R_lower ho0 (below_size (by repeat (first | (with_reducible first | exact HB.out | apply below_alloc | apply pw_below_drewN | apply below_drew1) | exact HB.out)))); have n1_ := Aside0.mk (below_step (by repeat (first | (with_reducible first | exact HB.out | apply below_alloc | apply pw_below_drewN | apply below_drew1) | exact HB.out)) hb); clear HB; have HO108 := n0_; have HB := n1_; clear n0_ n1_; (try clear hb); (try clear hb2); (try clear hk); (try clear hi); (try clear ho0)) | ((with_reducible refine gate_dst (N := 40) rfl ?_); (try (refine gate_guard (by rfl) ?_; dsimp only)); refine bytesOf.step 9 22 5 _ (t103 ++ (⟨#[32, 120]⟩ : ByteArray)) t109 A25.out rfl rfl rfl Tryd.underlying9 Tryd.underlying22 Tryd.underlying5 ?_; intro v110 w78 ho0 hb; have n0_ := Aside0.mk (Kd.R_below (by (with_reducible repeat (first | apply Kd.R_alloc | apply Kd.R_drewN | apply Kd.R_drew)); exact HO108.out) hb); have n1_ := Aside0.mk (Kd.V_lower (Kd.V_mono (ok' := fun k_ => some k_ ≠ (v107 : Value).ownBlock) ho0 (fun k_ hk_ => (Kd.fresh' (Kd.R_lt (by (with_reducible repeat (first | apply Kd.R_alloc | apply Kd.R_drewN | apply Kd.R_drew)); exact HO108.out)) k_ hk_))) (below_size (by repeat (first | (with_reducible first | exact HB.out | apply below_alloc | apply pw_below_drewN | apply below_drew1) | exact HB.out)))); have n2_ := Aside0.mk (below_step (by repeat (first | (with_reducible first | exact HB.out | apply below_alloc | apply pw_below_drewN | apply below_drew1) | exact HB.out)) hb); clear HO108; clear HB; have HO108 := n0_; have HO111 := n1_; have HB := n2_; clear n0_ n1_ n2_; (try clear hb); (try clear hb2); (try clear hk); (try clear hi); (try clear ho0); obtain ⟨Ao79, co79, eo79⟩ := Kd.V_slice HO111.out; subst eo79) | ((with_reducible refine gate_callee (f := 14) rfl ?_); refine goesL_ (some 41) rfl rfl Tryd.func14 (by kernel_rfl) rfl #[.slice Ao79 t109.length co79] rfl (by (try simp only [List.map_toArray, List.map_cons, List.map_nil]); first | done | rfl | (simp only [List.length_drop, List.length_take]; rfl)) ?_; (with_reducible refine (token_Split.calls kj1 _ _ t109 t112 t113 _ ?side1 ?side2 A26.out).mono ?_); (case side1 => repeat (first | exact (Kd.V_reads' HO111.out).2.2 | (with_reducible refine Kd.C_alloc ?_ _) | (with_reducible refine Kd.C_drewN ?_ _) | (with_reducible refine Kd.C_drew ?_))); (case side2 => exact (Kd.V_reads' HO111.out).2.1); rintro e w80 ⟨v114, rfl, ho0, hb⟩; refine ⟨_, rfl, ?_⟩; have n0_ := Aside0.mk (Kd.R_below (by (with_reducible repeat (first | apply Kd.R_alloc | apply Kd.R_drewN | apply Kd.R_drew)); exact HO108.out) hb); have n1_ := Aside0.mk (Kd.V_elder' (by (with_reducible repeat (first | apply Kd.V_alloc | apply Kd.V_drewN | apply Kd.V_drew)); exact HO111.out) (Kd.R_base ho0) hb); have n2_ := Aside0.mk (Kd.R_lower ho0 (below_size (by repeat (first | (with_reducible first | exact HB.out | apply below_alloc | apply pw_below_drewN | apply below_drew1) | exact HB.out)))); have n3_ := Aside0.mk (below_step (by repeat (first | (with_reducible first | exact HB.out | apply below_alloc | apply pw_below_drewN | apply below_drew1) | exact HB.out)) hb); clear HO108; clear HO111; clear HB; have HO108 := n0_; have HO111 := n1_; have HO115 := n2_; have HB := n3_; clear n0_ n1_ n2_ n3_; (try clear hb); (try clear hb2); (try clear hk); (try clear hi); (try clear ho0)))
                go_ret
                exact ⟨by first | rfl | (simp [errW_none, errW_some] <;> rfl) | (simp [*, errW_none, errW_some] <;> rfl), by repeat (first | (with_reducible first | exact HB.out | apply below_alloc | apply pw_below_drewN | apply below_drew1) | exact HB.out)⟩
            · rw [if_neg c24] at H
              exact absurd H (by simp)
        · rw [if_neg c12] at H
          have c12b0 : (t103.toList == t104.toList) = false := beq_eq_false_iff_ne.mpr c12
          have c12b1 : (t103.toList != t104.toList) = true := bne_iff_ne.mpr c12
          obtain rfl := Option.some.inj H
          go_wp2_with (first | ((with_reducible refine gate_callee (f := 17) rfl ?_); refine goesL_ (some 17) rfl rfl Tryd.func17 (by kernel_rfl) rfl #[.slice A0 l0.length c0] rfl (by (try simp only [List.map_toArray, List.map_cons, List.map_nil]); first | done | rfl | (simp only [List.length_drop, List.length_take]; rfl)) ?_; (with_reducible refine (token_Escape.calls _ _ l0 t103 _ ?side1 ?side2 A10.out).mono ?_); (case side1 => repeat (first | exact (Kd.C_below HR0.out HB.out) | (with_reducible refine Kd.C_alloc ?_ _) | (with_reducible refine Kd.C_drewN ?_ _) | (with_reducible refine Kd.C_drew ?_))); (case side2 => exact HC0.out); rintro e w81 ⟨rfl, hb⟩; refine ⟨_, rfl, ?_⟩; have n0_ := Aside0.mk (below_step (by repeat (first | (with_reducible first | exact HB.out | apply below_alloc | apply pw_below_drewN | apply below_drew1) | exact HB.out)) hb); clear HB; have HB := n0_; clear n0_; (try clear hb); (try clear hb2); (try clear hk); (try clear hi); have hcv82 := Kd.C_string (P := Tryd.prog) (A := A0) (c := c0) Tryd.underlying22 Tryd.underlying5 Tryd.underlying9 (Kd.C_below HR0.out HB.out)) | ((with_reducible refine gate_callee (f := 18) rfl ?_); refine goesL_ (some 21) rfl rfl Tryd.func18 (by kernel_rfl) rfl #[.string (strOfNums l0)] rfl (by (try simp only [List.map_toArray, List.map_cons, List.map_nil]); first | done | rfl | (simp only [List.length_drop, List.length_take]; rfl)) ?_; (with_reducible refine (paronymref25_Escaped.calls kj1 (strOfNums l0) t104 _ A11.out).mono ?_); rintro e w83 ⟨rfl, hb⟩; refine ⟨_, rfl, ?_⟩; have n0_ := Aside0.mk (below_step (by repeat (first | (with_reducible first | exact HB.out | apply below_alloc | apply pw_below_drewN | apply below_drew1) | exact HB.out)) hb); clear HB; have HB := n0_; clear n0_; (try clear hb); (try clear hb2); (try clear hk); (try clear hi)))
          go_ret
          exact ⟨by first | rfl | (simp [errW_none, errW_some] <;> rfl) | (simp [*, errW_none, errW_some] <;> rfl), by repeat (first | (with_reducible first | exact HB.out | apply below_alloc | apply pw_below_drewN | apply below_drew1) | exact HB.out)⟩

/-- THE ONE PURE STATEMENT of paronymlaw25_TokenBack: yours. -/
def paronymlaw25_TokenBack.Pure : Prop := ∀ (l0 : List Int), l0.length ≤ maxLen → l0.length * 1 ≤ 140737488351232 → (∀ x ∈ l0, (Lit.int .u8 x).wf = true) → ∃ k, paronymlaw25_TokenBack.f k l0 = some true
theorem paronymlaw25_TokenBack.walk (P : paronymlaw25_TokenBack.Pure) (a0 : Option Addr) (len0 cap0 : Nat) (z0 : List Int) (w : World) (w0 : (a0 = none ∧ len0 = 0 ∧ cap0 = 0 ∧ z0 = []) ∨ ∃ x, a0 = some x ∧ len0 ≤ cap0 ∧ cap0 ≤ maxLen ∧ z0.length = cap0 ∧ (∀ i, i < z0.length → w.cell? (x.add i) = some (.int .u8 (z0.getD i 0))) ∧ ∀ n ∈ z0, (Lit.int .u8 n).wf = true) (y0 : len0 * 1 ≤ 140737488351232) :
    Calls Tryd.prog 4 #[.slice a0 len0 cap0] w fun e w' => e = .returned (.bool true) ∧ Below w.heap.size w w' := by
  obtain ⟨l0, rfl, hr0, hm0, hw0, hc0⟩ := ReadsInt.ofRowC w0
  obtain ⟨k, h⟩ := P l0 hm0 y0 hw0
  refine (paronymlaw25_TokenBack.calls k _ _ l0 true w (Kd.C_of_reads (d := (0 : Int)) (h1 := fun _ => rfl) hr0) hc0 h).mono ?_
  rintro e w' ⟨rfl, hd⟩
  exact ⟨rfl, hd⟩

end Go.Proofs.YtdnfmilnkoocdaaDoor.Q

-- from K
/- Small lemmas on lists, octets and rounds, for the plain laws of this seat. No condition. -/
namespace Go.Proofs.YtdnfmilnkoocdaaDoor.K
set_option linter.unusedVariables false
set_option linter.unusedSimpArgs false
open Go.RowKit Go.Proofs.YtdnfmilnkoocdaaDoorW.PrintWords

theorem w64 {n : Int} (h0 : -9223372036854775808 ≤ n) (h1 : n ≤ 9223372036854775807) : wrap64 n = n := by unfold wrap64; omega
theorem rd_nat (l : List Int) (i : Nat) (h : i < l.length) : rd l (i : Int) = l[i] := by
  unfold rd; simp [List.getD_eq_getElem?_getD, List.getElem?_eq_getElem h]
theorem rd_mem {l : List Int} {i : Int} (h0 : 0 ≤ i) (h1 : i < (l.length : Int)) : rd l i ∈ l := by
  obtain ⟨n, rfl⟩ := Int.eq_ofNat_of_zero_le h0
  rw [rd_nat l n (by omega)]
  exact List.getElem_mem _
theorem rd_append_left {l m : List Int} {i : Int} (h0 : 0 ≤ i) (h1 : i < (l.length : Int)) : rd (l ++ m) i = rd l i := by
  unfold rd
  simp only [List.getD_eq_getElem?_getD]
  rw [List.getElem?_append_left (by omega)]
theorem rd_append_right {l m : List Int} {i : Int} (h0 : (l.length : Int) ≤ i) : rd (l ++ m) i = rd m (i - l.length) := by
  unfold rd
  simp only [List.getD_eq_getElem?_getD]
  rw [List.getElem?_append_right (by omega)]
  congr 2
  omega
theorem rd_map {f : Int → Int} {l : List Int} {i : Int} (h0 : 0 ≤ i) (h1 : i < (l.length : Int)) : rd (l.map f) i = f (rd l i) := by
  obtain ⟨n, rfl⟩ := Int.eq_ofNat_of_zero_le h0
  rw [rd_nat _ n (by simpa using h1), rd_nat l n (by omega)]
  simp
theorem rd_cons_zero (x : Int) (l : List Int) : rd (x :: l) 0 = x := rfl
theorem rd_drop {l : List Int} {n : Nat} {i : Int} (h0 : 0 ≤ i) : rd (l.drop n) i = rd l (n + i) := by
  unfold rd
  simp only [List.getD_eq_getElem?_getD, List.getElem?_drop]
  congr 2
  omega
theorem rd_take {l : List Int} {n : Nat} {i : Int} (h0 : 0 ≤ i) (h1 : i < (n : Int)) : rd (l.take n) i = rd l i := by
  unfold rd
  simp only [List.getD_eq_getElem?_getD]
  rw [List.getElem?_take_of_lt (by omega)]
theorem take_snoc (l : List Int) (i : Nat) (h : i < l.length) : l.take (i + 1) = l.take i ++ [rd l (i : Int)] := by
  rw [rd_nat l i h, List.take_succ_eq_append_getElem h]
theorem drop_cons (l : List Int) (i : Nat) (h : i < l.length) : l.drop i = rd l (i : Int) :: l.drop (i + 1) := by
  rw [rd_nat l i h, List.drop_eq_getElem_cons h]

/-! octets -/
def Oct (l : List Int) : Prop := ∀ x ∈ l, 0 ≤ x ∧ x ≤ 255
theorem oct_of_wf {l : List Int} (h : ∀ x ∈ l, (Lit.int .u8 x).wf = true) : Oct l := fun x hx => by
  have := h x hx
  simp only [Lit.wf, Bool.and_eq_true, decide_eq_true_eq] at this
  have e1 : IntKind.u8.min = 0 := rfl
  have e2 : IntKind.u8.max = 255 := rfl
  omega
theorem i64_of_wf {x : Int} (h : (Lit.int .i64 x).wf = true) : -9223372036854775808 ≤ x ∧ x ≤ 9223372036854775807 := by
  simp only [Lit.wf, Bool.and_eq_true, decide_eq_true_eq] at h
  have e1 : IntKind.i64.min = -9223372036854775808 := rfl
  have e2 : IntKind.i64.max = 9223372036854775807 := rfl
  omega
theorem u8_of_wf {x : Int} (h : (Lit.int .u8 x).wf = true) : 0 ≤ x ∧ x ≤ 255 := by
  simp only [Lit.wf, Bool.and_eq_true, decide_eq_true_eq] at h
  have e1 : IntKind.u8.min = 0 := rfl
  have e2 : IntKind.u8.max = 255 := rfl
  omega
theorem Oct.map {l : List Int} {f : Int → Int} (h : ∀ x, 0 ≤ x → x ≤ 255 → 0 ≤ f x ∧ f x ≤ 255) (hl : Oct l) : Oct (l.map f) := fun y hy => by
  obtain ⟨x, hx, rfl⟩ := List.mem_map.1 hy
  exact h x (hl x hx).1 (hl x hx).2
theorem Oct.append {l m : List Int} (h : Oct l) (k : Oct m) : Oct (l ++ m) := fun x hx => by
  rcases List.mem_append.1 hx with hx | hx
  · exact h x hx
  · exact k x hx
theorem Oct.take {l : List Int} (h : Oct l) (n : Nat) : Oct (l.take n) := fun x hx => h x (List.mem_of_mem_take hx)
theorem Oct.drop {l : List Int} (h : Oct l) (n : Nat) : Oct (l.drop n) := fun x hx => h x (List.mem_of_mem_drop hx)
theorem Oct.rd {l : List Int} (h : Oct l) {i : Int} (h0 : 0 ≤ i) (h1 : i < (l.length : Int)) : 0 ≤ rd l i ∧ rd l i ≤ 255 := h _ (rd_mem h0 h1)
theorem u8_back {x : Int} (h : 0 ≤ x ∧ x ≤ 255) : ((UInt8.ofNat x.toNat).toNat : Int) = x := by
  simp only [UInt8.toNat_ofNat']
  omega
theorem bt_str {l : List Int} (h : Oct l) {i : Int} (h0 : 0 ≤ i) (h1 : i < (l.length : Int)) : bt (strOfNums l) i = rd l i := by
  obtain ⟨n, rfl⟩ := Int.eq_ofNat_of_zero_le h0
  have hn : n < l.length := by omega
  have hs : n < (strOfNums l).size := by rw [strOfNums_size]; exact hn
  have hb := h.rd h0 h1
  rw [rd_nat l n hn] at hb ⊢
  unfold bt
  simp only [Int.toNat_natCast, hs, dif_pos]
  have : (strOfNums l)[n] = UInt8.ofNat (l[n]).toNat := by
    show (strOfNums l).data[n] = _
    simp [strOfNums]
  rw [this]
  exact u8_back hb
theorem size_str (l : List Int) : (strOfNums l).size = l.length := strOfNums_size l
theorem str_inj {l m : List Int} (hl : Oct l) (hm : Oct m) (h : strOfNums l = strOfNums m) : l = m := by
  have hlen : l.length = m.length := by rw [← size_str l, ← size_str m, h]
  apply List.ext_getElem hlen
  intro i h1 h2
  have a := bt_str hl (i := (i : Int)) (by omega) (by omega)
  have b := bt_str hm (i := (i : Int)) (by omega) (by omega)
  rw [rd_nat l i h1] at a
  rw [rd_nat m i h2] at b
  rw [← a, ← b, h]
theorem ba_toList (s : ByteArray) : s.toList = s.data.toList := ByteArray.toList_eq s
theorem toList_inj {s t : ByteArray} (h : s.toList = t.toList) : s = t := by
  rw [ba_toList, ba_toList] at h
  cases s; cases t
  simp at h
  exact congrArg _ h
theorem toList_eq_iff {s t : ByteArray} : s.toList = t.toList ↔ s = t := ⟨toList_inj, fun h => by rw [h]⟩
theorem str_append (l m : List Int) : strOfNums l ++ strOfNums m = strOfNums (l ++ m) := by
  apply toList_inj
  rw [ba_toList, ba_toList]
  simp [strOfNums]
theorem bytesOf_str {l : List Int} (h : Oct l) : Go.Proofs.YtdnfmilnkoocdaaDoorW.PrintWords.bytesOf (strOfNums l) = l := by
  unfold Go.Proofs.YtdnfmilnkoocdaaDoorW.PrintWords.bytesOf
  rw [strOfNums_data, List.map_map]
  conv => rhs; rw [← List.map_id l]
  apply List.map_congr_left
  intro x hx
  exact u8_back (h x hx)
theorem oct_bytesOf (s : ByteArray) : Oct (Go.Proofs.YtdnfmilnkoocdaaDoorW.PrintWords.bytesOf s) := fun x hx => by
  unfold Go.Proofs.YtdnfmilnkoocdaaDoorW.PrintWords.bytesOf at hx
  obtain ⟨b, _, rfl⟩ := List.mem_map.1 hx
  have := b.toNat_lt
  omega
theorem str_bytesOf (s : ByteArray) : strOfNums (Go.Proofs.YtdnfmilnkoocdaaDoorW.PrintWords.bytesOf s) = s := by
  unfold Go.Proofs.YtdnfmilnkoocdaaDoorW.PrintWords.bytesOf strOfNums
  cases s with
  | mk a =>
    congr 1
    apply Array.ext'
    simp [Function.comp_def]
theorem extract_str {l : List Int} {a b : Nat} : (strOfNums l).extract a b = strOfNums ((l.take b).drop a) := by
  apply toList_inj
  rw [ba_toList, ba_toList]
  rw [ByteArray.data_extract]
  simp [strOfNums, List.map_drop, List.map_take, List.drop_take]

/-! rounds -/
theorem Ev.pos {α : Type} {c : Prop} [Decidable c] {f g : Nat → Option α} {r : α} (h : c) (k : Ev f r) : Ev (fun n => if c then f n else g n) r := Ev.congr (fun _ => if_pos h) k
theorem Ev.neg {α : Type} {c : Prop} [Decidable c] {f g : Nat → Option α} {r : α} (h : ¬ c) (k : Ev g r) : Ev (fun n => if c then f n else g n) r := Ev.congr (fun _ => if_neg h) k
theorem Ev.bindS {α β : Type} {o : Option α} {f : Nat → α → Option β} {a : α} {r : β} (h : o = some a) (k : Ev (fun n => f n a) r) : Ev (fun n => o.bind (f n)) r := by
  subst h; exact k
theorem Ev.ret {α : Type} {a r : α} (h : a = r) : Ev (fun _ => some a) r := by subst h; exact Ev.now _
theorem Ev.val {α : Type} {o : Option α} {r : α} (h : o = some r) : Ev (fun _ => o) r := ⟨0, fun _ _ => h⟩

/-- 'slices.IndexFunc', as it is printed at a function value: the place of the first element that the predicate takes, or -1. -/
def firstAt (q : Int → Bool) : List Int → Int → Int
  | [], _ => -1
  | x :: l, i => if q x = true then i else firstAt q l (i + 1)
theorem index_loop {p : Int → Option Bool} {q : Int → Bool} {l : Nat → List Int → Int → Int → Option Int}
    (hl : ∀ k x n i, l (k + 1) x n i = if i < n then (if 0 ≤ i then (if i < (x.length : Int) then ((p (rd x i)).bind fun t => (if t = true then (some i) else (l k x n (wrap64 (i + 1))))) else none) else none) else some (-1))
    (x : List Int) (hx : x.length ≤ 9223372036854775806) (hp : ∀ y ∈ x, p y = some (q y)) : ∀ (d i : Nat), x.length - i = d → i ≤ x.length → Ev (fun k => l k x (x.length : Int) (i : Int)) (firstAt q (x.drop i) i) := by
  intro d
  induction d with
  | zero =>
    intro i h1 h2
    have : i = x.length := by omega
    subst this
    refine Ev.step (fun k => hl k _ _ _) (Ev.neg (by omega) ?_)
    simp only [List.drop_length, firstAt]
    exact Ev.now _
  | succ d ih =>
    intro i h1 h2
    have hi : i < x.length := by omega
    refine Ev.step (fun k => hl k _ _ _) (Ev.pos (by omega) (Ev.pos (by omega) (Ev.pos (by omega) (Ev.bindS (hp _ (rd_mem (by omega) (by omega))) ?_))))
    rw [drop_cons x i hi]
    simp only [firstAt]
    by_cases hq : q (rd x i) = true
    · rw [if_pos hq]
      exact Ev.pos hq (Ev.now _)
    · rw [if_neg hq]
      refine Ev.neg hq ?_
      have := ih (i + 1) (by omega) (by omega)
      rw [w64 (by omega) (by omega)]
      exact this
theorem firstAt_any (q : Int → Bool) : ∀ (l : List Int) (i : Int), 0 ≤ i → decide (firstAt q l i ≥ 0) = l.any q
  | [], _, _ => by simp [firstAt]
  | x :: l, i, h => by
    by_cases hq : q x = true
    · simp [firstAt, hq, h]
    · have ih := firstAt_any q l (i + 1) (by omega)
      simp only [Bool.not_eq_true] at hq
      simp [firstAt, hq]
      simpa using ih
/-- 'slices.ContainsFunc' at a function value. -/
theorem contains_ev {p : Int → Option Bool} {q : Int → Bool} {l : Nat → List Int → Int → Int → Option Int}
    (hl : ∀ k x n i, l (k + 1) x n i = if i < n then (if 0 ≤ i then (if i < (x.length : Int) then ((p (rd x i)).bind fun t => (if t = true then (some i) else (l k x n (wrap64 (i + 1))))) else none) else none) else some (-1))
    (x : List Int) (hx : x.length ≤ 9223372036854775806) (hp : ∀ y ∈ x, p y = some (q y)) : Ev (fun k => (l k x (x.length : Int) 0).bind fun t => some (decide (t ≥ 0))) (x.any q) := by
  have h := index_loop hl x hx hp x.length 0 (by omega) (by omega)
  refine Ev.bind h (Ev.ret ?_)
  rw [firstAt_any q _ _ (by simp)]
  simp

end Go.Proofs.YtdnfmilnkoocdaaDoor.K

-- from Ptok
/- Words of a line: the list functions, and what a blank between two lines does. -/
namespace Go.Proofs.YtdnfmilnkoocdaaDoor.K
set_option linter.unusedVariables false
set_option linter.unusedSimpArgs false
open Go.RowKit Go.Proofs.YtdnfmilnkoocdaaDoorW.PrintWords

def dig (c : Int) : Bool := decide (48 ≤ c ∧ c ≤ 57)
def blank (c : Int) : Bool := decide (c = 32 ∨ c = 9)
def sep (c : Int) : Bool := decide (c = 32 ∨ c = 9 ∨ c = 59)
/-- How many octets an escape has with which a list begins; 0: it is none. -/
def escL : List Int → Nat
  | _ :: c1 :: c2 :: c3 :: _ => if dig c1 = true then (if dig c2 = true ∧ dig c3 = true ∧ (c1 - 48) * 100 + (c2 - 48) * 10 + (c3 - 48) ≤ 255 then 4 else 0) else 2
  | _ :: c1 :: _ => if dig c1 = true then 0 else 2
  | _ => 0
def bump : Sum Int Nat → Sum Int Nat
  | .inl e => .inl e
  | .inr n => .inr (n + 1)
def scan (q : Bool) : Nat → List Int → Sum Int Nat
  | _, [] => if q = true then .inl 61 else .inr 0
  | k + 1, _ :: t => bump (scan q k t)
  | 0, c :: t =>
    if c = 92 then (if escL (c :: t) = 0 then .inl 60 else bump (scan q (escL (c :: t) - 1) t))
    else if q = true ∧ c = 34 then (match t with | [] => .inr 1 | d :: _ => if sep d = true then .inr 1 else .inl 61)
    else if c = 34 then .inl 61
    else if q = false ∧ (c = 40 ∨ c = 41) then .inl 11
    else if q = false ∧ sep c = true then .inr 0
    else bump (scan q 0 t)
def wordL : List Int → Sum Int Nat
  | [] => .inr 0
  | c :: u => if c = 34 then bump (scan true 0 u) else scan false 0 (c :: u)
def push (w : List Int) : Sum Int (List (List Int)) → Sum Int (List (List Int))
  | .inl e => .inl e
  | .inr l => .inr (w :: l)
/-- The words of a line, or its first error. -/
inductive Spl : List Int → Sum Int (List (List Int)) → Prop
  | nil {L : List Int} : L.dropWhile blank = [] → Spl L (.inr [])
  | rem {L u : List Int} : L.dropWhile blank = 59 :: u → Spl L (.inr [])
  | err {L u : List Int} {c e : Int} : L.dropWhile blank = c :: u → c ≠ 59 → wordL (c :: u) = .inl e → Spl L (.inl e)
  | more {L u : List Int} {c : Int} {n : Nat} {r : Sum Int (List (List Int))} : L.dropWhile blank = c :: u → c ≠ 59 → wordL (c :: u) = .inr n → Spl ((c :: u).drop n) r → Spl L (push ((c :: u).take n) r)

theorem wordL_cons (c : Int) (u : List Int) : wordL (c :: u) = if c = 34 then bump (scan true 0 u) else scan false 0 (c :: u) := rfl
theorem bump_inr {x : Sum Int Nat} {n : Nat} (h : bump x = .inr n) : ∃ m, x = .inr m ∧ n = m + 1 := by
  cases x with
  | inl e => cases h
  | inr m => exact ⟨m, rfl, by injection h with h; omega⟩
theorem bump_inl {x : Sum Int Nat} {e : Int} (h : bump x = .inl e) : x = .inl e := by
  cases x with
  | inl e' => injection h with h; rw [h]
  | inr m => cases h
theorem escL_2 (a b : Int) : escL [a, b] = if dig b = true then 0 else 2 := rfl
theorem escL_3 (a b c : Int) : escL [a, b, c] = if dig b = true then 0 else 2 := rfl
theorem escL_4 (a b c d : Int) (r : List Int) : escL (a :: b :: c :: d :: r) = (if dig b = true then (if dig c = true ∧ dig d = true ∧ (b - 48) * 100 + (c - 48) * 10 + (d - 48) ≤ 255 then 4 else 0) else 2) := rfl
theorem escL_nz {t : List Int} (h : escL t ≠ 0) : escL t ≤ t.length ∧ 2 ≤ escL t := by
  match t with
  | [] => exact absurd rfl h
  | [_] => exact absurd rfl h
  | [a, b] => unfold escL at h ⊢; split at h <;> simp_all
  | [a, b, c] => unfold escL at h ⊢; split at h <;> simp_all
  | a :: b :: c :: d :: r =>
    have e : escL (a :: b :: c :: d :: r) = (if dig b = true then (if dig c = true ∧ dig d = true ∧ (b - 48) * 100 + (c - 48) * 10 + (d - 48) ≤ 255 then 4 else 0) else 2) := rfl
    rw [e] at h ⊢
    by_cases h1 : dig b = true
    · rw [if_pos h1] at h ⊢
      by_cases h2 : dig c = true ∧ dig d = true ∧ (b - 48) * 100 + (c - 48) * 10 + (d - 48) ≤ 255
      · rw [if_pos h2]; simp
      · rw [if_neg h2] at h; exact absurd rfl h
    · rw [if_neg h1]; simp
theorem escL_app {t r : List Int} (h : escL t ≠ 0) : escL (t ++ r) = escL t := by
  match t with
  | [] => exact absurd rfl h
  | [_] => exact absurd rfl h
  | [a, b] =>
    have hb : ¬ dig b = true := fun hb => h (by rw [escL_2, if_pos hb])
    match r with
    | [] => rfl
    | [c] => show escL [a, b, c] = _; rw [escL_2, escL_3]
    | c :: d :: r => show escL (a :: b :: c :: d :: r) = _; rw [escL_2, escL_4, if_neg hb, if_neg hb]
  | [a, b, c] =>
    have hb : ¬ dig b = true := fun hb => h (by rw [escL_3, if_pos hb])
    match r with
    | [] => rfl
    | d :: r => show escL (a :: b :: c :: d :: r) = _; rw [escL_3, escL_4, if_neg hb, if_neg hb]
  | a :: b :: c :: d :: r' => rfl
theorem dig32 : dig 32 = false := by decide
theorem escL_bad {c : Int} {t b : List Int} (h : escL (c :: t) = 0) (hne : t ≠ []) : escL (c :: t ++ 32 :: b) = 0 := by
  match t with
  | [] => exact absurd rfl hne
  | [x] =>
    have hx : dig x = true := by
      by_cases hx : dig x = true
      · exact hx
      · exfalso; rw [escL_2, if_neg hx] at h; omega
    match b with
    | [] => show escL [c, x, 32] = 0; rw [escL_3, if_pos hx]
    | y :: b => show escL (c :: x :: 32 :: y :: b) = 0; rw [escL_4, if_pos hx, if_neg (by simp [dig32])]
  | [x, y] =>
    have hx : dig x = true := by
      by_cases hx : dig x = true
      · exact hx
      · exfalso; rw [escL_3, if_neg hx] at h; omega
    show escL (c :: x :: y :: 32 :: b) = 0
    rw [escL_4, if_pos hx, if_neg (by simp [dig32])]
  | x :: y :: z :: t => exact h

theorem scan_le (q : Bool) : ∀ (t : List Int) (k n : Nat), scan q k t = .inr n → n ≤ t.length
  | [], k, n, h => by
    unfold scan at h
    split at h
    · cases h
    · injection h with h; omega
  | c :: t, k + 1, n, h => by
    unfold scan at h
    obtain ⟨m, h1, rfl⟩ := bump_inr h
    have := scan_le q t k m h1
    simp; omega
  | c :: t, 0, n, h => by
    unfold scan at h
    split at h
    · split at h
      · cases h
      · obtain ⟨m, h1, rfl⟩ := bump_inr h
        have := scan_le q t _ m h1
        simp; omega
    split at h
    · split at h
      · injection h with h; simp; omega
      · split at h
        · injection h with h; simp; omega
        · cases h
    split at h
    · cases h
    split at h
    · cases h
    split at h
    · injection h with h; omega
    · obtain ⟨m, h1, rfl⟩ := bump_inr h
      have := scan_le q t _ m h1
      simp; omega
theorem wordL_le {L : List Int} {n : Nat} (h : wordL L = .inr n) : n ≤ L.length := by
  cases L with
  | nil => injection h with h; omega
  | cons c u =>
    rw [wordL_cons] at h
    split at h
    · obtain ⟨m, h1, rfl⟩ := bump_inr h
      have := scan_le _ _ _ _ h1
      simp; omega
    · exact scan_le _ _ _ _ h
theorem wordL_pos {c : Int} {u : List Int} {n : Nat} (h : wordL (c :: u) = .inr n) (hb : blank c = false) (h9 : c ≠ 59) : 1 ≤ n := by
  rw [wordL_cons] at h
  split at h
  · obtain ⟨m, h1, rfl⟩ := bump_inr h; omega
  · rename_i h34
    unfold scan at h
    split at h
    · split at h
      · cases h
      · obtain ⟨m, h1, rfl⟩ := bump_inr h; omega
    try rw [if_neg (fun hh => h34 hh.2)] at h
    try rw [if_neg h34] at h
    split at h
    · cases h
    split at h
    · rename_i hs
      exfalso
      have h1 := of_decide_eq_true hs.2
      have h2 := of_decide_eq_false hb
      omega
    · obtain ⟨m, h1, rfl⟩ := bump_inr h; omega
theorem scan_err (q : Bool) : ∀ (t : List Int) (k : Nat) (e : Int), scan q k t = .inl e → e = 60 ∨ e = 61 ∨ e = 11
  | [], k, e, h => by
    unfold scan at h
    split at h
    · injection h with h; omega
    · cases h
  | c :: t, k + 1, e, h => by
    unfold scan at h
    exact scan_err q t k e (bump_inl h)
  | c :: t, 0, e, h => by
    unfold scan at h
    split at h
    · split at h
      · injection h with h; omega
      · exact scan_err q t _ e (bump_inl h)
    split at h
    · split at h
      · cases h
      · split at h
        · cases h
        · injection h with h; omega
    split at h
    · injection h with h; omega
    split at h
    · injection h with h; omega
    split at h
    · cases h
    · exact scan_err q t _ e (bump_inl h)
theorem wordL_err {L : List Int} {e : Int} (h : wordL L = .inl e) : e = 60 ∨ e = 61 ∨ e = 11 := by
  cases L with
  | nil => cases h
  | cons c u =>
    rw [wordL_cons] at h
    split at h
    · exact scan_err _ _ _ _ (bump_inl h)
    · exact scan_err _ _ _ _ h
theorem Spl.err_is {L : List Int} {r : Sum Int (List (List Int))} (h : Spl L r) : ∀ e, r = .inl e → e = 60 ∨ e = 61 ∨ e = 11 := by
  induction h with
  | nil _ => intro e h; cases h
  | rem _ => intro e h; cases h
  | err _ _ h => intro e he; injection he with he; rw [← he]; exact wordL_err h
  | @more L u c n r _ _ _ _ ih =>
    intro e h
    cases r with
    | inl e' => injection h with h; exact ih e (by rw [h])
    | inr l => cases h

theorem dropWhile_len (p : Int → Bool) : ∀ l : List Int, (l.dropWhile p).length ≤ l.length
  | [] => Nat.le_refl _
  | x :: l => by
    rw [List.dropWhile_cons]
    split
    · have := dropWhile_len p l; simp; omega
    · exact Nat.le_refl _
theorem dropWhile_head {p : Int → Bool} : ∀ {l u : List Int} {c : Int}, l.dropWhile p = c :: u → p c = false
  | [], u, c, h => by cases h
  | x :: l, u, c, h => by
    rw [List.dropWhile_cons] at h
    split at h
    · exact dropWhile_head h
    · rename_i hx
      injection h with h1 h2
      rw [← h1]
      simpa using hx
theorem dropWhile_suffix {p : Int → Bool} : ∀ (l : List Int), ∃ w, l = w ++ l.dropWhile p
  | [] => ⟨[], rfl⟩
  | x :: l => by
    rw [List.dropWhile_cons]
    split
    · obtain ⟨w, hw⟩ := dropWhile_suffix (p := p) l
      refine ⟨x :: w, ?_⟩
      rw [List.cons_append, ← hw]
    · exact ⟨[], rfl⟩
theorem dropWhile_app_ne {p : Int → Bool} : ∀ {l u r : List Int} {c : Int}, l.dropWhile p = c :: u → (l ++ r).dropWhile p = c :: (u ++ r)
  | [], u, r, c, h => by cases h
  | x :: l, u, r, c, h => by
    rw [List.cons_append, List.dropWhile_cons]
    rw [List.dropWhile_cons] at h
    split
    · rename_i hx
      rw [if_pos hx] at h
      exact dropWhile_app_ne h
    · rename_i hx
      rw [if_neg hx] at h
      injection h with h1 h2
      rw [h1, h2]
theorem dropWhile_app_nil {p : Int → Bool} : ∀ {l r : List Int}, l.dropWhile p = [] → (l ++ r).dropWhile p = r.dropWhile p
  | [], r, _ => rfl
  | x :: l, r, h => by
    rw [List.dropWhile_cons] at h
    split at h
    · rename_i hx
      rw [List.cons_append, List.dropWhile_cons, if_pos hx]
      exact dropWhile_app_nil h
    · cases h
theorem Spl.total : ∀ (n : Nat) (L : List Int), L.length ≤ n → ∃ r, Spl L r := by
  intro n
  induction n with
  | zero =>
    intro L h
    have : L = [] := List.eq_nil_of_length_eq_zero (by omega)
    subst this
    exact ⟨_, .nil rfl⟩
  | succ n ih =>
    intro L h
    have hl := dropWhile_len blank L
    cases hd : L.dropWhile blank with
    | nil => exact ⟨_, .nil hd⟩
    | cons c u =>
      by_cases h9 : c = 59
      · subst h9; exact ⟨_, .rem hd⟩
      cases hw : wordL (c :: u) with
      | inl e => exact ⟨_, .err hd h9 hw⟩
      | inr m =>
        have hp := wordL_pos hw (dropWhile_head hd) h9
        rw [hd] at hl
        obtain ⟨r, hr⟩ := ih ((c :: u).drop m) (by rw [List.length_drop]; omega)
        exact ⟨_, .more hd h9 hw hr⟩
theorem Spl.same {L L' : List Int} {r : Sum Int (List (List Int))} (h : Spl L r) (e : L'.dropWhile blank = L.dropWhile blank) : Spl L' r := by
  cases h with
  | nil h => exact .nil (e.trans h)
  | rem h => exact .rem (e.trans h)
  | err h a b => exact .err (e.trans h) a b
  | more h a b c => exact .more (e.trans h) a b c
theorem Spl.sum {L : List Int} {r : Sum Int (List (List Int))} (h : Spl L r) : ∀ l, r = .inr l → (l.map List.length).sum ≤ L.length := by
  induction h with
  | nil _ => intro l h; injection h with h; subst h; simp
  | rem _ => intro l h; injection h with h; subst h; simp
  | err _ _ _ => intro l h; cases h
  | @more L u c n r hd _ hw _ ih =>
    intro l h
    cases r with
    | inl e => cases h
    | inr l' =>
      injection h with h
      subst h
      have h1 := ih l' rfl
      have h2 := wordL_le hw
      have h3 := dropWhile_len blank L
      rw [hd] at h3
      rw [List.length_drop] at h1
      rw [List.map_cons, List.sum_cons, List.length_take]
      omega

/-! a blank behind -/
theorem scan_app (q : Bool) (b : List Int) : ∀ (t : List Int) (k n : Nat), k ≤ t.length → scan q k t = .inr n → scan q k (t ++ 32 :: b) = .inr n
  | [], k, n, hk, h => by
    obtain rfl : k = 0 := by simpa using hk
    unfold scan at h
    split at h
    · cases h
    rename_i hq
    have hq' : q = false := by simpa using hq
    subst hq'
    injection h with h
    subst h
    rfl
  | c :: t, k + 1, n, hk, h => by
    unfold scan at h
    obtain ⟨m, h1, rfl⟩ := bump_inr h
    rw [List.cons_append, scan, scan_app q b t k m (by simpa using hk) h1]
    rfl
  | c :: t, 0, n, hk, h => by
    rw [List.cons_append]
    unfold scan at h ⊢
    by_cases h92 : c = 92
    · rw [if_pos h92] at h ⊢
      split at h
      · cases h
      rename_i hz
      have ha := escL_app (r := 32 :: b) hz
      rw [List.cons_append] at ha
      rw [ha, if_neg hz]
      obtain ⟨m, h1, rfl⟩ := bump_inr h
      have hle := escL_nz hz
      rw [scan_app q b t _ m (by rw [List.length_cons] at hle; omega) h1]
      rfl
    rw [if_neg h92] at h ⊢
    by_cases hq : q = true ∧ c = 34
    · rw [if_pos hq] at h ⊢
      cases t with
      | nil => exact h
      | cons d t => exact h
    rw [if_neg hq] at h ⊢
    split at h
    · cases h
    rename_i h34
    rw [if_neg h34]
    split at h
    · cases h
    rename_i h40
    rw [if_neg h40]
    split at h
    · rename_i hs
      rw [if_pos hs]
      exact h
    rename_i hs
    rw [if_neg hs]
    obtain ⟨m, h1, rfl⟩ := bump_inr h
    rw [scan_app q b t 0 m (Nat.zero_le _) h1]
    rfl
theorem scan_app_err (b : List Int) (e : Int) : ∀ (t : List Int) (k : Nat), k ≤ t.length → 34 ∉ t → t.getLast? ≠ some 92 → scan false k t = .inl e → scan false k (t ++ 32 :: b) = .inl e
  | [], k, hk, h3, hl, h => by
    unfold scan at h
    cases h
  | c :: t, k + 1, hk, h3, hl, h => by
    unfold scan at h
    have h1 := bump_inl h
    have hne : t ≠ [] := fun e => by subst e; cases h1
    rw [List.cons_append, scan, scan_app_err b e t k (by simpa using hk) (fun hh => h3 (List.mem_cons_of_mem _ hh)) (by rw [List.getLast?_cons_of_ne_nil hne] at hl; exact hl) h1]
    rfl
  | c :: t, 0, hk, h3, hl, h => by
    have h34 : c ≠ 34 := fun hh => h3 (by rw [hh]; exact List.mem_cons_self)
    have tail : ∀ k, k ≤ t.length → scan false k t = .inl e → scan false k (t ++ 32 :: b) = .inl e := fun k hk' h1 => by
      have hne : t ≠ [] := fun e => by subst e; cases h1
      exact scan_app_err b e t k hk' (fun hh => h3 (List.mem_cons_of_mem _ hh)) (by rw [List.getLast?_cons_of_ne_nil hne] at hl; exact hl) h1
    rw [List.cons_append]
    unfold scan at h ⊢
    by_cases h92 : c = 92
    · rw [if_pos h92] at h ⊢
      have hne : t ≠ [] := fun e => by subst e; exact hl (by rw [h92]; rfl)
      by_cases hz : escL (c :: t) = 0
      · rw [if_pos hz] at h
        have := escL_bad (b := b) hz hne
        rw [List.cons_append] at this
        rw [if_pos this]
        exact h
      · rw [if_neg hz] at h
        have ha := escL_app (r := 32 :: b) hz
        rw [List.cons_append] at ha
        rw [ha, if_neg hz]
        have hle := escL_nz hz
        rw [tail _ (by rw [List.length_cons] at hle; omega) (bump_inl h)]
        rfl
    rw [if_neg h92, if_neg (fun hh => h34 hh.2), if_neg h34] at h ⊢
    split at h
    · rename_i h40
      rw [if_pos h40]
      exact h
    rename_i h40
    rw [if_neg h40]
    split at h
    · cases h
    rename_i hs
    rw [if_neg hs, tail 0 (Nat.zero_le _) (bump_inl h)]
    rfl
theorem wordL_app {L b : List Int} {n : Nat} (hne : L ≠ []) (h : wordL L = .inr n) : wordL (L ++ 32 :: b) = .inr n := by
  cases L with
  | nil => exact absurd rfl hne
  | cons c u =>
    rw [wordL_cons] at h
    rw [List.cons_append]
    rw [wordL_cons]
    split at h
    · rename_i h34
      rw [if_pos h34]
      obtain ⟨m, h1, rfl⟩ := bump_inr h
      rw [scan_app true b u 0 m (Nat.zero_le _) h1]
      rfl
    · rename_i h34
      rw [if_neg h34]
      exact scan_app false b (c :: u) 0 n (Nat.zero_le _) h
theorem wordL_app_err {L b : List Int} {e : Int} (h3 : 34 ∉ L) (hl : L.getLast? ≠ some 92) (h : wordL L = .inl e) : wordL (L ++ 32 :: b) = .inl e := by
  cases L with
  | nil => cases h
  | cons c u =>
    rw [wordL_cons] at h
    rw [List.cons_append]
    rw [wordL_cons]
    have h34 : c ≠ 34 := fun hh => h3 (by rw [hh]; exact List.mem_cons_self)
    rw [if_neg h34] at h ⊢
    exact scan_app_err b e (c :: u) 0 (Nat.zero_le _) h3 hl h
def app (l : List (List Int)) : Sum Int (List (List Int)) → Sum Int (List (List Int))
  | .inl e => .inl e
  | .inr m => .inr (l ++ m)
theorem push_app (w : List Int) (l : List (List Int)) (r : Sum Int (List (List Int))) : push w (app l r) = app (w :: l) r := by cases r <;> rfl
theorem Spl.join {a b : List Int} {r rb : Sum Int (List (List Int))} (h : Spl a r) (hb : Spl b rb) : ∀ l, r = .inr l → 59 ∉ a → Spl (a ++ 32 :: b) (app l rb) := by
  induction h with
  | @nil L hd =>
    intro l hr _
    injection hr with hr
    subst hr
    have : app [] rb = rb := by cases rb <;> rfl
    rw [this]
    refine hb.same ?_
    rw [dropWhile_app_nil hd]
    rfl
  | @rem L u hd =>
    intro l hr h9
    exfalso
    obtain ⟨w, hw⟩ := dropWhile_suffix (p := blank) L
    rw [hd] at hw
    exact h9 (by rw [hw]; simp)
  | err _ _ _ => intro l hr; cases hr
  | @more L u c n r hd h9 hw _ ih =>
    intro l hr h59
    cases r with
    | inl e => cases hr
    | inr l' =>
      injection hr with hr
      subst hr
      have hle := wordL_le hw
      have hn9 : 59 ∉ (c :: u).drop n := fun hh => by
        obtain ⟨w, hw'⟩ := dropWhile_suffix (p := blank) L
        rw [hd] at hw'
        exact h59 (by rw [hw']; exact List.mem_append_right _ (List.mem_of_mem_drop hh))
      have h1 := ih l' rfl hn9
      rw [← push_app]
      have e1 : ((c :: u) ++ 32 :: b).drop n = (c :: u).drop n ++ 32 :: b := List.drop_append_of_le_length hle
      have e2 : ((c :: u) ++ 32 :: b).take n = (c :: u).take n := List.take_append_of_le_length hle
      have := Spl.more (L := L ++ 32 :: b) (u := u ++ 32 :: b) (c := c) (n := n) (dropWhile_app_ne hd) h9 (by have := wordL_app (b := b) (by simp) hw; exact this) (by rw [← List.cons_append, e1]; exact h1)
      rw [← List.cons_append, e2] at this
      exact this
theorem getLast_suffix {w l : List Int} (h : l ≠ []) : (w ++ l).getLast? = l.getLast? := by
  rw [List.getLast?_append]
  cases hl : l.getLast? with
  | none => exact absurd (List.getLast?_eq_none_iff.1 hl) h
  | some x => rfl
theorem Spl.nil_is {L : List Int} {r : Sum Int (List (List Int))} (h : Spl L r) (e : L = []) : r = .inr [] := by
  cases h with
  | nil _ => rfl
  | rem _ => rfl
  | err hd _ _ => subst e; cases hd
  | more hd _ _ _ => subst e; cases hd
theorem Spl.join_err {a b : List Int} {r : Sum Int (List (List Int))} (h : Spl a r) : ∀ e, r = .inl e → 34 ∉ a → a.getLast? ≠ some 92 → Spl (a ++ 32 :: b) (.inl e) := by
  induction h with
  | nil _ => intro e hr; cases hr
  | rem _ => intro e hr; cases hr
  | @err L u c e0 hd h9 hw =>
    intro e hr h3 hl
    injection hr with hr
    subst hr
    obtain ⟨w, hw'⟩ := dropWhile_suffix (p := blank) L
    rw [hd] at hw'
    have h3' : 34 ∉ c :: u := fun hh => h3 (by rw [hw']; exact List.mem_append_right _ hh)
    have hl' : (c :: u).getLast? ≠ some 92 := by rw [hw', getLast_suffix (by simp)] at hl; exact hl
    exact .err (dropWhile_app_ne hd) h9 (wordL_app_err h3' hl' hw)
  | @more L u c n r hd h9 hw hs ih =>
    intro e hr h3 hl
    cases r with
    | inr l => cases hr
    | inl e' =>
      injection hr with hr
      subst hr
      have hle := wordL_le hw
      obtain ⟨w, hw'⟩ := dropWhile_suffix (p := blank) L
      rw [hd] at hw'
      have hne : (c :: u).drop n ≠ [] := fun hh => by
        cases hs.nil_is hh
      have hsplit : c :: u = (c :: u).take n ++ (c :: u).drop n := (List.take_append_drop n _).symm
      have h1 := ih e' rfl (fun hh => h3 (by rw [hw']; exact List.mem_append_right _ (List.mem_of_mem_drop hh))) (by
        rw [hw', hsplit, ← List.append_assoc, getLast_suffix hne] at hl
        exact hl)
      have e1 : ((c :: u) ++ 32 :: b).drop n = (c :: u).drop n ++ 32 :: b := List.drop_append_of_le_length hle
      have := Spl.more (L := L ++ 32 :: b) (u := u ++ 32 :: b) (c := c) (n := n) (dropWhile_app_ne hd) h9 (by have := wordL_app (b := b) (by simp) hw; exact this) (by rw [← List.cons_append, e1]; exact h1)
      exact this
end Go.Proofs.YtdnfmilnkoocdaaDoor.K

-- from Ptok2
/- Words of a line: what the program tells, from a round on. -/
namespace Go.Proofs.YtdnfmilnkoocdaaDoor.K
set_option linter.unusedVariables false
set_option linter.unusedSimpArgs false
open Go.RowKit Go.Proofs.YtdnfmilnkoocdaaDoor.Q Go.Proofs.YtdnfmilnkoocdaaDoorW.PrintWords Go.Proofs.YtdnfmilnkoocdaaDoorW.PrintLast

theorem Ev.succ {α : Type} {g : Nat → Option α} {r : α} (h : Ev (fun k => g (k + 1)) r) : Ev g r := Ev.step (fun _ => rfl) h
theorem scan_0 (q : Bool) (c : Int) (t : List Int) : scan q 0 (c :: t) = if c = 92 then (if escL (c :: t) = 0 then .inl 60 else bump (scan q (escL (c :: t) - 1) t))
    else if q = true ∧ c = 34 then (match t with | [] => .inr 1 | d :: _ => if sep d = true then .inr 1 else .inl 61)
    else if c = 34 then .inl 61
    else if q = false ∧ (c = 40 ∨ c = 41) then .inl 11
    else if q = false ∧ sep c = true then .inr 0
    else bump (scan q 0 t) := by
  first
    | (rw [scan.eq_def]; done)
    | (rw [scan.eq_def]; rfl)
theorem digit_is (c : Int) : token_digit.f c = some (dig c) := by
  unfold token_digit.f dig
  split
  · rename_i h
    congr 1
    exact decide_eq_decide.2 (by omega)
  · rename_i h
    rw [decide_eq_false (by omega)]
theorem sep_idx {c : Int} (h : 0 ≤ c ∧ c ≤ 255) : ∃ t, strings_IndexByte.f (⟨#[32, 9, 59]⟩ : ByteArray) c = some t ∧ (t < 0 ↔ sep c = false) := by
  refine ⟨_, rfl, ?_⟩
  have key : ∀ b : UInt8, (Lib.indexByte [32, 9, 59] b < 0 ↔ ¬ (b = 32 ∨ b = 9 ∨ b = 59)) := by
    intro b
    simp only [Lib.indexByte]
    by_cases h1 : b = 32
    · subst h1; simp
    by_cases h2 : b = 9
    · subst h2; decide
    by_cases h3 : b = 59
    · subst h3; decide
    have e1 : ((32 : UInt8) == b) = false := by simpa using fun e => h1 e.symm
    have e2 : ((9 : UInt8) == b) = false := by simpa using fun e => h2 e.symm
    have e3 : ((59 : UInt8) == b) = false := by simpa using fun e => h3 e.symm
    simp [e1, e2, e3, h1, h2, h3]
  have hk := key c.toNat.toUInt8
  have hc : ∀ n : Nat, n < 256 → (c.toNat.toUInt8 = UInt8.ofNat n ↔ c = n) := by
    intro n hn
    constructor
    · intro e
      have := congrArg UInt8.toNat e
      simp at this
      omega
    · intro e
      subst e
      rfl
  refine hk.trans ?_
  have a1 : c.toNat.toUInt8 = 32 ↔ c = 32 := hc 32 (by omega)
  have a2 : c.toNat.toUInt8 = 9 ↔ c = 9 := hc 9 (by omega)
  have a3 : c.toNat.toUInt8 = 59 ↔ c = 59 := hc 59 (by omega)
  rw [a1, a2, a3]
  unfold sep
  simp

theorem escape_ev {t : List Int} (ho : Oct t) : ∃ v, Ev (fun k => token_escape.f k (strOfNums t)) (v, (escL t : Int)) := by
  unfold token_escape.f
  match t, ho with
  | [], ho => exact ⟨_, Ev.pos (by rw [size_str]; simp) (Ev.now _)⟩
  | [_], ho => exact ⟨_, Ev.pos (by rw [size_str]; simp) (Ev.now _)⟩
  | a :: b :: r, ho =>
    have hs : ((strOfNums (a :: b :: r)).size : Int) = (r.length : Int) + 2 := by rw [size_str]; simp; omega
    have hb : bt (strOfNums (a :: b :: r)) 1 = b := by
      rw [bt_str ho (by omega) (by simp; omega)]; rfl
    have j0t : Ev (fun k => token_escape.j0 k (strOfNums (a :: b :: r)) true) (0, 0) := Ev.step (f := fun _ => some (0, 0)) (fun k => rfl) (Ev.now _)
    rw [hs, hb, digit_is]
    by_cases hd : dig b = true
    · match r, ho, hs, hb, j0t with
      | [], ho, hs, hb, j0t =>
        rw [escL_2, if_pos hd]
        exact ⟨0, Ev.neg (by simp) (Ev.pos (by simp) (Ev.bind (Ev.now _) (Ev.pos hd (Ev.pos (by simp) j0t))))⟩
      | [c], ho, hs, hb, j0t =>
        rw [escL_3, if_pos hd]
        exact ⟨0, Ev.neg (by simp) (Ev.pos (by simp) (Ev.bind (Ev.now _) (Ev.pos hd (Ev.pos (by simp) j0t))))⟩
      | c :: d :: r, ho, hs, hb, j0t =>
        have hc : bt (strOfNums (a :: b :: c :: d :: r)) 2 = c := by
          rw [bt_str ho (by omega) (by simp; omega)]; rfl
        have hdd : bt (strOfNums (a :: b :: c :: d :: r)) 3 = d := by
          rw [bt_str ho (by omega) (by simp; omega)]; rfl
        rw [hc, hdd, digit_is, digit_is]
        have hl : (((c :: d :: r).length : Nat) : Int) = (r.length : Int) + 2 := by simp; omega
        rw [hl] at hs ⊢
        have front : ∀ v : Int × Int, Ev (fun k => (some (dig c)).bind fun t102 => if t102 = true then (if 3 < (r.length : Int) + 2 + 2 then (some (dig d)).bind fun t103 => token_escape.j0 k (strOfNums (a :: b :: c :: d :: r)) (!t103) else none) else token_escape.j0 k (strOfNums (a :: b :: c :: d :: r)) true) v →
            Ev (fun k => if (r.length : Int) + 2 + 2 < 2 then some (0, 0) else if 1 < (r.length : Int) + 2 + 2 then (some (dig b)).bind fun t101 => if t101 = true then (if (r.length : Int) + 2 + 2 < 4 then token_escape.j0 k (strOfNums (a :: b :: c :: d :: r)) true else if 2 < (r.length : Int) + 2 + 2 then (some (dig c)).bind fun t102 => if t102 = true then (if 3 < (r.length : Int) + 2 + 2 then (some (dig d)).bind fun t103 => token_escape.j0 k (strOfNums (a :: b :: c :: d :: r)) (!t103) else none) else token_escape.j0 k (strOfNums (a :: b :: c :: d :: r)) true else none) else some (b, 2) else none) v := by
          intro v h
          refine Ev.neg (by omega) (Ev.pos (by omega) (Ev.bind (Ev.now _) (Ev.pos hd (Ev.neg (by omega) (Ev.pos (by omega) h)))))
        by_cases hcc : dig c = true
        · by_cases hd3 : dig d = true
          · have b1 := of_decide_eq_true hd
            have b2 := of_decide_eq_true hcc
            have b3 := of_decide_eq_true hd3
            have m1 : (b - 48) % 256 = b - 48 := by omega
            have m2 : (c - 48) % 256 = c - 48 := by omega
            have m3 : (d - 48) % 256 = d - 48 := by omega
            have j0f : ∀ q : Bool, q = false → ∃ v, Ev (fun k => token_escape.j0 k (strOfNums (a :: b :: c :: d :: r)) q) (v, (escL (a :: b :: c :: d :: r) : Int)) := by
              intro q hq
              rw [escL_4, if_pos hd]
              by_cases hv : (b - 48) * 100 + (c - 48) * 10 + (d - 48) > 255
              · rw [if_neg (by omega)]
                refine ⟨0, Ev.step (fun k => rfl) (Ev.neg (by simp [hq]) (Ev.pos (by omega) (Ev.pos (by omega) (Ev.pos (by omega) (Ev.pos ?_ (Ev.now _))))))⟩
                rw [hb, hc, hdd, m1, m2, m3]
                exact hv
              · rw [if_pos ⟨hcc, hd3, by omega⟩]
                refine ⟨_, Ev.step (fun k => rfl) (Ev.neg (by simp [hq]) (Ev.pos (by omega) (Ev.pos (by omega) (Ev.pos (by omega) (Ev.neg ?_ (Ev.now _))))))⟩
                rw [hb, hc, hdd, m1, m2, m3]
                exact hv
            obtain ⟨v, hv⟩ := j0f false rfl
            refine ⟨v, front _ (Ev.bind (Ev.now _) (Ev.pos hcc (Ev.pos (by omega) (Ev.bind (Ev.now _) ?_))))⟩
            rw [hd3]
            exact hv
          · rw [escL_4, if_pos hd, if_neg (fun h => hd3 h.2.1)]
            refine ⟨0, front _ (Ev.bind (Ev.now _) (Ev.pos hcc (Ev.pos (by omega) (Ev.bind (Ev.now _) ?_))))⟩
            rw [show dig d = false by simpa using hd3]
            exact j0t
        · rw [escL_4, if_pos hd, if_neg (fun h => hcc h.1)]
          exact ⟨0, front _ (Ev.bind (Ev.now _) (Ev.neg hcc j0t))⟩
    · have he : escL (a :: b :: r) = 2 := by
        match r with
        | [] => rw [escL_2, if_neg hd]
        | [c] => rw [escL_3, if_neg hd]
        | c :: d :: r => rw [escL_4, if_neg hd]
      rw [he]
      exact ⟨b, Ev.neg (by omega) (Ev.pos (by omega) (Ev.bind (Ev.now _) (Ev.neg hd (Ev.now _))))⟩
def res (i : Int) : Sum Int Nat → Int × Int
  | .inl e => (0, e)
  | .inr n => (i + (n : Int), 0)
theorem res_bump (i : Int) (x : Sum Int Nat) : res i (bump x) = res (i + 1) x := by
  cases x with
  | inl e => rfl
  | inr n => show (i + ((n + 1 : Nat) : Int), (0 : Int)) = (i + 1 + (n : Int), 0); congr 1; omega
theorem scan_skip (q : Bool) : ∀ (k : Nat) (t : List Int) (i : Int), k ≤ t.length → res i (scan q k t) = res (i + (k : Int)) (scan q 0 (t.drop k))
  | 0, t, i, _ => by simp
  | k + 1, [], i, h => by simp at h
  | k + 1, c :: t, i, h => by
    rw [scan, res_bump, scan_skip q k t (i + 1) (by simpa using h), List.drop_succ_cons, show i + 1 + (k : Int) = i + ((k + 1 : Nat) : Int) by omega]
set_option maxHeartbeats 1000000 in
theorem word_loop {L : List Int} (ho : Oct L) (hL : L.length ≤ 1000000) (q : Bool) : ∀ (d i : Nat), L.length - i ≤ d → i ≤ L.length → Ev (fun k => token_word.l0 k (strOfNums L) q (i : Int)) (res (i : Int) (scan q 0 (L.drop i))) := by
  intro d
  induction d with
  | zero =>
    intro i h1 h2
    have : i = L.length := by omega
    subst this
    rw [List.drop_length]
    refine Ev.step (fun k => rfl) (Ev.neg (by rw [size_str]; omega) ?_)
    cases q with
    | true => exact Ev.pos rfl (Ev.now _)
    | false => exact Ev.neg (by decide) (Ev.ret (by simp [scan, res]))
  | succ d ih =>
    intro i h1 h2
    by_cases hi : i = L.length
    · subst hi
      rw [List.drop_length]
      refine Ev.step (fun k => rfl) (Ev.neg (by rw [size_str]; omega) ?_)
      cases q with
      | true => exact Ev.pos rfl (Ev.now _)
      | false => exact Ev.neg (by decide) (Ev.ret (by simp [scan, res]))
    have hlt : i < L.length := by omega
    have hbt : bt (strOfNums L) (i : Int) = rd L (i : Int) := bt_str ho (by omega) (by omega)
    have hoc := ho.rd (i := (i : Int)) (by omega) (by omega)
    have hcons := drop_cons L i hlt
    generalize hc : rd L (i : Int) = c at *
    have hw : wrap64 ((i : Int) + 1) = ((i + 1 : Nat) : Int) := by rw [w64 (by omega) (by omega)]; omega
    have next := ih (i + 1) (by omega) (by omega)
    refine Ev.step (fun k => rfl) (Ev.pos (by rw [size_str]; omega) (Ev.pos (by omega) ?_))
    rw [hbt, hcons, scan_0]
    by_cases h92 : c = 92
    · rw [if_pos h92]
      refine Ev.pos h92 (Ev.pos (by rw [size_str]; omega) ?_)
      have hex : (strOfNums L).extract ((i : Int)).toNat (strOfNums L).size = strOfNums (c :: L.drop (i + 1)) := by
        rw [extract_str, size_str, List.take_length, Int.toNat_natCast, hcons]
      rw [hex]
      have ho' : Oct (c :: L.drop (i + 1)) := by rw [← hcons]; exact ho.drop i
      obtain ⟨v, hv⟩ := escape_ev ho'
      refine Ev.bind hv ?_
      by_cases hz : escL (c :: L.drop (i + 1)) = 0
      · rw [if_pos hz]
        refine Ev.pos (by show ((escL (c :: L.drop (i + 1)) : Nat) : Int) = 0; omega) (Ev.now _)
      · rw [if_neg hz]
        have hle := escL_nz hz
        have hlen : (c :: L.drop (i + 1)).length = L.length - i := by rw [← hcons, List.length_drop]
        generalize hn : escL (c :: L.drop (i + 1)) = n at *
        refine Ev.neg (by show ¬ ((n : Nat) : Int) = 0; omega) ?_
        show Ev (fun k => token_word.l0 k (strOfNums L) q (wrap64 ((i : Int) + ((n : Nat) : Int)))) _
        rw [res_bump, scan_skip q _ _ _ (by rw [List.length_drop]; omega), List.drop_drop]
        have := ih (i + n) (by omega) (by omega)
        rw [w64 (by omega) (by omega), show i + 1 + (n - 1) = i + n by omega, show (i : Int) + 1 + ((n - 1 : Nat) : Int) = ((i + n : Nat) : Int) by omega, show (i : Int) + (n : Int) = ((i + n : Nat) : Int) by omega]
        exact this
    rw [if_neg h92]
    refine Ev.neg h92 ?_
    -- the walk behind a quote's end
    by_cases hq : q = true ∧ c = 34
    · obtain ⟨rfl, h34⟩ := hq
      rw [if_pos ⟨rfl, h34⟩]
      refine Ev.pos rfl (Ev.step (fun k => rfl) (Ev.pos (by simpa using h34) ?_))
      rw [hw]
      by_cases he : i + 1 = L.length
      · refine Ev.neg (by rw [size_str]; omega) ?_
        rw [show L.drop (i + 1) = [] from List.drop_of_length_le (by omega)]
        exact Ev.ret rfl
      · have hlt1 : i + 1 < L.length := by omega
        refine Ev.pos (by rw [size_str]; omega) (Ev.pos (by omega) ?_)
        rw [bt_str ho (by omega) (by omega), drop_cons L (i + 1) hlt1]
        obtain ⟨t, ht, hs⟩ := sep_idx (ho.rd (i := ((i + 1 : Nat) : Int)) (by omega) (by omega))
        refine Ev.bindS ht ?_
        by_cases hsp : sep (rd L ((i + 1 : Nat) : Int)) = true
        · simp only [hsp, if_true]
          refine Ev.neg (fun h => by rw [hs.1 h] at hsp; cases hsp) (Ev.ret ?_)
          show _ = ((i : Int) + ((1 : Nat) : Int), (0 : Int))
          congr 1
        · have hsf : sep (rd L ((i + 1 : Nat) : Int)) = false := by simpa using hsp
          simp only [hsf]
          exact Ev.pos (hs.2 hsf) (Ev.now _)
    rw [if_neg hq]
    have j2f : Ev (fun k => token_word.j2 k (strOfNums L) q (i : Int) c false) (res (i : Int) (if c = 34 then .inl 61 else if q = false ∧ (c = 40 ∨ c = 41) then .inl 11 else if q = false ∧ sep c = true then .inr 0 else bump (scan q 0 (L.drop (i + 1))))) := by
      refine Ev.succ ?_
      simp only [token_word.j2, Bool.false_eq_true, if_false]
      cases q with
      | true =>
        have h34 : c ≠ 34 := fun e => hq ⟨rfl, e⟩
        rw [if_neg h34, if_neg (by simp), if_neg (by simp), res_bump]
        simp only [if_true]
        refine Ev.succ ?_
        simp only [token_word.j3, Bool.false_eq_true, if_false, if_true]
        refine Ev.succ ?_
        simp only [token_word.j4, Bool.false_eq_true, if_false, if_true]
        rw [hw]
        exact next
      | false =>
        simp only [Bool.false_eq_true, if_false]
        refine Ev.succ ?_
        simp only [token_word.j3, Bool.false_eq_true, if_false]
        by_cases h34 : c = 34
        · rw [if_pos h34]
          exact Ev.pos (by simpa using h34) (Ev.now _)
        rw [if_neg h34]
        refine Ev.neg (by simpa using h34) ?_
        have j4f : c ≠ 40 → c ≠ 41 → Ev (fun k => token_word.j4 k (strOfNums L) false (i : Int) c false) (res (i : Int) (if True ∧ sep c = true then .inr 0 else bump (scan false 0 (L.drop (i + 1))))) := by
          intro h40 h41
          refine Ev.succ ?_
          simp only [token_word.j4, Bool.false_eq_true, if_false]
          obtain ⟨t, ht, hs⟩ := sep_idx hoc
          refine Ev.bindS ht ?_
          by_cases hsp : sep c = true
          · rw [if_pos ⟨trivial, hsp⟩]
            refine Ev.pos (by
              have : ¬ t < 0 := fun h => by rw [hs.1 h] at hsp; cases hsp
              omega) (Ev.ret ?_)
            show _ = ((i : Int) + ((0 : Nat) : Int), (0 : Int))
            congr 1
          · rw [if_neg (fun h => hsp h.2), res_bump]
            refine Ev.neg (by have := hs.2 (by simpa using hsp); omega) ?_
            rw [hw]
            exact next
        by_cases h40 : c = 40
        · rw [if_pos ⟨trivial, .inl h40⟩]
          exact Ev.pos h40 (Ev.step (f := fun _ => some (0, 11)) (fun k => rfl) (Ev.now _))
        refine Ev.neg h40 ?_
        by_cases h41 : c = 41
        · rw [if_pos ⟨trivial, .inr h41⟩]
          subst h41
          exact Ev.step (f := fun _ => some (0, 11)) (fun k => rfl) (Ev.now _)
        rw [if_neg (by omega), show (c == 41) = false by simpa using h41]
        exact j4f h40 h41
    cases q with
    | true =>
      have h34 : c ≠ 34 := fun e => hq ⟨rfl, e⟩
      refine Ev.pos rfl ?_
      rw [show (c == 34) = false by simpa using h34]
      exact j2f
    | false => exact Ev.neg (by decide) j2f
theorem word_ev {L : List Int} (ho : Oct L) (hL : L.length ≤ 1000000) (hne : L ≠ []) : Ev (fun k => token_word.f k (strOfNums L)) (res 0 (wordL L)) := by
  cases L with
  | nil => exact absurd rfl hne
  | cons c u =>
    have hb : bt (strOfNums (c :: u)) 0 = c := by rw [bt_str ho (by omega) (by simp)]; rfl
    unfold token_word.f
    rw [hb, wordL_cons]
    refine Ev.pos (by rw [size_str]; simp) ?_
    by_cases h34 : c = 34
    · rw [if_pos h34, res_bump]
      refine Ev.pos h34 ?_
      rw [show (c == 34) = true by simpa using h34]
      exact Ev.step (fun k => rfl) (word_loop ho hL true (c :: u).length 1 (by simp) (by simp))
    · rw [if_neg h34]
      refine Ev.neg h34 ?_
      rw [show (c == 34) = false by simpa using h34]
      exact Ev.step (fun k => rfl) (word_loop ho hL false (c :: u).length 0 (by simp) (by simp))
theorem trim_is {L : List Int} (ho : Oct L) : strings_TrimLeft.f (strOfNums L) (⟨#[32, 9]⟩ : ByteArray) = some (strOfNums (L.dropWhile blank)) := by
  unfold strings_TrimLeft.f
  rw [if_pos ⟨by decide, by decide⟩]
  congr 1
  have key : ∀ L : List Int, Oct L → Lib.trimLeftS (strOfNums L).data.toList (⟨#[32, 9]⟩ : ByteArray).data.toList = (strOfNums (L.dropWhile blank)).data.toList := by
    intro L
    induction L with
    | nil => intro _; rfl
    | cons c u ih =>
      intro ho
      have hc := ho c List.mem_cons_self
      have e : (strOfNums (c :: u)).data.toList = UInt8.ofNat c.toNat :: (strOfNums u).data.toList := by simp [strOfNums]
      have hcon : ((⟨#[32, 9]⟩ : ByteArray).data.toList.contains (UInt8.ofNat c.toNat)) = blank c := by
        unfold blank
        have h1 : ∀ n : Nat, n < 256 → (UInt8.ofNat c.toNat = UInt8.ofNat n ↔ c = n) := by
          intro n hn
          constructor
          · intro e
            have := congrArg UInt8.toNat e
            simp at this
            omega
          · intro e; subst e; rfl
        have a1 : UInt8.ofNat c.toNat = 32 ↔ c = 32 := h1 32 (by omega)
        have a2 : UInt8.ofNat c.toNat = 9 ↔ c = 9 := h1 9 (by omega)
        show ([32, 9] : List UInt8).contains _ = _
        by_cases x1 : c = 32
        · rw [a1.2 x1]; subst x1; rfl
        by_cases x2 : c = 9
        · rw [a2.2 x2]; subst x2; rfl
        rw [decide_eq_false (by omega)]
        have y1 : ¬ UInt8.ofNat c.toNat = 32 := fun h => x1 (a1.1 h)
        have y2 : ¬ UInt8.ofNat c.toNat = 9 := fun h => x2 (a2.1 h)
        simp [y1, y2]
      unfold Lib.trimLeftS at ih ⊢
      rw [e, List.dropWhile_cons, List.dropWhile_cons, hcon]
      split
      · exact ih (fun x hx => ho x (List.mem_cons_of_mem _ hx))
      · exact e.symm
  rw [key L ho]
def fin (acc : List ByteArray) : Sum Int (List (List Int)) → List ByteArray × Int
  | .inl e => ([], e)
  | .inr l => (acc ++ l.map strOfNums, 0)
theorem oct_dropWhile {L : List Int} (ho : Oct L) : Oct (L.dropWhile blank) := fun x hx => ho x (by
  obtain ⟨w, hw⟩ := dropWhile_suffix (p := blank) L
  rw [hw]; exact List.mem_append_right _ hx)
theorem str_empty {L : List Int} : (strOfNums L).toList = ([] : List UInt8) ↔ L = [] := by
  rw [ba_toList]
  simp [strOfNums]
theorem split_loop {L : List Int} {r : Sum Int (List (List Int))} (h : Spl L r) : Oct L → ∀ acc : List ByteArray, acc.length + L.length ≤ 1000000 → Ev (fun k => token_Split.l0 k (strOfNums L) acc) (fin acc r) := by
  induction h with
  | @nil L hd =>
    intro ho acc hl
    refine Ev.succ ?_
    simp only [token_Split.l0, trim_is ho, Option.bind_some]
    rw [hd]
    exact Ev.pos (str_empty.2 rfl) (Ev.step (f := fun _ => some (acc, 0)) (fun k => rfl) (Ev.ret (by simp [fin])))
  | @rem L u hd =>
    intro ho acc hl
    refine Ev.succ ?_
    simp only [token_Split.l0, trim_is ho, Option.bind_some]
    have ho' := oct_dropWhile ho
    rw [hd] at ho' ⊢
    refine Ev.neg (fun e => by cases str_empty.1 e) (Ev.pos (by rw [size_str]; simp) ?_)
    rw [bt_str ho' (by omega) (by simp), rd_cons_zero]
    exact Ev.step (f := fun _ => some (acc, 0)) (fun k => rfl) (Ev.ret (by simp [fin]))
  | @err L u c e hd h9 hw =>
    intro ho acc hl
    refine Ev.succ ?_
    simp only [token_Split.l0, trim_is ho, Option.bind_some]
    have ho' := oct_dropWhile ho
    have hlen := dropWhile_len blank L
    rw [hd] at ho' hlen ⊢
    refine Ev.neg (fun e => by cases str_empty.1 e) (Ev.pos (by rw [size_str]; simp) ?_)
    rw [bt_str ho' (by omega) (by simp), rd_cons_zero]
    refine Ev.step (fun k => rfl) (Ev.neg (by simpa using h9) ?_)
    have hwe := word_ev ho' (by omega) (by simp)
    rw [hw] at hwe
    refine Ev.bind hwe (Ev.neg ?_ (Ev.now _))
    have := wordL_err hw
    show ¬ e = 0
    omega
  | @more L u c n r hd h9 hw hs ih =>
    intro ho acc hl
    refine Ev.succ ?_
    simp only [token_Split.l0, trim_is ho, Option.bind_some]
    have ho' := oct_dropWhile ho
    have hlen := dropWhile_len blank L
    have hp := wordL_pos hw (dropWhile_head hd) h9
    rw [hd] at ho' hlen ⊢
    refine Ev.neg (fun e => by cases str_empty.1 e) (Ev.pos (by rw [size_str]; simp) ?_)
    rw [bt_str ho' (by omega) (by simp), rd_cons_zero]
    refine Ev.step (fun k => rfl) (Ev.neg (by simpa using h9) ?_)
    have hwe := word_ev ho' (by omega) (by simp)
    have hle := wordL_le hw
    rw [hw] at hwe
    have hr : res 0 (.inr n) = ((n : Int), 0) := by show ((0 : Int) + (n : Int), (0 : Int)) = _; congr 1; omega
    rw [hr] at hwe
    refine Ev.bind hwe (Ev.pos rfl (Ev.pos (by show (0 : Int) ≤ (n : Int); omega) (Ev.pos (by rw [size_str]; show (n : Int) ≤ _; omega) (Ev.pos (by omega) ?_))))
    show Ev (fun k => token_Split.l0 k ((strOfNums (c :: u)).extract ((n : Nat) : Int).toNat (strOfNums (c :: u)).size) (acc ++ [(strOfNums (c :: u)).extract 0 ((n : Nat) : Int).toNat])) _
    rw [extract_str, extract_str, size_str, List.take_length, Int.toNat_natCast, List.drop_zero]
    have := ih (ho'.drop n) (acc ++ [strOfNums ((c :: u).take n)]) (by rw [List.length_append, List.length_drop]; simp only [List.length_cons, List.length_nil] at hlen ⊢; omega)
    have e : fin acc (push ((c :: u).take n) r) = fin (acc ++ [strOfNums ((c :: u).take n)]) r := by
      cases r with
      | inl e => rfl
      | inr l => simp [fin, push]
    rw [e]
    exact this
theorem Split_ev {L : List Int} {r : Sum Int (List (List Int))} (h : Spl L r) (ho : Oct L) (hl : L.length ≤ 1000000) : Ev (fun k => token_Split.f k L) (fin [] r) := split_loop h ho [] (by simpa using hl)
end Go.Proofs.YtdnfmilnkoocdaaDoor.K

-- from PureTokenBack
/- TokenBack: for every input. -/
namespace Go.Proofs.YtdnfmilnkoocdaaDoor.Pure
set_option linter.unusedVariables false
set_option linter.unusedSimpArgs false
open Go.RowKit Go.Proofs.YtdnfmilnkoocdaaDoor.Q Go.Proofs.YtdnfmilnkoocdaaDoorW.PrintWords Go.Proofs.YtdnfmilnkoocdaaDoorW.PrintLast Go.Proofs.YtdnfmilnkoocdaaDoor.K

theorem awake25b : paronymlaw25_awake.f 60 = some true := by decide +kernel
theorem awake25b_ev : Ev (fun k => paronymlaw25_awake.f k) true := Ev.of (fun k => paronymlaw25_awake.mono k) awake25b
theorem bof_str {L : List Int} (ho : Oct L) (hL : L.length ≤ 1000000) : Q.bytesOf.f (strOfNums L) = some L := by
  unfold Q.bytesOf.f
  rw [if_pos (by rw [size_str]; omega)]
  congr 1
  exact bytesOf_str ho

/-- The three ways of an octet. -/
theorem esc1_ways {c : Int} (h : 0 ≤ c ∧ c ≤ 255) :
    (special c = true ∧ esc1 c = [92, c]) ∨ (special c = false ∧ 32 < c ∧ c ≤ 126 ∧ esc1 c = [c]) ∨
    (∃ d1 d2 d3 : Int, esc1 c = [92, d1, d2, d3] ∧ dig d1 = true ∧ dig d2 = true ∧ dig d3 = true ∧ (d1 - 48) * 100 + (d2 - 48) * 10 + (d3 - 48) = c) := by
  unfold esc1
  by_cases sp : special c = true
  · exact .inl ⟨sp, if_pos sp⟩
  have sp' : special c = false := by simpa using sp
  rw [if_neg sp]
  by_cases g : 32 < c ∧ c ≤ 126
  · exact .inr (.inl ⟨sp', g.1, g.2, if_pos g⟩)
  · rw [if_neg g]
    refine .inr (.inr ⟨_, _, _, rfl, ?_, ?_, ?_, ?_⟩)
    · exact decide_eq_true (by omega)
    · exact decide_eq_true (by omega)
    · exact decide_eq_true (by omega)
    · omega
theorem special_nodig {c : Int} (h : special c = true) : dig c = false := by
  have := of_decide_eq_true h
  exact decide_eq_false (by omega)
theorem escL_nodig {a c : Int} (r : List Int) (h : dig c = false) : escL (a :: c :: r) = 2 := by
  have h' : ¬ dig c = true := by simp [h]
  match r with
  | [] => rw [escL_2, if_neg h']
  | [x] => rw [escL_3, if_neg h']
  | x :: y :: r => rw [escL_4, if_neg h']
def addn : Nat → Sum Int Nat → Sum Int Nat
  | 0, x => x
  | n + 1, x => bump (addn n x)
theorem addn_add (m n : Nat) (x : Sum Int Nat) : addn m (addn n x) = addn (m + n) x := by
  induction m with
  | zero => rw [Nat.zero_add]; rfl
  | succ m ih => rw [addn, ih, show m + 1 + n = (m + n) + 1 by omega, addn]
theorem addn_inr (n m : Nat) : addn n (.inr m) = .inr (m + n) := by
  induction n with
  | zero => rfl
  | succ n ih => rw [addn, ih]; rfl
theorem scan_esc : ∀ (b : List Int) (r : List Int), Oct b → scan false 0 (b.flatMap esc1 ++ r) = addn (b.flatMap esc1).length (scan false 0 r)
  | [], r, _ => rfl
  | c :: b, r, ho => by
    have ih := scan_esc b r (fun x hx => ho x (List.mem_cons_of_mem _ hx))
    have hc := ho c List.mem_cons_self
    rw [List.flatMap_cons, List.append_assoc, List.length_append]
    generalize b.flatMap esc1 ++ r = R at *
    rcases esc1_ways hc with ⟨sp, e⟩ | ⟨sp, g1, g2, e⟩ | ⟨d1, d2, d3, e, h1, h2, h3, hv⟩
    · rw [e]
      show scan false 0 (92 :: c :: R) = addn (2 + _) _
      rw [scan_0, if_pos rfl, escL_nodig R (special_nodig sp), if_neg (by decide)]
      show bump (scan false 1 (c :: R)) = _
      rw [scan, ih, ← addn_add]
      rfl
    · rw [e]
      show scan false 0 (c :: R) = addn (1 + _) _
      have hs := of_decide_eq_false sp
      rw [scan_0, if_neg (by omega), if_neg (by simp), if_neg (by omega), if_neg (by omega), if_neg (by
        intro h
        have := of_decide_eq_true h.2
        omega), ih, ← addn_add]
      rfl
    · rw [e]
      show scan false 0 (92 :: d1 :: d2 :: d3 :: R) = addn (4 + _) _
      have he : escL (92 :: d1 :: d2 :: d3 :: R) = 4 := by rw [escL_4, if_pos h1, if_pos ⟨h2, h3, by omega⟩]
      rw [scan_0, if_pos rfl, he, if_neg (by decide)]
      show bump (scan false 3 (d1 :: d2 :: d3 :: R)) = _
      rw [scan, scan, scan, ih, ← addn_add]
      rfl
/-- An escaped octet's first is no blank, no semicolon, no quote. -/
theorem esc_head {c : Int} (h : 0 ≤ c ∧ c ≤ 255) : ∃ x u, esc1 c = x :: u ∧ K.blank x = false ∧ x ≠ 59 ∧ x ≠ 34 := by
  rcases esc1_ways h with ⟨sp, e⟩ | ⟨sp, g1, g2, e⟩ | ⟨d1, d2, d3, e, _⟩
  · exact ⟨92, _, e, by decide, by omega, by omega⟩
  · have hs := of_decide_eq_false sp
    exact ⟨c, _, e, decide_eq_false (by omega), by omega, by omega⟩
  · exact ⟨92, _, e, by decide, by omega, by omega⟩
theorem wordL_esc {b r : List Int} {m : Nat} (ho : Oct b) (hne : b ≠ []) (hr : scan false 0 r = .inr m) : ∃ x u, b.flatMap esc1 = x :: u ∧ K.blank x = false ∧ x ≠ 59 ∧ x ≠ 34 ∧ wordL (b.flatMap esc1 ++ r) = .inr (m + (b.flatMap esc1).length) := by
  cases b with
  | nil => exact absurd rfl hne
  | cons c b =>
    obtain ⟨x, u, e, h1, h2, h3⟩ := esc_head (ho c List.mem_cons_self)
    have hs := scan_esc (c :: b) r ho
    rw [hr, addn_inr] at hs
    refine ⟨x, u ++ b.flatMap esc1, by rw [List.flatMap_cons, e]; rfl, h1, h2, h3, ?_⟩
    rw [← hs, List.flatMap_cons, e]
    show wordL (x :: (u ++ _ ++ r)) = _
    rw [wordL_cons, if_neg h3]
    rfl
theorem Spl_esc {b : List Int} (ho : Oct b) (hne : b ≠ []) : Spl (b.flatMap esc1) (.inr [b.flatMap esc1]) := by
  obtain ⟨x, u, e, h1, h2, h3, hw⟩ := wordL_esc (r := []) (m := 0) ho hne rfl
  rw [List.append_nil, Nat.zero_add] at hw
  have hd : (b.flatMap esc1).dropWhile K.blank = x :: u := by rw [e, List.dropWhile_cons, if_neg (by simp [h1])]
  rw [e] at hw
  have := Spl.more hd h2 hw (r := .inr []) (Spl.nil (by rw [List.drop_length]; rfl))
  rw [List.take_length] at this
  rw [← e] at this
  exact this
theorem Spl_esc_x {b : List Int} (ho : Oct b) (hne : b ≠ []) : Spl (b.flatMap esc1 ++ [32, 120]) (.inr [b.flatMap esc1, [120]]) := by
  obtain ⟨x, u, e, h1, h2, h3, hw⟩ := wordL_esc (r := [32, 120]) (m := 0) ho hne (by rfl)
  rw [Nat.zero_add] at hw
  have hd : (b.flatMap esc1 ++ [32, 120]).dropWhile K.blank = x :: (u ++ [32, 120]) := by rw [e, List.cons_append, List.dropWhile_cons, if_neg (by simp [h1])]
  have hx : b.flatMap esc1 ++ [32, 120] = x :: (u ++ [32, 120]) := by rw [e]; rfl
  have tail : Spl [32, 120] (.inr [[120]]) := by
    have h120 : ([32, 120] : List Int).dropWhile K.blank = 120 :: [] := by decide
    have w120 : wordL (120 :: []) = .inr 1 := by rfl
    exact Spl.more h120 (by decide) w120 (r := .inr []) (Spl.nil rfl)
  rw [hx] at hw
  have := Spl.more hd h2 hw (r := .inr [[120]]) (by rw [← hx, List.drop_left]; exact tail)
  rw [← hx, List.take_left] at this
  exact this

theorem tdiv_c {c : Int} (h : 0 ≤ c) (n : Int) : Int.tdiv c n = c / n := Int.tdiv_eq_ediv_of_nonneg h
theorem escaped_loop {b : List Int} (ho : Oct b) (hb : b.length ≤ 1000) : ∀ (d i : Nat), b.length - i = d → i ≤ b.length → Ev (fun k => paronymref25_Escaped.l0 k (strOfNums b) ((b.take i).flatMap esc1) (i : Int)) (strOfNums (b.flatMap esc1)) := by
  intro d
  induction d with
  | zero =>
    intro i h1 h2
    rw [List.take_of_length_le (by omega)]
    exact Ev.step (fun k => rfl) (Ev.neg (by rw [size_str]; omega) (Ev.now _))
  | succ d ih =>
    intro i h1 h2
    have hlt : i < b.length := by omega
    have hc := ho.rd (i := (i : Int)) (by omega) (by omega)
    have hbt : bt (strOfNums b) (i : Int) = rd b (i : Int) := bt_str ho (by omega) (by omega)
    have htk := take_snoc b i hlt
    have next := ih (i + 1) (by omega) (by omega)
    rw [htk, List.flatMap_append, List.flatMap_singleton] at next
    have hacc : ((b.take i).flatMap esc1).length ≤ 4000 := by
      have := esc_len (b.take i)
      rw [List.length_take] at this
      omega
    generalize hcc : rd b (i : Int) = c at *
    have hw : wrap64 ((i : Int) + 1) = ((i + 1 : Nat) : Int) := by rw [w64 (by omega) (by omega)]; omega
    generalize (b.take i).flatMap esc1 = acc at *
    have j1 : ∀ q : Bool, special c = q → Ev (fun k => paronymref25_Escaped.j1 k (strOfNums b) acc (i : Int) c q) (strOfNums (b.flatMap esc1)) := by
      intro q hq
      rcases esc1_ways hc with ⟨sp, e⟩ | ⟨sp, g1, g2, e⟩ | ⟨d1, d2, d3, e, h1', h2', h3', hv⟩
      · rw [e] at next
        refine Ev.step (fun k => rfl) (Ev.pos (by rw [← hq, sp]) (Ev.bind (Ev.now _) (Ev.pos (by simp; omega) ?_)))
        rw [hw]; exact next
      · rw [e] at next
        refine Ev.step (fun k => rfl) (Ev.neg (by rw [← hq, sp]; simp) (Ev.pos (by omega) (Ev.pos (by omega) (Ev.pos (by omega) ?_))))
        rw [hw]; exact next
      · have hsf : ¬ q = true := by
          intro h
          rw [h] at hq
          unfold esc1 at e
          rw [if_pos hq] at e
          simp at e
        have hng : ¬ (32 < c ∧ c ≤ 126) := by
          intro h
          unfold esc1 at e
          rw [if_neg (by rw [hq]; exact hsf), if_pos h] at e
          simp at e
        have e2 : esc1 c = [92, 48 + c / 100, 48 + c / 10 % 10, 48 + c % 10] := by
          unfold esc1
          rw [if_neg (by rw [hq]; exact hsf), if_neg hng]
        rw [e2] at next
        have hm : Int.tmod c 10 = c % 10 := Int.tmod_eq_emod_of_nonneg (by omega)
        have v1 : (48 + ((Int.tdiv c 100) % 256)) % 256 = 48 + c / 100 := by rw [tdiv_c (by omega)]; omega
        have v2 : 48 + (((Int.tdiv c 10) % 256) % 10) = 48 + c / 10 % 10 := by rw [tdiv_c (by omega)]; omega
        have v3 : (48 + (Int.tmod c 10)) % 256 = 48 + c % 10 := by rw [hm]; omega
        refine Ev.step (fun k => rfl) (Ev.neg hsf ?_)
        rw [v1, v2, v3]
        by_cases g1 : c > 32
        · refine Ev.pos g1 (Ev.neg (by omega) (Ev.bind (Ev.now _) (Ev.pos (by simp; omega) ?_)))
          rw [hw]; exact next
        · refine Ev.neg g1 (Ev.bind (Ev.now _) (Ev.pos (by simp; omega) ?_))
          rw [hw]; exact next
    refine Ev.step (fun k => rfl) (Ev.pos (by rw [size_str]; omega) (Ev.pos (by omega) ?_))
    rw [hbt]
    have spt : (c = 34 ∨ c = 59 ∨ c = 40 ∨ c = 41 ∨ c = 92 ∨ c = 46) → special c = true := fun h => decide_eq_true h
    by_cases q1 : c = 34
    · exact Ev.pos q1 (j1 true (spt (by omega)))
    refine Ev.neg q1 ?_
    by_cases q2 : c = 59
    · exact Ev.pos q2 (j1 true (spt (by omega)))
    refine Ev.neg q2 ?_
    by_cases q3 : c = 40
    · exact Ev.pos q3 (j1 true (spt (by omega)))
    refine Ev.neg q3 ?_
    by_cases q4 : c = 41
    · exact Ev.pos q4 (j1 true (spt (by omega)))
    refine Ev.neg q4 ?_
    by_cases q5 : c = 92
    · exact Ev.pos q5 (j1 true (spt (by omega)))
    refine Ev.neg q5 (j1 _ ?_)
    by_cases q6 : c = 46
    · rw [spt (by omega)]; simp [q6]
    · rw [show (c == 46) = false by simpa using q6]
      exact decide_eq_false (by omega)
theorem escaped_ev {b : List Int} (ho : Oct b) (hb : b.length ≤ 1000) : Ev (fun k => paronymref25_Escaped.f k (strOfNums b)) (strOfNums (b.flatMap esc1)) := escaped_loop ho hb b.length 0 (by omega) (Nat.zero_le _)

/-! what an escape stands for -/
theorem esc_val2 {c : Int} {r : List Int} (ho : Oct (92 :: c :: r)) (hd : dig c = false) : Ev (fun k => token_escape.f k (strOfNums (92 :: c :: r))) (c, 2) := by
  unfold token_escape.f
  have hs : ((strOfNums (92 :: c :: r)).size : Int) = (r.length : Int) + 2 := by rw [size_str]; simp; omega
  have hb : bt (strOfNums (92 :: c :: r)) 1 = c := by rw [bt_str ho (by omega) (by simp; omega)]; rfl
  rw [hs, hb, digit_is]
  exact Ev.neg (by omega) (Ev.pos (by omega) (Ev.bind (Ev.now _) (Ev.neg (by simp [hd]) (Ev.now _))))
theorem esc_val4 {c d1 d2 d3 : Int} {r : List Int} (ho : Oct (92 :: d1 :: d2 :: d3 :: r)) (h1 : dig d1 = true) (h2 : dig d2 = true) (h3 : dig d3 = true) (hv : (d1 - 48) * 100 + (d2 - 48) * 10 + (d3 - 48) = c) (hc : 0 ≤ c ∧ c ≤ 255) :
    Ev (fun k => token_escape.f k (strOfNums (92 :: d1 :: d2 :: d3 :: r))) (c, 4) := by
  unfold token_escape.f
  have hs : ((strOfNums (92 :: d1 :: d2 :: d3 :: r)).size : Int) = (r.length : Int) + 4 := by rw [size_str]; simp; omega
  have e1 : bt (strOfNums (92 :: d1 :: d2 :: d3 :: r)) 1 = d1 := by rw [bt_str ho (by omega) (by simp; omega)]; rfl
  have e2 : bt (strOfNums (92 :: d1 :: d2 :: d3 :: r)) 2 = d2 := by rw [bt_str ho (by omega) (by simp; omega)]; rfl
  have e3 : bt (strOfNums (92 :: d1 :: d2 :: d3 :: r)) 3 = d3 := by rw [bt_str ho (by omega) (by simp; omega)]; rfl
  have b1 := of_decide_eq_true h1
  have b2 := of_decide_eq_true h2
  have b3 := of_decide_eq_true h3
  have m1 : (d1 - 48) % 256 = d1 - 48 := by omega
  have m2 : (d2 - 48) % 256 = d2 - 48 := by omega
  have m3 : (d3 - 48) % 256 = d3 - 48 := by omega
  have j0 : ∀ q : Bool, q = false → Ev (fun k => token_escape.j0 k (strOfNums (92 :: d1 :: d2 :: d3 :: r)) q) (c, 4) := by
    intro q hq
    refine Ev.step (fun k => rfl) (Ev.neg (by simp [hq]) (Ev.pos (by omega) (Ev.pos (by omega) (Ev.pos (by omega) ?_))))
    rw [e1, e2, e3, m1, m2, m3, hv]
    exact Ev.neg (by omega) (Ev.ret (by rw [show c % 256 = c by omega]))
  rw [hs, e1, e2, e3, digit_is, digit_is, digit_is]
  refine Ev.neg (by omega) (Ev.pos (by omega) (Ev.bind (Ev.now _) (Ev.pos h1 (Ev.neg (by omega) (Ev.pos (by omega) (Ev.bind (Ev.now _) (Ev.pos h2 (Ev.pos (by omega) (Ev.bind (Ev.now _) ?_)))))))))
  rw [h3]
  exact j0 false rfl
theorem octs_esc {b : List Int} (ho : Oct b) : Oct (b.flatMap esc1) := esc_octs ho
theorem plain_loop : ∀ (b : List Int), Oct b → ∀ acc : List Int, acc.length + b.length ≤ 1000 → Ev (fun k => token_Plain.l0 k (strOfNums (b.flatMap esc1)) acc) (acc ++ b, 0)
  | [], ho, acc, hl => Ev.step (fun k => rfl) (Ev.neg (by rw [size_str]; simp) (Ev.ret (by simp)))
  | c :: b, ho, acc, hl => by
    have hob : Oct b := fun x hx => ho x (List.mem_cons_of_mem _ hx)
    have ih := plain_loop b hob (acc ++ [c]) (by rw [List.length_append]; simp only [List.length_cons, List.length_nil] at hl ⊢; omega)
    rw [List.append_assoc, show [c] ++ b = c :: b from rfl] at ih
    rw [List.length_cons] at hl
    have hc := ho c List.mem_cons_self
    have hoe := octs_esc ho
    rw [List.flatMap_cons] at hoe ⊢
    generalize hR : b.flatMap esc1 = R at *
    refine Ev.succ ?_
    simp only [token_Plain.l0]
    rcases esc1_ways hc with ⟨sp, e⟩ | ⟨sp, g1, g2, e⟩ | ⟨d1, d2, d3, e, h1', h2', h3', hv⟩
    · rw [e] at hoe ⊢
      simp only [List.cons_append, List.nil_append] at hoe ⊢
      have hs : ((strOfNums (92 :: c :: R)).size : Int) = (R.length : Int) + 2 := by rw [size_str]; simp; omega
      have hb : bt (strOfNums (92 :: c :: R)) 0 = 92 := by rw [bt_str hoe (by omega) (by simp; omega)]; rfl
      rw [hs]
      refine Ev.pos (by omega) (Ev.pos (by omega) (Ev.pos hb (Ev.bind (esc_val2 hoe (special_nodig sp)) (Ev.pos (by omega) (Ev.pos (by show (0 : Int) ≤ 2; omega) (Ev.pos (by show (2 : Int) ≤ _; omega) ?_))))))
      show Ev (fun k => token_Plain.l0 k ((strOfNums (92 :: c :: R)).extract 2 (strOfNums (92 :: c :: R)).size) (acc ++ [c])) _
      rw [extract_str, size_str, List.take_length]
      exact ih
    · rw [e] at hoe ⊢
      simp only [List.cons_append, List.nil_append] at hoe ⊢
      have hs : ((strOfNums (c :: R)).size : Int) = (R.length : Int) + 1 := by rw [size_str]; simp
      have hb : bt (strOfNums (c :: R)) 0 = c := by rw [bt_str hoe (by omega) (by rw [List.length_cons]; omega)]; rfl
      have hs' := of_decide_eq_false sp
      rw [hs, hb]
      refine Ev.pos (by omega) (Ev.pos (by omega) (Ev.neg (by omega) (Ev.pos (by omega) (Ev.pos (by omega) ?_))))
      show Ev (fun k => token_Plain.l0 k ((strOfNums (c :: R)).extract 1 (strOfNums (c :: R)).size) (acc ++ [c])) _
      rw [extract_str, size_str, List.take_length]
      exact ih
    · rw [e] at hoe ⊢
      simp only [List.cons_append, List.nil_append] at hoe ⊢
      have hs : ((strOfNums (92 :: d1 :: d2 :: d3 :: R)).size : Int) = (R.length : Int) + 4 := by rw [size_str]; simp; omega
      have hb : bt (strOfNums (92 :: d1 :: d2 :: d3 :: R)) 0 = 92 := by rw [bt_str hoe (by omega) (by simp; omega)]; rfl
      rw [hs]
      refine Ev.pos (by omega) (Ev.pos (by omega) (Ev.pos hb (Ev.bind (esc_val4 hoe h1' h2' h3' hv hc) (Ev.pos (by omega) (Ev.pos (by show (0 : Int) ≤ 4; omega) (Ev.pos (by show (4 : Int) ≤ _; omega) ?_))))))
      show Ev (fun k => token_Plain.l0 k ((strOfNums (92 :: d1 :: d2 :: d3 :: R)).extract 4 (strOfNums (92 :: d1 :: d2 :: d3 :: R)).size) (acc ++ [c])) _
      rw [extract_str, size_str, List.take_length]
      exact ih
theorem rdOf0 (x : ByteArray) (l : List ByteArray) : rdOf ByteArray.empty (x :: l) 0 = x := rfl
theorem plain_ev {b : List Int} (ho : Oct b) (hb : b.length ≤ 200) (hne : b ≠ []) : Ev (fun k => token_Plain.f k (strOfNums (b.flatMap esc1))) (b, 0) := by
  have hoe := octs_esc ho
  have hl := esc_len b
  obtain ⟨x, u, e, h1, h2, h3, _⟩ := wordL_esc (r := []) (m := 0) ho hne rfl
  have hspl := Split_ev (Spl_esc ho hne) hoe (by omega)
  have hpos : 0 < (b.flatMap esc1).length := by rw [e]; simp
  have hbt : bt (strOfNums (b.flatMap esc1)) 0 = x := by rw [bt_str hoe (by omega) (by omega), e]; rfl
  unfold token_Plain.f
  rw [bof_str hoe (by omega), hbt]
  refine Ev.bind (Ev.now _) (Ev.bind hspl (Ev.pos rfl (Ev.pos rfl (Ev.pos (by show (0 : Int) < 1; omega) (Ev.pos rfl (Ev.pos (by rw [size_str]; omega) (Ev.neg h3 ?_)))))))
  exact Ev.step (fun k => rfl) (plain_loop b ho [] (by simp; omega))
theorem plain_nil : Ev (fun k => token_Plain.f k (strOfNums [])) (([] : List Int), 12) := by
  unfold token_Plain.f
  rw [bof_str (L := []) (fun x hx => by cases hx) (by simp)]
  exact Ev.bind (Ev.now _) (Ev.bind (Split_ev (Spl.nil rfl) (fun x hx => by cases hx) (by simp)) (Ev.pos rfl (Ev.neg (by decide) (Ev.now _))))

theorem TokenBack : paronymlaw25_TokenBack.Pure := by
  intro b _ hb8 hbw
  have ho := oct_of_wf hbw
  apply Ev.rounds
  unfold paronymlaw25_TokenBack.f
  refine Ev.bind awake25b_ev (Ev.pos rfl ?_)
  by_cases c1 : (b.length : Int) > 200
  · rw [decide_eq_true c1]
    exact Ev.step (f := fun k => (paronymlaw25_awake.f k).bind fun t102 => some t102) (fun k => rfl) (Ev.bind awake25b_ev (Ev.now _))
  rw [decide_eq_false c1]
  refine Ev.succ ?_
  simp only [paronymlaw25_TokenBack.j0, Bool.false_eq_true, if_false]
  have hE : token_Escape.f b = some (strOfNums (b.flatMap esc1)) := by
    unfold token_Escape.f
    rw [if_pos ⟨List.all_eq_true.2 (fun x hx => decide_eq_true (ho x hx)), by omega⟩]
  have hoe := octs_esc ho
  have hl := esc_len b
  simp only [hE, Option.bind_some]
  refine Ev.bind (escaped_ev ho (by omega)) (Ev.pos rfl ?_)
  by_cases hne : b = []
  · subst hne
    exact Ev.bind plain_nil (Ev.pos rfl (Ev.pos (str_empty.2 rfl) (Ev.now _)))
  · have hlen : 0 < b.length := List.length_pos_iff.2 hne
    refine Ev.bind (plain_ev ho (by omega) hne) (Ev.neg (by omega) (Ev.pos (by rw [size_str]; omega) ?_))
    have hj : strOfNums (b.flatMap esc1) ++ (⟨#[32, 120]⟩ : ByteArray) = strOfNums (b.flatMap esc1 ++ [32, 120]) := by
      rw [show (⟨#[32, 120]⟩ : ByteArray) = strOfNums [32, 120] from rfl, str_append]
    have hox : Oct (b.flatMap esc1 ++ [32, 120]) := Oct.append hoe (fun x hx => by simp at hx; omega)
    have hlx : (b.flatMap esc1 ++ [32, 120]).length ≤ 1000 := by rw [List.length_append, List.length_cons, List.length_cons, List.length_nil]; omega
    rw [hj, bof_str hox (by omega)]
    refine Ev.bind (Ev.now _) (Ev.bind (Split_ev (Spl_esc_x ho hne) hox (by omega)) (Ev.pos rfl (Ev.pos rfl (Ev.pos rfl (Ev.pos rfl (Ev.pos (by show (0 : Int) < 2; omega) (Ev.ret ?_)))))))
    show ((strOfNums (b.flatMap esc1)).toList == (strOfNums (b.flatMap esc1)).toList) = true
    simp
end Go.Proofs.YtdnfmilnkoocdaaDoor.Pure

-- from LawTokenBack
-- Made by hp.py, a program of this session, with the kit's printer. Not trusted: Lean checks it.
namespace Go.Proofs.YtdnfmilnkoocdaaDoor.tokenBack
open Go.ChangeShapes Go.WideShapes Go.ChangeAt Go.RowKit
open Go.ChangeMaps (open_string shut_string)
set_option linter.unusedVariables false
theorem own : ownKnob Tryd.prog.godebug = none := by kernel_rfl
theorem laidOut : laidOutB Tryd.prog = true := by kernel_rfl
def IsRow (k : IntKind) (w : World) (a : Option Addr) (len cap : Nat) (zs : List Int) : Prop :=
  (a = none ∧ len = 0 ∧ cap = 0 ∧ zs = []) ∨
  ∃ x, a = some x ∧ len ≤ cap ∧ cap ≤ maxLen ∧ zs.length = cap ∧ (∀ i, i < zs.length → w.cell? (x.add i) = some (.int k (zs.getD i 0))) ∧ ∀ n ∈ zs, (Lit.int k n).wf = true
set_option maxRecDepth 100000 in
theorem lifted (os : Os) (started : os.Started) (H : Type) (enc : TypeId × Value → H) :
    ReturnsInHanded {} Tryd.checked os 4 .any (fun w args => (Rows.tokenBackSpec.pre enc Tryd.prog Tryd.f4 Rows.tokenBackRow.domain false w args ∧ laidMetH Tryd.prog Rows.tokenBackRow.laid w) ∧ sizedMet enc Tryd.prog Tryd.f4 (OpenSpec.ofChange Rows.tokenBackSpec) false w args) (Rows.tokenBackSpec.post enc Tryd.prog Tryd.f4 false true false false) := by
  refine returnsInHanded_of_change_and (C := Tryd.checked) (X := fun w _ => laidMetH Tryd.prog Rows.tokenBackRow.laid w) (fun _ _ _ hh h => h.of_heap hh) own started (by kernel_rfl) Tryd.func4
    (ChangeSpec.witness_shaped (enc := enc) (C := Tryd.checked) (os := os) (X := fun w _ => laidMetH Tryd.prog Rows.tokenBackRow.laid w) false (World.laidAll Tryd.prog os Rows.tokenBackRow.laid) #[.slice none 0 0] 8 (World.laidAll_os _ _ _)
      (World.shaped_of_ZipB (by kernel_rfl) (by kernel_rfl)) (by kernel_rfl) (by kernel_rfl) (by kernel_rfl)
      (by rw [MakeChecks.laidMetH_plain _ _ _ (by kernel_rfl)]; exact laidMet_laidAll _ (by kernel_rfl) (by kernel_rfl))) ?_
  intro W base args ds gs before hval0 hW hcnd hsz0 hL _
  have hsz : (DataW.weightsEach Tryd.prog (Tryd.f4.params.toList ++ Rows.tokenBackSpec.plain.varTypes Tryd.prog) (ds ++ gs)).all (· ≤ reachBytes) = true := hsz0
  have hval : ∀ (j : Nat) t v, Tryd.f4.params[j]? = some t → args[j]? = some v → Value.okWide Tryd.prog W .any base t v := hval0
  have hW' := hW
  obtain ⟨p, q, hA0, hV, rfl, hfz, hnd⟩ := hW
  have hA : DataW.TrodAll enc Tryd.prog W 0 (fun _ => true) true Tryd.f4.params.toList args.toList ds p := hA0
  rw [Tryd.params4] at hA hval hsz
  obtain ⟨v0, vs0, d0, ds0, p0, q0, hargs, rfl, rfl, h0, r0⟩ := trodAll_cons hA
  obtain ⟨rfl, rfl, rfl⟩ := trodAll_nil r0
  obtain rfl : args = #[v0] := by cases args; simp_all
  obtain ⟨rfl, rfl⟩ := trodVars_none hV
  obtain ⟨a0, len0, cap0, rfl⟩ := okWide_slice Tryd.underlying22 (hval 0 22 v0 rfl rfl)
  have k0 := h0
  have lt0 : ∀ x ∈ p0, x.block < W.heap.size := by obtain ⟨m, hm⟩ := k0; exact DataW.trod_lt m _ _ _ hm
  obtain ⟨z0, w0⟩ : ∃ zs, IsRow .u8 W a0 len0 cap0 zs := by
    obtain ⟨fuel, hf⟩ := h0
    rcases open_ints Tryd.underlying22 Tryd.underlying5 (by kernel_rfl) hf with ⟨hcs, _⟩ | ⟨x, l, c, zs, hcs, _, hl, hm, hz, _, hcell, hwz⟩
    · simp [Value.cells] at hcs
      obtain ⟨rfl, rfl, rfl⟩ := hcs
      exact ⟨[], .inl ⟨rfl, rfl, rfl, rfl⟩⟩
    · simp [Value.cells] at hcs
      obtain ⟨rfl, rfl, rfl⟩ := hcs
      exact ⟨zs, .inr ⟨_, rfl, hl, hm, by simpa using hz, hcell, hwz⟩⟩
  have y0 : len0 * 1 ≤ 140737488351232 := Go.Proofs.YtdnfmilnkoocdaaDoorW.PrintWords.sized_ints hsz (j := 0) (t := 22) rfl rfl Tryd.underlying22 Tryd.underlying5 (by kernel_rfl) (by kernel_rfl) h0
  clear hA0 hval0 hsz0 hsz
  refine (Q.paronymlaw25_TokenBack.walk Pure.TokenBack a0 len0 cap0 z0 W w0 y0).mono fun e W' ⟨he, bel⟩ => ?_
  subst he
  exact ⟨_, rfl, _, _, _, [], _, [], hW', trodAll_mk1 (shut_bool Tryd.underlying4 _), (trodAll_cons_mk (Below.trod laidOut (by kernel_rfl) (of_decide_eq_true (by kernel_rfl)) k0 bel lt0) trodAll_mk0), rfl, bel.frame _, fun h => by cases h⟩
theorem over : Rows.tokenBackRow.holds Tryd.pinned (OpenSpec.ofChange Rows.tokenBackSpec) :=
  OpenClaim.holds_of_wide 4 Tryd.f4 rfl rfl rfl rfl rfl rfl rfl ⟨rfl, rfl, rfl, rfl, rfl⟩ rfl rfl rfl rfl rfl (by kernel_rfl) Tryd.func4 (by kernel_rfl)
    (of_decide_eq_true (by kernel_rfl)) (by unfold Func.isWrapper; first | (rw [if_pos (by decide +kernel)]; kernel_rfl) | (rw [if_neg (by decide +kernel)]; exact ⟨rfl, rfl⟩))
    (fun os started H enc _ => lifted os started H enc)
theorem card : Rows.TokenBackCardSaid :=
  Claim7.holds_tied_plain_at .later [] [.data, .pinned] true (true, "c8db116255ca7d8a9a063ea87309dbd31f94f59187fe20dbf876020a6bd752c6") false over (fun _ h => by cases h) (by kernel_rfl) (fun _ h => by cases h) tokenBack_row_tie rfl ⟨rfl, rfl⟩ (by kernel_rfl) rfl
    (fun f fn hf hfn => by
      obtain rfl : f = 4 := Option.some.inj ((show Tryd.prog.funcNamed "paronym/paronymlaw25.TokenBack" = some 4 by kernel_rfl).symm.trans hf) |>.symm
      obtain rfl : fn = Tryd.f4 := (Option.some.inj (Tryd.func4.symm.trans hfn)).symm
      exact ⟨by kernel_rfl, fun j t ht => by
        rw [Tryd.params4] at ht
        have hm : t ∈ ([22] : List Nat) := by have := Array.mem_of_getElem? ht; simp at this ⊢; omega
        have hall : (([22] : List Nat).all fun u => !Tryd.prog.wantsStandIn u) = true := by kernel_rfl
        exact (show Tryd.prog.wantsStandIn t = false by simpa using List.all_eq_true.1 hall t hm)⟩)
    (by kernel_rfl)
#print axioms card
end Go.Proofs.YtdnfmilnkoocdaaDoor.tokenBack
namespace Go.Proofs.YtdnfmilnkoocdaaDoor
/-- The row, under a short name, for the claim. -/
theorem tokenBack_holds : Rows.TokenBackCardSaid := tokenBack.card
end Go.Proofs.YtdnfmilnkoocdaaDoor
