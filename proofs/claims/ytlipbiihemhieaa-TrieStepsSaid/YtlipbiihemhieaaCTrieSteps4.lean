/- Part 4 of 4 of the proof of TrieSteps: any step by a trie For every input; no condition. -/
import Derived.Test.YtlipbiihemhieaaCTrieSteps2
import Derived.Test.YtlipbiihemhieaaCTrieSteps3
import Derived.StillTailTactics
import Derived.BigRegion
import Derived.Deep.DeepCutAuto
import Derived.Sort.LoopGhostIn
import Derived.Test.YtlipbiihemhieaaRows
import Derived.WalkKit
import Derived.ProofKit
import Derived.OpenShut
import Derived.ShutString
import Derived.ChangeOld
import Derived.Below
import Derived.SizedLaws
import Derived.Test.YtlipbiihemhieaaWSized

-- from Htwn0
/- trie's law TrieSteps: the walk. -/
namespace Go.Proofs.Ytlipbiihemhieaa.Q
open Go.RowKit Go.Proofs.YtlipbiihemhieaaW.PrintWords Go.Proofs.YtlipbiihemhieaaW.PrintLast Go.Proofs.YtlipbiihemhieaaW.PrintMore Go.Proofs.Ytlipbiihemhieaa.K
set_option linter.unusedVariables false
set_option linter.unusedSimpArgs false
set_option maxHeartbeats 4000000 in
set_option maxRecDepth 100000 in
theorem paronymlaw22_TrieSteps.walkN (A : Option Addr) (ca : Nat) (P : List (List Int)) (n c : Int) (w : World) (hp : Kd.C (Kd.slice 3 (Kd.int .i64)) w A P.length P) (hc : P.length ≤ ca)
    (hS : smallB P 12 = true) (hE : decide (idxE 0 P ≥ 0) = false) (hn : n < 0 ∨ ((allT [[]] P).length : Int) ≤ n) :
    Calls Try.prog 12 #[.slice A P.length ca, .int .i64 n, .int .i64 c] w fun e w' => e = .returned (.bool true) ∧ Below w.heap.size w w' := by
  obtain ⟨h1, h2⟩ := smallB_t hS
  have h1' : P.length ≤ 300 := by omega
  have h2' : ∀ p ∈ P, p.length ≤ 300 := fun p hp => by have := h2 p hp; omega
  obtain ⟨T, hT⟩ : ∃ T, T = allT [[]] P := ⟨_, rfl⟩
  rw [← hT] at hn
  have hTl : T.length ≤ 100000 := by have := allT_len P [[]] h2'; rw [← hT] at this; simp at this; omega
  have HP := Aside0.mk hp
  have HC := Aside0.mk hc
  have HB0 := Aside0.mk (Below.refl w.heap.size w)
  have H1 := Aside0.mk h1'
  have H2 := Aside0.mk h2'
  have HTT := Aside0.mk hT
  have HTL := Aside0.mk hTl
  have HN := Aside0.mk hn
  clear h1 h2 h1' h2' hT hTl hn hp hc
  refine (callsIn_wide (n := 20)).1 ?_
  refine callsIn_of_wp_marks Try.func12 rfl trivial ?_ rfl
  simp only [Try.ntmps12, List.size_toArray, List.length_cons, List.length_nil, Nat.reduceAdd, Nat.reduceSub, Array.replicate_succ, Array.replicate_zero, List.push_toArray, List.append_toArray, List.nil_append, List.cons_append]
  refine wpIn_wide.2 ?_
  go_upto_region 8 with (first
    | (go_at_call 42; (with_reducible refine (paronymlaw22_awake.calls0 _).mono ?_); rintro e w1 ⟨rfl, hb1⟩; have HB1 : Aside0 (Below w.heap.size w w1) := ⟨Below.trans (by first | exact HB0.out | exact pw_below_drewN HB0.out _) (hb1.mono (by first | exact HB0.out.size | exact (pw_below_drewN HB0.out _).size))⟩; clear HB0; have HB0 := HB1; clear HB1 hb1)
    | (go_at_call 43; refine (lawSmall.calls A ca P 12 (by decide) _ (Kd.C_below HP.out HB0.out) HC.out).mono ?_; rintro e w2 ⟨rfl, ⟨m2, rfl⟩⟩; rw [hS])
    | (go_at_call 45; refine (lawEmpty.calls A ca P (by have := H1.out; omega) _ (Kd.C_below HP.out (pw_below_drewN HB0.out _)) HC.out).mono ?_; rintro e w3 ⟨rfl, ⟨m3, rfl⟩⟩; rw [hE])
    | (go_at_call 44; refine (lawNew.calls A ca P H1.out H2.out hE _ (Kd.C_below HP.out (pw_below_drewN HB0.out _)) HC.out).mono ?_; rintro e w4 ⟨g, N, rfl, hR4, hTri4, hb4⟩; rw [← HTT.out] at hTri4; have HR4 := Aside0.mk hR4; have HTR := Aside0.mk hTri4; have HB4 : Aside0 (Below w.heap.size w w4) := ⟨(pw_below_drewN HB0.out _).trans (hb4.mono (pw_below_drewN HB0.out _).size)⟩; clear hR4 hTri4 hb4)
    | (go_at_call 46; refine (refNew.calls A ca P _ (Kd.C_below HP.out HB4.out) HC.out H1.out H2.out).mono ?_; rintro e w5 ⟨v5, rfl, hX5, hb5⟩; rw [← HTT.out] at hX5; obtain ⟨A5, c5, rfl, hl5, hC5⟩ := hX5.reads hb5; have HR5 := Aside0.mk (HR4.out.below hb5); have HB5 : Aside0 (Below w.heap.size w w5) := ⟨HB4.out.trans (hb5.mono HB4.out.size)⟩; clear hX5 hb5 hC5 hl5)
    | (go_at_call 55; refine (lawStepNo.calls (N := N) (n := n) (by rw [HTR.out.tr.len]; exact HN.out) _ c _ HR5.out).mono ?_; rintro e w6 ⟨rfl, hb6⟩; have HR6 := Aside0.mk (HR5.out.below hb6); have HB6 : Aside0 (Below w.heap.size w w6) := ⟨HB5.out.trans (hb6.mono HB5.out.size)⟩; clear hb6))
  by_cases c1 : n < 0
  case' pos =>
    have e0 := eq_true c1
    have e1 : decide (n < 0) = true := decide_eq_true c1
    clear c1
  case' neg =>
    have e0 := eq_false c1
    have e1 : decide (n < 0) = false := decide_eq_false c1
    have e2 := eq_true (HN.out.resolve_left c1)
    have e3 : decide ((T.length : Int) ≤ n) = true := decide_eq_true (HN.out.resolve_left c1)
    clear c1
  all_goals
    go_wp2_with (go_at_call 53; refine (trie_Edges.calls _ n _).mono ?_; rintro e w7 ⟨rfl, rfl⟩)
    have hsz7 : (((w6.alloc (.cells #[.int .i64 0] 3)).alloc (.cells #[.pointer (some ⟨g, 0, none⟩)] 71)).alloc (.cells #[.int .i64 n] 3)).heap.size = w6.heap.size + 3 := by simp
    have hb7 : Below w6.heap.size w6 (((w6.alloc (.cells #[.int .i64 0] 3)).alloc (.cells #[.pointer (some ⟨g, 0, none⟩)] 71)).alloc (.cells #[.int .i64 n] 3)) := (((Below.refl _ w6).alloc (Nat.le_refl _) _).alloc (by simp) _).alloc (by simp; omega) _
    have hc7 : Boxed (((w6.alloc (.cells #[.int .i64 0] 3)).alloc (.cells #[.pointer (some ⟨g, 0, none⟩)] 71)).alloc (.cells #[.int .i64 n] 3)) w6.heap.size 3 (.int .i64 0) := ((Boxed.new w6 _ _).alloc _).alloc _
    have ht7 : Boxed (((w6.alloc (.cells #[.int .i64 0] 3)).alloc (.cells #[.pointer (some ⟨g, 0, none⟩)] 71)).alloc (.cells #[.int .i64 n] 3)) (w6.heap.size + 1) 71 (.pointer (some ⟨g, 0, none⟩)) := by
      have := (Boxed.new (w6.alloc (.cells #[.int .i64 0] 3)) 71 (.pointer (some ⟨g, 0, none⟩))).alloc (.cells #[.int .i64 n] 3)
      rwa [World.size_alloc] at this
    have hn7 : Boxed (((w6.alloc (.cells #[.int .i64 0] 3)).alloc (.cells #[.pointer (some ⟨g, 0, none⟩)] 71)).alloc (.cells #[.int .i64 n] 3)) (w6.heap.size + 2) 3 (.int .i64 n) := by
      have := Boxed.new ((w6.alloc (.cells #[.int .i64 0] 3)).alloc (.cells #[.pointer (some ⟨g, 0, none⟩)] 71)) 3 (.int .i64 n)
      rwa [World.size_alloc, World.size_alloc] at this
    generalize hw7 : (((w6.alloc (.cells #[.int .i64 0] 3)).alloc (.cells #[.pointer (some ⟨g, 0, none⟩)] 71)).alloc (.cells #[.int .i64 n] 3)) = w7 at *
    clear hw7
    have hR7 := HR6.out.below hb7
    have hnd : nodeAt N n = z107 := node_out (by rw [HTR.out.tr.len]; exact HN.out)
    have hst := trie_Edges.stops _ N n w7 w7 (fun k => w7.heap.size ≤ k) hR7 (Below.refl _ _) (fun k h => h) (w6.heap.size + 1) (w6.heap.size + 2) ht7 hn7 (by rw [hnd]; simp [z107]) 19 (by omega)
    rw [hnd] at hst
    have HR7 := Aside0.mk hR7
    have HC7 := Aside0.mk hc7
    have HS7 := Aside0.mk hsz7
    have HB7 : Aside0 (Below w.heap.size w w7) := ⟨HB6.out.trans (hb7.mono HB6.out.size)⟩
    have HST := Aside0.mk hst
    have HND := Aside0.mk hnd
    clear hR7 hc7 hb7 hst hnd ht7 hn7 hsz7
    refine (wpIn_wide (n := 20)).1 ?_
    refine wpIn_range_as rfl (by omega) (gf := 73) (lb := #[.pointer (some ⟨w6.heap.size + 1, 0, none⟩), .pointer (some ⟨w6.heap.size + 2, 0, none⟩)]) rfl trivial (enters_of Try.func73 (by kernel_rfl) rfl)
      HST.out KeepC.trans keepC_put (Below.refl _ _) (fun _ => rfl)
      (fun pre W => Below w7.heap.size w7 W) (fun c xs W => False) (ownFrom_below (Nat.le_refl _) (Nat.le_refl _)) (fun c s W W' row hs hg hr => hs) (Below.refl _ _) (fun pre x a1 W => Below w7.heap.size w7 W) (fun pre x a1 => ownFrom_below (Nat.le_refl _) (Nat.le_refl _)) ?assign ?body ?done ?stop
    case assign => exact fun l pre x W K hI _ hK => wpIn_skip (hK _ _ (KeepsFrom.refl _ _) (KeepC.refl _ _) hI)
    case body =>
      rintro l pre x a1 W hI hsp
      have := hsp.length_le
      simp [z107] at this
    case stop => rintro D c pre W hD hSp hI hK; exact hI.elim
    case done =>
      rintro D ys W hD hys hI hK
      have hcc : Boxed W w6.heap.size 3 (.int .i64 0) := (hI.block _ HC7.out.lt).trans HC7.out
      replace hcc := hcc.cell
      have HK := Aside0.mk hK
      have HI := Aside0.mk hI
      clear hK hI
      go_wp2_with (first
        | (go_at_call 49; refine (lawDepthNo.calls HND.out _ _ (HR7.out.below HI.out)).mono ?_; rintro e w8 ⟨rfl, hb8⟩; have HB8 := Aside0.mk hb8; clear hb8)
        | (go_at_call 50; refine (lawEndsNo.calls HND.out _ _ ((HR7.out.below HI.out).below HB8.out)).mono ?_; rintro e w9 ⟨A9, c9, rfl, hb9⟩; have HB9 := Aside0.mk hb9; clear hb9)
        | (go_at_call 48; refine (lawTextNo.calls HND.out _ _ (((HR7.out.below HI.out).below HB8.out).below HB9.out)).mono ?_; rintro e w10 ⟨A10, c10, rfl, hb10⟩; have HB10 := Aside0.mk hb10; clear hb10))
      have hDW := (Array.getElem?_eq_some_iff.1 HK.out).1
      have hs7 := HB7.out.size
      have hbI : Below w.heap.size w W := HB7.out.trans (HI.out.mono hs7)
      have hsI := hbI.size
      have hb8 := HB8.out.size
      have hb9 := HB9.out.size
      have hk10 : w10.heap[D]? = some (Obj.deferred (some [])) := (HB10.out.block _ (by omega)).trans ((HB9.out.block _ (by omega)).trans ((HB8.out.block _ hDW).trans HK.out))
      have hbX : Below w.heap.size w w10 := hbI.trans ((HB8.out.mono hsI).trans ((HB9.out.mono (by omega)).trans (HB10.out.mono (by omega))))
      refine ⟨by simp, .inl ⟨_, _, rfl, run_takeDeferred (w := w10) hk10, ?_⟩⟩
      exact ⟨_, by simp [results, Try.results12, go_sem], rfl, hbX.grown (grownBy_putObj' w10 D _) hbX.size (fun k e => by cases e; omega)⟩
end Go.Proofs.Ytlipbiihemhieaa.Q

-- from Htws
/- trie's law TrieSteps: the walk. -/
namespace Go.Proofs.Ytlipbiihemhieaa.Q
open Go.RowKit Go.Proofs.YtlipbiihemhieaaW.PrintWords Go.Proofs.YtlipbiihemhieaaW.PrintLast Go.Proofs.YtlipbiihemhieaaW.PrintMore Go.Proofs.Ytlipbiihemhieaa.K
set_option linter.unusedVariables false
set_option linter.unusedSimpArgs false
set_option maxHeartbeats 4000000 in
set_option maxRecDepth 100000 in
theorem paronymlaw22_TrieSteps.walk0 (A : Option Addr) (ca : Nat) (P : List (List Int)) (n c : Int) (w : World) (hp : Kd.C (Kd.slice 3 (Kd.int .i64)) w A P.length P) (hc : P.length ≤ ca) :
    Calls Try.prog 12 #[.slice A P.length ca, .int .i64 n, .int .i64 c] w fun e w' => e = .returned (.bool true) ∧ Below w.heap.size w w' := by
  by_cases hx : smallB P 12 = true ∧ decide (idxE 0 P ≥ 0) = false ∧ ¬ (0 ≤ n ∧ n < ((allT [[]] P).length : Int))
  · exact paronymlaw22_TrieSteps.walkN A ca P n c w hp hc hx.1 hx.2.1 (by have := hx.2.2; omega)
  have HP := Aside0.mk hp
  have HC := Aside0.mk hc
  have HB0 := Aside0.mk (Below.refl w.heap.size w)
  clear hp hc
  go_enter Try.func12, Try.ntmps12
  cases hS : smallB P 12 with
  | false =>
    go_wp2_with (first
      | (go_at_call 42; (with_reducible refine (paronymlaw22_awake.calls0 _).mono ?_); rintro e w1 ⟨rfl, hb1⟩; have HB1 : Aside0 (Below w.heap.size w w1) := ⟨Below.trans (by first | exact HB0.out | exact pw_below_drewN HB0.out _) (hb1.mono (by first | exact HB0.out.size | exact (pw_below_drewN HB0.out _).size))⟩; clear HB0; have HB0 := HB1; clear HB1 hb1)
      | (go_at_call 43; refine (lawSmall.calls A ca P 12 (by decide) _ (Kd.C_below HP.out HB0.out) HC.out).mono ?_; rintro e w2 ⟨rfl, ⟨m2, rfl⟩⟩; rw [hS]))
    go_ret
    exact ⟨rfl, HB0.out⟩
  | true =>
    obtain ⟨h1, h2⟩ := smallB_t hS
    cases hE : decide (idxE 0 P ≥ 0) with
    | true =>
      go_wp2_with (first
        | (go_at_call 42; (with_reducible refine (paronymlaw22_awake.calls0 _).mono ?_); rintro e w1 ⟨rfl, hb1⟩; have HB1 : Aside0 (Below w.heap.size w w1) := ⟨Below.trans (by first | exact HB0.out | exact pw_below_drewN HB0.out _) (hb1.mono (by first | exact HB0.out.size | exact (pw_below_drewN HB0.out _).size))⟩; clear HB0; have HB0 := HB1; clear HB1 hb1)
        | (go_at_call 43; refine (lawSmall.calls A ca P 12 (by decide) _ (Kd.C_below HP.out HB0.out) HC.out).mono ?_; rintro e w2 ⟨rfl, ⟨m2, rfl⟩⟩; rw [hS])
        | (go_at_call 45; refine (lawEmpty.calls A ca P (by omega) _ (Kd.C_below HP.out (pw_below_drewN HB0.out _)) HC.out).mono ?_; rintro e w3 ⟨rfl, ⟨m3, rfl⟩⟩; rw [hE]))
      go_ret
      exact ⟨rfl, HB0.out⟩
    | false =>
      have h1' : P.length ≤ 300 := by omega
      have h2' : ∀ p ∈ P, p.length ≤ 300 := fun p hp => by have := h2 p hp; omega
      by_cases hn : 0 ≤ n ∧ n < ((allT [[]] P).length : Int)
      · obtain ⟨j, rfl⟩ := Int.eq_ofNat_of_zero_le hn.1
        have hjl : j < (allT [[]] P).length := by omega
        obtain ⟨T, hT⟩ : ∃ T, T = allT [[]] P := ⟨_, rfl⟩
        rw [← hT] at hjl hn
        obtain ⟨s, hs⟩ : ∃ s, T[j]? = some s := ⟨_, List.getElem?_eq_getElem hjl⟩
        have hTl : T.length ≤ 100000 := by have := allT_len P [[]] h2'; rw [← hT] at this; simp at this; omega
        have e0 : ((j : Int) < 0) = False := eq_false (by omega)
        have e1 : decide ((j : Int) < 0) = false := decide_eq_false (by omega)
        have e2 : ((j : Int) ≥ (T.length : Int)) = False := eq_false (by omega)
        have e3 : decide ((j : Int) ≥ (T.length : Int)) = false := decide_eq_false (by omega)
        have e4 : decide ((T.length : Int) ≤ (j : Int)) = false := decide_eq_false (by omega)
        have H1 := Aside0.mk h1'
        have H2 := Aside0.mk h2'
        have HTT := Aside0.mk hT
        have HSS := Aside0.mk hs
        have HTL := Aside0.mk hTl
        clear h1 h2 h1' h2' hT hs hTl hn hjl
        go_upto_region 13 with (first
          | (go_at_call 42; (with_reducible refine (paronymlaw22_awake.calls0 _).mono ?_); rintro e w1 ⟨rfl, hb1⟩; have HB1 : Aside0 (Below w.heap.size w w1) := ⟨Below.trans (by first | exact HB0.out | exact pw_below_drewN HB0.out _) (hb1.mono (by first | exact HB0.out.size | exact (pw_below_drewN HB0.out _).size))⟩; clear HB0; have HB0 := HB1; clear HB1 hb1)
          | (go_at_call 43; refine (lawSmall.calls A ca P 12 (by decide) _ (Kd.C_below HP.out HB0.out) HC.out).mono ?_; rintro e w2 ⟨rfl, ⟨m2, rfl⟩⟩; rw [hS])
          | (go_at_call 45; refine (lawEmpty.calls A ca P (by have := H1.out; omega) _ (Kd.C_below HP.out (pw_below_drewN HB0.out _)) HC.out).mono ?_; rintro e w3 ⟨rfl, ⟨m3, rfl⟩⟩; rw [hE])
          | (go_at_call 44; refine (lawNew.calls A ca P H1.out H2.out hE _ (Kd.C_below HP.out (pw_below_drewN HB0.out _)) HC.out).mono ?_; rintro e w4 ⟨g, N, rfl, hR4, hTri4, hb4⟩; rw [← HTT.out] at hTri4; have HR4 := Aside0.mk hR4; have HTR := Aside0.mk hTri4; have HB4 : Aside0 (Below w.heap.size w w4) := ⟨(pw_below_drewN HB0.out _).trans (hb4.mono (pw_below_drewN HB0.out _).size)⟩; clear hR4 hTri4 hb4)
          | (go_at_call 46; refine (refNew.calls A ca P _ (Kd.C_below HP.out HB4.out) HC.out H1.out H2.out).mono ?_; rintro e w5 ⟨v5, rfl, hX5, hb5⟩; rw [← HTT.out] at hX5; obtain ⟨A5, c5, rfl, hl5, hC5⟩ := hX5.reads hb5; have HR5 := Aside0.mk (HR4.out.below hb5); have HC5 := Aside0.mk hC5; have HL5 := Aside0.mk hl5; have HB5 : Aside0 (Below w.heap.size w w5) := ⟨HB4.out.trans (hb5.mono HB4.out.size)⟩; clear hX5 hb5 hC5 hl5)
          | (go_at_call 55; refine (lawStep.calls HTR.out.tr HTL.out HSS.out _ c _ HR5.out).mono ?_; rintro e w6 ⟨rfl, hb6⟩; have HC6 := Aside0.mk (Kd.C_below HC5.out hb6); have HB6 : Aside0 (Below w.heap.size w w6) := ⟨HB5.out.trans (hb6.mono HB5.out.size)⟩; clear hb6))
        have hjT : j < T.length := (List.getElem?_eq_some_iff.1 HSS.out).1
        obtain ⟨ad, A7, c7, e7, hx7, hl7, hi7⟩ := at_L1 HC6.out (j : Int) (by omega) (by omega)
        cases e7
        have hrd : rd_L1 T (j : Int) = s := by rw [rdL1 j hjT]; exact (List.getElem?_eq_some_iff.1 HSS.out).2
        rw [hrd] at hx7 hl7 hi7
        rw [Int.toNat_natCast] at hx7
        have HI7 := Aside0.mk hi7
        have hx7a : ∀ o, (w6.alloc o).cell? (ad.add j) = some (.slice A7 s.length c7) := fun o => (World.cell?_alloc_lt _ _ _ (World.block_lt_of_cell? w6 _ hx7)).trans hx7
        have e5 : ((j : Int) < (T.length : Int)) = True := eq_true (by omega)
        have e6 : (0 ≤ (j : Int)) = True := eq_true (by omega)
        have hsl : s.length ≤ 12 := by
          have := allT_short P [[]] 12 (by simp) (smallB_t hS).2 s (by rw [← HTT.out]; exact List.mem_of_getElem? HSS.out)
          exact this
        have HSL := Aside0.mk hsl
        have HO0 : ∀ W : World, Kd.R (Kd.int .i64) 3 (W.alloc (.cells #[] 3)) W.heap.size (fun _ => True) (.slice (some ⟨W.heap.size, 0, none⟩) 0 0) ([] : List Int) := fun W => Kd.R_of_own ⟨rfl, .inr ⟨W.heap.size, 0, #[], rfl, Nat.le_refl _, heap_alloc_new W _, Nat.le_refl _, Nat.zero_le _, rfl, rfl⟩⟩ (fun _ _ => trivial)
        have HO0' := Aside0.mk HO0
        clear hjT hrd hl7 hi7 hsl HO0
        go_wp2_with (first
          | ((with_reducible refine gate_builtin (b := .append) (xs := #[.tmp 86, .tmp 90]) rfl ?_); at_builtin; refine Kd.R_append_rows (Kd.int .i64) (w0 := w6) w6.heap.size rfl (.tmp 86) (.tmp 90) 22 3 (.int .i64 0) 8 rfl Try.underlying22 info_i64 rfl (by decide) (by omega) _ ([] : List Int) s _ _ _ (fun _ => True) (fun _ => False) rfl rfl (HO0'.out w6) (Kd.C_below HI7.out ((Below.refl _ w6).alloc (Nat.le_refl _) _)) (fun _ _ h => h) (fun _ h => h.elim) (fun _ _ => trivial) ((Below.refl _ w6).alloc (Nat.le_refl _) _) (by simp) (by have := HSL.out; simp; omega) ?_; intro v8 w8 hR8 hb8 _ _; obtain ⟨A8, c8, rfl⟩ := Kd.R_slice hR8; have HR8 : Aside0 (Kd.R (Kd.int .i64) 3 w8 w6.heap.size (fun _ => True) (.slice A8 s.length c8) s) := ⟨hR8⟩; have HB8 := Aside0.mk hb8; clear hR8 hb8)
          | ((with_reducible refine gate_builtin (b := .append) (xs := #[.tmp 91, .tmp 93]) rfl ?_); at_builtin; refine Kd.R_append (Kd.int .i64) (w0 := w6) (W := w8) w6.heap.size rfl (.tmp 91) (.tmp 93) 22 3 (.int .i64 0) 8 rfl Try.underlying22 info_i64 rfl (by decide) (by omega) _ s c [.int .i64 c] (fun _ => True) (fun _ => False) rfl rfl rfl (fun _ h => h.elim) (fun _ _ => trivial) HR8.out HB8.out HB8.out.size (by have := HSL.out; omega) ?_; intro v9 w9 hR9 hb9 _ _; obtain ⟨A9, c9, rfl⟩ := Kd.R_slice hR9; have HR9 := Aside0.mk hR9; have HB9 := Aside0.mk hb9; clear hR9 hb9)
          | (go_at_call 54; refine (refFind.calls (T := T) (s := s ++ [c]) (by have := HTL.out; omega) (fun t ht => by have := allT_short P [[]] 12 (by simp) (smallB_t hS).2 t (by rw [← HTT.out]; exact ht); omega) (by have := HSL.out; simp; omega) (some ad) c5 A9 c9 _ _ (Kd.C_below HC6.out HB9.out) HL5.out (Kd.R_reads' HR9.out).2.2 (Kd.R_reads' HR9.out).2.1 (by simp)).mono ?_; rintro e w10 ⟨rfl, ⟨m10, rfl⟩⟩))
        go_ret
        exact ⟨rfl, pw_below_drewN (HB6.out.trans (HB9.out.mono HB6.out.size)) _⟩
      · exact absurd ⟨hS, hE, hn⟩ hx
theorem paronymlaw22_TrieSteps.walk (a0 : Option Addr) (cap0 : Nat) (ls0 : List (List Int)) (a1 a2 : Int) (w : World) (hC0 : Kd.C (Kd.slice 3 (Kd.int .i64)) w a0 ls0.length ls0) (hcap0 : ls0.length ≤ cap0) (hwf0 : ∀ l ∈ ls0, ∀ a ∈ l, (Lit.int .i64 a).wf = true) (w1 : (Lit.int .i64 a1).wf = true) (w2 : (Lit.int .i64 a2).wf = true) :
    Calls Try.prog 12 #[.slice a0 ls0.length cap0, .int .i64 a1, .int .i64 a2] w fun e w' => e = .returned (.bool true) ∧ Below w.heap.size w w' :=
  paronymlaw22_TrieSteps.walk0 a0 cap0 ls0 a1 a2 w hC0 hcap0
end Go.Proofs.Ytlipbiihemhieaa.Q

-- from LawTrieSteps
-- Made by hp.py, a program of this session, with the kit's printer. Not trusted: Lean checks it.
namespace Go.Proofs.Ytlipbiihemhieaa.trieSteps
open Go.ChangeShapes Go.WideShapes Go.ChangeAt Go.RowKit
open Go.ChangeMaps (open_string shut_string)
set_option linter.unusedVariables false
theorem own : ownKnob Try.prog.godebug = none := by kernel_rfl
theorem laidOut : laidOutB Try.prog = true := by kernel_rfl
def IsRow (k : IntKind) (w : World) (a : Option Addr) (len cap : Nat) (zs : List Int) : Prop :=
  (a = none ∧ len = 0 ∧ cap = 0 ∧ zs = []) ∨
  ∃ x, a = some x ∧ len ≤ cap ∧ cap ≤ maxLen ∧ zs.length = cap ∧ (∀ i, i < zs.length → w.cell? (x.add i) = some (.int k (zs.getD i 0))) ∧ ∀ n ∈ zs, (Lit.int k n).wf = true
set_option maxRecDepth 100000 in
theorem lifted (os : Os) (started : os.Started) (H : Type) (enc : TypeId × Value → H) :
    ReturnsInHanded {} Try.checked os 12 .any (Rows.trieStepsSpec.pre6 enc Try.prog Try.f12 Rows.trieStepsRow.domain false) (Rows.trieStepsSpec.post enc Try.prog Try.f12 false true false false) := by
  refine returnsInHanded_of_change_sized (C := Try.checked) own started (by kernel_rfl) Try.func12
    (ChangeSpec.witness6 (enc := enc) (C := Try.checked) false ⟨#[], #[.slice none 0 0, .int .i64 0, .int .i64 0], []⟩ 8 (by kernel_rfl) (by kernel_rfl) (by kernel_rfl) (by kernel_rfl)) ?_
  intro W base args ds gs before hval0 hW hcnd hsz0 _
  have hsz : (DataW.weightsEach Try.prog (Try.f12.params.toList ++ Rows.trieStepsSpec.plain.varTypes Try.prog) (ds ++ gs)).all (· ≤ reachBytes) = true := hsz0
  have hval : ∀ (j : Nat) t v, Try.f12.params[j]? = some t → args[j]? = some v → Value.okWide Try.prog W .any base t v := hval0
  have hW' := hW
  obtain ⟨p, q, hA0, hV, rfl, hfz, hnd⟩ := hW
  have hA : DataW.TrodAll enc Try.prog W 0 (fun _ => true) true Try.f12.params.toList args.toList ds p := hA0
  rw [Try.params12] at hA hval hsz
  obtain ⟨v0, vs0, d0, ds0, p0, q0, hargs, rfl, rfl, h0, r0⟩ := trodAll_cons hA
  obtain ⟨v1, vs1, d1, ds1, p1, q1, rfl, rfl, rfl, h1, r1⟩ := trodAll_cons r0
  obtain ⟨v2, vs2, d2, ds2, p2, q2, rfl, rfl, rfl, h2, r2⟩ := trodAll_cons r1
  obtain ⟨rfl, rfl, rfl⟩ := trodAll_nil r2
  obtain rfl : args = #[v0, v1, v2] := by cases args; simp_all
  obtain ⟨rfl, rfl⟩ := trodVars_none hV
  obtain ⟨a0, len0, cap0, rfl⟩ := okWide_slice Try.underlying24 (hval 0 24 v0 rfl rfl)
  have k0 := h0
  have lt0 : ∀ x ∈ p0, x.block < W.heap.size := by obtain ⟨m, hm⟩ := k0; exact DataW.trod_lt m _ _ _ hm
  obtain ⟨ls0, hn0, hcap0, hC0, hwf0⟩ := Q.opens_arg Try.underlying24 (by kernel_rfl) (show Q.Opens enc Try.prog W 22 (Go.Proofs.YtlipbiihemhieaaW.PrintWords.Kd.slice 3 (Go.Proofs.YtlipbiihemhieaaW.PrintWords.Kd.int .i64)) (fun l => ∀ a ∈ l, (Lit.int .i64 a).wf = true) from Q.opens_slice (by kernel_rfl) (by kernel_rfl) (Q.opens_int (by kernel_rfl))) h0
  subst hn0
  obtain ⟨a1, rfl, rfl, rfl, w1⟩ := open_int Try.underlying3 (hval 1 3 v1 rfl rfl) h1
  obtain ⟨a2, rfl, rfl, rfl, w2⟩ := open_int Try.underlying3 (hval 2 3 v2 rfl rfl) h2
  clear hA0 hval0 hsz0 hsz
  refine (Q.paronymlaw22_TrieSteps.walk a0 cap0 ls0 a1 a2 W hC0 hcap0 hwf0 w1 w2).mono fun e W' ⟨he, bel⟩ => ?_
  subst he
  exact ⟨_, rfl, _, _, _, [], _, [], hW', trodAll_mk1 (shut_bool Try.underlying4 _), (trodAll_cons_mk (Below.trod laidOut (by kernel_rfl) (of_decide_eq_true (by kernel_rfl)) k0 bel lt0) (trodAll_cons_mk (shut_int Try.underlying3 w1) (trodAll_cons_mk (shut_int Try.underlying3 w2) trodAll_mk0))), rfl, bel.frame _, fun h => by cases h⟩
theorem over : Rows.trieStepsRow.holds Try.pinned (OpenSpec.ofChange Rows.trieStepsSpec) :=
  OpenClaim.holds_of_wide 12 Try.f12 rfl rfl rfl rfl rfl rfl rfl ⟨rfl, rfl, rfl, rfl, rfl⟩ rfl rfl rfl rfl rfl (by kernel_rfl) Try.func12 (by kernel_rfl)
    (of_decide_eq_true (by kernel_rfl)) (by unfold Func.isWrapper; first | (rw [if_pos (by decide +kernel)]; kernel_rfl) | (rw [if_neg (by decide +kernel)]; exact ⟨rfl, rfl⟩))
    (fun os started H enc _ => lifted os started H enc)
theorem proved : Rows.TrieStepsSaid := over
#print axioms proved
end Go.Proofs.Ytlipbiihemhieaa.trieSteps
namespace Go.Proofs.Ytlipbiihemhieaa
/-- The row, under a short name, for the claim. -/
theorem trieSteps_holds : Rows.TrieStepsSaid := trieSteps.proved
end Go.Proofs.Ytlipbiihemhieaa
