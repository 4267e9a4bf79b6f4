/- Part 4 of 4 of the proof of TrieWalks: each pattern's way in a trie For every input; no condition. -/
import Derived.Test.YtlipbiihemhieaaCTrieWalks2
import Derived.Test.YtlipbiihemhieaaCTrieWalks3
import Derived.Test.YtlipbiihemhieaaCTrieWalks1
import Derived.IntWalk
import Derived.StillTailTactics
import Derived.BigRegion
import Derived.Deep.DeepCutAuto
import Derived.Sort.LoopGhostIn
import Derived.Deep.RegionHeld3
import Derived.Test.YtlipbiihemhieaaRows
import Derived.WalkKit
import Derived.ProofKit
import Derived.OpenShut
import Derived.ShutString
import Derived.ChangeOld
import Derived.Below
import Derived.SizedLaws
import Derived.Test.YtlipbiihemhieaaWSized

-- from Htww
/- trie's law TrieWalks: the walk. -/
namespace Go.Proofs.Ytlipbiihemhieaa.Q
open Go.RowKit Go.Proofs.YtlipbiihemhieaaW.PrintWords Go.Proofs.YtlipbiihemhieaaW.PrintLast Go.Proofs.YtlipbiihemhieaaW.PrintMore Go.Proofs.Ytlipbiihemhieaa.K
set_option linter.unusedVariables false
set_option linter.unusedSimpArgs false
attribute [local go_sem] Oper.semAt_some
theorem sameL_calls (A A' : Option Addr) (c c' : Nat) (l : List Int) (w : World) (hr : Kd.C (Kd.int .i64) w A l.length l) (hc : l.length ≤ c) (hr' : Kd.C (Kd.int .i64) w A' l.length l) (hc' : l.length ≤ c') (hl : l.length ≤ 1000) :
    Calls Try.prog 20 #[.slice A l.length c, .slice A' l.length c'] w fun e w' => e = .returned (.bool true) ∧ Below w.heap.size w w' := by
  obtain ⟨k, hk⟩ := (refSame_ev l l (by omega) (by omega)).rounds
  rw [decide_eq_true rfl] at hk
  exact (paronymref01_Same.calls k A c l A' c' l true w hr hc hr' hc' hk).mono fun e w' h => ⟨h.1, h.2.below⟩
/-- What a round of the range in TrieWalks keeps: the count lies in its cell. -/
def twI (WD : World) (m : Nat) (pre : List S112) (W : World) : Prop := Below WD.heap.size WD W ∧ ∃ q : Nat, q ≤ m ∧ Boxed W WD.heap.size 3 (.int .i64 (q : Int))
theorem twI_own (WD : World) (m B : Nat) (hB : WD.heap.size ≤ B) : OwnFrom B (twI WD m) := fun s W W' row hs hg hr => by
  obtain ⟨h1, q, h2, h3⟩ := hs
  exact ⟨ownFrom_below (β := Unit) (Nat.le_refl _) hB () W W' row h1 hg hr, q, h2, boxed_own WD.heap.size 3 (fun _ : Unit => .int .i64 (q : Int)) () W W' row h3 hg (fun r e => (hr r e).2)⟩
theorem upB {W W' : World} {k : Nat} {t : TypeId} {v : Value} (h : Boxed W k t v) (hb : Below W.heap.size W W') : Boxed W' k t v := (hb.block _ h.lt).trans h
set_option maxHeartbeats 4000000 in
set_option maxRecDepth 100000 in
theorem paronymlaw22_TrieWalks.out (A : Option Addr) (ca : Nat) (P : List (List Int)) (m : Nat) (w : World) (hp : Kd.C (Kd.slice 3 (Kd.int .i64)) w A P.length P) (hc : P.length ≤ ca) (h : smallB P 30 = false ∨ decide (idxE 0 P ≥ 0) = true) :
    Calls Try.prog 13 #[.slice A P.length ca, .int .u8 (m : Int)] w fun e w' => e = .returned (.bool true) ∧ Below w.heap.size w w' := by
  have HP := Aside0.mk hp
  have HC := Aside0.mk hc
  have HB0 : Aside0 (Below w.heap.size w (w.alloc (.cells #[.int .u8 (m : Int)] 5))) := ⟨(Below.refl _ w).alloc (Nat.le_refl _) _⟩
  clear hp hc
  go_enter Try.func13, Try.ntmps13
  cases hS : smallB P 30 with
  | false =>
    clear h
    go_wp2_with (first
      | (go_at_call 42; (with_reducible refine (paronymlaw22_awake.calls0 _).mono ?_); rintro e w1 ⟨rfl, hb1⟩; have HB1 : Aside0 (Below w.heap.size w w1) := ⟨Below.trans (by first | exact HB0.out | exact pw_below_drewN HB0.out _) (hb1.mono (by first | exact HB0.out.size | exact (pw_below_drewN HB0.out _).size))⟩; clear HB0; have HB0 := HB1; clear HB1 hb1)
      | (go_at_call 43; refine (lawSmall.calls A ca P 30 (by decide) _ (Kd.C_below HP.out HB0.out) HC.out).mono ?_; rintro e w2 ⟨rfl, ⟨m2, rfl⟩⟩; rw [hS]))
    go_ret
    exact ⟨rfl, HB0.out⟩
  | true =>
    obtain ⟨h1, h2⟩ := smallB_t hS
    have hE : decide (idxE 0 P ≥ 0) = true := by rcases h with h | h; (rw [hS] at h; cases h); exact h
    clear h
    go_wp2_with (first
      | (go_at_call 42; (with_reducible refine (paronymlaw22_awake.calls0 _).mono ?_); rintro e w1 ⟨rfl, hb1⟩; have HB1 : Aside0 (Below w.heap.size w w1) := ⟨Below.trans (by first | exact HB0.out | exact pw_below_drewN HB0.out _) (hb1.mono (by first | exact HB0.out.size | exact (pw_below_drewN HB0.out _).size))⟩; clear HB0; have HB0 := HB1; clear HB1 hb1)
      | (go_at_call 43; refine (lawSmall.calls A ca P 30 (by decide) _ (Kd.C_below HP.out HB0.out) HC.out).mono ?_; rintro e w2 ⟨rfl, ⟨m2, rfl⟩⟩; rw [hS])
      | (go_at_call 45; refine (lawEmpty.calls A ca P (by omega) _ (Kd.C_below HP.out (pw_below_drewN HB0.out _)) HC.out).mono ?_; rintro e w3 ⟨rfl, ⟨m3, rfl⟩⟩; rw [hE]))
    go_ret
    exact ⟨rfl, HB0.out⟩
set_option maxHeartbeats 4000000 in
set_option maxRecDepth 100000 in
theorem paronymlaw22_TrieWalks.main (A : Option Addr) (ca : Nat) (P : List (List Int)) (m : Nat) (w : World) (hp : Kd.C (Kd.slice 3 (Kd.int .i64)) w A P.length P) (hc : P.length ≤ ca) (hm : m ≤ 255) (hS : smallB P 30 = true) (hE : decide (idxE 0 P ≥ 0) = false) :
    Calls Try.prog 13 #[.slice A P.length ca, .int .u8 (m : Int)] w fun e w' => e = .returned (.bool true) ∧ Below w.heap.size w w' := by
  obtain ⟨h1, h2⟩ := smallB_t hS
  have h1' : P.length ≤ 300 := by omega
  have h2' : ∀ p ∈ P, p.length ≤ 300 := fun p hp => by have := h2 p hp; omega
  obtain ⟨T, hT⟩ : ∃ T, T = allT [[]] P := ⟨_, rfl⟩
  have hTl : T.length ≤ 100000 := by have := allT_len P [[]] h2'; rw [← hT] at this; simp at this; omega
  have HP := Aside0.mk hp
  have HC := Aside0.mk hc
  have HM := Aside0.mk hm
  have HB0 : Aside0 (Below (w.alloc (.cells #[.int .u8 (m : Int)] 5)).heap.size (w.alloc (.cells #[.int .u8 (m : Int)] 5)) (w.alloc (.cells #[.int .u8 (m : Int)] 5))) := ⟨Below.refl _ _⟩
  have HPA : Aside0 (Kd.C (Kd.slice 3 (Kd.int .i64)) (w.alloc (.cells #[.int .u8 (m : Int)] 5)) A P.length P) := ⟨Kd.C_below hp ((Below.refl _ w).alloc (Nat.le_refl _) _)⟩
  have HX0 := Aside0.mk (Boxed.new w 5 (.int .u8 (m : Int)))
  have H1 := Aside0.mk h1'
  have H2 := Aside0.mk h2
  have H2' := Aside0.mk h2'
  have HTT := Aside0.mk hT
  have HTL := Aside0.mk hTl
  clear h1 h2 h1' h2' hT hTl hp hc hm
  refine (callsIn_wide (n := 20)).1 ?_
  refine callsIn_of_wp_marks Try.func13 rfl trivial ?_ rfl
  simp only [Try.ntmps13, List.size_toArray, List.length_cons, List.length_nil, Nat.reduceAdd, Nat.reduceSub, Array.replicate_succ, Array.replicate_zero, List.push_toArray, List.append_toArray, List.nil_append, List.cons_append]
  refine wpIn_wide.2 ?_
  go_wp2_with (first
    | (go_at_call 42; (with_reducible refine (paronymlaw22_awake.calls0 _).mono ?_); rintro e w1 ⟨rfl, hb1⟩; have HB1 : Aside0 (Below (w.alloc (.cells #[.int .u8 (m : Int)] 5)).heap.size (w.alloc (.cells #[.int .u8 (m : Int)] 5)) w1) := ⟨Below.trans (by first | exact HB0.out | exact pw_below_drewN HB0.out _) (hb1.mono (by first | exact HB0.out.size | exact (pw_below_drewN HB0.out _).size))⟩; clear HB0; have HB0 := HB1; clear HB1 hb1)
    | (go_at_call 43; refine (lawSmall.calls A ca P 30 (by decide) _ (Kd.C_below HPA.out HB0.out) HC.out).mono ?_; rintro e w2 ⟨rfl, ⟨m2, rfl⟩⟩; rw [hS])
    | (go_at_call 45; refine (lawEmpty.calls A ca P (by have := H1.out; omega) _ (Kd.C_below HPA.out (pw_below_drewN HB0.out _)) HC.out).mono ?_; rintro e w3 ⟨rfl, ⟨m3, rfl⟩⟩; rw [hE])
    | (go_at_call 44; refine (lawNew.calls A ca P H1.out H2'.out hE _ (Kd.C_below HPA.out (pw_below_drewN HB0.out _)) HC.out).mono ?_; rintro e w4 ⟨g, N, rfl, hR4, hTri4, hb4⟩; rw [← HTT.out] at hTri4; have HR4 := Aside0.mk hR4; have HTR := Aside0.mk hTri4; have HB4 : Aside0 (Below (w.alloc (.cells #[.int .u8 (m : Int)] 5)).heap.size (w.alloc (.cells #[.int .u8 (m : Int)] 5)) w4) := ⟨(pw_below_drewN HB0.out _).trans (hb4.mono (pw_below_drewN HB0.out _).size)⟩; clear hR4 hTri4 hb4))
  -- TAIL
  have HPL0 : Aside0 (Kd.C (Kd.slice 3 (Kd.int .i64)) w4 A P.length P) := ⟨Kd.C_below HPA.out HB4.out⟩
  have HX4 : Aside0 (Boxed w4 w.heap.size 5 (.int .u8 (m : Int))) := ⟨upB HX0.out HB4.out⟩
  have HW4 : Aside0 (Below w.heap.size w w4) := ⟨((Below.refl _ w).alloc (Nat.le_refl _) _).trans (HB4.out.mono (by simp))⟩
  refine wp_loop_ghost_k (fun kq a_ W => ∃ (Ds : List Nat) (u7 u8 u9 u10 u11 u12 u13 u14 u15 u35 u36 u37 u38 u39 u40 u41 u42 u43 u44 u45 u46 u47 u48 u49 u50 u51 u52 u53 u54 u55 u56 u57 u58 u59 u60 u61 u62 u63 u64 u65 u66 u67 u68 u69 u70 u71 u72 u73 u74 u75 u76 u77 u78 u79 u80 u81 u82 u83 u84 u85 u86 u87 u88 u89 u90 u91 u92 u93 u94 u95 u96 u97 u98 u99 u100 u101 u102 u103 u104 u105 u106 u107 u108 u109 u110 u111 u112 u113 u114 u115 u116 u117 u118 u119 : Value), (∃ i : Nat, u7 = .int .i64 (i : Int) ∧ Aside0 (i + kq = P.length + 1 ∧ i ≤ P.length) ∧ Aside0 (Below w4.heap.size w4 W) ∧ Aside0 (MarksIn w4.heap.size Ds W)) ∧ a_ = { tmps := #[(.slice A P.length ca : Value), (.int IntKind.u8 (m : Int) : Value), (undef : Value), (.pointer (some ⟨w.heap.size, 0, none⟩) : Value), (.bool false : Value), (.pointer (some ⟨g, 0, none⟩) : Value), (.int IntKind.i64 0 : Value), (u7 : Value), (u8 : Value), (u9 : Value), (u10 : Value), (u11 : Value), (u12 : Value), (u13 : Value), (u14 : Value), (u15 : Value), (.bool true : Value), (.bool false : Value), (.bool false : Value), (.slice A P.length ca : Value), (.bool true : Value), (.bool false : Value), (.bool false : Value), (.bool false : Value), (.slice A P.length ca : Value), (.bool false : Value), (.bool false : Value), (undef : Value), (.tuple #[Value.pointer (some ⟨g, 0, none⟩), Value.int IntKind.i64 0] : Value), (.slice A P.length ca : Value), (.tuple #[Value.pointer (some ⟨g, 0, none⟩), Value.int IntKind.i64 0] : Value), (.pointer (some ⟨g, 0, none⟩) : Value), (.int IntKind.i64 0 : Value), (.pointer (some ⟨g, 0, none⟩) : Value), (.bool false : Value), (u35 : Value), (u36 : Value), (u37 : Value), (u38 : Value), (u39 : Value), (u40 : Value), (u41 : Value), (u42 : Value), (u43 : Value), (u44 : Value), (u45 : Value), (u46 : Value), (u47 : Value), (u48 : Value), (u49 : Value), (u50 : Value), (u51 : Value), (u52 : Value), (u53 : Value), (u54 : Value), (u55 : Value), (u56 : Value), (u57 : Value), (u58 : Value), (u59 : Value), (u60 : Value), (u61 : Value), (u62 : Value), (u63 : Value), (u64 : Value), (u65 : Value), (u66 : Value), (u67 : Value), (u68 : Value), (u69 : Value), (u70 : Value), (u71 : Value), (u72 : Value), (u73 : Value), (u74 : Value), (u75 : Value), (u76 : Value), (u77 : Value), (u78 : Value), (u79 : Value), (u80 : Value), (u81 : Value), (u82 : Value), (u83 : Value), (u84 : Value), (u85 : Value), (u86 : Value), (u87 : Value), (u88 : Value), (u89 : Value), (u90 : Value), (u91 : Value), (u92 : Value), (u93 : Value), (u94 : Value), (u95 : Value), (u96 : Value), (u97 : Value), (u98 : Value), (u99 : Value), (u100 : Value), (u101 : Value), (u102 : Value), (u103 : Value), (u104 : Value), (u105 : Value), (u106 : Value), (u107 : Value), (u108 : Value), (u109 : Value), (u110 : Value), (u111 : Value), (u112 : Value), (u113 : Value), (u114 : Value), (u115 : Value), (u116 : Value), (u117 : Value), (u118 : Value), (u119 : Value)], defers := marks Ds }) (P.length + 1) ?start ?round
  case start => exact ⟨[], _, _, _, _, _, _, _, _, _, _, _, _, _, _, _, _, _, _, _, _, _, _, _, _, _, _, _, _, _, _, _, _, _, _, _, _, _, _, _, _, _, _, _, _, _, _, _, _, _, _, _, _, _, _, _, _, _, _, _, _, _, _, _, _, _, _, _, _, _, _, _, _, _, _, _, _, _, _, _, _, _, _, _, _, _, _, _, _, _, _, _, _, _, _, ⟨0, rfl, ⟨by omega, by omega⟩, ⟨Below.refl _ _⟩, ⟨MarksIn.nil _ _⟩⟩, rfl⟩
  case round =>
    intro kq _ W1 hinv J K hJ hK
    obtain ⟨Ds, hinv⟩ := hinv
    obtain ⟨u7, hinv⟩ := hinv
    obtain ⟨u8, hinv⟩ := hinv
    obtain ⟨u9, hinv⟩ := hinv
    obtain ⟨u10, hinv⟩ := hinv
    obtain ⟨u11, hinv⟩ := hinv
    obtain ⟨u12, hinv⟩ := hinv
    obtain ⟨u13, hinv⟩ := hinv
    obtain ⟨u14, hinv⟩ := hinv
    obtain ⟨u15, hinv⟩ := hinv
    obtain ⟨u35, hinv⟩ := hinv
    obtain ⟨u36, hinv⟩ := hinv
    obtain ⟨u37, hinv⟩ := hinv
    obtain ⟨u38, hinv⟩ := hinv
    obtain ⟨u39, hinv⟩ := hinv
    obtain ⟨u40, hinv⟩ := hinv
    obtain ⟨u41, hinv⟩ := hinv
    obtain ⟨u42, hinv⟩ := hinv
    obtain ⟨u43, hinv⟩ := hinv
    obtain ⟨u44, hinv⟩ := hinv
    obtain ⟨u45, hinv⟩ := hinv
    obtain ⟨u46, hinv⟩ := hinv
    obtain ⟨u47, hinv⟩ := hinv
    obtain ⟨u48, hinv⟩ := hinv
    obtain ⟨u49, hinv⟩ := hinv
    obtain ⟨u50, hinv⟩ := hinv
    obtain ⟨u51, hinv⟩ := hinv
    obtain ⟨u52, hinv⟩ := hinv
    obtain ⟨u53, hinv⟩ := hinv
    obtain ⟨u54, hinv⟩ := hinv
    obtain ⟨u55, hinv⟩ := hinv
    obtain ⟨u56, hinv⟩ := hinv
    obtain ⟨u57, hinv⟩ := hinv
    obtain ⟨u58, hinv⟩ := hinv
    obtain ⟨u59, hinv⟩ := hinv
    obtain ⟨u60, hinv⟩ := hinv
    obtain ⟨u61, hinv⟩ := hinv
    obtain ⟨u62, hinv⟩ := hinv
    obtain ⟨u63, hinv⟩ := hinv
    obtain ⟨u64, hinv⟩ := hinv
    obtain ⟨u65, hinv⟩ := hinv
    obtain ⟨u66, hinv⟩ := hinv
    obtain ⟨u67, hinv⟩ := hinv
    obtain ⟨u68, hinv⟩ := hinv
    obtain ⟨u69, hinv⟩ := hinv
    obtain ⟨u70, hinv⟩ := hinv
    obtain ⟨u71, hinv⟩ := hinv
    obtain ⟨u72, hinv⟩ := hinv
    obtain ⟨u73, hinv⟩ := hinv
    obtain ⟨u74, hinv⟩ := hinv
    obtain ⟨u75, hinv⟩ := hinv
    obtain ⟨u76, hinv⟩ := hinv
    obtain ⟨u77, hinv⟩ := hinv
    obtain ⟨u78, hinv⟩ := hinv
    obtain ⟨u79, hinv⟩ := hinv
    obtain ⟨u80, hinv⟩ := hinv
    obtain ⟨u81, hinv⟩ := hinv
    obtain ⟨u82, hinv⟩ := hinv
    obtain ⟨u83, hinv⟩ := hinv
    obtain ⟨u84, hinv⟩ := hinv
    obtain ⟨u85, hinv⟩ := hinv
    obtain ⟨u86, hinv⟩ := hinv
    obtain ⟨u87, hinv⟩ := hinv
    obtain ⟨u88, hinv⟩ := hinv
    obtain ⟨u89, hinv⟩ := hinv
    obtain ⟨u90, hinv⟩ := hinv
    obtain ⟨u91, hinv⟩ := hinv
    obtain ⟨u92, hinv⟩ := hinv
    obtain ⟨u93, hinv⟩ := hinv
    obtain ⟨u94, hinv⟩ := hinv
    obtain ⟨u95, hinv⟩ := hinv
    obtain ⟨u96, hinv⟩ := hinv
    obtain ⟨u97, hinv⟩ := hinv
    obtain ⟨u98, hinv⟩ := hinv
    obtain ⟨u99, hinv⟩ := hinv
    obtain ⟨u100, hinv⟩ := hinv
    obtain ⟨u101, hinv⟩ := hinv
    obtain ⟨u102, hinv⟩ := hinv
    obtain ⟨u103, hinv⟩ := hinv
    obtain ⟨u104, hinv⟩ := hinv
    obtain ⟨u105, hinv⟩ := hinv
    obtain ⟨u106, hinv⟩ := hinv
    obtain ⟨u107, hinv⟩ := hinv
    obtain ⟨u108, hinv⟩ := hinv
    obtain ⟨u109, hinv⟩ := hinv
    obtain ⟨u110, hinv⟩ := hinv
    obtain ⟨u111, hinv⟩ := hinv
    obtain ⟨u112, hinv⟩ := hinv
    obtain ⟨u113, hinv⟩ := hinv
    obtain ⟨u114, hinv⟩ := hinv
    obtain ⟨u115, hinv⟩ := hinv
    obtain ⟨u116, hinv⟩ := hinv
    obtain ⟨u117, hinv⟩ := hinv
    obtain ⟨u118, hinv⟩ := hinv
    obtain ⟨u119, hinv⟩ := hinv
    obtain ⟨⟨i, rfl, HI, HBW, HMK⟩, ha⟩ := hinv
    subst ha
    dsimp only
    cases kq with
    | zero => exact absurd HI.out (by omega)
    | succ kq =>
    by_cases c1 : (i : Int) < (P.length : Int)
    · have hi : i < P.length := by omega
      obtain ⟨p, hp⟩ : ∃ p, p = P[i] := ⟨_, rfl⟩
      have hpP : p ∈ P := hp ▸ List.getElem_mem hi
      have HPP := Aside0.mk hpP
      have HPE : Aside0 (rd_L1 P (i : Int) = p) := ⟨by rw [rdL1 i hi]; exact hp.symm⟩
      have HPI : Aside0 (P[i]? = some p) := ⟨by rw [hp]; exact List.getElem?_eq_getElem hi⟩
      have hpl : p.length ≤ 1000 := by have := H2.out p hpP; omega
      have HPL := Aside0.mk hpl
      have HJ := Aside0.mk hJ
      have e0 := eq_true c1
      have e1 : decide ((i : Int) < (P.length : Int)) = true := decide_eq_true c1
      have HII := Aside0.mk c1
      clear hi hp hpP hpl hJ c1
      go_wp2
      refine wp_loop_ghost_k (fun kq2 a_ W => ∃ (Ds2 : List Nat) (v8 v9 v10 v11 v12 v41 v42 v43 v44 v45 v46 v47 v48 v49 v50 v51 v52 v53 v54 v55 v56 v57 v58 v59 v60 v61 v62 v63 v64 v65 v66 v67 v68 v69 v70 v71 v72 v73 v74 v75 v76 v77 v78 v79 v80 v81 v82 v83 v84 v85 v86 v87 v88 : Value), (∃ k b : Nat, v8 = .int .i64 (b : Int) ∧ v9 = .int .i64 (k : Int) ∧ Aside0 (k + kq2 = p.length + 1 ∧ k ≤ p.length) ∧ Aside0 (T[b]? = some (p.take k)) ∧ Aside0 (Below w4.heap.size w4 W) ∧ Aside0 (MarksIn w4.heap.size Ds2 W)) ∧ a_ = { tmps := #[(.slice A P.length ca : Value), (.int IntKind.u8 (m : Int) : Value), (undef : Value), (.pointer (some ⟨w.heap.size, 0, none⟩) : Value), (.bool false : Value), (.pointer (some ⟨g, 0, none⟩) : Value), (.int IntKind.i64 0 : Value), (.int .i64 (i : Int) : Value), (v8 : Value), (v9 : Value), (v10 : Value), (v11 : Value), (v12 : Value), (u13 : Value), (u14 : Value), (u15 : Value), (.bool true : Value), (.bool false : Value), (.bool false : Value), (.slice A P.length ca : Value), (.bool true : Value), (.bool false : Value), (.bool false : Value), (.bool false : Value), (.slice A P.length ca : Value), (.bool false : Value), (.bool false : Value), (undef : Value), (.tuple #[Value.pointer (some ⟨g, 0, none⟩), Value.int IntKind.i64 0] : Value), (.slice A P.length ca : Value), (.tuple #[Value.pointer (some ⟨g, 0, none⟩), Value.int IntKind.i64 0] : Value), (.pointer (some ⟨g, 0, none⟩) : Value), (.int IntKind.i64 0 : Value), (.pointer (some ⟨g, 0, none⟩) : Value), (.bool false : Value), (.int .i64 (i : Int) : Value), (.slice A P.length ca : Value), (.int .i64 (P.length : Int) : Value), (.bool true : Value), (u39 : Value), (u40 : Value), (v41 : Value), (v42 : Value), (v43 : Value), (v44 : Value), (v45 : Value), (v46 : Value), (v47 : Value), (v48 : Value), (v49 : Value), (v50 : Value), (v51 : Value), (v52 : Value), (v53 : Value), (v54 : Value), (v55 : Value), (v56 : Value), (v57 : Value), (v58 : Value), (v59 : Value), (v60 : Value), (v61 : Value), (v62 : Value), (v63 : Value), (v64 : Value), (v65 : Value), (v66 : Value), (v67 : Value), (v68 : Value), (v69 : Value), (v70 : Value), (v71 : Value), (v72 : Value), (v73 : Value), (v74 : Value), (v75 : Value), (v76 : Value), (v77 : Value), (v78 : Value), (v79 : Value), (v80 : Value), (v81 : Value), (v82 : Value), (v83 : Value), (v84 : Value), (v85 : Value), (v86 : Value), (v87 : Value), (v88 : Value), (u89 : Value), (u90 : Value), (u91 : Value), (u92 : Value), (u93 : Value), (u94 : Value), (u95 : Value), (u96 : Value), (u97 : Value), (u98 : Value), (u99 : Value), (u100 : Value), (u101 : Value), (u102 : Value), (u103 : Value), (u104 : Value), (u105 : Value), (u106 : Value), (u107 : Value), (u108 : Value), (u109 : Value), (u110 : Value), (u111 : Value), (u112 : Value), (u113 : Value), (u114 : Value), (u115 : Value), (u116 : Value), (u117 : Value), (u118 : Value), (u119 : Value)], defers := marks Ds2 }) (p.length + 1) ?start2 ?round2
      case start2 => exact ⟨Ds, _, _, _, _, _, _, _, _, _, _, _, _, _, _, _, _, _, _, _, _, _, _, _, _, _, _, _, _, _, _, _, _, _, _, _, _, _, _, _, _, _, _, _, _, _, _, _, _, _, _, _, _, _, ⟨0, 0, rfl, rfl, ⟨by omega, by omega⟩, ⟨by rw [List.take_zero]; exact HTR.out.tr.root⟩, HBW, HMK⟩, rfl⟩
      case round2 =>
        clear HBW HMK
        intro kq2 _ W2 hinv2 J2 K2 hJ2 hK2
        obtain ⟨Ds2, hinv2⟩ := hinv2
        obtain ⟨v8, hinv2⟩ := hinv2
        obtain ⟨v9, hinv2⟩ := hinv2
        obtain ⟨v10, hinv2⟩ := hinv2
        obtain ⟨v11, hinv2⟩ := hinv2
        obtain ⟨v12, hinv2⟩ := hinv2
        obtain ⟨v41, hinv2⟩ := hinv2
        obtain ⟨v42, hinv2⟩ := hinv2
        obtain ⟨v43, hinv2⟩ := hinv2
        obtain ⟨v44, hinv2⟩ := hinv2
        obtain ⟨v45, hinv2⟩ := hinv2
        obtain ⟨v46, hinv2⟩ := hinv2
        obtain ⟨v47, hinv2⟩ := hinv2
        obtain ⟨v48, hinv2⟩ := hinv2
        obtain ⟨v49, hinv2⟩ := hinv2
        obtain ⟨v50, hinv2⟩ := hinv2
        obtain ⟨v51, hinv2⟩ := hinv2
        obtain ⟨v52, hinv2⟩ := hinv2
        obtain ⟨v53, hinv2⟩ := hinv2
        obtain ⟨v54, hinv2⟩ := hinv2
        obtain ⟨v55, hinv2⟩ := hinv2
        obtain ⟨v56, hinv2⟩ := hinv2
        obtain ⟨v57, hinv2⟩ := hinv2
        obtain ⟨v58, hinv2⟩ := hinv2
        obtain ⟨v59, hinv2⟩ := hinv2
        obtain ⟨v60, hinv2⟩ := hinv2
        obtain ⟨v61, hinv2⟩ := hinv2
        obtain ⟨v62, hinv2⟩ := hinv2
        obtain ⟨v63, hinv2⟩ := hinv2
        obtain ⟨v64, hinv2⟩ := hinv2
        obtain ⟨v65, hinv2⟩ := hinv2
        obtain ⟨v66, hinv2⟩ := hinv2
        obtain ⟨v67, hinv2⟩ := hinv2
        obtain ⟨v68, hinv2⟩ := hinv2
        obtain ⟨v69, hinv2⟩ := hinv2
        obtain ⟨v70, hinv2⟩ := hinv2
        obtain ⟨v71, hinv2⟩ := hinv2
        obtain ⟨v72, hinv2⟩ := hinv2
        obtain ⟨v73, hinv2⟩ := hinv2
        obtain ⟨v74, hinv2⟩ := hinv2
        obtain ⟨v75, hinv2⟩ := hinv2
        obtain ⟨v76, hinv2⟩ := hinv2
        obtain ⟨v77, hinv2⟩ := hinv2
        obtain ⟨v78, hinv2⟩ := hinv2
        obtain ⟨v79, hinv2⟩ := hinv2
        obtain ⟨v80, hinv2⟩ := hinv2
        obtain ⟨v81, hinv2⟩ := hinv2
        obtain ⟨v82, hinv2⟩ := hinv2
        obtain ⟨v83, hinv2⟩ := hinv2
        obtain ⟨v84, hinv2⟩ := hinv2
        obtain ⟨v85, hinv2⟩ := hinv2
        obtain ⟨v86, hinv2⟩ := hinv2
        obtain ⟨v87, hinv2⟩ := hinv2
        obtain ⟨v88, hinv2⟩ := hinv2
        obtain ⟨⟨k, b, rfl, rfl, HK, HTB, HBW, HMK⟩, ha⟩ := hinv2
        subst ha
        dsimp only
        have hP2 := Kd.C_below HPL0.out HBW.out
        obtain ⟨ad, A7, c7, e7, hx7, hl7, hi7⟩ := at_L1 hP2 (i : Int) (by omega) HII.out
        cases e7
        have hrd : rd_L1 P (i : Int) = p := HPE.out
        rw [hrd] at hx7 hl7 hi7
        rw [Int.toNat_natCast] at hx7
        have HI7 := Aside0.mk hi7
        have HX7 := Aside0.mk hx7
        have HL7 := Aside0.mk hl7
        have HRE := Aside0.mk (HR4.out.below HBW.out)
        clear hP2 hrd hl7 hi7
        cases kq2 with
        | zero => exact absurd HK.out (by omega)
        | succ kq2 =>
        by_cases c2 : (k : Int) < (p.length : Int)
        · have hk : k < p.length := by omega
          obtain ⟨b2, hf, hb2⟩ := walk_step (P := P) (by rw [← HTT.out]; exact HTR.out.tr.nd) HPP.out hk
          rw [← HTT.out] at hf hb2
          obtain ⟨c, hcc⟩ : ∃ c, c = p[k] := ⟨_, rfl⟩
          rw [← hcc] at hf
          obtain ⟨adp, e9, hxk⟩ := Kd.at_int HI7.out (k : Int) (by omega) c2
          rw [Int.toNat_natCast] at hxk
          subst e9
          have hrk : rd p (k : Int) = c := by rw [hcc]; unfold rd; rw [Int.toNat_natCast, List.getD_eq_getElem?_getD, List.getElem?_eq_getElem hk]; rfl
          rw [hrk] at hxk
          have HF := Aside0.mk hf
          have HB2 := Aside0.mk hb2
          have HC2 := Aside0.mk c2
          have HJ2 := Aside0.mk hJ2
          have e2 := eq_true c2
          have e3 : decide ((k : Int) < (p.length : Int)) = true := decide_eq_true c2
          have HKK : Aside0 (k ≤ 30) := ⟨by have := H2.out p HPP.out; omega⟩
          have hkk := HKK.out
          have w1_ : IntKind.i64.wrap ((k : Int) + 1) = (k : Int) + 1 := Go.IntWalk.i64_in _ (by omega)
          have w2_ : wrap64 ((k : Int) + 1) = (k : Int) + 1 := w64 (by omega) (by omega)
          clear hk hf hb2 hcc hrk c2 hJ2 hkk
          go_wp2_with (first
            | (go_at_call 55; refine (lawStep.calls HTR.out.tr HTL.out HTB.out _ c _ HRE.out).mono ?_; rintro e wA ⟨rfl, hbA⟩; rw [HF.out, show max (b2 : Int) 0 = (b2 : Int) from by omega, show decide (0 ≤ (b2 : Int)) = true from decide_eq_true (by omega)]; have HBA := Aside0.mk hbA; clear hbA)
            | (go_at_call 49; refine (lawDepth.calls HTR.out.tr HB2.out _ _ (HRE.out.below HBA.out)).mono ?_; rintro e WD ⟨rfl, hbD⟩; rw [show ((p.take (k + 1)).length : Int) = (k : Int) + 1 from by rw [List.length_take]; have := HC2.out; omega]; have HBD := Aside0.mk hbD; clear hbD)
            | (go_at_call 53; refine (trie_Edges.calls _ (b : Int) _).mono ?_; rintro e wB ⟨rfl, rfl⟩))
          have hsz8 : (((WD.alloc (.cells #[.int .i64 0] 3)).alloc (.cells #[.pointer (some ⟨g, 0, none⟩)] 71)).alloc (.cells #[.int .i64 (b : Int)] 3)).heap.size = WD.heap.size + 3 := by simp
          have hb8 : Below WD.heap.size WD (((WD.alloc (.cells #[.int .i64 0] 3)).alloc (.cells #[.pointer (some ⟨g, 0, none⟩)] 71)).alloc (.cells #[.int .i64 (b : Int)] 3)) := (((Below.refl _ WD).alloc (Nat.le_refl _) _).alloc (by simp) _).alloc (by simp; omega) _
          have hc8 : Boxed (((WD.alloc (.cells #[.int .i64 0] 3)).alloc (.cells #[.pointer (some ⟨g, 0, none⟩)] 71)).alloc (.cells #[.int .i64 (b : Int)] 3)) WD.heap.size 3 (.int .i64 0) := ((Boxed.new WD _ _).alloc _).alloc _
          have ht8 : Boxed (((WD.alloc (.cells #[.int .i64 0] 3)).alloc (.cells #[.pointer (some ⟨g, 0, none⟩)] 71)).alloc (.cells #[.int .i64 (b : Int)] 3)) (WD.heap.size + 1) 71 (.pointer (some ⟨g, 0, none⟩)) := by
            have := (Boxed.new (WD.alloc (.cells #[.int .i64 0] 3)) 71 (.pointer (some ⟨g, 0, none⟩))).alloc (.cells #[.int .i64 (b : Int)] 3)
            rwa [World.size_alloc] at this
          have hn8 : Boxed (((WD.alloc (.cells #[.int .i64 0] 3)).alloc (.cells #[.pointer (some ⟨g, 0, none⟩)] 71)).alloc (.cells #[.int .i64 (b : Int)] 3)) (WD.heap.size + 2) 3 (.int .i64 (b : Int)) := by
            have := Boxed.new ((WD.alloc (.cells #[.int .i64 0] 3)).alloc (.cells #[.pointer (some ⟨g, 0, none⟩)] 71)) 3 (.int .i64 (b : Int))
            rwa [World.size_alloc, World.size_alloc] at this
          generalize hw8 : (((WD.alloc (.cells #[.int .i64 0] 3)).alloc (.cells #[.pointer (some ⟨g, 0, none⟩)] 71)).alloc (.cells #[.int .i64 (b : Int)] 3)) = w8 at *
          clear hw8
          have hRD := (HRE.out.below HBA.out).below HBD.out
          have hst := trie_Edges.stops _ N (b : Int) WD w8 (fun k => WD.heap.size ≤ k) hRD hb8 (fun k h => h) (WD.heap.size + 1) (WD.heap.size + 2) ht8 hn8 (by
            obtain ⟨x, hx, hn⟩ := node_of HTR.out.tr HTB.out
            rw [node_in hx]
            have := hn.few
            have := HTL.out
            omega) 19 (by omega)
          have HST := Aside0.mk hst
          have hX2 : Boxed W2 w.heap.size 5 (.int .u8 (m : Int)) := upB HX4.out (HBW.out)
          have HXD : Aside0 (Boxed WD w.heap.size 5 (.int .u8 (m : Int))) := ⟨upB (upB hX2 HBA.out) HBD.out⟩
          have HC8 := Aside0.mk hc8
          have HS8 := Aside0.mk hsz8
          have HB8 := Aside0.mk hb8
          have HBDD : Aside0 (Below W2.heap.size W2 WD) := ⟨HBA.out.trans (HBD.out.mono HBA.out.size)⟩
          clear hRD hst hX2 hc8 hsz8 hb8 ht8 hn8
          have hmm := HM.out
          have b0 : 0 ≤ (m : Int) := by omega
          have b2_ : IntKind.i64.wrap (m : Int) = (m : Int) := Go.IntWalk.i64_in _ (by omega)
          have b3_ : wrap64 (m : Int) = (m : Int) := w64 (by omega) (by omega)
          clear hmm
          refine (wpIn_wide (n := 20)).1 ?_
          refine wpIn_range_pr rfl (by omega) (gf := 73) (lb := #[.pointer (some ⟨WD.heap.size + 1, 0, none⟩), .pointer (some ⟨WD.heap.size + 2, 0, none⟩)]) rfl trivial (enters_of Try.func73 (by kernel_rfl) rfl)
            HST.out KeepC.trans keepC_put (Below.refl _ _) (fun _ => rfl) (fun x s W W' row hs hg hr => trivial)
            (twI WD m) (fun c xs W => c = .exit 4 ∧ twI WD m xs W) (twI_own WD m _ (by have := HS8.out; omega)) (fun c s W W' row hs hg hr => ⟨hs.1, twI_own WD m _ (by have := HS8.out; omega) s W W' row hs.2 hg hr⟩) ⟨HB8.out, 0, Nat.zero_le _, HC8.out⟩ (fun x => { tmps := #[(.slice (some ad) P.length ca : Value), (.int IntKind.u8 (m : Int) : Value), (undef : Value), (.pointer (some ⟨w.heap.size, 0, none⟩) : Value), (.bool false : Value), (.pointer (some ⟨g, 0, none⟩) : Value), (.int IntKind.i64 0 : Value), (.int IntKind.i64 (i : Int) : Value), (.int IntKind.i64 (b : Int) : Value), (.int IntKind.i64 (k : Int) : Value), (.int IntKind.i64 (b2 : Int) : Value), (.bool true : Value), (.pointer (some ⟨WD.heap.size, 0, none⟩) : Value), (u13 : Value), (u14 : Value), (u15 : Value), (.bool true : Value), (.bool false : Value), (.bool false : Value), (.slice (some ad) P.length ca : Value), (.bool true : Value), (.bool false : Value), (.bool false : Value), (.bool false : Value), (.slice (some ad) P.length ca : Value), (.bool false : Value), (.bool false : Value), (undef : Value), (.tuple #[Value.pointer (some ⟨g, 0, none⟩), Value.int IntKind.i64 0] : Value), (.slice (some ad) P.length ca : Value), (.tuple #[Value.pointer (some ⟨g, 0, none⟩), Value.int IntKind.i64 0] : Value), (.pointer (some ⟨g, 0, none⟩) : Value), (.int IntKind.i64 0 : Value), (.pointer (some ⟨g, 0, none⟩) : Value), (.bool false : Value), (.int IntKind.i64 (i : Int) : Value), (.slice (some ad) P.length ca : Value), (.int IntKind.i64 (P.length : Int) : Value), (.bool true : Value), (u39 : Value), (u40 : Value), (.int IntKind.i64 (k : Int) : Value), (.slice (some ad) P.length ca : Value), (.int IntKind.i64 (i : Int) : Value), (.pointer (some (ad.add i)) : Value), (.slice (some adp) p.length c7 : Value), (.int IntKind.i64 (p.length : Int) : Value), (.bool true : Value), (v48 : Value), (v49 : Value), (.tuple #[Value.int IntKind.i64 (b2 : Int), Value.bool true] : Value), (.pointer (some ⟨g, 0, none⟩) : Value), (.int IntKind.i64 (b : Int) : Value), (.slice (some ad) P.length ca : Value), (.int IntKind.i64 (i : Int) : Value), (.pointer (some (ad.add i)) : Value), (.slice (some adp) p.length c7 : Value), (.int IntKind.i64 (k : Int) : Value), (.pointer (some (adp.add k)) : Value), (.int IntKind.i64 c : Value), (.tuple #[Value.int IntKind.i64 (b2 : Int), Value.bool true] : Value), (.int IntKind.i64 (b2 : Int) : Value), (.bool true : Value), (.bool true : Value), (.bool false : Value), (.bool false : Value), (.pointer (some ⟨g, 0, none⟩) : Value), (.int IntKind.i64 (b2 : Int) : Value), (.int IntKind.i64 ((k : Int) + 1) : Value), (.int IntKind.i64 (k : Int) : Value), (.int IntKind.i64 ((k : Int) + 1) : Value), (.bool false : Value), (.bool false : Value), (.pointer (some ⟨g, 0, none⟩) : Value), (.int IntKind.i64 (b : Int) : Value), (.func (Fn.func 73) #[] #[Value.pointer (some ⟨WD.heap.size + 1, 0, none⟩), Value.pointer (some ⟨WD.heap.size + 1 + 1, 0, none⟩)] : Value), (.int .i64 x.f0 : Value), (.int .i64 x.f1 : Value), (v78 : Value), (v79 : Value), (v80 : Value), (v81 : Value), (v82 : Value), (v83 : Value), (v84 : Value), (v85 : Value), (v86 : Value), (v87 : Value), (v88 : Value), (u89 : Value), (u90 : Value), (u91 : Value), (u92 : Value), (u93 : Value), (u94 : Value), (u95 : Value), (u96 : Value), (u97 : Value), (u98 : Value), (u99 : Value), (u100 : Value), (u101 : Value), (u102 : Value), (u103 : Value), (u104 : Value), (u105 : Value), (u106 : Value), (u107 : Value), (u108 : Value), (u109 : Value), (u110 : Value), (u111 : Value), (u112 : Value), (u113 : Value), (u114 : Value), (u115 : Value), (u116 : Value), (u117 : Value), (u118 : Value), (u119 : Value)], defers := [] }) ?assign ?body ?done ?stop
          case assign =>
            intro l x W K hK
            have HK_ := Aside0.mk hK
            clear hK
            gi_wp2
            exact HK_.out
          case body =>
            rintro l' pre x W ⟨hB, q, hq, hbx⟩ - hsp
            have hXW : Boxed W w.heap.size 5 (.int .u8 (m : Int)) := upB HXD.out hB
            have hc3 := hXW.cell
            have hc12 := hbx.cell
            have hf12 := hbx.frozen
            have HBB := Aside0.mk hB
            have HBX := Aside0.mk hbx
            have HM' := Aside0.mk (show (m : Int) ≤ 255 by have := HM.out; omega)
            clear hB hbx hXW hsp
            by_cases c5 : (m : Int) ≤ (q : Int)
            · have d1 := eq_true c5
              have d2 : decide ((m : Int) ≤ (q : Int)) = true := decide_eq_true c5
              have HQQ := Aside0.mk hq
              clear c5 hq
              gi_wp2
              exact ⟨KeepsFrom.refl _ _, rfl, HBB.out, q, HQQ.out, HBX.out⟩
            · have hq1 : q + 1 ≤ m := by omega
              have HQQ := Aside0.mk hq1
              have d1 := eq_false c5
              have d2 : decide ((m : Int) ≤ (q : Int)) = false := decide_eq_false c5
              have d3 : IntKind.i64.wrap ((q : Int) + 1) = (q : Int) + 1 := Go.IntWalk.i64_in _ (by have := HM'.out; omega)
              have d4 : wrap64 ((q : Int) + 1) = (q : Int) + 1 := w64 (by omega) (by have := HM'.out; omega)
              clear c5 hq hq1
              gi_wp2
              exact ⟨(KeepsOthers.setCell _ _ _).from _, KeepC.of_set (Nat.le_refl _), HBB.out.setCell (Nat.le_refl _) _, q + 1, HQQ.out, Boxed.set _ HBX.out⟩
          case done =>
            rintro D ys W hD hys ⟨hB, q, hq, hbx⟩ hK
            clear hys
            have hXW : Boxed W w.heap.size 5 (.int .u8 (m : Int)) := upB HXD.out hB
            have hc3 := hXW.cell
            have hc12 := hbx.cell
            have d1 : ((m : Int) < (q : Int)) = False := eq_false (by omega)
            have d2 : decide ((m : Int) < (q : Int)) = false := decide_eq_false (by omega)
            have HBB := Aside0.mk hB
            have HD := Aside0.mk hD
            have HK_ := Aside0.mk hK
            clear hB hbx hXW hq hD hK
            go_wp2
            have h2D := HBDD.out.size
            have h8 := HS8.out
            have hW2 := HBW.out.size
            have hb2W : Below W2.heap.size W2 W := HBDD.out.trans (HBB.out.mono h2D)
            exact Handed.intro kq2 (by omega) (HJ2.out _ _ _ ⟨D :: Ds2, _, _, _, _, _, _, _, _, _, _, _, _, _, _, _, _, _, _, _, _, _, _, _, _, _, _, _, _, _, _, _, _, _, _, _, _, _, _, _, _, _, _, _, _, _, _, _, _, _, _, _, _, _, ⟨k + 1, b2, rfl, rfl, ⟨by have := HK.out; have := HC2.out; omega⟩, HB2, ⟨HBW.out.trans (hb2W.mono hW2)⟩,
              ⟨(HMK.out.below hb2W (Nat.le_refl _)).cons (fun E hE => by have := HMK.out.lt hE; have := HD.out; omega) (by have := HD.out; omega) HK_.out⟩⟩, rfl⟩)
          case stop =>
            rintro D cc pre W hD hSp ⟨rfl, hB, q, hq, hbx⟩ hK
            clear hSp
            refine wpIn_wide.2 ?_
            have hXW : Boxed W w.heap.size 5 (.int .u8 (m : Int)) := upB HXD.out hB
            have hc3 := hXW.cell
            have hc12 := hbx.cell
            have d1 : ((m : Int) < (q : Int)) = False := eq_false (by omega)
            have d2 : decide ((m : Int) < (q : Int)) = false := decide_eq_false (by omega)
            have HBB := Aside0.mk hB
            have HD := Aside0.mk hD
            have HK_ := Aside0.mk hK
            clear hB hbx hXW hq hD hK
            go_wp2
            have h2D := HBDD.out.size
            have h8 := HS8.out
            have hW2 := HBW.out.size
            have hb2W : Below W2.heap.size W2 W := HBDD.out.trans (HBB.out.mono h2D)
            exact Handed.intro kq2 (by omega) (HJ2.out _ _ _ ⟨D :: Ds2, _, _, _, _, _, _, _, _, _, _, _, _, _, _, _, _, _, _, _, _, _, _, _, _, _, _, _, _, _, _, _, _, _, _, _, _, _, _, _, _, _, _, _, _, _, _, _, _, _, _, _, _, _, ⟨k + 1, b2, rfl, rfl, ⟨by have := HK.out; have := HC2.out; omega⟩, HB2, ⟨HBW.out.trans (hb2W.mono hW2)⟩,
              ⟨(HMK.out.below hb2W (Nat.le_refl _)).cons (fun E hE => by have := HMK.out.lt hE; have := HD.out; omega) (by have := HD.out; omega) HK_.out⟩⟩, rfl⟩)
        · have hkk : k = p.length := by have := HK.out; omega
          subst hkk
          have e2 := eq_false c2
          have e3 : decide ((p.length : Int) < (p.length : Int)) = false := decide_eq_false c2
          have hjf : T[b]? = some p := by have := HTB.out; rwa [List.take_length] at this
          have HJF := Aside0.mk hjf
          obtain ⟨L, hL⟩ : ∃ L, L = endsOf 0 P p := ⟨_, rfl⟩
          have HLL := Aside0.mk hL
          have hll : L.length ≤ 300 := by rw [hL]; exact Nat.le_trans (endsOf_len p P 0) H1.out
          have HLB := Aside0.mk hll
          clear c2 hjf hL hll hJ2
          go_wp2_with ((go_at_call 50; refine (lawEnds.calls HTR.out (by have := H1.out; omega) HJF.out _ _ HRE.out).mono ?_; rintro e WE ⟨vE, rfl, hrE, hbE⟩; rw [← HLL.out] at hrE; obtain ⟨AE, cE, rfl, hcE, hCE⟩ := Kd.R_reads hrE; have HCE := Aside0.mk hCE; have HBE := Aside0.mk hbE; clear hrE hcE hCE hbE))
          clear hx7
          have hx7e : WE.cell? (ad.add i) = some (.slice A7 p.length c7) := by
            have hP2 := Kd.C_below HPL0.out (HBW.out.trans (HBE.out.mono HBW.out.size))
            have h7 : W2.cell? (ad.add i) = some (.slice A7 p.length c7) := HX7.out
            exact (HBE.out.cell (World.block_lt_of_cell? W2 _ h7)).trans h7
          have HX7E := Aside0.mk hx7e
          have HI7E := Aside0.mk (Kd.C_below HI7.out HBE.out)
          have HREE := Aside0.mk (HRE.out.below HBE.out)
          clear hx7e
          go_loopg [14, 15] (L.length + 1) (fun kq3 s14 s15 wr => ∃ j : Nat, s15 = .int .i64 (j : Int) ∧ s14 = .bool ((L.take j).contains (i : Int)) ∧ Aside0 (j + kq3 = L.length + 1 ∧ j ≤ L.length) ∧ wr = WE)
          case atStart => exact ⟨0, rfl, by simp, ⟨by omega, by omega⟩, rfl⟩
          case round =>
            obtain ⟨j, rfl, rfl, HI3, rfl⟩ := hrel
            cases gk with
            | zero => exact absurd HI3.out (by omega)
            | succ kq3 =>
            by_cases c3 : (j : Int) < (L.length : Int)
            · have hj : j < L.length := by omega
              obtain ⟨ade, e9, hxe⟩ := Kd.at_int HCE.out (j : Int) (by omega) c3
              rw [Int.toNat_natCast] at hxe
              subst e9
              have e4 := eq_true c3
              have e5 : decide ((j : Int) < (L.length : Int)) = true := decide_eq_true c3
              have hstep : (L.take (j + 1)).contains (i : Int) = ((L.take j).contains (i : Int) || decide (rd L (j : Int) = (i : Int))) := by
                have hr : rd L (j : Int) = L[j] := by unfold rd; rw [Int.toNat_natCast, List.getD_eq_getElem?_getD, List.getElem?_eq_getElem hj]; rfl
                rw [hr, ← List.take_append_getElem hj, Bool.eq_iff_iff]
                simp only [List.contains_iff_mem, List.mem_append, List.mem_singleton, Bool.or_eq_true, decide_eq_true_eq]
                exact or_congr Iff.rfl eq_comm
              have HSTP := Aside0.mk hstep
              have HC3 := Aside0.mk hj
              clear c3 hj hstep
              cases hfb : (L.take j).contains (i : Int) with
              | true =>
                have HFB := Aside0.mk hfb
                go_wp2
                go_roundg kq3
                case measure => omega
                case rel =>
                  have := HLB.out
                  have := HC3.out
                  have hst := HSTP.out
                  rw [HFB.out, Bool.true_or] at hst
                  exact ⟨j + 1, by first | rfl | (rw [w64 (by omega) (by omega)]; rfl), by rw [hst], ⟨by have := HI3.out; omega, by omega⟩, rfl⟩
              | false =>
                have HFB := Aside0.mk hfb
                obtain ⟨y, hy⟩ : ∃ y, y = rd L (j : Int) := ⟨_, rfl⟩
                rw [← hy] at hxe
                have HYY := Aside0.mk hy
                clear hy
                by_cases c4 : y = (i : Int)
                · have e6 := eq_true c4
                  have e7 : decide (y = (i : Int)) = true := decide_eq_true c4
                  have e8 : (y == (i : Int)) = true := beq_iff_eq.mpr c4
                  have HC4 := Aside0.mk e7
                  clear c4
                  go_wp2
                  go_roundg kq3
                  case measure => omega
                  case rel =>
                    have := HLB.out
                    have := HC3.out
                    have hst := HSTP.out
                    rw [HFB.out, Bool.false_or, ← HYY.out, HC4.out] at hst
                    exact ⟨j + 1, by first | rfl | (rw [w64 (by omega) (by omega)]; rfl), by rw [hst], ⟨by have := HI3.out; omega, by omega⟩, rfl⟩
                · have e6 := eq_false c4
                  have e7 : decide (y = (i : Int)) = false := decide_eq_false c4
                  have e8 : (y == (i : Int)) = false := beq_eq_false_iff_ne.mpr c4
                  have HC4 := Aside0.mk e7
                  clear c4
                  go_wp2
                  go_roundg kq3
                  case measure => omega
                  case rel =>
                    have := HLB.out
                    have := HC3.out
                    have hst := HSTP.out
                    rw [HFB.out, Bool.false_or, ← HYY.out, HC4.out] at hst
                    exact ⟨j + 1, by first | rfl | (rw [w64 (by omega) (by omega)]; rfl), by rw [hst], ⟨by have := HI3.out; omega, by omega⟩, rfl⟩
            · have hjl : j = L.length := by have := HI3.out; omega
              have e4 := eq_false c3
              have e5 : decide ((j : Int) < (L.length : Int)) = false := decide_eq_false c3
              have hct : (L.take j).contains (i : Int) = true := by
                rw [hjl, List.take_length, List.contains_iff_mem, HLL.out]
                have := endsOf_has p P 0 i HPI.out
                rwa [Nat.zero_add] at this
              rw [hct]
              clear c3 hjl hct
              go_wp2
              have hx7 := HX7E.out
              have hS : Below wr.heap.size wr wr.drew := (Below.refl _ wr).drew
              refine wp_region_noPanic ?_
              refine wp_region_held (S := fun w' => Below wr.heap.size wr w') (by kernel_rfl) ?_
              show wpAnyH _ _ _ _ _ _ _ _ wr.drew
              refine wpAnyH_take (i := 0) (v := .bool true) rfl (by kernel_rfl) (by kernel_rfl) (by kernel_rfl) (fun _ _ _ h => h) (.inl ⟨by kernel_rfl, fun w' hS => by first | (go_simp; done) | (go_simp; simp [*]; done)⟩) hS ?_
              try simp only [List.getElem_toArray, List.getElem_cons_succ, List.getElem_cons_zero, Act.put, List.setIfInBounds_toArray, List.set_cons_zero, List.set_cons_succ]
              refine wpAnyH_take (i := 1) (v := .bool false) rfl (by kernel_rfl) (by kernel_rfl) (by kernel_rfl) (fun _ _ _ h => h) (.inl ⟨by kernel_rfl, fun w' hS => by first | (go_simp; done) | (go_simp; simp [*]; done)⟩) hS ?_
              try simp only [List.getElem_toArray, List.getElem_cons_succ, List.getElem_cons_zero, Act.put, List.setIfInBounds_toArray, List.set_cons_zero, List.set_cons_succ]
              refine wpAnyH_take (i := 2) (v := .bool false) rfl (by kernel_rfl) (by kernel_rfl) (by kernel_rfl) (fun _ _ _ h => h) (.inl ⟨by kernel_rfl, fun w' hS => by first | (go_simp; done) | (go_simp; simp [*]; done)⟩) hS ?_
              try simp only [List.getElem_toArray, List.getElem_cons_succ, List.getElem_cons_zero, Act.put, List.setIfInBounds_toArray, List.set_cons_zero, List.set_cons_succ]
              refine wpAnyH_take (i := 3) (v := .pointer (some ⟨g, 0, none⟩)) rfl (by kernel_rfl) (by kernel_rfl) (by kernel_rfl) (fun _ _ _ h => h) (.inl ⟨by kernel_rfl, fun w' hS => by first | (go_simp; done) | (go_simp; simp [*]; done)⟩) hS ?_
              try simp only [List.getElem_toArray, List.getElem_cons_succ, List.getElem_cons_zero, Act.put, List.setIfInBounds_toArray, List.set_cons_zero, List.set_cons_succ]
              refine wpAnyH_take (i := 4) (v := .int .i64 (b : Int)) rfl (by kernel_rfl) (by kernel_rfl) (by kernel_rfl) (fun _ _ _ h => h) (.inl ⟨by kernel_rfl, fun w' hS => by first | (go_simp; done) | (go_simp; simp [*]; done)⟩) hS ?_
              try simp only [List.getElem_toArray, List.getElem_cons_succ, List.getElem_cons_zero, Act.put, List.setIfInBounds_toArray, List.set_cons_zero, List.set_cons_succ]
              refine wpAnyH_take (i := 6) (v := .slice (some ad) P.length ca) rfl (by kernel_rfl) (by kernel_rfl) (by kernel_rfl) (fun _ _ _ h => h) (.inl ⟨by kernel_rfl, fun w' hS => by first | (go_simp; done) | (go_simp; simp [*]; done)⟩) hS ?_
              try simp only [List.getElem_toArray, List.getElem_cons_succ, List.getElem_cons_zero, Act.put, List.setIfInBounds_toArray, List.set_cons_zero, List.set_cons_succ]
              refine wpAnyH_take (i := 7) (v := .int .i64 (i : Int)) rfl (by kernel_rfl) (by kernel_rfl) (by kernel_rfl) (fun _ _ _ h => h) (.inl ⟨by kernel_rfl, fun w' hS => by first | (go_simp; done) | (go_simp; simp [*]; done)⟩) hS ?_
              try simp only [List.getElem_toArray, List.getElem_cons_succ, List.getElem_cons_zero, Act.put, List.setIfInBounds_toArray, List.set_cons_zero, List.set_cons_succ]
              refine wpAnyH_take (i := 8) (v := .pointer (some (ad.add i))) rfl (by kernel_rfl) (by kernel_rfl) (by kernel_rfl) (fun _ _ _ h => h) (.inl ⟨by kernel_rfl, fun w' hS => by first | (go_simp; done) | (go_simp; simp [*]; done)⟩) hS ?_
              try simp only [List.getElem_toArray, List.getElem_cons_succ, List.getElem_cons_zero, Act.put, List.setIfInBounds_toArray, List.set_cons_zero, List.set_cons_succ]
              refine wpAnyH_take (i := 9) (v := .slice A7 p.length c7) rfl (by kernel_rfl) (by kernel_rfl) (by kernel_rfl) (fun _ _ _ h => h) (.inl ⟨by kernel_rfl, fun w' hS => by have q_ := (hS.cell (World.block_lt_of_cell? wr _ hx7)).trans hx7; first | (go_simp; done) | (go_simp; simp [*]; done)⟩) hS ?_
              try simp only [List.getElem_toArray, List.getElem_cons_succ, List.getElem_cons_zero, Act.put, List.setIfInBounds_toArray, List.set_cons_zero, List.set_cons_succ]
              refine wpAnyH_ready (rs := [5]) (by kernel_rfl) (by simp) (AllReadyH.cons rfl (fun K' hK => ?_) AllReadyH.nil)
              rw [if_pos (by kernel_rfl)]
              go_simp
              go_at_call 48
              (with_reducible refine (lawText.calls HTR.out.tr HJF.out HPL.out _ _ (HREE.out.below hS)).mono ?_)
              rintro e w10 ⟨x10, rfl, hr10, hb⟩
              obtain ⟨A10, c10, rfl, hc10, hC10⟩ := Kd.R_reads hr10
              have HC10 := Aside0.mk hc10
              have HR10 := Aside0.mk hC10
              clear hr10 hc10 hC10
              have hS' := hS.trans (hb.mono hS.size)
              refine hK.out _ _ hS' (fun _ => ?_)
              clear hK hS hb
              have hS := hS'
              clear hS'
              try simp only [List.getElem_toArray, List.getElem_cons_succ, List.getElem_cons_zero, Act.put, List.setIfInBounds_toArray, List.set_cons_zero, List.set_cons_succ]
              refine wpAnyH_ready (rs := [10]) (by kernel_rfl) (by simp) (AllReadyH.cons rfl (fun K' hK => ?_) AllReadyH.nil)
              rw [if_pos (by kernel_rfl)]
              go_simp
              go_at_call 20
              (with_reducible refine (sameL_calls A10 A7 c10 c7 p _ HR10.out HC10.out (Kd.C_below HI7E.out hS) HL7.out HPL.out).mono ?_)
              rintro e w11 ⟨rfl, hb⟩
              have hS' := hS.trans (hb.mono hS.size)
              refine hK.out _ _ hS' (fun _ => ?_)
              clear hK hS hb
              have hS := hS'
              clear hS'
              try simp only [List.getElem_toArray, List.getElem_cons_succ, List.getElem_cons_zero, Act.put, List.setIfInBounds_toArray, List.set_cons_zero, List.set_cons_succ]
              refine wpAnyH_take (i := 11) (v := .bool false) rfl (by kernel_rfl) (by kernel_rfl) (by kernel_rfl) (fun _ _ _ h => h) (.inl ⟨by kernel_rfl, fun w' hS => by first | (go_simp; done) | (go_simp; simp [*]; done)⟩) hS ?_
              try simp only [List.getElem_toArray, List.getElem_cons_succ, List.getElem_cons_zero, Act.put, List.setIfInBounds_toArray, List.set_cons_zero, List.set_cons_succ]
              refine wpAnyH_take (i := 12) (v := .bool false) rfl (by kernel_rfl) (by kernel_rfl) (by kernel_rfl) (fun _ _ _ h => h) (.inl ⟨by kernel_rfl, fun w' hS => by first | (go_simp; done) | (go_simp; simp [*]; done)⟩) hS ?_
              try simp only [List.getElem_toArray, List.getElem_cons_succ, List.getElem_cons_zero, Act.put, List.setIfInBounds_toArray, List.set_cons_zero, List.set_cons_succ]
              refine wpAnyH_done (by kernel_rfl) ?_ _
              refine NoPanic.normal ?_
              have w3_ : IntKind.i64.wrap ((i : Int) + 1) = (i : Int) + 1 := Go.IntWalk.i64_in _ (by have := HII.out; have := H1.out; omega)
              have w4_ : wrap64 ((i : Int) + 1) = (i : Int) + 1 := w64 (by omega) (by have := HII.out; have := H1.out; omega)
              go_wp2
              have hb1 := HBE.out
              have hb3 := HBW.out.size
              have hb4 := hb1.size
              have hbX : Below wr.heap.size wr w11 := hS
              have hbY : Below W2.heap.size W2 w11 := hb1.trans (hbX.mono hb4)
              exact Handed.intro kq (by omega) (HJ.out _ _ _ ⟨Ds2, _, _, _, _, _, _, _, _, _, _, _, _, _, _, _, _, _, _, _, _, _, _, _, _, _, _, _, _, _, _, _, _, _, _, _, _, _, _, _, _, _, _, _, _, _, _, _, _, _, _, _, _, _, _, _, _, _, _, _, _, _, _, _, _, _, _, _, _, _, _, _, _, _, _, _, _, _, _, _, _, _, _, _, _, _, _, _, _, _, _, _, _, _, _, ⟨i + 1, rfl, ⟨by have := HI.out; have := HII.out; omega⟩, ⟨HBW.out.trans (hbY.mono hb3)⟩, ⟨HMK.out.below hbY (Nat.le_refl _)⟩⟩, rfl⟩)
    · have e0 := eq_false c1
      have e1 : decide ((i : Int) < (P.length : Int)) = false := decide_eq_false c1
      clear c1
      go_wp2
      refine leaves_marks (n0 := w4.heap.size) Ds W1 HMK.out (fun W' hW' => ?_)
      exact ⟨_, by simp [results, Try.results13, go_sem], rfl, HW4.out.trans ((HBW.out.trans hW').mono HW4.out.size)⟩
theorem paronymlaw22_TrieWalks.walk (a0 : Option Addr) (cap0 : Nat) (ls0 : List (List Int)) (a1 : Int) (w : World) (hC0 : Kd.C (Kd.slice 3 (Kd.int .i64)) w a0 ls0.length ls0) (hcap0 : ls0.length ≤ cap0) (hwf0 : ∀ l ∈ ls0, ∀ a ∈ l, (Lit.int .i64 a).wf = true) (w1 : (Lit.int .u8 a1).wf = true) :
    Calls Try.prog 13 #[.slice a0 ls0.length cap0, .int .u8 a1] w fun e w' => e = .returned (.bool true) ∧ Below w.heap.size w w' := by
  obtain ⟨h0, h9⟩ := u8_of_wf w1
  obtain ⟨m, rfl⟩ := Int.eq_ofNat_of_zero_le h0
  by_cases h : smallB ls0 30 = true ∧ decide (idxE 0 ls0 ≥ 0) = false
  · exact paronymlaw22_TrieWalks.main a0 cap0 ls0 m w hC0 hcap0 (by omega) h.1 h.2
  · refine paronymlaw22_TrieWalks.out a0 cap0 ls0 m w hC0 hcap0 ?_
    cases h1 : smallB ls0 30 with
    | false => exact .inl rfl
    | true =>
      refine .inr ?_
      cases h2 : decide (idxE 0 ls0 ≥ 0) with
      | true => rfl
      | false => exact absurd ⟨h1, h2⟩ h
end Go.Proofs.Ytlipbiihemhieaa.Q

-- from LawTrieWalks
-- Made by hp.py, a program of this session, with the kit's printer. Not trusted: Lean checks it.
namespace Go.Proofs.Ytlipbiihemhieaa.trieWalks
open Go.ChangeShapes Go.WideShapes Go.ChangeAt Go.RowKit
open Go.ChangeMaps (open_string shut_string)
set_option linter.unusedVariables false
theorem own : ownKnob Try.prog.godebug = none := by kernel_rfl
theorem laidOut : laidOutB Try.prog = true := by kernel_rfl
def IsRow (k : IntKind) (w : World) (a : Option Addr) (len cap : Nat) (zs : List Int) : Prop :=
  (a = none ∧ len = 0 ∧ cap = 0 ∧ zs = []) ∨
  ∃ x, a = some x ∧ len ≤ cap ∧ cap ≤ maxLen ∧ zs.length = cap ∧ (∀ i, i < zs.length → w.cell? (x.add i) = some (.int k (zs.getD i 0))) ∧ ∀ n ∈ zs, (Lit.int k n).wf = true
set_option maxRecDepth 100000 in
theorem lifted (os : Os) (started : os.Started) (H : Type) (enc : TypeId × Value → H) :
    ReturnsInHanded {} Try.checked os 13 .any (Rows.trieWalksSpec.pre6 enc Try.prog Try.f13 Rows.trieWalksRow.domain false) (Rows.trieWalksSpec.post enc Try.prog Try.f13 false true false false) := by
  refine returnsInHanded_of_change_sized (C := Try.checked) own started (by kernel_rfl) Try.func13
    (ChangeSpec.witness6 (enc := enc) (C := Try.checked) false ⟨#[], #[.slice none 0 0, .int .u8 0], []⟩ 8 (by kernel_rfl) (by kernel_rfl) (by kernel_rfl) (by kernel_rfl)) ?_
  intro W base args ds gs before hval0 hW hcnd hsz0 _
  have hsz : (DataW.weightsEach Try.prog (Try.f13.params.toList ++ Rows.trieWalksSpec.plain.varTypes Try.prog) (ds ++ gs)).all (· ≤ reachBytes) = true := hsz0
  have hval : ∀ (j : Nat) t v, Try.f13.params[j]? = some t → args[j]? = some v → Value.okWide Try.prog W .any base t v := hval0
  have hW' := hW
  obtain ⟨p, q, hA0, hV, rfl, hfz, hnd⟩ := hW
  have hA : DataW.TrodAll enc Try.prog W 0 (fun _ => true) true Try.f13.params.toList args.toList ds p := hA0
  rw [Try.params13] at hA hval hsz
  obtain ⟨v0, vs0, d0, ds0, p0, q0, hargs, rfl, rfl, h0, r0⟩ := trodAll_cons hA
  obtain ⟨v1, vs1, d1, ds1, p1, q1, rfl, rfl, rfl, h1, r1⟩ := trodAll_cons r0
  obtain ⟨rfl, rfl, rfl⟩ := trodAll_nil r1
  obtain rfl : args = #[v0, v1] := by cases args; simp_all
  obtain ⟨rfl, rfl⟩ := trodVars_none hV
  obtain ⟨a0, len0, cap0, rfl⟩ := okWide_slice Try.underlying24 (hval 0 24 v0 rfl rfl)
  have k0 := h0
  have lt0 : ∀ x ∈ p0, x.block < W.heap.size := by obtain ⟨m, hm⟩ := k0; exact DataW.trod_lt m _ _ _ hm
  obtain ⟨ls0, hn0, hcap0, hC0, hwf0⟩ := Q.opens_arg Try.underlying24 (by kernel_rfl) (show Q.Opens enc Try.prog W 22 (Go.Proofs.YtlipbiihemhieaaW.PrintWords.Kd.slice 3 (Go.Proofs.YtlipbiihemhieaaW.PrintWords.Kd.int .i64)) (fun l => ∀ a ∈ l, (Lit.int .i64 a).wf = true) from Q.opens_slice (by kernel_rfl) (by kernel_rfl) (Q.opens_int (by kernel_rfl))) h0
  subst hn0
  obtain ⟨a1, rfl, rfl, rfl, w1⟩ := open_int Try.underlying5 (hval 1 5 v1 rfl rfl) h1
  clear hA0 hval0 hsz0 hsz
  refine (Q.paronymlaw22_TrieWalks.walk a0 cap0 ls0 a1 W hC0 hcap0 hwf0 w1).mono fun e W' ⟨he, bel⟩ => ?_
  subst he
  exact ⟨_, rfl, _, _, _, [], _, [], hW', trodAll_mk1 (shut_bool Try.underlying4 _), (trodAll_cons_mk (Below.trod laidOut (by kernel_rfl) (of_decide_eq_true (by kernel_rfl)) k0 bel lt0) (trodAll_cons_mk (shut_int Try.underlying5 w1) trodAll_mk0)), rfl, bel.frame _, fun h => by cases h⟩
theorem over : Rows.trieWalksRow.holds Try.pinned (OpenSpec.ofChange Rows.trieWalksSpec) :=
  OpenClaim.holds_of_wide 13 Try.f13 rfl rfl rfl rfl rfl rfl rfl ⟨rfl, rfl, rfl, rfl, rfl⟩ rfl rfl rfl rfl rfl (by kernel_rfl) Try.func13 (by kernel_rfl)
    (of_decide_eq_true (by kernel_rfl)) (by unfold Func.isWrapper; first | (rw [if_pos (by decide +kernel)]; kernel_rfl) | (rw [if_neg (by decide +kernel)]; exact ⟨rfl, rfl⟩))
    (fun os started H enc _ => lifted os started H enc)
theorem proved : Rows.TrieWalksSaid := over
#print axioms proved
end Go.Proofs.Ytlipbiihemhieaa.trieWalks
namespace Go.Proofs.Ytlipbiihemhieaa
/-- The row, under a short name, for the claim. -/
theorem trieWalks_holds : Rows.TrieWalksSaid := trieWalks.proved
end Go.Proofs.Ytlipbiihemhieaa
