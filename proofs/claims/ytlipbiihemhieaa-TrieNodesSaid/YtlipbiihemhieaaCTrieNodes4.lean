/- Part 4 of 4 of the proof of TrieNodes: all nodes of a trie For every input; no condition. -/
import Derived.Test.YtlipbiihemhieaaCTrieNodes2
import Derived.Test.YtlipbiihemhieaaCTrieNodes3
import Derived.Test.YtlipbiihemhieaaCTrieNodes1
import Derived.IntWalk
import Derived.StillTailTactics
import Derived.BigRegion
import Derived.Deep.DeepCutAuto
import Derived.Sort.LoopGhostIn
import Derived.Deep.RegionHeld3
import Derived.Test.YtlipbiihemhieaaRows
import Derived.WalkKit
import Derived.ProofKit
import Derived.OpenShut
import Derived.ShutString
import Derived.ChangeOld
import Derived.Below
import Derived.SizedLaws
import Derived.Test.YtlipbiihemhieaaWSized

-- from Ptri9
/- trie: each pattern's way lies in the trie. -/
namespace Go.Proofs.Ytlipbiihemhieaa.Q
open Go.RowKit Go.Proofs.YtlipbiihemhieaaW.PrintWords Go.Proofs.YtlipbiihemhieaaW.PrintLast Go.Proofs.YtlipbiihemhieaaW.PrintMore Go.Proofs.Ytlipbiihemhieaa.K
set_option linter.unusedVariables false
set_option linter.unusedSimpArgs false

theorem stepL_has (T : List (List Int)) (s : List Int) : s ∈ stepL T s := by
  by_cases h : s ∈ T
  · rw [stepL_in h]; exact h
  · rw [stepL_out h]; simp
theorem goT_take : ∀ (p : List Int) (T : List (List Int)) (s : List Int), s ∈ T → ∀ k, k ≤ p.length → s ++ p.take k ∈ goT T s p
  | [], T, s, h, k, hk => by
    have : k = 0 := by simpa using hk
    subst this
    simpa [goT] using h
  | c :: r, T, s, h, 0, hk => by
    rw [List.take_zero, List.append_nil]
    exact (goT_pre (c :: r) T s).subset h
  | c :: r, T, s, h, k + 1, hk => by
    have := goT_take r (stepL T (s ++ [c])) (s ++ [c]) (stepL_has _ _) k (by simpa using hk)
    rw [List.append_assoc] at this
    exact this
theorem allT_pre : ∀ (R T : List (List Int)), T <+: allT T R
  | [], T => List.prefix_refl _
  | p :: R, T => (goT_pre p T []).trans (allT_pre R _)
theorem allT_take : ∀ (R T : List (List Int)), [] ∈ T → ∀ p ∈ R, ∀ k, k ≤ p.length → p.take k ∈ allT T R
  | [], T, _, p, hp, k, hk => by cases hp
  | q :: R, T, h, p, hp, k, hk => by
    rcases List.mem_cons.1 hp with rfl | hp
    · exact (allT_pre R _).subset (by have := goT_take p T [] h k hk; simpa using this)
    · exact allT_take R _ ((goT_pre q T []).subset h) p hp k hk
theorem endsOf_has (s : List Int) : ∀ (l : List (List Int)) (i j : Nat), l[j]? = some s → ((i + j : Nat) : Int) ∈ endsOf i l s
  | [], i, j, h => by simp at h
  | q :: l, i, 0, h => by
    have : q = s := by simpa using h
    subst this
    simp [endsOf]
  | q :: l, i, j + 1, h => by
    have := endsOf_has s l (i + 1) j (by simpa using h)
    rw [show i + (j + 1) = i + 1 + j by omega]
    unfold endsOf
    split
    · exact List.mem_cons_of_mem _ this
    · exact this
/-- The step along a pattern. -/
theorem walk_step {P : List (List Int)} (hn : (allT [[]] P).Nodup) {p : List Int} (hp : p ∈ P) {k : Nat} (hk : k < p.length) :
    ∃ b : Nat, findT 0 (allT [[]] P) (p.take k ++ [p[k]]) = (b : Int) ∧ (allT [[]] P)[b]? = some (p.take (k + 1)) := by
  have hin : p.take (k + 1) ∈ allT [[]] P := allT_take P [[]] (by simp) p hp (k + 1) (by omega)
  obtain ⟨b, hb, hs⟩ := findT_some _ _ 0 hin
  rw [Nat.zero_add] at hb
  exact ⟨b, by rw [List.take_append_getElem hk]; exact hb, hs⟩
end Go.Proofs.Ytlipbiihemhieaa.Q

-- from Htwn
/- trie's law TrieNodes: the walk. -/
namespace Go.Proofs.Ytlipbiihemhieaa.Q
open Go.RowKit Go.Proofs.YtlipbiihemhieaaW.PrintWords Go.Proofs.YtlipbiihemhieaaW.PrintLast Go.Proofs.YtlipbiihemhieaaW.PrintMore Go.Proofs.Ytlipbiihemhieaa.K
set_option linter.unusedVariables false
set_option linter.unusedSimpArgs false
attribute [local go_sem] Oper.semAt_some
theorem sameL_calls (A A' : Option Addr) (c c' : Nat) (l : List Int) (w : World) (hr : Kd.C (Kd.int .i64) w A l.length l) (hc : l.length ≤ c) (hr' : Kd.C (Kd.int .i64) w A' l.length l) (hc' : l.length ≤ c') (hl : l.length ≤ 1000) :
    Calls Try.prog 20 #[.slice A l.length c, .slice A' l.length c'] w fun e w' => e = .returned (.bool true) ∧ Below w.heap.size w w' := by
  obtain ⟨k, hk⟩ := (refSame_ev l l (by omega) (by omega)).rounds
  rw [decide_eq_true rfl] at hk
  exact (paronymref01_Same.calls k A c l A' c' l true w hr hc hr' hc' hk).mono fun e w' h => ⟨h.1, h.2.below⟩
theorem wr1 (n : Nat) (h : n ≤ 1000000) : IntKind.i64.wrap ((n : Int) + 1) = (n : Int) + 1 ∧ wrap64 ((n : Int) + 1) = (n : Int) + 1 := ⟨Go.IntWalk.i64_in _ (by omega), w64 (by omega) (by omega)⟩
theorem wp_mid {P : Program} {c : Code} {K : Act → World → Prop} {Q : Exit → Act → World → Prop} {a : Act} {w : World} (Mid : Act → World → Prop) (h1 : c.wp P (Exit.then Mid (fun _ _ _ => False)) a w) (h2 : ∀ a w, Mid a w → K a w) : c.wp P (Exit.then K Q) a w :=
  wp_mono h1 (fun e a w he => by cases e <;> first | exact h2 _ _ he | exact he.elim)
/-- Behind 'want := Edges(..)': the row, and its cell. -/
def twM (wf : World) (E : List Int) (k : Nat) (v : Value) (W' : World) : Prop :=
  ∃ AE cE, v = .slice AE E.length cE ∧ E.length ≤ cE ∧ Kd.C (Kd.int .i64) W' AE E.length E ∧ Below wf.heap.size wf W' ∧ Boxed W' k 22 v ∧ wf.heap.size ≤ k
theorem lawRefEdges.calls {N : List S107} {T : List (List Int)} (h : Tr N T) (hl : T.length ≤ 100000) {j : Nat} {x : S107} {s E : List Int} (hx : N[j]? = some x) (hn : Nd T j x s) (hE : E = x.f3.map (·.f0)) (hs : s.length ≤ 1000) (A0 : Option Addr) (c0 : Nat) (A1 : Option Addr) (c1 : Nat) (w : World)
    (hr0 : Kd.C (Kd.slice 3 (Kd.int .i64)) w A0 T.length T) (hc0 : T.length ≤ c0) (hr1 : Kd.C (Kd.int .i64) w A1 s.length s) (hc1 : s.length ≤ c1) (ht : ∀ t ∈ T, t.length ≤ 1000) :
    Calls Try.prog 52 #[.slice A0 T.length c0, .slice A1 s.length c1] w fun e w' => ∃ v, e = .returned v ∧ Kd.R (Kd.int .i64) 3 w' w.heap.size (fun _ => True) v E ∧ Below w.heap.size w w' := by
  obtain ⟨k, hk⟩ := (edges_T (T := T) (by omega) (fun t h => by have := ht t h; omega) s (by omega)).rounds
  rw [edges_nd h.nd hn, ← hE] at hk
  exact paronymref22_Edges.calls k A0 c0 T A1 c1 s E w hr0 hc0 hr1 hc1 hk
theorem upB {W W' : World} {k : Nat} {t : TypeId} {v : Value} (h : Boxed W k t v) (hb : Below W.heap.size W W') : Boxed W' k t v := (hb.block _ h.lt).trans h
/-- What a round of TrieNodes' range keeps. -/
def twnI (W' : World) (pre : List S112) (V : World) : Prop := Below W'.heap.size W' V ∧ Boxed V W'.heap.size 3 (.int .i64 (pre.length : Int))
theorem twnI_own (W' : World) (B : Nat) (hB : W'.heap.size ≤ B) : OwnFrom B (twnI W') := fun s W V row hs hg hr =>
  ⟨ownFrom_below (β := Unit) (Nat.le_refl _) hB () W V row hs.1 hg hr, boxed_own W'.heap.size 3 (fun _ : Unit => .int .i64 (s.length : Int)) () W V row hs.2 hg (fun r e => (hr r e).2)⟩
theorem keepsFrom_below {B : Nat} {V V' : World} (hb : Below V.heap.size V V') : KeepsFrom B V V' := ⟨hb.size, fun k o _ hk _ => (hb.block k (Array.getElem?_eq_some_iff.1 hk).1).trans hk⟩
/-- The end of a round: the count is one more. -/
theorem twnI_step {W' V V6 : World} {B : Nat} {pre : List S112} {y : S112} (h : twnI W' pre V) (h6 : Below V.heap.size V V6) :
    KeepsFrom B V (V6.setCell ⟨W'.heap.size, 0, none⟩ (.int .i64 ((pre.length : Int) + 1))) ∧ KeepC (fun k => W'.heap.size ≤ k) V (V6.setCell ⟨W'.heap.size, 0, none⟩ (.int .i64 ((pre.length : Int) + 1))) ∧ twnI W' (pre ++ [y]) (V6.setCell ⟨W'.heap.size, 0, none⟩ (.int .i64 ((pre.length : Int) + 1))) := by
  refine ⟨(keepsFrom_below h6).trans ((KeepsOthers.setCell _ _ _).from _), (KeepC.of_below h6).trans (KeepC.of_set (Nat.le_refl _)), (h.1.trans (h6.mono h.1.size)).setCell (Nat.le_refl _) _, ?_⟩
  rw [List.length_append]
  exact Boxed.set _ (upB h.2 h6)
theorem row1_C {W : World} {b : Nat} {c : Int} (h : W.heap[b]? = some (.cells #[.int .i64 c] 3 (0, 0))) : Kd.C (Kd.int .i64) W (some ⟨b, 0, none⟩) 1 [c] := by
  refine Kd.C_of_reads (d := (0 : Int)) ⟨rfl, by decide, fun _ => ⟨_, rfl, fun j hj => ?_⟩⟩
  obtain rfl : j = 0 := by omega
  have : W.cell? ⟨b, 0, none⟩ = some (.int .i64 c) := by unfold World.cell?; rw [h]; rfl
  exact this
theorem row0_R (W : World) : Kd.R (Kd.int .i64) 3 (W.alloc (.cells #[] 3)) W.heap.size (fun _ => True) (.slice (some ⟨W.heap.size, 0, none⟩) 0 0) ([] : List Int) :=
  Kd.R_of_own ⟨rfl, .inr ⟨W.heap.size, 0, #[], rfl, Nat.le_refl _, heap_alloc_new W _, Nat.le_refl _, Nat.zero_le _, rfl, rfl⟩⟩ (fun _ _ => trivial)
theorem rowK_own {α : Type} {d : Kd α} {e B base : Nat} {T : Nat → Prop} {v : Value} {s : List α} : OwnFrom B (fun (_ : Unit) W => Kd.R d e W base T v s) := fun _ W W' row hs hg hr =>
  Kd.R_mono (Kd.R_grown (Kd.R_bound hs) hg (fun k hk e => by
    obtain ⟨_, o, ho, hc⟩ := hr k e.symm
    obtain ⟨_, _, _, q, _, cells, hcell⟩ := hk
    rw [hcell] at ho
    cases ho
    cases hc)) (fun k hk => hk.1)
theorem rowR_alloc {W : World} {base : Nat} {v : Value} {l : List Int} (h : Kd.R (Kd.int .i64) 3 W base (fun _ => True) v l) (o : Obj) : Kd.R (Kd.int .i64) 3 (W.alloc o) base (fun _ => True) v l :=
  rowK_own (B := base) () W _ none h (World.grownBy_alloc W o none) (fun r e => by cases e)
set_option maxHeartbeats 4000000 in
set_option maxRecDepth 100000 in
theorem paronymlaw22_TrieNodes.out (A : Option Addr) (ca : Nat) (P : List (List Int)) (w : World) (hp : Kd.C (Kd.slice 3 (Kd.int .i64)) w A P.length P) (hc : P.length ≤ ca) (hS : smallB P 12 = false) :
    Calls Try.prog 11 #[.slice A P.length ca] w fun e w' => e = .returned (.bool true) ∧ Below w.heap.size w w' := by
  have HPA : Aside0 (Kd.C (Kd.slice 3 (Kd.int .i64)) (w.alloc (.cells #[.bool false] 4)) A P.length P) := ⟨Kd.C_below hp ((Below.refl _ w).alloc (Nat.le_refl _) _)⟩
  have HC := Aside0.mk hc
  have HB0 : Aside0 (Below (w.alloc (.cells #[.bool false] 4)).heap.size (w.alloc (.cells #[.bool false] 4)) (w.alloc (.cells #[.bool false] 4))) := ⟨Below.refl _ _⟩
  have HX0 : Aside0 (Boxed (w.alloc (.cells #[.bool false] 4)) w.heap.size 4 (.bool false)) := ⟨Boxed.new w 4 (.bool false)⟩
  go_enter Try.func11, Try.ntmps11
  clear hp hc
  go_wp2_with (first
    | (go_at_call 42; (with_reducible refine (paronymlaw22_awake.calls0 _).mono ?_); rintro e w1 ⟨rfl, hb1⟩; have HB1 : Aside0 (Below (w.alloc (.cells #[.bool false] 4)).heap.size (w.alloc (.cells #[.bool false] 4)) w1) := ⟨Below.trans (by first | exact HB0.out | exact pw_below_drewN HB0.out _) (hb1.mono (by first | exact HB0.out.size | exact (pw_below_drewN HB0.out _).size))⟩; clear HB0; have HB0 := HB1; clear HB1 hb1; have hcr := Boxed.cell (upB HX0.out HB0.out); have hfr := Boxed.frozen (upB HX0.out HB0.out))
    | (go_at_call 43; refine (lawSmall.calls A ca P 12 (by decide) _ (Kd.C_below HPA.out HB0.out) HC.out).mono ?_; rintro e w2 ⟨rfl, ⟨m2, rfl⟩⟩; rw [hS]))
  have hq : Below w.heap.size w w1 := ((Below.refl _ w).alloc (Nat.le_refl _) _).trans (HB0.out.mono (by simp))
  have hcq := Boxed.cell (Boxed.set (.bool true) (upB HX0.out HB0.out))
  refine bodyPost_ret (v := .bool true) (by simp [results, Try.results11, go_sem, hcq]) rfl ?_
  exact ⟨rfl, Below.setCell hq (p := ⟨w.heap.size, 0, none⟩) (Nat.le_refl _) _⟩
set_option maxHeartbeats 8000000 in
set_option maxRecDepth 100000 in
theorem paronymlaw22_TrieNodes.empty (A : Option Addr) (ca : Nat) (P : List (List Int)) (w : World) (hp : Kd.C (Kd.slice 3 (Kd.int .i64)) w A P.length P) (hc : P.length ≤ ca) (hS : smallB P 12 = true) (hE : decide (idxE 0 P ≥ 0) = true) :
    Calls Try.prog 11 #[.slice A P.length ca] w fun e w' => e = .returned (.bool true) ∧ Below w.heap.size w w' := by
  obtain ⟨h1, h2⟩ := smallB_t hS
  have h1' : P.length ≤ 300 := by omega
  have h2' : ∀ p ∈ P, p.length ≤ 300 := fun p hp => by have := h2 p hp; omega
  have HPA : Aside0 (Kd.C (Kd.slice 3 (Kd.int .i64)) (w.alloc (.cells #[.bool false] 4)) A P.length P) := ⟨Kd.C_below hp ((Below.refl _ w).alloc (Nat.le_refl _) _)⟩
  have HC := Aside0.mk hc
  have HB0 : Aside0 (Below (w.alloc (.cells #[.bool false] 4)).heap.size (w.alloc (.cells #[.bool false] 4)) (w.alloc (.cells #[.bool false] 4))) := ⟨Below.refl _ _⟩
  have HX0 : Aside0 (Boxed (w.alloc (.cells #[.bool false] 4)) w.heap.size 4 (.bool false)) := ⟨Boxed.new w 4 (.bool false)⟩
  have H1 := Aside0.mk h1'
  have H2 := Aside0.mk h2'
  clear h1 h2 h1' h2'
  go_enter Try.func11, Try.ntmps11
  clear hp hc
  go_wp2_with (first
    | (go_at_call 42; (with_reducible refine (paronymlaw22_awake.calls0 _).mono ?_); rintro e w1 ⟨rfl, hb1⟩; have HB1 : Aside0 (Below (w.alloc (.cells #[.bool false] 4)).heap.size (w.alloc (.cells #[.bool false] 4)) w1) := ⟨Below.trans (by first | exact HB0.out | exact pw_below_drewN HB0.out _) (hb1.mono (by first | exact HB0.out.size | exact (pw_below_drewN HB0.out _).size))⟩; clear HB0; have HB0 := HB1; clear HB1 hb1; have hcr := Boxed.cell (upB HX0.out HB0.out); have hfr := Boxed.frozen (upB HX0.out HB0.out))
    | (go_at_call 43; refine (lawSmall.calls A ca P 12 (by decide) _ (Kd.C_below HPA.out HB0.out) HC.out).mono ?_; rintro e w2 ⟨rfl, ⟨m2, rfl⟩⟩; rw [hS])
    | (go_at_call 44; refine (lawNewE.calls A ca P H1.out H2.out hE _ (Kd.C_below HPA.out (pw_below_drewN HB0.out _)) HC.out).mono ?_; rintro e w4 ⟨rfl, hb4⟩; have HB4 : Aside0 (Below (w.alloc (.cells #[.bool false] 4)).heap.size (w.alloc (.cells #[.bool false] 4)) w4) := ⟨(pw_below_drewN HB0.out _).trans (hb4.mono (pw_below_drewN HB0.out _).size)⟩; clear hb4)
    | (go_at_call 45; refine (lawEmpty.calls A ca P (by have := H1.out; omega) _ (Kd.C_below HPA.out HB4.out) HC.out).mono ?_; rintro e w3 ⟨rfl, ⟨m3, rfl⟩⟩; rw [hE]; have hcr := Boxed.cell (upB HX0.out (pw_below_drewN HB4.out m3)); have hfr := Boxed.frozen (upB HX0.out (pw_below_drewN HB4.out m3))))
  have hq : Below w.heap.size w (w4.drewN m3) := ((Below.refl _ w).alloc (Nat.le_refl _) _).trans ((pw_below_drewN HB4.out m3).mono (by simp))
  have hcq := Boxed.cell (Boxed.set (.bool true) (upB HX0.out (pw_below_drewN HB4.out m3)))
  refine bodyPost_ret (v := .bool true) (by simp [results, Try.results11, go_sem, hcq]) rfl ?_
  exact ⟨rfl, Below.setCell hq (p := ⟨w.heap.size, 0, none⟩) (Nat.le_refl _) _⟩
set_option maxHeartbeats 8000000 in
set_option maxRecDepth 100000 in
theorem paronymlaw22_TrieNodes.main (A : Option Addr) (ca : Nat) (P : List (List Int)) (w : World) (hp : Kd.C (Kd.slice 3 (Kd.int .i64)) w A P.length P) (hc : P.length ≤ ca) (hS : smallB P 12 = true) (hE : decide (idxE 0 P ≥ 0) = false) :
    Calls Try.prog 11 #[.slice A P.length ca] w fun e w' => e = .returned (.bool true) ∧ Below w.heap.size w w' := by
  obtain ⟨h1, h2⟩ := smallB_t hS
  have h1' : P.length ≤ 300 := by omega
  have h2' : ∀ p ∈ P, p.length ≤ 300 := fun p hp => by have := h2 p hp; omega
  obtain ⟨T, hT⟩ : ∃ T, T = allT [[]] P := ⟨_, rfl⟩
  have hTl : T.length ≤ 100000 := by have := allT_len P [[]] h2'; rw [← hT] at this; simp at this; omega
  have HPA : Aside0 (Kd.C (Kd.slice 3 (Kd.int .i64)) (w.alloc (.cells #[.bool false] 4)) A P.length P) := ⟨Kd.C_below hp ((Below.refl _ w).alloc (Nat.le_refl _) _)⟩
  have HC := Aside0.mk hc
  have HB0 : Aside0 (Below (w.alloc (.cells #[.bool false] 4)).heap.size (w.alloc (.cells #[.bool false] 4)) (w.alloc (.cells #[.bool false] 4))) := ⟨Below.refl _ _⟩
  have HX0 : Aside0 (Boxed (w.alloc (.cells #[.bool false] 4)) w.heap.size 4 (.bool false)) := ⟨Boxed.new w 4 (.bool false)⟩
  have H1 := Aside0.mk h1'
  have H2 := Aside0.mk h2
  have H2' := Aside0.mk h2'
  have HTT := Aside0.mk hT
  have HTL := Aside0.mk hTl
  clear h1 h2 h1' h2' hT hTl hp hc
  refine (callsIn_wide (n := 20)).1 ?_
  refine callsIn_of_wp_marks Try.func11 rfl trivial ?_ rfl
  simp only [Try.ntmps11, List.size_toArray, List.length_cons, List.length_nil, Nat.reduceAdd, Nat.reduceSub, Array.replicate_succ, Array.replicate_zero, List.push_toArray, List.append_toArray, List.nil_append, List.cons_append]
  refine wpIn_wide.2 ?_
  go_wp2_with (first
    | (go_at_call 42; (with_reducible refine (paronymlaw22_awake.calls0 _).mono ?_); rintro e w1 ⟨rfl, hb1⟩; have HB1 : Aside0 (Below (w.alloc (.cells #[.bool false] 4)).heap.size (w.alloc (.cells #[.bool false] 4)) w1) := ⟨Below.trans (by first | exact HB0.out | exact pw_below_drewN HB0.out _) (hb1.mono (by first | exact HB0.out.size | exact (pw_below_drewN HB0.out _).size))⟩; clear HB0; have HB0 := HB1; clear HB1 hb1; have hcr := Boxed.cell (upB HX0.out HB0.out); have hfr := Boxed.frozen (upB HX0.out HB0.out))
    | (go_at_call 43; refine (lawSmall.calls A ca P 12 (by decide) _ (Kd.C_below HPA.out HB0.out) HC.out).mono ?_; rintro e w2 ⟨rfl, ⟨m2, rfl⟩⟩; rw [hS])
    | (go_at_call 44; refine (lawNew.calls A ca P H1.out H2'.out hE _ (Kd.C_below HPA.out (pw_below_drewN HB0.out _)) HC.out).mono ?_; rintro e w4 ⟨g, N, rfl, hR4, hTri4, hb4⟩; rw [← HTT.out] at hTri4; have HR4 := Aside0.mk hR4; have HTR := Aside0.mk hTri4; have HB4 : Aside0 (Below (w.alloc (.cells #[.bool false] 4)).heap.size (w.alloc (.cells #[.bool false] 4)) w4) := ⟨(pw_below_drewN HB0.out _).trans (hb4.mono (pw_below_drewN HB0.out _).size)⟩; clear hR4 hTri4 hb4)
    | (go_at_call 45; refine (lawEmpty.calls A ca P (by have := H1.out; omega) _ (Kd.C_below HPA.out HB4.out) HC.out).mono ?_; rintro e w3 ⟨rfl, ⟨m3, rfl⟩⟩; rw [hE])
    | (go_at_call 46; refine (refNew.calls A ca P _ (Kd.C_below HPA.out (pw_below_drewN HB4.out m3)) HC.out H1.out H2'.out).mono ?_; rintro e w5 ⟨v5, rfl, hX5, hb5⟩; rw [← HTT.out] at hX5; obtain ⟨A5, c5, rfl, hl5, hC5⟩ := hX5.reads hb5; have HR5 := Aside0.mk ((HR4.out.below (pw_below_drewN (Below.refl _ w4) m3)).below hb5); have HC5 := Aside0.mk hC5; have HL5 := Aside0.mk hl5; have HB5 : Aside0 (Below (w.alloc (.cells #[.bool false] 4)).heap.size (w.alloc (.cells #[.bool false] 4)) w5) := ⟨(pw_below_drewN HB4.out m3).trans (hb5.mono (pw_below_drewN HB4.out m3).size)⟩; clear hX5 hb5 hC5 hl5))
  have hb9 : Below w5.heap.size w5 (w5.alloc (.cells #[.slice A5 T.length c5] 24)) := (Below.refl _ w5).alloc (Nat.le_refl _) _
  have hR9 := HR5.out.below hb9
  have hC9 := Kd.C_below HC5.out hb9
  have hwa : Below (w.alloc (.cells #[.bool false] 4)).heap.size (w.alloc (.cells #[.bool false] 4)) (w5.alloc (.cells #[.slice A5 T.length c5] 24)) := HB5.out.trans (hb9.mono HB5.out.size)
  have hP9 := Kd.C_below HPA.out hwa
  have hX9 := upB HX0.out hwa
  have hT9 : Boxed (w5.alloc (.cells #[.slice A5 T.length c5] 24)) w5.heap.size 24 (.slice A5 T.length c5) := Boxed.new w5 _ _
  have hw9 : Below w.heap.size w (w5.alloc (.cells #[.slice A5 T.length c5] 24)) := ((Below.refl _ w).alloc (Nat.le_refl _) _).trans (hwa.mono (by simp))
  obtain ⟨b5, hb5⟩ : ∃ b, b = w5.heap.size := ⟨_, rfl⟩
  rw [← hb5] at hT9 ⊢
  generalize hW9 : (w5.alloc (.cells #[.slice A5 T.length c5] 24)) = w9 at *
  clear hW9
  have hws : w.heap.size < w9.heap.size := hX9.lt
  have HWS := Aside0.mk hws
  have HR9 := Aside0.mk hR9
  have HC9 := Aside0.mk hC9
  have HP9 := Aside0.mk hP9
  have HX9 := Aside0.mk hX9
  have HT9 := Aside0.mk hT9
  have HW9 := Aside0.mk hw9
  clear hb9 hR9 hC9 hwa hP9 hX9 hT9 hw9 hb5 HR5 HC5 HB5 HX0 HPA HB4 HR4 HB0 hws hcr hfr
  have hct := HT9.out.cell
  have hS : Below w9.heap.size w9 w9.drew := (Below.refl _ w9).drew
  refine wp_region_noPanic ?_
  refine wp_region_held (S := fun w' => Below w9.heap.size w9 w') (by kernel_rfl) ?_
  show wpAnyH _ _ _ _ _ _ _ _ w9.drew
  refine wpAnyH_take (i := 0) (v := .pointer (some ⟨g, 0, none⟩)) rfl (by kernel_rfl) (by kernel_rfl) (by kernel_rfl) (fun _ _ _ h => h) (.inl ⟨by kernel_rfl, fun w' hS => by first | (go_simp; done) | (go_simp; simp [*]; done)⟩) hS ?_
  try simp only [List.getElem_toArray, List.getElem_cons_succ, List.getElem_cons_zero, Act.put, List.setIfInBounds_toArray, List.set_cons_zero, List.set_cons_succ]
  refine wpAnyH_take (i := 2) (v := .slice A5 T.length c5) rfl (by kernel_rfl) (by kernel_rfl) (by kernel_rfl) (fun _ _ _ h => h) (.inl ⟨by kernel_rfl, fun w' hS => by have q_ := (hS.cell (World.block_lt_of_cell? w9 _ hct)).trans hct; first | (go_simp; done) | (go_simp; simp [*]; done)⟩) hS ?_
  try simp only [List.getElem_toArray, List.getElem_cons_succ, List.getElem_cons_zero, Act.put, List.setIfInBounds_toArray, List.set_cons_zero, List.set_cons_succ]
  refine wpAnyH_take (i := 3) (v := .int .i64 (T.length : Int)) rfl (by kernel_rfl) (by kernel_rfl) (by kernel_rfl) (fun _ _ _ h => h) (.inl ⟨by kernel_rfl, fun w' hS => by first | (go_simp; done) | (go_simp; simp [*]; done)⟩) hS ?_
  try simp only [List.getElem_toArray, List.getElem_cons_succ, List.getElem_cons_zero, Act.put, List.setIfInBounds_toArray, List.set_cons_zero, List.set_cons_succ]
  refine wpAnyH_ready (rs := [1]) (by kernel_rfl) (by simp) (AllReadyH.cons rfl (fun K' hK => ?_) AllReadyH.nil)
  rw [if_pos (by kernel_rfl)]
  go_simp
  go_at_call 47
  (with_reducible refine (trie_Len.calls _ N _ (HR9.out.below hS)).mono ?_)
  rintro e wL ⟨rfl, hb⟩
  rw [HTR.out.tr.len]
  have hS' := hS.trans (hb.mono hS.size)
  refine hK.out _ _ hS' (fun _ => ?_)
  clear hK hS hb
  have hS := hS'
  clear hS'
  try simp only [List.getElem_toArray, List.getElem_cons_succ, List.getElem_cons_zero, Act.put, List.setIfInBounds_toArray, List.set_cons_zero, List.set_cons_succ]
  refine wpAnyH_take (i := 4) (v := .bool false) rfl (by kernel_rfl) (by kernel_rfl) (by kernel_rfl) (fun _ _ _ h => h) (.inl ⟨by kernel_rfl, fun w' hS => by first | (go_simp; done) | (go_simp; simp [*]; done)⟩) hS ?_
  try simp only [List.getElem_toArray, List.getElem_cons_succ, List.getElem_cons_zero, Act.put, List.setIfInBounds_toArray, List.set_cons_zero, List.set_cons_succ]
  refine wpAnyH_done (by kernel_rfl) ?_ _
  refine NoPanic.normal ?_
  have HBL : Aside0 (Below w9.heap.size w9 wL) := ⟨hS⟩
  clear hct hS
  go_wp2
  refine wp_loop_ghost_k (fun kq a_ W => ∃ (Ds : List Nat) (u6 u7 u8 u9 u10 u45 u46 u47 u48 u49 u50 u51 u52 u53 u54 u55 u56 u57 u58 u59 u60 u61 u62 u63 u64 u65 u66 u67 u68 u69 u70 u71 u72 u73 u74 u75 u76 u77 u78 u79 u80 u81 u82 u83 u84 u85 u86 u87 u88 u89 u90 u91 u92 u93 u94 u95 u96 u97 u98 u99 u100 u101 u102 u103 u104 u105 u106 u107 u108 u109 u110 u111 u112 u113 u114 u115 u116 u117 u118 u119 u120 u121 u122 u123 u124 u125 u126 u127 u128 : Value), (∃ (i b6 : Nat), u6 = .pointer (some ⟨b6, 0, none⟩) ∧ Aside0 (i + kq = T.length + 1 ∧ i ≤ T.length) ∧ Aside0 (w9.heap.size ≤ b6 ∧ Boxed W b6 3 (.int .i64 (i : Int))) ∧ Aside0 (Below w9.heap.size w9 W) ∧ Aside0 (MarksIn w9.heap.size Ds W)) ∧ a_ = { tmps := #[(.slice A P.length ca : Value), (undef : Value), (.pointer (some ⟨w.heap.size, 0, none⟩) : Value), (.pointer (some ⟨g, 0, none⟩) : Value), (.int IntKind.i64 0 : Value), (.pointer (some ⟨b5, 0, none⟩) : Value), (u6 : Value), (u7 : Value), (u8 : Value), (u9 : Value), (u10 : Value), (.bool true : Value), (.bool false : Value), (.bool false : Value), (.slice A P.length ca : Value), (.bool true : Value), (.bool false : Value), (.bool false : Value), (undef : Value), (.tuple #[Value.pointer (some ⟨g, 0, none⟩), Value.int IntKind.i64 0] : Value), (.slice A P.length ca : Value), (.tuple #[Value.pointer (some ⟨g, 0, none⟩), Value.int IntKind.i64 0] : Value), (.pointer (some ⟨g, 0, none⟩) : Value), (.int IntKind.i64 0 : Value), (.slice A P.length ca : Value), (.bool false : Value), (undef : Value), (undef : Value), (undef : Value), (undef : Value), (undef : Value), (undef : Value), (.pointer (some ⟨g, 0, none⟩) : Value), (.bool false : Value), (.bool false : Value), (.int IntKind.i64 0 : Value), (.bool false : Value), (.bool false : Value), (.slice A P.length ca : Value), (.slice A5 T.length c5 : Value), (.pointer (some ⟨g, 0, none⟩) : Value), (.int IntKind.i64 (T.length : Int) : Value), (.slice A5 T.length c5 : Value), (.int IntKind.i64 (T.length : Int) : Value), (.bool false : Value), (u45 : Value), (u46 : Value), (u47 : Value), (u48 : Value), (u49 : Value), (u50 : Value), (u51 : Value), (u52 : Value), (u53 : Value), (u54 : Value), (u55 : Value), (u56 : Value), (u57 : Value), (u58 : Value), (u59 : Value), (u60 : Value), (u61 : Value), (u62 : Value), (u63 : Value), (u64 : Value), (u65 : Value), (u66 : Value), (u67 : Value), (u68 : Value), (u69 : Value), (u70 : Value), (u71 : Value), (u72 : Value), (u73 : Value), (u74 : Value), (u75 : Value), (u76 : Value), (u77 : Value), (u78 : Value), (u79 : Value), (u80 : Value), (u81 : Value), (u82 : Value), (u83 : Value), (u84 : Value), (u85 : Value), (u86 : Value), (u87 : Value), (u88 : Value), (u89 : Value), (u90 : Value), (u91 : Value), (u92 : Value), (u93 : Value), (u94 : Value), (u95 : Value), (u96 : Value), (u97 : Value), (u98 : Value), (u99 : Value), (u100 : Value), (u101 : Value), (u102 : Value), (u103 : Value), (u104 : Value), (u105 : Value), (u106 : Value), (u107 : Value), (u108 : Value), (u109 : Value), (u110 : Value), (u111 : Value), (u112 : Value), (u113 : Value), (u114 : Value), (u115 : Value), (u116 : Value), (u117 : Value), (u118 : Value), (u119 : Value), (u120 : Value), (u121 : Value), (u122 : Value), (u123 : Value), (u124 : Value), (u125 : Value), (u126 : Value), (u127 : Value), (u128 : Value)], defers := marks Ds }) (T.length + 1) ?start ?round
  case start => exact ⟨[], _, _, _, _, _, _, _, _, _, _, _, _, _, _, _, _, _, _, _, _, _, _, _, _, _, _, _, _, _, _, _, _, _, _, _, _, _, _, _, _, _, _, _, _, _, _, _, _, _, _, _, _, _, _, _, _, _, _, _, _, _, _, _, _, _, _, _, _, _, _, _, _, _, _, _, _, _, _, _, _, _, _, _, _, _, _, _, _, _, ⟨0, wL.heap.size, rfl, ⟨by omega, by omega⟩, ⟨HBL.out.size, Boxed.new wL _ _⟩, ⟨HBL.out.alloc HBL.out.size _⟩, ⟨MarksIn.nil _ _⟩⟩, rfl⟩
  case round =>
    clear HBL
    intro kq _ W hinv J K hJ hK
    obtain ⟨Ds, hinv⟩ := hinv
    obtain ⟨u6, hinv⟩ := hinv
    obtain ⟨u7, hinv⟩ := hinv
    obtain ⟨u8, hinv⟩ := hinv
    obtain ⟨u9, hinv⟩ := hinv
    obtain ⟨u10, hinv⟩ := hinv
    obtain ⟨u45, hinv⟩ := hinv
    obtain ⟨u46, hinv⟩ := hinv
    obtain ⟨u47, hinv⟩ := hinv
    obtain ⟨u48, hinv⟩ := hinv
    obtain ⟨u49, hinv⟩ := hinv
    obtain ⟨u50, hinv⟩ := hinv
    obtain ⟨u51, hinv⟩ := hinv
    obtain ⟨u52, hinv⟩ := hinv
    obtain ⟨u53, hinv⟩ := hinv
    obtain ⟨u54, hinv⟩ := hinv
    obtain ⟨u55, hinv⟩ := hinv
    obtain ⟨u56, hinv⟩ := hinv
    obtain ⟨u57, hinv⟩ := hinv
    obtain ⟨u58, hinv⟩ := hinv
    obtain ⟨u59, hinv⟩ := hinv
    obtain ⟨u60, hinv⟩ := hinv
    obtain ⟨u61, hinv⟩ := hinv
    obtain ⟨u62, hinv⟩ := hinv
    obtain ⟨u63, hinv⟩ := hinv
    obtain ⟨u64, hinv⟩ := hinv
    obtain ⟨u65, hinv⟩ := hinv
    obtain ⟨u66, hinv⟩ := hinv
    obtain ⟨u67, hinv⟩ := hinv
    obtain ⟨u68, hinv⟩ := hinv
    obtain ⟨u69, hinv⟩ := hinv
    obtain ⟨u70, hinv⟩ := hinv
    obtain ⟨u71, hinv⟩ := hinv
    obtain ⟨u72, hinv⟩ := hinv
    obtain ⟨u73, hinv⟩ := hinv
    obtain ⟨u74, hinv⟩ := hinv
    obtain ⟨u75, hinv⟩ := hinv
    obtain ⟨u76, hinv⟩ := hinv
    obtain ⟨u77, hinv⟩ := hinv
    obtain ⟨u78, hinv⟩ := hinv
    obtain ⟨u79, hinv⟩ := hinv
    obtain ⟨u80, hinv⟩ := hinv
    obtain ⟨u81, hinv⟩ := hinv
    obtain ⟨u82, hinv⟩ := hinv
    obtain ⟨u83, hinv⟩ := hinv
    obtain ⟨u84, hinv⟩ := hinv
    obtain ⟨u85, hinv⟩ := hinv
    obtain ⟨u86, hinv⟩ := hinv
    obtain ⟨u87, hinv⟩ := hinv
    obtain ⟨u88, hinv⟩ := hinv
    obtain ⟨u89, hinv⟩ := hinv
    obtain ⟨u90, hinv⟩ := hinv
    obtain ⟨u91, hinv⟩ := hinv
    obtain ⟨u92, hinv⟩ := hinv
    obtain ⟨u93, hinv⟩ := hinv
    obtain ⟨u94, hinv⟩ := hinv
    obtain ⟨u95, hinv⟩ := hinv
    obtain ⟨u96, hinv⟩ := hinv
    obtain ⟨u97, hinv⟩ := hinv
    obtain ⟨u98, hinv⟩ := hinv
    obtain ⟨u99, hinv⟩ := hinv
    obtain ⟨u100, hinv⟩ := hinv
    obtain ⟨u101, hinv⟩ := hinv
    obtain ⟨u102, hinv⟩ := hinv
    obtain ⟨u103, hinv⟩ := hinv
    obtain ⟨u104, hinv⟩ := hinv
    obtain ⟨u105, hinv⟩ := hinv
    obtain ⟨u106, hinv⟩ := hinv
    obtain ⟨u107, hinv⟩ := hinv
    obtain ⟨u108, hinv⟩ := hinv
    obtain ⟨u109, hinv⟩ := hinv
    obtain ⟨u110, hinv⟩ := hinv
    obtain ⟨u111, hinv⟩ := hinv
    obtain ⟨u112, hinv⟩ := hinv
    obtain ⟨u113, hinv⟩ := hinv
    obtain ⟨u114, hinv⟩ := hinv
    obtain ⟨u115, hinv⟩ := hinv
    obtain ⟨u116, hinv⟩ := hinv
    obtain ⟨u117, hinv⟩ := hinv
    obtain ⟨u118, hinv⟩ := hinv
    obtain ⟨u119, hinv⟩ := hinv
    obtain ⟨u120, hinv⟩ := hinv
    obtain ⟨u121, hinv⟩ := hinv
    obtain ⟨u122, hinv⟩ := hinv
    obtain ⟨u123, hinv⟩ := hinv
    obtain ⟨u124, hinv⟩ := hinv
    obtain ⟨u125, hinv⟩ := hinv
    obtain ⟨u126, hinv⟩ := hinv
    obtain ⟨u127, hinv⟩ := hinv
    obtain ⟨u128, hinv⟩ := hinv
    obtain ⟨⟨i, b6, rfl, HI, HB6, HBW, HMK⟩, ha⟩ := hinv
    subst ha
    dsimp only
    have HJ := Aside0.mk hJ
    clear hJ
    have hct : Boxed W b5 24 (.slice A5 T.length c5) := upB HT9.out HBW.out
    have HCT := Aside0.mk hct
    replace hct := hct.cell
    have hci := HB6.out.2.cell
    have hfi := HB6.out.2.frozen
    have HRW := Aside0.mk (HR9.out.below HBW.out)
    have HPW := Aside0.mk (Kd.C_below HP9.out HBW.out)
    cases kq with
    | zero => exact absurd HI.out (by omega)
    | succ kq =>
    by_cases c1 : (i : Int) < (T.length : Int)
    · have hi : i < T.length := by omega
      have e0 := eq_true c1
      have e1 : decide ((i : Int) < (T.length : Int)) = true := decide_eq_true c1
      have HII := Aside0.mk hi
      obtain ⟨s, hs⟩ : ∃ s, T[i]? = some s := ⟨_, List.getElem?_eq_getElem hi⟩
      have HSS := Aside0.mk hs
      have hsl : s.length ≤ 12 := by
        have := allT_short P [[]] 12 (by simp) H2.out s (by rw [← HTT.out]; exact List.mem_of_getElem? hs)
        exact this
      have HSL := Aside0.mk hsl
      have HSL1 : Aside0 (s.length ≤ 1000) := ⟨by omega⟩
      obtain ⟨ad, A7, c7, e7, hx, hl7, hi7⟩ := at_L1 (Kd.C_below HC9.out HBW.out) (i : Int) (by omega) c1
      cases e7
      have hrd : rd_L1 T (i : Int) = s := by rw [rdL1 i hi]; exact (List.getElem?_eq_some_iff.1 hs).2
      rw [hrd] at hx hl7 hi7
      rw [Int.toNat_natCast] at hx
      have HX := Aside0.mk hx
      have HI7 := Aside0.mk hi7
      have HL7 := Aside0.mk hl7
      have HC5 := Aside0.mk (Kd.C_below HC9.out HBW.out)
      have HW3 := Aside0.mk (wr1 i (by have := HTL.out; omega))
      obtain ⟨L, hL⟩ : ∃ L, L = endsOf 0 P s := ⟨_, rfl⟩
      have HLE := Aside0.mk hL
      have hll : L.length ≤ 1000 := by rw [hL]; exact Nat.le_trans (endsOf_len s P 0) (by have := H1.out; omega)
      have HLL := Aside0.mk hll
      obtain ⟨ke, hke⟩ := (ends_T (P := P) (by have := H1.out; omega) (fun t ht => by have := H2.out t ht; omega) s (by omega)).rounds
      rw [← hL] at hke
      have HKE := Aside0.mk hke
      clear hi c1 hs hsl hrd hl7 hi7 hL hll hke
      have l1_ : decide ((s.length : Int) = (s.length : Int)) = true := decide_eq_true rfl
      go_wp2
      have hS : Below W.heap.size W W.drew := (Below.refl _ W).drew
      refine wp_region_noPanic ?_
      refine wp_region_held (S := fun w' => Below W.heap.size W w') (by kernel_rfl) ?_
      show wpAnyH _ _ _ _ _ _ _ _ W.drew
      refine wpAnyH_take (i := 0) (v := .pointer (some ⟨g, 0, none⟩)) rfl (by kernel_rfl) (by kernel_rfl) (by kernel_rfl) (fun _ _ _ h => h) (.inl ⟨by kernel_rfl, fun w' hS => by first | (go_simp; done) | (go_simp; simp [*]; done)⟩) hS ?_
      try simp only [List.getElem_toArray, List.getElem_cons_succ, List.getElem_cons_zero, Act.put, List.setIfInBounds_toArray, List.set_cons_zero, List.set_cons_succ]
      refine wpAnyH_take (i := 1) (v := .int .i64 (i : Int)) rfl (by kernel_rfl) (by kernel_rfl) (by kernel_rfl) (fun _ _ _ h => h) (.inl ⟨by kernel_rfl, fun w' hS => by have q_ := (hS.cell (World.block_lt_of_cell? W _ hci)).trans hci; first | (go_simp; done) | (go_simp; simp [*]; done)⟩) hS ?_
      try simp only [List.getElem_toArray, List.getElem_cons_succ, List.getElem_cons_zero, Act.put, List.setIfInBounds_toArray, List.set_cons_zero, List.set_cons_succ]
      refine wpAnyH_take (i := 3) (v := .slice (some ad) T.length c5) rfl (by kernel_rfl) (by kernel_rfl) (by kernel_rfl) (fun _ _ _ h => h) (.inl ⟨by kernel_rfl, fun w' hS => by have q_ := (hS.cell (World.block_lt_of_cell? W _ hct)).trans hct; first | (go_simp; done) | (go_simp; simp [*]; done)⟩) hS ?_
      try simp only [List.getElem_toArray, List.getElem_cons_succ, List.getElem_cons_zero, Act.put, List.setIfInBounds_toArray, List.set_cons_zero, List.set_cons_succ]
      refine wpAnyH_take (i := 4) (v := .int .i64 (i : Int)) rfl (by kernel_rfl) (by kernel_rfl) (by kernel_rfl) (fun _ _ _ h => h) (.inl ⟨by kernel_rfl, fun w' hS => by have q_ := (hS.cell (World.block_lt_of_cell? W _ hci)).trans hci; first | (go_simp; done) | (go_simp; simp [*]; done)⟩) hS ?_
      try simp only [List.getElem_toArray, List.getElem_cons_succ, List.getElem_cons_zero, Act.put, List.setIfInBounds_toArray, List.set_cons_zero, List.set_cons_succ]
      refine wpAnyH_take (i := 5) (v := .pointer (some (ad.add i))) rfl (by kernel_rfl) (by kernel_rfl) (by kernel_rfl) (fun _ _ _ h => h) (.inl ⟨by kernel_rfl, fun w' hS => by first | (go_simp; done) | (go_simp; simp [*]; done)⟩) hS ?_
      try simp only [List.getElem_toArray, List.getElem_cons_succ, List.getElem_cons_zero, Act.put, List.setIfInBounds_toArray, List.set_cons_zero, List.set_cons_succ]
      refine wpAnyH_take (i := 6) (v := .slice A7 s.length c7) rfl (by kernel_rfl) (by kernel_rfl) (by kernel_rfl) (fun _ _ _ h => h) (.inl ⟨by kernel_rfl, fun w' hS => by have q_ := (hS.cell (World.block_lt_of_cell? W _ hx)).trans hx; first | (go_simp; done) | (go_simp; simp [*]; done)⟩) hS ?_
      try simp only [List.getElem_toArray, List.getElem_cons_succ, List.getElem_cons_zero, Act.put, List.setIfInBounds_toArray, List.set_cons_zero, List.set_cons_succ]
      refine wpAnyH_ready (rs := [2]) (by kernel_rfl) (by simp) (AllReadyH.cons rfl (fun K' hK => ?_) AllReadyH.nil)
      rw [if_pos (by kernel_rfl)]
      go_simp
      go_at_call 48
      (with_reducible refine (lawText.calls HTR.out.tr HSS.out HSL1.out _ _ (HRW.out.below hS)).mono ?_)
      rintro e wa ⟨x10, rfl, hr10, hb⟩
      obtain ⟨A10, c10, rfl, hc10, hC10⟩ := Kd.R_reads hr10
      have HC10 := Aside0.mk hc10
      have HR10 := Aside0.mk hC10
      clear hr10 hc10 hC10
      have hS' := hS.trans (hb.mono hS.size)
      refine hK.out _ _ hS' (fun _ => ?_)
      clear hK hS hb
      have hS := hS'
      clear hS'
      try simp only [List.getElem_toArray, List.getElem_cons_succ, List.getElem_cons_zero, Act.put, List.setIfInBounds_toArray, List.set_cons_zero, List.set_cons_succ]
      refine wpAnyH_ready (rs := [7]) (by kernel_rfl) (by simp) (AllReadyH.cons rfl (fun K' hK => ?_) AllReadyH.nil)
      rw [if_pos (by kernel_rfl)]
      go_simp
      go_at_call 20
      (with_reducible refine (sameL_calls A10 A7 c10 c7 s _ HR10.out HC10.out (Kd.C_below HI7.out hS) HL7.out HSL1.out).mono ?_)
      rintro e wb ⟨rfl, hb⟩
      have hS' := hS.trans (hb.mono hS.size)
      refine hK.out _ _ hS' (fun _ => ?_)
      clear hK hS hb
      have hS := hS'
      clear hS'
      try simp only [List.getElem_toArray, List.getElem_cons_succ, List.getElem_cons_zero, Act.put, List.setIfInBounds_toArray, List.set_cons_zero, List.set_cons_succ]
      refine wpAnyH_take (i := 8) (v := .bool false) rfl (by kernel_rfl) (by kernel_rfl) (by kernel_rfl) (fun _ _ _ h => h) (.inl ⟨by kernel_rfl, fun w' hS => by first | (go_simp; done) | (go_simp; simp [*]; done)⟩) hS ?_
      try simp only [List.getElem_toArray, List.getElem_cons_succ, List.getElem_cons_zero, Act.put, List.setIfInBounds_toArray, List.set_cons_zero, List.set_cons_succ]
      refine wpAnyH_take (i := 9) (v := .bool false) rfl (by kernel_rfl) (by kernel_rfl) (by kernel_rfl) (fun _ _ _ h => h) (.inl ⟨by kernel_rfl, fun w' hS => by first | (go_simp; done) | (go_simp; simp [*]; done)⟩) hS ?_
      try simp only [List.getElem_toArray, List.getElem_cons_succ, List.getElem_cons_zero, Act.put, List.setIfInBounds_toArray, List.set_cons_zero, List.set_cons_succ]
      refine wpAnyH_take (i := 10) (v := .pointer (some ⟨g, 0, none⟩)) rfl (by kernel_rfl) (by kernel_rfl) (by kernel_rfl) (fun _ _ _ h => h) (.inl ⟨by kernel_rfl, fun w' hS => by first | (go_simp; done) | (go_simp; simp [*]; done)⟩) hS ?_
      try simp only [List.getElem_toArray, List.getElem_cons_succ, List.getElem_cons_zero, Act.put, List.setIfInBounds_toArray, List.set_cons_zero, List.set_cons_succ]
      refine wpAnyH_take (i := 11) (v := .int .i64 (i : Int)) rfl (by kernel_rfl) (by kernel_rfl) (by kernel_rfl) (fun _ _ _ h => h) (.inl ⟨by kernel_rfl, fun w' hS => by have q_ := (hS.cell (World.block_lt_of_cell? W _ hci)).trans hci; first | (go_simp; done) | (go_simp; simp [*]; done)⟩) hS ?_
      try simp only [List.getElem_toArray, List.getElem_cons_succ, List.getElem_cons_zero, Act.put, List.setIfInBounds_toArray, List.set_cons_zero, List.set_cons_succ]
      refine wpAnyH_take (i := 13) (v := .slice (some ad) T.length c5) rfl (by kernel_rfl) (by kernel_rfl) (by kernel_rfl) (fun _ _ _ h => h) (.inl ⟨by kernel_rfl, fun w' hS => by have q_ := (hS.cell (World.block_lt_of_cell? W _ hct)).trans hct; first | (go_simp; done) | (go_simp; simp [*]; done)⟩) hS ?_
      try simp only [List.getElem_toArray, List.getElem_cons_succ, List.getElem_cons_zero, Act.put, List.setIfInBounds_toArray, List.set_cons_zero, List.set_cons_succ]
      refine wpAnyH_take (i := 14) (v := .int .i64 (i : Int)) rfl (by kernel_rfl) (by kernel_rfl) (by kernel_rfl) (fun _ _ _ h => h) (.inl ⟨by kernel_rfl, fun w' hS => by have q_ := (hS.cell (World.block_lt_of_cell? W _ hci)).trans hci; first | (go_simp; done) | (go_simp; simp [*]; done)⟩) hS ?_
      try simp only [List.getElem_toArray, List.getElem_cons_succ, List.getElem_cons_zero, Act.put, List.setIfInBounds_toArray, List.set_cons_zero, List.set_cons_succ]
      refine wpAnyH_take (i := 15) (v := .pointer (some (ad.add i))) rfl (by kernel_rfl) (by kernel_rfl) (by kernel_rfl) (fun _ _ _ h => h) (.inl ⟨by kernel_rfl, fun w' hS => by first | (go_simp; done) | (go_simp; simp [*]; done)⟩) hS ?_
      try simp only [List.getElem_toArray, List.getElem_cons_succ, List.getElem_cons_zero, Act.put, List.setIfInBounds_toArray, List.set_cons_zero, List.set_cons_succ]
      refine wpAnyH_take (i := 16) (v := .slice A7 s.length c7) rfl (by kernel_rfl) (by kernel_rfl) (by kernel_rfl) (fun _ _ _ h => h) (.inl ⟨by kernel_rfl, fun w' hS => by have q_ := (hS.cell (World.block_lt_of_cell? W _ hx)).trans hx; first | (go_simp; done) | (go_simp; simp [*]; done)⟩) hS ?_
      try simp only [List.getElem_toArray, List.getElem_cons_succ, List.getElem_cons_zero, Act.put, List.setIfInBounds_toArray, List.set_cons_zero, List.set_cons_succ]
      refine wpAnyH_take (i := 17) (v := .int .i64 (s.length : Int)) rfl (by kernel_rfl) (by kernel_rfl) (by kernel_rfl) (fun _ _ _ h => h) (.inl ⟨by kernel_rfl, fun w' hS => by first | (go_simp; done) | (go_simp; simp [*]; done)⟩) hS ?_
      try simp only [List.getElem_toArray, List.getElem_cons_succ, List.getElem_cons_zero, Act.put, List.setIfInBounds_toArray, List.set_cons_zero, List.set_cons_succ]
      refine wpAnyH_ready (rs := [12]) (by kernel_rfl) (by simp) (AllReadyH.cons rfl (fun K' hK => ?_) AllReadyH.nil)
      rw [if_pos (by kernel_rfl)]
      go_simp
      go_at_call 49
      (with_reducible refine (lawDepth.calls HTR.out.tr HSS.out _ _ (HRW.out.below hS)).mono ?_)
      rintro e wc ⟨rfl, hb⟩
      have hS' := hS.trans (hb.mono hS.size)
      refine hK.out _ _ hS' (fun _ => ?_)
      clear hK hS hb
      have hS := hS'
      clear hS'
      try simp only [List.getElem_toArray, List.getElem_cons_succ, List.getElem_cons_zero, Act.put, List.setIfInBounds_toArray, List.set_cons_zero, List.set_cons_succ]
      refine wpAnyH_take (i := 18) (v := .bool false) rfl (by kernel_rfl) (by kernel_rfl) (by kernel_rfl) (fun _ _ _ h => h) (.inl ⟨by kernel_rfl, fun w' hS => by first | (go_simp; done) | (go_simp; simp [*]; done)⟩) hS ?_
      try simp only [List.getElem_toArray, List.getElem_cons_succ, List.getElem_cons_zero, Act.put, List.setIfInBounds_toArray, List.set_cons_zero, List.set_cons_succ]
      refine wpAnyH_take (i := 19) (v := .bool false) rfl (by kernel_rfl) (by kernel_rfl) (by kernel_rfl) (fun _ _ _ h => h) (.inl ⟨by kernel_rfl, fun w' hS => by first | (go_simp; done) | (go_simp; simp [*]; done)⟩) hS ?_
      try simp only [List.getElem_toArray, List.getElem_cons_succ, List.getElem_cons_zero, Act.put, List.setIfInBounds_toArray, List.set_cons_zero, List.set_cons_succ]
      refine wpAnyH_take (i := 20) (v := .bool false) rfl (by kernel_rfl) (by kernel_rfl) (by kernel_rfl) (fun _ _ _ h => h) (.inl ⟨by kernel_rfl, fun w' hS => by first | (go_simp; done) | (go_simp; simp [*]; done)⟩) hS ?_
      try simp only [List.getElem_toArray, List.getElem_cons_succ, List.getElem_cons_zero, Act.put, List.setIfInBounds_toArray, List.set_cons_zero, List.set_cons_succ]
      refine wpAnyH_take (i := 21) (v := .pointer (some ⟨g, 0, none⟩)) rfl (by kernel_rfl) (by kernel_rfl) (by kernel_rfl) (fun _ _ _ h => h) (.inl ⟨by kernel_rfl, fun w' hS => by first | (go_simp; done) | (go_simp; simp [*]; done)⟩) hS ?_
      try simp only [List.getElem_toArray, List.getElem_cons_succ, List.getElem_cons_zero, Act.put, List.setIfInBounds_toArray, List.set_cons_zero, List.set_cons_succ]
      refine wpAnyH_take (i := 22) (v := .int .i64 (i : Int)) rfl (by kernel_rfl) (by kernel_rfl) (by kernel_rfl) (fun _ _ _ h => h) (.inl ⟨by kernel_rfl, fun w' hS => by have q_ := (hS.cell (World.block_lt_of_cell? W _ hci)).trans hci; first | (go_simp; done) | (go_simp; simp [*]; done)⟩) hS ?_
      try simp only [List.getElem_toArray, List.getElem_cons_succ, List.getElem_cons_zero, Act.put, List.setIfInBounds_toArray, List.set_cons_zero, List.set_cons_succ]
      refine wpAnyH_take (i := 24) (v := .slice A P.length ca) rfl (by kernel_rfl) (by kernel_rfl) (by kernel_rfl) (fun _ _ _ h => h) (.inl ⟨by kernel_rfl, fun w' hS => by first | (go_simp; done) | (go_simp; simp [*]; done)⟩) hS ?_
      try simp only [List.getElem_toArray, List.getElem_cons_succ, List.getElem_cons_zero, Act.put, List.setIfInBounds_toArray, List.set_cons_zero, List.set_cons_succ]
      refine wpAnyH_take (i := 25) (v := .slice (some ad) T.length c5) rfl (by kernel_rfl) (by kernel_rfl) (by kernel_rfl) (fun _ _ _ h => h) (.inl ⟨by kernel_rfl, fun w' hS => by have q_ := (hS.cell (World.block_lt_of_cell? W _ hct)).trans hct; first | (go_simp; done) | (go_simp; simp [*]; done)⟩) hS ?_
      try simp only [List.getElem_toArray, List.getElem_cons_succ, List.getElem_cons_zero, Act.put, List.setIfInBounds_toArray, List.set_cons_zero, List.set_cons_succ]
      refine wpAnyH_take (i := 26) (v := .int .i64 (i : Int)) rfl (by kernel_rfl) (by kernel_rfl) (by kernel_rfl) (fun _ _ _ h => h) (.inl ⟨by kernel_rfl, fun w' hS => by have q_ := (hS.cell (World.block_lt_of_cell? W _ hci)).trans hci; first | (go_simp; done) | (go_simp; simp [*]; done)⟩) hS ?_
      try simp only [List.getElem_toArray, List.getElem_cons_succ, List.getElem_cons_zero, Act.put, List.setIfInBounds_toArray, List.set_cons_zero, List.set_cons_succ]
      refine wpAnyH_take (i := 27) (v := .pointer (some (ad.add i))) rfl (by kernel_rfl) (by kernel_rfl) (by kernel_rfl) (fun _ _ _ h => h) (.inl ⟨by kernel_rfl, fun w' hS => by first | (go_simp; done) | (go_simp; simp [*]; done)⟩) hS ?_
      try simp only [List.getElem_toArray, List.getElem_cons_succ, List.getElem_cons_zero, Act.put, List.setIfInBounds_toArray, List.set_cons_zero, List.set_cons_succ]
      refine wpAnyH_take (i := 28) (v := .slice A7 s.length c7) rfl (by kernel_rfl) (by kernel_rfl) (by kernel_rfl) (fun _ _ _ h => h) (.inl ⟨by kernel_rfl, fun w' hS => by have q_ := (hS.cell (World.block_lt_of_cell? W _ hx)).trans hx; first | (go_simp; done) | (go_simp; simp [*]; done)⟩) hS ?_
      try simp only [List.getElem_toArray, List.getElem_cons_succ, List.getElem_cons_zero, Act.put, List.setIfInBounds_toArray, List.set_cons_zero, List.set_cons_succ]
      refine wpAnyH_ready (rs := [23]) (by kernel_rfl) (by simp) (AllReadyH.cons rfl (fun K' hK => ?_) AllReadyH.nil)
      rw [if_pos (by kernel_rfl)]
      go_simp
      go_at_call 50
      (with_reducible refine (lawEnds.calls HTR.out (by have := H1.out; omega) HSS.out _ _ (HRW.out.below hS)).mono ?_)
      rintro e wd ⟨x11, rfl, hr11, hb⟩
      rw [← HLE.out] at hr11
      obtain ⟨A11, c11, rfl, hc11, hC11⟩ := Kd.R_reads hr11
      have HC11 := Aside0.mk hc11
      have HR11 := Aside0.mk hC11
      clear hr11 hc11 hC11
      have hS' := hS.trans (hb.mono hS.size)
      refine hK.out _ _ hS' (fun _ => ?_)
      clear hK hS hb
      have hS := hS'
      clear hS'
      try simp only [List.getElem_toArray, List.getElem_cons_succ, List.getElem_cons_zero, Act.put, List.setIfInBounds_toArray, List.set_cons_zero, List.set_cons_succ]
      refine wpAnyH_ready (rs := [29]) (by kernel_rfl) (by simp) (AllReadyH.cons rfl (fun K' hK => ?_) AllReadyH.nil)
      rw [if_pos (by kernel_rfl)]
      go_simp
      go_at_call 51
      (with_reducible refine (paronymref22_Ends.calls ke A ca P A7 c7 s L _ (Kd.C_below HPW.out hS) HC.out (Kd.C_below HI7.out hS) HL7.out HKE.out).mono ?_)
      rintro e we ⟨x12, rfl, hr12, hb⟩
      obtain ⟨A12, c12, rfl, hc12, hC12⟩ := Kd.R_reads hr12
      have HC12 := Aside0.mk hc12
      have HR12 := Aside0.mk hC12
      clear hr12 hc12 hC12
      have HBE := Aside0.mk hb
      have hS' := hS.trans (hb.mono hS.size)
      refine hK.out _ _ hS' (fun _ => ?_)
      clear hK hS hb
      have hS := hS'
      clear hS'
      try simp only [List.getElem_toArray, List.getElem_cons_succ, List.getElem_cons_zero, Act.put, List.setIfInBounds_toArray, List.set_cons_zero, List.set_cons_succ]
      refine wpAnyH_ready (rs := [30]) (by kernel_rfl) (by simp) (AllReadyH.cons rfl (fun K' hK => ?_) AllReadyH.nil)
      rw [if_pos (by kernel_rfl)]
      go_simp
      go_at_call 20
      (with_reducible refine (sameL_calls A11 A12 c11 c12 L _ (Kd.C_below HR11.out HBE.out) HC11.out HR12.out HC12.out HLL.out).mono ?_)
      rintro e wf ⟨rfl, hb⟩
      have hS' := hS.trans (hb.mono hS.size)
      refine hK.out _ _ hS' (fun _ => ?_)
      clear hK hS hb
      have hS := hS'
      clear hS'
      try simp only [List.getElem_toArray, List.getElem_cons_succ, List.getElem_cons_zero, Act.put, List.setIfInBounds_toArray, List.set_cons_zero, List.set_cons_succ]
      refine wpAnyH_take (i := 31) (v := .bool false) rfl (by kernel_rfl) (by kernel_rfl) (by kernel_rfl) (fun _ _ _ h => h) (.inl ⟨by kernel_rfl, fun w' hS => by first | (go_simp; done) | (go_simp; simp [*]; done)⟩) hS ?_
      try simp only [List.getElem_toArray, List.getElem_cons_succ, List.getElem_cons_zero, Act.put, List.setIfInBounds_toArray, List.set_cons_zero, List.set_cons_succ]
      refine wpAnyH_take (i := 32) (v := .bool false) rfl (by kernel_rfl) (by kernel_rfl) (by kernel_rfl) (fun _ _ _ h => h) (.inl ⟨by kernel_rfl, fun w' hS => by first | (go_simp; done) | (go_simp; simp [*]; done)⟩) hS ?_
      try simp only [List.getElem_toArray, List.getElem_cons_succ, List.getElem_cons_zero, Act.put, List.setIfInBounds_toArray, List.set_cons_zero, List.set_cons_succ]
      refine wpAnyH_done (by kernel_rfl) ?_ _
      refine NoPanic.normal ?_
      clear l1_
      go_wp2
      have HBF := Aside0.mk hS
      clear hS
      have hcp := Boxed.cell (upB HB6.out.2 HBF.out)
      have hct := Boxed.cell (upB HCT.out HBF.out)
      have hx : wf.cell? (ad.add i) = some (.slice A7 s.length c7) := (HBF.out.cell (World.block_lt_of_cell? W _ HX.out)).trans HX.out
      clear hci hfi
      have hci := hcp
      clear hcp
      have HBWF : Aside0 (Below w9.heap.size w9 wf) := ⟨HBW.out.trans (HBF.out.mono HBW.out.size)⟩
      have HI7F := Aside0.mk (Kd.C_below HI7.out HBF.out)
      have HC5F := Aside0.mk (Kd.C_below HC5.out HBF.out)
      obtain ⟨x, hx0, hn0⟩ := node_of HTR.out.tr HSS.out
      have HX0 := Aside0.mk hx0
      have HN0 := Aside0.mk hn0
      clear hx0 hn0
      obtain ⟨E, hE⟩ : ∃ E, E = x.f3.map (·.f0) := ⟨_, rfl⟩
      have HEE := Aside0.mk hE
      clear hE
      refine wp_mid (fun a_ W' => ∃ (k : Nat) (v : Value), a_ = { tmps := #[(.slice A P.length ca : Value), (undef : Value), (.pointer (some ⟨w.heap.size, 0, none⟩) : Value), (.pointer (some ⟨g, 0, none⟩) : Value), (.int IntKind.i64 0 : Value), (.pointer (some ⟨b5, 0, none⟩) : Value), (.pointer (some ⟨b6, 0, none⟩) : Value), (.pointer (some ⟨k, 0, none⟩) : Value), (u8 : Value), (u9 : Value), (u10 : Value), (.bool true : Value), (.bool false : Value), (.bool false : Value), (.slice A P.length ca : Value), (.bool true : Value), (.bool false : Value), (.bool false : Value), (undef : Value), (.tuple #[Value.pointer (some ⟨g, 0, none⟩), Value.int IntKind.i64 0] : Value), (.slice A P.length ca : Value), (.tuple #[Value.pointer (some ⟨g, 0, none⟩), Value.int IntKind.i64 0] : Value), (.pointer (some ⟨g, 0, none⟩) : Value), (.int IntKind.i64 0 : Value), (.slice A P.length ca : Value), (.bool false : Value), (undef : Value), (undef : Value), (undef : Value), (undef : Value), (undef : Value), (undef : Value), (.pointer (some ⟨g, 0, none⟩) : Value), (.bool false : Value), (.bool false : Value), (.int IntKind.i64 0 : Value), (.bool false : Value), (.bool false : Value), (.slice A P.length ca : Value), (.slice (some ad) T.length c5 : Value), (.pointer (some ⟨g, 0, none⟩) : Value), (.int IntKind.i64 (T.length : Int) : Value), (.slice (some ad) T.length c5 : Value), (.int IntKind.i64 (T.length : Int) : Value), (.bool false : Value), (.int IntKind.i64 (i : Int) : Value), (.slice (some ad) T.length c5 : Value), (.int IntKind.i64 (T.length : Int) : Value), (.bool true : Value), (u49 : Value), (u50 : Value), (.pointer (some ⟨g, 0, none⟩) : Value), (.int IntKind.i64 (i : Int) : Value), (.slice A10 s.length c10 : Value), (.slice (some ad) T.length c5 : Value), (.int IntKind.i64 (i : Int) : Value), (.pointer (some (ad.add i)) : Value), (.slice A7 s.length c7 : Value), (.bool true : Value), (.bool false : Value), (.bool false : Value), (.pointer (some ⟨g, 0, none⟩) : Value), (.int IntKind.i64 (i : Int) : Value), (.int IntKind.i64 (s.length : Int) : Value), (.slice (some ad) T.length c5 : Value), (.int IntKind.i64 (i : Int) : Value), (.pointer (some (ad.add i)) : Value), (.slice A7 s.length c7 : Value), (.int IntKind.i64 (s.length : Int) : Value), (.bool false : Value), (.bool false : Value), (.bool false : Value), (.pointer (some ⟨g, 0, none⟩) : Value), (.int IntKind.i64 (i : Int) : Value), (.slice A11 L.length c11 : Value), (.slice A P.length ca : Value), (.slice (some ad) T.length c5 : Value), (.int IntKind.i64 (i : Int) : Value), (.pointer (some (ad.add i)) : Value), (.slice A7 s.length c7 : Value), (.slice A12 L.length c12 : Value), (.bool true : Value), (.bool false : Value), (.bool false : Value), (.slice (some ad) T.length c5 : Value), (.slice (some ad) T.length c5 : Value), (.int .i64 (i : Int) : Value), (.pointer (some (ad.add i)) : Value), (.slice A7 s.length c7 : Value), (v : Value), (u90 : Value), (u91 : Value), (u92 : Value), (u93 : Value), (u94 : Value), (u95 : Value), (u96 : Value), (u97 : Value), (u98 : Value), (u99 : Value), (u100 : Value), (u101 : Value), (u102 : Value), (u103 : Value), (u104 : Value), (u105 : Value), (u106 : Value), (u107 : Value), (u108 : Value), (u109 : Value), (u110 : Value), (u111 : Value), (u112 : Value), (u113 : Value), (u114 : Value), (u115 : Value), (u116 : Value), (u117 : Value), (u118 : Value), (u119 : Value), (u120 : Value), (u121 : Value), (u122 : Value), (u123 : Value), (u124 : Value), (u125 : Value), (u126 : Value), (u127 : Value), (u128 : Value)], defers := marks Ds } ∧ twM wf E k v W') ?r16 ?k16
      case r16 =>
        have hS : Below wf.heap.size wf wf.drew := (Below.refl _ wf).drew
        refine wp_region_noPanic ?_
        refine wp_region_held (S := fun w' => Below wf.heap.size wf w') (by kernel_rfl) ?_
        show wpAnyH _ _ _ _ _ _ _ _ wf.drew
        refine wpAnyH_take (i := 0) (v := .slice (some ad) T.length c5) rfl (by kernel_rfl) (by kernel_rfl) (by kernel_rfl) (fun _ _ _ h => h) (.inl ⟨by kernel_rfl, fun w' hS => by have q_ := (hS.cell (World.block_lt_of_cell? wf _ hct)).trans hct; first | (go_simp; done) | (go_simp; simp [*]; done)⟩) hS ?_
        try simp only [List.getElem_toArray, List.getElem_cons_succ, List.getElem_cons_zero, Act.put, List.setIfInBounds_toArray, List.set_cons_zero, List.set_cons_succ]
        refine wpAnyH_take (i := 1) (v := .slice (some ad) T.length c5) rfl (by kernel_rfl) (by kernel_rfl) (by kernel_rfl) (fun _ _ _ h => h) (.inl ⟨by kernel_rfl, fun w' hS => by have q_ := (hS.cell (World.block_lt_of_cell? wf _ hct)).trans hct; first | (go_simp; done) | (go_simp; simp [*]; done)⟩) hS ?_
        try simp only [List.getElem_toArray, List.getElem_cons_succ, List.getElem_cons_zero, Act.put, List.setIfInBounds_toArray, List.set_cons_zero, List.set_cons_succ]
        refine wpAnyH_take (i := 2) (v := .int .i64 (i : Int)) rfl (by kernel_rfl) (by kernel_rfl) (by kernel_rfl) (fun _ _ _ h => h) (.inl ⟨by kernel_rfl, fun w' hS => by have q_ := (hS.cell (World.block_lt_of_cell? wf _ hci)).trans hci; first | (go_simp; done) | (go_simp; simp [*]; done)⟩) hS ?_
        try simp only [List.getElem_toArray, List.getElem_cons_succ, List.getElem_cons_zero, Act.put, List.setIfInBounds_toArray, List.set_cons_zero, List.set_cons_succ]
        refine wpAnyH_take (i := 3) (v := .pointer (some (ad.add i))) rfl (by kernel_rfl) (by kernel_rfl) (by kernel_rfl) (fun _ _ _ h => h) (.inl ⟨by kernel_rfl, fun w' hS => by first | (go_simp; done) | (go_simp; simp [*]; done)⟩) hS ?_
        try simp only [List.getElem_toArray, List.getElem_cons_succ, List.getElem_cons_zero, Act.put, List.setIfInBounds_toArray, List.set_cons_zero, List.set_cons_succ]
        refine wpAnyH_take (i := 4) (v := .slice A7 s.length c7) rfl (by kernel_rfl) (by kernel_rfl) (by kernel_rfl) (fun _ _ _ h => h) (.inl ⟨by kernel_rfl, fun w' hS => by have q_ := (hS.cell (World.block_lt_of_cell? wf _ hx)).trans hx; first | (go_simp; done) | (go_simp; simp [*]; done)⟩) hS ?_
        try simp only [List.getElem_toArray, List.getElem_cons_succ, List.getElem_cons_zero, Act.put, List.setIfInBounds_toArray, List.set_cons_zero, List.set_cons_succ]
        refine wpAnyH_ready (rs := [5, 6]) (by kernel_rfl) (by simp) (AllReadyH.cons rfl (fun K' hK => ?_) (AllReadyH.cons rfl (fun K' hK => ?_) AllReadyH.nil))
        · rw [if_pos (by kernel_rfl)]
          go_simp
          go_at_call 52
          (with_reducible refine (lawRefEdges.calls HTR.out.tr HTL.out HX0.out HN0.out HEE.out HSL1.out (some ad) c5 A7 c7 _ (Kd.C_below HC5F.out hS) HL5.out (Kd.C_below HI7F.out hS) HL7.out (fun t ht => by have := allT_short P [[]] 12 (by simp) H2.out t (by rw [← HTT.out]; exact ht); omega)).mono ?_)
          rintro e wg ⟨v, rfl, hrE, hb⟩
          obtain ⟨AE, cE, rfl, hcE, hCE⟩ := Kd.R_reads hrE
          have HCE := Aside0.mk hCE
          have HLE_ := Aside0.mk hcE
          clear hrE hcE hCE
          have hS' := hS.trans (hb.mono hS.size)
          refine hK.out _ _ hS' (fun _ => ?_)
          clear hK hS hb
          have hS := hS'
          clear hS'
          try simp only [List.getElem_toArray, List.getElem_cons_succ, List.getElem_cons_zero, Act.put, List.setIfInBounds_toArray, List.set_cons_zero, List.set_cons_succ]
          refine wpAnyH_ready (rs := [6]) (by kernel_rfl) (by simp) (AllReadyH.cons rfl (fun K' hK => ?_) AllReadyH.nil)
          rw [if_pos (by kernel_rfl)]
          go_simp
          have hS' : Below wf.heap.size wf (wg.alloc (.cells #[.slice none 0 0] 22)) := hS.alloc hS.size _
          refine hK.out _ _ hS' (fun _ => ?_)
          clear hK
          try simp only [List.getElem_toArray, List.getElem_cons_succ, List.getElem_cons_zero, Act.put, List.setIfInBounds_toArray, List.set_cons_zero, List.set_cons_succ]
          refine wpAnyH_ready (rs := [7]) (by kernel_rfl) (by simp) (AllReadyH.cons rfl (fun K' hK => ?_) AllReadyH.nil)
          rw [if_pos (by kernel_rfl)]
          have hnew := Boxed.new wg 22 (.slice none 0 0)
          have hcz := hnew.cell
          have hfz := hnew.frozen
          go_simp
          have hS'' : Below wf.heap.size wf (wg.alloc (.cells #[.slice AE E.length cE] 22)) := hS.alloc hS.size _
          refine hK.out _ _ hS'' (fun _ => ?_)
          clear hK
          refine wpAnyH_done (by kernel_rfl) ?_ _
          refine NoPanic.normal ?_
          exact ⟨wg.heap.size, _, rfl, AE, cE, rfl, HLE_.out, Kd.C_below HCE.out ((Below.refl _ wg).alloc (Nat.le_refl _) _), hS'', Boxed.new wg _ _, hS.size⟩
        · rw [if_pos (by kernel_rfl)]
          go_simp
          have hS' : Below wf.heap.size wf (wf.alloc (.cells #[.slice none 0 0] 22)).drew := ((Below.refl _ wf).alloc (Nat.le_refl _) _).drew
          refine hK.out _ _ hS' (fun _ => ?_)
          clear hK
          have hnew : Boxed (wf.alloc (.cells #[.slice none 0 0] 22)).drew wf.heap.size 22 (.slice none 0 0) := Boxed.new wf 22 (.slice none 0 0)
          generalize hwq : (wf.alloc (.cells #[.slice none 0 0] 22)).drew = wq at *
          try simp only [List.getElem_toArray, List.getElem_cons_succ, List.getElem_cons_zero, Act.put, List.setIfInBounds_toArray, List.set_cons_zero, List.set_cons_succ]
          refine wpAnyH_ready (rs := [5]) (by kernel_rfl) (by simp) (AllReadyH.cons rfl (fun K' hK => ?_) AllReadyH.nil)
          rw [if_pos (by kernel_rfl)]
          go_simp
          go_at_call 52
          (with_reducible refine (lawRefEdges.calls HTR.out.tr HTL.out HX0.out HN0.out HEE.out HSL1.out (some ad) c5 A7 c7 _ (Kd.C_below HC5F.out hS') HL5.out (Kd.C_below HI7F.out hS') HL7.out (fun t ht => by have := allT_short P [[]] 12 (by simp) H2.out t (by rw [← HTT.out]; exact ht); omega)).mono ?_)
          rintro e wg ⟨v, rfl, hrE, hb⟩
          obtain ⟨AE, cE, rfl⟩ := Kd.R_slice hrE
          have HRE := Aside0.mk hrE
          clear hrE
          have hnew2 : Boxed wg wf.heap.size 22 (.slice none 0 0) := upB hnew hb
          have hS2 := hS'.trans (hb.mono hS'.size)
          refine hK.out _ _ hS2 (fun _ => ?_)
          clear hK
          try simp only [List.getElem_toArray, List.getElem_cons_succ, List.getElem_cons_zero, Act.put, List.setIfInBounds_toArray, List.set_cons_zero, List.set_cons_succ]
          refine wpAnyH_ready (rs := [7]) (by kernel_rfl) (by simp) (AllReadyH.cons rfl (fun K' hK => ?_) AllReadyH.nil)
          rw [if_pos (by kernel_rfl)]
          have hcz := hnew2.cell
          have hfz := hnew2.frozen
          go_simp
          have hlt : wf.heap.size < wq.heap.size := hnew.lt
          have hS3 : Below wf.heap.size wf (wg.setCell ⟨wf.heap.size, 0, none⟩ (.slice AE E.length cE)) := hS2.setCell (Nat.le_refl _) _
          refine hK.out _ _ hS3 (fun _ => ?_)
          clear hK
          refine wpAnyH_done (by kernel_rfl) ?_ _
          refine NoPanic.normal ?_
          obtain ⟨A', c', e', hcE, hCE⟩ := Kd.R_reads (Kd.R_far (Kd.R_bound HRE.out) (p := ⟨wf.heap.size, 0, none⟩) (fun k hk e => by have := hk.2.1; have : k = wf.heap.size := e; omega) (.slice AE E.length cE))
          cases e'
          exact ⟨wf.heap.size, _, rfl, AE, cE, rfl, hcE, hCE, hS3, Boxed.set _ hnew2, Nat.le_refl _⟩
      case k16 =>
        rintro a_ W' ⟨k, v, rfl, AE, cE, rfl, hcE, hCE, hBE, hbx, hkk⟩
        have HCE := Aside0.mk hCE
        have HLE_ := Aside0.mk hcE
        have HBG := Aside0.mk hBE
        have HBX := Aside0.mk hbx
        have HKK := Aside0.mk hkk
        clear hcE hCE hBE hbx hkk hx hct hci
        have hci : ∀ o, (W'.alloc o).cell? ⟨b6, 0, none⟩ = some (.int .i64 (i : Int)) := fun o => Boxed.cell (Boxed.alloc (upB (upB HB6.out.2 HBF.out) HBG.out) o)
        go_wp2_with (go_at_call 53; refine (trie_Edges.calls _ (i : Int) _).mono ?_; rintro e wB ⟨rfl, rfl⟩)
        have hsz8 : (((W'.alloc (.cells #[.int .i64 0] 3)).alloc (.cells #[.pointer (some ⟨g, 0, none⟩)] 71)).alloc (.cells #[.int .i64 (i : Int)] 3)).heap.size = W'.heap.size + 3 := by simp
        have hb8 : Below W'.heap.size W' (((W'.alloc (.cells #[.int .i64 0] 3)).alloc (.cells #[.pointer (some ⟨g, 0, none⟩)] 71)).alloc (.cells #[.int .i64 (i : Int)] 3)) := (((Below.refl _ W').alloc (Nat.le_refl _) _).alloc (by simp) _).alloc (by simp; omega) _
        have hc8 : Boxed (((W'.alloc (.cells #[.int .i64 0] 3)).alloc (.cells #[.pointer (some ⟨g, 0, none⟩)] 71)).alloc (.cells #[.int .i64 (i : Int)] 3)) W'.heap.size 3 (.int .i64 0) := ((Boxed.new W' _ _).alloc _).alloc _
        have ht8 : Boxed (((W'.alloc (.cells #[.int .i64 0] 3)).alloc (.cells #[.pointer (some ⟨g, 0, none⟩)] 71)).alloc (.cells #[.int .i64 (i : Int)] 3)) (W'.heap.size + 1) 71 (.pointer (some ⟨g, 0, none⟩)) := by
          have := (Boxed.new (W'.alloc (.cells #[.int .i64 0] 3)) 71 (.pointer (some ⟨g, 0, none⟩))).alloc (.cells #[.int .i64 (i : Int)] 3)
          rwa [World.size_alloc] at this
        have hn8 : Boxed (((W'.alloc (.cells #[.int .i64 0] 3)).alloc (.cells #[.pointer (some ⟨g, 0, none⟩)] 71)).alloc (.cells #[.int .i64 (i : Int)] 3)) (W'.heap.size + 2) 3 (.int .i64 (i : Int)) := by
          have := Boxed.new ((W'.alloc (.cells #[.int .i64 0] 3)).alloc (.cells #[.pointer (some ⟨g, 0, none⟩)] 71)) 3 (.int .i64 (i : Int))
          rwa [World.size_alloc, World.size_alloc] at this
        generalize hw8 : (((W'.alloc (.cells #[.int .i64 0] 3)).alloc (.cells #[.pointer (some ⟨g, 0, none⟩)] 71)).alloc (.cells #[.int .i64 (i : Int)] 3)) = w8 at *
        clear hw8
        have hBFG : Below W.heap.size W W' := HBF.out.trans (HBG.out.mono HBF.out.size)
        have hRD := HRW.out.below hBFG
        have hfew : x.f3.length ≤ 100000 := Nat.le_trans HN0.out.few HTL.out
        have hst := trie_Edges.stops _ N (i : Int) W' w8 (fun k => W'.heap.size ≤ k) hRD hb8 (fun k h => h) (W'.heap.size + 1) (W'.heap.size + 2) ht8 hn8 (by rw [node_in HX0.out]; omega) 19 (by omega)
        rw [node_in HX0.out] at hst
        have HST := Aside0.mk hst
        have HFEW := Aside0.mk hfew
        have HC8 := Aside0.mk hc8
        have HS8 := Aside0.mk hsz8
        have HB8 := Aside0.mk hb8
        have HCT8 := Aside0.mk (upB HCT.out hBFG)
        have HB68 := Aside0.mk (upB HB6.out.2 hBFG)
        have HI78 := Aside0.mk (Kd.C_below HI7.out hBFG)
        have HC58 := Aside0.mk (Kd.C_below HC5.out hBFG)
        have HX8 : Aside0 (W'.cell? (ad.add i) = some (.slice A7 s.length c7)) := ⟨(hBFG.cell (World.block_lt_of_cell? W _ HX.out)).trans HX.out⟩
        have HBFG := Aside0.mk hBFG
        have HELN : Aside0 (E.length = x.f3.length) := ⟨by rw [HEE.out, List.length_map]⟩
        clear hRD hst hfew hc8 hsz8 hb8 ht8 hn8 hBFG hci
        refine (wpIn_wide (n := 20)).1 ?_
        refine wpIn_range_pr rfl (by omega) (gf := 73) (lb := #[.pointer (some ⟨W'.heap.size + 1, 0, none⟩), .pointer (some ⟨W'.heap.size + 2, 0, none⟩)]) rfl trivial (enters_of Try.func73 (by kernel_rfl) rfl)
          HST.out KeepC.trans keepC_put (Below.refl _ _) (fun _ => rfl) (fun x s W W' row hs hg hr => trivial)
          (twnI W') (fun c xs W => False) (twnI_own W' _ (by have := HS8.out; omega)) (fun c s W W' row hs hg hr => hs) ⟨HB8.out, HC8.out⟩ (fun y => { tmps := #[(.slice A P.length ca : Value), (undef : Value), (.pointer (some ⟨w.heap.size, 0, none⟩) : Value), (.pointer (some ⟨g, 0, none⟩) : Value), (.int IntKind.i64 0 : Value), (.pointer (some ⟨b5, 0, none⟩) : Value), (.pointer (some ⟨b6, 0, none⟩) : Value), (.pointer (some ⟨k, 0, none⟩) : Value), (.pointer (some ⟨W'.heap.size, 0, none⟩) : Value), (.int .i64 y.f0 : Value), (.int .i64 y.f1 : Value), (.bool true : Value), (.bool false : Value), (.bool false : Value), (.slice A P.length ca : Value), (.bool true : Value), (.bool false : Value), (.bool false : Value), (undef : Value), (.tuple #[Value.pointer (some ⟨g, 0, none⟩), Value.int IntKind.i64 0] : Value), (.slice A P.length ca : Value), (.tuple #[Value.pointer (some ⟨g, 0, none⟩), Value.int IntKind.i64 0] : Value), (.pointer (some ⟨g, 0, none⟩) : Value), (.int IntKind.i64 0 : Value), (.slice A P.length ca : Value), (.bool false : Value), (undef : Value), (undef : Value), (undef : Value), (undef : Value), (undef : Value), (undef : Value), (.pointer (some ⟨g, 0, none⟩) : Value), (.bool false : Value), (.bool false : Value), (.int IntKind.i64 0 : Value), (.bool false : Value), (.bool false : Value), (.slice A P.length ca : Value), (.slice (some ad) T.length c5 : Value), (.pointer (some ⟨g, 0, none⟩) : Value), (.int IntKind.i64 (T.length : Int) : Value), (.slice (some ad) T.length c5 : Value), (.int IntKind.i64 (T.length : Int) : Value), (.bool false : Value), (.int IntKind.i64 (i : Int) : Value), (.slice (some ad) T.length c5 : Value), (.int IntKind.i64 (T.length : Int) : Value), (.bool true : Value), (u49 : Value), (u50 : Value), (.pointer (some ⟨g, 0, none⟩) : Value), (.int IntKind.i64 (i : Int) : Value), (.slice A10 s.length c10 : Value), (.slice (some ad) T.length c5 : Value), (.int IntKind.i64 (i : Int) : Value), (.pointer (some (ad.add i)) : Value), (.slice A7 s.length c7 : Value), (.bool true : Value), (.bool false : Value), (.bool false : Value), (.pointer (some ⟨g, 0, none⟩) : Value), (.int IntKind.i64 (i : Int) : Value), (.int IntKind.i64 (s.length : Int) : Value), (.slice (some ad) T.length c5 : Value), (.int IntKind.i64 (i : Int) : Value), (.pointer (some (ad.add i)) : Value), (.slice A7 s.length c7 : Value), (.int IntKind.i64 (s.length : Int) : Value), (.bool false : Value), (.bool false : Value), (.bool false : Value), (.pointer (some ⟨g, 0, none⟩) : Value), (.int IntKind.i64 (i : Int) : Value), (.slice A11 L.length c11 : Value), (.slice A P.length ca : Value), (.slice (some ad) T.length c5 : Value), (.int IntKind.i64 (i : Int) : Value), (.pointer (some (ad.add i)) : Value), (.slice A7 s.length c7 : Value), (.slice A12 L.length c12 : Value), (.bool true : Value), (.bool false : Value), (.bool false : Value), (.slice (some ad) T.length c5 : Value), (.slice (some ad) T.length c5 : Value), (.int IntKind.i64 (i : Int) : Value), (.pointer (some (ad.add i)) : Value), (.slice A7 s.length c7 : Value), (.slice AE E.length cE : Value), (.pointer (some ⟨g, 0, none⟩) : Value), (.int IntKind.i64 (i : Int) : Value), (.func (Fn.func 73) #[] #[Value.pointer (some ⟨W'.heap.size + 1, 0, none⟩), Value.pointer (some ⟨W'.heap.size + 1 + 1, 0, none⟩)] : Value), (.int .i64 y.f0 : Value), (.int .i64 y.f1 : Value), (u95 : Value), (u96 : Value), (u97 : Value), (u98 : Value), (u99 : Value), (u100 : Value), (u101 : Value), (u102 : Value), (u103 : Value), (u104 : Value), (u105 : Value), (u106 : Value), (u107 : Value), (u108 : Value), (u109 : Value), (u110 : Value), (u111 : Value), (u112 : Value), (u113 : Value), (u114 : Value), (u115 : Value), (u116 : Value), (u117 : Value), (u118 : Value), (u119 : Value), (u120 : Value), (u121 : Value), (u122 : Value), (u123 : Value), (u124 : Value), (u125 : Value), (u126 : Value), (u127 : Value), (u128 : Value)], defers := [] }) ?assign ?body ?done ?stop
        case stop => rintro D c pre W hD hSp hI hK; exact hI.elim
        case assign =>
          intro l y V Kq hK
          have HK_ := Aside0.mk hK
          clear hK
          gi_wp2
          exact HK_.out
        case body =>
          rintro l' pre y V ⟨hB, hbx⟩ - hsp
          have hpl : pre.length < x.f3.length := by have := hsp.length_le; simp at this; omega
          have hy : x.f3[pre.length]? = some y := by
            obtain ⟨r, hr⟩ := hsp
            rw [← hr, List.append_assoc, List.getElem?_append_right (Nat.le_refl _)]
            simp
          have hfy : findT 0 T (s ++ [y.f0]) = y.f1 := by
            obtain ⟨tq, h1, h2⟩ := HN0.out.out y (List.mem_of_getElem? hy)
            rw [h1]; exact findT_at HTR.out.tr.nd h2
          have hey : rd E (pre.length : Int) = y.f0 := by
            unfold rd
            rw [Int.toNat_natCast, List.getD_eq_getElem?_getD, HEE.out, List.getElem?_map, hy]
            rfl
          obtain ⟨ade, e9, hxe⟩ := Kd.at_int (Kd.C_below HCE.out hB) (pre.length : Int) (by omega) (by have := HELN.out; omega)
          subst e9
          rw [Int.toNat_natCast, hey] at hxe
          have HFY := Aside0.mk hfy
          have HPL := Aside0.mk hpl
          have HBV := Aside0.mk hB
          have HBX8 := Aside0.mk hbx
          have hc8 := hbx.cell
          have hc7 := Boxed.cell (upB HBX.out hB)
          have hc6 := Boxed.cell (upB HB68.out hB)
          have hc5 := Boxed.cell (upB HCT8.out hB)
          have hx7 : V.cell? (ad.add i) = some (.slice A7 s.length c7) := (hB.cell (World.block_lt_of_cell? W' _ HX8.out)).trans HX8.out
          have HI7V := Aside0.mk (Kd.C_below HI78.out hB)
          have HC5V := Aside0.mk (Kd.C_below HC58.out hB)
          have q1 : decide ((E.length : Int) ≤ (pre.length : Int)) = false := decide_eq_false (by have := HELN.out; omega)
          have q2 : ((E.length : Int) ≤ (pre.length : Int)) = False := eq_false (by have := HELN.out; omega)
          have q5 : ((pre.length : Int) < (E.length : Int)) = True := eq_true (by have := HELN.out; omega)
          have q6 : decide ((pre.length : Int) < (E.length : Int)) = true := decide_eq_true (by have := HELN.out; omega)
          obtain ⟨q3, q4⟩ := wr1 pre.length (by have := HFEW.out; omega)
          have HQ34 := Aside0.mk (And.intro q3 q4)
          clear hsp hy hfy hey hB hbx hpl q3 q4
          gi_wp2
          refine wpIn_region_round_held (fun w' => Below V.heap.size V w') (by kernel_rfl) (by kernel_rfl) ?_
          have hS : Below V.heap.size V V.drew := (Below.refl _ V).drew
          have HV0 : Aside0 (V.heap.size ≤ V.drew.heap.size) := ⟨hS.size⟩
          show wpAnyH _ _ _ _ _ _ _ _ V.drew
          generalize hv0 : V.drew = V0 at *
          clear hv0
          refine wpAnyH_take (i := 0) (v := .int .i64 (pre.length : Int)) rfl (by kernel_rfl) (by kernel_rfl) (by kernel_rfl) (fun _ _ _ h => h) (.inl ⟨by kernel_rfl, fun w' hS => by have q_ := (hS.cell (World.block_lt_of_cell? V _ hc8)).trans hc8; first | (go_simp; done) | (go_simp; simp [*]; done)⟩) hS ?_
          try simp only [List.getElem_toArray, List.getElem_cons_succ, List.getElem_cons_zero, Act.put, List.setIfInBounds_toArray, List.set_cons_zero, List.set_cons_succ]
          refine wpAnyH_take (i := 1) (v := .slice (some ade) E.length cE) rfl (by kernel_rfl) (by kernel_rfl) (by kernel_rfl) (fun _ _ _ h => h) (.inl ⟨by kernel_rfl, fun w' hS => by have q_ := (hS.cell (World.block_lt_of_cell? V _ hc7)).trans hc7; first | (go_simp; done) | (go_simp; simp [*]; done)⟩) hS ?_
          try simp only [List.getElem_toArray, List.getElem_cons_succ, List.getElem_cons_zero, Act.put, List.setIfInBounds_toArray, List.set_cons_zero, List.set_cons_succ]
          refine wpAnyH_take (i := 2) (v := .int .i64 (E.length : Int)) rfl (by kernel_rfl) (by kernel_rfl) (by kernel_rfl) (fun _ _ _ h => h) (.inl ⟨by kernel_rfl, fun w' hS => by first | (go_simp; done) | (go_simp; simp [*]; done)⟩) hS ?_
          try simp only [List.getElem_toArray, List.getElem_cons_succ, List.getElem_cons_zero, Act.put, List.setIfInBounds_toArray, List.set_cons_zero, List.set_cons_succ]
          refine wpAnyH_take (i := 3) (v := .bool false) rfl (by kernel_rfl) (by kernel_rfl) (by kernel_rfl) (fun _ _ _ h => h) (.inl ⟨by kernel_rfl, fun w' hS => by first | (go_simp; done) | (go_simp; simp [*]; done)⟩) hS ?_
          try simp only [List.getElem_toArray, List.getElem_cons_succ, List.getElem_cons_zero, Act.put, List.setIfInBounds_toArray, List.set_cons_zero, List.set_cons_succ]
          refine wpAnyH_take (i := 4) (v := .bool false) rfl (by kernel_rfl) (by kernel_rfl) (by kernel_rfl) (fun _ _ _ h => h) (.inl ⟨by kernel_rfl, fun w' hS => by first | (go_simp; done) | (go_simp; simp [*]; done)⟩) hS ?_
          try simp only [List.getElem_toArray, List.getElem_cons_succ, List.getElem_cons_zero, Act.put, List.setIfInBounds_toArray, List.set_cons_zero, List.set_cons_succ]
          refine wpAnyH_take (i := 5) (v := .int .i64 y.f0) rfl (by kernel_rfl) (by kernel_rfl) (by kernel_rfl) (fun _ _ _ h => h) (.inl ⟨by kernel_rfl, fun w' hS => by first | (go_simp; done) | (go_simp; simp [*]; done)⟩) hS ?_
          try simp only [List.getElem_toArray, List.getElem_cons_succ, List.getElem_cons_zero, Act.put, List.setIfInBounds_toArray, List.set_cons_zero, List.set_cons_succ]
          refine wpAnyH_take (i := 6) (v := .slice (some ade) E.length cE) rfl (by kernel_rfl) (by kernel_rfl) (by kernel_rfl) (fun _ _ _ h => h) (.inl ⟨by kernel_rfl, fun w' hS => by have q_ := (hS.cell (World.block_lt_of_cell? V _ hc7)).trans hc7; first | (go_simp; done) | (go_simp; simp [*]; done)⟩) hS ?_
          try simp only [List.getElem_toArray, List.getElem_cons_succ, List.getElem_cons_zero, Act.put, List.setIfInBounds_toArray, List.set_cons_zero, List.set_cons_succ]
          refine wpAnyH_take (i := 7) (v := .int .i64 (pre.length : Int)) rfl (by kernel_rfl) (by kernel_rfl) (by kernel_rfl) (fun _ _ _ h => h) (.inl ⟨by kernel_rfl, fun w' hS => by have q_ := (hS.cell (World.block_lt_of_cell? V _ hc8)).trans hc8; first | (go_simp; done) | (go_simp; simp [*]; done)⟩) hS ?_
          try simp only [List.getElem_toArray, List.getElem_cons_succ, List.getElem_cons_zero, Act.put, List.setIfInBounds_toArray, List.set_cons_zero, List.set_cons_succ]
          refine wpAnyH_take (i := 8) (v := .pointer (some (ade.add pre.length))) rfl (by kernel_rfl) (by kernel_rfl) (by kernel_rfl) (fun _ _ _ h => h) (.inl ⟨by kernel_rfl, fun w' hS => by first | (go_simp; done) | (go_simp; simp [*]; done)⟩) hS ?_
          try simp only [List.getElem_toArray, List.getElem_cons_succ, List.getElem_cons_zero, Act.put, List.setIfInBounds_toArray, List.set_cons_zero, List.set_cons_succ]
          refine wpAnyH_take (i := 9) (v := .int .i64 y.f0) rfl (by kernel_rfl) (by kernel_rfl) (by kernel_rfl) (fun _ _ _ h => h) (.inl ⟨by kernel_rfl, fun w' hS => by have q_ := (hS.cell (World.block_lt_of_cell? V _ hxe)).trans hxe; first | (go_simp; done) | (go_simp; simp [*]; done)⟩) hS ?_
          try simp only [List.getElem_toArray, List.getElem_cons_succ, List.getElem_cons_zero, Act.put, List.setIfInBounds_toArray, List.set_cons_zero, List.set_cons_succ]
          refine wpAnyH_take (i := 10) (v := .bool false) rfl (by kernel_rfl) (by kernel_rfl) (by kernel_rfl) (fun _ _ _ h => h) (.inl ⟨by kernel_rfl, fun w' hS => by first | (go_simp; done) | (go_simp; simp [*]; done)⟩) hS ?_
          try simp only [List.getElem_toArray, List.getElem_cons_succ, List.getElem_cons_zero, Act.put, List.setIfInBounds_toArray, List.set_cons_zero, List.set_cons_succ]
          refine wpAnyH_take (i := 11) (v := .bool false) rfl (by kernel_rfl) (by kernel_rfl) (by kernel_rfl) (fun _ _ _ h => h) (.inl ⟨by kernel_rfl, fun w' hS => by first | (go_simp; done) | (go_simp; simp [*]; done)⟩) hS ?_
          try simp only [List.getElem_toArray, List.getElem_cons_succ, List.getElem_cons_zero, Act.put, List.setIfInBounds_toArray, List.set_cons_zero, List.set_cons_succ]
          refine wpAnyH_take (i := 12) (v := .bool false) rfl (by kernel_rfl) (by kernel_rfl) (by kernel_rfl) (fun _ _ _ h => h) (.inl ⟨by kernel_rfl, fun w' hS => by first | (go_simp; done) | (go_simp; simp [*]; done)⟩) hS ?_
          try simp only [List.getElem_toArray, List.getElem_cons_succ, List.getElem_cons_zero, Act.put, List.setIfInBounds_toArray, List.set_cons_zero, List.set_cons_succ]
          refine wpAnyH_take (i := 13) (v := .int .i64 y.f1) rfl (by kernel_rfl) (by kernel_rfl) (by kernel_rfl) (fun _ _ _ h => h) (.inl ⟨by kernel_rfl, fun w' hS => by first | (go_simp; done) | (go_simp; simp [*]; done)⟩) hS ?_
          try simp only [List.getElem_toArray, List.getElem_cons_succ, List.getElem_cons_zero, Act.put, List.setIfInBounds_toArray, List.set_cons_zero, List.set_cons_succ]
          refine wpAnyH_take (i := 14) (v := .slice (some ad) T.length c5) rfl (by kernel_rfl) (by kernel_rfl) (by kernel_rfl) (fun _ _ _ h => h) (.inl ⟨by kernel_rfl, fun w' hS => by have q_ := (hS.cell (World.block_lt_of_cell? V _ hc5)).trans hc5; first | (go_simp; done) | (go_simp; simp [*]; done)⟩) hS ?_
          try simp only [List.getElem_toArray, List.getElem_cons_succ, List.getElem_cons_zero, Act.put, List.setIfInBounds_toArray, List.set_cons_zero, List.set_cons_succ]
          refine wpAnyH_take (i := 16) (v := .slice (some ad) T.length c5) rfl (by kernel_rfl) (by kernel_rfl) (by kernel_rfl) (fun _ _ _ h => h) (.inl ⟨by kernel_rfl, fun w' hS => by have q_ := (hS.cell (World.block_lt_of_cell? V _ hc5)).trans hc5; first | (go_simp; done) | (go_simp; simp [*]; done)⟩) hS ?_
          try simp only [List.getElem_toArray, List.getElem_cons_succ, List.getElem_cons_zero, Act.put, List.setIfInBounds_toArray, List.set_cons_zero, List.set_cons_succ]
          refine wpAnyH_take (i := 17) (v := .int .i64 (i : Int)) rfl (by kernel_rfl) (by kernel_rfl) (by kernel_rfl) (fun _ _ _ h => h) (.inl ⟨by kernel_rfl, fun w' hS => by have q_ := (hS.cell (World.block_lt_of_cell? V _ hc6)).trans hc6; first | (go_simp; done) | (go_simp; simp [*]; done)⟩) hS ?_
          try simp only [List.getElem_toArray, List.getElem_cons_succ, List.getElem_cons_zero, Act.put, List.setIfInBounds_toArray, List.set_cons_zero, List.set_cons_succ]
          refine wpAnyH_take (i := 18) (v := .pointer (some (ad.add i))) rfl (by kernel_rfl) (by kernel_rfl) (by kernel_rfl) (fun _ _ _ h => h) (.inl ⟨by kernel_rfl, fun w' hS => by first | (go_simp; done) | (go_simp; simp [*]; done)⟩) hS ?_
          try simp only [List.getElem_toArray, List.getElem_cons_succ, List.getElem_cons_zero, Act.put, List.setIfInBounds_toArray, List.set_cons_zero, List.set_cons_succ]
          refine wpAnyH_take (i := 19) (v := .slice A7 s.length c7) rfl (by kernel_rfl) (by kernel_rfl) (by kernel_rfl) (fun _ _ _ h => h) (.inl ⟨by kernel_rfl, fun w' hS => by have q_ := (hS.cell (World.block_lt_of_cell? V _ hx7)).trans hx7; first | (go_simp; done) | (go_simp; simp [*]; done)⟩) hS ?_
          try simp only [List.getElem_toArray, List.getElem_cons_succ, List.getElem_cons_zero, Act.put, List.setIfInBounds_toArray, List.set_cons_zero, List.set_cons_succ]
          refine wpAnyH_take (i := 21) (v := .int .i64 y.f0) rfl (by kernel_rfl) (by kernel_rfl) (by kernel_rfl) (fun _ _ _ h => h) (.inl ⟨by kernel_rfl, fun w' hS => by first | (go_simp; done) | (go_simp; simp [*]; done)⟩) hS ?_
          try simp only [List.getElem_toArray, List.getElem_cons_succ, List.getElem_cons_zero, Act.put, List.setIfInBounds_toArray, List.set_cons_zero, List.set_cons_succ]
          refine wpAnyH_ready (rs := [15, 22]) (by kernel_rfl) (by simp) (AllReadyH.cons rfl (fun K_ hK => ?_) (AllReadyH.cons rfl (fun K_ hK => ?_) AllReadyH.nil))
          · rw [if_pos (by kernel_rfl)]
            go_simp
            have hR1 := Kd.R_lower (row0_R V0) (show V.heap.size ≤ V0.heap.size from hS.size)
            have hS1 : Below V.heap.size V (V0.alloc (.cells #[] 3)) := hS.alloc hS.size _
            refine hK.out _ _ hS1 (fun _ => ?_)
            clear hK
            obtain ⟨b_1, hb_1⟩ : ∃ b, b = V0.heap.size := ⟨_, rfl⟩
            rw [← hb_1] at hR1 ⊢
            generalize hw_1 : V0.alloc (.cells #[] 3) = V_1 at *
            clear hw_1
            have HR1 := Aside0.mk hR1
            have HBL_1 : Aside0 (b_1 < V_1.heap.size) := ⟨own_lt (Kd.own_of_R hR1) _ rfl⟩
            have HNE_1 : Aside0 (b_1 = V0.heap.size) := ⟨hb_1⟩
            clear hR1 hb_1
            try simp only [List.getElem_toArray, List.getElem_cons_succ, List.getElem_cons_zero, Act.put, List.setIfInBounds_toArray, List.set_cons_zero, List.set_cons_succ]
            refine wpAnyH_ready (rs := [20, 22]) (by kernel_rfl) (by simp) (AllReadyH.cons rfl (fun K_ hK => ?_) (AllReadyH.cons rfl (fun K_ hK => ?_) AllReadyH.nil))
            · refine Kd.R_append_rows_step (Kd.int .i64) (w0 := V) (W := V_1) V.heap.size (by kernel_rfl) (.tmp 110) (.tmp 114) 22 3 (.int .i64 0) 8 rfl Try.underlying22 info_i64 rfl (by decide) (by omega) (.slice (some ⟨b_1, 0, none⟩) 0 0) ([] : List Int) s A7 s.length c7 (fun _ => True) (fun _ => False) rfl rfl HR1.out (Kd.C_below HI7V.out hS1) (fun _ _ h => h) (fun _ h => h.elim) (fun _ _ => trivial) hS1 hS1.size (by have := HSL.out; simp; omega) ?_
              intro v_2 V_2 hR2 hS2 hg2 _
              rw [List.nil_append] at hR2
              obtain ⟨A_2, c_2, rfl⟩ := Kd.R_slice hR2
              refine hK.out _ _ hS2 (fun _ => ?_)
              clear hK
              have HR2 := Aside0.mk hR2
              clear hR2 hg2
              try simp only [List.getElem_toArray, List.getElem_cons_succ, List.getElem_cons_zero, Act.put, List.setIfInBounds_toArray, List.set_cons_zero, List.set_cons_succ]
              refine wpAnyH_ready (rs := [22]) (by kernel_rfl) (by simp) (AllReadyH.cons rfl (fun K_ hK => ?_) AllReadyH.nil)
              rw [if_pos (by kernel_rfl)]
              go_simp
              have hS3 : Below V.heap.size V (V_2.alloc (.cells #[.int .i64 y.f0] 3)) := hS2.alloc hS2.size _
              have hH3 := heap_alloc_new V_2 (.cells #[.int .i64 y.f0] 3)
              have hR3 := rowR_alloc HR2.out (.cells #[.int .i64 y.f0] 3)
              refine hK.out _ _ hS3 (fun _ => ?_)
              clear hK
              obtain ⟨b_3, hb_3⟩ : ∃ b, b = V_2.heap.size := ⟨_, rfl⟩
              rw [← hb_3] at hH3 ⊢
              generalize hw_3 : V_2.alloc (.cells #[.int .i64 y.f0] 3) = V_3 at *
              clear hw_3
              have HH3 := Aside0.mk hH3
              have HNE_3 : Aside0 (b_3 = V_2.heap.size) := ⟨hb_3⟩
              have HR3 := Aside0.mk hR3
              clear hH3 hb_3 hR3
              try simp only [List.getElem_toArray, List.getElem_cons_succ, List.getElem_cons_zero, Act.put, List.setIfInBounds_toArray, List.set_cons_zero, List.set_cons_succ]
              refine wpAnyH_ready (rs := [23]) (by kernel_rfl) (by simp) (AllReadyH.cons rfl (fun K_ hK => ?_) AllReadyH.nil)
              refine Kd.R_append_rows_step (Kd.int .i64) (w0 := V) (W := V_3) V.heap.size (by kernel_rfl) (.tmp 115) (.tmp 117) 22 3 (.int .i64 0) 8 rfl Try.underlying22 info_i64 rfl (by decide) (by omega) (.slice A_2 s.length c_2) s [y.f0] (some ⟨b_3, 0, none⟩) 1 1 (fun _ => True) (fun _ => False) rfl rfl HR3.out (row1_C HH3.out) (fun _ _ h => h) (fun _ h => h.elim) (fun _ _ => trivial) hS3 hS3.size (by have := HSL.out; simp; omega) ?_
              intro v_4 V_4 hR4 hS4 hg4 _
              obtain ⟨A_4, c_4, rfl, hc_4, hC_4⟩ := Kd.R_reads hR4
              refine hK.out _ _ hS4 (fun _ => ?_)
              clear hK
              have HC_4 := Aside0.mk hC_4
              have HCL_4 := Aside0.mk hc_4
              clear hR4 hg4 hC_4 hc_4
              try simp only [List.getElem_toArray, List.getElem_cons_succ, List.getElem_cons_zero, Act.put, List.setIfInBounds_toArray, List.set_cons_zero, List.set_cons_succ]
              refine wpAnyH_ready (rs := [24]) (by kernel_rfl) (by simp) (AllReadyH.cons rfl (fun K_ hK => ?_) AllReadyH.nil)
              rw [if_pos (by kernel_rfl)]
              go_simp
              go_at_call 54
              refine (refFind.calls (T := T) (s := s ++ [y.f0]) (by have := HTL.out; omega) (fun t ht => by have := allT_short P [[]] 12 (by simp) H2.out t (by rw [← HTT.out]; exact ht); omega) (by have := HSL.out; simp; omega) (some ad) c5 A_4 c_4 _ _ (Kd.C_below HC5V.out hS4) HL5.out HC_4.out HCL_4.out (by simp)).mono ?_
              rintro e V9 ⟨rfl, ⟨m9, rfl⟩⟩
              rw [HFY.out]
              have hS9 : Below V.heap.size V (V_4.drewN m9) := pw_below_drewN hS4 m9
              refine hK.out _ _ hS9 (fun _ => ?_)
              clear hK
              try simp only [List.getElem_toArray, List.getElem_cons_succ, List.getElem_cons_zero, Act.put, List.setIfInBounds_toArray, List.set_cons_zero, List.set_cons_succ]
              refine wpAnyH_take (i := 25) (v := .bool false) rfl (by kernel_rfl) (by kernel_rfl) (by kernel_rfl) (fun _ _ _ h => h) (.inl ⟨by kernel_rfl, fun w' hS => by first | (go_simp; done) | (go_simp; simp [*]; done)⟩) hS9 ?_
              try simp only [List.getElem_toArray, List.getElem_cons_succ, List.getElem_cons_zero, Act.put, List.setIfInBounds_toArray, List.set_cons_zero, List.set_cons_succ]
              refine wpAnyH_take (i := 26) (v := .bool false) rfl (by kernel_rfl) (by kernel_rfl) (by kernel_rfl) (fun _ _ _ h => h) (.inl ⟨by kernel_rfl, fun w' hS => by first | (go_simp; done) | (go_simp; simp [*]; done)⟩) hS9 ?_
              try simp only [List.getElem_toArray, List.getElem_cons_succ, List.getElem_cons_zero, Act.put, List.setIfInBounds_toArray, List.set_cons_zero, List.set_cons_succ]
              refine wpAnyH_done (by kernel_rfl) ?_ _
              dsimp only [onlyK, Exit.then]
              have hc9 := Boxed.cell (upB HBX8.out hS9)
              have hf9 := Boxed.frozen (upB HBX8.out hS9)
              have HS9 := Aside0.mk hS9
              clear hc8 hc7 hc6 hc5 hx7 hxe hS9
              obtain ⟨q3, q4⟩ := HQ34.out
              gi_wp2
              exact twnI_step ⟨HBV.out, HBX8.out⟩ HS9.out
            · rw [if_pos (by kernel_rfl)]
              go_simp
              have hS5 : Below V.heap.size V (V_1.alloc (.cells #[.int .i64 y.f0] 3)) := hS1.alloc hS1.size _
              have hH5 := heap_alloc_new V_1 (.cells #[.int .i64 y.f0] 3)
              have hR5 := rowR_alloc HR1.out (.cells #[.int .i64 y.f0] 3)
              refine hK.out _ _ hS5 (fun _ => ?_)
              clear hK
              obtain ⟨b_5, hb_5⟩ : ∃ b, b = V_1.heap.size := ⟨_, rfl⟩
              rw [← hb_5] at hH5 ⊢
              generalize hw_5 : V_1.alloc (.cells #[.int .i64 y.f0] 3) = V_5 at *
              clear hw_5
              have HH5 := Aside0.mk hH5
              have HNE_5 : Aside0 (b_5 = V_1.heap.size) := ⟨hb_5⟩
              have HD_5 : Aside0 (b_5 ≠ b_1) := ⟨by have := HBL_1.out; omega⟩
              have HR5 := Aside0.mk hR5
              clear hH5 hb_5 hR5
              try simp only [List.getElem_toArray, List.getElem_cons_succ, List.getElem_cons_zero, Act.put, List.setIfInBounds_toArray, List.set_cons_zero, List.set_cons_succ]
              refine wpAnyH_ready (rs := [20]) (by kernel_rfl) (by simp) (AllReadyH.cons rfl (fun K_ hK => ?_) AllReadyH.nil)
              refine Kd.R_append_rows_step (Kd.int .i64) (w0 := V) (W := V_5) V.heap.size (by kernel_rfl) (.tmp 110) (.tmp 114) 22 3 (.int .i64 0) 8 rfl Try.underlying22 info_i64 rfl (by decide) (by omega) (.slice (some ⟨b_1, 0, none⟩) 0 0) ([] : List Int) s A7 s.length c7 (fun _ => True) (fun _ => False) rfl rfl HR5.out (Kd.C_below HI7V.out hS5) (fun _ _ h => h) (fun _ h => h.elim) (fun _ _ => trivial) hS5 hS5.size (by have := HSL.out; simp; omega) ?_
              intro v_6 V_6 hR6 hS6 hg6 _
              rw [List.nil_append] at hR6
              obtain ⟨A_6, c_6, rfl⟩ := Kd.R_slice hR6
              have hH6 : V_6.heap[b_5]? = some (.cells #[.int .i64 y.f0] 3 (0, 0)) := (hg6.block _ (Array.getElem?_eq_some_iff.1 HH5.out).1 (fun e => by have h_ : b_5 = b_1 := Option.some.inj e; exact HD_5.out h_)).trans HH5.out
              refine hK.out _ _ hS6 (fun _ => ?_)
              clear hK
              have HR6 := Aside0.mk hR6
              have HH6 := Aside0.mk hH6
              clear hR6 hg6 hH6
              try simp only [List.getElem_toArray, List.getElem_cons_succ, List.getElem_cons_zero, Act.put, List.setIfInBounds_toArray, List.set_cons_zero, List.set_cons_succ]
              refine wpAnyH_ready (rs := [23]) (by kernel_rfl) (by simp) (AllReadyH.cons rfl (fun K_ hK => ?_) AllReadyH.nil)
              refine Kd.R_append_rows_step (Kd.int .i64) (w0 := V) (W := V_6) V.heap.size (by kernel_rfl) (.tmp 115) (.tmp 117) 22 3 (.int .i64 0) 8 rfl Try.underlying22 info_i64 rfl (by decide) (by omega) (.slice A_6 s.length c_6) s [y.f0] (some ⟨b_5, 0, none⟩) 1 1 (fun _ => True) (fun _ => False) rfl rfl HR6.out (row1_C HH6.out) (fun _ _ h => h) (fun _ h => h.elim) (fun _ _ => trivial) hS6 hS6.size (by have := HSL.out; simp; omega) ?_
              intro v_7 V_7 hR7 hS7 hg7 _
              obtain ⟨A_7, c_7, rfl, hc_7, hC_7⟩ := Kd.R_reads hR7
              refine hK.out _ _ hS7 (fun _ => ?_)
              clear hK
              have HC_7 := Aside0.mk hC_7
              have HCL_7 := Aside0.mk hc_7
              clear hR7 hg7 hC_7 hc_7
              try simp only [List.getElem_toArray, List.getElem_cons_succ, List.getElem_cons_zero, Act.put, List.setIfInBounds_toArray, List.set_cons_zero, List.set_cons_succ]
              refine wpAnyH_ready (rs := [24]) (by kernel_rfl) (by simp) (AllReadyH.cons rfl (fun K_ hK => ?_) AllReadyH.nil)
              rw [if_pos (by kernel_rfl)]
              go_simp
              go_at_call 54
              refine (refFind.calls (T := T) (s := s ++ [y.f0]) (by have := HTL.out; omega) (fun t ht => by have := allT_short P [[]] 12 (by simp) H2.out t (by rw [← HTT.out]; exact ht); omega) (by have := HSL.out; simp; omega) (some ad) c5 A_7 c_7 _ _ (Kd.C_below HC5V.out hS7) HL5.out HC_7.out HCL_7.out (by simp)).mono ?_
              rintro e V9 ⟨rfl, ⟨m9, rfl⟩⟩
              rw [HFY.out]
              have hS9 : Below V.heap.size V (V_7.drewN m9) := pw_below_drewN hS7 m9
              refine hK.out _ _ hS9 (fun _ => ?_)
              clear hK
              try simp only [List.getElem_toArray, List.getElem_cons_succ, List.getElem_cons_zero, Act.put, List.setIfInBounds_toArray, List.set_cons_zero, List.set_cons_succ]
              refine wpAnyH_take (i := 25) (v := .bool false) rfl (by kernel_rfl) (by kernel_rfl) (by kernel_rfl) (fun _ _ _ h => h) (.inl ⟨by kernel_rfl, fun w' hS => by first | (go_simp; done) | (go_simp; simp [*]; done)⟩) hS9 ?_
              try simp only [List.getElem_toArray, List.getElem_cons_succ, List.getElem_cons_zero, Act.put, List.setIfInBounds_toArray, List.set_cons_zero, List.set_cons_succ]
              refine wpAnyH_take (i := 26) (v := .bool false) rfl (by kernel_rfl) (by kernel_rfl) (by kernel_rfl) (fun _ _ _ h => h) (.inl ⟨by kernel_rfl, fun w' hS => by first | (go_simp; done) | (go_simp; simp [*]; done)⟩) hS9 ?_
              try simp only [List.getElem_toArray, List.getElem_cons_succ, List.getElem_cons_zero, Act.put, List.setIfInBounds_toArray, List.set_cons_zero, List.set_cons_succ]
              refine wpAnyH_done (by kernel_rfl) ?_ _
              dsimp only [onlyK, Exit.then]
              have hc9 := Boxed.cell (upB HBX8.out hS9)
              have hf9 := Boxed.frozen (upB HBX8.out hS9)
              have HS9 := Aside0.mk hS9
              clear hc8 hc7 hc6 hc5 hx7 hxe hS9
              obtain ⟨q3, q4⟩ := HQ34.out
              gi_wp2
              exact twnI_step ⟨HBV.out, HBX8.out⟩ HS9.out
          · rw [if_pos (by kernel_rfl)]
            go_simp
            have hS8 : Below V.heap.size V (V0.alloc (.cells #[.int .i64 y.f0] 3)) := hS.alloc hS.size _
            have hH8 := heap_alloc_new V0 (.cells #[.int .i64 y.f0] 3)
            refine hK.out _ _ hS8 (fun _ => ?_)
            clear hK
            obtain ⟨b_8, hb_8⟩ : ∃ b, b = V0.heap.size := ⟨_, rfl⟩
            rw [← hb_8] at hH8 ⊢
            generalize hw_8 : V0.alloc (.cells #[.int .i64 y.f0] 3) = V_8 at *
            clear hw_8
            have HH8 := Aside0.mk hH8
            have HNE_8 : Aside0 (b_8 = V0.heap.size) := ⟨hb_8⟩
            clear hH8 hb_8
            try simp only [List.getElem_toArray, List.getElem_cons_succ, List.getElem_cons_zero, Act.put, List.setIfInBounds_toArray, List.set_cons_zero, List.set_cons_succ]
            refine wpAnyH_ready (rs := [15]) (by kernel_rfl) (by simp) (AllReadyH.cons rfl (fun K_ hK => ?_) AllReadyH.nil)
            rw [if_pos (by kernel_rfl)]
            go_simp
            have hR9 := Kd.R_lower (row0_R V_8) (show V.heap.size ≤ V_8.heap.size from hS8.size)
            have hS9 : Below V.heap.size V (V_8.alloc (.cells #[] 3)) := hS8.alloc hS8.size _
            have hH9 : (V_8.alloc (.cells #[] 3)).heap[b_8]? = some (.cells #[.int .i64 y.f0] 3 (0, 0)) := (Below.heap_alloc V_8 _ _ (Array.getElem?_eq_some_iff.1 HH8.out).1).trans HH8.out
            refine hK.out _ _ hS9 (fun _ => ?_)
            clear hK
            obtain ⟨b_9, hb_9⟩ : ∃ b, b = V_8.heap.size := ⟨_, rfl⟩
            rw [← hb_9] at hR9 ⊢
            generalize hw_9 : V_8.alloc (.cells #[] 3) = V_9 at *
            clear hw_9
            have HR9 := Aside0.mk hR9
            have HBL_9 : Aside0 (b_9 < V_9.heap.size) := ⟨own_lt (Kd.own_of_R hR9) _ rfl⟩
            have HH9 := Aside0.mk hH9
            have HNE_9 : Aside0 (b_9 = V_8.heap.size) := ⟨hb_9⟩
            have HD_9 : Aside0 (b_8 ≠ b_9) := ⟨by have := (Array.getElem?_eq_some_iff.1 HH8.out).1; omega⟩
            clear hR9 hb_9 hH9
            try simp only [List.getElem_toArray, List.getElem_cons_succ, List.getElem_cons_zero, Act.put, List.setIfInBounds_toArray, List.set_cons_zero, List.set_cons_succ]
            refine wpAnyH_ready (rs := [20]) (by kernel_rfl) (by simp) (AllReadyH.cons rfl (fun K_ hK => ?_) AllReadyH.nil)
            refine Kd.R_append_rows_step (Kd.int .i64) (w0 := V) (W := V_9) V.heap.size (by kernel_rfl) (.tmp 110) (.tmp 114) 22 3 (.int .i64 0) 8 rfl Try.underlying22 info_i64 rfl (by decide) (by omega) (.slice (some ⟨b_9, 0, none⟩) 0 0) ([] : List Int) s A7 s.length c7 (fun _ => True) (fun _ => False) rfl rfl HR9.out (Kd.C_below HI7V.out hS9) (fun _ _ h => h) (fun _ h => h.elim) (fun _ _ => trivial) hS9 hS9.size (by have := HSL.out; simp; omega) ?_
            intro v_10 V_10 hR10 hS10 hg10 _
            rw [List.nil_append] at hR10
            obtain ⟨A_10, c_10, rfl⟩ := Kd.R_slice hR10
            have hH10 : V_10.heap[b_8]? = some (.cells #[.int .i64 y.f0] 3 (0, 0)) := (hg10.block _ (Array.getElem?_eq_some_iff.1 HH9.out).1 (fun e => by have h_ : b_8 = b_9 := Option.some.inj e; exact HD_9.out h_)).trans HH9.out
            refine hK.out _ _ hS10 (fun _ => ?_)
            clear hK
            have HR10 := Aside0.mk hR10
            have HH10 := Aside0.mk hH10
            clear hR10 hg10 hH10
            try simp only [List.getElem_toArray, List.getElem_cons_succ, List.getElem_cons_zero, Act.put, List.setIfInBounds_toArray, List.set_cons_zero, List.set_cons_succ]
            refine wpAnyH_ready (rs := [23]) (by kernel_rfl) (by simp) (AllReadyH.cons rfl (fun K_ hK => ?_) AllReadyH.nil)
            refine Kd.R_append_rows_step (Kd.int .i64) (w0 := V) (W := V_10) V.heap.size (by kernel_rfl) (.tmp 115) (.tmp 117) 22 3 (.int .i64 0) 8 rfl Try.underlying22 info_i64 rfl (by decide) (by omega) (.slice A_10 s.length c_10) s [y.f0] (some ⟨b_8, 0, none⟩) 1 1 (fun _ => True) (fun _ => False) rfl rfl HR10.out (row1_C HH10.out) (fun _ _ h => h) (fun _ h => h.elim) (fun _ _ => trivial) hS10 hS10.size (by have := HSL.out; simp; omega) ?_
            intro v_11 V_11 hR11 hS11 hg11 _
            obtain ⟨A_11, c_11, rfl, hc_11, hC_11⟩ := Kd.R_reads hR11
            refine hK.out _ _ hS11 (fun _ => ?_)
            clear hK
            have HC_11 := Aside0.mk hC_11
            have HCL_11 := Aside0.mk hc_11
            clear hR11 hg11 hC_11 hc_11
            try simp only [List.getElem_toArray, List.getElem_cons_succ, List.getElem_cons_zero, Act.put, List.setIfInBounds_toArray, List.set_cons_zero, List.set_cons_succ]
            refine wpAnyH_ready (rs := [24]) (by kernel_rfl) (by simp) (AllReadyH.cons rfl (fun K_ hK => ?_) AllReadyH.nil)
            rw [if_pos (by kernel_rfl)]
            go_simp
            go_at_call 54
            refine (refFind.calls (T := T) (s := s ++ [y.f0]) (by have := HTL.out; omega) (fun t ht => by have := allT_short P [[]] 12 (by simp) H2.out t (by rw [← HTT.out]; exact ht); omega) (by have := HSL.out; simp; omega) (some ad) c5 A_11 c_11 _ _ (Kd.C_below HC5V.out hS11) HL5.out HC_11.out HCL_11.out (by simp)).mono ?_
            rintro e V9 ⟨rfl, ⟨m9, rfl⟩⟩
            rw [HFY.out]
            have hS9 : Below V.heap.size V (V_11.drewN m9) := pw_below_drewN hS11 m9
            refine hK.out _ _ hS9 (fun _ => ?_)
            clear hK
            try simp only [List.getElem_toArray, List.getElem_cons_succ, List.getElem_cons_zero, Act.put, List.setIfInBounds_toArray, List.set_cons_zero, List.set_cons_succ]
            refine wpAnyH_take (i := 25) (v := .bool false) rfl (by kernel_rfl) (by kernel_rfl) (by kernel_rfl) (fun _ _ _ h => h) (.inl ⟨by kernel_rfl, fun w' hS => by first | (go_simp; done) | (go_simp; simp [*]; done)⟩) hS9 ?_
            try simp only [List.getElem_toArray, List.getElem_cons_succ, List.getElem_cons_zero, Act.put, List.setIfInBounds_toArray, List.set_cons_zero, List.set_cons_succ]
            refine wpAnyH_take (i := 26) (v := .bool false) rfl (by kernel_rfl) (by kernel_rfl) (by kernel_rfl) (fun _ _ _ h => h) (.inl ⟨by kernel_rfl, fun w' hS => by first | (go_simp; done) | (go_simp; simp [*]; done)⟩) hS9 ?_
            try simp only [List.getElem_toArray, List.getElem_cons_succ, List.getElem_cons_zero, Act.put, List.setIfInBounds_toArray, List.set_cons_zero, List.set_cons_succ]
            refine wpAnyH_done (by kernel_rfl) ?_ _
            dsimp only [onlyK, Exit.then]
            have hc9 := Boxed.cell (upB HBX8.out hS9)
            have hf9 := Boxed.frozen (upB HBX8.out hS9)
            have HS9 := Aside0.mk hS9
            clear hc8 hc7 hc6 hc5 hx7 hxe hS9
            obtain ⟨q3, q4⟩ := HQ34.out
            gi_wp2
            exact twnI_step ⟨HBV.out, HBX8.out⟩ HS9.out
        case done =>
          rintro D ys V hD hys ⟨hB, hbx⟩ hK
          subst hys
          rw [← HELN.out] at hbx
          have hc8 := hbx.cell
          have hc7 := Boxed.cell (upB HBX.out hB)
          have hc6 := Boxed.cell (upB HB68.out hB)
          have HBV := Aside0.mk hB
          have HD := Aside0.mk hD
          have HK_ := Aside0.mk hK
          have HB6V := Aside0.mk (upB HB68.out hB)
          clear hB hbx hK hD
          obtain ⟨w3_, w4_⟩ := HW3.out
          go_wp2
          clear w3_ w4_
          have h2W : Below W.heap.size W V := HBFG.out.trans (HBV.out.mono HBFG.out.size)
          have h3W : Below W.heap.size W (V.alloc (.cells #[.int .i64 ((i : Int) + 1)] 3)) := h2W.alloc h2W.size _
          have hsW := HBFG.out.size
          have hsV := HBV.out.size
          have h8 := HS8.out
          have hb9 := HBW.out.size
          exact Handed.intro kq (by omega) (HJ.out _ _ _ ⟨D :: Ds, _, _, _, _, _, _, _, _, _, _, _, _, _, _, _, _, _, _, _, _, _, _, _, _, _, _, _, _, _, _, _, _, _, _, _, _, _, _, _, _, _, _, _, _, _, _, _, _, _, _, _, _, _, _, _, _, _, _, _, _, _, _, _, _, _, _, _, _, _, _, _, _, _, _, _, _, _, _, _, _, _, _, _, _, _, _, _, _, _, ⟨i + 1, V.heap.size, rfl, ⟨by have := HI.out; have := HII.out; omega⟩, ⟨by omega, Boxed.new V _ _⟩, ⟨HBW.out.trans (h3W.mono hb9)⟩,
            ⟨(HMK.out.below h3W (Nat.le_refl _)).cons (fun E hE => by have := HMK.out.lt hE; have := HD.out; omega) (by have := HD.out; omega) ((Below.heap_alloc V _ D (Array.getElem?_eq_some_iff.1 HK_.out).1).trans HK_.out)⟩⟩, rfl⟩)
    · have e0 := eq_false c1
      have e1 : decide ((i : Int) < (T.length : Int)) = false := decide_eq_false c1
      have hcr := Boxed.cell (upB HX9.out HBW.out)
      have hfr := Boxed.frozen (upB HX9.out HBW.out)
      clear c1
      go_wp2
      have hq : Below w.heap.size w W := HW9.out.trans (HBW.out.mono HW9.out.size)
      have hbr := Boxed.set (.bool true) (upB HX9.out HBW.out)
      refine leaves_marks (n0 := w9.heap.size) Ds _ (HMK.out.step (fun D hD => Below.heap_setCell W ⟨w.heap.size, 0, none⟩ _ D (fun e => by have := (HMK.out.2 D hD).1; have := HWS.out; have : D = w.heap.size := e; omega))) (fun W' hW' => ?_)
      have hcq : Boxed W' w.heap.size 4 (.bool true) := (hW'.block _ HWS.out).trans hbr
      have hcq := hcq.cell
      exact ⟨_, by simp [results, Try.results11, go_sem, hcq], rfl, (hq.setCell (p := ⟨w.heap.size, 0, none⟩) (Nat.le_refl _) _).trans (hW'.mono HW9.out.size)⟩
theorem paronymlaw22_TrieNodes.walk (a0 : Option Addr) (cap0 : Nat) (ls0 : List (List Int)) (w : World) (hC0 : Kd.C (Kd.slice 3 (Kd.int .i64)) w a0 ls0.length ls0) (hcap0 : ls0.length ≤ cap0) (hwf0 : ∀ l ∈ ls0, ∀ a ∈ l, (Lit.int .i64 a).wf = true) :
    Calls Try.prog 11 #[.slice a0 ls0.length cap0] w fun e w' => e = .returned (.bool true) ∧ Below w.heap.size w w' := by
  cases h1 : smallB ls0 12 with
  | false => exact paronymlaw22_TrieNodes.out a0 cap0 ls0 w hC0 hcap0 h1
  | true =>
    cases h2 : decide (idxE 0 ls0 ≥ 0) with
    | true => exact paronymlaw22_TrieNodes.empty a0 cap0 ls0 w hC0 hcap0 h1 h2
    | false => exact paronymlaw22_TrieNodes.main a0 cap0 ls0 w hC0 hcap0 h1 h2
end Go.Proofs.Ytlipbiihemhieaa.Q

-- from LawTrieNodes
-- Made by hp.py, a program of this session, with the kit's printer. Not trusted: Lean checks it.
namespace Go.Proofs.Ytlipbiihemhieaa.trieNodes
open Go.ChangeShapes Go.WideShapes Go.ChangeAt Go.RowKit
open Go.ChangeMaps (open_string shut_string)
set_option linter.unusedVariables false
theorem own : ownKnob Try.prog.godebug = none := by kernel_rfl
theorem laidOut : laidOutB Try.prog = true := by kernel_rfl
def IsRow (k : IntKind) (w : World) (a : Option Addr) (len cap : Nat) (zs : List Int) : Prop :=
  (a = none ∧ len = 0 ∧ cap = 0 ∧ zs = []) ∨
  ∃ x, a = some x ∧ len ≤ cap ∧ cap ≤ maxLen ∧ zs.length = cap ∧ (∀ i, i < zs.length → w.cell? (x.add i) = some (.int k (zs.getD i 0))) ∧ ∀ n ∈ zs, (Lit.int k n).wf = true
set_option maxRecDepth 100000 in
theorem lifted (os : Os) (started : os.Started) (H : Type) (enc : TypeId × Value → H) :
    ReturnsInHanded {} Try.checked os 11 .any (Rows.trieNodesSpec.pre6 enc Try.prog Try.f11 Rows.trieNodesRow.domain false) (Rows.trieNodesSpec.post enc Try.prog Try.f11 false true false false) := by
  refine returnsInHanded_of_change_sized (C := Try.checked) own started (by kernel_rfl) Try.func11
    (ChangeSpec.witness6 (enc := enc) (C := Try.checked) false ⟨#[], #[.slice none 0 0], []⟩ 8 (by kernel_rfl) (by kernel_rfl) (by kernel_rfl) (by kernel_rfl)) ?_
  intro W base args ds gs before hval0 hW hcnd hsz0 _
  have hsz : (DataW.weightsEach Try.prog (Try.f11.params.toList ++ Rows.trieNodesSpec.plain.varTypes Try.prog) (ds ++ gs)).all (· ≤ reachBytes) = true := hsz0
  have hval : ∀ (j : Nat) t v, Try.f11.params[j]? = some t → args[j]? = some v → Value.okWide Try.prog W .any base t v := hval0
  have hW' := hW
  obtain ⟨p, q, hA0, hV, rfl, hfz, hnd⟩ := hW
  have hA : DataW.TrodAll enc Try.prog W 0 (fun _ => true) true Try.f11.params.toList args.toList ds p := hA0
  rw [Try.params11] at hA hval hsz
  obtain ⟨v0, vs0, d0, ds0, p0, q0, hargs, rfl, rfl, h0, r0⟩ := trodAll_cons hA
  obtain ⟨rfl, rfl, rfl⟩ := trodAll_nil r0
  obtain rfl : args = #[v0] := by cases args; simp_all
  obtain ⟨rfl, rfl⟩ := trodVars_none hV
  obtain ⟨a0, len0, cap0, rfl⟩ := okWide_slice Try.underlying24 (hval 0 24 v0 rfl rfl)
  have k0 := h0
  have lt0 : ∀ x ∈ p0, x.block < W.heap.size := by obtain ⟨m, hm⟩ := k0; exact DataW.trod_lt m _ _ _ hm
  obtain ⟨ls0, hn0, hcap0, hC0, hwf0⟩ := Q.opens_arg Try.underlying24 (by kernel_rfl) (show Q.Opens enc Try.prog W 22 (Go.Proofs.YtlipbiihemhieaaW.PrintWords.Kd.slice 3 (Go.Proofs.YtlipbiihemhieaaW.PrintWords.Kd.int .i64)) (fun l => ∀ a ∈ l, (Lit.int .i64 a).wf = true) from Q.opens_slice (by kernel_rfl) (by kernel_rfl) (Q.opens_int (by kernel_rfl))) h0
  subst hn0
  clear hA0 hval0 hsz0 hsz
  refine (Q.paronymlaw22_TrieNodes.walk a0 cap0 ls0 W hC0 hcap0 hwf0).mono fun e W' ⟨he, bel⟩ => ?_
  subst he
  exact ⟨_, rfl, _, _, _, [], _, [], hW', trodAll_mk1 (shut_bool Try.underlying4 _), (trodAll_cons_mk (Below.trod laidOut (by kernel_rfl) (of_decide_eq_true (by kernel_rfl)) k0 bel lt0) trodAll_mk0), rfl, bel.frame _, fun h => by cases h⟩
theorem over : Rows.trieNodesRow.holds Try.pinned (OpenSpec.ofChange Rows.trieNodesSpec) :=
  OpenClaim.holds_of_wide 11 Try.f11 rfl rfl rfl rfl rfl rfl rfl ⟨rfl, rfl, rfl, rfl, rfl⟩ rfl rfl rfl rfl rfl (by kernel_rfl) Try.func11 (by kernel_rfl)
    (of_decide_eq_true (by kernel_rfl)) (by unfold Func.isWrapper; first | (rw [if_pos (by decide +kernel)]; kernel_rfl) | (rw [if_neg (by decide +kernel)]; exact ⟨rfl, rfl⟩))
    (fun os started H enc _ => lifted os started H enc)
theorem proved : Rows.TrieNodesSaid := over
#print axioms proved
end Go.Proofs.Ytlipbiihemhieaa.trieNodes
namespace Go.Proofs.Ytlipbiihemhieaa
/-- The row, under a short name, for the claim. -/
theorem trieNodes_holds : Rows.TrieNodesSaid := trieNodes.proved
end Go.Proofs.Ytlipbiihemhieaa
