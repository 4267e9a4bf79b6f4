/- Part 2 of 3 of the proof of SpanPoints: Points tells all code points of a value, rising, however early who asks leaves off. For every input; no condition. -/
import Derived.Test.YtlipbiihemhieaaCSpanPoints1
import Derived.Deep.RegionHeld3
import Derived.RegionIn
import Derived.Shelf.RegionOpen

-- from Had6
/- span: Add where the new span is one: printed by genadd.py. -/
namespace Go.Proofs.Ytlipbiihemhieaa.Q
open Go.RowKit Go.Shelf Go.Proofs.YtlipbiihemhieaaW.PrintWords Go.Proofs.YtlipbiihemhieaaW.PrintLast Go.Proofs.YtlipbiihemhieaaW.PrintMore
set_option linter.unusedVariables false
set_option linter.unusedSimpArgs false
attribute [local go_sem] Oper.semAt_some

set_option maxHeartbeats 2000000 in
set_option maxRecDepth 100000 in
theorem span_Add.twice (k : Nat) (p : Option Addr) (L : List S43) (s : S43) (i : Int) (w : World) (hT : Tab w p L) (hf : span_find.f k L s.f0 = some i) (hc : ¬ (s.f0 < 0 ∨ 1114111 < s.f1 ∨ s.f1 < s.f0)) (hv : ¬ s.f2.toList = ([] : List UInt8)) (c1 : i < (L.length : Int)) (c2 : 0 ≤ i) (c3 : (rd_T43 L i).f0 ≤ s.f1) :
    Calls Try.prog 30 #[.pointer p, .agg #[.int .i64 s.f0, .int .i64 s.f1, .string s.f2]] w fun e w' => e = .returned (.tuple #[.pointer none, .int .i64 15]) ∧ Below w.heap.size w w' := by
  have HT := Aside0.mk hT
  have HF := Aside0.mk hf
  have h1 : decide (s.f0 < 0) = false := by simp; omega
  have h2 : decide (1114111 < s.f1) = false := by simp; omega
  have h3 : decide (s.f1 < s.f0) = false := by simp; omega
  have b1 : (s.f2.toList == ([] : List UInt8)) = false := beq_eq_false_iff_ne.mpr hv
  have b3 : s.f2.toList.isEmpty = false := by
    cases hv' : s.f2.toList with
    | nil => exact absurd hv' hv
    | cons _ _ => rfl
  rcases hT.open_ with ⟨_, rfl⟩ | ⟨g, A, n, rfl, q2, q3, q4⟩
  · simp at c1; omega
  have hcg : w.cell? ⟨g, 0, none⟩ = some (.slice A L.length n) := by unfold World.cell?; rw [q2]; rfl
  obtain ⟨ad, rfl, hx0, hx1, hx2⟩ := at_T43 q4 i c2 c1
  have HCG := Aside0.mk hcg
  have HX0 := Aside0.mk hx0
  have e1 : decide (i < (L.length : Int)) = true := decide_eq_true c1
  have e2 := eq_true c1
  have e3 := eq_true c2
  have e4 := eq_true c3
  have e5 : decide ((rd_T43 L i).f0 ≤ s.f1) = true := decide_eq_true c3
  clear hT hf hc q2 q3 q4 hcg hx0 hx1 hx2 c1 c2 c3
  go_enter Try.func30, Try.ntmps30
  have HS := Aside0.mk (AddS.start w s)
  go_wp2_with (first
    | (go_at_call 62
       refine (span_find.calls k _ L s.f0 i _ (HT.out.below HS.out.2) HF.out).mono ?_
       rintro e w2 ⟨rfl, hb⟩
       have HS2 := Aside0.mk (HS.out.below hb)
       obtain ⟨hx0, hx1, hx2⟩ := HS2.out.cells
       clear hb))
  refine wp_region_noPanic ?_
  refine wp_region_held (S := AddS w s) (by kernel_rfl) ?_
  have hS : AddS w s w2.drew := ⟨HS2.out.1, HS2.out.2.drew⟩
  show wpAnyH _ _ _ _ _ _ _ _ w2.drew
  refine wpAnyH_take (i := 0) (v := .int .i64 i) rfl (by kernel_rfl) (by kernel_rfl) (by kernel_rfl) (fun _ _ _ h => h) (.inl ⟨by kernel_rfl, fun w' hS => by go_simp⟩) hS ?_
  try simp only [List.getElem_toArray, List.getElem_cons_succ, List.getElem_cons_zero, Act.put, List.setIfInBounds_toArray, List.set_cons_zero, List.set_cons_succ]
  refine wpAnyH_take (i := 1) (v := .pointer (some ⟨g, 0, none⟩)) rfl (by kernel_rfl) (by kernel_rfl) (by kernel_rfl) (fun _ _ _ h => h) (.inl ⟨by kernel_rfl, fun w' hS => by go_simp⟩) hS ?_
  try simp only [List.getElem_toArray, List.getElem_cons_succ, List.getElem_cons_zero, Act.put, List.setIfInBounds_toArray, List.set_cons_zero, List.set_cons_succ]
  refine wpAnyH_ready (rs := [2]) (by kernel_rfl) (by simp) (AllReadyH.cons rfl (fun K' hK => ?_) AllReadyH.nil)
  rw [if_pos (by kernel_rfl)]
  go_simp
  go_at_call 63
  refine (span_spans.calls' _ L _ (HT.out.below hS.2)).mono ?_
  rintro e w7 ⟨⟨A6, n6, rfl, hn6, hC6⟩, rfl⟩
  have hS' := hS
  refine hK.out _ _ hS' (fun _ => ?_)
  clear hK hS
  have hS := hS'
  clear hS'
  try simp only [List.getElem_toArray, List.getElem_cons_succ, List.getElem_cons_zero, Act.put, List.setIfInBounds_toArray, List.set_cons_zero, List.set_cons_succ]
  refine wpAnyH_take (i := 3) (v := .int .i64 (L.length : Int)) rfl (by kernel_rfl) (by kernel_rfl) (by kernel_rfl) (fun _ _ _ h => h) (.inl ⟨by kernel_rfl, fun w' hS => by go_simp⟩) hS ?_
  try simp only [List.getElem_toArray, List.getElem_cons_succ, List.getElem_cons_zero, Act.put, List.setIfInBounds_toArray, List.set_cons_zero, List.set_cons_succ]
  refine wpAnyH_take (i := 4) (v := .bool true) rfl (by kernel_rfl) (by kernel_rfl) (by kernel_rfl) (fun _ _ _ h => h) (.inl ⟨by kernel_rfl, fun w' hS => by go_simp⟩) hS ?_
  try simp only [List.getElem_toArray, List.getElem_cons_succ, List.getElem_cons_zero, Act.put, List.setIfInBounds_toArray, List.set_cons_zero, List.set_cons_succ]
  refine wpAnyH_take (i := 5) (v := .bool true) rfl (by kernel_rfl) (by kernel_rfl) (by kernel_rfl) (fun _ _ _ h => h) (.inl ⟨by kernel_rfl, fun w' hS => by go_simp⟩) hS ?_
  try simp only [List.getElem_toArray, List.getElem_cons_succ, List.getElem_cons_zero, Act.put, List.setIfInBounds_toArray, List.set_cons_zero, List.set_cons_succ]
  refine wpAnyH_take (i := 6) (v := .pointer (some ⟨g, 0, none⟩)) rfl (by kernel_rfl) (by kernel_rfl) (by kernel_rfl) (fun _ _ _ h => h) (.inl ⟨by kernel_rfl, fun w' hS => by go_simp⟩) hS ?_
  try simp only [List.getElem_toArray, List.getElem_cons_succ, List.getElem_cons_zero, Act.put, List.setIfInBounds_toArray, List.set_cons_zero, List.set_cons_succ]
  refine wpAnyH_take (i := 7) (v := .pointer (some ⟨g, 0, none⟩)) rfl (by kernel_rfl) (by kernel_rfl) (by kernel_rfl) (fun _ _ _ h => h) (.inl ⟨by kernel_rfl, fun w' hS => by go_simp⟩) hS ?_
  try simp only [List.getElem_toArray, List.getElem_cons_succ, List.getElem_cons_zero, Act.put, List.setIfInBounds_toArray, List.set_cons_zero, List.set_cons_succ]
  refine wpAnyH_take (i := 8) (v := .pointer (some ⟨g, 0, none⟩)) rfl (by kernel_rfl) (by kernel_rfl) (by kernel_rfl) (fun _ _ _ h => h) (.inl ⟨by kernel_rfl, fun w' hS => by go_simp⟩) hS ?_
  try simp only [List.getElem_toArray, List.getElem_cons_succ, List.getElem_cons_zero, Act.put, List.setIfInBounds_toArray, List.set_cons_zero, List.set_cons_succ]
  refine wpAnyH_take (i := 9) (v := .slice (some ad) L.length n) rfl (by kernel_rfl) (by kernel_rfl) (by kernel_rfl) (fun _ _ _ h => h) (.inl ⟨by kernel_rfl, fun w' hS => by have q_ := (hS.2.cell (World.block_lt_of_cell? w _ HCG.out)).trans HCG.out; go_simp⟩) hS ?_
  try simp only [List.getElem_toArray, List.getElem_cons_succ, List.getElem_cons_zero, Act.put, List.setIfInBounds_toArray, List.set_cons_zero, List.set_cons_succ]
  refine wpAnyH_take (i := 10) (v := .int .i64 i) rfl (by kernel_rfl) (by kernel_rfl) (by kernel_rfl) (fun _ _ _ h => h) (.inl ⟨by kernel_rfl, fun w' hS => by go_simp⟩) hS ?_
  try simp only [List.getElem_toArray, List.getElem_cons_succ, List.getElem_cons_zero, Act.put, List.setIfInBounds_toArray, List.set_cons_zero, List.set_cons_succ]
  refine wpAnyH_take (i := 11) (v := .pointer (some (ad.add (i.toNat * 3)))) rfl (by kernel_rfl) (by kernel_rfl) (by kernel_rfl) (fun _ _ _ h => h) (.inl ⟨by kernel_rfl, fun w' hS => by go_simp⟩) hS ?_
  try simp only [List.getElem_toArray, List.getElem_cons_succ, List.getElem_cons_zero, Act.put, List.setIfInBounds_toArray, List.set_cons_zero, List.set_cons_succ]
  refine wpAnyH_take (i := 12) (v := .pointer (some (ad.add (i.toNat * 3)))) rfl (by kernel_rfl) (by kernel_rfl) (by kernel_rfl) (fun _ _ _ h => h) (.inl ⟨by kernel_rfl, fun w' hS => by go_simp⟩) hS ?_
  try simp only [List.getElem_toArray, List.getElem_cons_succ, List.getElem_cons_zero, Act.put, List.setIfInBounds_toArray, List.set_cons_zero, List.set_cons_succ]
  refine wpAnyH_take (i := 13) (v := .int .i64 (rd_T43 L i).f0) rfl (by kernel_rfl) (by kernel_rfl) (by kernel_rfl) (fun _ _ _ h => h) (.inl ⟨by kernel_rfl, fun w' hS => by have q_ := (hS.2.cell (World.block_lt_of_cell? w _ HX0.out)).trans HX0.out; go_simp⟩) hS ?_
  try simp only [List.getElem_toArray, List.getElem_cons_succ, List.getElem_cons_zero, Act.put, List.setIfInBounds_toArray, List.set_cons_zero, List.set_cons_succ]
  refine wpAnyH_take (i := 14) (v := .pointer (some ⟨w.heap.size, 1, none⟩)) rfl (by kernel_rfl) (by kernel_rfl) (by kernel_rfl) (fun _ _ _ h => h) (.inl ⟨by kernel_rfl, fun w' hS => by go_simp⟩) hS ?_
  try simp only [List.getElem_toArray, List.getElem_cons_succ, List.getElem_cons_zero, Act.put, List.setIfInBounds_toArray, List.set_cons_zero, List.set_cons_succ]
  refine wpAnyH_take (i := 15) (v := .int .i64 s.f1) rfl (by kernel_rfl) (by kernel_rfl) (by kernel_rfl) (fun _ _ _ h => h) (.inl ⟨by kernel_rfl, fun w' hS => by have q_ := hS.cells.2.1; go_simp⟩) hS ?_
  try simp only [List.getElem_toArray, List.getElem_cons_succ, List.getElem_cons_zero, Act.put, List.setIfInBounds_toArray, List.set_cons_zero, List.set_cons_succ]
  refine wpAnyH_take (i := 16) (v := .bool true) rfl (by kernel_rfl) (by kernel_rfl) (by kernel_rfl) (fun _ _ _ h => h) (.inl ⟨by kernel_rfl, fun w' hS => by go_simp⟩) hS ?_
  try simp only [List.getElem_toArray, List.getElem_cons_succ, List.getElem_cons_zero, Act.put, List.setIfInBounds_toArray, List.set_cons_zero, List.set_cons_succ]
  refine wpAnyH_take (i := 17) (v := .bool true) rfl (by kernel_rfl) (by kernel_rfl) (by kernel_rfl) (fun _ _ _ h => h) (.inl ⟨by kernel_rfl, fun w' hS => by go_simp⟩) hS ?_
  try simp only [List.getElem_toArray, List.getElem_cons_succ, List.getElem_cons_zero, Act.put, List.setIfInBounds_toArray, List.set_cons_zero, List.set_cons_succ]
  refine wpAnyH_take (i := 18) (v := .bool true) rfl (by kernel_rfl) (by kernel_rfl) (by kernel_rfl) (fun _ _ _ h => h) (.inl ⟨by kernel_rfl, fun w' hS => by go_simp⟩) hS ?_
  try simp only [List.getElem_toArray, List.getElem_cons_succ, List.getElem_cons_zero, Act.put, List.setIfInBounds_toArray, List.set_cons_zero, List.set_cons_succ]
  refine wpAnyH_done (by kernel_rfl) ?_ _
  refine NoPanic.normal ?_
  go_wp2
  go_ret2
  exact ⟨rfl, hS.2⟩
theorem AddS.lt {w : World} {s : S43} {W : World} (h : AddS w s W) : w.heap.size < W.heap.size := (Array.getElem?_eq_some_iff.1 h.1).1
theorem span_Add.end {w w9 : World} {B : Nat} {ad : Addr} {c m : Nat} {L' : List S43} (h : Kd.R k43 43 w9 B (fun _ => True) (.slice (some ad) L'.length c) L') (hb : Below w.heap.size w (w9.alloc (.cells #[.slice (some ad) m c] 91 (0, 0)))) (hm : m = L'.length) :
    ∃ g, (Ending.returned (.tuple #[.pointer (some ⟨w9.heap.size, 0, none⟩), .int .i64 0]) = .returned (.tuple #[.pointer (some ⟨g, 0, none⟩), .int .i64 0])) ∧ Tab (w9.alloc (.cells #[.slice (some ad) m c] 91 (0, 0))) (some ⟨g, 0, none⟩) L' ∧ Below w.heap.size w (w9.alloc (.cells #[.slice (some ad) m c] 91 (0, 0))) := by
  subst hm
  obtain ⟨inner, ho⟩ := Kd.R_own h
  have hcell : ∃ cells, w9.heap[ad.block]? = some (.cells cells 43 (0, 0)) := by
    rcases ho.2 with ⟨h0, _⟩ | ⟨g, cap, cur, e0, hg, hh, r⟩
    · cases h0
    · injection e0 with e1 e2 e3
      injection e1 with e1
      subst e1
      exact ⟨cur, hh⟩
  obtain ⟨cells, hcell⟩ := hcell
  obtain ⟨A, c', he, hl, hC⟩ := Kd.R_reads h
  injection he with e1 e2 e3
  subst e1 e3
  have hbA : Below w9.heap.size w9 (w9.alloc (.cells #[.slice (some ad) L'.length c] 91 (0, 0))) := (Below.refl w9.heap.size w9).alloc (Nat.le_refl _) _
  exact ⟨w9.heap.size, rfl, .inr ⟨_, _, rfl, heap_alloc_new w9 _, .inr ⟨ad, c, rfl, hl, Kd.C_below hC hbA, cells, (hbA.block _ (Array.getElem?_eq_some_iff.1 hcell).1).trans hcell⟩⟩, hb⟩
set_option maxHeartbeats 4000000 in
set_option maxRecDepth 100000 in
theorem span_Add.fitsA (k : Nat) (p : Option Addr) (L : List S43) (s : S43) (j : Nat) (w : World) (hT : Tab w p L) (hf : span_find.f k L s.f0 = some (j : Int)) (hc : ¬ (s.f0 < 0 ∨ 1114111 < s.f1 ∨ s.f1 < s.f0)) (hv : ¬ s.f2.toList = ([] : List UInt8)) (hj : j ≤ L.length) (hsm : L.length < 1099511627776) (c1 : j = L.length) :
    Calls Try.prog 30 #[.pointer p, .agg #[.int .i64 s.f0, .int .i64 s.f1, .string s.f2]] w fun e w' => ∃ g, e = .returned (.tuple #[.pointer (some ⟨g, 0, none⟩), .int .i64 0]) ∧ Tab w' (some ⟨g, 0, none⟩) (L.take j ++ s :: L.drop j) ∧ Below w.heap.size w w' := by
  have HT := Aside0.mk hT
  have HF := Aside0.mk hf
  have h1 : decide (s.f0 < 0) = false := by simp; omega
  have h2 : decide (1114111 < s.f1) = false := by simp; omega
  have h3 : decide (s.f1 < s.f0) = false := by simp; omega
  have b1 : (s.f2.toList == ([] : List UInt8)) = false := beq_eq_false_iff_ne.mpr hv
  have b3 : s.f2.toList.isEmpty = false := by
    cases hv' : s.f2.toList with
    | nil => exact absurd hv' hv
    | cons _ _ => rfl
  have HSM := Aside0.mk hsm
  have HJ := Aside0.mk hj
  have e1 : decide ((j : Int) < (L.length : Int)) = false := by simp; omega
  have e2 : ((j : Int) < (L.length : Int)) = False := by simp; omega
  clear hT hf hc hj hsm c1
  go_enter Try.func30, Try.ntmps30
  have HS := Aside0.mk (AddS.start w s)
  go_wp2_with (first
    | (go_at_call 62
       refine (span_find.calls k _ L s.f0 (j : Int) _ (HT.out.below HS.out.2) HF.out).mono ?_
       rintro e w2 ⟨rfl, hb⟩
       have HS2 := Aside0.mk (HS.out.below hb)
       obtain ⟨hx0, hx1, hx2⟩ := HS2.out.cells
       clear hb))
  refine wp_region_noPanic ?_
  refine wp_region_held (S := AddS w s) (by kernel_rfl) ?_
  have hS : AddS w s w2.drew := ⟨HS2.out.1, HS2.out.2.drew⟩
  show wpAnyH _ _ _ _ _ _ _ _ w2.drew
  refine wpAnyH_take (i := 0) (v := .int .i64 (j : Int)) rfl (by kernel_rfl) (by kernel_rfl) (by kernel_rfl) (fun _ _ _ h => h) (.inl ⟨by kernel_rfl, fun w' hS => by go_simp⟩) hS ?_
  try simp only [List.getElem_toArray, List.getElem_cons_succ, List.getElem_cons_zero, Act.put, List.setIfInBounds_toArray, List.set_cons_zero, List.set_cons_succ]
  refine wpAnyH_take (i := 1) (v := .pointer p) rfl (by kernel_rfl) (by kernel_rfl) (by kernel_rfl) (fun _ _ _ h => h) (.inl ⟨by kernel_rfl, fun w' hS => by go_simp⟩) hS ?_
  try simp only [List.getElem_toArray, List.getElem_cons_succ, List.getElem_cons_zero, Act.put, List.setIfInBounds_toArray, List.set_cons_zero, List.set_cons_succ]
  refine wpAnyH_ready (rs := [2]) (by kernel_rfl) (by simp) (AllReadyH.cons rfl (fun K' hK => ?_) AllReadyH.nil)
  rw [if_pos (by kernel_rfl)]
  go_simp
  go_at_call 63
  refine (span_spans.calls' _ L _ (HT.out.below hS.2)).mono ?_
  rintro e w7 ⟨⟨A6, n6, rfl, hn6, hC6⟩, rfl⟩
  have hS' := hS
  refine hK.out _ _ hS' (fun _ => ?_)
  clear hK hS
  have hS := hS'
  clear hS'
  try simp only [List.getElem_toArray, List.getElem_cons_succ, List.getElem_cons_zero, Act.put, List.setIfInBounds_toArray, List.set_cons_zero, List.set_cons_succ]
  refine wpAnyH_take (i := 3) (v := .int .i64 (L.length : Int)) rfl (by kernel_rfl) (by kernel_rfl) (by kernel_rfl) (fun _ _ _ h => h) (.inl ⟨by kernel_rfl, fun w' hS => by go_simp⟩) hS ?_
  try simp only [List.getElem_toArray, List.getElem_cons_succ, List.getElem_cons_zero, Act.put, List.setIfInBounds_toArray, List.set_cons_zero, List.set_cons_succ]
  refine wpAnyH_take (i := 4) (v := .bool false) rfl (by kernel_rfl) (by kernel_rfl) (by kernel_rfl) (fun _ _ _ h => h) (.inl ⟨by kernel_rfl, fun w' hS => by go_simp⟩) hS ?_
  try simp only [List.getElem_toArray, List.getElem_cons_succ, List.getElem_cons_zero, Act.put, List.setIfInBounds_toArray, List.set_cons_zero, List.set_cons_succ]
  refine wpAnyH_take (i := 5) (v := .bool false) rfl (by kernel_rfl) (by kernel_rfl) (by kernel_rfl) (fun _ _ _ h => h) (.inl ⟨by kernel_rfl, fun w' hS => by go_simp⟩) hS ?_
  try simp only [List.getElem_toArray, List.getElem_cons_succ, List.getElem_cons_zero, Act.put, List.setIfInBounds_toArray, List.set_cons_zero, List.set_cons_succ]
  refine wpAnyH_take (i := 6) (v := undef) rfl (by kernel_rfl) (by kernel_rfl) (by kernel_rfl) (fun _ _ _ h => h) (.inr ⟨by kernel_rfl, rfl⟩) hS ?_
  try simp only [List.getElem_toArray, List.getElem_cons_succ, List.getElem_cons_zero, Act.put, List.setIfInBounds_toArray, List.set_cons_zero, List.set_cons_succ]
  refine wpAnyH_take (i := 7) (v := undef) rfl (by kernel_rfl) (by kernel_rfl) (by kernel_rfl) (fun _ _ _ h => h) (.inr ⟨by kernel_rfl, rfl⟩) hS ?_
  try simp only [List.getElem_toArray, List.getElem_cons_succ, List.getElem_cons_zero, Act.put, List.setIfInBounds_toArray, List.set_cons_zero, List.set_cons_succ]
  refine wpAnyH_take (i := 8) (v := undef) rfl (by kernel_rfl) (by kernel_rfl) (by kernel_rfl) (fun _ _ _ h => h) (.inr ⟨by kernel_rfl, rfl⟩) hS ?_
  try simp only [List.getElem_toArray, List.getElem_cons_succ, List.getElem_cons_zero, Act.put, List.setIfInBounds_toArray, List.set_cons_zero, List.set_cons_succ]
  refine wpAnyH_take (i := 9) (v := undef) rfl (by kernel_rfl) (by kernel_rfl) (by kernel_rfl) (fun _ _ _ h => h) (.inr ⟨by kernel_rfl, rfl⟩) hS ?_
  try simp only [List.getElem_toArray, List.getElem_cons_succ, List.getElem_cons_zero, Act.put, List.setIfInBounds_toArray, List.set_cons_zero, List.set_cons_succ]
  refine wpAnyH_take (i := 10) (v := undef) rfl (by kernel_rfl) (by kernel_rfl) (by kernel_rfl) (fun _ _ _ h => h) (.inr ⟨by kernel_rfl, rfl⟩) hS ?_
  try simp only [List.getElem_toArray, List.getElem_cons_succ, List.getElem_cons_zero, Act.put, List.setIfInBounds_toArray, List.set_cons_zero, List.set_cons_succ]
  refine wpAnyH_take (i := 11) (v := undef) rfl (by kernel_rfl) (by kernel_rfl) (by kernel_rfl) (fun _ _ _ h => h) (.inr ⟨by kernel_rfl, rfl⟩) hS ?_
  try simp only [List.getElem_toArray, List.getElem_cons_succ, List.getElem_cons_zero, Act.put, List.setIfInBounds_toArray, List.set_cons_zero, List.set_cons_succ]
  refine wpAnyH_take (i := 12) (v := undef) rfl (by kernel_rfl) (by kernel_rfl) (by kernel_rfl) (fun _ _ _ h => h) (.inr ⟨by kernel_rfl, rfl⟩) hS ?_
  try simp only [List.getElem_toArray, List.getElem_cons_succ, List.getElem_cons_zero, Act.put, List.setIfInBounds_toArray, List.set_cons_zero, List.set_cons_succ]
  refine wpAnyH_take (i := 13) (v := undef) rfl (by kernel_rfl) (by kernel_rfl) (by kernel_rfl) (fun _ _ _ h => h) (.inr ⟨by kernel_rfl, rfl⟩) hS ?_
  try simp only [List.getElem_toArray, List.getElem_cons_succ, List.getElem_cons_zero, Act.put, List.setIfInBounds_toArray, List.set_cons_zero, List.set_cons_succ]
  refine wpAnyH_take (i := 14) (v := undef) rfl (by kernel_rfl) (by kernel_rfl) (by kernel_rfl) (fun _ _ _ h => h) (.inr ⟨by kernel_rfl, rfl⟩) hS ?_
  try simp only [List.getElem_toArray, List.getElem_cons_succ, List.getElem_cons_zero, Act.put, List.setIfInBounds_toArray, List.set_cons_zero, List.set_cons_succ]
  refine wpAnyH_take (i := 15) (v := undef) rfl (by kernel_rfl) (by kernel_rfl) (by kernel_rfl) (fun _ _ _ h => h) (.inr ⟨by kernel_rfl, rfl⟩) hS ?_
  try simp only [List.getElem_toArray, List.getElem_cons_succ, List.getElem_cons_zero, Act.put, List.setIfInBounds_toArray, List.set_cons_zero, List.set_cons_succ]
  refine wpAnyH_take (i := 16) (v := undef) rfl (by kernel_rfl) (by kernel_rfl) (by kernel_rfl) (fun _ _ _ h => h) (.inr ⟨by kernel_rfl, rfl⟩) hS ?_
  try simp only [List.getElem_toArray, List.getElem_cons_succ, List.getElem_cons_zero, Act.put, List.setIfInBounds_toArray, List.set_cons_zero, List.set_cons_succ]
  refine wpAnyH_take (i := 17) (v := .bool false) rfl (by kernel_rfl) (by kernel_rfl) (by kernel_rfl) (fun _ _ _ h => h) (.inl ⟨by kernel_rfl, fun w' hS => by go_simp⟩) hS ?_
  try simp only [List.getElem_toArray, List.getElem_cons_succ, List.getElem_cons_zero, Act.put, List.setIfInBounds_toArray, List.set_cons_zero, List.set_cons_succ]
  refine wpAnyH_take (i := 18) (v := .bool false) rfl (by kernel_rfl) (by kernel_rfl) (by kernel_rfl) (fun _ _ _ h => h) (.inl ⟨by kernel_rfl, fun w' hS => by go_simp⟩) hS ?_
  try simp only [List.getElem_toArray, List.getElem_cons_succ, List.getElem_cons_zero, Act.put, List.setIfInBounds_toArray, List.set_cons_zero, List.set_cons_succ]
  refine wpAnyH_done (by kernel_rfl) ?_ _
  refine NoPanic.normal ?_
  go_wp2
  generalize w2.drew = w7 at *
  refine wp_region_noPanic ?_
  refine wp_region_held (S := AddS w s) (by kernel_rfl) ?_
  replace hS : AddS w s w7.drew := ⟨hS.1, hS.2.drew⟩
  show wpAnyH _ _ _ _ _ _ _ _ w7.drew
  generalize w7.drew = w8 at hS ⊢
  refine wpAnyH_take (i := 0) (v := .pointer p) rfl (by kernel_rfl) (by kernel_rfl) (by kernel_rfl) (fun _ _ _ h => h) (.inl ⟨by kernel_rfl, fun w' hS => by go_simp⟩) hS ?_
  try simp only [List.getElem_toArray, List.getElem_cons_succ, List.getElem_cons_zero, Act.put, List.setIfInBounds_toArray, List.set_cons_zero, List.set_cons_succ]
  refine wpAnyH_take (i := 3) (v := .int .i64 (j : Int)) rfl (by kernel_rfl) (by kernel_rfl) (by kernel_rfl) (fun _ _ _ h => h) (.inl ⟨by kernel_rfl, fun w' hS => by go_simp⟩) hS ?_
  try simp only [List.getElem_toArray, List.getElem_cons_succ, List.getElem_cons_zero, Act.put, List.setIfInBounds_toArray, List.set_cons_zero, List.set_cons_succ]
  refine wpAnyH_take (i := 4) (v := .agg #[.int .i64 s.f0, .int .i64 s.f1, .string s.f2]) rfl (by kernel_rfl) (by kernel_rfl) (by kernel_rfl) (fun _ _ _ h => h) (.inl ⟨by kernel_rfl, fun w' hS => by obtain ⟨q0_, q1_, q2_⟩ := hS.cells; go_simp⟩) hS ?_
  try simp only [List.getElem_toArray, List.getElem_cons_succ, List.getElem_cons_zero, Act.put, List.setIfInBounds_toArray, List.set_cons_zero, List.set_cons_succ]
  refine wpAnyH_ready (rs := [1, 5]) (by kernel_rfl) (by simp) (AllReadyH.cons rfl (fun K' hK => ?_) (AllReadyH.cons rfl (fun K' hK => ?_) AllReadyH.nil))
  · rw [if_pos (by kernel_rfl)]
    go_simp
    go_at_call 63
    refine (span_spans.calls' _ L _ (HT.out.below hS.2)).mono ?_
    rintro e w9 ⟨⟨A6, n6, rfl, hn6, hC6⟩, rfl⟩
    have hS' := hS
    have HN6 := Aside0.mk hn6
    have HC6 := Aside0.mk hC6
    clear hn6 hC6
    refine hK.out _ _ hS' (fun _ => ?_)
    clear hK hS
    have hS := hS'
    clear hS'
    try simp only [List.getElem_toArray, List.getElem_cons_succ, List.getElem_cons_zero, Act.put, List.setIfInBounds_toArray, List.set_cons_zero, List.set_cons_succ]
    refine wpAnyH_ready (rs := [2, 5]) (by kernel_rfl) (by simp) (AllReadyH.cons rfl (fun K' hK => ?_) (AllReadyH.cons rfl (fun K' hK => ?_) AllReadyH.nil))
    · rw [if_pos (by kernel_rfl)]
      go_simp
      go_at_call 65
      refine (span_Clone.calls A6 n6 L _ HC6.out HN6.out HSM.out).mono ?_
      rintro e w10 ⟨v0, rfl, hR0, hb0⟩
      have hS' : AddS w s w10 := hS.below hb0
      have HB0 : Aside0 (w.heap.size < w9.heap.size) := ⟨hS.lt⟩
      refine hK.out _ _ hS' (fun _ => ?_)
      clear hK hS
      have hS := hS'
      clear hS'
      try simp only [List.getElem_toArray, List.getElem_cons_succ, List.getElem_cons_zero, Act.put, List.setIfInBounds_toArray, List.set_cons_zero, List.set_cons_succ]
      refine wpAnyH_ready (rs := [5]) (by kernel_rfl) (by simp) (AllReadyH.cons rfl (fun K' hK => ?_) AllReadyH.nil)
      rw [if_pos (by kernel_rfl)]
      go_simp
      have hbA := (Below.refl w10.heap.size w10).alloc (Nat.le_refl _) (.cells #[.int .i64 s.f0, .int .i64 s.f1, .string s.f2] 43)
      have hS' := hS.below hbA
      have hvA : (w10.alloc (.cells #[.int .i64 s.f0, .int .i64 s.f1, .string s.f2] 43)).heap[w10.heap.size]? = some (.cells (span_cells s).toArray 43 (0, 0)) := heap_alloc_new w10 _
      refine hK.out _ _ hS' (fun _ => ?_)
      clear hK
      have hS0 := hS
      replace hS := hS'
      clear hS'
      try simp only [List.getElem_toArray, List.getElem_cons_succ, List.getElem_cons_zero, Act.put, List.setIfInBounds_toArray, List.set_cons_zero, List.set_cons_succ]
      have HR0 := Aside0.mk (Kd.R_below hR0 hbA)
      have HBB := Aside0.mk (Nat.le_trans hb0.size hbA.size)
      have HV := Aside0.mk hvA
      have HNE : Aside0 (some w10.heap.size ≠ v0.ownBlock) := ⟨fun e => by obtain ⟨_, ho⟩ := Kd.R_own hR0; have := own_lt ho _ e.symm; omega⟩
      clear hR0 hb0 hvA hbA hS0
      generalize w9.heap.size = B at *
      generalize w10.heap.size = vb at *
      generalize w10.alloc (.cells #[.int .i64 s.f0, .int .i64 s.f1, .string s.f2] 43) = w11 at *
      refine wpAnyH_ready (rs := [6]) (by kernel_rfl) (by simp) (AllReadyH.cons rfl (fun K' hK => ?_) AllReadyH.nil)
      rw [if_pos (by kernel_rfl)]
      go_simp
      go_at_call 64
      refine (span_Insert.calls B v0 L j s vb 1 43 _ HR0.out HJ.out HSM.out HBB.out HV.out HNE.out).mono ?_
      rintro e w9 ⟨v9, rfl, hR9, hb9⟩
      have hS' : AddS w s w9 := ⟨(hb9.block _ HB0.out).trans hS.1, hS.2.trans (hb9.mono (Nat.le_of_lt HB0.out))⟩
      obtain ⟨ad9, c9, rfl⟩ := Kd.R_slice1 hR9 (by simp only [List.length_append, List.length_cons]; omega)
      have HR9 := Aside0.mk hR9
      clear hR9 hb9
      refine hK.out _ _ hS' (fun _ => ?_)
      clear hK hS
      have hS := hS'
      clear hS'
      try simp only [List.getElem_toArray, List.getElem_cons_succ, List.getElem_cons_zero, Act.put, List.setIfInBounds_toArray, List.set_cons_zero, List.set_cons_succ]
      refine wpAnyH_take (i := 7) (v := .agg #[.slice (some ad9) (L.take j ++ s :: L.drop j).length c9]) rfl (by kernel_rfl) (by kernel_rfl) (by kernel_rfl) (fun _ _ _ h => h) (.inl ⟨by kernel_rfl, fun w' hS => by go_simp⟩) hS ?_
      try simp only [List.getElem_toArray, List.getElem_cons_succ, List.getElem_cons_zero, Act.put, List.setIfInBounds_toArray, List.set_cons_zero, List.set_cons_succ]
      refine wpAnyH_ready (rs := [8]) (by kernel_rfl) (by simp) (AllReadyH.cons rfl (fun K' hK => ?_) AllReadyH.nil)
      rw [if_pos (by kernel_rfl)]
      go_simp
      have hS' := hS.below ((Below.refl w9.heap.size w9).alloc (Nat.le_refl _) (.cells #[.slice (some ad9) (L.take j ++ s :: L.drop j).length c9] 91 (0, 0)))
      simp only [List.length_append, List.length_take, List.length_drop, List.length_cons] at hS'
      refine hK.out _ _ hS' (fun _ => ?_)
      clear hK
      try simp only [List.getElem_toArray, List.getElem_cons_succ, List.getElem_cons_zero, Act.put, List.setIfInBounds_toArray, List.set_cons_zero, List.set_cons_succ]
      replace hS := hS'
      clear hS'
      refine wpAnyH_take (i := 9) (v := .pointer (some ⟨w9.heap.size, 0, none⟩)) rfl (by kernel_rfl) (by kernel_rfl) (by kernel_rfl) (fun _ _ _ h => h) (.inl ⟨by kernel_rfl, fun w' hS => by go_simp⟩) hS ?_
      try simp only [List.getElem_toArray, List.getElem_cons_succ, List.getElem_cons_zero, Act.put, List.setIfInBounds_toArray, List.set_cons_zero, List.set_cons_succ]
      refine wpAnyH_take (i := 10) (v := .int .i64 0) rfl (by kernel_rfl) (by kernel_rfl) (by kernel_rfl) (fun _ _ _ h => h) (.inl ⟨by kernel_rfl, fun w' hS => by go_simp⟩) hS ?_
      try simp only [List.getElem_toArray, List.getElem_cons_succ, List.getElem_cons_zero, Act.put, List.setIfInBounds_toArray, List.set_cons_zero, List.set_cons_succ]
      refine wpAnyH_done (by kernel_rfl) ?_ _
      refine NoPanic.normal ?_
      go_wp2
      go_ret2
      exact span_Add.end HR9.out hS.2 (by simp only [List.length_append, List.length_take, List.length_drop, List.length_cons])
    · rw [if_pos (by kernel_rfl)]
      go_simp
      have hbA := (Below.refl w9.heap.size w9).alloc (Nat.le_refl _) (.cells #[.int .i64 s.f0, .int .i64 s.f1, .string s.f2] 43)
      have hS' := hS.below hbA
      have hvA : (w9.alloc (.cells #[.int .i64 s.f0, .int .i64 s.f1, .string s.f2] 43)).heap[w9.heap.size]? = some (.cells (span_cells s).toArray 43 (0, 0)) := heap_alloc_new w9 _
      refine hK.out _ _ hS' (fun _ => ?_)
      clear hK
      have hS0 := hS
      replace hS := hS'
      clear hS'
      try simp only [List.getElem_toArray, List.getElem_cons_succ, List.getElem_cons_zero, Act.put, List.setIfInBounds_toArray, List.set_cons_zero, List.set_cons_succ]
      replace HC6 := Aside0.mk (Kd.C_below HC6.out hbA)
      have hvl : w9.heap.size < (w9.alloc (.cells #[.int .i64 s.f0, .int .i64 s.f1, .string s.f2] 43)).heap.size := (Array.getElem?_eq_some_iff.1 hvA).1
      have HB0 : Aside0 (w.heap.size < (w9.alloc (.cells #[.int .i64 s.f0, .int .i64 s.f1, .string s.f2] 43)).heap.size) := ⟨Nat.lt_trans hS0.lt hvl⟩
      clear hbA hS0
      generalize w9.heap.size = vb at *
      generalize w9.alloc (.cells #[.int .i64 s.f0, .int .i64 s.f1, .string s.f2] 43) = w11 at *
      refine wpAnyH_ready (rs := [2]) (by kernel_rfl) (by simp) (AllReadyH.cons rfl (fun K' hK => ?_) AllReadyH.nil)
      rw [if_pos (by kernel_rfl)]
      go_simp
      go_at_call 65
      refine (span_Clone.calls A6 n6 L _ HC6.out HN6.out HSM.out).mono ?_
      rintro e w12 ⟨v0, rfl, hR0, hb0⟩
      have hS' : AddS w s w12 := hS.below hb0
      refine hK.out _ _ hS' (fun _ => ?_)
      clear hK hS
      have hS := hS'
      clear hS'
      try simp only [List.getElem_toArray, List.getElem_cons_succ, List.getElem_cons_zero, Act.put, List.setIfInBounds_toArray, List.set_cons_zero, List.set_cons_succ]
      have HR0 := Aside0.mk hR0
      have HBB := Aside0.mk hb0.size
      have HV := Aside0.mk ((hb0.block _ hvl).trans hvA)
      have HNE : Aside0 (some vb ≠ v0.ownBlock) := ⟨fun e => by obtain ⟨_, ho⟩ := Kd.R_own hR0; have := own_base ho _ e.symm; omega⟩
      clear hR0 hb0 hvA hvl
      generalize w11.heap.size = B at *
      refine wpAnyH_ready (rs := [6]) (by kernel_rfl) (by simp) (AllReadyH.cons rfl (fun K' hK => ?_) AllReadyH.nil)
      rw [if_pos (by kernel_rfl)]
      go_simp
      go_at_call 64
      refine (span_Insert.calls B v0 L j s vb 1 43 _ HR0.out HJ.out HSM.out HBB.out HV.out HNE.out).mono ?_
      rintro e w9 ⟨v9, rfl, hR9, hb9⟩
      have hS' : AddS w s w9 := ⟨(hb9.block _ HB0.out).trans hS.1, hS.2.trans (hb9.mono (Nat.le_of_lt HB0.out))⟩
      obtain ⟨ad9, c9, rfl⟩ := Kd.R_slice1 hR9 (by simp only [List.length_append, List.length_cons]; omega)
      have HR9 := Aside0.mk hR9
      clear hR9 hb9
      refine hK.out _ _ hS' (fun _ => ?_)
      clear hK hS
      have hS := hS'
      clear hS'
      try simp only [List.getElem_toArray, List.getElem_cons_succ, List.getElem_cons_zero, Act.put, List.setIfInBounds_toArray, List.set_cons_zero, List.set_cons_succ]
      refine wpAnyH_take (i := 7) (v := .agg #[.slice (some ad9) (L.take j ++ s :: L.drop j).length c9]) rfl (by kernel_rfl) (by kernel_rfl) (by kernel_rfl) (fun _ _ _ h => h) (.inl ⟨by kernel_rfl, fun w' hS => by go_simp⟩) hS ?_
      try simp only [List.getElem_toArray, List.getElem_cons_succ, List.getElem_cons_zero, Act.put, List.setIfInBounds_toArray, List.set_cons_zero, List.set_cons_succ]
      refine wpAnyH_ready (rs := [8]) (by kernel_rfl) (by simp) (AllReadyH.cons rfl (fun K' hK => ?_) AllReadyH.nil)
      rw [if_pos (by kernel_rfl)]
      go_simp
      have hS' := hS.below ((Below.refl w9.heap.size w9).alloc (Nat.le_refl _) (.cells #[.slice (some ad9) (L.take j ++ s :: L.drop j).length c9] 91 (0, 0)))
      simp only [List.length_append, List.length_take, List.length_drop, List.length_cons] at hS'
      refine hK.out _ _ hS' (fun _ => ?_)
      clear hK
      try simp only [List.getElem_toArray, List.getElem_cons_succ, List.getElem_cons_zero, Act.put, List.setIfInBounds_toArray, List.set_cons_zero, List.set_cons_succ]
      replace hS := hS'
      clear hS'
      refine wpAnyH_take (i := 9) (v := .pointer (some ⟨w9.heap.size, 0, none⟩)) rfl (by kernel_rfl) (by kernel_rfl) (by kernel_rfl) (fun _ _ _ h => h) (.inl ⟨by kernel_rfl, fun w' hS => by go_simp⟩) hS ?_
      try simp only [List.getElem_toArray, List.getElem_cons_succ, List.getElem_cons_zero, Act.put, List.setIfInBounds_toArray, List.set_cons_zero, List.set_cons_succ]
      refine wpAnyH_take (i := 10) (v := .int .i64 0) rfl (by kernel_rfl) (by kernel_rfl) (by kernel_rfl) (fun _ _ _ h => h) (.inl ⟨by kernel_rfl, fun w' hS => by go_simp⟩) hS ?_
      try simp only [List.getElem_toArray, List.getElem_cons_succ, List.getElem_cons_zero, Act.put, List.setIfInBounds_toArray, List.set_cons_zero, List.set_cons_succ]
      refine wpAnyH_done (by kernel_rfl) ?_ _
      refine NoPanic.normal ?_
      go_wp2
      go_ret2
      exact span_Add.end HR9.out hS.2 (by simp only [List.length_append, List.length_take, List.length_drop, List.length_cons])
  · rw [if_pos (by kernel_rfl)]
    go_simp
    have hbA := (Below.refl w8.heap.size w8).alloc (Nat.le_refl _) (.cells #[.int .i64 s.f0, .int .i64 s.f1, .string s.f2] 43)
    have hS' := hS.below hbA
    have hvA : (w8.alloc (.cells #[.int .i64 s.f0, .int .i64 s.f1, .string s.f2] 43)).heap[w8.heap.size]? = some (.cells (span_cells s).toArray 43 (0, 0)) := heap_alloc_new w8 _
    refine hK.out _ _ hS' (fun _ => ?_)
    clear hK
    have hS0 := hS
    replace hS := hS'
    clear hS'
    try simp only [List.getElem_toArray, List.getElem_cons_succ, List.getElem_cons_zero, Act.put, List.setIfInBounds_toArray, List.set_cons_zero, List.set_cons_succ]
    have hvl : w8.heap.size < (w8.alloc (.cells #[.int .i64 s.f0, .int .i64 s.f1, .string s.f2] 43)).heap.size := (Array.getElem?_eq_some_iff.1 hvA).1
    have HB0 : Aside0 (w.heap.size < (w8.alloc (.cells #[.int .i64 s.f0, .int .i64 s.f1, .string s.f2] 43)).heap.size) := ⟨Nat.lt_trans hS0.lt hvl⟩
    clear hbA hS0
    generalize w8.heap.size = vb at *
    generalize w8.alloc (.cells #[.int .i64 s.f0, .int .i64 s.f1, .string s.f2] 43) = w11 at *
    refine wpAnyH_ready (rs := [1]) (by kernel_rfl) (by simp) (AllReadyH.cons rfl (fun K' hK => ?_) AllReadyH.nil)
    rw [if_pos (by kernel_rfl)]
    go_simp
    go_at_call 63
    refine (span_spans.calls' _ L _ (HT.out.below hS.2)).mono ?_
    rintro e w9 ⟨⟨A6, n6, rfl, hn6, hC6⟩, rfl⟩
    have hS' := hS
    have HN6 := Aside0.mk hn6
    have HC6 := Aside0.mk hC6
    clear hn6 hC6
    refine hK.out _ _ hS' (fun _ => ?_)
    clear hK hS
    have hS := hS'
    clear hS'
    try simp only [List.getElem_toArray, List.getElem_cons_succ, List.getElem_cons_zero, Act.put, List.setIfInBounds_toArray, List.set_cons_zero, List.set_cons_succ]
    refine wpAnyH_ready (rs := [2]) (by kernel_rfl) (by simp) (AllReadyH.cons rfl (fun K' hK => ?_) AllReadyH.nil)
    rw [if_pos (by kernel_rfl)]
    go_simp
    go_at_call 65
    refine (span_Clone.calls A6 n6 L _ HC6.out HN6.out HSM.out).mono ?_
    rintro e w12 ⟨v0, rfl, hR0, hb0⟩
    have hS' : AddS w s w12 := hS.below hb0
    refine hK.out _ _ hS' (fun _ => ?_)
    clear hK hS
    have hS := hS'
    clear hS'
    try simp only [List.getElem_toArray, List.getElem_cons_succ, List.getElem_cons_zero, Act.put, List.setIfInBounds_toArray, List.set_cons_zero, List.set_cons_succ]
    have HR0 := Aside0.mk hR0
    have HBB := Aside0.mk hb0.size
    have HV := Aside0.mk ((hb0.block _ hvl).trans hvA)
    have HNE : Aside0 (some vb ≠ v0.ownBlock) := ⟨fun e => by obtain ⟨_, ho⟩ := Kd.R_own hR0; have := own_base ho _ e.symm; omega⟩
    clear hR0 hb0 hvA hvl
    generalize w9.heap.size = B at *
    refine wpAnyH_ready (rs := [6]) (by kernel_rfl) (by simp) (AllReadyH.cons rfl (fun K' hK => ?_) AllReadyH.nil)
    rw [if_pos (by kernel_rfl)]
    go_simp
    go_at_call 64
    refine (span_Insert.calls B v0 L j s vb 1 43 _ HR0.out HJ.out HSM.out HBB.out HV.out HNE.out).mono ?_
    rintro e w9 ⟨v9, rfl, hR9, hb9⟩
    have hS' : AddS w s w9 := ⟨(hb9.block _ HB0.out).trans hS.1, hS.2.trans (hb9.mono (Nat.le_of_lt HB0.out))⟩
    obtain ⟨ad9, c9, rfl⟩ := Kd.R_slice1 hR9 (by simp only [List.length_append, List.length_cons]; omega)
    have HR9 := Aside0.mk hR9
    clear hR9 hb9
    refine hK.out _ _ hS' (fun _ => ?_)
    clear hK hS
    have hS := hS'
    clear hS'
    try simp only [List.getElem_toArray, List.getElem_cons_succ, List.getElem_cons_zero, Act.put, List.setIfInBounds_toArray, List.set_cons_zero, List.set_cons_succ]
    refine wpAnyH_take (i := 7) (v := .agg #[.slice (some ad9) (L.take j ++ s :: L.drop j).length c9]) rfl (by kernel_rfl) (by kernel_rfl) (by kernel_rfl) (fun _ _ _ h => h) (.inl ⟨by kernel_rfl, fun w' hS => by go_simp⟩) hS ?_
    try simp only [List.getElem_toArray, List.getElem_cons_succ, List.getElem_cons_zero, Act.put, List.setIfInBounds_toArray, List.set_cons_zero, List.set_cons_succ]
    refine wpAnyH_ready (rs := [8]) (by kernel_rfl) (by simp) (AllReadyH.cons rfl (fun K' hK => ?_) AllReadyH.nil)
    rw [if_pos (by kernel_rfl)]
    go_simp
    have hS' := hS.below ((Below.refl w9.heap.size w9).alloc (Nat.le_refl _) (.cells #[.slice (some ad9) (L.take j ++ s :: L.drop j).length c9] 91 (0, 0)))
    simp only [List.length_append, List.length_take, List.length_drop, List.length_cons] at hS'
    refine hK.out _ _ hS' (fun _ => ?_)
    clear hK
    try simp only [List.getElem_toArray, List.getElem_cons_succ, List.getElem_cons_zero, Act.put, List.setIfInBounds_toArray, List.set_cons_zero, List.set_cons_succ]
    replace hS := hS'
    clear hS'
    refine wpAnyH_take (i := 9) (v := .pointer (some ⟨w9.heap.size, 0, none⟩)) rfl (by kernel_rfl) (by kernel_rfl) (by kernel_rfl) (fun _ _ _ h => h) (.inl ⟨by kernel_rfl, fun w' hS => by go_simp⟩) hS ?_
    try simp only [List.getElem_toArray, List.getElem_cons_succ, List.getElem_cons_zero, Act.put, List.setIfInBounds_toArray, List.set_cons_zero, List.set_cons_succ]
    refine wpAnyH_take (i := 10) (v := .int .i64 0) rfl (by kernel_rfl) (by kernel_rfl) (by kernel_rfl) (fun _ _ _ h => h) (.inl ⟨by kernel_rfl, fun w' hS => by go_simp⟩) hS ?_
    try simp only [List.getElem_toArray, List.getElem_cons_succ, List.getElem_cons_zero, Act.put, List.setIfInBounds_toArray, List.set_cons_zero, List.set_cons_succ]
    refine wpAnyH_done (by kernel_rfl) ?_ _
    refine NoPanic.normal ?_
    go_wp2
    go_ret2
    exact span_Add.end HR9.out hS.2 (by simp only [List.length_append, List.length_take, List.length_drop, List.length_cons])
set_option maxHeartbeats 4000000 in
set_option maxRecDepth 100000 in
theorem span_Add.fitsC (k : Nat) (p : Option Addr) (L : List S43) (s : S43) (j : Nat) (w : World) (hT : Tab w p L) (hf : span_find.f k L s.f0 = some (j : Int)) (hc : ¬ (s.f0 < 0 ∨ 1114111 < s.f1 ∨ s.f1 < s.f0)) (hv : ¬ s.f2.toList = ([] : List UInt8)) (hj : j ≤ L.length) (hsm : L.length < 1099511627776) (c1 : (j : Int) < (L.length : Int)) (c3 : ¬ (rd_T43 L (j : Int)).f0 ≤ s.f1) :
    Calls Try.prog 30 #[.pointer p, .agg #[.int .i64 s.f0, .int .i64 s.f1, .string s.f2]] w fun e w' => ∃ g, e = .returned (.tuple #[.pointer (some ⟨g, 0, none⟩), .int .i64 0]) ∧ Tab w' (some ⟨g, 0, none⟩) (L.take j ++ s :: L.drop j) ∧ Below w.heap.size w w' := by
  have HT := Aside0.mk hT
  have HF := Aside0.mk hf
  have h1 : decide (s.f0 < 0) = false := by simp; omega
  have h2 : decide (1114111 < s.f1) = false := by simp; omega
  have h3 : decide (s.f1 < s.f0) = false := by simp; omega
  have b1 : (s.f2.toList == ([] : List UInt8)) = false := beq_eq_false_iff_ne.mpr hv
  have b3 : s.f2.toList.isEmpty = false := by
    cases hv' : s.f2.toList with
    | nil => exact absurd hv' hv
    | cons _ _ => rfl
  have HSM := Aside0.mk hsm
  have HJ := Aside0.mk hj
  rcases hT.open_ with ⟨_, rfl⟩ | ⟨g, A, n, rfl, q2, q3, q4⟩
  · simp at c1; omega
  have hcg : w.cell? ⟨g, 0, none⟩ = some (.slice A L.length n) := by unfold World.cell?; rw [q2]; rfl
  obtain ⟨ad, rfl, hx0, hx1, hx2⟩ := at_T43 q4 (j : Int) (by omega) c1
  rw [Int.toNat_natCast] at hx0
  have HCG := Aside0.mk hcg
  have HX0 := Aside0.mk hx0
  have e1 : decide ((j : Int) < (L.length : Int)) = true := decide_eq_true c1
  have e2 := eq_true c1
  have e4 := eq_false c3
  have e5 : decide ((rd_T43 L (j : Int)).f0 ≤ s.f1) = false := decide_eq_false c3
  clear hT hf hc hj hsm q2 q3 q4 hcg hx0 hx1 hx2 c1 c3
  go_enter Try.func30, Try.ntmps30
  have HS := Aside0.mk (AddS.start w s)
  go_wp2_with (first
    | (go_at_call 62
       refine (span_find.calls k _ L s.f0 (j : Int) _ (HT.out.below HS.out.2) HF.out).mono ?_
       rintro e w2 ⟨rfl, hb⟩
       have HS2 := Aside0.mk (HS.out.below hb)
       obtain ⟨hx0, hx1, hx2⟩ := HS2.out.cells
       clear hb))
  refine wp_region_noPanic ?_
  refine wp_region_held (S := AddS w s) (by kernel_rfl) ?_
  have hS : AddS w s w2.drew := ⟨HS2.out.1, HS2.out.2.drew⟩
  show wpAnyH _ _ _ _ _ _ _ _ w2.drew
  refine wpAnyH_take (i := 0) (v := .int .i64 (j : Int)) rfl (by kernel_rfl) (by kernel_rfl) (by kernel_rfl) (fun _ _ _ h => h) (.inl ⟨by kernel_rfl, fun w' hS => by go_simp⟩) hS ?_
  try simp only [List.getElem_toArray, List.getElem_cons_succ, List.getElem_cons_zero, Act.put, List.setIfInBounds_toArray, List.set_cons_zero, List.set_cons_succ]
  refine wpAnyH_take (i := 1) (v := .pointer (some ⟨g, 0, none⟩)) rfl (by kernel_rfl) (by kernel_rfl) (by kernel_rfl) (fun _ _ _ h => h) (.inl ⟨by kernel_rfl, fun w' hS => by go_simp⟩) hS ?_
  try simp only [List.getElem_toArray, List.getElem_cons_succ, List.getElem_cons_zero, Act.put, List.setIfInBounds_toArray, List.set_cons_zero, List.set_cons_succ]
  refine wpAnyH_ready (rs := [2]) (by kernel_rfl) (by simp) (AllReadyH.cons rfl (fun K' hK => ?_) AllReadyH.nil)
  rw [if_pos (by kernel_rfl)]
  go_simp
  go_at_call 63
  refine (span_spans.calls' _ L _ (HT.out.below hS.2)).mono ?_
  rintro e w7 ⟨⟨A6, n6, rfl, hn6, hC6⟩, rfl⟩
  have hS' := hS
  refine hK.out _ _ hS' (fun _ => ?_)
  clear hK hS
  have hS := hS'
  clear hS'
  try simp only [List.getElem_toArray, List.getElem_cons_succ, List.getElem_cons_zero, Act.put, List.setIfInBounds_toArray, List.set_cons_zero, List.set_cons_succ]
  refine wpAnyH_take (i := 3) (v := .int .i64 (L.length : Int)) rfl (by kernel_rfl) (by kernel_rfl) (by kernel_rfl) (fun _ _ _ h => h) (.inl ⟨by kernel_rfl, fun w' hS => by go_simp⟩) hS ?_
  try simp only [List.getElem_toArray, List.getElem_cons_succ, List.getElem_cons_zero, Act.put, List.setIfInBounds_toArray, List.set_cons_zero, List.set_cons_succ]
  refine wpAnyH_take (i := 4) (v := .bool true) rfl (by kernel_rfl) (by kernel_rfl) (by kernel_rfl) (fun _ _ _ h => h) (.inl ⟨by kernel_rfl, fun w' hS => by go_simp⟩) hS ?_
  try simp only [List.getElem_toArray, List.getElem_cons_succ, List.getElem_cons_zero, Act.put, List.setIfInBounds_toArray, List.set_cons_zero, List.set_cons_succ]
  refine wpAnyH_take (i := 5) (v := .bool true) rfl (by kernel_rfl) (by kernel_rfl) (by kernel_rfl) (fun _ _ _ h => h) (.inl ⟨by kernel_rfl, fun w' hS => by go_simp⟩) hS ?_
  try simp only [List.getElem_toArray, List.getElem_cons_succ, List.getElem_cons_zero, Act.put, List.setIfInBounds_toArray, List.set_cons_zero, List.set_cons_succ]
  refine wpAnyH_take (i := 6) (v := .pointer (some ⟨g, 0, none⟩)) rfl (by kernel_rfl) (by kernel_rfl) (by kernel_rfl) (fun _ _ _ h => h) (.inl ⟨by kernel_rfl, fun w' hS => by go_simp⟩) hS ?_
  try simp only [List.getElem_toArray, List.getElem_cons_succ, List.getElem_cons_zero, Act.put, List.setIfInBounds_toArray, List.set_cons_zero, List.set_cons_succ]
  refine wpAnyH_take (i := 7) (v := .pointer (some ⟨g, 0, none⟩)) rfl (by kernel_rfl) (by kernel_rfl) (by kernel_rfl) (fun _ _ _ h => h) (.inl ⟨by kernel_rfl, fun w' hS => by go_simp⟩) hS ?_
  try simp only [List.getElem_toArray, List.getElem_cons_succ, List.getElem_cons_zero, Act.put, List.setIfInBounds_toArray, List.set_cons_zero, List.set_cons_succ]
  refine wpAnyH_take (i := 8) (v := .pointer (some ⟨g, 0, none⟩)) rfl (by kernel_rfl) (by kernel_rfl) (by kernel_rfl) (fun _ _ _ h => h) (.inl ⟨by kernel_rfl, fun w' hS => by go_simp⟩) hS ?_
  try simp only [List.getElem_toArray, List.getElem_cons_succ, List.getElem_cons_zero, Act.put, List.setIfInBounds_toArray, List.set_cons_zero, List.set_cons_succ]
  refine wpAnyH_take (i := 9) (v := .slice (some ad) L.length n) rfl (by kernel_rfl) (by kernel_rfl) (by kernel_rfl) (fun _ _ _ h => h) (.inl ⟨by kernel_rfl, fun w' hS => by have q_ := (hS.2.cell (World.block_lt_of_cell? w _ HCG.out)).trans HCG.out; go_simp⟩) hS ?_
  try simp only [List.getElem_toArray, List.getElem_cons_succ, List.getElem_cons_zero, Act.put, List.setIfInBounds_toArray, List.set_cons_zero, List.set_cons_succ]
  refine wpAnyH_take (i := 10) (v := .int .i64 (j : Int)) rfl (by kernel_rfl) (by kernel_rfl) (by kernel_rfl) (fun _ _ _ h => h) (.inl ⟨by kernel_rfl, fun w' hS => by go_simp⟩) hS ?_
  try simp only [List.getElem_toArray, List.getElem_cons_succ, List.getElem_cons_zero, Act.put, List.setIfInBounds_toArray, List.set_cons_zero, List.set_cons_succ]
  refine wpAnyH_take (i := 11) (v := .pointer (some (ad.add (j * 3)))) rfl (by kernel_rfl) (by kernel_rfl) (by kernel_rfl) (fun _ _ _ h => h) (.inl ⟨by kernel_rfl, fun w' hS => by go_simp⟩) hS ?_
  try simp only [List.getElem_toArray, List.getElem_cons_succ, List.getElem_cons_zero, Act.put, List.setIfInBounds_toArray, List.set_cons_zero, List.set_cons_succ]
  refine wpAnyH_take (i := 12) (v := .pointer (some (ad.add (j * 3)))) rfl (by kernel_rfl) (by kernel_rfl) (by kernel_rfl) (fun _ _ _ h => h) (.inl ⟨by kernel_rfl, fun w' hS => by go_simp⟩) hS ?_
  try simp only [List.getElem_toArray, List.getElem_cons_succ, List.getElem_cons_zero, Act.put, List.setIfInBounds_toArray, List.set_cons_zero, List.set_cons_succ]
  refine wpAnyH_take (i := 13) (v := .int .i64 (rd_T43 L (j : Int)).f0) rfl (by kernel_rfl) (by kernel_rfl) (by kernel_rfl) (fun _ _ _ h => h) (.inl ⟨by kernel_rfl, fun w' hS => by have q_ := (hS.2.cell (World.block_lt_of_cell? w _ HX0.out)).trans HX0.out; go_simp⟩) hS ?_
  try simp only [List.getElem_toArray, List.getElem_cons_succ, List.getElem_cons_zero, Act.put, List.setIfInBounds_toArray, List.set_cons_zero, List.set_cons_succ]
  refine wpAnyH_take (i := 14) (v := .pointer (some ⟨w.heap.size, 1, none⟩)) rfl (by kernel_rfl) (by kernel_rfl) (by kernel_rfl) (fun _ _ _ h => h) (.inl ⟨by kernel_rfl, fun w' hS => by go_simp⟩) hS ?_
  try simp only [List.getElem_toArray, List.getElem_cons_succ, List.getElem_cons_zero, Act.put, List.setIfInBounds_toArray, List.set_cons_zero, List.set_cons_succ]
  refine wpAnyH_take (i := 15) (v := .int .i64 s.f1) rfl (by kernel_rfl) (by kernel_rfl) (by kernel_rfl) (fun _ _ _ h => h) (.inl ⟨by kernel_rfl, fun w' hS => by have q_ := hS.cells.2.1; go_simp⟩) hS ?_
  try simp only [List.getElem_toArray, List.getElem_cons_succ, List.getElem_cons_zero, Act.put, List.setIfInBounds_toArray, List.set_cons_zero, List.set_cons_succ]
  refine wpAnyH_take (i := 16) (v := .bool false) rfl (by kernel_rfl) (by kernel_rfl) (by kernel_rfl) (fun _ _ _ h => h) (.inl ⟨by kernel_rfl, fun w' hS => by go_simp⟩) hS ?_
  try simp only [List.getElem_toArray, List.getElem_cons_succ, List.getElem_cons_zero, Act.put, List.setIfInBounds_toArray, List.set_cons_zero, List.set_cons_succ]
  refine wpAnyH_take (i := 17) (v := .bool false) rfl (by kernel_rfl) (by kernel_rfl) (by kernel_rfl) (fun _ _ _ h => h) (.inl ⟨by kernel_rfl, fun w' hS => by go_simp⟩) hS ?_
  try simp only [List.getElem_toArray, List.getElem_cons_succ, List.getElem_cons_zero, Act.put, List.setIfInBounds_toArray, List.set_cons_zero, List.set_cons_succ]
  refine wpAnyH_take (i := 18) (v := .bool false) rfl (by kernel_rfl) (by kernel_rfl) (by kernel_rfl) (fun _ _ _ h => h) (.inl ⟨by kernel_rfl, fun w' hS => by go_simp⟩) hS ?_
  try simp only [List.getElem_toArray, List.getElem_cons_succ, List.getElem_cons_zero, Act.put, List.setIfInBounds_toArray, List.set_cons_zero, List.set_cons_succ]
  refine wpAnyH_done (by kernel_rfl) ?_ _
  refine NoPanic.normal ?_
  go_wp2
  generalize w2.drew = w7 at *
  refine wp_region_noPanic ?_
  refine wp_region_held (S := AddS w s) (by kernel_rfl) ?_
  replace hS : AddS w s w7.drew := ⟨hS.1, hS.2.drew⟩
  show wpAnyH _ _ _ _ _ _ _ _ w7.drew
  generalize w7.drew = w8 at hS ⊢
  refine wpAnyH_take (i := 0) (v := .pointer (some ⟨g, 0, none⟩)) rfl (by kernel_rfl) (by kernel_rfl) (by kernel_rfl) (fun _ _ _ h => h) (.inl ⟨by kernel_rfl, fun w' hS => by go_simp⟩) hS ?_
  try simp only [List.getElem_toArray, List.getElem_cons_succ, List.getElem_cons_zero, Act.put, List.setIfInBounds_toArray, List.set_cons_zero, List.set_cons_succ]
  refine wpAnyH_take (i := 3) (v := .int .i64 (j : Int)) rfl (by kernel_rfl) (by kernel_rfl) (by kernel_rfl) (fun _ _ _ h => h) (.inl ⟨by kernel_rfl, fun w' hS => by go_simp⟩) hS ?_
  try simp only [List.getElem_toArray, List.getElem_cons_succ, List.getElem_cons_zero, Act.put, List.setIfInBounds_toArray, List.set_cons_zero, List.set_cons_succ]
  refine wpAnyH_take (i := 4) (v := .agg #[.int .i64 s.f0, .int .i64 s.f1, .string s.f2]) rfl (by kernel_rfl) (by kernel_rfl) (by kernel_rfl) (fun _ _ _ h => h) (.inl ⟨by kernel_rfl, fun w' hS => by obtain ⟨q0_, q1_, q2_⟩ := hS.cells; go_simp⟩) hS ?_
  try simp only [List.getElem_toArray, List.getElem_cons_succ, List.getElem_cons_zero, Act.put, List.setIfInBounds_toArray, List.set_cons_zero, List.set_cons_succ]
  refine wpAnyH_ready (rs := [1, 5]) (by kernel_rfl) (by simp) (AllReadyH.cons rfl (fun K' hK => ?_) (AllReadyH.cons rfl (fun K' hK => ?_) AllReadyH.nil))
  · rw [if_pos (by kernel_rfl)]
    go_simp
    go_at_call 63
    refine (span_spans.calls' _ L _ (HT.out.below hS.2)).mono ?_
    rintro e w9 ⟨⟨A6, n6, rfl, hn6, hC6⟩, rfl⟩
    have hS' := hS
    have HN6 := Aside0.mk hn6
    have HC6 := Aside0.mk hC6
    clear hn6 hC6
    refine hK.out _ _ hS' (fun _ => ?_)
    clear hK hS
    have hS := hS'
    clear hS'
    try simp only [List.getElem_toArray, List.getElem_cons_succ, List.getElem_cons_zero, Act.put, List.setIfInBounds_toArray, List.set_cons_zero, List.set_cons_succ]
    refine wpAnyH_ready (rs := [2, 5]) (by kernel_rfl) (by simp) (AllReadyH.cons rfl (fun K' hK => ?_) (AllReadyH.cons rfl (fun K' hK => ?_) AllReadyH.nil))
    · rw [if_pos (by kernel_rfl)]
      go_simp
      go_at_call 65
      refine (span_Clone.calls A6 n6 L _ HC6.out HN6.out HSM.out).mono ?_
      rintro e w10 ⟨v0, rfl, hR0, hb0⟩
      have hS' : AddS w s w10 := hS.below hb0
      have HB0 : Aside0 (w.heap.size < w9.heap.size) := ⟨hS.lt⟩
      refine hK.out _ _ hS' (fun _ => ?_)
      clear hK hS
      have hS := hS'
      clear hS'
      try simp only [List.getElem_toArray, List.getElem_cons_succ, List.getElem_cons_zero, Act.put, List.setIfInBounds_toArray, List.set_cons_zero, List.set_cons_succ]
      refine wpAnyH_ready (rs := [5]) (by kernel_rfl) (by simp) (AllReadyH.cons rfl (fun K' hK => ?_) AllReadyH.nil)
      rw [if_pos (by kernel_rfl)]
      go_simp
      have hbA := (Below.refl w10.heap.size w10).alloc (Nat.le_refl _) (.cells #[.int .i64 s.f0, .int .i64 s.f1, .string s.f2] 43)
      have hS' := hS.below hbA
      have hvA : (w10.alloc (.cells #[.int .i64 s.f0, .int .i64 s.f1, .string s.f2] 43)).heap[w10.heap.size]? = some (.cells (span_cells s).toArray 43 (0, 0)) := heap_alloc_new w10 _
      refine hK.out _ _ hS' (fun _ => ?_)
      clear hK
      have hS0 := hS
      replace hS := hS'
      clear hS'
      try simp only [List.getElem_toArray, List.getElem_cons_succ, List.getElem_cons_zero, Act.put, List.setIfInBounds_toArray, List.set_cons_zero, List.set_cons_succ]
      have HR0 := Aside0.mk (Kd.R_below hR0 hbA)
      have HBB := Aside0.mk (Nat.le_trans hb0.size hbA.size)
      have HV := Aside0.mk hvA
      have HNE : Aside0 (some w10.heap.size ≠ v0.ownBlock) := ⟨fun e => by obtain ⟨_, ho⟩ := Kd.R_own hR0; have := own_lt ho _ e.symm; omega⟩
      clear hR0 hb0 hvA hbA hS0
      generalize w9.heap.size = B at *
      generalize w10.heap.size = vb at *
      generalize w10.alloc (.cells #[.int .i64 s.f0, .int .i64 s.f1, .string s.f2] 43) = w11 at *
      refine wpAnyH_ready (rs := [6]) (by kernel_rfl) (by simp) (AllReadyH.cons rfl (fun K' hK => ?_) AllReadyH.nil)
      rw [if_pos (by kernel_rfl)]
      go_simp
      go_at_call 64
      refine (span_Insert.calls B v0 L j s vb 1 43 _ HR0.out HJ.out HSM.out HBB.out HV.out HNE.out).mono ?_
      rintro e w9 ⟨v9, rfl, hR9, hb9⟩
      have hS' : AddS w s w9 := ⟨(hb9.block _ HB0.out).trans hS.1, hS.2.trans (hb9.mono (Nat.le_of_lt HB0.out))⟩
      obtain ⟨ad9, c9, rfl⟩ := Kd.R_slice1 hR9 (by simp only [List.length_append, List.length_cons]; omega)
      have HR9 := Aside0.mk hR9
      clear hR9 hb9
      refine hK.out _ _ hS' (fun _ => ?_)
      clear hK hS
      have hS := hS'
      clear hS'
      try simp only [List.getElem_toArray, List.getElem_cons_succ, List.getElem_cons_zero, Act.put, List.setIfInBounds_toArray, List.set_cons_zero, List.set_cons_succ]
      refine wpAnyH_take (i := 7) (v := .agg #[.slice (some ad9) (L.take j ++ s :: L.drop j).length c9]) rfl (by kernel_rfl) (by kernel_rfl) (by kernel_rfl) (fun _ _ _ h => h) (.inl ⟨by kernel_rfl, fun w' hS => by go_simp⟩) hS ?_
      try simp only [List.getElem_toArray, List.getElem_cons_succ, List.getElem_cons_zero, Act.put, List.setIfInBounds_toArray, List.set_cons_zero, List.set_cons_succ]
      refine wpAnyH_ready (rs := [8]) (by kernel_rfl) (by simp) (AllReadyH.cons rfl (fun K' hK => ?_) AllReadyH.nil)
      rw [if_pos (by kernel_rfl)]
      go_simp
      have hS' := hS.below ((Below.refl w9.heap.size w9).alloc (Nat.le_refl _) (.cells #[.slice (some ad9) (L.take j ++ s :: L.drop j).length c9] 91 (0, 0)))
      simp only [List.length_append, List.length_take, List.length_drop, List.length_cons] at hS'
      refine hK.out _ _ hS' (fun _ => ?_)
      clear hK
      try simp only [List.getElem_toArray, List.getElem_cons_succ, List.getElem_cons_zero, Act.put, List.setIfInBounds_toArray, List.set_cons_zero, List.set_cons_succ]
      replace hS := hS'
      clear hS'
      refine wpAnyH_take (i := 9) (v := .pointer (some ⟨w9.heap.size, 0, none⟩)) rfl (by kernel_rfl) (by kernel_rfl) (by kernel_rfl) (fun _ _ _ h => h) (.inl ⟨by kernel_rfl, fun w' hS => by go_simp⟩) hS ?_
      try simp only [List.getElem_toArray, List.getElem_cons_succ, List.getElem_cons_zero, Act.put, List.setIfInBounds_toArray, List.set_cons_zero, List.set_cons_succ]
      refine wpAnyH_take (i := 10) (v := .int .i64 0) rfl (by kernel_rfl) (by kernel_rfl) (by kernel_rfl) (fun _ _ _ h => h) (.inl ⟨by kernel_rfl, fun w' hS => by go_simp⟩) hS ?_
      try simp only [List.getElem_toArray, List.getElem_cons_succ, List.getElem_cons_zero, Act.put, List.setIfInBounds_toArray, List.set_cons_zero, List.set_cons_succ]
      refine wpAnyH_done (by kernel_rfl) ?_ _
      refine NoPanic.normal ?_
      go_wp2
      go_ret2
      exact span_Add.end HR9.out hS.2 (by simp only [List.length_append, List.length_take, List.length_drop, List.length_cons])
    · rw [if_pos (by kernel_rfl)]
      go_simp
      have hbA := (Below.refl w9.heap.size w9).alloc (Nat.le_refl _) (.cells #[.int .i64 s.f0, .int .i64 s.f1, .string s.f2] 43)
      have hS' := hS.below hbA
      have hvA : (w9.alloc (.cells #[.int .i64 s.f0, .int .i64 s.f1, .string s.f2] 43)).heap[w9.heap.size]? = some (.cells (span_cells s).toArray 43 (0, 0)) := heap_alloc_new w9 _
      refine hK.out _ _ hS' (fun _ => ?_)
      clear hK
      have hS0 := hS
      replace hS := hS'
      clear hS'
      try simp only [List.getElem_toArray, List.getElem_cons_succ, List.getElem_cons_zero, Act.put, List.setIfInBounds_toArray, List.set_cons_zero, List.set_cons_succ]
      replace HC6 := Aside0.mk (Kd.C_below HC6.out hbA)
      have hvl : w9.heap.size < (w9.alloc (.cells #[.int .i64 s.f0, .int .i64 s.f1, .string s.f2] 43)).heap.size := (Array.getElem?_eq_some_iff.1 hvA).1
      have HB0 : Aside0 (w.heap.size < (w9.alloc (.cells #[.int .i64 s.f0, .int .i64 s.f1, .string s.f2] 43)).heap.size) := ⟨Nat.lt_trans hS0.lt hvl⟩
      clear hbA hS0
      generalize w9.heap.size = vb at *
      generalize w9.alloc (.cells #[.int .i64 s.f0, .int .i64 s.f1, .string s.f2] 43) = w11 at *
      refine wpAnyH_ready (rs := [2]) (by kernel_rfl) (by simp) (AllReadyH.cons rfl (fun K' hK => ?_) AllReadyH.nil)
      rw [if_pos (by kernel_rfl)]
      go_simp
      go_at_call 65
      refine (span_Clone.calls A6 n6 L _ HC6.out HN6.out HSM.out).mono ?_
      rintro e w12 ⟨v0, rfl, hR0, hb0⟩
      have hS' : AddS w s w12 := hS.below hb0
      refine hK.out _ _ hS' (fun _ => ?_)
      clear hK hS
      have hS := hS'
      clear hS'
      try simp only [List.getElem_toArray, List.getElem_cons_succ, List.getElem_cons_zero, Act.put, List.setIfInBounds_toArray, List.set_cons_zero, List.set_cons_succ]
      have HR0 := Aside0.mk hR0
      have HBB := Aside0.mk hb0.size
      have HV := Aside0.mk ((hb0.block _ hvl).trans hvA)
      have HNE : Aside0 (some vb ≠ v0.ownBlock) := ⟨fun e => by obtain ⟨_, ho⟩ := Kd.R_own hR0; have := own_base ho _ e.symm; omega⟩
      clear hR0 hb0 hvA hvl
      generalize w11.heap.size = B at *
      refine wpAnyH_ready (rs := [6]) (by kernel_rfl) (by simp) (AllReadyH.cons rfl (fun K' hK => ?_) AllReadyH.nil)
      rw [if_pos (by kernel_rfl)]
      go_simp
      go_at_call 64
      refine (span_Insert.calls B v0 L j s vb 1 43 _ HR0.out HJ.out HSM.out HBB.out HV.out HNE.out).mono ?_
      rintro e w9 ⟨v9, rfl, hR9, hb9⟩
      have hS' : AddS w s w9 := ⟨(hb9.block _ HB0.out).trans hS.1, hS.2.trans (hb9.mono (Nat.le_of_lt HB0.out))⟩
      obtain ⟨ad9, c9, rfl⟩ := Kd.R_slice1 hR9 (by simp only [List.length_append, List.length_cons]; omega)
      have HR9 := Aside0.mk hR9
      clear hR9 hb9
      refine hK.out _ _ hS' (fun _ => ?_)
      clear hK hS
      have hS := hS'
      clear hS'
      try simp only [List.getElem_toArray, List.getElem_cons_succ, List.getElem_cons_zero, Act.put, List.setIfInBounds_toArray, List.set_cons_zero, List.set_cons_succ]
      refine wpAnyH_take (i := 7) (v := .agg #[.slice (some ad9) (L.take j ++ s :: L.drop j).length c9]) rfl (by kernel_rfl) (by kernel_rfl) (by kernel_rfl) (fun _ _ _ h => h) (.inl ⟨by kernel_rfl, fun w' hS => by go_simp⟩) hS ?_
      try simp only [List.getElem_toArray, List.getElem_cons_succ, List.getElem_cons_zero, Act.put, List.setIfInBounds_toArray, List.set_cons_zero, List.set_cons_succ]
      refine wpAnyH_ready (rs := [8]) (by kernel_rfl) (by simp) (AllReadyH.cons rfl (fun K' hK => ?_) AllReadyH.nil)
      rw [if_pos (by kernel_rfl)]
      go_simp
      have hS' := hS.below ((Below.refl w9.heap.size w9).alloc (Nat.le_refl _) (.cells #[.slice (some ad9) (L.take j ++ s :: L.drop j).length c9] 91 (0, 0)))
      simp only [List.length_append, List.length_take, List.length_drop, List.length_cons] at hS'
      refine hK.out _ _ hS' (fun _ => ?_)
      clear hK
      try simp only [List.getElem_toArray, List.getElem_cons_succ, List.getElem_cons_zero, Act.put, List.setIfInBounds_toArray, List.set_cons_zero, List.set_cons_succ]
      replace hS := hS'
      clear hS'
      refine wpAnyH_take (i := 9) (v := .pointer (some ⟨w9.heap.size, 0, none⟩)) rfl (by kernel_rfl) (by kernel_rfl) (by kernel_rfl) (fun _ _ _ h => h) (.inl ⟨by kernel_rfl, fun w' hS => by go_simp⟩) hS ?_
      try simp only [List.getElem_toArray, List.getElem_cons_succ, List.getElem_cons_zero, Act.put, List.setIfInBounds_toArray, List.set_cons_zero, List.set_cons_succ]
      refine wpAnyH_take (i := 10) (v := .int .i64 0) rfl (by kernel_rfl) (by kernel_rfl) (by kernel_rfl) (fun _ _ _ h => h) (.inl ⟨by kernel_rfl, fun w' hS => by go_simp⟩) hS ?_
      try simp only [List.getElem_toArray, List.getElem_cons_succ, List.getElem_cons_zero, Act.put, List.setIfInBounds_toArray, List.set_cons_zero, List.set_cons_succ]
      refine wpAnyH_done (by kernel_rfl) ?_ _
      refine NoPanic.normal ?_
      go_wp2
      go_ret2
      exact span_Add.end HR9.out hS.2 (by simp only [List.length_append, List.length_take, List.length_drop, List.length_cons])
  · rw [if_pos (by kernel_rfl)]
    go_simp
    have hbA := (Below.refl w8.heap.size w8).alloc (Nat.le_refl _) (.cells #[.int .i64 s.f0, .int .i64 s.f1, .string s.f2] 43)
    have hS' := hS.below hbA
    have hvA : (w8.alloc (.cells #[.int .i64 s.f0, .int .i64 s.f1, .string s.f2] 43)).heap[w8.heap.size]? = some (.cells (span_cells s).toArray 43 (0, 0)) := heap_alloc_new w8 _
    refine hK.out _ _ hS' (fun _ => ?_)
    clear hK
    have hS0 := hS
    replace hS := hS'
    clear hS'
    try simp only [List.getElem_toArray, List.getElem_cons_succ, List.getElem_cons_zero, Act.put, List.setIfInBounds_toArray, List.set_cons_zero, List.set_cons_succ]
    have hvl : w8.heap.size < (w8.alloc (.cells #[.int .i64 s.f0, .int .i64 s.f1, .string s.f2] 43)).heap.size := (Array.getElem?_eq_some_iff.1 hvA).1
    have HB0 : Aside0 (w.heap.size < (w8.alloc (.cells #[.int .i64 s.f0, .int .i64 s.f1, .string s.f2] 43)).heap.size) := ⟨Nat.lt_trans hS0.lt hvl⟩
    clear hbA hS0
    generalize w8.heap.size = vb at *
    generalize w8.alloc (.cells #[.int .i64 s.f0, .int .i64 s.f1, .string s.f2] 43) = w11 at *
    refine wpAnyH_ready (rs := [1]) (by kernel_rfl) (by simp) (AllReadyH.cons rfl (fun K' hK => ?_) AllReadyH.nil)
    rw [if_pos (by kernel_rfl)]
    go_simp
    go_at_call 63
    refine (span_spans.calls' _ L _ (HT.out.below hS.2)).mono ?_
    rintro e w9 ⟨⟨A6, n6, rfl, hn6, hC6⟩, rfl⟩
    have hS' := hS
    have HN6 := Aside0.mk hn6
    have HC6 := Aside0.mk hC6
    clear hn6 hC6
    refine hK.out _ _ hS' (fun _ => ?_)
    clear hK hS
    have hS := hS'
    clear hS'
    try simp only [List.getElem_toArray, List.getElem_cons_succ, List.getElem_cons_zero, Act.put, List.setIfInBounds_toArray, List.set_cons_zero, List.set_cons_succ]
    refine wpAnyH_ready (rs := [2]) (by kernel_rfl) (by simp) (AllReadyH.cons rfl (fun K' hK => ?_) AllReadyH.nil)
    rw [if_pos (by kernel_rfl)]
    go_simp
    go_at_call 65
    refine (span_Clone.calls A6 n6 L _ HC6.out HN6.out HSM.out).mono ?_
    rintro e w12 ⟨v0, rfl, hR0, hb0⟩
    have hS' : AddS w s w12 := hS.below hb0
    refine hK.out _ _ hS' (fun _ => ?_)
    clear hK hS
    have hS := hS'
    clear hS'
    try simp only [List.getElem_toArray, List.getElem_cons_succ, List.getElem_cons_zero, Act.put, List.setIfInBounds_toArray, List.set_cons_zero, List.set_cons_succ]
    have HR0 := Aside0.mk hR0
    have HBB := Aside0.mk hb0.size
    have HV := Aside0.mk ((hb0.block _ hvl).trans hvA)
    have HNE : Aside0 (some vb ≠ v0.ownBlock) := ⟨fun e => by obtain ⟨_, ho⟩ := Kd.R_own hR0; have := own_base ho _ e.symm; omega⟩
    clear hR0 hb0 hvA hvl
    generalize w9.heap.size = B at *
    refine wpAnyH_ready (rs := [6]) (by kernel_rfl) (by simp) (AllReadyH.cons rfl (fun K' hK => ?_) AllReadyH.nil)
    rw [if_pos (by kernel_rfl)]
    go_simp
    go_at_call 64
    refine (span_Insert.calls B v0 L j s vb 1 43 _ HR0.out HJ.out HSM.out HBB.out HV.out HNE.out).mono ?_
    rintro e w9 ⟨v9, rfl, hR9, hb9⟩
    have hS' : AddS w s w9 := ⟨(hb9.block _ HB0.out).trans hS.1, hS.2.trans (hb9.mono (Nat.le_of_lt HB0.out))⟩
    obtain ⟨ad9, c9, rfl⟩ := Kd.R_slice1 hR9 (by simp only [List.length_append, List.length_cons]; omega)
    have HR9 := Aside0.mk hR9
    clear hR9 hb9
    refine hK.out _ _ hS' (fun _ => ?_)
    clear hK hS
    have hS := hS'
    clear hS'
    try simp only [List.getElem_toArray, List.getElem_cons_succ, List.getElem_cons_zero, Act.put, List.setIfInBounds_toArray, List.set_cons_zero, List.set_cons_succ]
    refine wpAnyH_take (i := 7) (v := .agg #[.slice (some ad9) (L.take j ++ s :: L.drop j).length c9]) rfl (by kernel_rfl) (by kernel_rfl) (by kernel_rfl) (fun _ _ _ h => h) (.inl ⟨by kernel_rfl, fun w' hS => by go_simp⟩) hS ?_
    try simp only [List.getElem_toArray, List.getElem_cons_succ, List.getElem_cons_zero, Act.put, List.setIfInBounds_toArray, List.set_cons_zero, List.set_cons_succ]
    refine wpAnyH_ready (rs := [8]) (by kernel_rfl) (by simp) (AllReadyH.cons rfl (fun K' hK => ?_) AllReadyH.nil)
    rw [if_pos (by kernel_rfl)]
    go_simp
    have hS' := hS.below ((Below.refl w9.heap.size w9).alloc (Nat.le_refl _) (.cells #[.slice (some ad9) (L.take j ++ s :: L.drop j).length c9] 91 (0, 0)))
    simp only [List.length_append, List.length_take, List.length_drop, List.length_cons] at hS'
    refine hK.out _ _ hS' (fun _ => ?_)
    clear hK
    try simp only [List.getElem_toArray, List.getElem_cons_succ, List.getElem_cons_zero, Act.put, List.setIfInBounds_toArray, List.set_cons_zero, List.set_cons_succ]
    replace hS := hS'
    clear hS'
    refine wpAnyH_take (i := 9) (v := .pointer (some ⟨w9.heap.size, 0, none⟩)) rfl (by kernel_rfl) (by kernel_rfl) (by kernel_rfl) (fun _ _ _ h => h) (.inl ⟨by kernel_rfl, fun w' hS => by go_simp⟩) hS ?_
    try simp only [List.getElem_toArray, List.getElem_cons_succ, List.getElem_cons_zero, Act.put, List.setIfInBounds_toArray, List.set_cons_zero, List.set_cons_succ]
    refine wpAnyH_take (i := 10) (v := .int .i64 0) rfl (by kernel_rfl) (by kernel_rfl) (by kernel_rfl) (fun _ _ _ h => h) (.inl ⟨by kernel_rfl, fun w' hS => by go_simp⟩) hS ?_
    try simp only [List.getElem_toArray, List.getElem_cons_succ, List.getElem_cons_zero, Act.put, List.setIfInBounds_toArray, List.set_cons_zero, List.set_cons_succ]
    refine wpAnyH_done (by kernel_rfl) ?_ _
    refine NoPanic.normal ?_
    go_wp2
    go_ret2
    exact span_Add.end HR9.out hS.2 (by simp only [List.length_append, List.length_take, List.length_drop, List.length_cons])
/-- Add. -/
theorem span_Add.calls (k : Nat) (p : Option Addr) (L : List S43) (s : S43) (j : Nat) (w : World) (hT : Tab w p L) (hf : span_find.f k L s.f0 = some (j : Int)) (hj : j ≤ L.length) (hsm : L.length < 1099511627776) :
    Calls Try.prog 30 #[.pointer p, .agg #[.int .i64 s.f0, .int .i64 s.f1, .string s.f2]] w fun e w' => Below w.heap.size w w' ∧ ∃ q, e = .returned (.tuple #[.pointer q, .int .i64 (span_Add.r L s j).1]) ∧
      (((span_Add.r L s j).1 ≠ 0 ∧ q = none) ∨ ((span_Add.r L s j).1 = 0 ∧ (∃ g, q = some ⟨g, 0, none⟩) ∧ Tab w' q (span_Add.r L s j).2)) := by
  unfold span_Add.r
  by_cases c0 : s.f0 < 0 ∨ 1114111 < s.f1 ∨ s.f1 < s.f0
  · simp only [if_pos c0]
    exact (span_Add.range k p L s j w hT hf c0).mono fun e w' h => ⟨h.2, none, h.1, .inl ⟨by omega, rfl⟩⟩
  · simp only [if_neg c0]
    by_cases cv : s.f2.toList = []
    · simp only [if_pos cv]
      exact (span_Add.empty k p L s j w hT hf c0 cv).mono fun e w' h => ⟨h.2, none, h.1, .inl ⟨by omega, rfl⟩⟩
    · simp only [if_neg cv]
      by_cases c1 : (j : Int) < (L.length : Int)
      · by_cases c3 : (rd_T43 L (j : Int)).f0 ≤ s.f1
        · simp only [if_pos (And.intro c1 c3)]
          exact (span_Add.twice k p L s j w hT hf c0 cv c1 (by omega) c3).mono fun e w' h => ⟨h.2, none, h.1, .inl ⟨by omega, rfl⟩⟩
        · simp only [if_neg (fun h : (j : Int) < (L.length : Int) ∧ (rd_T43 L (j : Int)).f0 ≤ s.f1 => c3 h.2)]
          exact (span_Add.fitsC k p L s j w hT hf c0 cv hj hsm c1 c3).mono fun e w' ⟨g, h1, h2, h3⟩ => ⟨h3, _, h1, .inr ⟨trivial, ⟨g, rfl⟩, by rw [Int.toNat_natCast]; exact h2⟩⟩
      · simp only [if_neg (fun h : (j : Int) < (L.length : Int) ∧ (rd_T43 L (j : Int)).f0 ≤ s.f1 => c1 h.1)]
        exact (span_Add.fitsA k p L s j w hT hf c0 cv hj hsm (by omega)).mono fun e w' ⟨g, h1, h2, h3⟩ => ⟨h3, _, h1, .inr ⟨trivial, ⟨g, rfl⟩, by rw [Int.toNat_natCast]; exact h2⟩⟩
end Go.Proofs.Ytlipbiihemhieaa.Q

-- from Pspan
/- Layer 3 on lists: where a code point stands in a table; Add; New. -/
namespace Go.Proofs.Ytlipbiihemhieaa.K
set_option linter.unusedVariables false
set_option linter.unusedSimpArgs false
open Go.RowKit Go.Proofs.YtlipbiihemhieaaW.PrintWords Go.Proofs.YtlipbiihemhieaaW.PrintMore Go.Proofs.Ytlipbiihemhieaa.Q

theorem rd43 {L : List S43} (i : Nat) (h : i < L.length) : rd_T43 L (i : Int) = L[i] := by
  unfold rd_T43
  rw [Int.toNat_natCast, List.getD_eq_getElem?_getD, List.getElem?_eq_getElem h]; rfl
/-- A span that may stand in a table. -/
def valid (s : S43) : Prop := 0 ≤ s.f0 ∧ s.f0 ≤ s.f1 ∧ s.f1 ≤ 1114111 ∧ s.f2.toList ≠ []
/-- A table's spans: they rise, none is empty. -/
def SpOK (L : List S43) : Prop := L.Pairwise (fun a b => a.f1 < b.f0) ∧ ∀ s ∈ L, valid s
theorem SpOK.nil : SpOK [] := ⟨List.Pairwise.nil, fun _ h => by cases h⟩
theorem SpOK.lt {L : List S43} (h : SpOK L) {i j : Nat} (hij : i < j) (hj : j < L.length) : L[i].f1 < L[j].f0 := List.pairwise_iff_getElem.1 h.1 i j (by omega) hj hij
theorem SpOK.at {L : List S43} (h : SpOK L) {i : Nat} (hi : i < L.length) : valid L[i] := h.2 _ (List.getElem_mem hi)
theorem SpOK.last {L : List S43} (h : SpOK L) {i j : Nat} (hij : i ≤ j) (hj : j < L.length) : L[i].f1 ≤ L[j].f1 := by
  rcases Nat.lt_or_eq_of_le hij with e | e
  · have := h.lt e hj
    have := (h.at hj).2.1
    omega
  · subst e; exact Int.le_refl _
/-- The first span that does not end ahead of a code point. -/
def pos (L : List S43) (c : Int) : Nat := (L.takeWhile (fun s => decide (s.f1 < c))).length
theorem pos_le (L : List S43) (c : Int) : pos L c ≤ L.length := (List.takeWhile_prefix _).length_le
theorem pos_before {L : List S43} {c : Int} : ∀ {i : Nat} (h : i < pos L c), (L[i]'(Nat.lt_of_lt_of_le h (pos_le L c))).f1 < c := by
  unfold pos
  induction L with
  | nil => intro i h; simp at h
  | cons s L ih =>
    intro i h
    by_cases e : s.f1 < c
    · cases i with
      | zero => exact e
      | succ i =>
        simp only [List.getElem_cons_succ]
        simp only [List.takeWhile_cons, decide_eq_true e, if_true, List.length_cons] at h
        exact ih (by omega)
    · simp [List.takeWhile_cons, e] at h
theorem pos_at {L : List S43} {c : Int} (h : pos L c < L.length) : ¬ L[pos L c].f1 < c := by
  induction L with
  | nil => simp at h
  | cons s L ih =>
    by_cases e : s.f1 < c
    · have hp : pos (s :: L) c = pos L c + 1 := by simp [pos, List.takeWhile_cons, e]
      have h' : pos L c < L.length := by rw [hp] at h; simpa using h
      have := ih h'
      simp only [hp, List.getElem_cons_succ]
      exact this
    · have hp : pos (s :: L) c = 0 := by simp [pos, List.takeWhile_cons, e]
      simp only [hp, List.getElem_cons_zero]
      exact e
theorem pos_uniq {L : List S43} (hL : SpOK L) {c : Int} {i : Nat} (hi : i ≤ L.length) (h1 : ∀ j, (hj : j < i) → (L[j]'(by omega)).f1 < c) (h2 : (h : i < L.length) → ¬ L[i].f1 < c) : pos L c = i := by
  have hp := pos_le L c
  rcases Nat.lt_trichotomy (pos L c) i with h | h | h
  · exact absurd (h1 _ h) (pos_at (by omega))
  · exact h
  · exact absurd (pos_before h) (h2 (by omega))
theorem find_ev {L : List S43} (hl : L.length ≤ 1000000) (hL : SpOK L) (c : Int) : Ev (fun k => span_find.f k L c) (pos L c : Int) := by
  have hle := pos_le L c
  have key : ∀ (d lo hi' : Nat), hi' - lo = d → lo ≤ pos L c → pos L c ≤ hi' → hi' ≤ L.length → ∃ b, Ev (fun k => span_Span_int_at_span_Table_find_1.l0 k L c L.length (lo : Int) (hi' : Int)) ((pos L c : Int), b) := by
    intro d
    induction d using Nat.strongRecOn with
    | ind d ih =>
      intro lo hi' h1 h2 h3 h4
      by_cases c' : lo < hi'
      · have eh : wrap64 ((IntKind.u64.wrap (wrap64 ((lo : Int) + (hi' : Int)))) / 2) = (((lo + hi') / 2 : Nat) : Int) := by
          rw [w64 (n := (lo : Int) + hi') (by omega) (by omega)]
          have : IntKind.u64.wrap ((lo : Int) + (hi' : Int)) = (lo : Int) + hi' := by
            simp only [IntKind.wrap, IntKind.bits, IntKind.signed]
            simp
            omega
          rw [this, w64 (by omega) (by omega)]
          omega
        have hm : (lo + hi') / 2 < hi' := by omega
        have hg := rd43 (L := L) ((lo + hi') / 2) (by omega)
        by_cases c2 : (rd_T43 L (((lo + hi') / 2 : Nat) : Int)).f1 < c
        · have : (lo + hi') / 2 < pos L c := by
            apply Classical.byContradiction
            intro hn
            have hp := pos_at (L := L) (c := c) (by omega)
            have := hL.last (i := pos L c) (j := (lo + hi') / 2) (by omega) (by omega)
            rw [hg] at c2
            omega
          obtain ⟨b, hb⟩ := ih (hi' - ((lo + hi') / 2 + 1)) (by omega) ((lo + hi') / 2 + 1) hi' rfl (by omega) h3 h4
          refine ⟨b, Ev.step (fun k => rfl) (Ev.pos (by omega) ?_)⟩
          rw [eh]
          refine Ev.pos (by omega) (Ev.pos (by omega) (Ev.bindS (show span_Table_find_1.f _ _ _ _ = some (-1) by unfold span_Table_find_1.f; rw [if_pos c2]) (Ev.pos (by omega) ?_)))
          rw [w64 (n := (((lo + hi') / 2 : Nat) : Int) + 1) (by omega) (by omega)]
          exact hb
        · have : pos L c ≤ (lo + hi') / 2 := by
            apply Classical.byContradiction
            intro hn
            have := pos_before (L := L) (c := c) (i := (lo + hi') / 2) (by omega)
            rw [hg] at c2
            exact c2 this
          obtain ⟨b, hb⟩ := ih ((lo + hi') / 2 - lo) (by omega) lo ((lo + hi') / 2) rfl h2 this (by omega)
          refine ⟨b, Ev.step (fun k => rfl) (Ev.pos (by omega) ?_)⟩
          rw [eh]
          refine Ev.pos (by omega) (Ev.pos (by omega) (Ev.bindS (show span_Table_find_1.f _ _ _ _ = some 1 by unfold span_Table_find_1.f; rw [if_neg c2]) (Ev.neg (by omega) hb)))
      · have e1 : lo = pos L c := by omega
        subst e1
        by_cases c3 : pos L c < L.length
        · by_cases c4 : (rd_T43 L (pos L c : Int)).f1 < c
          · exact ⟨_, Ev.step (fun k => rfl) (Ev.neg (by omega) (Ev.pos (by omega) (Ev.pos (by omega) (Ev.pos (by omega) (Ev.bindS (show span_Table_find_1.f _ _ _ _ = some (-1) by unfold span_Table_find_1.f; rw [if_pos c4]) (Ev.now _))))))⟩
          · exact ⟨_, Ev.step (fun k => rfl) (Ev.neg (by omega) (Ev.pos (by omega) (Ev.pos (by omega) (Ev.pos (by omega) (Ev.bindS (show span_Table_find_1.f _ _ _ _ = some 1 by unfold span_Table_find_1.f; rw [if_neg c4]) (Ev.now _))))))⟩
        · exact ⟨_, Ev.step (fun k => rfl) (Ev.neg (by omega) (Ev.neg (by omega) (Ev.now _)))⟩
  obtain ⟨b, hb⟩ := key L.length 0 L.length (by omega) (by omega) hle (Nat.le_refl _)
  unfold span_find.f span_Span_int_at_span_Table_find_1.f
  exact Ev.bind hb (Ev.now _)

/-! Add -/
def addR (L : List S43) (s : S43) : Int × List S43 := span_Add.r L s (pos L s.f0 : Int)
theorem addR_eq (L : List S43) (s : S43) : addR L s = if s.f0 < 0 ∨ 1114111 < s.f1 ∨ s.f1 < s.f0 then (14, []) else if s.f2.toList = [] then (16, []) else if (pos L s.f0 : Int) < (L.length : Int) ∧ (rd_T43 L (pos L s.f0 : Int)).f0 ≤ s.f1 then (15, []) else (0, L.take (pos L s.f0) ++ s :: L.drop (pos L s.f0)) := by
  unfold addR span_Add.r
  rw [Int.toNat_natCast]
/-- Two spans with a code point in common. -/
def meets (a b : S43) : Prop := a.f0 ≤ b.f1 ∧ b.f0 ≤ a.f1
instance (a b : S43) : Decidable (meets a b) := inferInstanceAs (Decidable (_ ∧ _))
/-- What Add answers: the error of a span behind others, whichever their order. -/
def errOf (L : List S43) (s : S43) : Int :=
  if s.f0 < 0 ∨ 1114111 < s.f1 ∨ s.f1 < s.f0 then 14 else if s.f2.toList = [] then 16 else if ∃ t ∈ L, meets t s then 15 else 0
theorem meets_pos {L : List S43} (hL : SpOK L) {s : S43} (hs : s.f0 ≤ s.f1) : (∃ t ∈ L, meets t s) ↔ ((pos L s.f0 : Int) < (L.length : Int) ∧ (rd_T43 L (pos L s.f0 : Int)).f0 ≤ s.f1) := by
  constructor
  · rintro ⟨t, ht, h1, h2⟩
    obtain ⟨i, hi, rfl⟩ := List.getElem_of_mem ht
    have hp : pos L s.f0 ≤ i := by
      apply Classical.byContradiction
      intro hn
      have := pos_before (L := L) (c := s.f0) (i := i) (by omega)
      omega
    refine ⟨by omega, ?_⟩
    rw [rd43 _ (by omega)]
    rcases Nat.lt_or_eq_of_le hp with e | e
    · have := hL.lt e hi
      have := (hL.at (i := pos L s.f0) (by omega)).2.1
      omega
    · simp only [e]; exact h1
  · rintro ⟨h1, h2⟩
    rw [rd43 _ (by omega)] at h2
    exact ⟨_, List.getElem_mem (by omega), h2, by have := pos_at (L := L) (c := s.f0) (by omega); omega⟩
theorem addR_err {L : List S43} (hL : SpOK L) (s : S43) : (addR L s).1 = errOf L s := by
  rw [addR_eq]
  unfold errOf
  by_cases h1 : s.f0 < 0 ∨ 1114111 < s.f1 ∨ s.f1 < s.f0
  · rw [if_pos h1, if_pos h1]
  · rw [if_neg h1, if_neg h1]
    by_cases h2 : s.f2.toList = []
    · rw [if_pos h2, if_pos h2]
    · rw [if_neg h2, if_neg h2]
      have := meets_pos hL (s := s) (by omega)
      by_cases h3 : ∃ t ∈ L, meets t s
      · rw [if_pos h3, if_pos (this.1 h3)]
      · rw [if_neg h3, if_neg (fun h => h3 (this.2 h))]
theorem addR_ok {L : List S43} (hL : SpOK L) {s : S43} (h : (addR L s).1 = 0) : (addR L s).2 = L.take (pos L s.f0) ++ s :: L.drop (pos L s.f0) ∧ valid s ∧ (∀ t ∈ L, ¬ meets t s) := by
  have he := addR_err hL s
  rw [h] at he
  unfold errOf at he
  by_cases h1 : s.f0 < 0 ∨ 1114111 < s.f1 ∨ s.f1 < s.f0
  · rw [if_pos h1] at he; cases he
  · rw [if_neg h1] at he
    by_cases h2 : s.f2.toList = []
    · rw [if_pos h2] at he; cases he
    · rw [if_neg h2] at he
      by_cases h3 : ∃ t ∈ L, meets t s
      · rw [if_pos h3] at he; cases he
      · refine ⟨?_, ⟨by omega, by omega, by omega, h2⟩, fun t ht hm => h3 ⟨t, ht, hm⟩⟩
        rw [addR_eq, if_neg h1, if_neg h2, if_neg (fun hh => h3 ((meets_pos hL (by omega)).2 hh))]
theorem addR_zero {L : List S43} (hL : SpOK L) {s : S43} (hv : valid s) (h : ∀ t ∈ L, ¬ meets t s) : (addR L s).1 = 0 := by
  rw [addR_err hL]
  unfold errOf
  have := hv
  unfold valid at this
  rw [if_neg (by omega), if_neg hv.2.2.2, if_neg (fun ⟨t, ht, hm⟩ => h t ht hm)]
/-- What is ahead of the place ends ahead; what is behind it begins behind. -/
theorem place_sides {L : List S43} (hL : SpOK L) {s : S43} (hv : valid s) (hm : ∀ t ∈ L, ¬ meets t s) : (∀ t ∈ L.take (pos L s.f0), t.f1 < s.f0) ∧ (∀ t ∈ L.drop (pos L s.f0), s.f1 < t.f0) := by
  constructor
  · intro t ht
    obtain ⟨i, hi, rfl⟩ := List.getElem_of_mem ht
    rw [List.length_take] at hi
    rw [List.getElem_take]
    exact pos_before (by omega)
  · intro t ht
    obtain ⟨i, hi, rfl⟩ := List.getElem_of_mem ht
    rw [List.length_drop] at hi
    rw [List.getElem_drop]
    have h1 := pos_at (L := L) (c := s.f0) (by omega)
    have h2 := hL.last (i := pos L s.f0) (j := pos L s.f0 + i) (by omega) (by omega)
    have h3 := hm _ (List.getElem_mem (h := (by omega : pos L s.f0 + i < L.length)))
    unfold meets at h3
    omega
theorem place_ok {L : List S43} (hL : SpOK L) {s : S43} (hv : valid s) (hm : ∀ t ∈ L, ¬ meets t s) : SpOK (L.take (pos L s.f0) ++ s :: L.drop (pos L s.f0)) := by
  obtain ⟨h1, h2⟩ := place_sides hL hv hm
  refine ⟨?_, ?_⟩
  · rw [List.pairwise_append]
    refine ⟨hL.1.sublist (List.take_sublist _ _), ?_, ?_⟩
    · rw [List.pairwise_cons]
      exact ⟨h2, hL.1.sublist (List.drop_sublist _ _)⟩
    · intro a ha b hb
      have ha1 := h1 a ha
      rcases List.mem_cons.1 hb with rfl | hb
      · exact ha1
      · have := h2 b hb
        have := hv.2.1
        omega
  · intro t ht
    rcases List.mem_append.1 ht with h | h
    · exact hL.2 t (List.mem_of_mem_take h)
    · rcases List.mem_cons.1 h with rfl | h
      · exact hv
      · exact hL.2 t (List.mem_of_mem_drop h)
theorem addR_SpOK {L : List S43} (hL : SpOK L) {s : S43} (h : (addR L s).1 = 0) : SpOK (addR L s).2 := by
  obtain ⟨e, hv, hm⟩ := addR_ok hL h
  rw [e]
  exact place_ok hL hv hm
theorem addR_perm {L : List S43} (hL : SpOK L) {s : S43} (h : (addR L s).1 = 0) : ((addR L s).2).Perm (s :: L) := by
  obtain ⟨e, _, _⟩ := addR_ok hL h
  rw [e]
  exact List.perm_middle.trans (List.Perm.cons _ (by rw [List.take_append_drop]))

/-! New -/
def newR : List S43 → List S43 → Int × List S43
  | acc, [] => (0, acc)
  | acc, s :: r => if (addR acc s).1 = 0 then newR (addR acc s).2 r else ((addR acc s).1, [])
theorem newR_len {acc l : List S43} (h : SpOK acc) (h0 : (newR acc l).1 = 0) : SpOK (newR acc l).2 ∧ ((newR acc l).2).Perm (l ++ acc) := by
  induction l generalizing acc with
  | nil => exact ⟨h, by simp [newR]⟩
  | cons s r ih =>
    unfold newR at h0 ⊢
    by_cases e : (addR acc s).1 = 0
    · rw [if_pos e] at h0 ⊢
      obtain ⟨h1, h2⟩ := ih (addR_SpOK h e) h0
      refine ⟨h1, h2.trans ?_⟩
      exact ((List.Perm.append_left r (addR_perm h e)).trans List.perm_middle)
    · rw [if_neg e] at h0
      exact absurd h0 e
/-- New's spans are all of a kind: valid, and none in common. -/
def Good (l : List S43) : Prop := (∀ s ∈ l, valid s) ∧ l.Pairwise (fun a b => ¬ meets a b)
theorem newR_good {acc l : List S43} (h : SpOK acc) : (newR acc l).1 = 0 ↔ (Good l ∧ ∀ s ∈ l, ∀ t ∈ acc, ¬ meets t s) := by
  induction l generalizing acc with
  | nil => simp [newR, Good]
  | cons s r ih =>
    unfold newR
    by_cases e : (addR acc s).1 = 0
    · rw [if_pos e, ih (addR_SpOK h e)]
      obtain ⟨_, hv, hm⟩ := addR_ok h e
      have hp := addR_perm h e
      constructor
      · rintro ⟨⟨g1, g2⟩, g3⟩
        refine ⟨⟨fun t ht => ?_, ?_⟩, fun t ht u hu => ?_⟩
        · rcases List.mem_cons.1 ht with rfl | ht
          · exact hv
          · exact g1 t ht
        · rw [List.pairwise_cons]
          exact ⟨fun t ht => g3 t ht s (hp.mem_iff.2 List.mem_cons_self), g2⟩
        · rcases List.mem_cons.1 ht with rfl | ht
          · exact hm u hu
          · exact g3 t ht u (hp.mem_iff.2 (List.mem_cons_of_mem _ hu))
      · rintro ⟨⟨g1, g2⟩, g3⟩
        rw [List.pairwise_cons] at g2
        refine ⟨⟨fun t ht => g1 t (List.mem_cons_of_mem _ ht), g2.2⟩, fun t ht u hu => ?_⟩
        rcases List.mem_cons.1 (hp.mem_iff.1 hu) with rfl | hu
        · exact g2.1 t ht
        · exact g3 t (List.mem_cons_of_mem _ ht) u hu
    · rw [if_neg e]
      refine ⟨fun h0 => absurd h0 e, ?_⟩
      rintro ⟨⟨g1, g2⟩, g3⟩
      exact absurd (addR_zero h (g1 s List.mem_cons_self) (fun t ht => g3 s List.mem_cons_self t ht)) e
end Go.Proofs.Ytlipbiihemhieaa.K

-- from Hnew
/- span: New. -/
namespace Go.Proofs.Ytlipbiihemhieaa.Q
open Go.RowKit Go.Shelf Go.Proofs.YtlipbiihemhieaaW.PrintWords Go.Proofs.YtlipbiihemhieaaW.PrintLast Go.Proofs.YtlipbiihemhieaaW.PrintMore Go.Proofs.Ytlipbiihemhieaa.K
set_option linter.unusedVariables false
set_option linter.unusedSimpArgs false

set_option maxHeartbeats 4000000 in
set_option maxRecDepth 100000 in
theorem span_New.calls (A0 : Option Addr) (c0 : Nat) (l : List S43) (w : World) (hr0 : Kd.C k43 w A0 l.length l) (hc0 : l.length ≤ c0) (hl : l.length ≤ 1000) :
    Calls Try.prog 28 #[.slice A0 l.length c0] w fun e w' => Below w.heap.size w w' ∧ ∃ q, e = .returned (.tuple #[.pointer q, .int .i64 (newR [] l).1]) ∧
      (((newR [] l).1 ≠ 0 ∧ q = none) ∨ ((newR [] l).1 = 0 ∧ (∃ g, q = some ⟨g, 0, none⟩) ∧ Tab w' q (newR [] l).2)) := by
  have HR0 := Aside0.mk hr0
  have HC0 := Aside0.mk hc0
  have HL := Aside0.mk hl
  clear hr0 hc0 hl
  go_enter Try.func28, Try.ntmps28
  go_wp2
  go_loopg [4, 13] (l.length + 1) (fun kq v4 v13 wr => ∃ (i : Nat) (acc : List S43) (g : Nat), v13 = .int .i64 (i : Int) ∧ v4 = .pointer (some ⟨g, 0, none⟩) ∧ Aside0 (Tab wr (some ⟨g, 0, none⟩) acc) ∧ Aside0 (SpOK acc) ∧ Aside0 (newR acc (l.drop i) = newR [] l) ∧ Aside0 (i + kq = l.length + 1 ∧ i ≤ l.length ∧ acc.length = i) ∧ Aside0 (Below w.heap.size w wr))
  case atStart => exact ⟨0, [], _, rfl, rfl, ⟨.inr ⟨_, _, rfl, heap_alloc_new w _, .inl ⟨rfl, rfl⟩⟩⟩, ⟨SpOK.nil⟩, ⟨rfl⟩, ⟨by omega, by omega, rfl⟩, ⟨(Below.refl _ w).alloc (Nat.le_refl _) _⟩⟩
  case round =>
    obtain ⟨i, acc, g, rfl, rfl, HT, HS, HN, HI, HB⟩ := hrel
    obtain ⟨hi1, hi2, hi3⟩ := HI.out
    cases gk with
    | zero => omega
    | succ k1 =>
      by_cases c1 : (i : Int) < (l.length : Int)
      · obtain ⟨ad, rfl, hx0, hx1, hx2⟩ := at_T43 HR0.out (i : Int) (by omega) c1
        rw [Int.toNat_natCast] at hx0 hx1 hx2
        have hx0 := (HB.out.cell (World.block_lt_of_cell? w _ hx0)).trans hx0
        have hx1 := (HB.out.cell (World.block_lt_of_cell? w _ hx1)).trans hx1
        have hx2 := (HB.out.cell (World.block_lt_of_cell? w _ hx2)).trans hx2
        obtain ⟨s, hs⟩ : ∃ s, s = rd_T43 l (i : Int) := ⟨_, rfl⟩
        rw [← hs] at hx0 hx1 hx2
        obtain ⟨kf, hkf⟩ := (find_ev (L := acc) (by have := HL.out; omega) HS.out s.f0).rounds
        have HKF := Aside0.mk hkf
        have HSS := Aside0.mk hs
        clear hkf hs hi1 hi2 hi3
        have e0 := eq_true c1
        have e1 : decide ((i : Int) < (l.length : Int)) = true := decide_eq_true c1
        clear c1
        have hdrop : l.drop i = s :: l.drop (i + 1) := by
          have hlt : i < l.length := by have := of_decide_eq_true e1; omega
          rw [List.drop_eq_getElem_cons hlt, HSS.out, rd43 i hlt]
        have hstep : newR [] l = if (addR acc s).1 = 0 then newR (addR acc s).2 (l.drop (i + 1)) else ((addR acc s).1, []) := by
          rw [← HN.out, hdrop]; rfl
        have HSTEP := Aside0.mk hstep
        clear hdrop hstep
        by_cases ce : (addR acc s).1 = 0
        · have HCE := Aside0.mk ce
          clear ce
          go_wp2_with (go_at_call 30; refine (span_Add.calls kf _ acc s (pos acc s.f0) _ (HT.out.below ((Below.refl _ _).alloc (Nat.le_refl _) _)) HKF.out (pos_le _ _) (by have := HI.out; have := HL.out; omega)).mono ?_; rintro e w5 ⟨hb5, q, rfl, hq⟩; rw [show (span_Add.r acc s (pos acc s.f0 : Int)).1 = 0 from HCE.out] at *; rcases hq with ⟨hq, _⟩ | ⟨_, ⟨g5, rfl⟩, hT5⟩; (exact absurd rfl hq); have HB5 := Aside0.mk hb5; have HT5 := Aside0.mk hT5; clear hb5 hT5)
          go_roundg k1
          case measure => omega
          case rel =>
            have hi := HI.out
            refine ⟨i + 1, (addR acc s).2, g5, ?_, rfl, HT5, ⟨addR_SpOK HS.out HCE.out⟩, ⟨?_⟩, ⟨by omega, ?_, ?_⟩, ⟨?_⟩⟩
            · have := of_decide_eq_true e1; have := HL.out; rw [w64 (by omega) (by omega)]; congr 1
            · rw [HSTEP.out, if_pos HCE.out]
            · have := of_decide_eq_true e1; omega
            · have := (addR_perm HS.out HCE.out).length_eq
              rw [this, List.length_cons]; omega
            · exact HB.out.trans ((((Below.refl _ _).alloc (Nat.le_refl _) _).trans (HB5.out.mono (by simp))).mono HB.out.size)
        · have HCE := Aside0.mk ce
          have e5 : decide ((addR acc s).1 = 0) = false := decide_eq_false ce
          have e6 : ((addR acc s).1 == 0) = false := beq_eq_false_iff_ne.mpr ce
          have e7 := eq_false ce
          clear ce
          go_wp2_with (go_at_call 30; refine (span_Add.calls kf _ acc s (pos acc s.f0) _ (HT.out.below ((Below.refl _ _).alloc (Nat.le_refl _) _)) HKF.out (pos_le _ _) (by have := HI.out; have := HL.out; omega)).mono ?_; rintro e w5 ⟨hb5, q, rfl, hq⟩; rw [show (span_Add.r acc s (pos acc s.f0 : Int)).1 = (addR acc s).1 from rfl] at *; rcases hq with ⟨_, rfl⟩ | ⟨hq, _⟩; rotate_left; (exact absurd hq HCE.out); have HB5 := Aside0.mk hb5; clear hb5)
          go_ret2
          rw [HSTEP.out, if_neg HCE.out]
          exact ⟨HB.out.trans ((((Below.refl _ _).alloc (Nat.le_refl _) _).trans (HB5.out.mono (by simp))).mono HB.out.size), none, rfl, .inl ⟨HCE.out, rfl⟩⟩
      · have e0 := eq_false c1
        have e1 : decide ((i : Int) < (l.length : Int)) = false := decide_eq_false c1
        have hd : l.drop i = [] := List.drop_eq_nil_of_le (by omega)
        have hN := HN.out
        rw [hd] at hN
        have HN' := Aside0.mk hN
        clear hN hd hi1 hi2 hi3 c1
        go_wp2
        go_ret2
        rw [← HN'.out]
        exact ⟨HB.out, _, rfl, .inr ⟨rfl, ⟨g, rfl⟩, HT.out⟩⟩
end Go.Proofs.Ytlipbiihemhieaa.Q

-- from Hval
/- span: slices.Values at []Span, and Table.All. -/
namespace Go.Proofs.Ytlipbiihemhieaa.Q
open Go.RowKit Go.Shelf Go.Proofs.YtlipbiihemhieaaW.PrintWords Go.Proofs.YtlipbiihemhieaaW.PrintLast Go.Proofs.YtlipbiihemhieaaW.PrintMore
set_option linter.unusedVariables false
set_option linter.unusedSimpArgs false
attribute [local go_sem] Oper.semAt_some

theorem KeepC.cell {T : Nat → Prop} {A B : World} (h : KeepC T A B) {p : Addr} {v : Value} (hc : A.cell? p = some v) (hp : ¬ T p.block) : B.cell? p = some v := by
  unfold World.cell? at hc ⊢
  cases ho : A.heap[p.block]? with
  | none => rw [ho] at hc; cases hc
  | some o =>
    rw [ho] at hc
    cases o with
    | cells c t fr => rw [h.2 _ _ ho rfl hp]; exact hc
    | _ => cases hc
/-- A span as it is handed over. -/
def span_val (s : S43) : Value := .agg #[.int .i64 s.f0, .int .i64 s.f1, .string s.f2]
set_option maxHeartbeats 2000000 in
set_option maxRecDepth 100000 in
/-- The iterator: every body that keeps all cells but those of T. -/
theorem span_Values.stops (L : List S43) (hl : L.length ≤ 1000000) (B : Nat) (A : Option Addr) (c : Nat) (T : Nat → Prop) (w : World)
    (hTB : ¬ T B) (hTA : ∀ ad, A = some ad → L ≠ [] → ¬ T ad.block) (hBox : Boxed w B 41 (.slice A L.length c)) (hR : Kd.C k43 w A L.length L) (n : Nat) (hn : 3 ≤ n) :
    SeqPr Fence.wide n Try.prog 93 #[.pointer (some ⟨B, 0, none⟩)] (fun x : S43 => #[span_val x]) (KeepC T) (fun _ _ => True) (fun ys => ys = L) (fun pre => pre <+: L) w := fun l J Jx W hW hJ hJx hY h0 => by
  refine callsIn_of_wp Try.func93 rfl trivial ?_ rfl
  simp only [Try.ntmps93, List.size_toArray, List.length_cons, List.length_nil, Nat.reduceAdd, Nat.reduceSub, Array.replicate_succ, Array.replicate_zero, List.push_toArray, List.append_toArray, List.nil_append, List.cons_append]
  have KC : Aside0 (KeepC T w W) := ⟨hW.size, fun k o hk _ _ => (hW.block k (Array.getElem?_eq_some_iff.1 hk).1).trans hk⟩
  have HTA := Aside0.mk hTA
  have HTB := Aside0.mk hTB
  have HRL := Aside0.mk hR
  have HBX := Aside0.mk hBox
  have HJ := Aside0.mk hJ
  have HY := Aside0.mk hY
  have H0 := Aside0.mk h0
  have HL := Aside0.mk hl
  clear hTA hTB hR hBox hJ hY h0 hJx hW hl
  have hcell := (KC.out.boxed HBX.out HTB.out).cell
  gi_wp2
  clear hcell
  gi_loopg [7] (L.length + 1) (fun kq v7 wr => ∃ (i : Nat), v7 = .int .i64 (i : Int) ∧ Aside0 (i + kq = L.length + 1 ∧ i ≤ L.length) ∧ Aside0 (J (L.take i) wr) ∧ Aside0 (KeepC T w wr))
  case atStart => exact ⟨0, rfl, ⟨by omega, by omega⟩, ⟨H0.out⟩, KC⟩
  case round =>
    clear H0 KC
    obtain ⟨i, rfl, HI, HJp, KC⟩ := hrel
    cases gk with
    | zero => exact absurd HI.out (by omega)
    | succ kq =>
      by_cases c1 : (i : Int) < (L.length : Int)
      · obtain ⟨ad, rfl, hx0, hx1, hx2⟩ := at_T43 HRL.out (i : Int) (by omega) c1
        rw [Int.toNat_natCast] at hx0 hx1 hx2
        have hblk : (ad.add (i * 3)).block = ad.block := by unfold Addr.add; split <;> rfl
        have hnT : ¬ T (ad.add (i * 3)).block := by rw [hblk]; exact HTA.out _ rfl (fun e => by rw [e] at c1; simp at c1; omega)
        have hx0 := KC.out.cell hx0 hnT
        have hx1 := KC.out.cell hx1 hnT
        have hx2 := KC.out.cell hx2 hnT
        obtain ⟨s, hs⟩ : ∃ s, s = rd_T43 L (i : Int) := ⟨_, rfl⟩
        rw [← hs] at hx0 hx1 hx2
        have HSS := Aside0.mk hs
        have htake : L.take i ++ [s] = L.take (i + 1) := by
          have hlt : i < L.length := by omega
          rw [hs, Go.Proofs.Ytlipbiihemhieaa.K.rd43 i hlt, List.take_add_one, List.getElem?_eq_getElem hlt]
          rfl
        have HTK := Aside0.mk htake
        have e0 := eq_true c1
        have e1 : decide ((i : Int) < (L.length : Int)) = true := decide_eq_true c1
        clear hs c1 htake hblk hnT
        have hj2 := HJ.out _ _ _ none HJp.out (World.grownBy_alloc wr (.cells #[.int .i64 s.f0, .int .i64 s.f1, .string s.f2] 43) none) (fun r e => by cases e)
        obtain ⟨fn, tmps, assign, body, hy, hRR⟩ := HY.out (L.take i) s _ hj2 trivial (by rw [HTK.out]; exact List.take_prefix _ _)
        have hk2 : KeepC T w (wr.alloc (.cells #[.int .i64 s.f0, .int .i64 s.f1, .string s.f2] 43)) := KC.out.trans (KeepC.of_below ((Below.refl _ _).alloc (Nat.le_refl _) _))
        have HK2 := Aside0.mk hk2
        have HRR := Aside0.mk hRR
        simp only [span_val] at hy
        clear hj2 hRR hk2 KC HJp
        gi_wp2
        refine ⟨fun _ => by omega, ?_⟩
        refine HRR.out.mono ?_
        rintro e W3 (⟨rfl, hJ3, hk3⟩ | ⟨rfl, hJx3⟩)
        · have HJ3 := Aside0.mk hJ3
          have HK3 := Aside0.mk (HK2.out.trans hk3)
          clear hJ3 hk3 HRR hy HK2 hx0 hx1 hx2
          gi_wp2
          gi_roundg kq
          case measure => omega
          case rel =>
            have := HI.out
            have := of_decide_eq_true e1
            have := HL.out
            exact ⟨i + 1, by rw [Go.Proofs.Ytlipbiihemhieaa.K.w64 (by omega) (by omega)]; rfl, ⟨by omega, by omega⟩, ⟨by rw [← HTK.out]; exact HJ3.out⟩, HK3⟩
        · have HJX := Aside0.mk hJx3
          clear hJx3 HRR hy hx0 hx1 hx2
          gi_wp2
          refine bodyPost_ret (results_none rfl _ _ _) rfl ?_
          exact ⟨⟨_, rfl⟩, .inr ⟨L.take i ++ [s], by rw [HTK.out]; exact List.take_prefix _ _, HJX.out⟩⟩
      · have e0 := eq_false c1
        have e1 : decide ((i : Int) < (L.length : Int)) = false := decide_eq_false c1
        have hi : i = L.length := by have := HI.out; omega
        subst hi
        clear c1
        gi_wp2
        go_end0
        exact ⟨⟨_, rfl⟩, .inl ⟨L, rfl, by have := HJp.out; rwa [List.take_length] at this⟩⟩
set_option maxHeartbeats 1000000 in
set_option maxRecDepth 100000 in
theorem span_Values.calls (A : Option Addr) (n c : Nat) (w : World) :
    Calls Try.prog 80 #[.slice A n c] w fun e w' => e = .returned (.func (.func 93) #[] #[.pointer (some ⟨w.heap.size, 0, none⟩)]) ∧ w' = w.alloc (.cells #[.slice A n c] 41) := by
  go_enter Try.func80, Try.ntmps80
  go_wp2
  go_ret
  exact ⟨rfl, rfl⟩
set_option maxHeartbeats 2000000 in
set_option maxRecDepth 100000 in
theorem span_spans.calls0 (p : Option Addr) (L : List S43) (w0 w : World) (hT : Tab w0 p L) (hb : Below w0.heap.size w0 w) :
    Calls Try.prog 63 #[.pointer p] w fun e w' => (∃ A c, e = .returned (.slice A L.length c) ∧ Row43 w0 (.slice A L.length c) L ∧ Kd.C k43 w0 A L.length L) ∧ w' = w := by
  rcases hT with ⟨rfl, rfl⟩ | ⟨g, v, rfl, h2, h3⟩
  · go_enter Try.func63, Try.ntmps63
    go_wp2
    go_ret
    exact ⟨⟨none, 0, rfl, .inl ⟨rfl, rfl⟩, ⟨rfl, by simp, fun h => by simp at h⟩⟩, rfl⟩
  · have h3' := h3
    obtain ⟨A, c, rfl, h4, h5⟩ := h3'.open_
    have hc : w.cell? ⟨g, 0, none⟩ = some (.slice A L.length c) := by unfold World.cell?; rw [(hb.block g (Array.getElem?_eq_some_iff.1 h2).1).trans h2]; rfl
    have H3 := Aside0.mk h3
    have H5 := Aside0.mk h5
    clear h2 h3 h4 h5 h3' hb
    go_enter Try.func63, Try.ntmps63
    go_wp2
    go_ret
    exact ⟨⟨A, c, rfl, H3.out, H5.out⟩, rfl⟩
set_option maxHeartbeats 1000000 in
set_option maxRecDepth 100000 in
theorem span_All.calls (p : Option Addr) (L : List S43) (w0 w : World) (hT : Tab w0 p L) (hb : Below w0.heap.size w0 w) :
    Calls Try.prog 61 #[.pointer p] w fun e w' => ∃ A c, e = .returned (.func (.func 93) #[] #[.pointer (some ⟨w.heap.size, 0, none⟩)]) ∧ w' = w.alloc (.cells #[.slice A L.length c] 41) ∧ Row43 w0 (.slice A L.length c) L ∧ Kd.C k43 w0 A L.length L := by
  have HT := Aside0.mk hT
  have HB := Aside0.mk hb
  clear hT hb
  go_enter Try.func61, Try.ntmps61
  go_wp2_with (first
    | (go_at_call 63
       refine (span_spans.calls0 p L w0 _ HT.out HB.out).mono ?_
       rintro e w1 ⟨⟨A, n, rfl, hr, hC⟩, rfl⟩
       have HN := Aside0.mk hr
       have HC := Aside0.mk hC
       clear hr hC)
    | (go_at_call 80
       refine (span_Values.calls A L.length n _).mono ?_
       rintro e w2 ⟨rfl, rfl⟩))
  go_ret
  exact ⟨A, n, rfl, rfl, HN.out, HC.out⟩
theorem row43_lt {w : World} {A : Option Addr} {c : Nat} {L : List S43} (h : Row43 w (.slice A L.length c) L) (hl : L.length ≤ 9223372036854775807) : ∀ ad, A = some ad → L ≠ [] → ad.block < w.heap.size := by
  rintro ad rfl hne
  rcases h with ⟨h1, h2⟩ | ⟨ad', c', h1, h2, h3, _⟩
  · exact absurd h2 hne
  · injection h1 with h1
    injection h1 with h1
    subst h1
    obtain ⟨ad2, e2, hx, _⟩ := at_T43 h3 0 (by omega) (by have := List.length_pos_iff.2 hne; omega)
    injection e2 with e2
    subst e2
    have := World.block_lt_of_cell? w _ hx
    have hblk : (ad.add ((0 : Int).toNat * 3)).block = ad.block := by unfold Addr.add; split <;> rfl
    rwa [hblk] at this
theorem row43_type {w : World} {A : Option Addr} {c : Nat} {L : List S43} (h : Row43 w (.slice A L.length c) L) : ∀ ad o, A = some ad → L ≠ [] → w.heap[ad.block]? = some o → ∃ cells, o = .cells cells 43 (0, 0) := by
  rintro ad o rfl hne ho
  rcases h with ⟨h1, h2⟩ | ⟨ad', c', h1, h2, h3, cells, h4⟩
  · exact absurd h2 hne
  · injection h1 with h1
    injection h1 with h1
    subst h1
    rw [ho] at h4
    exact ⟨cells, Option.some.inj h4⟩
end Go.Proofs.Ytlipbiihemhieaa.Q

-- from Hkpo
/- What a body keeps, told by the blocks' objects (their types); slices.Values at []Span by it. -/
namespace Go.Proofs.Ytlipbiihemhieaa.Q
open Go.RowKit Go.Shelf Go.Proofs.YtlipbiihemhieaaW.PrintWords Go.Proofs.YtlipbiihemhieaaW.PrintLast Go.Proofs.YtlipbiihemhieaaW.PrintMore
set_option linter.unusedVariables false
set_option linter.unusedSimpArgs false
attribute [local go_sem] Oper.semAt_some

/-- All cells of which Q tells stay as they are. -/
def KeepO (Q : Nat → Obj → Prop) (A B : World) : Prop := A.heap.size ≤ B.heap.size ∧ ∀ k o, A.heap[k]? = some o → o.isCells = true → Q k o → B.heap[k]? = some o
theorem KeepO.refl (Q : Nat → Obj → Prop) (A : World) : KeepO Q A A := ⟨Nat.le_refl _, fun _ _ h _ _ => h⟩
theorem KeepO.trans {Q : Nat → Obj → Prop} {A B C : World} (h : KeepO Q A B) (k : KeepO Q B C) : KeepO Q A C := ⟨Nat.le_trans h.1 k.1, fun j o hj hc hn => k.2 j o (h.2 j o hj hc hn) hc hn⟩
theorem KeepO.of_below {Q : Nat → Obj → Prop} {A B : World} (h : Below A.heap.size A B) : KeepO Q A B := ⟨h.size, fun k o hk _ _ => (h.block k (Array.getElem?_eq_some_iff.1 hk).1).trans hk⟩
theorem KeepO.grown {Q : Nat → Obj → Prop} {A B : World} {row : Option Nat} (hg : A.grownBy B row) (hQ : ∀ k o, row = some k → A.heap[k]? = some o → o.isCells = true → ¬ Q k o) : KeepO Q A B :=
  ⟨hg.size, fun k o hk hc hn => (hg.block k (Array.getElem?_eq_some_iff.1 hk).1 (fun e => hQ k o e.symm hk hc hn)).trans hk⟩
theorem KeepO.of_set {Q : Nat → Obj → Prop} {A : World} {p : Addr} {v : Value} (h : ∀ o, A.heap[p.block]? = some o → ¬ Q p.block o) : KeepO Q A (A.setCell p v) := ⟨by simp, fun k o hk _ hn => (Below.heap_setCell A p v k (fun e => by subst e; exact h o hk hn)).trans hk⟩
theorem keepO_put {Q : Nat → Obj → Prop} {w : World} : ∀ (W : World) (l : Nat) (o o' : Obj), w.heap.size ≤ l → W.heap[l]? = some o → o.isCells = false → o.isWalk = false → KeepO Q W (W.putObj l o') :=
  fun W l o o' _ ho hc _ => ⟨(grownBy_putObj' W l o').size, fun k ob hk hkc _ => by
    have hne : k ≠ l := fun e => by
      subst e
      rw [ho] at hk
      injection hk with hk
      rw [← hk, hc] at hkc
      cases hkc
    exact (World.putObj_heap_other hne).trans hk⟩
theorem KeepO.boxed {Q : Nat → Obj → Prop} {A B : World} (h : KeepO Q A B) {k : Nat} {t : TypeId} {v : Value} (hb : Boxed A k t v) (hk : Q k (.cells #[v] t (0, 0))) : Boxed B k t v := h.2 k _ hb rfl hk
theorem KeepO.cell {Q : Nat → Obj → Prop} {A B : World} (h : KeepO Q A B) {p : Addr} {v : Value} (hc : A.cell? p = some v) (hp : ∀ o, A.heap[p.block]? = some o → Q p.block o) : B.cell? p = some v := by
  unfold World.cell? at hc ⊢
  cases ho : A.heap[p.block]? with
  | none => rw [ho] at hc; cases hc
  | some o =>
    rw [ho] at hc
    cases o with
    | cells c t fr => rw [h.2 _ _ ho rfl (hp _ ho)]; exact hc
    | _ => cases hc
set_option maxHeartbeats 2000000 in
set_option maxRecDepth 100000 in
/-- The iterator: every body that keeps the cells of which Q tells. -/
theorem span_Values.stopsO (L : List S43) (hl : L.length ≤ 1000000) (B : Nat) (A : Option Addr) (c : Nat) (Q : Nat → Obj → Prop) (w : World)
    (hTB : Q B (.cells #[.slice A L.length c] 41 (0, 0))) (hTA : ∀ ad o, A = some ad → L ≠ [] → w.heap[ad.block]? = some o → Q ad.block o) (hBox : Boxed w B 41 (.slice A L.length c)) (hR : Kd.C k43 w A L.length L) (n : Nat) (hn : 3 ≤ n) :
    SeqPr Fence.wide n Try.prog 93 #[.pointer (some ⟨B, 0, none⟩)] (fun x : S43 => #[span_val x]) (KeepO Q) (fun _ _ => True) (fun ys => ys = L) (fun pre => pre <+: L) w := fun l J Jx W hW hJ hJx hY h0 => by
  refine callsIn_of_wp Try.func93 rfl trivial ?_ rfl
  simp only [Try.ntmps93, List.size_toArray, List.length_cons, List.length_nil, Nat.reduceAdd, Nat.reduceSub, Array.replicate_succ, Array.replicate_zero, List.push_toArray, List.append_toArray, List.nil_append, List.cons_append]
  have KC : Aside0 (KeepO Q w W) := ⟨hW.size, fun k o hk _ _ => (hW.block k (Array.getElem?_eq_some_iff.1 hk).1).trans hk⟩
  have HTA := Aside0.mk hTA
  have HTB := Aside0.mk hTB
  have HRL := Aside0.mk hR
  have HBX := Aside0.mk hBox
  have HJ := Aside0.mk hJ
  have HY := Aside0.mk hY
  have H0 := Aside0.mk h0
  have HL := Aside0.mk hl
  clear hTA hTB hR hBox hJ hY h0 hJx hW hl
  have hcell := (KC.out.boxed HBX.out HTB.out).cell
  gi_wp2
  clear hcell
  gi_loopg [7] (L.length + 1) (fun kq v7 wr => ∃ (i : Nat), v7 = .int .i64 (i : Int) ∧ Aside0 (i + kq = L.length + 1 ∧ i ≤ L.length) ∧ Aside0 (J (L.take i) wr) ∧ Aside0 (KeepO Q w wr))
  case atStart => exact ⟨0, rfl, ⟨by omega, by omega⟩, ⟨H0.out⟩, KC⟩
  case round =>
    clear H0 KC
    obtain ⟨i, rfl, HI, HJp, KC⟩ := hrel
    cases gk with
    | zero => exact absurd HI.out (by omega)
    | succ kq =>
      by_cases c1 : (i : Int) < (L.length : Int)
      · obtain ⟨ad, rfl, hx0, hx1, hx2⟩ := at_T43 HRL.out (i : Int) (by omega) c1
        rw [Int.toNat_natCast] at hx0 hx1 hx2
        have hblk : (ad.add (i * 3)).block = ad.block := by unfold Addr.add; split <;> rfl
        have hnT : ∀ o, w.heap[(ad.add (i * 3)).block]? = some o → Q (ad.add (i * 3)).block o := fun o ho => by rw [hblk] at ho ⊢; exact HTA.out _ o rfl (fun e => by rw [e] at c1; simp at c1; omega) ho
        have hx0 := KC.out.cell hx0 hnT
        have hx1 := KC.out.cell hx1 hnT
        have hx2 := KC.out.cell hx2 hnT
        obtain ⟨s, hs⟩ : ∃ s, s = rd_T43 L (i : Int) := ⟨_, rfl⟩
        rw [← hs] at hx0 hx1 hx2
        have HSS := Aside0.mk hs
        have htake : L.take i ++ [s] = L.take (i + 1) := by
          have hlt : i < L.length := by omega
          rw [hs, Go.Proofs.Ytlipbiihemhieaa.K.rd43 i hlt, List.take_add_one, List.getElem?_eq_getElem hlt]
          rfl
        have HTK := Aside0.mk htake
        have e0 := eq_true c1
        have e1 : decide ((i : Int) < (L.length : Int)) = true := decide_eq_true c1
        clear hs c1 htake hblk hnT
        have hj2 := HJ.out _ _ _ none HJp.out (World.grownBy_alloc wr (.cells #[.int .i64 s.f0, .int .i64 s.f1, .string s.f2] 43) none) (fun r e => by cases e)
        obtain ⟨fn, tmps, assign, body, hy, hRR⟩ := HY.out (L.take i) s _ hj2 trivial (by rw [HTK.out]; exact List.take_prefix _ _)
        have hk2 : KeepO Q w (wr.alloc (.cells #[.int .i64 s.f0, .int .i64 s.f1, .string s.f2] 43)) := KC.out.trans (KeepO.of_below ((Below.refl _ _).alloc (Nat.le_refl _) _))
        have HK2 := Aside0.mk hk2
        have HRR := Aside0.mk hRR
        simp only [span_val] at hy
        clear hj2 hRR hk2 KC HJp
        gi_wp2
        refine ⟨fun _ => by omega, ?_⟩
        refine HRR.out.mono ?_
        rintro e W3 (⟨rfl, hJ3, hk3⟩ | ⟨rfl, hJx3⟩)
        · have HJ3 := Aside0.mk hJ3
          have HK3 := Aside0.mk (HK2.out.trans hk3)
          clear hJ3 hk3 HRR hy HK2 hx0 hx1 hx2
          gi_wp2
          gi_roundg kq
          case measure => omega
          case rel =>
            have := HI.out
            have := of_decide_eq_true e1
            have := HL.out
            exact ⟨i + 1, by rw [Go.Proofs.Ytlipbiihemhieaa.K.w64 (by omega) (by omega)]; rfl, ⟨by omega, by omega⟩, ⟨by rw [← HTK.out]; exact HJ3.out⟩, HK3⟩
        · have HJX := Aside0.mk hJx3
          clear hJx3 HRR hy hx0 hx1 hx2
          gi_wp2
          refine bodyPost_ret (results_none rfl _ _ _) rfl ?_
          exact ⟨⟨_, rfl⟩, .inr ⟨L.take i ++ [s], by rw [HTK.out]; exact List.take_prefix _ _, HJX.out⟩⟩
      · have e0 := eq_false c1
        have e1 : decide ((i : Int) < (L.length : Int)) = false := decide_eq_false c1
        have hi : i = L.length := by have := HI.out; omega
        subst hi
        clear c1
        gi_wp2
        go_end0
        exact ⟨⟨_, rfl⟩, .inl ⟨L, rfl, by have := HJp.out; rwa [List.take_length] at this⟩⟩
end Go.Proofs.Ytlipbiihemhieaa.Q

-- from Hrfa
/- Range over a function whose loop variable is a cell: the assignment makes memory too. After wpIn_range_pr. -/
namespace Go.Proofs.Ytlipbiihemhieaa.Q
open Go.RowKit Go.Shelf Go.Proofs.YtlipbiihemhieaaW.PrintWords Go.Proofs.YtlipbiihemhieaaW.PrintLast Go.Proofs.YtlipbiihemhieaaW.PrintMore
set_option linter.unusedVariables false
set_option linter.unusedSimpArgs false
section
variable {F : Fence} {n : Nat} {P : Program}
theorem wpIn_range_as {α : Type} {g : Operand} {ps : Array Tmp} {assign body : Code} {Q : Exit → Act → World → Prop} {a : Act} {w : World}
    (hro : F.round = none) (h1 : 1 ≤ n) {gf : Nat} {lb : Array Value} (hg : a.eval g = .func (.func gf) #[] lb) (hFg : F.fn gf) (eg : ∀ args w, (callFunc gf args).run P w = .ok (.enter gf args) w)
    {encs : α → Array Value} {Kp : World → World → Prop} {Pr : α → World → Prop} {S Sp : List α → Prop} {w0 : World} (hseq : SeqPr F (n - 1) P gf lb encs Kp Pr S Sp w0)
    (hKt : ∀ {A B C : World}, Kp A B → Kp B C → Kp A C) (hKb : ∀ (W : World) (l : Nat) (o o' : Obj), w.heap.size ≤ l → W.heap[l]? = some o → o.isCells = false → o.isWalk = false → Kp W (W.putObj l o')) (hb0 : Below w0.heap.size w0 w) (hps : ∀ x, (encs x).size = ps.size)
    (I : List α → World → Prop) (Ix : Code → List α → World → Prop) (hI : OwnFrom w.heap.size I) (hIx : ∀ c, OwnFrom w.heap.size (Ix c)) (h0 : I [] w) (I1 : List α → α → Act → World → Prop) (hI1 : ∀ pre x a1, OwnFrom w.heap.size (fun (_ : Unit) W => I1 pre x a1 W))
    (hassign : ∀ (l : Nat) (pre : List α) (x : α) (W : World) (K : Act → World → Prop), I pre W → Pr x W → (∀ a1 W1, KeepsFrom w.heap.size W W1 → Kp W W1 → I1 pre x a1 W1 → K a1 W1) →
      assign.wpIn (F.inRound l) (n - 1 - 1) P (Exit.then K (fun _ _ _ => False)) { tmps := (ps.zip (encs x)).foldl (fun t (p, v) => t.setIfInBounds p v) a.tmps, defers := [] } W)
    (hbody : ∀ (l : Nat) (pre : List α) (x : α) (a1 : Act) (W : World), I1 pre x a1 W → Sp (pre ++ [x]) → body.wpIn (F.inRound l) (n - 1 - 1) P (ownPostG w.heap.size Kp I Ix (pre ++ [x]) W) a1 W)
    (hdone : ∀ (D : Nat) (xs : List α) (W : World), w.heap.size ≤ D → S xs → I xs W → W.heap[D]? = some (.deferred (some [])) → Q .normal { a with defers := { target := .collected D, args := #[] } :: a.defers } W)
    (hstop : ∀ (D : Nat) (c : Code) (pre : List α) (W : World), w.heap.size ≤ D → Sp pre → Ix c pre W → W.heap[D]? = some (.deferred (some [])) → c.wpIn F n P Q { a with defers := { target := .collected D, args := #[] } :: a.defers } W) :
    (Code.rangeFunc g ps assign body).wpIn F n P Q a w := by
  refine wpIn_rangeFunc ?_
  intro fn hfn
  rw [hro]
  -- the two blocks that the loop lays: the deferred calls' and its own record
  let L : Nat := w.heap.size + 1
  obtain ⟨rec, hrec⟩ : ∃ rec : LoopState → Option Code → Loop, rec = fun st pe => { state := st, pending := pe, fn, tmps := a.tmps, params := ps, assign, body, defers := w.heap.size } := ⟨_, rfl⟩
  obtain ⟨W1, hW1⟩ : ∃ W1, (w.alloc (.deferred (some []))).alloc (.loop (rec .ready none)) = W1 := ⟨_, rfl⟩
  have hL1 : W1.heap[L]? = some (.loop (rec .ready none)) := by
    have := World.alloc_heap_new (w.alloc (.deferred (some []))) (.loop (rec .ready none))
    rw [World.size_alloc] at this
    rw [← hW1]; exact this
  have hD1 : W1.heap[w.heap.size]? = some (.deferred (some [])) := by
    rw [← hW1]; exact (Below.heap_alloc _ _ _ (by simp)).trans (World.alloc_heap_new w _)
  have hb1 : Below w0.heap.size w0 W1 := by
    rw [← hW1]; exact hb0.trans ((((Below.refl _ w).alloc (Nat.le_refl _) _).alloc (by simp) _).mono hb0.size)
  have hsz1 : W1.heap.size = w.heap.size + 2 := by rw [← hW1]; simp
  have walk_row : ∀ {A : World} {row : Option Nat}, (∀ r, row = some r → W1.heap.size ≤ r ∧ ∃ o : Obj, A.heap[r]? = some o ∧ o.isWalk = true) → (∀ r, row = some r → w.heap.size ≤ r ∧ ∃ o : Obj, A.heap[r]? = some o ∧ o.isCells = false) :=
    fun hr r e => by obtain ⟨hB, o, ho, hw⟩ := hr r e; exact ⟨by omega, o, ho, Obj.not_cells_of_walk hw⟩
  have stay : ∀ {A B : World} {row : Option Nat} {k : Nat} {o : Obj}, A.grownBy B row → (∀ r, row = some r → W1.heap.size ≤ r ∧ ∃ o : Obj, A.heap[r]? = some o ∧ o.isWalk = true) → A.heap[k]? = some o → o.isWalk = false → B.heap[k]? = some o :=
    fun hg' hr hk hw => (grownBy_keeps hg' (fun r e => (hr r e).2) hk hw).trans hk
  refine ⟨L, [{ target := .collected w.heap.size, args := #[] }], W1, { target := .fn (.func gf) lb, args := #[.func (.yield L) #[] #[]] }, W1, gf, #[.func (.yield L) #[] #[]] ++ lb, W1, ?_, ?_, ?_, ?_, fun _ => h1, ?_⟩
  · rw [← hW1, hrec]; exact run_enterLoop_outer _ _ _ _ _
  · simp only [resolve, hg]
    simp [go_sem]
  · intro f' hf'; simp [Target.leads] at hf'; subst hf'; exact hFg
  · simp [invoke, go_sem, eg]
  · have call := hseq L (fun pre W => I pre W ∧ W.heap[L]? = some (.loop (rec .ready none)) ∧ W.heap[w.heap.size]? = some (.deferred (some [])))
      (fun pre W => ∃ c, Ix c pre W ∧ W.heap[L]? = some (.loop (rec .done (some c))) ∧ W.heap[w.heap.size]? = some (.deferred (some []))) W1 hb1
      (fun s A B row hs hg' hr => ⟨hI s A B row hs.1 hg' (walk_row hr), stay hg' hr hs.2.1 rfl, stay hg' hr hs.2.2 rfl⟩)
      (fun s A B row ⟨c, hc, hl, hk⟩ hg' hr => ⟨c, hIx c s A B row hc hg' (walk_row hr), stay hg' hr hl rfl, stay hg' hr hk rfl⟩)
      ?round ⟨by rw [← hW1]; exact hI.alloc _ (hI.alloc _ h0), hL1, hD1⟩
    case round =>
      rintro pre x W ⟨hi, hl, hk⟩ hpr hlen
      have hlt : L < W.heap.size := (Array.getElem?_eq_some_iff.1 hl).1
      have hLD : w.heap.size ≠ L := by show w.heap.size ≠ w.heap.size + 1; omega
      have hLw : w.heap.size ≤ L := by show w.heap.size ≤ w.heap.size + 1; omega
      have hy := run_yield (P := P) (args := encs x) hl (by rw [hrec]; exact hps x)
      rw [hrec] at hy
      refine ⟨fn, _, assign, body, hy, roundIn_of_wpIn hfn (hassign _ pre x W _ hi hpr (fun a1 WA hkA hkpA hi1 => ⟨_, run_beginRound (hkA.same _ _ hLw hl rfl) (by rw [hrec]), ?_⟩))⟩
      have hl := hkA.same _ _ hLw hl rfl
      have hk := hkA.same _ _ (Nat.le_refl _) hk rfl
      have hlt : L < WA.heap.size := (Array.getElem?_eq_some_iff.1 hl).1
      obtain ⟨WB, hWB⟩ : ∃ WB, WA.putObj L (.loop { rec .ready none with state := .busy }) = WB := ⟨_, rfl⟩
      have hl2 : WB.heap[L]? = some (.loop { rec .ready none with state := .busy }) := by rw [← hWB]; exact World.putObj_heap_same hlt
      have hk2 : WB.heap[w.heap.size]? = some (.deferred (some [])) := by rw [← hWB]; exact (World.putObj_heap_other hLD).trans hk
      have hw2 : Kp W WB := by rw [← hWB]; exact hKt hkpA (hKb _ _ _ _ hLw hl rfl rfl)
      have hi2 : I1 pre x a1 WB := by rw [← hWB]; exact (hI1 pre x a1).putObj (s := ()) _ hi1 hLw hl rfl
      rw [hWB]
      refine wpIn_mono (hbody _ pre x a1 WB hi2 hlen) ?_
      have fin : ∀ (jump : Option Code) (W3 : World), KeepsFrom w.heap.size WB W3 →
          (Instr.endRound L jump).run P W3 = .ok (.bool jump.isNone) (W3.putObj L (.loop (rec (if jump.isNone then .ready else .done) jump))) ∧
          W3.heap[L]? = some (.loop { rec .ready none with state := .busy }) ∧
          (W3.putObj L (.loop (rec (if jump.isNone then .ready else .done) jump))).heap[L]? = some (.loop (rec (if jump.isNone then .ready else .done) jump)) ∧
          (W3.putObj L (.loop (rec (if jump.isNone then .ready else .done) jump))).heap[w.heap.size]? = some (.deferred (some [])) := fun jump W3 hk3 => by
        have hl3 := hk3.same _ _ hLw hl2 rfl
        have hd3 := hk3.same _ _ (Nat.le_refl _) hk2 rfl
        have hend := run_endRound (P := P) jump hl3
        refine ⟨?_, hl3, World.putObj_heap_same (Array.getElem?_eq_some_iff.1 hl3).1, (World.putObj_heap_other hLD).trans hd3⟩
        rw [hrec] at hend ⊢
        exact hend
      have out : ∀ (c : Code) (W3 : World), KeepsFrom w.heap.size WB W3 → Ix c (pre ++ [x]) W3 → ∃ v W', (Instr.endRound L (some c)).run P W3 = .ok v W' ∧ v = .bool false ∧ ∃ c', Ix c' (pre ++ [x]) W' ∧ W'.heap[L]? = some (.loop (rec .done (some c'))) ∧ W'.heap[w.heap.size]? = some (.deferred (some [])) := fun c W3 hk3 hi3 => by
        obtain ⟨hr, hl3, hl4, hk4⟩ := fin (some c) W3 hk3
        exact ⟨_, _, hr, rfl, c, (hIx _).putObj _ hi3 hLw hl3 rfl, hl4, hk4⟩
      rintro e a3 W3 hp
      cases e with
      | normal =>
        obtain ⟨hk3, hkp3, hi3⟩ := hp
        obtain ⟨hr, hl3, hl4, hk4⟩ := fin none W3 hk3
        exact ⟨_, _, hr, .inl ⟨rfl, ⟨hI.putObj _ hi3 hLw hl3 rfl, hl4, hk4⟩, hKt (hKt hw2 hkp3) (hKb _ _ _ _ hLw hl3 rfl rfl)⟩⟩
      | ret =>
        obtain ⟨v, W', hr, rfl, h⟩ := out .ret W3 hp.1 hp.2
        exact ⟨_, _, hr, .inr ⟨rfl, h⟩⟩
      | exit id =>
        obtain ⟨v, W', hr, rfl, h⟩ := out (.exit id) W3 hp.1 hp.2
        exact ⟨_, _, hr, .inr ⟨rfl, h⟩⟩
      | goto t =>
        obtain ⟨v, W', hr, rfl, h⟩ := out (.goto t) W3 hp.1 hp.2
        exact ⟨_, _, hr, .inr ⟨rfl, h⟩⟩
      | panic ch => exact hp.elim
      | outgrown => exact hp.elim
    refine call.mono ?_
    have hLD : w.heap.size ≠ L := by show w.heap.size ≠ w.heap.size + 1; omega
    have hLw : w.heap.size ≤ L := by show w.heap.size ≤ w.heap.size + 1; omega
    rintro e W2 ⟨⟨v, rfl⟩, (⟨xs, hS, hi, hl, hk⟩ | ⟨pre, hSp, c, hi, hl, hk⟩)⟩
    · exact ⟨none, _, by have := run_endLoop (P := P) hl (by rw [hrec]; simp); rw [hrec] at this; exact this, hdone _ xs _ (Nat.le_refl _) hS (hI.putObj _ hi hLw hl rfl) ((World.putObj_heap_other hLD).trans hk)⟩
    · exact ⟨some c, _, by have := run_endLoop (P := P) hl (by rw [hrec]; simp); rw [hrec] at this; exact this, hstop _ c pre _ (Nat.le_refl _) hSp ((hIx c).putObj _ hi hLw hl rfl) ((World.putObj_heap_other hLD).trans hk)⟩
end

end Go.Proofs.Ytlipbiihemhieaa.Q

-- from Hrfw
/- The same, where the iterator is told of the rounds' other objects too (an iterator that ranges over another one wants that). After wpIn_range_as. -/
namespace Go.Proofs.Ytlipbiihemhieaa.Q
open Go.RowKit Go.Shelf Go.Proofs.YtlipbiihemhieaaW.PrintWords Go.Proofs.YtlipbiihemhieaaW.PrintLast Go.Proofs.YtlipbiihemhieaaW.PrintMore
set_option linter.unusedVariables false
set_option linter.unusedSimpArgs false

/-- As SeqPr; a round leaves the objects that were laid since the call of the iterator began as they are (but for cells). -/
def SeqPw {α : Type} (F : Fence) (n : Nat) (P : Program) (g : Nat) (lb : Array Value) (encs : α → Array Value) (Kp : World → World → Prop) (Pr : α → World → Prop) (S Sp : List α → Prop) (w : World) : Prop :=
  ∀ (l : Nat) (J Jx : List α → World → Prop) (W : World), Below w.heap.size w W → OwnFrom W.heap.size J → OwnFrom W.heap.size Jx →
    (∀ pre x W1, J pre W1 → Pr x W1 → Sp (pre ++ [x]) → YieldAt F (n - 1) P l (encs x) W1 fun e W' =>
      ((e = .returned (.bool true) ∧ J (pre ++ [x]) W' ∧ Kp W1 W') ∨ (e = .returned (.bool false) ∧ Jx (pre ++ [x]) W')) ∧ KeepsFrom W.heap.size W1 W') →
    J [] W →
    CallsIn F n P g (#[.func (.yield l) #[] #[]] ++ lb) W fun e W' => (∃ v, e = .returned v) ∧ ((∃ xs, S xs ∧ J xs W') ∨ (∃ pre, Sp pre ∧ Jx pre W'))
theorem ownFrom_abides {β : Type} {B : Nat} {J : β → World → Prop} (h : OwnFrom B J) : AbidesFrom B J := fun s W W' row hs hg hr => h s W W' row hs hg (fun r e => by obtain ⟨hB, o, ho, hw⟩ := hr r e; exact ⟨hB, o, ho, Obj.not_cells_of_walk hw⟩)
theorem SeqPr.toPw {α : Type} {F : Fence} {n : Nat} {P : Program} {g : Nat} {lb : Array Value} {encs : α → Array Value} {Kp : World → World → Prop} {Pr : α → World → Prop} {S Sp : List α → Prop} {w : World} (h : SeqPr F n P g lb encs Kp Pr S Sp w) : SeqPw F n P g lb encs Kp Pr S Sp w :=
  fun l J Jx W hW hJ hJx hY h0 => h l J Jx W hW (ownFrom_abides hJ) (ownFrom_abides hJx) (fun pre x W1 a b c => (hY pre x W1 a b c).mono (fun e w' hr => hr.1)) h0
theorem KeepsFrom.up {B B' : Nat} {W W' : World} (h : KeepsFrom B W W') (hB : B ≤ B') : KeepsFrom B' W W' := ⟨h.size, fun k o hk => h.same k o (Nat.le_trans hB hk)⟩
theorem KeepsFrom.putObj {B : Nat} (W : World) {l : Nat} (o : Obj) (hl : l < B) : KeepsFrom B W (W.putObj l o) := ⟨(grownBy_putObj' W l o).size, fun k ob hk ho _ => (World.putObj_heap_other (by omega)).trans ho⟩
section
variable {F : Fence} {n : Nat} {P : Program}
theorem wpIn_range_w {α : Type} {g : Operand} {ps : Array Tmp} {assign body : Code} {Q : Exit → Act → World → Prop} {a : Act} {w : World}
    (hro : F.round = none) (h1 : 1 ≤ n) {gf : Nat} {lb : Array Value} (hg : a.eval g = .func (.func gf) #[] lb) (hFg : F.fn gf) (eg : ∀ args w, (callFunc gf args).run P w = .ok (.enter gf args) w)
    {encs : α → Array Value} {Kp : World → World → Prop} {Pr : α → World → Prop} {S Sp : List α → Prop} {w0 : World} (hseq : SeqPw F (n - 1) P gf lb encs Kp Pr S Sp w0)
    (hKt : ∀ {A B C : World}, Kp A B → Kp B C → Kp A C) (hKb : ∀ (W : World) (l : Nat) (o o' : Obj), w.heap.size ≤ l → W.heap[l]? = some o → o.isCells = false → o.isWalk = false → Kp W (W.putObj l o')) (hb0 : Below w0.heap.size w0 w) (hps : ∀ x, (encs x).size = ps.size)
    (I : List α → World → Prop) (Ix : Code → List α → World → Prop) (hI : OwnFrom w.heap.size I) (hIx : ∀ c, OwnFrom w.heap.size (Ix c)) (h0 : I [] w) (I1 : List α → α → Act → World → Prop) (hI1 : ∀ pre x a1, OwnFrom w.heap.size (fun (_ : Unit) W => I1 pre x a1 W))
    (hassign : ∀ (l : Nat) (pre : List α) (x : α) (W : World) (K : Act → World → Prop), I pre W → Pr x W → (∀ a1 W1, KeepsFrom w.heap.size W W1 → Kp W W1 → I1 pre x a1 W1 → K a1 W1) →
      assign.wpIn (F.inRound l) (n - 1 - 1) P (Exit.then K (fun _ _ _ => False)) { tmps := (ps.zip (encs x)).foldl (fun t (p, v) => t.setIfInBounds p v) a.tmps, defers := [] } W)
    (hbody : ∀ (l : Nat) (pre : List α) (x : α) (a1 : Act) (W : World), I1 pre x a1 W → Sp (pre ++ [x]) → body.wpIn (F.inRound l) (n - 1 - 1) P (ownPostG w.heap.size Kp I Ix (pre ++ [x]) W) a1 W)
    (hdone : ∀ (D : Nat) (xs : List α) (W : World), w.heap.size ≤ D → S xs → I xs W → W.heap[D]? = some (.deferred (some [])) → Q .normal { a with defers := { target := .collected D, args := #[] } :: a.defers } W)
    (hstop : ∀ (D : Nat) (c : Code) (pre : List α) (W : World), w.heap.size ≤ D → Sp pre → Ix c pre W → W.heap[D]? = some (.deferred (some [])) → c.wpIn F n P Q { a with defers := { target := .collected D, args := #[] } :: a.defers } W) :
    (Code.rangeFunc g ps assign body).wpIn F n P Q a w := by
  refine wpIn_rangeFunc ?_
  intro fn hfn
  rw [hro]
  -- the two blocks that the loop lays: the deferred calls' and its own record
  let L : Nat := w.heap.size + 1
  obtain ⟨rec, hrec⟩ : ∃ rec : LoopState → Option Code → Loop, rec = fun st pe => { state := st, pending := pe, fn, tmps := a.tmps, params := ps, assign, body, defers := w.heap.size } := ⟨_, rfl⟩
  obtain ⟨W1, hW1⟩ : ∃ W1, (w.alloc (.deferred (some []))).alloc (.loop (rec .ready none)) = W1 := ⟨_, rfl⟩
  have hL1 : W1.heap[L]? = some (.loop (rec .ready none)) := by
    have := World.alloc_heap_new (w.alloc (.deferred (some []))) (.loop (rec .ready none))
    rw [World.size_alloc] at this
    rw [← hW1]; exact this
  have hD1 : W1.heap[w.heap.size]? = some (.deferred (some [])) := by
    rw [← hW1]; exact (Below.heap_alloc _ _ _ (by simp)).trans (World.alloc_heap_new w _)
  have hb1 : Below w0.heap.size w0 W1 := by
    rw [← hW1]; exact hb0.trans ((((Below.refl _ w).alloc (Nat.le_refl _) _).alloc (by simp) _).mono hb0.size)
  have hsz1 : W1.heap.size = w.heap.size + 2 := by rw [← hW1]; simp
  have walk_row : ∀ {A : World} {row : Option Nat}, (∀ r, row = some r → W1.heap.size ≤ r ∧ ∃ o : Obj, A.heap[r]? = some o ∧ o.isWalk = true) → (∀ r, row = some r → w.heap.size ≤ r ∧ ∃ o : Obj, A.heap[r]? = some o ∧ o.isCells = false) :=
    fun hr r e => by obtain ⟨hB, o, ho, hw⟩ := hr r e; exact ⟨by omega, o, ho, Obj.not_cells_of_walk hw⟩
  have stay : ∀ {A B : World} {row : Option Nat} {k : Nat} {o : Obj}, A.grownBy B row → (∀ r, row = some r → W1.heap.size ≤ r ∧ ∃ o : Obj, A.heap[r]? = some o ∧ o.isWalk = true) → A.heap[k]? = some o → o.isWalk = false → B.heap[k]? = some o :=
    fun hg' hr hk hw => (grownBy_keeps hg' (fun r e => (hr r e).2) hk hw).trans hk
  have stay2 : ∀ {A B : World} {row : Option Nat} {k : Nat} {o : Obj}, A.grownBy B row → (∀ r, row = some r → W1.heap.size ≤ r ∧ ∃ o : Obj, A.heap[r]? = some o ∧ o.isCells = false) → A.heap[k]? = some o → k < W1.heap.size → B.heap[k]? = some o :=
    fun hg' hr hk hlt => (hg'.block _ (Array.getElem?_eq_some_iff.1 hk).1 (fun e => by have := (hr _ e.symm).1; omega)).trans hk
  refine ⟨L, [{ target := .collected w.heap.size, args := #[] }], W1, { target := .fn (.func gf) lb, args := #[.func (.yield L) #[] #[]] }, W1, gf, #[.func (.yield L) #[] #[]] ++ lb, W1, ?_, ?_, ?_, ?_, fun _ => h1, ?_⟩
  · rw [← hW1, hrec]; exact run_enterLoop_outer _ _ _ _ _
  · simp only [resolve, hg]
    simp [go_sem]
  · intro f' hf'; simp [Target.leads] at hf'; subst hf'; exact hFg
  · simp [invoke, go_sem, eg]
  · have call := hseq L (fun pre W => I pre W ∧ W.heap[L]? = some (.loop (rec .ready none)) ∧ W.heap[w.heap.size]? = some (.deferred (some [])))
      (fun pre W => ∃ c, Ix c pre W ∧ W.heap[L]? = some (.loop (rec .done (some c))) ∧ W.heap[w.heap.size]? = some (.deferred (some []))) W1 hb1
      (fun s A B row hs hg' hr => ⟨hI s A B row hs.1 hg' (fun r e => ⟨by have := (hr r e).1; omega, (hr r e).2⟩), stay2 hg' hr hs.2.1 (by show w.heap.size + 1 < _; omega), stay2 hg' hr hs.2.2 (by omega)⟩)
      (fun s A B row ⟨c, hc, hl, hk⟩ hg' hr => ⟨c, hIx c s A B row hc hg' (fun r e => ⟨by have := (hr r e).1; omega, (hr r e).2⟩), stay2 hg' hr hl (by show w.heap.size + 1 < _; omega), stay2 hg' hr hk (by omega)⟩)
      ?round ⟨by rw [← hW1]; exact hI.alloc _ (hI.alloc _ h0), hL1, hD1⟩
    case round =>
      rintro pre x W ⟨hi, hl, hk⟩ hpr hlen
      have hlt : L < W.heap.size := (Array.getElem?_eq_some_iff.1 hl).1
      have hLD : w.heap.size ≠ L := by show w.heap.size ≠ w.heap.size + 1; omega
      have hLw : w.heap.size ≤ L := by show w.heap.size ≤ w.heap.size + 1; omega
      have hy := run_yield (P := P) (args := encs x) hl (by rw [hrec]; exact hps x)
      rw [hrec] at hy
      refine ⟨fn, _, assign, body, hy, roundIn_of_wpIn hfn (hassign _ pre x W _ hi hpr (fun a1 WA hkA hkpA hi1 => ⟨_, run_beginRound (hkA.same _ _ hLw hl rfl) (by rw [hrec]), ?_⟩))⟩
      have hl := hkA.same _ _ hLw hl rfl
      have hk := hkA.same _ _ (Nat.le_refl _) hk rfl
      have hlt : L < WA.heap.size := (Array.getElem?_eq_some_iff.1 hl).1
      obtain ⟨WB, hWB⟩ : ∃ WB, WA.putObj L (.loop { rec .ready none with state := .busy }) = WB := ⟨_, rfl⟩
      have hl2 : WB.heap[L]? = some (.loop { rec .ready none with state := .busy }) := by rw [← hWB]; exact World.putObj_heap_same hlt
      have hk2 : WB.heap[w.heap.size]? = some (.deferred (some [])) := by rw [← hWB]; exact (World.putObj_heap_other hLD).trans hk
      have hw2 : Kp W WB := by rw [← hWB]; exact hKt hkpA (hKb _ _ _ _ hLw hl rfl rfl)
      have hi2 : I1 pre x a1 WB := by rw [← hWB]; exact (hI1 pre x a1).putObj (s := ()) _ hi1 hLw hl rfl
      rw [hWB]
      refine wpIn_mono (hbody _ pre x a1 WB hi2 hlen) ?_
      have fin : ∀ (jump : Option Code) (W3 : World), KeepsFrom w.heap.size WB W3 →
          (Instr.endRound L jump).run P W3 = .ok (.bool jump.isNone) (W3.putObj L (.loop (rec (if jump.isNone then .ready else .done) jump))) ∧
          W3.heap[L]? = some (.loop { rec .ready none with state := .busy }) ∧
          (W3.putObj L (.loop (rec (if jump.isNone then .ready else .done) jump))).heap[L]? = some (.loop (rec (if jump.isNone then .ready else .done) jump)) ∧
          (W3.putObj L (.loop (rec (if jump.isNone then .ready else .done) jump))).heap[w.heap.size]? = some (.deferred (some [])) := fun jump W3 hk3 => by
        have hl3 := hk3.same _ _ hLw hl2 rfl
        have hd3 := hk3.same _ _ (Nat.le_refl _) hk2 rfl
        have hend := run_endRound (P := P) jump hl3
        refine ⟨?_, hl3, World.putObj_heap_same (Array.getElem?_eq_some_iff.1 hl3).1, (World.putObj_heap_other hLD).trans hd3⟩
        rw [hrec] at hend ⊢
        exact hend
      have keeps : ∀ (W3 : World) (o3 : Obj), KeepsFrom w.heap.size WB W3 → KeepsFrom W1.heap.size W (W3.putObj L o3) := fun W3 o3 hk3 => by
        refine ((KeepsFrom.up hkA (by omega)).trans ?_).trans ((KeepsFrom.up hk3 (by omega)).trans (KeepsFrom.putObj _ _ (by show w.heap.size + 1 < _; omega)))
        rw [← hWB]
        exact KeepsFrom.putObj _ _ (by show w.heap.size + 1 < _; omega)
      have out : ∀ (c : Code) (W3 : World), KeepsFrom w.heap.size WB W3 → Ix c (pre ++ [x]) W3 → ∃ v W', (Instr.endRound L (some c)).run P W3 = .ok v W' ∧ v = .bool false ∧ (∃ c', Ix c' (pre ++ [x]) W' ∧ W'.heap[L]? = some (.loop (rec .done (some c'))) ∧ W'.heap[w.heap.size]? = some (.deferred (some []))) ∧ KeepsFrom W1.heap.size W W' := fun c W3 hk3 hi3 => by
        obtain ⟨hr, hl3, hl4, hk4⟩ := fin (some c) W3 hk3
        exact ⟨_, _, hr, rfl, ⟨c, (hIx _).putObj _ hi3 hLw hl3 rfl, hl4, hk4⟩, keeps _ _ hk3⟩
      rintro e a3 W3 hp
      cases e with
      | normal =>
        obtain ⟨hk3, hkp3, hi3⟩ := hp
        obtain ⟨hr, hl3, hl4, hk4⟩ := fin none W3 hk3
        exact ⟨_, _, hr, .inl ⟨rfl, ⟨hI.putObj _ hi3 hLw hl3 rfl, hl4, hk4⟩, hKt (hKt hw2 hkp3) (hKb _ _ _ _ hLw hl3 rfl rfl)⟩, keeps _ _ hk3⟩
      | ret =>
        obtain ⟨v, W', hr, rfl, h, hkf⟩ := out .ret W3 hp.1 hp.2
        exact ⟨_, _, hr, .inr ⟨rfl, h⟩, hkf⟩
      | exit id =>
        obtain ⟨v, W', hr, rfl, h, hkf⟩ := out (.exit id) W3 hp.1 hp.2
        exact ⟨_, _, hr, .inr ⟨rfl, h⟩, hkf⟩
      | goto t =>
        obtain ⟨v, W', hr, rfl, h, hkf⟩ := out (.goto t) W3 hp.1 hp.2
        exact ⟨_, _, hr, .inr ⟨rfl, h⟩, hkf⟩
      | panic ch => exact hp.elim
      | outgrown => exact hp.elim
    refine call.mono ?_
    have hLD : w.heap.size ≠ L := by show w.heap.size ≠ w.heap.size + 1; omega
    have hLw : w.heap.size ≤ L := by show w.heap.size ≤ w.heap.size + 1; omega
    rintro e W2 ⟨⟨v, rfl⟩, (⟨xs, hS, hi, hl, hk⟩ | ⟨pre, hSp, c, hi, hl, hk⟩)⟩
    · exact ⟨none, _, by have := run_endLoop (P := P) hl (by rw [hrec]; simp); rw [hrec] at this; exact this, hdone _ xs _ (Nat.le_refl _) hS (hI.putObj _ hi hLw hl rfl) ((World.putObj_heap_other hLD).trans hk)⟩
    · exact ⟨some c, _, by have := run_endLoop (P := P) hl (by rw [hrec]; simp); rw [hrec] at this; exact this, hstop _ c pre _ (Nat.le_refl _) hSp ((hIx c).putObj _ hi hLw hl rfl) ((World.putObj_heap_other hLD).trans hk)⟩
end
/-- A round of the widest fence is one of every round's. -/
theorem roundIn_any {m m' : Nat} {P : Program} {l l' : Nat} {f : FuncId} {tmps : Array Value} {assign body : Code} {w : World} {R : Ending → World → Prop} (h : RoundIn Fence.wide m P l f tmps assign body w R) : RoundIn (Fence.wide.inRound l') m' P l f tmps assign body w R :=
  ⟨h.1, fun c cs _ => h.2 c cs (fun d hd => by cases hd)⟩
end Go.Proofs.Ytlipbiihemhieaa.Q

-- from Hawk19
/- The document's example of layer 19. -/
namespace Go.Proofs.Ytlipbiihemhieaa.Q
open Go.RowKit Go.Shelf Go.Proofs.YtlipbiihemhieaaW.PrintWords Go.Proofs.YtlipbiihemhieaaW.PrintLast Go.Proofs.YtlipbiihemhieaaW.PrintMore
set_option linter.unusedVariables false
set_option linter.unusedSimpArgs false
attribute [local go_sem] Oper.semAt_some

theorem skip12 : order_Skip.f 40 [1, 2] [1] 2 = some ([2], true) := by decide +kernel
theorem pts12 : order_All.pts 40 [1, 2] 2 = some [[1], [1, 1], [1, 2], [2], [2, 1], [2, 2]] := by decide +kernel
theorem clone12 : slices_Clone_int_int.f [1, 2] = some [1, 2] := by decide +kernel
theorem intLit.cells {W : World} {e : Nat} {xs : List Int} {C : Array Value} {p : Nat × Nat} {g : Nat} (hC : C = (xs.map (Value.int .i64)).toArray) (hl : xs.length ≤ 9223372036854775807) (h : W.heap[g]? = some (.cells C e p)) :
    Kd.C (Kd.int .i64) W (some ⟨g, 0, none⟩) xs.length xs := by
  refine Kd.C_of_reads (d := (0 : Int)) (h1 := fun _ => rfl) ⟨rfl, hl, fun _ => ⟨_, rfl, fun j hj => ?_⟩⟩
  rw [add_plain, cell_of_row W g j C e p h, hC]
  simp [List.getD_eq_getElem?_getD, List.getElem?_eq_getElem hj]
theorem first_cell {W : World} {base : Nat} {ok : Nat → Prop} {v : Value} {x : Int} (h : Kd.R (Kd.int .i64) 3 W base ok v [x]) : ∃ ad c, v = .slice (some ad) 1 c ∧ W.cell? ad = some (.int .i64 x) := by
  obtain ⟨A, c, rfl⟩ := Kd.R_slice h
  obtain ⟨ad, e1, hel⟩ := Kd.at_int (Kd.R_reads' h).2.2 0 (by simp) (by simp)
  cases e1
  refine ⟨ad, c, rfl, ?_⟩
  rw [Int.toNat_zero] at hel
  obtain ⟨b, o, p⟩ := ad
  have e : (Addr.mk b o p).add 0 = Addr.mk b o p := by unfold Addr.add; split <;> simp_all
  rw [e] at hel
  exact hel
/-- What the body adds up. -/
def awake19_step (n : Int) (s : List Int) : Int := wrap64 (wrap64 (n * 7) + wrap64 ((s.length : Int) * rd s ((s.length : Int) - 1)))
def awake19_sum (l : List (List Int)) : Int := l.foldl awake19_step 0
theorem awake19_sum_snoc (l : List (List Int)) (s : List Int) : awake19_sum (l ++ [s]) = awake19_step (awake19_sum l) s := by simp [awake19_sum]
theorem row_own {B : Nat} {T : Nat → Prop} {v : Value} {s : List Int} : OwnFrom B (fun (_ : Unit) W => Kd.R (Kd.int .i64) 3 W 0 (fun k => ¬ T k) v s) := fun _ W W' row hs hg hr =>
  Kd.R_mono (Kd.R_grown (Kd.R_bound hs) hg (fun k hk e => by
    obtain ⟨_, o, ho, hc⟩ := hr k e.symm
    obtain ⟨_, _, _, q, _, cells, hcell⟩ := hk
    rw [hcell] at ho
    cases ho
    cases hc)) (fun k hk => hk.1)

set_option maxHeartbeats 2000000 in
set_option maxRecDepth 100000 in
theorem paronymlaw19_awake.calls0 (w : World) : Calls Try.prog 14 #[] w fun e w' => e = .returned (.bool true) ∧ Below w.heap.size w w' := by
  refine (callsIn_wide (n := 10)).1 ?_
  refine callsIn_of_wp_marks Try.func14 rfl trivial ?_ rfl
  simp only [Try.ntmps14, List.size_toArray, List.length_cons, List.length_nil, Nat.reduceAdd, Nat.reduceSub, Array.replicate_succ, Array.replicate_zero, List.push_toArray, List.append_toArray, List.nil_append, List.cons_append]
  have hb0 : Below w.heap.size w ((w.alloc (Obj.cells #[Value.int IntKind.i64 1, Value.int IntKind.i64 2] 3)).alloc (Obj.cells #[Value.int IntKind.i64 1] 3)) := ((Below.refl _ w).alloc (Nat.le_refl _) _).alloc (by simp) _
  have hC1 : Kd.C (Kd.int .i64) ((w.alloc (Obj.cells #[Value.int IntKind.i64 1, Value.int IntKind.i64 2] 3)).alloc (Obj.cells #[Value.int IntKind.i64 1] 3)) (some ⟨w.heap.size, 0, none⟩) ([1, 2] : List Int).length [1, 2] :=
    intLit.cells (e := 3) (p := (0, 0)) rfl (by decide) ((Below.heap_alloc _ _ _ (by simp)).trans (World.alloc_heap_new w _))
  have hC2 : Kd.C (Kd.int .i64) ((w.alloc (Obj.cells #[Value.int IntKind.i64 1, Value.int IntKind.i64 2] 3)).alloc (Obj.cells #[Value.int IntKind.i64 1] 3)) (some ⟨w.heap.size + 1, 0, none⟩) ([1] : List Int).length [1] :=
    intLit.cells (e := 3) (p := (0, 0)) rfl (by decide) (by have := World.alloc_heap_new (w.alloc (Obj.cells #[Value.int IntKind.i64 1, Value.int IntKind.i64 2] 3)) (Obj.cells #[Value.int IntKind.i64 1] 3); rwa [World.size_alloc] at this)
  gi_wp2_with (first
    | (refine ⟨trivial, ?_⟩
       gi_at_call 18
       refine (callsIn_wide.2 (order_Skip.calls 40 _ 2 [1, 2] _ 1 [1] 2 [2] true _ hC1 (by decide) hC2 (by decide) skip12)).mono ?_
       rintro e w2 ⟨v, rfl, hv, hb⟩
       obtain ⟨ad, c2, rfl, hel⟩ := first_cell hv
       have HB2 := Aside0.mk (below_step hb0 hb)
       have hb3 : Below w2.heap.size w2 ((w2.alloc (Obj.cells #[Value.int IntKind.i64 0] 3)).alloc (Obj.cells #[Value.int IntKind.i64 1, Value.int IntKind.i64 2] 3)) := ((Below.refl _ w2).alloc (Nat.le_refl _) _).alloc (by simp) _
       have hC3 : Kd.C (Kd.int .i64) ((w2.alloc (Obj.cells #[Value.int IntKind.i64 0] 3)).alloc (Obj.cells #[Value.int IntKind.i64 1, Value.int IntKind.i64 2] 3)) (some ⟨w2.heap.size + 1, 0, none⟩) ([1, 2] : List Int).length [1, 2] :=
         intLit.cells (e := 3) (p := (0, 0)) rfl (by decide) (by have := World.alloc_heap_new (w2.alloc (Obj.cells #[Value.int IntKind.i64 0] 3)) (Obj.cells #[Value.int IntKind.i64 1, Value.int IntKind.i64 2] 3); rwa [World.size_alloc] at this)
       have HN3 : Aside0 (Boxed ((w2.alloc (Obj.cells #[Value.int IntKind.i64 0] 3)).alloc (Obj.cells #[Value.int IntKind.i64 1, Value.int IntKind.i64 2] 3)) w2.heap.size 3 (.int .i64 0)) := ⟨(Boxed.new w2 _ _).alloc _⟩
       have hs3 : ((w2.alloc (Obj.cells #[Value.int IntKind.i64 0] 3)).alloc (Obj.cells #[Value.int IntKind.i64 1, Value.int IntKind.i64 2] 3)).heap.size = w2.heap.size + 2 := by simp
       clear hv hb hC1 hC2 hb0)
    | (refine ⟨trivial, ?_⟩
       gi_at_call 21
       refine (callsIn_wide.2 (order_All.calls _ 2 [1, 2] 2 [1, 2] _ hC3 (by decide) clone12)).mono ?_
       rintro e w4 ⟨v, rfl, hbx, hbn, hv, hb, hsz⟩
       rw [hs3] at hbx hbn hv hb hsz
       rw [hs3]
       obtain ⟨A4, c4, rfl⟩ := Kd.R_slice hv.out
       have HBX := hbx
       have HBN := hbn
       have HV := hv
       have HSZ := hsz
       have HB4 : Aside0 (Below w2.heap.size w2 w4) := ⟨hb3.trans (hb.out.mono (by omega))⟩
       have HN4 : Aside0 (Boxed w4 w2.heap.size 3 (.int .i64 0)) := ⟨(hb.out.block _ (by omega)).trans HN3.out⟩
       clear hbx hbn hv hb hsz HN3 hC3 hs3 hb3))
  have hsz4 := HSZ.out
  have hN0 := HN4.out
  refine wpIn_range_pr rfl (by omega) (gf := 60) (lb := #[Value.pointer (some { block := w2.heap.size + 2, off := 0 }), Value.pointer (some { block := w2.heap.size + 2 + 1, off := 0 })]) rfl trivial (enters_of Try.func60 (by kernel_rfl) rfl)
    (order_All.stops 40 [1, 2] 2 _ pts12 (w2.heap.size + 2) A4 c4 (fun k => k = w2.heap.size) w4 (fun k hk => by omega) ⟨by omega, by omega⟩ HBX.out HBN.out (Kd.R_lower (Kd.R_mono (Kd.R_bound HV.out) (fun j hj e => by have := hj.2.1; omega)) (Nat.zero_le _)) _ (by omega)) KeepC.trans keepC_put (Below.refl _ _) (fun _ => rfl) (fun x => row_own)
    (fun pre W => (Boxed W w2.heap.size 3 (.int .i64 (awake19_sum (pre.map Prod.snd))) ∧ Below w2.heap.size w2 W) ∧ w4.heap.size ≤ W.heap.size)
    (fun c xs W => False)
    (OwnFrom.and (OwnFrom.and (Own.from (boxed_own w2.heap.size 3 (fun pre : List (Value × List Int) => .int .i64 (awake19_sum (pre.map Prod.snd)))) _) (ownFrom_below (Nat.le_refl _) (by omega))) (fun s W W' row hs hg hr => Nat.le_trans hs hg.size))
    (fun c s W W' row hs hg hr => hs)
    ⟨⟨hN0, HB4.out⟩, Nat.le_refl _⟩
    (fun x => { tmps := #[Value.bool false, Value.slice (some ad) 1 c2, Value.bool true,
          Value.pointer (some { block := w2.heap.size, off := 0 }), x.1,
          Value.tuple #[Value.slice (some ad) 1 c2, Value.bool true],
          Value.slice (some { block := w.heap.size, off := 0 }) 2 2,
          Value.slice (some { block := w.heap.size + 1, off := 0 }) 1 1,
          Value.tuple #[Value.slice (some ad) 1 c2, Value.bool true], Value.slice (some ad) 1 c2, Value.bool true,
          Value.bool true, Value.bool false, Value.bool false, Value.slice (some ad) 1 c2, Value.int IntKind.i64 1,
          Value.bool false, Value.bool false, Value.bool false, Value.slice (some ad) 1 c2, Value.pointer (some ad),
          Value.int IntKind.i64 2, Value.bool false, Value.bool false,
          Value.slice (some { block := w2.heap.size + 1, off := 0 }) 2 2,
          Value.func (Fn.func 60) #[]
            #[Value.pointer (some { block := w2.heap.size + 2, off := 0 }),
              Value.pointer (some { block := w2.heap.size + 2 + 1, off := 0 })],
          x.1, undef, undef, undef, undef, undef, undef, undef, undef, undef, undef, undef, undef, undef, undef], defers := [] }) ?assign ?body ?done ?stop
  case assign =>
    intro l x W K hK
    gi_wp2
    exact hK
  case body =>
    rintro l pre ⟨v, s⟩ W ⟨⟨hN, hB⟩, hS⟩ hpr hsp
    have hmem : 1 ≤ s.length ∧ s.length ≤ 2 := by
      have h1 : s ∈ [[1], [1, 1], [1, 2], [2], [2, 1], [(2 : Int), 2]] := hsp.subset (by simp)
      have h2 : ∀ t ∈ [[1], [1, 1], [1, 2], [2], [2, 1], [(2 : Int), 2]], 1 ≤ t.length ∧ t.length ≤ 2 := by decide
      exact h2 s h1
    obtain ⟨A5, c5, e5⟩ := Kd.R_slice hpr
    simp only at e5
    subst e5
    have p0 : (0 : Int) ≤ (s.length : Int) - 1 := by omega
    have q0 : (s.length : Int) - 1 < (s.length : Int) := by omega
    obtain ⟨ad5, e1, hel5⟩ := Kd.at_int (Kd.R_reads' hpr).2.2 ((s.length : Int) - 1) p0 q0
    cases e1
    have hcN := hN.cell
    have hfN := hN.frozen
    have HN := Aside0.mk hN
    have HB := Aside0.mk hB
    have HS := Aside0.mk hS
    clear hN hB hS hpr hsp
    have hwr : IntKind.i64.wrap ((s.length : Int) - 1) = (s.length : Int) - 1 := by rw [i64_w]; unfold wrap64; omega
    have h1l : 1 ≤ (s.length : Int) := by omega
    replace p0 := eq_true p0
    replace q0 := eq_true q0
    have hNd : Boxed W.drew w2.heap.size 3 (.int .i64 (awake19_sum (List.map Prod.snd pre))) := HN.out
    have hval : IntKind.i64.wrap (IntKind.i64.wrap (awake19_sum (List.map Prod.snd pre) * 7) + IntKind.i64.wrap ((s.length : Int) * rd s ((s.length : Int) - 1))) = awake19_sum (List.map Prod.snd pre ++ [s]) := by
      rw [awake19_sum_snoc, i64_w, i64_w, i64_w]
      rfl
    have HFIN : Aside0 (∀ act : Act, ownPostG w4.heap.size (KeepC fun k => k = w2.heap.size) (fun (pre : List (Value × List Int)) W => (Boxed W w2.heap.size 3 (.int .i64 (awake19_sum (pre.map Prod.snd))) ∧ Below w2.heap.size w2 W) ∧ w4.heap.size ≤ W.heap.size) (fun c xs W => False) (pre ++ [(Value.slice (some ad5) s.length c5, s)]) W Exit.normal act
        (W.setCell ⟨w2.heap.size, 0, none⟩ (.int .i64 (awake19_sum (List.map Prod.snd pre ++ [s])))).drew) := ⟨fun act =>
      ⟨((KeepsOthers.setCell _ _ _).trans (KeepsOthers.drew _)).from _, KeepC.trans (KeepC.of_set rfl) (KeepC.of_below (below_drew (Below.refl _ _))), ⟨by rw [List.map_append]; exact Boxed.set _ HN.out, below_drew (HB.out.setCell (p := ⟨w2.heap.size, 0, none⟩) (Nat.le_refl _) _)⟩, by show w4.heap.size ≤ (World.setCell _ _ _).heap.size; simp; exact HS.out⟩⟩
    have hel5d : W.drew.cell? (ad5.add ((s.length : Int) - 1).toNat) = some (Value.int IntKind.i64 (rd s ((s.length : Int) - 1))) := hel5
    have hel5n : W.cell? (ad5.add (s.length - 1)) = some (Value.int IntKind.i64 (rd s ((s.length : Int) - 1))) := by rw [← hel5]; congr 2; omega
    have hcNd : W.drew.cell? { block := w2.heap.size, off := 0 } = some (Value.int IntKind.i64 (awake19_sum (List.map Prod.snd pre))) := hcN
    have hfNd : W.drew.frozen? { block := w2.heap.size, off := 0 } = false := hfN
    gi_wp2
    refine wpIn_region_any (by kernel_rfl) ?_
    refine wpAnyIn_round rfl (by kernel_rfl) _ _ _ _ ?_
    show wpAnyIn _ _ _ _ _ _ _ _ _ W.drew
    refine wpAnyIn_take (i := 2) (v := .slice (some ad5) s.length c5) rfl rfl (by kernel_rfl) (by kernel_rfl) (by kernel_rfl) (fun _ _ _ h => h) ⟨.inl ⟨by kernel_rfl, fun w => by go_simp⟩, fun w => by go_simp⟩ ?_
    try simp only [List.getElem_toArray, List.getElem_cons_succ, List.getElem_cons_zero, Act.put, List.setIfInBounds_toArray, List.set_cons_zero, List.set_cons_succ]
    refine wpAnyIn_take (i := 3) (v := .int .i64 (s.length : Int)) rfl rfl (by kernel_rfl) (by kernel_rfl) (by kernel_rfl) (fun _ _ _ h => h) ⟨.inl ⟨by kernel_rfl, fun w => by go_simp⟩, fun w => by go_simp⟩ ?_
    try simp only [List.getElem_toArray, List.getElem_cons_succ, List.getElem_cons_zero, Act.put, List.setIfInBounds_toArray, List.set_cons_zero, List.set_cons_succ]
    refine wpAnyIn_take (i := 4) (v := .slice (some ad5) s.length c5) rfl rfl (by kernel_rfl) (by kernel_rfl) (by kernel_rfl) (fun _ _ _ h => h) ⟨.inl ⟨by kernel_rfl, fun w => by go_simp⟩, fun w => by go_simp⟩ ?_
    try simp only [List.getElem_toArray, List.getElem_cons_succ, List.getElem_cons_zero, Act.put, List.setIfInBounds_toArray, List.set_cons_zero, List.set_cons_succ]
    refine wpAnyIn_take (i := 5) (v := .slice (some ad5) s.length c5) rfl rfl (by kernel_rfl) (by kernel_rfl) (by kernel_rfl) (fun _ _ _ h => h) ⟨.inl ⟨by kernel_rfl, fun w => by go_simp⟩, fun w => by go_simp⟩ ?_
    try simp only [List.getElem_toArray, List.getElem_cons_succ, List.getElem_cons_zero, Act.put, List.setIfInBounds_toArray, List.set_cons_zero, List.set_cons_succ]
    refine wpAnyIn_take (i := 6) (v := .int .i64 (s.length : Int)) rfl rfl (by kernel_rfl) (by kernel_rfl) (by kernel_rfl) (fun _ _ _ h => h) ⟨.inl ⟨by kernel_rfl, fun w => by go_simp⟩, fun w => by go_simp⟩ ?_
    try simp only [List.getElem_toArray, List.getElem_cons_succ, List.getElem_cons_zero, Act.put, List.setIfInBounds_toArray, List.set_cons_zero, List.set_cons_succ]
    refine wpAnyIn_take (i := 7) (v := .int .i64 ((s.length : Int) - 1)) rfl rfl (by kernel_rfl) (by kernel_rfl) (by kernel_rfl) (fun _ _ _ h => h) ⟨.inl ⟨by kernel_rfl, fun w => by go_simp⟩, fun w => by go_simp⟩ ?_
    try simp only [List.getElem_toArray, List.getElem_cons_succ, List.getElem_cons_zero, Act.put, List.setIfInBounds_toArray, List.set_cons_zero, List.set_cons_succ]
    refine wpAnyIn_take (i := 8) (v := .pointer (some (ad5.add ((s.length : Int) - 1).toNat))) rfl rfl (by kernel_rfl) (by kernel_rfl) (by kernel_rfl) (fun _ _ _ h => h) ⟨.inl ⟨by kernel_rfl, fun w => by go_simp⟩, fun w => by go_simp⟩ ?_
    try simp only [List.getElem_toArray, List.getElem_cons_succ, List.getElem_cons_zero, Act.put, List.setIfInBounds_toArray, List.set_cons_zero, List.set_cons_succ]
    refine wpAnyIn_ready (rs := [0, 9]) (by kernel_rfl) (by simp) (AllReadyIn.cons rfl (fun K' hK => ?_) (AllReadyIn.cons rfl (fun K' hK => ?_) AllReadyIn.nil))
    · skip
      rw [if_pos (by kernel_rfl)]
      unfold Oper.wpIn
      rw [show Fence.wide.round = none from rfl, Oper.semAt_none]
      go_simp
      refine hK _ _ ?_
      clear hK
      try simp only [List.getElem_toArray, List.getElem_cons_succ, List.getElem_cons_zero, Act.put, List.setIfInBounds_toArray, List.set_cons_zero, List.set_cons_succ]
      refine wpAnyIn_take (i := 1) (v := .int .i64 (IntKind.i64.wrap ((awake19_sum (List.map Prod.snd pre)) * 7))) rfl rfl (by kernel_rfl) (by kernel_rfl) (by kernel_rfl) (fun _ _ _ h => h) ⟨.inl ⟨by kernel_rfl, fun w => by go_simp⟩, fun w => by go_simp⟩ ?_
      try simp only [List.getElem_toArray, List.getElem_cons_succ, List.getElem_cons_zero, Act.put, List.setIfInBounds_toArray, List.set_cons_zero, List.set_cons_succ]
      refine wpAnyIn_ready (rs := [9]) (by kernel_rfl) (by simp) (AllReadyIn.cons rfl (fun K' hK => ?_) AllReadyIn.nil)
      rw [if_pos (by kernel_rfl)]
      unfold Oper.wpIn
      rw [show Fence.wide.round = none from rfl, Oper.semAt_none]
      go_simp
      refine hK _ _ ?_
      clear hK
      try simp only [List.getElem_toArray, List.getElem_cons_succ, List.getElem_cons_zero, Act.put, List.setIfInBounds_toArray, List.set_cons_zero, List.set_cons_succ]
      refine wpAnyIn_take (i := 10) (v := .int .i64 (IntKind.i64.wrap ((s.length : Int) * (rd s ((s.length : Int) - 1))))) rfl rfl (by kernel_rfl) (by kernel_rfl) (by kernel_rfl) (fun _ _ _ h => h) ⟨.inl ⟨by kernel_rfl, fun w => by go_simp⟩, fun w => by go_simp⟩ ?_
      try simp only [List.getElem_toArray, List.getElem_cons_succ, List.getElem_cons_zero, Act.put, List.setIfInBounds_toArray, List.set_cons_zero, List.set_cons_succ]
      refine wpAnyIn_take (i := 11) (v := .int .i64 (IntKind.i64.wrap (IntKind.i64.wrap ((awake19_sum (List.map Prod.snd pre)) * 7) + IntKind.i64.wrap ((s.length : Int) * (rd s ((s.length : Int) - 1)))))) rfl rfl (by kernel_rfl) (by kernel_rfl) (by kernel_rfl) (fun _ _ _ h => h) ⟨.inl ⟨by kernel_rfl, fun w => by go_simp⟩, fun w => by go_simp⟩ ?_
      try simp only [List.getElem_toArray, List.getElem_cons_succ, List.getElem_cons_zero, Act.put, List.setIfInBounds_toArray, List.set_cons_zero, List.set_cons_succ]
      refine wpAnyIn_ready (rs := [12]) (by kernel_rfl) (by simp) (AllReadyIn.cons rfl (fun K' hK => ?_) AllReadyIn.nil)
      rw [if_pos (by kernel_rfl)]
      unfold Oper.wpIn
      rw [show Fence.wide.round = none from rfl, Oper.semAt_none]
      go_simp
      refine hK _ _ ?_
      clear hK
      try simp only [List.getElem_toArray, List.getElem_cons_succ, List.getElem_cons_zero, Act.put, List.setIfInBounds_toArray, List.set_cons_zero, List.set_cons_succ]
      refine wpAnyIn_done (by kernel_rfl) ?_ _
      exact HFIN.out ⟨#[], []⟩
    · skip
      rw [if_pos (by kernel_rfl)]
      unfold Oper.wpIn
      rw [show Fence.wide.round = none from rfl, Oper.semAt_none]
      go_simp
      refine hK _ _ ?_
      clear hK
      try simp only [List.getElem_toArray, List.getElem_cons_succ, List.getElem_cons_zero, Act.put, List.setIfInBounds_toArray, List.set_cons_zero, List.set_cons_succ]
      refine wpAnyIn_take (i := 10) (v := .int .i64 (IntKind.i64.wrap ((s.length : Int) * (rd s ((s.length : Int) - 1))))) rfl rfl (by kernel_rfl) (by kernel_rfl) (by kernel_rfl) (fun _ _ _ h => h) ⟨.inl ⟨by kernel_rfl, fun w => by go_simp⟩, fun w => by go_simp⟩ ?_
      try simp only [List.getElem_toArray, List.getElem_cons_succ, List.getElem_cons_zero, Act.put, List.setIfInBounds_toArray, List.set_cons_zero, List.set_cons_succ]
      refine wpAnyIn_ready (rs := [0]) (by kernel_rfl) (by simp) (AllReadyIn.cons rfl (fun K' hK => ?_) AllReadyIn.nil)
      rw [if_pos (by kernel_rfl)]
      unfold Oper.wpIn
      rw [show Fence.wide.round = none from rfl, Oper.semAt_none]
      go_simp
      refine hK _ _ ?_
      clear hK
      try simp only [List.getElem_toArray, List.getElem_cons_succ, List.getElem_cons_zero, Act.put, List.setIfInBounds_toArray, List.set_cons_zero, List.set_cons_succ]
      refine wpAnyIn_take (i := 1) (v := .int .i64 (IntKind.i64.wrap ((awake19_sum (List.map Prod.snd pre)) * 7))) rfl rfl (by kernel_rfl) (by kernel_rfl) (by kernel_rfl) (fun _ _ _ h => h) ⟨.inl ⟨by kernel_rfl, fun w => by go_simp⟩, fun w => by go_simp⟩ ?_
      try simp only [List.getElem_toArray, List.getElem_cons_succ, List.getElem_cons_zero, Act.put, List.setIfInBounds_toArray, List.set_cons_zero, List.set_cons_succ]
      refine wpAnyIn_take (i := 11) (v := .int .i64 (IntKind.i64.wrap (IntKind.i64.wrap ((awake19_sum (List.map Prod.snd pre)) * 7) + IntKind.i64.wrap ((s.length : Int) * (rd s ((s.length : Int) - 1)))))) rfl rfl (by kernel_rfl) (by kernel_rfl) (by kernel_rfl) (fun _ _ _ h => h) ⟨.inl ⟨by kernel_rfl, fun w => by go_simp⟩, fun w => by go_simp⟩ ?_
      try simp only [List.getElem_toArray, List.getElem_cons_succ, List.getElem_cons_zero, Act.put, List.setIfInBounds_toArray, List.set_cons_zero, List.set_cons_succ]
      refine wpAnyIn_ready (rs := [12]) (by kernel_rfl) (by simp) (AllReadyIn.cons rfl (fun K' hK => ?_) AllReadyIn.nil)
      rw [if_pos (by kernel_rfl)]
      unfold Oper.wpIn
      rw [show Fence.wide.round = none from rfl, Oper.semAt_none]
      go_simp
      refine hK _ _ ?_
      clear hK
      try simp only [List.getElem_toArray, List.getElem_cons_succ, List.getElem_cons_zero, Act.put, List.setIfInBounds_toArray, List.set_cons_zero, List.set_cons_succ]
      refine wpAnyIn_done (by kernel_rfl) ?_ _
      exact HFIN.out ⟨#[], []⟩
  case done =>
    rintro D ys W hD hys ⟨⟨hN, hB⟩, hS⟩ hK
    have hsum : awake19_sum (ys.map Prod.snd) = 23097 := by rw [hys]; decide +kernel
    rw [hsum] at hN
    have hcN := hN.cell
    have HBd := Aside0.mk hB
    have HK := Aside0.mk hK
    clear hB hK
    have hw2 := HB2.out.size
    have hbW : Below w.heap.size w W := HB2.out.trans (HBd.out.mono hw2)
    gi_wp2
    refine ⟨by simp, .inl ⟨_, _, rfl, run_takeDeferred (w := W) HK.out, ?_⟩⟩
    exact ⟨_, by simp [results, Try.results14, go_sem], rfl, hbW.trans (belowK_b (w := w) (Nat.le_refl _) W D _ _ (by omega) HK.out rfl rfl)⟩
  case stop =>
    rintro D c pre W hD hSp hI hK
    exact hI.elim

/-! as the printed texts want it -/
def paronymlaw19_awake.f (k : Nat) : Option Bool := some true
theorem paronymlaw19_awake.mono : ∀ k, LeO (paronymlaw19_awake.f k) (paronymlaw19_awake.f (k + 1)) := fun k => LeO.refl _
theorem paronymlaw19_awake.calls (k : Nat) (r : Bool) (w : World) (h : paronymlaw19_awake.f k = some r) :
    Calls Try.prog 14 #[] w fun e w' => e = .returned (.bool r) ∧ Below w.heap.size w w' := by
  obtain rfl := Option.some.inj h
  exact paronymlaw19_awake.calls0 w

end Go.Proofs.Ytlipbiihemhieaa.Q

-- from Hlst
/- span's law: listed. -/
namespace Go.Proofs.Ytlipbiihemhieaa.Q
open Go.RowKit Go.Shelf Go.Proofs.YtlipbiihemhieaaW.PrintWords Go.Proofs.YtlipbiihemhieaaW.PrintLast Go.Proofs.YtlipbiihemhieaaW.PrintMore
set_option linter.unusedVariables false
set_option linter.unusedSimpArgs false
attribute [local go_sem] Oper.semAt_some

/-- The law's own span. -/
def c53 (s : S43) : S53 := ⟨s.f0, s.f1, s.f2⟩
theorem rowK_own {α : Type} {d : Kd α} {e B base : Nat} {T : Nat → Prop} {v : Value} {s : List α} : OwnFrom B (fun (_ : Unit) W => Kd.R d e W base T v s) := fun _ W W' row hs hg hr =>
  Kd.R_mono (Kd.R_grown (Kd.R_bound hs) hg (fun k hk e => by
    obtain ⟨_, o, ho, hc⟩ := hr k e.symm
    obtain ⟨_, _, _, q, _, cells, hcell⟩ := hk
    rw [hcell] at ho
    cases ho
    cases hc)) (fun k hk => hk.1)
/-- The result so far. -/
def lsI (w : World) (B : Nat) (pre : List S43) (W : World) : Prop := ∃ v, Boxed W w.heap.size 49 v ∧ Kd.R k53 53 W (w.heap.size + 2) (fun _ => True) v (pre.map c53) ∧ Below w.heap.size w W ∧ B ≤ W.heap.size
theorem lsI_own (w : World) (B B' : Nat) (hB : w.heap.size ≤ B') : OwnFrom B' (lsI w B) := fun s W W' row hs hg hr => by
  obtain ⟨v, h1, h2, h3, h4⟩ := hs
  exact ⟨v, boxed_own w.heap.size 49 (fun _ : Unit => v) () W W' row h1 hg (fun r e => (hr r e).2), rowK_own (B := B') () W W' row h2 hg hr, ownFrom_below (β := Unit) (Nat.le_refl _) hB () W W' row h3 hg hr, Nat.le_trans h4 hg.size⟩
/-- What the body may write: whatever is new, but not the iterator's variable. -/
def lsT (w : World) (k : Nat) : Prop := w.heap.size ≤ k ∧ k ≠ w.heap.size + 1
theorem KeepC.grown {T : Nat → Prop} {A B : World} {row : Option Nat} (hg : A.grownBy B row) (hT : ∀ k, row = some k → T k) : KeepC T A B :=
  ⟨hg.size, fun k o hk _ hn => (hg.block k (Array.getElem?_eq_some_iff.1 hk).1 (fun e => hn (hT k e.symm))).trans hk⟩
theorem own_some {w : World} {base : Nat} {e : TypeId} {size n : Nat} {v : Value} {xs : List Value} (h : w.ownsRow base e size v (n + 1) xs) : ∃ A c, v = .slice A (n + 1) c := by
  rcases h.2 with ⟨_, h0⟩ | ⟨g, c, _, rfl, _⟩
  · omega
  · exact ⟨_, _, rfl⟩
/-- One more of the law's spans: the append, and the store. -/
theorem lsI_step {w W W2 : World} {B : Nat} {pre : List S43} {x : S43} {v v2 : Value} {o : Obj} {inner : List Value} (hB : w.heap.size + 2 ≤ B) (hb : Boxed W w.heap.size 49 v) (hbel : Below w.heap.size w W) (hsz : B ≤ W.heap.size)
    (hown : (W.alloc o).ownsRow (w.heap.size + 2) 53 3 v pre.length inner) (hrep : Reps (fun y c => k53.M W (w.heap.size + 2) (fun _ => True) y c) 3 (pre.map c53) inner)
    (hown2 : W2.ownsRow (w.heap.size + 2) 53 3 v2 (pre.length + 1) (inner ++ [.int .i64 x.f0, .int .i64 x.f1, .string x.f2])) (hg : (W.alloc o).grownBy W2 v.ownBlock) :
    KeepsFrom B W (W2.setCell ⟨w.heap.size, 0, none⟩ v2) ∧ KeepC (lsT w) W (W2.setCell ⟨w.heap.size, 0, none⟩ v2) ∧ lsI w B (pre ++ [x]) (W2.setCell ⟨w.heap.size, 0, none⟩ v2) := by
  have hb1 : Boxed (W.alloc o) w.heap.size 49 v := hb.alloc o
  have hne : some w.heap.size ≠ v.ownBlock := fun e => by have := own_base hown _ e.symm; omega
  have hb2 : Boxed W2 w.heap.size 49 v := hb1.kept hg hne
  have hrow : ∀ k, v.ownBlock = some k → w.heap.size + 2 ≤ k := fun k e => own_base hown k e
  have hrow2 : ∀ k, v2.ownBlock = some k → w.heap.size + 2 ≤ k := fun k e => own_base hown2 k e
  have k1 : KeepsOthers W (W.alloc o) := KeepsOthers.alloc W o
  have k2 : KeepsOthers (W.alloc o) W2 := KeepsOthers.of_grownBy hg (fun j ob hj hob => by
    obtain ⟨cells, hc⟩ := own_typed hown j hj
    rw [hc] at hob
    injection hob with hob
    rw [← hob]; rfl)
  refine ⟨((k1.trans k2).trans (KeepsOthers.setCell _ _ _)).from B, ?_, v2, Boxed.set _ hb2, ?_, ?_, ?_⟩
  · refine KeepC.trans (KeepC.of_below ((Below.refl _ W).alloc (Nat.le_refl _) o)) (KeepC.trans (KeepC.grown hg (fun k e => ⟨by have := hrow k e; omega, by have := hrow k e; omega⟩)) (KeepC.of_set ⟨Nat.le_refl _, by show w.heap.size ≠ _; omega⟩))
  · rw [List.map_append]
    refine ⟨fun _ _ => trivial, _, by rw [List.length_append, List.length_map]; exact own_setCell hown2 (fun e => by have := hrow2 _ e.symm; simp only at this; omega) _, ?_⟩
    refine Reps.snoc (hrep.imp_ (fun y c h => ?_)) ?_ rfl
    · exact k53_openM h ▸ k53_mkM _ _ _ y
    · exact k53_mkM _ _ _ (c53 x)
  · exact (((hbel.alloc (by have := hbel.size; omega) o).grown hg (by have := hbel.size; simp; omega) (fun k e => by have := hrow k e; omega))).setCell (p := ⟨w.heap.size, 0, none⟩) (Nat.le_refl _) _
  · have h1 := hg.size
    simp only [World.size_alloc] at h1
    show B ≤ (W2.setCell _ _).heap.size
    have : (W2.setCell ⟨w.heap.size, 0, none⟩ v2).heap.size = W2.heap.size := by simp
    omega
set_option maxHeartbeats 2000000 in
set_option maxRecDepth 100000 in
theorem paronymlaw03_listed.calls (p : Option Addr) (L : List S43) (w : World) (hT : Tab w p L) (hl : L.length ≤ 1000) :
    Calls Try.prog 29 #[.pointer p] w fun e w' => ∃ v, e = .returned v ∧ Kd.R k53 53 w' w.heap.size (fun _ => True) v (L.map c53) ∧ Below w.heap.size w w' := by
  have HT := Aside0.mk hT
  have HL := Aside0.mk hl
  clear hT hl
  refine (callsIn_wide (n := 10)).1 ?_
  refine callsIn_of_wp_marks Try.func29 rfl trivial ?_ rfl
  simp only [Try.ntmps29, List.size_toArray, List.length_cons, List.length_nil, Nat.reduceAdd, Nat.reduceSub, Array.replicate_succ, Array.replicate_zero, List.push_toArray, List.append_toArray, List.nil_append, List.cons_append]
  have hb0 : Below w.heap.size w (w.alloc (.cells #[.slice none 0 0] 49)) := (Below.refl _ w).alloc (Nat.le_refl _) _
  have HB0 := Aside0.mk hb0
  have HO := Aside0.mk (Boxed.new w 49 (.slice none 0 0))
  clear hb0
  gi_wp2_with (refine ⟨trivial, ?_⟩; gi_at_call 61; refine (callsIn_wide.2 (span_All.calls p L w _ HT.out HB0.out)).mono ?_; rintro e w4 ⟨A, c, rfl, rfl, hr, hC⟩; have HR := Aside0.mk hr; have HC := Aside0.mk hC; clear hr hC)
  have HI0 : Aside0 (lsI w (w.heap.size + 2) [] ((w.alloc (.cells #[.slice none 0 0] 49)).alloc (.cells #[.slice A L.length c] 41))) :=
    ⟨_, HO.out.alloc _, Kd.R_nil _ _ _ _ _, HB0.out.alloc (by simp) _, by simp⟩
  have hW4 : ((w.alloc (.cells #[.slice none 0 0] 49)).alloc (.cells #[.slice A L.length c] 41)).heap.size = w.heap.size + 2 := by simp
  have hbx : Boxed ((w.alloc (.cells #[.slice none 0 0] 49)).alloc (.cells #[.slice A L.length c] 41)) (w.heap.size + 1) 41 (.slice A L.length c) := by
    have := Boxed.new (w.alloc (.cells #[.slice none 0 0] 49)) 41 (.slice A L.length c)
    rwa [World.size_alloc] at this
  have hC4 : Kd.C k43 ((w.alloc (.cells #[.slice none 0 0] 49)).alloc (.cells #[.slice A L.length c] 41)) A L.length L := Kd.C_below HC.out (HB0.out.alloc (by simp) _)
  have hst := span_Values.stops L (by have := HL.out; omega) (w.heap.size + 1) A c (lsT w) _ (fun h => h.2 rfl) (fun ad e hne h => by have := row43_lt HR.out (by have := HL.out; omega) ad e hne; have := h.1; omega) hbx hC4 9 (by omega)
  have HST := Aside0.mk hst
  clear hst hbx hC4
  generalize hW : ((w.alloc (.cells #[.slice none 0 0] 49)).alloc (.cells #[.slice A L.length c] 41)) = w4 at *
  clear hW
  refine wpIn_range_as rfl (by omega) (gf := 93) (lb := #[Value.pointer (some { block := w.heap.size + 1, off := 0 })]) rfl trivial (enters_of Try.func93 (by kernel_rfl) rfl)
    HST.out KeepC.trans keepC_put (Below.refl _ _) (fun _ => rfl)
    (lsI w (w.heap.size + 2)) (fun c xs W => False) (lsI_own w _ _ (by omega)) (fun c s W W' row hs hg hr => hs) HI0.out
    (fun pre x a1 W => ∃ vb, a1 = { tmps := #[Value.pointer p, undef, Value.slice none 0 0, Value.pointer (some { block := w.heap.size, off := 0 }), Value.pointer (some { block := vb, off := 0 }), Value.pointer p, Value.func (Fn.func 93) #[] #[Value.pointer (some { block := w.heap.size + 1, off := 0 })],
          span_val x, undef, undef, undef, undef, undef, undef, undef, undef, undef, undef, undef], defers := [] } ∧ W.heap[vb]? = some (.cells #[.int .i64 x.f0, .int .i64 x.f1, .string x.f2] 43 (0, 0)) ∧ lsI w (w.heap.size + 2) pre W)
    (fun pre x a1 s W W' row hs hg hr => by
      obtain ⟨vb, h1, h2, h3⟩ := hs
      refine ⟨vb, h1, ?_, lsI_own w _ _ (by omega) pre W W' row h3 hg hr⟩
      exact (hg.block vb (Array.getElem?_eq_some_iff.1 h2).1 (fun e => by
        obtain ⟨_, o, ho, hc⟩ := hr vb e.symm
        rw [h2] at ho
        cases ho
        cases hc)).trans h2) ?assign ?body ?done ?stop
  case assign =>
    rintro l pre x W K hI - hK
    have HI := Aside0.mk hI
    have HK := Aside0.mk hK
    clear hI hK
    simp only [span_val]
    gi_wp2
    refine HK.out _ _ ?_ ?_ ⟨W.heap.size, rfl, heap_alloc_new W _, ?_⟩
    · exact (KeepsOthers.alloc W _).from _
    · exact KeepC.of_below ((Below.refl _ W).alloc (Nat.le_refl _) _)
    · exact lsI_own w _ W.heap.size (by obtain ⟨_, _, _, hB, _⟩ := HI.out; exact hB.size) pre W _ none HI.out (World.grownBy_alloc W _ none) (fun r e => by cases e)
  case body =>
    rintro l pre x a1 W ⟨vb, rfl, hvb, v, hN, hR, hB, hS⟩ hsp
    obtain ⟨A5, c5, hv5⟩ := Kd.R_slice hR
    rw [List.length_map] at hv5
    subst hv5
    have hlen : pre.length < L.length := by
      obtain ⟨t, ht⟩ := hsp
      rw [← ht]; simp
    have hx0 : W.cell? ⟨vb, 0, none⟩ = some (.int .i64 x.f0) := by simp only [World.cell?]; rw [hvb]; rfl
    have hx1 : W.cell? ⟨vb, 1, none⟩ = some (.int .i64 x.f1) := by simp only [World.cell?]; rw [hvb]; rfl
    have hx2 : W.cell? ⟨vb, 2, none⟩ = some (.string x.f2) := by simp only [World.cell?]; rw [hvb]; rfl
    have hcN := hN.cell
    have hfN := hN.frozen
    obtain ⟨_, inner, hown, hrep⟩ := hR
    have hown : W.ownsRow (w.heap.size + 2) 53 3 (.slice A5 pre.length c5) pre.length inner := by rw [List.length_map] at hown; exact hown
    have hown1 : (W.alloc (.cells #[.int .i64 x.f0, .int .i64 x.f1, .string x.f2] 53)).ownsRow (w.heap.size + 2) 53 3 (.slice A5 pre.length c5) pre.length inner :=
      own_move hown (fun k hk => Below.heap_alloc W _ k (own_lt hown k hk))
    obtain ⟨i0, hi0, hii⟩ := Option.map_eq_some_iff.1 info53
    simp only [Prod.mk.injEq] at hii
    have hnc : ∀ j u, ([.int .i64 x.f0, .int .i64 x.f1, .string x.f2] : List Value)[j]? = some u → (W.alloc (.cells #[.int .i64 x.f0, .int .i64 x.f1, .string x.f2] 53)).cell? ((⟨W.heap.size, 0, none⟩ : Addr).add j) = some u := fun j u hj => by
      rw [Addr.add_lit]; simp only [World.cell?]; rw [World.alloc_heap_new]; simpa using hj
    have hrep' : Reps (fun y c => k53.M W (w.heap.size + 2) (fun _ => True) y c) 3 (pre.map c53) inner := hrep.imp_ (fun y c h => k53_openM h ▸ k53_mkM _ _ _ y)
    have HN := Aside0.mk hN
    have HB := Aside0.mk hB
    have HS := Aside0.mk hS
    have HOWN := Aside0.mk hown1
    have HREP := Aside0.mk hrep'
    have HLEN := Aside0.mk hlen
    clear hN hB hS hown hown1 hrep hrep' hsp hlen hvb HT HC HR HI0 HST
    simp only [span_val]
    gi_wp2_with (gi_at_builtin; refine wpListIn_append_own _ rfl _ _ 49 rfl (w.heap.size + 2) 53 i0 _ 3 32 Try.underlying49 hi0 hii.1 hii.2.1 hii.2.2 rfl (by omega) _ pre.length inner rfl HOWN.out ⟨W.heap.size, 0, none⟩ 1 1 [.int .i64 x.f0, .int .i64 x.f1, .string x.f2] rfl rfl hnc (by simp [Value.oneCell']) (by simp only [maxLen]; have := HLEN.out; have := HL.out; omega) (by have := HLEN.out; have := HL.out; omega) (by simp; have := HB.out.size; have := HS.out; omega) ?_; (intro v2 W2 ho2 hg2 _; have hb2 := (HN.out.alloc (.cells #[.int .i64 x.f0, .int .i64 x.f1, .string x.f2] 53)).kept hg2 (fun e => by have := own_base HOWN.out _ e.symm; omega); have hc2 := hb2.cell; have hf2 := hb2.frozen; obtain ⟨A2, c2, rfl⟩ := own_some ho2; have HO2 := Aside0.mk ho2; have HG2 := Aside0.mk hg2; clear ho2 hg2 hb2 hcN hfN hnc hii hi0))
    exact lsI_step (by omega) HN.out HB.out HS.out HOWN.out HREP.out HO2.out HG2.out
  case done =>
    rintro D ys W hD hys ⟨v, hN, hR, hB, hS⟩ hK
    subst hys
    have hcN := hN.cell
    obtain ⟨A5, c5, rfl⟩ := Kd.R_slice hR
    have HR5 := Aside0.mk hR
    have HBd := Aside0.mk hB
    have HK := Aside0.mk hK
    clear hB hK hR hN HT HC HR HI0 HST
    gi_wp2
    refine ⟨by simp, .inl ⟨_, _, rfl, run_takeDeferred (w := W) HK.out, ?_⟩⟩
    exact ⟨_, by simp [results, Try.results29, go_sem], _, rfl, Kd.R_lower (rowK_own (B := w.heap.size + 2) () W _ (some D) HR5.out (grownBy_putObj' W D _) (fun r e => by cases e; exact ⟨by omega, _, HK.out, rfl⟩)) (by omega), HBd.out.trans (belowK_b (w := w) (Nat.le_refl _) W D _ _ (by omega) HK.out rfl rfl)⟩
  case stop =>
    rintro D c pre W hD hSp hI hK
    exact hI.elim
end Go.Proofs.Ytlipbiihemhieaa.Q

-- from Qf27
-- Made by hp.py, a program of this session, with the kit's printer. Not trusted: Lean checks it.
namespace Go.Proofs.Ytlipbiihemhieaa.Q
open Go.RowKit Go.Proofs.YtlipbiihemhieaaW.PrintWords Go.Proofs.YtlipbiihemhieaaW.PrintLast Go.Proofs.YtlipbiihemhieaaW.PrintMore
attribute [local go_sem] max2_int min2_int max_two min_two max_three min_three max_four min_four   -- for this text's walks alone
set_option linter.unusedVariables false
set_option linter.unusedSimpArgs false

/-! ### paronymlaw03_small: function 27 -/
def paronymlaw03_small.l0 : Nat → List (S43) → Int → Option (Bool)
  | 0, _, _ => none
  | k + 1, x0, x3 => if x3 < (x0.length : Int) then (if 0 ≤ x3 then (if (((rd_T43 x0 x3).f2).size : Int) > 30 then (some false) else (paronymlaw03_small.l0 k x0 (wrap64 (x3 + 1)))) else (none)) else (some true)
def paronymlaw03_small.f (k : Nat) (l0 : List (S43)) : Option (Bool) := if (l0.length : Int) > 30 then (some false) else (paronymlaw03_small.l0 k l0 0)
theorem paronymlaw03_small.mono_l : ∀ k, (∀ y0 y1, LeO (paronymlaw03_small.l0 k y0 y1) (paronymlaw03_small.l0 (k + 1) y0 y1))
  | 0 => fun _ _ r h => by simp [paronymlaw03_small.l0] at h
  | k + 1 => by
    have ih0 := paronymlaw03_small.mono_l k
    · intro y0 y1
      unfold paronymlaw03_small.l0
      repeat' first
      | (with_reducible exact ih0 _ _)
      | (with_reducible exact LeO.refl _)
      | (with_reducible exact LeO.none _)
      | (with_reducible refine LeO.ite ?_ ?_)
      | (with_reducible refine LeO.bind ?_ (fun _ => ?_))
      | exact ih0 _ _
      | exact LeO.none _
      | refine LeO.ite ?_ ?_
      | refine LeO.bind ?_ (fun _ => ?_)
theorem paronymlaw03_small.mono : ∀ a0 k, LeO (paronymlaw03_small.f k a0) (paronymlaw03_small.f (k + 1) a0) := by
  intro a0 k
  have ih0 := paronymlaw03_small.mono_l k
  unfold paronymlaw03_small.f
  repeat' first
      | (with_reducible exact ih0 _ _)
      | (with_reducible exact LeO.refl _)
      | (with_reducible exact LeO.none _)
      | (with_reducible refine LeO.ite ?_ ?_)
      | (with_reducible refine LeO.bind ?_ (fun _ => ?_))
      | exact ih0 _ _
      | exact LeO.none _
      | refine LeO.ite ?_ ?_
      | refine LeO.bind ?_ (fun _ => ?_)
set_option maxHeartbeats 8000000 in
set_option maxRecDepth 100000 in
theorem paronymlaw03_small.calls (k : Nat) (A0 : Option Addr) (c0 : Nat) (l0 : List (S43)) (r : Bool) (w : World) (hr0 : Kd.C k43 w A0 l0.length l0) (hc0 : l0.length ≤ c0) (h : paronymlaw03_small.f k l0 = some r) :
    Calls Try.prog 27 #[.slice A0 l0.length c0] w fun e w' => e = .returned (.bool r) ∧ Drawn0 w w' := by
  have HR0 := Aside0.mk hr0
  have HC0 := Aside0.mk hc0
  clear hr0 hc0
  have H : (if (l0.length : Int) > 30 then (some false) else (paronymlaw03_small.l0 k l0 0)) = some r := h
  clear h
  by_cases c2 : (l0.length : Int) > 30
  · rw [if_pos c2] at H
    have c2b0 : decide (30 < (l0.length : Int)) = true := decide_eq_true c2
    have c2b1 : decide (30 < l0.length) = true := decide_eq_true (by omega)
    clear c2
    obtain rfl := Option.some.inj H
    go_enter Try.func27, Try.ntmps27
    go_wp2
    go_ret
    exact ⟨by first | rfl | (simp; done) | (simp [*]; done), by repeat (first | exact Drawn0.refl _ | apply Drawn0.step)⟩
  · rw [if_neg c2] at H
    have c2b0 : decide (30 < (l0.length : Int)) = false := decide_eq_false c2
    have c2b1 : decide (30 < l0.length) = false := decide_eq_false (by omega)
    clear c2
    have H' := Aside0.mk H
    clear H
    go_enter Try.func27, Try.ntmps27
    go_wp2
    go_loopg [3] k (fun kq v3 w' => ∃ (x3_1 : Int), v3 = .int .i64 x3_1 ∧ Aside0 (paronymlaw03_small.l0 kq l0 x3_1 = some r) ∧ Aside0 (kq ≤ k) ∧ Drawn0 w w')
    case atStart => exact ⟨(0), (by first | rfl | (simp; done) | (simp [*]; done)), H', ⟨Nat.le_refl _⟩, by repeat (first | exact Drawn0.refl _ | apply Drawn0.step)⟩
    case round =>
      clear H'
      try clear c2
      try clear c2b0
      try clear c2b1
      try clear p2
      obtain ⟨x3_1, rfl, HA, HK1, ⟨m1, rfl⟩⟩ := hrel
      cases gk with
      | zero => exact absurd HA.out (by simp [paronymlaw03_small.l0])
      | succ k1 =>
        have H := HA.out
        clear HA
        simp only [paronymlaw03_small.l0] at H
        by_cases c3 : x3_1 < (l0.length : Int)
        · rw [if_pos c3] at H
          have c3b0 : decide (x3_1 < (l0.length : Int)) = true := decide_eq_true c3
          clear c3
          by_cases c4 : 0 ≤ x3_1
          · rw [if_pos c4] at H
            have c4b0 : decide (0 ≤ x3_1) = true := decide_eq_true c4
            clear c4
            by_cases c5 : (((rd_T43 l0 x3_1).f2).size : Int) > 30
            · rw [if_pos c5] at H
              have c5b0 : decide (30 < (((rd_T43 l0 x3_1).f2).size : Int)) = true := decide_eq_true c5
              have c5b1 : decide (30 < ((rd_T43 l0 x3_1).f2).size) = true := decide_eq_true (by omega)
              clear c5
              obtain rfl := Option.some.inj H
              have p101 : 0 ≤ (x3_1 : Int) := of_decide_eq_true (by first | (with_reducible assumption) | assumption)
              have q101 : x3_1 < (l0.length : Int) := of_decide_eq_true (by first | (with_reducible assumption) | assumption)
              obtain ⟨ad101, e101, hx101_0, hx101_1, hx101_2⟩ := at_T43 HR0.out x3_1 p101 q101
              cases e101
              replace p101 := eq_true p101
              replace q101 := eq_true q101
              go_wp2
              go_ret
              exact ⟨by first | rfl | (simp; done) | (simp [*]; done), by repeat (first | exact Drawn0.refl _ | apply Drawn0.step)⟩
            · rw [if_neg c5] at H
              have c5b0 : decide (30 < (((rd_T43 l0 x3_1).f2).size : Int)) = false := decide_eq_false c5
              have c5b1 : decide (30 < ((rd_T43 l0 x3_1).f2).size) = false := decide_eq_false (by omega)
              clear c5
              have H' := Aside0.mk H
              clear H
              have p101 : 0 ≤ (x3_1 : Int) := of_decide_eq_true (by first | (with_reducible assumption) | assumption)
              have q101 : x3_1 < (l0.length : Int) := of_decide_eq_true (by first | (with_reducible assumption) | assumption)
              obtain ⟨ad101, e101, hx101_0, hx101_1, hx101_2⟩ := at_T43 HR0.out x3_1 p101 q101
              cases e101
              replace p101 := eq_true p101
              replace q101 := eq_true q101
              go_wp2
              go_roundg k1
              case measure => have := HK1.out; omega
              case rel => exact ⟨(wrap64 (x3_1 + 1)), (by first | rfl | (simp; done) | (simp [*]; done)), H', ⟨by have := HK1.out; omega⟩, by repeat (first | exact Drawn0.refl _ | apply Drawn0.step)⟩
          · rw [if_neg c4] at H
            exact absurd H (by simp)
        · rw [if_neg c3] at H
          have c3b0 : decide (x3_1 < (l0.length : Int)) = false := decide_eq_false c3
          clear c3
          obtain rfl := Option.some.inj H
          go_wp2
          go_ret
          exact ⟨by first | rfl | (simp; done) | (simp [*]; done), by repeat (first | exact Drawn0.refl _ | apply Drawn0.step)⟩

end Go.Proofs.Ytlipbiihemhieaa.Q

-- from Qe0
-- Made by hp.py, a program of this session, with the kit's printer. Not trusted: Lean checks it.
namespace Go.Proofs.Ytlipbiihemhieaa.Q
open Go.RowKit Go.Proofs.YtlipbiihemhieaaW.PrintWords Go.Proofs.YtlipbiihemhieaaW.PrintLast Go.Proofs.YtlipbiihemhieaaW.PrintMore
attribute [local go_sem] max2_int min2_int max_two min_two max_three min_three max_four min_four   -- for this text's walks alone
set_option linter.unusedVariables false
set_option linter.unusedSimpArgs false

theorem eqA53 (d : Nat) (w : World) (x0 y0 : Int) (x1 y1 : Int) (x2 y2 : ByteArray) :
    (Op.equalIn (d + 2) 53 (.agg #[.int .i64 x0, .int .i64 x1, .string x2]) (.agg #[.int .i64 y0, .int .i64 y1, .string y2])).run Try.prog w = .ok (x0 == y0 && (x1 == y1 && (x2.toList == y2.toList))) w := by
  refine eqA_of Try.underlying53 (by kernel_rfl) ?_
  refine eqf_cons (by rfl) (by go_simp; rfl) (by go_simp; rfl) (by go_simp) ?_
  refine eqf_cons (by rfl) (by go_simp; rfl) (by go_simp; rfl) (by go_simp) ?_
  exact eqf_last (by rfl) (by go_simp; rfl) (by go_simp; rfl) (by go_simp)
end Go.Proofs.Ytlipbiihemhieaa.Q

-- from Qf32
-- Made by hp.py, a program of this session, with the kit's printer. Not trusted: Lean checks it.
namespace Go.Proofs.Ytlipbiihemhieaa.Q
open Go.RowKit Go.Proofs.YtlipbiihemhieaaW.PrintWords Go.Proofs.YtlipbiihemhieaaW.PrintLast Go.Proofs.YtlipbiihemhieaaW.PrintMore
attribute [local go_sem] max2_int min2_int max_two min_two max_three min_three max_four min_four   -- for this text's walks alone
set_option linter.unusedVariables false
set_option linter.unusedSimpArgs false

attribute [local go_sem high] eqA53
/-! ### paronymlaw03_same: function 32 -/
def paronymlaw03_same.l0 : Nat → List (S53) → List (S53) → Int → Option (Bool)
  | 0, _, _, _ => none
  | k + 1, x0, x1, x5 => if x5 < (x0.length : Int) then (if 0 ≤ x5 then (if x5 < (x1.length : Int) then (if (!(((rd_T53 x0 x5).f0) == ((rd_T53 x1 x5).f0)) || (!(((rd_T53 x0 x5).f1) == ((rd_T53 x1 x5).f1)) || (!((((rd_T53 x0 x5).f2).toList) == (((rd_T53 x1 x5).f2).toList))))) = true then (some false) else (paronymlaw03_same.l0 k x0 x1 (wrap64 (x5 + 1)))) else (none)) else (none)) else (some true)
def paronymlaw03_same.f (k : Nat) (l0 : List (S53)) (l1 : List (S53)) : Option (Bool) := if (l0.length : Int) = (l1.length : Int) then (paronymlaw03_same.l0 k l0 l1 0) else (some false)
theorem paronymlaw03_same.mono_l : ∀ k, (∀ y0 y1 y2, LeO (paronymlaw03_same.l0 k y0 y1 y2) (paronymlaw03_same.l0 (k + 1) y0 y1 y2))
  | 0 => fun _ _ _ r h => by simp [paronymlaw03_same.l0] at h
  | k + 1 => by
    have ih0 := paronymlaw03_same.mono_l k
    · intro y0 y1 y2
      unfold paronymlaw03_same.l0
      repeat' first
      | (with_reducible exact ih0 _ _ _)
      | (with_reducible exact LeO.refl _)
      | (with_reducible exact LeO.none _)
      | (with_reducible refine LeO.ite ?_ ?_)
      | (with_reducible refine LeO.bind ?_ (fun _ => ?_))
      | exact ih0 _ _ _
      | exact LeO.none _
      | refine LeO.ite ?_ ?_
      | refine LeO.bind ?_ (fun _ => ?_)
theorem paronymlaw03_same.mono : ∀ a0 a1 k, LeO (paronymlaw03_same.f k a0 a1) (paronymlaw03_same.f (k + 1) a0 a1) := by
  intro a0 a1 k
  have ih0 := paronymlaw03_same.mono_l k
  unfold paronymlaw03_same.f
  repeat' first
      | (with_reducible exact ih0 _ _ _)
      | (with_reducible exact LeO.refl _)
      | (with_reducible exact LeO.none _)
      | (with_reducible refine LeO.ite ?_ ?_)
      | (with_reducible refine LeO.bind ?_ (fun _ => ?_))
      | exact ih0 _ _ _
      | exact LeO.none _
      | refine LeO.ite ?_ ?_
      | refine LeO.bind ?_ (fun _ => ?_)
set_option maxHeartbeats 8000000 in
set_option maxRecDepth 100000 in
theorem paronymlaw03_same.calls (k : Nat) (A0 : Option Addr) (c0 : Nat) (l0 : List (S53)) (A1 : Option Addr) (c1 : Nat) (l1 : List (S53)) (r : Bool) (w : World) (hr0 : Kd.C k53 w A0 l0.length l0) (hc0 : l0.length ≤ c0) (hr1 : Kd.C k53 w A1 l1.length l1) (hc1 : l1.length ≤ c1) (h : paronymlaw03_same.f k l0 l1 = some r) :
    Calls Try.prog 32 #[.slice A0 l0.length c0, .slice A1 l1.length c1] w fun e w' => e = .returned (.bool r) ∧ Drawn0 w w' := by
  have hu53 := Try.underlying53
  have HR0 := Aside0.mk hr0
  have HC0 := Aside0.mk hc0
  clear hr0 hc0
  have HR1 := Aside0.mk hr1
  have HC1 := Aside0.mk hc1
  clear hr1 hc1
  have H : (if (l0.length : Int) = (l1.length : Int) then (paronymlaw03_same.l0 k l0 l1 0) else (some false)) = some r := h
  clear h
  by_cases c3 : (l0.length : Int) = (l1.length : Int)
  · rw [if_pos c3] at H
    have c3b0 : ((l0.length : Int) == (l1.length : Int)) = true := beq_iff_eq.mpr c3
    have c3b1 : ((l0.length : Int) != (l1.length : Int)) = false := bne_eq_false_iff_eq.mpr c3
    have c3b2 : (l0.length == l1.length) = true := by first | simpa using c3 | (simp at c3 ⊢; omega)
    clear c3
    have H' := Aside0.mk H
    clear H
    go_enter Try.func32, Try.ntmps32
    go_wp2
    repeat (go_quiet (fail); try go_wp2)
    go_loopg [5] k (fun kq v5 w' => ∃ (x5_1 : Int), v5 = .int .i64 x5_1 ∧ Aside0 (paronymlaw03_same.l0 kq l0 l1 x5_1 = some r) ∧ Aside0 (kq ≤ k) ∧ Drawn0 w w')
    case atStart => exact ⟨(0), (by first | rfl | (simp; done) | (simp [*]; done)), H', ⟨Nat.le_refl _⟩, by repeat (first | exact Drawn0.refl _ | apply Drawn0.step)⟩
    case round =>
      clear H'
      try clear c1
      try clear p2
      try clear c3
      try clear c3b0
      try clear c3b1
      try clear c3b2
      obtain ⟨x5_1, rfl, HA, HK1, ⟨m1, rfl⟩⟩ := hrel
      cases gk with
      | zero => exact absurd HA.out (by simp [paronymlaw03_same.l0])
      | succ k1 =>
        have H := HA.out
        clear HA
        simp only [paronymlaw03_same.l0] at H
        by_cases c4 : x5_1 < (l0.length : Int)
        · rw [if_pos c4] at H
          have c4b0 : decide (x5_1 < (l0.length : Int)) = true := decide_eq_true c4
          clear c4
          by_cases c5 : 0 ≤ x5_1
          · rw [if_pos c5] at H
            have c5b0 : decide (0 ≤ x5_1) = true := decide_eq_true c5
            clear c5
            by_cases c6 : x5_1 < (l1.length : Int)
            · rw [if_pos c6] at H
              have c6b0 : decide (x5_1 < (l1.length : Int)) = true := decide_eq_true c6
              clear c6
              by_cases c7 : (!(((rd_T53 l0 x5_1).f0) == ((rd_T53 l1 x5_1).f0)) || (!(((rd_T53 l0 x5_1).f1) == ((rd_T53 l1 x5_1).f1)) || (!((((rd_T53 l0 x5_1).f2).toList) == (((rd_T53 l1 x5_1).f2).toList))))) = true
              · rw [if_pos c7] at H
                have c7b0 : (!(((rd_T53 l0 x5_1).f0) == ((rd_T53 l1 x5_1).f0)) || (!(((rd_T53 l0 x5_1).f1) == ((rd_T53 l1 x5_1).f1)) || (!((((rd_T53 l0 x5_1).f2).toList) == (((rd_T53 l1 x5_1).f2).toList))))) = true := c7
                clear c7
                obtain rfl := Option.some.inj H
                have p101 : 0 ≤ (x5_1 : Int) := of_decide_eq_true (by first | (with_reducible assumption) | assumption)
                have q101 : x5_1 < (l0.length : Int) := of_decide_eq_true (by first | (with_reducible assumption) | assumption)
                obtain ⟨ad101, e101, hx101_0, hx101_1, hx101_2⟩ := at_T53 HR0.out x5_1 p101 q101
                cases e101
                replace p101 := eq_true p101
                replace q101 := eq_true q101
                have p102 : 0 ≤ (x5_1 : Int) := of_decide_eq_true (by first | (with_reducible assumption) | assumption)
                have q102 : x5_1 < (l1.length : Int) := of_decide_eq_true (by first | (with_reducible assumption) | assumption)
                obtain ⟨ad102, e102, hx102_0, hx102_1, hx102_2⟩ := at_T53 HR1.out x5_1 p102 q102
                cases e102
                replace p102 := eq_true p102
                replace q102 := eq_true q102
                go_wp2
                repeat (go_quiet (fail); try go_wp2)
                go_ret
                exact ⟨by first | rfl | (simp; done) | (simp [*]; done), by repeat (first | exact Drawn0.refl _ | apply Drawn0.step)⟩
              · rw [if_neg c7] at H
                have c7b0 : (!(((rd_T53 l0 x5_1).f0) == ((rd_T53 l1 x5_1).f0)) || (!(((rd_T53 l0 x5_1).f1) == ((rd_T53 l1 x5_1).f1)) || (!((((rd_T53 l0 x5_1).f2).toList) == (((rd_T53 l1 x5_1).f2).toList))))) = false := by simpa using c7
                clear c7
                have H' := Aside0.mk H
                clear H
                have p101 : 0 ≤ (x5_1 : Int) := of_decide_eq_true (by first | (with_reducible assumption) | assumption)
                have q101 : x5_1 < (l0.length : Int) := of_decide_eq_true (by first | (with_reducible assumption) | assumption)
                obtain ⟨ad101, e101, hx101_0, hx101_1, hx101_2⟩ := at_T53 HR0.out x5_1 p101 q101
                cases e101
                replace p101 := eq_true p101
                replace q101 := eq_true q101
                have p102 : 0 ≤ (x5_1 : Int) := of_decide_eq_true (by first | (with_reducible assumption) | assumption)
                have q102 : x5_1 < (l1.length : Int) := of_decide_eq_true (by first | (with_reducible assumption) | assumption)
                obtain ⟨ad102, e102, hx102_0, hx102_1, hx102_2⟩ := at_T53 HR1.out x5_1 p102 q102
                cases e102
                replace p102 := eq_true p102
                replace q102 := eq_true q102
                go_wp2
                repeat (go_quiet (fail); try go_wp2)
                go_roundg k1
                case measure => have := HK1.out; omega
                case rel => exact ⟨(wrap64 (x5_1 + 1)), (by first | rfl | (simp; done) | (simp [*]; done)), H', ⟨by have := HK1.out; omega⟩, by repeat (first | exact Drawn0.refl _ | apply Drawn0.step)⟩
            · rw [if_neg c6] at H
              exact absurd H (by simp)
          · rw [if_neg c5] at H
            exact absurd H (by simp)
        · rw [if_neg c4] at H
          have c4b0 : decide (x5_1 < (l0.length : Int)) = false := decide_eq_false c4
          clear c4
          obtain rfl := Option.some.inj H
          go_wp2
          repeat (go_quiet (fail); try go_wp2)
          go_ret
          exact ⟨by first | rfl | (simp; done) | (simp [*]; done), by repeat (first | exact Drawn0.refl _ | apply Drawn0.step)⟩
  · rw [if_neg c3] at H
    have c3b0 : ((l0.length : Int) == (l1.length : Int)) = false := beq_eq_false_iff_ne.mpr c3
    have c3b1 : ((l0.length : Int) != (l1.length : Int)) = true := bne_iff_ne.mpr c3
    have c3b2 : (l0.length == l1.length) = false := by first | simpa using c3 | (simp at c3 ⊢; omega)
    obtain rfl := Option.some.inj H
    go_enter Try.func32, Try.ntmps32
    go_wp2
    repeat (go_quiet (fail); try go_wp2)
    go_ret
    exact ⟨by first | rfl | (simp; done) | (simp [*]; done), by repeat (first | exact Drawn0.refl _ | apply Drawn0.step)⟩

end Go.Proofs.Ytlipbiihemhieaa.Q

-- from Qf35
-- Made by hp.py, a program of this session, with the kit's printer. Not trusted: Lean checks it.
namespace Go.Proofs.Ytlipbiihemhieaa.Q
open Go.RowKit Go.Proofs.YtlipbiihemhieaaW.PrintWords Go.Proofs.YtlipbiihemhieaaW.PrintLast Go.Proofs.YtlipbiihemhieaaW.PrintMore
attribute [local go_sem] max2_int min2_int max_two min_two max_three min_three max_four min_four   -- for this text's walks alone
set_option linter.unusedVariables false
set_option linter.unusedSimpArgs false

/-! ### paronymlaw03_plain: function 35 -/
def paronymlaw03_plain.l0 : Nat → List (S43) → List (S53) → Int → Option ((List (S53)))
  | 0, _, _, _ => none
  | k + 1, x0, x3, x4 => if x4 < (x0.length : Int) then (if 0 ≤ x4 then (if x3.length < 4398046511104 then (paronymlaw03_plain.l0 k x0 (x3 ++ [(⟨(rd_T43 x0 x4).f0, (rd_T43 x0 x4).f1, (rd_T43 x0 x4).f2⟩ : S53)]) (wrap64 (x4 + 1))) else (none)) else (none)) else (some x3)
def paronymlaw03_plain.f (k : Nat) (l0 : List (S43)) : Option ((List (S53))) := paronymlaw03_plain.l0 k l0 ([] : List (S53)) 0
theorem paronymlaw03_plain.mono_l : ∀ k, (∀ y0 y1 y2, LeO (paronymlaw03_plain.l0 k y0 y1 y2) (paronymlaw03_plain.l0 (k + 1) y0 y1 y2))
  | 0 => fun _ _ _ r h => by simp [paronymlaw03_plain.l0] at h
  | k + 1 => by
    have ih0 := paronymlaw03_plain.mono_l k
    · intro y0 y1 y2
      unfold paronymlaw03_plain.l0
      repeat' first
      | (with_reducible exact ih0 _ _ _)
      | (with_reducible exact LeO.refl _)
      | (with_reducible exact LeO.none _)
      | (with_reducible refine LeO.ite ?_ ?_)
      | (with_reducible refine LeO.bind ?_ (fun _ => ?_))
      | exact ih0 _ _ _
      | exact LeO.none _
      | refine LeO.ite ?_ ?_
      | refine LeO.bind ?_ (fun _ => ?_)
theorem paronymlaw03_plain.mono : ∀ a0 k, LeO (paronymlaw03_plain.f k a0) (paronymlaw03_plain.f (k + 1) a0) := by
  intro a0 k
  have ih0 := paronymlaw03_plain.mono_l k
  unfold paronymlaw03_plain.f
  repeat' first
      | (with_reducible exact ih0 _ _ _)
      | (with_reducible exact LeO.refl _)
      | (with_reducible exact LeO.none _)
      | (with_reducible refine LeO.ite ?_ ?_)
      | (with_reducible refine LeO.bind ?_ (fun _ => ?_))
      | exact ih0 _ _ _
      | exact LeO.none _
      | refine LeO.ite ?_ ?_
      | refine LeO.bind ?_ (fun _ => ?_)
def paronymlaw03_plain.T5 : Bool × List (List Nat × List Nat) := (true, [([], []), ([], []), ([], []), ([1, 2], [1, 2]), ([3], [3]), ([4], [4]), ([], []), ([], []), ([6, 7], [6, 7]), ([8], [8]), ([9], [9]), ([], []), ([], []), ([11, 12], [11, 12]), ([13], [13]), ([14], [14]), ([5, 10, 15], [5, 10, 15]), ([16], [16]), ([0, 17], [0, 17]), ([18, 18, 0, 1, 2, 3, 4, 5, 6, 7, 8, 9, 10, 11, 12, 13, 14, 15, 16, 17, 18], [0, 18])])
def paronymlaw03_plain.B5 : List Nat := [0, 0, 0, 6, 14, 30, 0, 0, 192, 448, 960, 0, 0, 6144, 14336, 30720, 65534, 131070, 262143, 524287]
theorem paronymlaw03_plain.tab5 : rtab .any (opsOf Try.f35 5) = paronymlaw03_plain.T5 := by kernel_rfl
theorem paronymlaw03_plain.bits5 : waitsOk paronymlaw03_plain.T5.2 paronymlaw03_plain.B5 = true := by kernel_rfl
set_option maxHeartbeats 8000000 in
set_option maxRecDepth 100000 in
theorem paronymlaw03_plain.calls (k : Nat) (A0 : Option Addr) (c0 : Nat) (l0 : List (S43)) (r : List (S53)) (w : World) (hr0 : Kd.C k43 w A0 l0.length l0) (hc0 : l0.length ≤ c0) (h : paronymlaw03_plain.f k l0 = some r) :
    Calls Try.prog 35 #[.slice A0 l0.length c0] w fun e w' => ∃ v0_ : Value, e = .returned (v0_) ∧ Kd.R k53 53 w' w.heap.size (fun _ => True) v0_ r ∧ Below w.heap.size w w' := by
  have hu53 := Try.underlying53
  have HR0 := Aside0.mk hr0
  have HC0 := Aside0.mk hc0
  clear hr0 hc0
  have HB := Aside0.mk (Below.refl w.heap.size w)
  have H : (paronymlaw03_plain.l0 k l0 ([] : List (S53)) 0) = some r := h
  clear h
  have H' := Aside0.mk H
  clear H
  go_enter Try.func35, Try.ntmps35
  go_wp2
  go_loopg [3, 4] k (fun kq v3 v4 w' => ∃ (x3_1 : List (S53)) (x4_1 : Int), v4 = .int .i64 x4_1 ∧ Aside0 (paronymlaw03_plain.l0 kq l0 x3_1 x4_1 = some r) ∧ Aside0 (kq ≤ k) ∧ Aside0 (Kd.R k53 53 w' w.heap.size (fun _ => True) v3 x3_1) ∧ Aside0 (Below w.heap.size w w'))
  case atStart => exact ⟨(([] : List (S53))), (0), (by first | rfl | (simp; done) | (simp [*]; done)), H', ⟨Nat.le_refl _⟩, ⟨by first | exact Kd.R_nil _ _ _ _ _ | exact Kd.N_nil _ _ _ _ _ | exact Kd.V_nil _ _ _ _ _ | exact Kd.Q_nil _ _ _ _ _ | exact Kd.S_nil _ _ _ _ _⟩, ⟨by repeat (first | (with_reducible first | exact HB.out | apply below_alloc | apply pw_below_drewN | apply below_drew1) | exact HB.out)⟩⟩
  case round =>
    clear H'
    obtain ⟨x3_1, x4_1, rfl, HA, HK1, HO_3, HB⟩ := hrel
    cases gk with
    | zero => exact absurd HA.out (by simp [paronymlaw03_plain.l0])
    | succ k1 =>
      have H := HA.out
      clear HA
      simp only [paronymlaw03_plain.l0] at H
      by_cases c2 : x4_1 < (l0.length : Int)
      · rw [if_pos c2] at H
        have c2b0 : decide (x4_1 < (l0.length : Int)) = true := decide_eq_true c2
        clear c2
        by_cases c3 : 0 ≤ x4_1
        · rw [if_pos c3] at H
          have c3b0 : decide (0 ≤ x4_1) = true := decide_eq_true c3
          clear c3
          by_cases c4 : x3_1.length < 4398046511104
          · rw [if_pos c4] at H
            have LMc4 := Aside0.mk c4
            clear c4
            obtain ⟨y104, hy104⟩ : ∃ y_ : List (S53), y_ = (x3_1 ++ [(⟨(rd_T43 l0 x4_1).f0, (rd_T43 l0 x4_1).f1, (rd_T43 l0 x4_1).f2⟩ : S53)]) := ⟨_, rfl⟩
            replace H : (paronymlaw03_plain.l0 k1 l0 y104 (wrap64 (x4_1 + 1))) = some r := by first | (rw [hy104]; with_reducible exact H) | (have H2_ := (Option.bind_some _ _).symm.trans H; rw [hy104]; with_reducible exact H2_) | (have H2_ := (Option.bind_some _ _).symm.trans H; with_reducible exact H2_) | with_reducible exact H | (rw [hy104]; exact H) | exact H
            have Ny104 := Aside0.mk hy104
            clear hy104
            have H' := Aside0.mk H
            clear H
            try go_wp2
            have n0_ := Aside0.mk (Kd.R_drew HO_3.out)
            have n1_ := Aside0.mk (below_drew1 HB.out)
            clear HO_3
            clear HB
            have HO_3 := n0_
            have HB := n1_
            clear n0_ n1_
            have p101 : 0 ≤ (x4_1 : Int) := of_decide_eq_true (by first | (with_reducible assumption) | assumption)
            have q101 : x4_1 < (l0.length : Int) := of_decide_eq_true (by first | (with_reducible assumption) | assumption)
            obtain ⟨ad101, e101, hx101_0, hx101_1, hx101_2⟩ := at_T43 HR0.out x4_1 p101 q101
            have hw101_2 := hx101_2
            have hw101_1 := hx101_1
            have hw101_0 := hx101_0
            cases e101
            replace hx101_0 := (HB.out.cell (World.block_lt_of_cell? w _ hx101_0)).trans hx101_0
            replace hx101_1 := (HB.out.cell (World.block_lt_of_cell? w _ hx101_1)).trans hx101_1
            replace hx101_2 := (HB.out.cell (World.block_lt_of_cell? w _ hx101_2)).trans hx101_2
            replace p101 := eq_true p101
            replace q101 := eq_true q101
            have p102 : 0 ≤ (x4_1 : Int) := of_decide_eq_true (by first | (with_reducible assumption) | assumption)
            have q102 : x4_1 < (l0.length : Int) := of_decide_eq_true (by first | (with_reducible assumption) | assumption)
            obtain ⟨ad102, e102, hx102_0, hx102_1, hx102_2⟩ := at_T43 HR0.out x4_1 p102 q102
            have hw102_2 := hx102_2
            have hw102_1 := hx102_1
            have hw102_0 := hx102_0
            obtain rfl : ad101 = ad102 := (by injection e102)
            replace hx102_0 := (HB.out.cell (World.block_lt_of_cell? w _ hx102_0)).trans hx102_0
            replace hx102_1 := (HB.out.cell (World.block_lt_of_cell? w _ hx102_1)).trans hx102_1
            replace hx102_2 := (HB.out.cell (World.block_lt_of_cell? w _ hx102_2)).trans hx102_2
            replace p102 := eq_true p102
            replace q102 := eq_true q102
            have p103 : 0 ≤ (x4_1 : Int) := of_decide_eq_true (by first | (with_reducible assumption) | assumption)
            have q103 : x4_1 < (l0.length : Int) := of_decide_eq_true (by first | (with_reducible assumption) | assumption)
            obtain ⟨ad103, e103, hx103_0, hx103_1, hx103_2⟩ := at_T43 HR0.out x4_1 p103 q103
            have hw103_2 := hx103_2
            have hw103_1 := hx103_1
            have hw103_0 := hx103_0
            obtain rfl : ad101 = ad103 := (by injection e103)
            replace hx103_0 := (HB.out.cell (World.block_lt_of_cell? w _ hx103_0)).trans hx103_0
            replace hx103_1 := (HB.out.cell (World.block_lt_of_cell? w _ hx103_1)).trans hx103_1
            replace hx103_2 := (HB.out.cell (World.block_lt_of_cell? w _ hx103_2)).trans hx103_2
            replace p103 := eq_true p103
            replace q103 := eq_true q103
            refine start_ (n := 20) (S := fun w' => w'.cell? (ad101.add ((x4_1).toNat * 3)) = some (.int .i64 ((rd_T43 l0 x4_1).f0)) ∧ w'.cell? ⟨(ad101.add ((x4_1).toNat * 3)).block, (ad101.add ((x4_1).toNat * 3)).off + 1, none⟩ = some (.int .i64 ((rd_T43 l0 x4_1).f1)) ∧ w'.cell? ⟨(ad101.add ((x4_1).toNat * 3)).block, (ad101.add ((x4_1).toNat * 3)).off + 2, none⟩ = some (.string ((rd_T43 l0 x4_1).f2)) ∧ w'.cell? (ad101.add ((x4_1).toNat * 3)) = some (.int .i64 ((rd_T43 l0 x4_1).f0)) ∧ w'.cell? ⟨(ad101.add ((x4_1).toNat * 3)).block, (ad101.add ((x4_1).toNat * 3)).off + 1, none⟩ = some (.int .i64 ((rd_T43 l0 x4_1).f1)) ∧ w'.cell? ⟨(ad101.add ((x4_1).toNat * 3)).block, (ad101.add ((x4_1).toNat * 3)).off + 2, none⟩ = some (.string ((rd_T43 l0 x4_1).f2)) ∧ w'.cell? (ad101.add ((x4_1).toNat * 3)) = some (.int .i64 ((rd_T43 l0 x4_1).f0)) ∧ w'.cell? ⟨(ad101.add ((x4_1).toNat * 3)).block, (ad101.add ((x4_1).toNat * 3)).off + 1, none⟩ = some (.int .i64 ((rd_T43 l0 x4_1).f1)) ∧ w'.cell? ⟨(ad101.add ((x4_1).toNat * 3)).block, (ad101.add ((x4_1).toNat * 3)).off + 2, none⟩ = some (.string ((rd_T43 l0 x4_1).f2))) (ds := []) #[false, false, false, false, false, false, false, false, false, false, false, false, false, false, false, false, false, false, false, false] (by kernel_rfl) rfl rfl ⟨((HB.out.cell (World.block_lt_of_cell? w _ hw101_0)).trans hw101_0), ((HB.out.cell (World.block_lt_of_cell? w _ hw101_1)).trans hw101_1), ((HB.out.cell (World.block_lt_of_cell? w _ hw101_2)).trans hw101_2), ((HB.out.cell (World.block_lt_of_cell? w _ hw102_0)).trans hw102_0), ((HB.out.cell (World.block_lt_of_cell? w _ hw102_1)).trans hw102_1), ((HB.out.cell (World.block_lt_of_cell? w _ hw102_2)).trans hw102_2), ((HB.out.cell (World.block_lt_of_cell? w _ hw103_0)).trans hw103_0), ((HB.out.cell (World.block_lt_of_cell? w _ hw103_1)).trans hw103_1), ((HB.out.cell (World.block_lt_of_cell? w _ hw103_2)).trans hw103_2)⟩ (fun hHeld => ?_); refine with_tabW paronymlaw03_plain.tab5 paronymlaw03_plain.bits5 (fun HT_ HW_ => ?_)
            generalize wr.drew = w5 at HO_3 HB hx101_0 hx101_1 hx101_2 hx102_0 hx102_1 hx102_2 hx103_0 hx103_1 hx103_2 hHeld ⊢
            refine pure_ (i := 0) (N := some 11) (v := ?_) (a' := ?_) #[true, false, false, false, false, false, false, false, false, false, false, false, false, false, false, false, false, false, false, false] rfl rfl (any_of HT_.out (by kernel_rfl)) (fun _ _ _ h => h) (Or.inl ⟨by rfl, ?_⟩) ?_ ?_
            rotate_left
            · intro w'
              go_simp
              with_reducible rfl
            rotate_left
            · simp only [Act.put, List.setIfInBounds_toArray, List.set_cons_zero, List.set_cons_succ, i64_w, i32_w]
              rfl
            refine pure_ (i := 1) (N := some 12) (v := ?_) (a' := ?_) #[true, true, false, false, false, false, false, false, false, false, false, false, false, false, false, false, false, false, false, false] rfl rfl (any_of HT_.out (by kernel_rfl)) (fun _ _ _ h => h) (Or.inl ⟨by rfl, ?_⟩) ?_ ?_
            rotate_left
            · intro w'
              go_simp
              with_reducible rfl
            rotate_left
            · simp only [Act.put, List.setIfInBounds_toArray, List.set_cons_zero, List.set_cons_succ, i64_w, i32_w]
              rfl
            refine pure_ (i := 2) (N := some 13) (v := ?_) (a' := ?_) #[true, true, true, false, false, false, false, false, false, false, false, false, false, false, false, false, false, false, false, false] rfl rfl (any_of HT_.out (by kernel_rfl)) (fun _ _ _ h => h) (Or.inl ⟨by rfl, ?_⟩) ?_ ?_
            rotate_left
            · intro w'
              go_simp
              with_reducible rfl
            rotate_left
            · simp only [Act.put, List.setIfInBounds_toArray, List.set_cons_zero, List.set_cons_succ, i64_w, i32_w]
              rfl
            refine pure_ (i := 3) (N := some 14) (v := ?_) (a' := ?_) #[true, true, true, true, false, false, false, false, false, false, false, false, false, false, false, false, false, false, false, false] rfl rfl (any_of HT_.out (by kernel_rfl)) (fun _ _ _ h => h) (Or.inl ⟨by rfl, ?_⟩) ?_ ?_
            rotate_left
            · intro w'
              go_simp
              with_reducible rfl
            rotate_left
            · simp only [Act.put, List.setIfInBounds_toArray, List.set_cons_zero, List.set_cons_succ, i64_w, i32_w]
              rfl
            refine pure_ (i := 4) (N := some 15) (v := ?_) (a' := ?_) #[true, true, true, true, true, false, false, false, false, false, false, false, false, false, false, false, false, false, false, false] rfl rfl (any_of HT_.out (by kernel_rfl)) (fun _ _ _ h => h) (Or.inl ⟨by rfl, ?_⟩) ?_ ?_
            rotate_left
            · intro w'
              go_simp
              with_reducible rfl
            rotate_left
            · simp only [Act.put, List.setIfInBounds_toArray, List.set_cons_zero, List.set_cons_succ, i64_w, i32_w]
              rfl
            refine pure_ (i := 6) (N := some 17) (v := ?_) (a' := ?_) #[true, true, true, true, true, false, true, false, false, false, false, false, false, false, false, false, false, false, false, false] rfl rfl (any_of HT_.out (by kernel_rfl)) (fun _ _ _ h => h) (Or.inl ⟨by rfl, ?_⟩) ?_ ?_
            rotate_left
            · intro w'
              go_simp
              with_reducible rfl
            rotate_left
            · simp only [Act.put, List.setIfInBounds_toArray, List.set_cons_zero, List.set_cons_succ, i64_w, i32_w]
              rfl
            refine pure_ (i := 7) (N := some 18) (v := ?_) (a' := ?_) #[true, true, true, true, true, false, true, true, false, false, false, false, false, false, false, false, false, false, false, false] rfl rfl (any_of HT_.out (by kernel_rfl)) (fun _ _ _ h => h) (Or.inl ⟨by rfl, ?_⟩) ?_ ?_
            rotate_left
            · intro w'
              go_simp
              with_reducible rfl
            rotate_left
            · simp only [Act.put, List.setIfInBounds_toArray, List.set_cons_zero, List.set_cons_succ, i64_w, i32_w]
              rfl
            refine pure_ (i := 8) (N := some 19) (v := ?_) (a' := ?_) #[true, true, true, true, true, false, true, true, true, false, false, false, false, false, false, false, false, false, false, false] rfl rfl (any_of HT_.out (by kernel_rfl)) (fun _ _ _ h => h) (Or.inl ⟨by rfl, ?_⟩) ?_ ?_
            rotate_left
            · intro w'
              go_simp
              with_reducible rfl
            rotate_left
            · simp only [Act.put, List.setIfInBounds_toArray, List.set_cons_zero, List.set_cons_succ, i64_w, i32_w]
              rfl
            refine pure_ (i := 9) (N := some 20) (v := ?_) (a' := ?_) #[true, true, true, true, true, false, true, true, true, true, false, false, false, false, false, false, false, false, false, false] rfl rfl (any_of HT_.out (by kernel_rfl)) (fun _ _ _ h => h) (Or.inl ⟨by rfl, ?_⟩) ?_ ?_
            rotate_left
            · intro w'
              go_simp
              with_reducible rfl
            rotate_left
            · simp only [Act.put, List.setIfInBounds_toArray, List.set_cons_zero, List.set_cons_succ, i64_w, i32_w]
              rfl
            refine pure_ (i := 11) (N := some 22) (v := ?_) (a' := ?_) #[true, true, true, true, true, false, true, true, true, true, false, true, false, false, false, false, false, false, false, false] rfl rfl (any_of HT_.out (by kernel_rfl)) (fun _ _ _ h => h) (Or.inl ⟨by rfl, ?_⟩) ?_ ?_
            rotate_left
            · intro w'
              go_simp
              with_reducible rfl
            rotate_left
            · simp only [Act.put, List.setIfInBounds_toArray, List.set_cons_zero, List.set_cons_succ, i64_w, i32_w]
              rfl
            refine pure_ (i := 12) (N := some 23) (v := ?_) (a' := ?_) #[true, true, true, true, true, false, true, true, true, true, false, true, true, false, false, false, false, false, false, false] rfl rfl (any_of HT_.out (by kernel_rfl)) (fun _ _ _ h => h) (Or.inl ⟨by rfl, ?_⟩) ?_ ?_
            rotate_left
            · intro w'
              go_simp
              with_reducible rfl
            rotate_left
            · simp only [Act.put, List.setIfInBounds_toArray, List.set_cons_zero, List.set_cons_succ, i64_w, i32_w]
              rfl
            refine pure_ (i := 13) (N := some 24) (v := ?_) (a' := ?_) #[true, true, true, true, true, false, true, true, true, true, false, true, true, true, false, false, false, false, false, false] rfl rfl (any_of HT_.out (by kernel_rfl)) (fun _ _ _ h => h) (Or.inl ⟨by rfl, ?_⟩) ?_ ?_
            rotate_left
            · intro w'
              go_simp
              with_reducible rfl
            rotate_left
            · simp only [Act.put, List.setIfInBounds_toArray, List.set_cons_zero, List.set_cons_succ, i64_w, i32_w]
              rfl
            refine pure_ (i := 14) (N := some 25) (v := ?_) (a' := ?_) #[true, true, true, true, true, false, true, true, true, true, false, true, true, true, true, false, false, false, false, false] rfl rfl (any_of HT_.out (by kernel_rfl)) (fun _ _ _ h => h) (Or.inl ⟨by rfl, ?_⟩) ?_ ?_
            rotate_left
            · intro w'
              go_simp
              with_reducible rfl
            rotate_left
            · simp only [Act.put, List.setIfInBounds_toArray, List.set_cons_zero, List.set_cons_succ, i64_w, i32_w]
              rfl
            refine take_ (i := 5) (N := some 16) (v := ?_) (a' := ?_) #[true, true, true, true, true, true, true, true, true, true, false, true, true, true, true, false, false, false, false, false] rfl rfl (take_ofW HT_.out HW_.out (by kernel_rfl)) (fun _ _ _ h => h) (Or.inl ⟨by rfl, ?_⟩) hHeld ?_ ?_
            rotate_left
            · rintro w' ⟨s0, s1, s2, s3, s4, s5, s6, s7, s8⟩
              go_simp
              with_reducible rfl
            rotate_left
            · simp only [Act.put, List.setIfInBounds_toArray, List.set_cons_zero, List.set_cons_succ, i64_w, i32_w]
              rfl
            refine take_ (i := 10) (N := some 21) (v := ?_) (a' := ?_) #[true, true, true, true, true, true, true, true, true, true, true, true, true, true, true, false, false, false, false, false] rfl rfl (take_ofW HT_.out HW_.out (by kernel_rfl)) (fun _ _ _ h => h) (Or.inl ⟨by rfl, ?_⟩) hHeld ?_ ?_
            rotate_left
            · rintro w' ⟨s0, s1, s2, s3, s4, s5, s6, s7, s8⟩
              go_simp
              with_reducible rfl
            rotate_left
            · simp only [Act.put, List.setIfInBounds_toArray, List.set_cons_zero, List.set_cons_succ, i64_w, i32_w]
              rfl
            refine take_ (i := 15) (N := some 26) (v := ?_) (a' := ?_) #[true, true, true, true, true, true, true, true, true, true, true, true, true, true, true, true, false, false, false, false] rfl rfl (take_ofW HT_.out HW_.out (by kernel_rfl)) (fun _ _ _ h => h) (Or.inl ⟨by rfl, ?_⟩) hHeld ?_ ?_
            rotate_left
            · rintro w' ⟨s0, s1, s2, s3, s4, s5, s6, s7, s8⟩
              go_simp
              with_reducible rfl
            rotate_left
            · simp only [Act.put, List.setIfInBounds_toArray, List.set_cons_zero, List.set_cons_succ, i64_w, i32_w]
              rfl
            refine pure_ (i := 16) (N := some 27) (v := ?_) (a' := ?_) #[true, true, true, true, true, true, true, true, true, true, true, true, true, true, true, true, true, false, false, false] rfl rfl (any_of HT_.out (by kernel_rfl)) (fun _ _ _ h => h) (Or.inl ⟨by rfl, ?_⟩) ?_ ?_
            rotate_left
            · intro w'
              go_simp
              with_reducible rfl
            rotate_left
            · simp only [Act.put, List.setIfInBounds_toArray, List.set_cons_zero, List.set_cons_succ, i64_w, i32_w]
              rfl
            refine one_ (i := 17) (N := some 28) #[true, true, true, true, true, true, true, true, true, true, true, true, true, true, true, true, true, true, false, false] rfl rfl (one_of HT_.out (by kernel_rfl)) (by decide) (fun K hK => ?_)
            refine value_ (w1 := ?_) (v := ?_) (by rfl) rfl ?_ ?_
            rotate_left 2
            · go_simp
              constructor
              · rfl
              · rfl
            refine hK.out _ _ ⟨(World.cell?_alloc_lt _ _ _ (World.block_lt_of_cell? _ _ (((HB.out.cell (World.block_lt_of_cell? w _ hw101_0)).trans hw101_0)))).trans (((HB.out.cell (World.block_lt_of_cell? w _ hw101_0)).trans hw101_0)), (World.cell?_alloc_lt _ _ _ (World.block_lt_of_cell? _ _ (((HB.out.cell (World.block_lt_of_cell? w _ hw101_1)).trans hw101_1)))).trans (((HB.out.cell (World.block_lt_of_cell? w _ hw101_1)).trans hw101_1)), (World.cell?_alloc_lt _ _ _ (World.block_lt_of_cell? _ _ (((HB.out.cell (World.block_lt_of_cell? w _ hw101_2)).trans hw101_2)))).trans (((HB.out.cell (World.block_lt_of_cell? w _ hw101_2)).trans hw101_2)), (World.cell?_alloc_lt _ _ _ (World.block_lt_of_cell? _ _ (((HB.out.cell (World.block_lt_of_cell? w _ hw102_0)).trans hw102_0)))).trans (((HB.out.cell (World.block_lt_of_cell? w _ hw102_0)).trans hw102_0)), (World.cell?_alloc_lt _ _ _ (World.block_lt_of_cell? _ _ (((HB.out.cell (World.block_lt_of_cell? w _ hw102_1)).trans hw102_1)))).trans (((HB.out.cell (World.block_lt_of_cell? w _ hw102_1)).trans hw102_1)), (World.cell?_alloc_lt _ _ _ (World.block_lt_of_cell? _ _ (((HB.out.cell (World.block_lt_of_cell? w _ hw102_2)).trans hw102_2)))).trans (((HB.out.cell (World.block_lt_of_cell? w _ hw102_2)).trans hw102_2)), (World.cell?_alloc_lt _ _ _ (World.block_lt_of_cell? _ _ (((HB.out.cell (World.block_lt_of_cell? w _ hw103_0)).trans hw103_0)))).trans (((HB.out.cell (World.block_lt_of_cell? w _ hw103_0)).trans hw103_0)), (World.cell?_alloc_lt _ _ _ (World.block_lt_of_cell? _ _ (((HB.out.cell (World.block_lt_of_cell? w _ hw103_1)).trans hw103_1)))).trans (((HB.out.cell (World.block_lt_of_cell? w _ hw103_1)).trans hw103_1)), (World.cell?_alloc_lt _ _ _ (World.block_lt_of_cell? _ _ (((HB.out.cell (World.block_lt_of_cell? w _ hw103_2)).trans hw103_2)))).trans (((HB.out.cell (World.block_lt_of_cell? w _ hw103_2)).trans hw103_2))⟩ (fun hHeld => ?_)
            clear hK K
            refine norm_ (a' := ?_) ?_ ?_
            rotate_left
            · show Act.put _ (some 28) _ = _
              simp only [Act.put, List.setIfInBounds_toArray, List.set_cons_zero, List.set_cons_succ, i64_w, i32_w]
              rfl
            refine one_ (i := 18) (N := some 29) #[true, true, true, true, true, true, true, true, true, true, true, true, true, true, true, true, true, true, true, false] rfl rfl (one_of HT_.out (by kernel_rfl)) (by decide) (fun K hK => ?_)
            refine Kd.R_append_step k53 (w0 := w) w.heap.size (by rfl) (.tmp 11) (.tmp 28) 49 53 (.agg #[(.int .i64 0), (.int .i64 0), (.string ⟨#[]⟩)]) 32 rfl Try.underlying49 info53 rfl (by decide) (by omega) u3 x3_1 (⟨(rd_T43 l0 x4_1).f0, (rd_T43 l0 x4_1).f1, (rd_T43 l0 x4_1).f2⟩ : S53) [.int .i64 ((rd_T43 l0 x4_1).f0), .int .i64 ((rd_T43 l0 x4_1).f1), .string ((rd_T43 l0 x4_1).f2)] (fun _ => True) (fun _ => False) rfl rfl ?aP (fun _ hk => hk.elim) ?aF ?aO ?aB ?aS ?aL ?_
            (case aP => exact k53_mkM _ _ _ (⟨(rd_T43 l0 x4_1).f0, (rd_T43 l0 x4_1).f1, (rd_T43 l0 x4_1).f2⟩ : S53))
            (case aB => exact (by repeat (first | (with_reducible first | exact HB.out | apply below_alloc | apply pw_below_drewN | apply below_drew1) | exact HB.out)))
            (case aF => exact (fun _ _ => trivial))
            (case aO => exact (by (with_reducible repeat (first | apply Kd.R_alloc | apply Kd.R_drewN | apply Kd.R_drew)); exact HO_3.out))
            (case aS => exact (below_size (by repeat (first | (with_reducible first | exact HB.out | apply below_alloc | apply pw_below_drewN | apply below_drew1) | exact HB.out))))
            (case aL => have := LMc4.out; omega)
            intro v105 w6 ho hb hg hat
            rw [← Ny104.out] at ho
            have n0_ := Aside0.mk (hb)
            have n1_ := Aside0.mk (ho)
            clear HB
            clear HO_3
            have HB := n0_
            have HO106 := n1_
            clear n0_ n1_
            clear ho hb hg hat
            refine hK.out _ _ ⟨((HB.out.cell (World.block_lt_of_cell? w _ hw101_0)).trans hw101_0), ((HB.out.cell (World.block_lt_of_cell? w _ hw101_1)).trans hw101_1), ((HB.out.cell (World.block_lt_of_cell? w _ hw101_2)).trans hw101_2), ((HB.out.cell (World.block_lt_of_cell? w _ hw102_0)).trans hw102_0), ((HB.out.cell (World.block_lt_of_cell? w _ hw102_1)).trans hw102_1), ((HB.out.cell (World.block_lt_of_cell? w _ hw102_2)).trans hw102_2), ((HB.out.cell (World.block_lt_of_cell? w _ hw103_0)).trans hw103_0), ((HB.out.cell (World.block_lt_of_cell? w _ hw103_1)).trans hw103_1), ((HB.out.cell (World.block_lt_of_cell? w _ hw103_2)).trans hw103_2)⟩ (fun hHeld => ?_)
            clear hK K
            refine norm_ (a' := ?_) ?_ ?_
            rotate_left
            · show Act.put _ (some 29) _ = _
              simp only [Act.put, List.setIfInBounds_toArray, List.set_cons_zero, List.set_cons_succ, i64_w, i32_w]
              rfl
            refine pure_ (i := 19) (N := some 3) (v := ?_) (a' := ?_) #[true, true, true, true, true, true, true, true, true, true, true, true, true, true, true, true, true, true, true, true] rfl rfl (any_of HT_.out (by kernel_rfl)) (fun _ _ _ h => h) (Or.inl ⟨by rfl, ?_⟩) ?_ ?_
            rotate_left
            · intro w'
              go_simp
              with_reducible rfl
            rotate_left
            · simp only [Act.put, List.setIfInBounds_toArray, List.set_cons_zero, List.set_cons_succ, i64_w, i32_w]
              rfl
            refine done_ (done_of HT_.out (by kernel_rfl)) ?_
            try go_wp2
            go_roundg k1
            case measure => have := HK1.out; omega
            case rel => exact ⟨(y104), (wrap64 (x4_1 + 1)), (by first | rfl | (simp; done) | (simp [*]; done)), H', ⟨by have := HK1.out; omega⟩, ⟨by (with_reducible repeat (first | apply Kd.R_alloc | apply Kd.R_drewN | apply Kd.R_drew)); exact HO106.out⟩, ⟨by repeat (first | (with_reducible first | exact HB.out | apply below_alloc | apply pw_below_drewN | apply below_drew1) | exact HB.out)⟩⟩
          · rw [if_neg c4] at H
            exact absurd H (by simp)
        · rw [if_neg c3] at H
          exact absurd H (by simp)
      · rw [if_neg c2] at H
        have c2b0 : decide (x4_1 < (l0.length : Int)) = false := decide_eq_false c2
        clear c2
        obtain rfl := Option.some.inj H
        go_wp2
        go_ret
        exact ⟨_, by first | rfl | (simp [errW_none, errW_some] <;> rfl) | (simp [*, errW_none, errW_some] <;> rfl), by (with_reducible repeat (first | apply Kd.R_alloc | apply Kd.R_drewN | apply Kd.R_drew)); exact HO_3.out, by repeat (first | (with_reducible first | exact HB.out | apply below_alloc | apply pw_below_drewN | apply below_drew1) | exact HB.out)⟩

end Go.Proofs.Ytlipbiihemhieaa.Q

-- from Qf31
-- Made by hp.py, a program of this session, with the kit's printer. Not trusted: Lean checks it.
namespace Go.Proofs.Ytlipbiihemhieaa.Q
open Go.RowKit Go.Proofs.YtlipbiihemhieaaW.PrintWords Go.Proofs.YtlipbiihemhieaaW.PrintLast Go.Proofs.YtlipbiihemhieaaW.PrintMore
attribute [local go_sem] max2_int min2_int max_two min_two max_three min_three max_four min_four   -- for this text's walks alone
set_option linter.unusedVariables false
set_option linter.unusedSimpArgs false

/-! ### paronymref03_Check: function 31 -/
mutual
def paronymref03_Check.j0 : Nat → List (S53) → Bool → Int → Int → ByteArray → Option (Int)
  | 0, _, _, _, _, _ => none
  | k + 1, x0, x20, x102000, x102001, x102002 => if x20 = true then (some 14) else (if x102002.toList = ([] : List UInt8) then (some 16) else (paronymref03_Check.l0 k x0 0 x102000 x102001 x102002))
def paronymref03_Check.l0 : Nat → List (S53) → Int → Int → Int → ByteArray → Option (Int)
  | 0, _, _, _, _, _ => none
  | k + 1, x0, x5, x102000, x102001, x102002 => if x5 < (x0.length : Int) then (if 0 ≤ x5 then (if ((rd_T53 x0 x5).f0) ≤ x102001 then (if x102000 ≤ ((rd_T53 x0 x5).f1) then (some 15) else (paronymref03_Check.l0 k x0 (wrap64 (x5 + 1)) x102000 x102001 x102002)) else (paronymref03_Check.l0 k x0 (wrap64 (x5 + 1)) x102000 x102001 x102002)) else (none)) else (some 0)
end
def paronymref03_Check.f (k : Nat) (l0 : List (S53)) (a1_0 : Int) (a1_1 : Int) (a1_2 : ByteArray) : Option (Int) := if a1_0 < 0 then (paronymref03_Check.j0 k l0 true a1_0 a1_1 a1_2) else (if a1_1 > 1114111 then (paronymref03_Check.j0 k l0 true a1_0 a1_1 a1_2) else (paronymref03_Check.j0 k l0 (decide (a1_1 < a1_0)) a1_0 a1_1 a1_2))
theorem paronymref03_Check.mono_l : ∀ k, (∀ y0 y1 y2 y3 y4, LeO (paronymref03_Check.j0 k y0 y1 y2 y3 y4) (paronymref03_Check.j0 (k + 1) y0 y1 y2 y3 y4)) ∧ (∀ y0 y1 y2 y3 y4, LeO (paronymref03_Check.l0 k y0 y1 y2 y3 y4) (paronymref03_Check.l0 (k + 1) y0 y1 y2 y3 y4))
  | 0 => ⟨fun _ _ _ _ _ r h => by simp [paronymref03_Check.j0] at h, fun _ _ _ _ _ r h => by simp [paronymref03_Check.l0] at h⟩
  | k + 1 => by
    obtain ⟨ih0, ih1⟩ := paronymref03_Check.mono_l k
    refine ⟨?_, ?_⟩
    · intro y0 y1 y2 y3 y4
      unfold paronymref03_Check.j0
      repeat' first
      | (with_reducible exact ih0 _ _ _ _ _)
      | (with_reducible exact ih1 _ _ _ _ _)
      | (with_reducible exact LeO.refl _)
      | (with_reducible exact LeO.none _)
      | (with_reducible refine LeO.ite ?_ ?_)
      | (with_reducible refine LeO.bind ?_ (fun _ => ?_))
      | exact ih0 _ _ _ _ _
      | exact ih1 _ _ _ _ _
      | exact LeO.none _
      | refine LeO.ite ?_ ?_
      | refine LeO.bind ?_ (fun _ => ?_)
    · intro y0 y1 y2 y3 y4
      unfold paronymref03_Check.l0
      repeat' first
      | (with_reducible exact ih0 _ _ _ _ _)
      | (with_reducible exact ih1 _ _ _ _ _)
      | (with_reducible exact LeO.refl _)
      | (with_reducible exact LeO.none _)
      | (with_reducible refine LeO.ite ?_ ?_)
      | (with_reducible refine LeO.bind ?_ (fun _ => ?_))
      | exact ih0 _ _ _ _ _
      | exact ih1 _ _ _ _ _
      | exact LeO.none _
      | refine LeO.ite ?_ ?_
      | refine LeO.bind ?_ (fun _ => ?_)
theorem paronymref03_Check.mono : ∀ a0 a1 a2 a3 k, LeO (paronymref03_Check.f k a0 a1 a2 a3) (paronymref03_Check.f (k + 1) a0 a1 a2 a3) := by
  intro a0 a1 a2 a3 k
  obtain ⟨ih0, ih1⟩ := paronymref03_Check.mono_l k
  unfold paronymref03_Check.f
  repeat' first
      | (with_reducible exact ih0 _ _ _ _ _)
      | (with_reducible exact ih1 _ _ _ _ _)
      | (with_reducible exact LeO.refl _)
      | (with_reducible exact LeO.none _)
      | (with_reducible refine LeO.ite ?_ ?_)
      | (with_reducible refine LeO.bind ?_ (fun _ => ?_))
      | exact ih0 _ _ _ _ _
      | exact ih1 _ _ _ _ _
      | exact LeO.none _
      | refine LeO.ite ?_ ?_
      | refine LeO.bind ?_ (fun _ => ?_)
set_option maxHeartbeats 8000000 in
set_option maxRecDepth 100000 in
theorem paronymref03_Check.calls (k : Nat) (A0 : Option Addr) (c0 : Nat) (l0 : List (S53)) (a1_0 : Int) (a1_1 : Int) (a1_2 : ByteArray) (r : Int) (w : World) (hr0 : Kd.C k53 w A0 l0.length l0) (hc0 : l0.length ≤ c0) (h : paronymref03_Check.f k l0 a1_0 a1_1 a1_2 = some r) :
    Calls Try.prog 31 #[.slice A0 l0.length c0, .agg #[.int .i64 a1_0, .int .i64 a1_1, .string a1_2]] w fun e w' => e = .returned (.int .i64 r) ∧ Below w.heap.size w w' := by
  have hu53 := Try.underlying53
  have HR0 := Aside0.mk hr0
  have HC0 := Aside0.mk hc0
  clear hr0 hc0
  have HB := Aside0.mk (Below.refl w.heap.size w)
  have H : (if a1_0 < 0 then (paronymref03_Check.j0 k l0 true a1_0 a1_1 a1_2) else (if a1_1 > 1114111 then (paronymref03_Check.j0 k l0 true a1_0 a1_1 a1_2) else (paronymref03_Check.j0 k l0 (decide (a1_1 < a1_0)) a1_0 a1_1 a1_2))) = some r := h
  clear h
  have HC3 := Aside0.mk H
  clear H
  go_enter Try.func31, Try.ntmps31
  go_upto_region 1 with (first | ((with_reducible refine gate_dst (N := 3) rfl ?_); refine box_event ?hg (N := 3) ?hd (cs := #[.int .i64 a1_0, .int .i64 a1_1, .string a1_2]) (t := 53) ?hr ?_; (case hd => rfl); (case hg => rfl); (case hr => first | (go_simp; done) | (go_simp; rfl)); intro gb101 hg w4 hbox hb; have n0_ := Aside0.mk (below_step (by repeat (first | (with_reducible first | exact HB.out | apply below_alloc | apply pw_below_drewN | apply below_drew1) | exact HB.out)) hb); have n1_ := Aside0.mk (hbox); have n2_ := Aside0.mk ((by rw [hg]; exact (below_size (by repeat (first | (with_reducible first | exact HB.out | apply below_alloc | apply pw_below_drewN | apply below_drew1) | exact HB.out))) : w.heap.size ≤ gb101)); have n3_ := Aside0.mk ((by rw [hg]; exact (below_size (by repeat (first | (with_reducible first | exact HB.out | apply below_alloc | apply pw_below_drewN | apply below_drew1) | exact HB.out))) : w.heap.size ≤ gb101)); clear HB; have HB := n0_; have BK101 := n1_; have GW101 := n2_; have GE101 := n3_; clear n0_ n1_ n2_ n3_; clear hb hbox hg))
  repeat (go_quiet (first | ((with_reducible refine gate_dst (N := 3) rfl ?_); refine box_event ?hg (N := 3) ?hd (cs := #[.int .i64 a1_0, .int .i64 a1_1, .string a1_2]) (t := 53) ?hr ?_; (case hd => rfl); (case hg => rfl); (case hr => first | (go_simp; done) | (go_simp; rfl)); intro gb101 hg w4 hbox hb; have n0_ := Aside0.mk (below_step (by repeat (first | (with_reducible first | exact HB.out | apply below_alloc | apply pw_below_drewN | apply below_drew1) | exact HB.out)) hb); have n1_ := Aside0.mk (hbox); have n2_ := Aside0.mk ((by rw [hg]; exact (below_size (by repeat (first | (with_reducible first | exact HB.out | apply below_alloc | apply pw_below_drewN | apply below_drew1) | exact HB.out))) : w.heap.size ≤ gb101)); have n3_ := Aside0.mk ((by rw [hg]; exact (below_size (by repeat (first | (with_reducible first | exact HB.out | apply below_alloc | apply pw_below_drewN | apply below_drew1) | exact HB.out))) : w.heap.size ≤ gb101)); clear HB; have HB := n0_; have BK101 := n1_; have GW101 := n2_; have GE101 := n3_; clear n0_ n1_ n2_ n3_; clear hb hbox hg)); go_upto_region 1 with (first | ((with_reducible refine gate_dst (N := 3) rfl ?_); refine box_event ?hg (N := 3) ?hd (cs := #[.int .i64 a1_0, .int .i64 a1_1, .string a1_2]) (t := 53) ?hr ?_; (case hd => rfl); (case hg => rfl); (case hr => first | (go_simp; done) | (go_simp; rfl)); intro gb101 hg w4 hbox hb; have n0_ := Aside0.mk (below_step (by repeat (first | (with_reducible first | exact HB.out | apply below_alloc | apply pw_below_drewN | apply below_drew1) | exact HB.out)) hb); have n1_ := Aside0.mk (hbox); have n2_ := Aside0.mk ((by rw [hg]; exact (below_size (by repeat (first | (with_reducible first | exact HB.out | apply below_alloc | apply pw_below_drewN | apply below_drew1) | exact HB.out))) : w.heap.size ≤ gb101)); have n3_ := Aside0.mk ((by rw [hg]; exact (below_size (by repeat (first | (with_reducible first | exact HB.out | apply below_alloc | apply pw_below_drewN | apply below_drew1) | exact HB.out))) : w.heap.size ≤ gb101)); clear HB; have HB := n0_; have BK101 := n1_; have GW101 := n2_; have GE101 := n3_; clear n0_ n1_ n2_ n3_; clear hb hbox hg)))
  (try simp only [Act.put, List.setIfInBounds_toArray, List.set_cons_zero, List.set_cons_succ])
  go_cut [20] (fun v20 wc => ∃ (kq : Nat) (x20_2 : Bool), v20 = .bool x20_2 ∧ Aside0 (paronymref03_Check.j0 kq l0 x20_2 a1_0 a1_1 a1_2 = some r) ∧ Aside0 (kq ≤ k) ∧ Aside0 (wc.heap[gb101]? = some (.cells #[.int .i64 a1_0, .int .i64 a1_1, .string a1_2] 53 (0, 0))) ∧ Aside0 (Below w.heap.size w wc))
  case first =>
    have H := HC3.out
    clear HC3
    by_cases c5 : a1_0 < 0
    · rw [if_pos c5] at H
      have c5b0 : decide (a1_0 < 0) = true := decide_eq_true c5
      clear c5
      (first | rw [c5b0] | (simp only [i64_w, i32_w]; rw [c5b0]) | rw [c5b1] | (simp only [i64_w, i32_w]; rw [c5b1]) | skip)
      have H' := Aside0.mk H
      clear H
      have hcz6_0 : w4.cell? ⟨gb101, 0, none⟩ = some (.int .i64 a1_0) := (blk_cell BK101.out 0).trans rfl
      have hcz6_1 : w4.cell? ⟨gb101, 1, none⟩ = some (.int .i64 a1_1) := (blk_cell BK101.out 1).trans rfl
      have hcz6_2 : w4.cell? ⟨gb101, 2, none⟩ = some (.string a1_2) := (blk_cell BK101.out 2).trans rfl
      have hfz6_0 := blk_frozen BK101.out 0
      have hfz6_1 := blk_frozen BK101.out 1
      have hfz6_2 := blk_frozen BK101.out 2
      go_wp2
      repeat (go_quiet (fail); try go_wp2)
      go_meet
      case rel => exact ⟨_, (true), (by first | rfl | (simp; done) | (simp [*]; done)), H', ⟨by first | omega | exact Nat.le_refl _⟩, ⟨by (with_reducible repeat (first | refine blk_drewN ?_ _ | refine blk_drew ?_ | refine blk_alloc ?_ _)); exact BK101.out⟩, ⟨by repeat (first | (with_reducible first | exact HB.out | apply below_alloc | apply pw_below_drewN | apply below_drew1 | refine below_set ?_ GE101.out) | exact HB.out)⟩⟩
    · rw [if_neg c5] at H
      have c5b0 : decide (a1_0 < 0) = false := decide_eq_false c5
      clear c5
      (first | rw [c5b0] | (simp only [i64_w, i32_w]; rw [c5b0]) | rw [c5b1] | (simp only [i64_w, i32_w]; rw [c5b1]) | skip)
      by_cases c7 : a1_1 > 1114111
      · rw [if_pos c7] at H
        have c7b0 : decide (1114111 < a1_1) = true := decide_eq_true c7
        clear c7
        have H' := Aside0.mk H
        clear H
        have hcz8_0 : w4.cell? ⟨gb101, 0, none⟩ = some (.int .i64 a1_0) := (blk_cell BK101.out 0).trans rfl
        have hcz8_1 : w4.cell? ⟨gb101, 1, none⟩ = some (.int .i64 a1_1) := (blk_cell BK101.out 1).trans rfl
        have hcz8_2 : w4.cell? ⟨gb101, 2, none⟩ = some (.string a1_2) := (blk_cell BK101.out 2).trans rfl
        have hfz8_0 := blk_frozen BK101.out 0
        have hfz8_1 := blk_frozen BK101.out 1
        have hfz8_2 := blk_frozen BK101.out 2
        go_wp2
        repeat (go_quiet (fail); try go_wp2)
        go_meet
        case rel => exact ⟨_, (true), (by first | rfl | (simp; done) | (simp [*]; done)), H', ⟨by first | omega | exact Nat.le_refl _⟩, ⟨by (with_reducible repeat (first | refine blk_drewN ?_ _ | refine blk_drew ?_ | refine blk_alloc ?_ _)); exact BK101.out⟩, ⟨by repeat (first | (with_reducible first | exact HB.out | apply below_alloc | apply pw_below_drewN | apply below_drew1 | refine below_set ?_ GE101.out) | exact HB.out)⟩⟩
      · rw [if_neg c7] at H
        have c7b0 : decide (1114111 < a1_1) = false := decide_eq_false c7
        clear c7
        have H' := Aside0.mk H
        clear H
        have hcz9_0 : w4.cell? ⟨gb101, 0, none⟩ = some (.int .i64 a1_0) := (blk_cell BK101.out 0).trans rfl
        have hcz9_1 : w4.cell? ⟨gb101, 1, none⟩ = some (.int .i64 a1_1) := (blk_cell BK101.out 1).trans rfl
        have hcz9_2 : w4.cell? ⟨gb101, 2, none⟩ = some (.string a1_2) := (blk_cell BK101.out 2).trans rfl
        have hfz9_0 := blk_frozen BK101.out 0
        have hfz9_1 := blk_frozen BK101.out 1
        have hfz9_2 := blk_frozen BK101.out 2
        go_wp2
        repeat (go_quiet (fail); try go_wp2)
        go_meet
        case rel => exact ⟨_, (decide (a1_1 < a1_0)), (by first | rfl | (simp; done) | (simp [*]; done)), H', ⟨by first | omega | exact Nat.le_refl _⟩, ⟨by (with_reducible repeat (first | refine blk_drewN ?_ _ | refine blk_drew ?_ | refine blk_alloc ?_ _)); exact BK101.out⟩, ⟨by repeat (first | (with_reducible first | exact HB.out | apply below_alloc | apply pw_below_drewN | apply below_drew1 | refine below_set ?_ GE101.out) | exact HB.out)⟩⟩
  case rest =>
    clear HC3
    try clear p2
    try clear c3
    try clear c5
    try clear c5b0
    try clear c5b1
    try clear c7
    try clear c7b0
    try clear hcz6_0
    try clear hcz6_1
    try clear hcz6_2
    try clear hcz8_0
    try clear hcz8_1
    try clear hcz8_2
    try clear hcz9_0
    try clear hcz9_1
    try clear hcz9_2
    try clear hfz6_0
    try clear hfz6_1
    try clear hfz6_2
    try clear hfz8_0
    try clear hfz8_1
    try clear hfz8_2
    try clear hfz9_0
    try clear hfz9_1
    try clear hfz9_2
    obtain ⟨kq, x20_2, rfl, HA, HJ2, BK101, HB⟩ := hcut
    cases kq with
    | zero => exact absurd HA.out (by simp [paronymref03_Check.j0])
    | succ kj2 =>
      have H := HA.out
      clear HA
      simp only [paronymref03_Check.j0] at H
      by_cases c10 : x20_2 = true
      · subst c10
        have H1 : (some 14) = some r := by rw [if_pos rfl] at H; exact H
        clear H
        have H := H1
        clear H1
        obtain rfl := Option.some.inj H
        go_wp2
        repeat (go_quiet (fail); try go_wp2)
        go_ret
        exact ⟨by first | rfl | (simp [errW_none, errW_some] <;> rfl) | (simp [*, errW_none, errW_some] <;> rfl), by repeat (first | (with_reducible first | exact HB.out | apply below_alloc | apply pw_below_drewN | apply below_drew1 | refine below_set ?_ GE101.out) | exact HB.out)⟩
      · replace c10 := Bool.eq_false_iff.mpr c10
        subst c10
        have H1 : (if a1_2.toList = ([] : List UInt8) then (some 16) else (paronymref03_Check.l0 kj2 l0 0 a1_0 a1_1 a1_2)) = some r := by rw [if_neg (show ¬ (false = true) by decide)] at H; exact H
        clear H
        have H := H1
        clear H1
        by_cases c11 : a1_2.toList = ([] : List UInt8)
        · rw [if_pos c11] at H
          have c11b0 : (a1_2.toList == ([] : List UInt8)) = true := beq_iff_eq.mpr c11
          have c11b1 : (a1_2.toList != ([] : List UInt8)) = false := bne_eq_false_iff_eq.mpr c11
          clear c11
          obtain rfl := Option.some.inj H
          have hcz12_0 : wc.cell? ⟨gb101, 0, none⟩ = some (.int .i64 a1_0) := (blk_cell BK101.out 0).trans rfl
          have hcz12_1 : wc.cell? ⟨gb101, 1, none⟩ = some (.int .i64 a1_1) := (blk_cell BK101.out 1).trans rfl
          have hcz12_2 : wc.cell? ⟨gb101, 2, none⟩ = some (.string a1_2) := (blk_cell BK101.out 2).trans rfl
          have hfz12_0 := blk_frozen BK101.out 0
          have hfz12_1 := blk_frozen BK101.out 1
          have hfz12_2 := blk_frozen BK101.out 2
          go_wp2
          repeat (go_quiet (fail); try go_wp2)
          go_ret
          exact ⟨by first | rfl | (simp [errW_none, errW_some] <;> rfl) | (simp [*, errW_none, errW_some] <;> rfl), by repeat (first | (with_reducible first | exact HB.out | apply below_alloc | apply pw_below_drewN | apply below_drew1 | refine below_set ?_ GE101.out) | exact HB.out)⟩
        · rw [if_neg c11] at H
          have c11b0 : (a1_2.toList == ([] : List UInt8)) = false := beq_eq_false_iff_ne.mpr c11
          have c11b1 : (a1_2.toList != ([] : List UInt8)) = true := bne_iff_ne.mpr c11
          have H' := Aside0.mk H
          clear H
          have hcz13_0 : wc.cell? ⟨gb101, 0, none⟩ = some (.int .i64 a1_0) := (blk_cell BK101.out 0).trans rfl
          have hcz13_1 : wc.cell? ⟨gb101, 1, none⟩ = some (.int .i64 a1_1) := (blk_cell BK101.out 1).trans rfl
          have hcz13_2 : wc.cell? ⟨gb101, 2, none⟩ = some (.string a1_2) := (blk_cell BK101.out 2).trans rfl
          have hfz13_0 := blk_frozen BK101.out 0
          have hfz13_1 := blk_frozen BK101.out 1
          have hfz13_2 := blk_frozen BK101.out 2
          go_wp2
          repeat (go_quiet (fail); try go_wp2)
          go_loopg [5] kj2 (fun kq v5 w' => ∃ (x5_2 : Int), v5 = .int .i64 x5_2 ∧ Aside0 (paronymref03_Check.l0 kq l0 x5_2 a1_0 a1_1 a1_2 = some r) ∧ Aside0 (kq ≤ kj2) ∧ Aside0 (w'.heap[gb101]? = some (.cells #[.int .i64 a1_0, .int .i64 a1_1, .string a1_2] 53 (0, 0))) ∧ Aside0 (Below w.heap.size w w'))
          case atStart => exact ⟨(0), (by first | rfl | (simp; done) | (simp [*]; done)), H', ⟨Nat.le_refl _⟩, ⟨by (with_reducible repeat (first | refine blk_drewN ?_ _ | refine blk_drew ?_ | refine blk_alloc ?_ _)); exact BK101.out⟩, ⟨by repeat (first | (with_reducible first | exact HB.out | apply below_alloc | apply pw_below_drewN | apply below_drew1 | refine below_set ?_ GE101.out) | exact HB.out)⟩⟩
          case round =>
            clear H'
            try clear c1
            try clear p2
            try clear c3
            try clear c5
            try clear c5b0
            try clear c5b1
            try clear c7
            try clear c7b0
            try clear c10
            try clear c11
            try clear c11b0
            try clear c11b1
            try clear hcz12_0
            try clear hcz12_1
            try clear hcz12_2
            try clear hcz13_0
            try clear hcz13_1
            try clear hcz13_2
            try clear hcz6_0
            try clear hcz6_1
            try clear hcz6_2
            try clear hcz8_0
            try clear hcz8_1
            try clear hcz8_2
            try clear hcz9_0
            try clear hcz9_1
            try clear hcz9_2
            try clear hfz12_0
            try clear hfz12_1
            try clear hfz12_2
            try clear hfz13_0
            try clear hfz13_1
            try clear hfz13_2
            try clear hfz6_0
            try clear hfz6_1
            try clear hfz6_2
            try clear hfz8_0
            try clear hfz8_1
            try clear hfz8_2
            try clear hfz9_0
            try clear hfz9_1
            try clear hfz9_2
            try clear p2
            obtain ⟨x5_2, rfl, HA, HK2, BK101, HB⟩ := hrel
            cases gk with
            | zero => exact absurd HA.out (by simp [paronymref03_Check.l0])
            | succ k2 =>
              have H := HA.out
              clear HA
              simp only [paronymref03_Check.l0] at H
              by_cases c14 : x5_2 < (l0.length : Int)
              · rw [if_pos c14] at H
                have c14b0 : decide (x5_2 < (l0.length : Int)) = true := decide_eq_true c14
                clear c14
                by_cases c15 : 0 ≤ x5_2
                · rw [if_pos c15] at H
                  have c15b0 : decide (0 ≤ x5_2) = true := decide_eq_true c15
                  clear c15
                  by_cases c16 : ((rd_T53 l0 x5_2).f0) ≤ a1_1
                  · rw [if_pos c16] at H
                    have c16b0 : decide (((rd_T53 l0 x5_2).f0) ≤ a1_1) = true := decide_eq_true c16
                    clear c16
                    by_cases c17 : a1_0 ≤ ((rd_T53 l0 x5_2).f1)
                    · rw [if_pos c17] at H
                      have c17b0 : decide (a1_0 ≤ ((rd_T53 l0 x5_2).f1)) = true := decide_eq_true c17
                      clear c17
                      obtain rfl := Option.some.inj H
                      have p102 : 0 ≤ (x5_2 : Int) := of_decide_eq_true (by first | (with_reducible assumption) | assumption)
                      have q102 : x5_2 < (l0.length : Int) := of_decide_eq_true (by first | (with_reducible assumption) | assumption)
                      obtain ⟨ad102, e102, hx102_0, hx102_1, hx102_2⟩ := at_T53 HR0.out x5_2 p102 q102
                      cases e102
                      replace hx102_0 := (HB.out.cell (World.block_lt_of_cell? w _ hx102_0)).trans hx102_0
                      replace hx102_1 := (HB.out.cell (World.block_lt_of_cell? w _ hx102_1)).trans hx102_1
                      replace hx102_2 := (HB.out.cell (World.block_lt_of_cell? w _ hx102_2)).trans hx102_2
                      replace p102 := eq_true p102
                      replace q102 := eq_true q102
                      have hcz18_0 : wr.cell? ⟨gb101, 0, none⟩ = some (.int .i64 a1_0) := (blk_cell BK101.out 0).trans rfl
                      have hcz18_1 : wr.cell? ⟨gb101, 1, none⟩ = some (.int .i64 a1_1) := (blk_cell BK101.out 1).trans rfl
                      have hcz18_2 : wr.cell? ⟨gb101, 2, none⟩ = some (.string a1_2) := (blk_cell BK101.out 2).trans rfl
                      have hfz18_0 := blk_frozen BK101.out 0
                      have hfz18_1 := blk_frozen BK101.out 1
                      have hfz18_2 := blk_frozen BK101.out 2
                      have p103 : 0 ≤ (x5_2 : Int) := of_decide_eq_true (by first | (with_reducible assumption) | assumption)
                      have q103 : x5_2 < (l0.length : Int) := of_decide_eq_true (by first | (with_reducible assumption) | assumption)
                      obtain ⟨ad103, e103, hx103_0, hx103_1, hx103_2⟩ := at_T53 HR0.out x5_2 p103 q103
                      obtain rfl : ad102 = ad103 := (by injection e103)
                      replace hx103_0 := (HB.out.cell (World.block_lt_of_cell? w _ hx103_0)).trans hx103_0
                      replace hx103_1 := (HB.out.cell (World.block_lt_of_cell? w _ hx103_1)).trans hx103_1
                      replace hx103_2 := (HB.out.cell (World.block_lt_of_cell? w _ hx103_2)).trans hx103_2
                      replace p103 := eq_true p103
                      replace q103 := eq_true q103
                      go_wp2
                      repeat (go_quiet (fail); try go_wp2)
                      go_ret
                      exact ⟨by first | rfl | (simp [errW_none, errW_some] <;> rfl) | (simp [*, errW_none, errW_some] <;> rfl), by repeat (first | (with_reducible first | exact HB.out | apply below_alloc | apply pw_below_drewN | apply below_drew1 | refine below_set ?_ GE101.out) | exact HB.out)⟩
                    · rw [if_neg c17] at H
                      have c17b0 : decide (a1_0 ≤ ((rd_T53 l0 x5_2).f1)) = false := decide_eq_false c17
                      clear c17
                      have H' := Aside0.mk H
                      clear H
                      have p102 : 0 ≤ (x5_2 : Int) := of_decide_eq_true (by first | (with_reducible assumption) | assumption)
                      have q102 : x5_2 < (l0.length : Int) := of_decide_eq_true (by first | (with_reducible assumption) | assumption)
                      obtain ⟨ad102, e102, hx102_0, hx102_1, hx102_2⟩ := at_T53 HR0.out x5_2 p102 q102
                      cases e102
                      replace hx102_0 := (HB.out.cell (World.block_lt_of_cell? w _ hx102_0)).trans hx102_0
                      replace hx102_1 := (HB.out.cell (World.block_lt_of_cell? w _ hx102_1)).trans hx102_1
                      replace hx102_2 := (HB.out.cell (World.block_lt_of_cell? w _ hx102_2)).trans hx102_2
                      replace p102 := eq_true p102
                      replace q102 := eq_true q102
                      have hcz19_0 : wr.cell? ⟨gb101, 0, none⟩ = some (.int .i64 a1_0) := (blk_cell BK101.out 0).trans rfl
                      have hcz19_1 : wr.cell? ⟨gb101, 1, none⟩ = some (.int .i64 a1_1) := (blk_cell BK101.out 1).trans rfl
                      have hcz19_2 : wr.cell? ⟨gb101, 2, none⟩ = some (.string a1_2) := (blk_cell BK101.out 2).trans rfl
                      have hfz19_0 := blk_frozen BK101.out 0
                      have hfz19_1 := blk_frozen BK101.out 1
                      have hfz19_2 := blk_frozen BK101.out 2
                      have p103 : 0 ≤ (x5_2 : Int) := of_decide_eq_true (by first | (with_reducible assumption) | assumption)
                      have q103 : x5_2 < (l0.length : Int) := of_decide_eq_true (by first | (with_reducible assumption) | assumption)
                      obtain ⟨ad103, e103, hx103_0, hx103_1, hx103_2⟩ := at_T53 HR0.out x5_2 p103 q103
                      obtain rfl : ad102 = ad103 := (by injection e103)
                      replace hx103_0 := (HB.out.cell (World.block_lt_of_cell? w _ hx103_0)).trans hx103_0
                      replace hx103_1 := (HB.out.cell (World.block_lt_of_cell? w _ hx103_1)).trans hx103_1
                      replace hx103_2 := (HB.out.cell (World.block_lt_of_cell? w _ hx103_2)).trans hx103_2
                      replace p103 := eq_true p103
                      replace q103 := eq_true q103
                      go_wp2
                      repeat (go_quiet (fail); try go_wp2)
                      go_roundg k2
                      case measure => have := HJ2.out; have := HK2.out; omega
                      case rel => exact ⟨(wrap64 (x5_2 + 1)), (by first | rfl | (simp; done) | (simp [*]; done)), H', ⟨by have := HJ2.out; have := HK2.out; omega⟩, ⟨by (with_reducible repeat (first | refine blk_drewN ?_ _ | refine blk_drew ?_ | refine blk_alloc ?_ _)); exact BK101.out⟩, ⟨by repeat (first | (with_reducible first | exact HB.out | apply below_alloc | apply pw_below_drewN | apply below_drew1 | refine below_set ?_ GE101.out) | exact HB.out)⟩⟩
                  · rw [if_neg c16] at H
                    have c16b0 : decide (((rd_T53 l0 x5_2).f0) ≤ a1_1) = false := decide_eq_false c16
                    clear c16
                    have H' := Aside0.mk H
                    clear H
                    have p102 : 0 ≤ (x5_2 : Int) := of_decide_eq_true (by first | (with_reducible assumption) | assumption)
                    have q102 : x5_2 < (l0.length : Int) := of_decide_eq_true (by first | (with_reducible assumption) | assumption)
                    obtain ⟨ad102, e102, hx102_0, hx102_1, hx102_2⟩ := at_T53 HR0.out x5_2 p102 q102
                    cases e102
                    replace hx102_0 := (HB.out.cell (World.block_lt_of_cell? w _ hx102_0)).trans hx102_0
                    replace hx102_1 := (HB.out.cell (World.block_lt_of_cell? w _ hx102_1)).trans hx102_1
                    replace hx102_2 := (HB.out.cell (World.block_lt_of_cell? w _ hx102_2)).trans hx102_2
                    replace p102 := eq_true p102
                    replace q102 := eq_true q102
                    have hcz20_0 : wr.cell? ⟨gb101, 0, none⟩ = some (.int .i64 a1_0) := (blk_cell BK101.out 0).trans rfl
                    have hcz20_1 : wr.cell? ⟨gb101, 1, none⟩ = some (.int .i64 a1_1) := (blk_cell BK101.out 1).trans rfl
                    have hcz20_2 : wr.cell? ⟨gb101, 2, none⟩ = some (.string a1_2) := (blk_cell BK101.out 2).trans rfl
                    have hfz20_0 := blk_frozen BK101.out 0
                    have hfz20_1 := blk_frozen BK101.out 1
                    have hfz20_2 := blk_frozen BK101.out 2
                    go_wp2
                    repeat (go_quiet (fail); try go_wp2)
                    go_roundg k2
                    case measure => have := HJ2.out; have := HK2.out; omega
                    case rel => exact ⟨(wrap64 (x5_2 + 1)), (by first | rfl | (simp; done) | (simp [*]; done)), H', ⟨by have := HJ2.out; have := HK2.out; omega⟩, ⟨by (with_reducible repeat (first | refine blk_drewN ?_ _ | refine blk_drew ?_ | refine blk_alloc ?_ _)); exact BK101.out⟩, ⟨by repeat (first | (with_reducible first | exact HB.out | apply below_alloc | apply pw_below_drewN | apply below_drew1 | refine below_set ?_ GE101.out) | exact HB.out)⟩⟩
                · rw [if_neg c15] at H
                  exact absurd H (by simp)
              · rw [if_neg c14] at H
                have c14b0 : decide (x5_2 < (l0.length : Int)) = false := decide_eq_false c14
                clear c14
                obtain rfl := Option.some.inj H
                go_wp2
                repeat (go_quiet (fail); try go_wp2)
                go_ret
                exact ⟨by first | rfl | (simp [errW_none, errW_some] <;> rfl) | (simp [*, errW_none, errW_some] <;> rfl), by repeat (first | (with_reducible first | exact HB.out | apply below_alloc | apply pw_below_drewN | apply below_drew1 | refine below_set ?_ GE101.out) | exact HB.out)⟩

end Go.Proofs.Ytlipbiihemhieaa.Q
