/- Part 3 of 4 of the proof of PropParses: prop.Parse of any file and of any values tells the document's table, or the first error and its line, and the file stays as it is: for every input For every input; no condition. -/
import Derived.Test.YtbpdcbibooiimaaGreatDoorCPropParses2
import Derived.Deep.RegionHeld3
import Derived.Test.YtbpdcbibooiimaaGreatDoorCPropParses1
set_option linter.unusedVariables false
set_option linter.unusedSimpArgs false

/- span: Add where the new span is one: printed by genadd.py. -/
namespace Go.Proofs.YtbpdcbibooiimaaGreatDoor.Q
open Go.RowKit Go.Shelf Go.Proofs.YtbpdcbibooiimaaGreatDoorW.PrintWords Go.Proofs.YtbpdcbibooiimaaGreatDoorW.PrintLast Go.Proofs.YtbpdcbibooiimaaGreatDoorW.PrintMore
attribute [local go_sem] Oper.semAt_some
set_option maxHeartbeats 2000000 in
set_option maxRecDepth 100000 in
theorem span_Add.twice (k : Nat) (p : Option Addr) (L : List S83) (s : S83) (i : Int) (w : World) (hT : Tab w p L) (hf : span_find.f k L s.f0 = some i) (hc : ¬ (s.f0 < 0 ∨ 1114111 < s.f1 ∨ s.f1 < s.f0)) (hv : ¬ s.f2.toList = ([] : List UInt8)) (c1 : i < (L.length : Int)) (c2 : 0 ≤ i) (c3 : (rd_T83 L i).f0 ≤ s.f1) :
    Calls Tryz.prog 47 #[.pointer p, .agg #[.int .i64 s.f0, .int .i64 s.f1, .string s.f2]] w fun e w' => e = .returned (.tuple #[.pointer none, .int .i64 15]) ∧ Below w.heap.size w w' := by
  have HT := Aside0.mk hT
  have HF := Aside0.mk hf
  have h1 : decide (s.f0 < 0) = false := by simp; omega
  have h2 : decide (1114111 < s.f1) = false := by simp; omega
  have h3 : decide (s.f1 < s.f0) = false := by simp; omega
  have b1 : (s.f2.toList == ([] : List UInt8)) = false := beq_eq_false_iff_ne.mpr hv
  have b3 : s.f2.toList.isEmpty = false := by
    cases hv' : s.f2.toList with
    | nil => exact absurd hv' hv
    | cons _ _ => rfl
  rcases hT.open_ with ⟨_, rfl⟩ | ⟨g, A, n, rfl, q2, q3, q4⟩
  · simp at c1; omega
  have hcg : w.cell? ⟨g, 0, none⟩ = some (.slice A L.length n) := by unfold World.cell?; rw [q2]; rfl
  obtain ⟨ad, rfl, hx0, hx1, hx2⟩ := at_T83 q4 i c2 c1
  have HCG := Aside0.mk hcg
  have HX0 := Aside0.mk hx0
  have e1 : decide (i < (L.length : Int)) = true := decide_eq_true c1
  have e2 := eq_true c1
  have e3 := eq_true c2
  have e4 := eq_true c3
  have e5 : decide ((rd_T83 L i).f0 ≤ s.f1) = true := decide_eq_true c3
  clear hT hf hc q2 q3 q4 hcg hx0 hx1 hx2 c1 c2 c3
  go_enter Tryz.func47, Tryz.ntmps47
  have HS := Aside0.mk (AddS.start w s)
  go_wp2_with (first
    | (go_at_call 66
       refine (span_find.calls k _ L s.f0 i _ (HT.out.below HS.out.2) HF.out).mono ?_
       rintro e w2 ⟨rfl, hb⟩
       have HS2 := Aside0.mk (HS.out.below hb)
       obtain ⟨hx0, hx1, hx2⟩ := HS2.out.cells
       clear hb))
  refine wp_region_noPanic ?_
  refine wp_region_held (S := AddS w s) (by kernel_rfl) ?_
  have hS : AddS w s w2.drew := ⟨HS2.out.1, HS2.out.2.drew⟩
  show wpAnyH _ _ _ _ _ _ _ _ w2.drew
  refine wpAnyH_take (i := 0) (v := .int .i64 i) rfl (by kernel_rfl) (by kernel_rfl) (by kernel_rfl) (fun _ _ _ h => h) (.inl ⟨by kernel_rfl, fun w' hS => by go_simp⟩) hS ?_
  try simp only [List.getElem_toArray, List.getElem_cons_succ, List.getElem_cons_zero, Act.put, List.setIfInBounds_toArray, List.set_cons_zero, List.set_cons_succ]
  refine wpAnyH_take (i := 1) (v := .pointer (some ⟨g, 0, none⟩)) rfl (by kernel_rfl) (by kernel_rfl) (by kernel_rfl) (fun _ _ _ h => h) (.inl ⟨by kernel_rfl, fun w' hS => by go_simp⟩) hS ?_
  try simp only [List.getElem_toArray, List.getElem_cons_succ, List.getElem_cons_zero, Act.put, List.setIfInBounds_toArray, List.set_cons_zero, List.set_cons_succ]
  refine wpAnyH_ready (rs := [2]) (by kernel_rfl) (by simp) (AllReadyH.cons rfl (fun K' hK => ?_) AllReadyH.nil)
  rw [if_pos (by kernel_rfl)]
  go_simp
  go_at_call 65
  refine (span_spans.calls' _ L _ (HT.out.below hS.2)).mono ?_
  rintro e w7 ⟨⟨A6, n6, rfl, hn6, hC6⟩, rfl⟩
  have hS' := hS
  refine hK.out _ _ hS' (fun _ => ?_)
  clear hK hS
  have hS := hS'
  clear hS'
  try simp only [List.getElem_toArray, List.getElem_cons_succ, List.getElem_cons_zero, Act.put, List.setIfInBounds_toArray, List.set_cons_zero, List.set_cons_succ]
  refine wpAnyH_take (i := 3) (v := .int .i64 (L.length : Int)) rfl (by kernel_rfl) (by kernel_rfl) (by kernel_rfl) (fun _ _ _ h => h) (.inl ⟨by kernel_rfl, fun w' hS => by go_simp⟩) hS ?_
  try simp only [List.getElem_toArray, List.getElem_cons_succ, List.getElem_cons_zero, Act.put, List.setIfInBounds_toArray, List.set_cons_zero, List.set_cons_succ]
  refine wpAnyH_take (i := 4) (v := .bool true) rfl (by kernel_rfl) (by kernel_rfl) (by kernel_rfl) (fun _ _ _ h => h) (.inl ⟨by kernel_rfl, fun w' hS => by go_simp⟩) hS ?_
  try simp only [List.getElem_toArray, List.getElem_cons_succ, List.getElem_cons_zero, Act.put, List.setIfInBounds_toArray, List.set_cons_zero, List.set_cons_succ]
  refine wpAnyH_take (i := 5) (v := .bool true) rfl (by kernel_rfl) (by kernel_rfl) (by kernel_rfl) (fun _ _ _ h => h) (.inl ⟨by kernel_rfl, fun w' hS => by go_simp⟩) hS ?_
  try simp only [List.getElem_toArray, List.getElem_cons_succ, List.getElem_cons_zero, Act.put, List.setIfInBounds_toArray, List.set_cons_zero, List.set_cons_succ]
  refine wpAnyH_take (i := 6) (v := .pointer (some ⟨g, 0, none⟩)) rfl (by kernel_rfl) (by kernel_rfl) (by kernel_rfl) (fun _ _ _ h => h) (.inl ⟨by kernel_rfl, fun w' hS => by go_simp⟩) hS ?_
  try simp only [List.getElem_toArray, List.getElem_cons_succ, List.getElem_cons_zero, Act.put, List.setIfInBounds_toArray, List.set_cons_zero, List.set_cons_succ]
  refine wpAnyH_take (i := 7) (v := .pointer (some ⟨g, 0, none⟩)) rfl (by kernel_rfl) (by kernel_rfl) (by kernel_rfl) (fun _ _ _ h => h) (.inl ⟨by kernel_rfl, fun w' hS => by go_simp⟩) hS ?_
  try simp only [List.getElem_toArray, List.getElem_cons_succ, List.getElem_cons_zero, Act.put, List.setIfInBounds_toArray, List.set_cons_zero, List.set_cons_succ]
  refine wpAnyH_take (i := 8) (v := .pointer (some ⟨g, 0, none⟩)) rfl (by kernel_rfl) (by kernel_rfl) (by kernel_rfl) (fun _ _ _ h => h) (.inl ⟨by kernel_rfl, fun w' hS => by go_simp⟩) hS ?_
  try simp only [List.getElem_toArray, List.getElem_cons_succ, List.getElem_cons_zero, Act.put, List.setIfInBounds_toArray, List.set_cons_zero, List.set_cons_succ]
  refine wpAnyH_take (i := 9) (v := .slice (some ad) L.length n) rfl (by kernel_rfl) (by kernel_rfl) (by kernel_rfl) (fun _ _ _ h => h) (.inl ⟨by kernel_rfl, fun w' hS => by have q_ := (hS.2.cell (World.block_lt_of_cell? w _ HCG.out)).trans HCG.out; go_simp⟩) hS ?_
  try simp only [List.getElem_toArray, List.getElem_cons_succ, List.getElem_cons_zero, Act.put, List.setIfInBounds_toArray, List.set_cons_zero, List.set_cons_succ]
  refine wpAnyH_take (i := 10) (v := .int .i64 i) rfl (by kernel_rfl) (by kernel_rfl) (by kernel_rfl) (fun _ _ _ h => h) (.inl ⟨by kernel_rfl, fun w' hS => by go_simp⟩) hS ?_
  try simp only [List.getElem_toArray, List.getElem_cons_succ, List.getElem_cons_zero, Act.put, List.setIfInBounds_toArray, List.set_cons_zero, List.set_cons_succ]
  refine wpAnyH_take (i := 11) (v := .pointer (some (ad.add (i.toNat * 3)))) rfl (by kernel_rfl) (by kernel_rfl) (by kernel_rfl) (fun _ _ _ h => h) (.inl ⟨by kernel_rfl, fun w' hS => by go_simp⟩) hS ?_
  try simp only [List.getElem_toArray, List.getElem_cons_succ, List.getElem_cons_zero, Act.put, List.setIfInBounds_toArray, List.set_cons_zero, List.set_cons_succ]
  refine wpAnyH_take (i := 12) (v := .pointer (some (ad.add (i.toNat * 3)))) rfl (by kernel_rfl) (by kernel_rfl) (by kernel_rfl) (fun _ _ _ h => h) (.inl ⟨by kernel_rfl, fun w' hS => by go_simp⟩) hS ?_
  try simp only [List.getElem_toArray, List.getElem_cons_succ, List.getElem_cons_zero, Act.put, List.setIfInBounds_toArray, List.set_cons_zero, List.set_cons_succ]
  refine wpAnyH_take (i := 13) (v := .int .i64 (rd_T83 L i).f0) rfl (by kernel_rfl) (by kernel_rfl) (by kernel_rfl) (fun _ _ _ h => h) (.inl ⟨by kernel_rfl, fun w' hS => by have q_ := (hS.2.cell (World.block_lt_of_cell? w _ HX0.out)).trans HX0.out; go_simp⟩) hS ?_
  try simp only [List.getElem_toArray, List.getElem_cons_succ, List.getElem_cons_zero, Act.put, List.setIfInBounds_toArray, List.set_cons_zero, List.set_cons_succ]
  refine wpAnyH_take (i := 14) (v := .pointer (some ⟨w.heap.size, 1, none⟩)) rfl (by kernel_rfl) (by kernel_rfl) (by kernel_rfl) (fun _ _ _ h => h) (.inl ⟨by kernel_rfl, fun w' hS => by go_simp⟩) hS ?_
  try simp only [List.getElem_toArray, List.getElem_cons_succ, List.getElem_cons_zero, Act.put, List.setIfInBounds_toArray, List.set_cons_zero, List.set_cons_succ]
  refine wpAnyH_take (i := 15) (v := .int .i64 s.f1) rfl (by kernel_rfl) (by kernel_rfl) (by kernel_rfl) (fun _ _ _ h => h) (.inl ⟨by kernel_rfl, fun w' hS => by have q_ := hS.cells.2.1; go_simp⟩) hS ?_
  try simp only [List.getElem_toArray, List.getElem_cons_succ, List.getElem_cons_zero, Act.put, List.setIfInBounds_toArray, List.set_cons_zero, List.set_cons_succ]
  refine wpAnyH_take (i := 16) (v := .bool true) rfl (by kernel_rfl) (by kernel_rfl) (by kernel_rfl) (fun _ _ _ h => h) (.inl ⟨by kernel_rfl, fun w' hS => by go_simp⟩) hS ?_
  try simp only [List.getElem_toArray, List.getElem_cons_succ, List.getElem_cons_zero, Act.put, List.setIfInBounds_toArray, List.set_cons_zero, List.set_cons_succ]
  refine wpAnyH_take (i := 17) (v := .bool true) rfl (by kernel_rfl) (by kernel_rfl) (by kernel_rfl) (fun _ _ _ h => h) (.inl ⟨by kernel_rfl, fun w' hS => by go_simp⟩) hS ?_
  try simp only [List.getElem_toArray, List.getElem_cons_succ, List.getElem_cons_zero, Act.put, List.setIfInBounds_toArray, List.set_cons_zero, List.set_cons_succ]
  refine wpAnyH_take (i := 18) (v := .bool true) rfl (by kernel_rfl) (by kernel_rfl) (by kernel_rfl) (fun _ _ _ h => h) (.inl ⟨by kernel_rfl, fun w' hS => by go_simp⟩) hS ?_
  try simp only [List.getElem_toArray, List.getElem_cons_succ, List.getElem_cons_zero, Act.put, List.setIfInBounds_toArray, List.set_cons_zero, List.set_cons_succ]
  refine wpAnyH_done (by kernel_rfl) ?_ _
  refine NoPanic.normal ?_
  go_wp2
  go_ret2
  exact ⟨rfl, hS.2⟩
theorem AddS.lt {w : World} {s : S83} {W : World} (h : AddS w s W) : w.heap.size < W.heap.size := (Array.getElem?_eq_some_iff.1 h.1).1
theorem span_Add.end {w w9 : World} {B : Nat} {ad : Addr} {c m : Nat} {L' : List S83} (h : Kd.R k83 83 w9 B (fun _ => True) (.slice (some ad) L'.length c) L') (hb : Below w.heap.size w (w9.alloc (.cells #[.slice (some ad) m c] 130 (0, 0)))) (hm : m = L'.length) :
    ∃ g, (Ending.returned (.tuple #[.pointer (some ⟨w9.heap.size, 0, none⟩), .int .i64 0]) = .returned (.tuple #[.pointer (some ⟨g, 0, none⟩), .int .i64 0])) ∧ Tab (w9.alloc (.cells #[.slice (some ad) m c] 130 (0, 0))) (some ⟨g, 0, none⟩) L' ∧ Below w.heap.size w (w9.alloc (.cells #[.slice (some ad) m c] 130 (0, 0))) := by
  subst hm
  obtain ⟨inner, ho⟩ := Kd.R_own h
  have hcell : ∃ cells, w9.heap[ad.block]? = some (.cells cells 83 (0, 0)) := by
    rcases ho.2 with ⟨h0, _⟩ | ⟨g, cap, cur, e0, hg, hh, r⟩
    · cases h0
    · injection e0 with e1 e2 e3
      injection e1 with e1
      subst e1
      exact ⟨cur, hh⟩
  obtain ⟨cells, hcell⟩ := hcell
  obtain ⟨A, c', he, hl, hC⟩ := Kd.R_reads h
  injection he with e1 e2 e3
  subst e1 e3
  have hbA : Below w9.heap.size w9 (w9.alloc (.cells #[.slice (some ad) L'.length c] 130 (0, 0))) := (Below.refl w9.heap.size w9).alloc (Nat.le_refl _) _
  exact ⟨w9.heap.size, rfl, .inr ⟨_, _, rfl, heap_alloc_new w9 _, .inr ⟨ad, c, rfl, hl, Kd.C_below hC hbA, cells, (hbA.block _ (Array.getElem?_eq_some_iff.1 hcell).1).trans hcell⟩⟩, hb⟩
theorem sliceR1 {α : Type} {d : Kd α} {e base : Nat} {ok : Nat → Prop} {w : World} {v : Value} {xs : List α} (h : Kd.R d e w base ok v xs) (hn : 0 < xs.length) : ∃ (ad : Addr) (c : Nat), v = .slice (some ad) xs.length c := by
  obtain ⟨g, c, h1, _⟩ := Kd.R_form h hn
  exact ⟨_, _, h1⟩
set_option maxHeartbeats 4000000 in
set_option maxRecDepth 100000 in
theorem span_Add.fitsA (k : Nat) (p : Option Addr) (L : List S83) (s : S83) (j : Nat) (w : World) (hT : Tab w p L) (hf : span_find.f k L s.f0 = some (j : Int)) (hc : ¬ (s.f0 < 0 ∨ 1114111 < s.f1 ∨ s.f1 < s.f0)) (hv : ¬ s.f2.toList = ([] : List UInt8)) (hj : j ≤ L.length) (hsm : L.length < 1099511627776) (c1 : j = L.length) :
    Calls Tryz.prog 47 #[.pointer p, .agg #[.int .i64 s.f0, .int .i64 s.f1, .string s.f2]] w fun e w' => ∃ g, e = .returned (.tuple #[.pointer (some ⟨g, 0, none⟩), .int .i64 0]) ∧ Tab w' (some ⟨g, 0, none⟩) (L.take j ++ s :: L.drop j) ∧ Below w.heap.size w w' := by
  have HT := Aside0.mk hT
  have HF := Aside0.mk hf
  have h1 : decide (s.f0 < 0) = false := by simp; omega
  have h2 : decide (1114111 < s.f1) = false := by simp; omega
  have h3 : decide (s.f1 < s.f0) = false := by simp; omega
  have b1 : (s.f2.toList == ([] : List UInt8)) = false := beq_eq_false_iff_ne.mpr hv
  have b3 : s.f2.toList.isEmpty = false := by
    cases hv' : s.f2.toList with
    | nil => exact absurd hv' hv
    | cons _ _ => rfl
  have HSM := Aside0.mk hsm
  have HJ := Aside0.mk hj
  have e1 : decide ((j : Int) < (L.length : Int)) = false := by simp; omega
  have e2 : ((j : Int) < (L.length : Int)) = False := by simp; omega
  clear hT hf hc hj hsm c1
  go_enter Tryz.func47, Tryz.ntmps47
  have HS := Aside0.mk (AddS.start w s)
  go_wp2_with (first
    | (go_at_call 66
       refine (span_find.calls k _ L s.f0 (j : Int) _ (HT.out.below HS.out.2) HF.out).mono ?_
       rintro e w2 ⟨rfl, hb⟩
       have HS2 := Aside0.mk (HS.out.below hb)
       obtain ⟨hx0, hx1, hx2⟩ := HS2.out.cells
       clear hb))
  refine wp_region_noPanic ?_
  refine wp_region_held (S := AddS w s) (by kernel_rfl) ?_
  have hS : AddS w s w2.drew := ⟨HS2.out.1, HS2.out.2.drew⟩
  show wpAnyH _ _ _ _ _ _ _ _ w2.drew
  refine wpAnyH_take (i := 0) (v := .int .i64 (j : Int)) rfl (by kernel_rfl) (by kernel_rfl) (by kernel_rfl) (fun _ _ _ h => h) (.inl ⟨by kernel_rfl, fun w' hS => by go_simp⟩) hS ?_
  try simp only [List.getElem_toArray, List.getElem_cons_succ, List.getElem_cons_zero, Act.put, List.setIfInBounds_toArray, List.set_cons_zero, List.set_cons_succ]
  refine wpAnyH_take (i := 1) (v := .pointer p) rfl (by kernel_rfl) (by kernel_rfl) (by kernel_rfl) (fun _ _ _ h => h) (.inl ⟨by kernel_rfl, fun w' hS => by go_simp⟩) hS ?_
  try simp only [List.getElem_toArray, List.getElem_cons_succ, List.getElem_cons_zero, Act.put, List.setIfInBounds_toArray, List.set_cons_zero, List.set_cons_succ]
  refine wpAnyH_ready (rs := [2]) (by kernel_rfl) (by simp) (AllReadyH.cons rfl (fun K' hK => ?_) AllReadyH.nil)
  rw [if_pos (by kernel_rfl)]
  go_simp
  go_at_call 65
  refine (span_spans.calls' _ L _ (HT.out.below hS.2)).mono ?_
  rintro e w7 ⟨⟨A6, n6, rfl, hn6, hC6⟩, rfl⟩
  have hS' := hS
  refine hK.out _ _ hS' (fun _ => ?_)
  clear hK hS
  have hS := hS'
  clear hS'
  try simp only [List.getElem_toArray, List.getElem_cons_succ, List.getElem_cons_zero, Act.put, List.setIfInBounds_toArray, List.set_cons_zero, List.set_cons_succ]
  refine wpAnyH_take (i := 3) (v := .int .i64 (L.length : Int)) rfl (by kernel_rfl) (by kernel_rfl) (by kernel_rfl) (fun _ _ _ h => h) (.inl ⟨by kernel_rfl, fun w' hS => by go_simp⟩) hS ?_
  try simp only [List.getElem_toArray, List.getElem_cons_succ, List.getElem_cons_zero, Act.put, List.setIfInBounds_toArray, List.set_cons_zero, List.set_cons_succ]
  refine wpAnyH_take (i := 4) (v := .bool false) rfl (by kernel_rfl) (by kernel_rfl) (by kernel_rfl) (fun _ _ _ h => h) (.inl ⟨by kernel_rfl, fun w' hS => by go_simp⟩) hS ?_
  try simp only [List.getElem_toArray, List.getElem_cons_succ, List.getElem_cons_zero, Act.put, List.setIfInBounds_toArray, List.set_cons_zero, List.set_cons_succ]
  refine wpAnyH_take (i := 5) (v := .bool false) rfl (by kernel_rfl) (by kernel_rfl) (by kernel_rfl) (fun _ _ _ h => h) (.inl ⟨by kernel_rfl, fun w' hS => by go_simp⟩) hS ?_
  try simp only [List.getElem_toArray, List.getElem_cons_succ, List.getElem_cons_zero, Act.put, List.setIfInBounds_toArray, List.set_cons_zero, List.set_cons_succ]
  refine wpAnyH_take (i := 6) (v := undef) rfl (by kernel_rfl) (by kernel_rfl) (by kernel_rfl) (fun _ _ _ h => h) (.inr ⟨by kernel_rfl, rfl⟩) hS ?_
  try simp only [List.getElem_toArray, List.getElem_cons_succ, List.getElem_cons_zero, Act.put, List.setIfInBounds_toArray, List.set_cons_zero, List.set_cons_succ]
  refine wpAnyH_take (i := 7) (v := undef) rfl (by kernel_rfl) (by kernel_rfl) (by kernel_rfl) (fun _ _ _ h => h) (.inr ⟨by kernel_rfl, rfl⟩) hS ?_
  try simp only [List.getElem_toArray, List.getElem_cons_succ, List.getElem_cons_zero, Act.put, List.setIfInBounds_toArray, List.set_cons_zero, List.set_cons_succ]
  refine wpAnyH_take (i := 8) (v := undef) rfl (by kernel_rfl) (by kernel_rfl) (by kernel_rfl) (fun _ _ _ h => h) (.inr ⟨by kernel_rfl, rfl⟩) hS ?_
  try simp only [List.getElem_toArray, List.getElem_cons_succ, List.getElem_cons_zero, Act.put, List.setIfInBounds_toArray, List.set_cons_zero, List.set_cons_succ]
  refine wpAnyH_take (i := 9) (v := undef) rfl (by kernel_rfl) (by kernel_rfl) (by kernel_rfl) (fun _ _ _ h => h) (.inr ⟨by kernel_rfl, rfl⟩) hS ?_
  try simp only [List.getElem_toArray, List.getElem_cons_succ, List.getElem_cons_zero, Act.put, List.setIfInBounds_toArray, List.set_cons_zero, List.set_cons_succ]
  refine wpAnyH_take (i := 10) (v := undef) rfl (by kernel_rfl) (by kernel_rfl) (by kernel_rfl) (fun _ _ _ h => h) (.inr ⟨by kernel_rfl, rfl⟩) hS ?_
  try simp only [List.getElem_toArray, List.getElem_cons_succ, List.getElem_cons_zero, Act.put, List.setIfInBounds_toArray, List.set_cons_zero, List.set_cons_succ]
  refine wpAnyH_take (i := 11) (v := undef) rfl (by kernel_rfl) (by kernel_rfl) (by kernel_rfl) (fun _ _ _ h => h) (.inr ⟨by kernel_rfl, rfl⟩) hS ?_
  try simp only [List.getElem_toArray, List.getElem_cons_succ, List.getElem_cons_zero, Act.put, List.setIfInBounds_toArray, List.set_cons_zero, List.set_cons_succ]
  refine wpAnyH_take (i := 12) (v := undef) rfl (by kernel_rfl) (by kernel_rfl) (by kernel_rfl) (fun _ _ _ h => h) (.inr ⟨by kernel_rfl, rfl⟩) hS ?_
  try simp only [List.getElem_toArray, List.getElem_cons_succ, List.getElem_cons_zero, Act.put, List.setIfInBounds_toArray, List.set_cons_zero, List.set_cons_succ]
  refine wpAnyH_take (i := 13) (v := undef) rfl (by kernel_rfl) (by kernel_rfl) (by kernel_rfl) (fun _ _ _ h => h) (.inr ⟨by kernel_rfl, rfl⟩) hS ?_
  try simp only [List.getElem_toArray, List.getElem_cons_succ, List.getElem_cons_zero, Act.put, List.setIfInBounds_toArray, List.set_cons_zero, List.set_cons_succ]
  refine wpAnyH_take (i := 14) (v := undef) rfl (by kernel_rfl) (by kernel_rfl) (by kernel_rfl) (fun _ _ _ h => h) (.inr ⟨by kernel_rfl, rfl⟩) hS ?_
  try simp only [List.getElem_toArray, List.getElem_cons_succ, List.getElem_cons_zero, Act.put, List.setIfInBounds_toArray, List.set_cons_zero, List.set_cons_succ]
  refine wpAnyH_take (i := 15) (v := undef) rfl (by kernel_rfl) (by kernel_rfl) (by kernel_rfl) (fun _ _ _ h => h) (.inr ⟨by kernel_rfl, rfl⟩) hS ?_
  try simp only [List.getElem_toArray, List.getElem_cons_succ, List.getElem_cons_zero, Act.put, List.setIfInBounds_toArray, List.set_cons_zero, List.set_cons_succ]
  refine wpAnyH_take (i := 16) (v := undef) rfl (by kernel_rfl) (by kernel_rfl) (by kernel_rfl) (fun _ _ _ h => h) (.inr ⟨by kernel_rfl, rfl⟩) hS ?_
  try simp only [List.getElem_toArray, List.getElem_cons_succ, List.getElem_cons_zero, Act.put, List.setIfInBounds_toArray, List.set_cons_zero, List.set_cons_succ]
  refine wpAnyH_take (i := 17) (v := .bool false) rfl (by kernel_rfl) (by kernel_rfl) (by kernel_rfl) (fun _ _ _ h => h) (.inl ⟨by kernel_rfl, fun w' hS => by go_simp⟩) hS ?_
  try simp only [List.getElem_toArray, List.getElem_cons_succ, List.getElem_cons_zero, Act.put, List.setIfInBounds_toArray, List.set_cons_zero, List.set_cons_succ]
  refine wpAnyH_take (i := 18) (v := .bool false) rfl (by kernel_rfl) (by kernel_rfl) (by kernel_rfl) (fun _ _ _ h => h) (.inl ⟨by kernel_rfl, fun w' hS => by go_simp⟩) hS ?_
  try simp only [List.getElem_toArray, List.getElem_cons_succ, List.getElem_cons_zero, Act.put, List.setIfInBounds_toArray, List.set_cons_zero, List.set_cons_succ]
  refine wpAnyH_done (by kernel_rfl) ?_ _
  refine NoPanic.normal ?_
  go_wp2
  generalize w2.drew = w7 at *
  refine wp_region_noPanic ?_
  refine wp_region_held (S := AddS w s) (by kernel_rfl) ?_
  replace hS : AddS w s w7.drew := ⟨hS.1, hS.2.drew⟩
  show wpAnyH _ _ _ _ _ _ _ _ w7.drew
  generalize w7.drew = w8 at hS ⊢
  refine wpAnyH_take (i := 0) (v := .pointer p) rfl (by kernel_rfl) (by kernel_rfl) (by kernel_rfl) (fun _ _ _ h => h) (.inl ⟨by kernel_rfl, fun w' hS => by go_simp⟩) hS ?_
  try simp only [List.getElem_toArray, List.getElem_cons_succ, List.getElem_cons_zero, Act.put, List.setIfInBounds_toArray, List.set_cons_zero, List.set_cons_succ]
  refine wpAnyH_take (i := 3) (v := .int .i64 (j : Int)) rfl (by kernel_rfl) (by kernel_rfl) (by kernel_rfl) (fun _ _ _ h => h) (.inl ⟨by kernel_rfl, fun w' hS => by go_simp⟩) hS ?_
  try simp only [List.getElem_toArray, List.getElem_cons_succ, List.getElem_cons_zero, Act.put, List.setIfInBounds_toArray, List.set_cons_zero, List.set_cons_succ]
  refine wpAnyH_take (i := 4) (v := .agg #[.int .i64 s.f0, .int .i64 s.f1, .string s.f2]) rfl (by kernel_rfl) (by kernel_rfl) (by kernel_rfl) (fun _ _ _ h => h) (.inl ⟨by kernel_rfl, fun w' hS => by obtain ⟨q0_, q1_, q2_⟩ := hS.cells; go_simp⟩) hS ?_
  try simp only [List.getElem_toArray, List.getElem_cons_succ, List.getElem_cons_zero, Act.put, List.setIfInBounds_toArray, List.set_cons_zero, List.set_cons_succ]
  refine wpAnyH_ready (rs := [1, 5]) (by kernel_rfl) (by simp) (AllReadyH.cons rfl (fun K' hK => ?_) (AllReadyH.cons rfl (fun K' hK => ?_) AllReadyH.nil))
  · rw [if_pos (by kernel_rfl)]
    go_simp
    go_at_call 65
    refine (span_spans.calls' _ L _ (HT.out.below hS.2)).mono ?_
    rintro e w9 ⟨⟨A6, n6, rfl, hn6, hC6⟩, rfl⟩
    have hS' := hS
    have HN6 := Aside0.mk hn6
    have HC6 := Aside0.mk hC6
    clear hn6 hC6
    refine hK.out _ _ hS' (fun _ => ?_)
    clear hK hS
    have hS := hS'
    clear hS'
    try simp only [List.getElem_toArray, List.getElem_cons_succ, List.getElem_cons_zero, Act.put, List.setIfInBounds_toArray, List.set_cons_zero, List.set_cons_succ]
    refine wpAnyH_ready (rs := [2, 5]) (by kernel_rfl) (by simp) (AllReadyH.cons rfl (fun K' hK => ?_) (AllReadyH.cons rfl (fun K' hK => ?_) AllReadyH.nil))
    · rw [if_pos (by kernel_rfl)]
      go_simp
      go_at_call 75
      refine (span_Clone.calls A6 n6 L _ HC6.out HN6.out HSM.out).mono ?_
      rintro e w10 ⟨v0, rfl, hR0, hb0⟩
      have hS' : AddS w s w10 := hS.below hb0
      have HB0 : Aside0 (w.heap.size < w9.heap.size) := ⟨hS.lt⟩
      refine hK.out _ _ hS' (fun _ => ?_)
      clear hK hS
      have hS := hS'
      clear hS'
      try simp only [List.getElem_toArray, List.getElem_cons_succ, List.getElem_cons_zero, Act.put, List.setIfInBounds_toArray, List.set_cons_zero, List.set_cons_succ]
      refine wpAnyH_ready (rs := [5]) (by kernel_rfl) (by simp) (AllReadyH.cons rfl (fun K' hK => ?_) AllReadyH.nil)
      rw [if_pos (by kernel_rfl)]
      go_simp
      have hbA := (Below.refl w10.heap.size w10).alloc (Nat.le_refl _) (.cells #[.int .i64 s.f0, .int .i64 s.f1, .string s.f2] 83)
      have hS' := hS.below hbA
      have hvA : (w10.alloc (.cells #[.int .i64 s.f0, .int .i64 s.f1, .string s.f2] 83)).heap[w10.heap.size]? = some (.cells (span_cells s).toArray 83 (0, 0)) := heap_alloc_new w10 _
      refine hK.out _ _ hS' (fun _ => ?_)
      clear hK
      have hS0 := hS
      replace hS := hS'
      clear hS'
      try simp only [List.getElem_toArray, List.getElem_cons_succ, List.getElem_cons_zero, Act.put, List.setIfInBounds_toArray, List.set_cons_zero, List.set_cons_succ]
      have HR0 := Aside0.mk (Kd.R_below hR0 hbA)
      have HBB := Aside0.mk (Nat.le_trans hb0.size hbA.size)
      have HV := Aside0.mk hvA
      have HNE : Aside0 (some w10.heap.size ≠ v0.ownBlock) := ⟨fun e => by obtain ⟨_, ho⟩ := Kd.R_own hR0; have := own_lt ho _ e.symm; omega⟩
      clear hR0 hb0 hvA hbA hS0
      generalize w9.heap.size = B at *
      generalize w10.heap.size = vb at *
      generalize w10.alloc (.cells #[.int .i64 s.f0, .int .i64 s.f1, .string s.f2] 83) = w11 at *
      refine wpAnyH_ready (rs := [6]) (by kernel_rfl) (by simp) (AllReadyH.cons rfl (fun K' hK => ?_) AllReadyH.nil)
      rw [if_pos (by kernel_rfl)]
      go_simp
      go_at_call 74
      refine (span_Insert.calls B v0 L j s vb 1 83 _ HR0.out HJ.out HSM.out HBB.out HV.out HNE.out).mono ?_
      rintro e w9 ⟨v9, rfl, hR9, hb9⟩
      have hS' : AddS w s w9 := ⟨(hb9.block _ HB0.out).trans hS.1, hS.2.trans (hb9.mono (Nat.le_of_lt HB0.out))⟩
      obtain ⟨ad9, c9, rfl⟩ := sliceR1 hR9 (by simp only [List.length_append, List.length_cons]; omega)
      have HR9 := Aside0.mk hR9
      clear hR9 hb9
      refine hK.out _ _ hS' (fun _ => ?_)
      clear hK hS
      have hS := hS'
      clear hS'
      try simp only [List.getElem_toArray, List.getElem_cons_succ, List.getElem_cons_zero, Act.put, List.setIfInBounds_toArray, List.set_cons_zero, List.set_cons_succ]
      refine wpAnyH_take (i := 7) (v := .agg #[.slice (some ad9) (L.take j ++ s :: L.drop j).length c9]) rfl (by kernel_rfl) (by kernel_rfl) (by kernel_rfl) (fun _ _ _ h => h) (.inl ⟨by kernel_rfl, fun w' hS => by go_simp⟩) hS ?_
      try simp only [List.getElem_toArray, List.getElem_cons_succ, List.getElem_cons_zero, Act.put, List.setIfInBounds_toArray, List.set_cons_zero, List.set_cons_succ]
      refine wpAnyH_ready (rs := [8]) (by kernel_rfl) (by simp) (AllReadyH.cons rfl (fun K' hK => ?_) AllReadyH.nil)
      rw [if_pos (by kernel_rfl)]
      go_simp
      have hS' := hS.below ((Below.refl w9.heap.size w9).alloc (Nat.le_refl _) (.cells #[.slice (some ad9) (L.take j ++ s :: L.drop j).length c9] 130 (0, 0)))
      simp only [List.length_append, List.length_take, List.length_drop, List.length_cons] at hS'
      refine hK.out _ _ hS' (fun _ => ?_)
      clear hK
      try simp only [List.getElem_toArray, List.getElem_cons_succ, List.getElem_cons_zero, Act.put, List.setIfInBounds_toArray, List.set_cons_zero, List.set_cons_succ]
      replace hS := hS'
      clear hS'
      refine wpAnyH_take (i := 9) (v := .pointer (some ⟨w9.heap.size, 0, none⟩)) rfl (by kernel_rfl) (by kernel_rfl) (by kernel_rfl) (fun _ _ _ h => h) (.inl ⟨by kernel_rfl, fun w' hS => by go_simp⟩) hS ?_
      try simp only [List.getElem_toArray, List.getElem_cons_succ, List.getElem_cons_zero, Act.put, List.setIfInBounds_toArray, List.set_cons_zero, List.set_cons_succ]
      refine wpAnyH_take (i := 10) (v := .int .i64 0) rfl (by kernel_rfl) (by kernel_rfl) (by kernel_rfl) (fun _ _ _ h => h) (.inl ⟨by kernel_rfl, fun w' hS => by go_simp⟩) hS ?_
      try simp only [List.getElem_toArray, List.getElem_cons_succ, List.getElem_cons_zero, Act.put, List.setIfInBounds_toArray, List.set_cons_zero, List.set_cons_succ]
      refine wpAnyH_done (by kernel_rfl) ?_ _
      refine NoPanic.normal ?_
      go_wp2
      go_ret2
      exact span_Add.end HR9.out hS.2 (by simp only [List.length_append, List.length_take, List.length_drop, List.length_cons])
    · rw [if_pos (by kernel_rfl)]
      go_simp
      have hbA := (Below.refl w9.heap.size w9).alloc (Nat.le_refl _) (.cells #[.int .i64 s.f0, .int .i64 s.f1, .string s.f2] 83)
      have hS' := hS.below hbA
      have hvA : (w9.alloc (.cells #[.int .i64 s.f0, .int .i64 s.f1, .string s.f2] 83)).heap[w9.heap.size]? = some (.cells (span_cells s).toArray 83 (0, 0)) := heap_alloc_new w9 _
      refine hK.out _ _ hS' (fun _ => ?_)
      clear hK
      have hS0 := hS
      replace hS := hS'
      clear hS'
      try simp only [List.getElem_toArray, List.getElem_cons_succ, List.getElem_cons_zero, Act.put, List.setIfInBounds_toArray, List.set_cons_zero, List.set_cons_succ]
      replace HC6 := Aside0.mk (Kd.C_below HC6.out hbA)
      have hvl : w9.heap.size < (w9.alloc (.cells #[.int .i64 s.f0, .int .i64 s.f1, .string s.f2] 83)).heap.size := (Array.getElem?_eq_some_iff.1 hvA).1
      have HB0 : Aside0 (w.heap.size < (w9.alloc (.cells #[.int .i64 s.f0, .int .i64 s.f1, .string s.f2] 83)).heap.size) := ⟨Nat.lt_trans hS0.lt hvl⟩
      clear hbA hS0
      generalize w9.heap.size = vb at *
      generalize w9.alloc (.cells #[.int .i64 s.f0, .int .i64 s.f1, .string s.f2] 83) = w11 at *
      refine wpAnyH_ready (rs := [2]) (by kernel_rfl) (by simp) (AllReadyH.cons rfl (fun K' hK => ?_) AllReadyH.nil)
      rw [if_pos (by kernel_rfl)]
      go_simp
      go_at_call 75
      refine (span_Clone.calls A6 n6 L _ HC6.out HN6.out HSM.out).mono ?_
      rintro e w12 ⟨v0, rfl, hR0, hb0⟩
      have hS' : AddS w s w12 := hS.below hb0
      refine hK.out _ _ hS' (fun _ => ?_)
      clear hK hS
      have hS := hS'
      clear hS'
      try simp only [List.getElem_toArray, List.getElem_cons_succ, List.getElem_cons_zero, Act.put, List.setIfInBounds_toArray, List.set_cons_zero, List.set_cons_succ]
      have HR0 := Aside0.mk hR0
      have HBB := Aside0.mk hb0.size
      have HV := Aside0.mk ((hb0.block _ hvl).trans hvA)
      have HNE : Aside0 (some vb ≠ v0.ownBlock) := ⟨fun e => by obtain ⟨_, ho⟩ := Kd.R_own hR0; have := own_base ho _ e.symm; omega⟩
      clear hR0 hb0 hvA hvl
      generalize w11.heap.size = B at *
      refine wpAnyH_ready (rs := [6]) (by kernel_rfl) (by simp) (AllReadyH.cons rfl (fun K' hK => ?_) AllReadyH.nil)
      rw [if_pos (by kernel_rfl)]
      go_simp
      go_at_call 74
      refine (span_Insert.calls B v0 L j s vb 1 83 _ HR0.out HJ.out HSM.out HBB.out HV.out HNE.out).mono ?_
      rintro e w9 ⟨v9, rfl, hR9, hb9⟩
      have hS' : AddS w s w9 := ⟨(hb9.block _ HB0.out).trans hS.1, hS.2.trans (hb9.mono (Nat.le_of_lt HB0.out))⟩
      obtain ⟨ad9, c9, rfl⟩ := sliceR1 hR9 (by simp only [List.length_append, List.length_cons]; omega)
      have HR9 := Aside0.mk hR9
      clear hR9 hb9
      refine hK.out _ _ hS' (fun _ => ?_)
      clear hK hS
      have hS := hS'
      clear hS'
      try simp only [List.getElem_toArray, List.getElem_cons_succ, List.getElem_cons_zero, Act.put, List.setIfInBounds_toArray, List.set_cons_zero, List.set_cons_succ]
      refine wpAnyH_take (i := 7) (v := .agg #[.slice (some ad9) (L.take j ++ s :: L.drop j).length c9]) rfl (by kernel_rfl) (by kernel_rfl) (by kernel_rfl) (fun _ _ _ h => h) (.inl ⟨by kernel_rfl, fun w' hS => by go_simp⟩) hS ?_
      try simp only [List.getElem_toArray, List.getElem_cons_succ, List.getElem_cons_zero, Act.put, List.setIfInBounds_toArray, List.set_cons_zero, List.set_cons_succ]
      refine wpAnyH_ready (rs := [8]) (by kernel_rfl) (by simp) (AllReadyH.cons rfl (fun K' hK => ?_) AllReadyH.nil)
      rw [if_pos (by kernel_rfl)]
      go_simp
      have hS' := hS.below ((Below.refl w9.heap.size w9).alloc (Nat.le_refl _) (.cells #[.slice (some ad9) (L.take j ++ s :: L.drop j).length c9] 130 (0, 0)))
      simp only [List.length_append, List.length_take, List.length_drop, List.length_cons] at hS'
      refine hK.out _ _ hS' (fun _ => ?_)
      clear hK
      try simp only [List.getElem_toArray, List.getElem_cons_succ, List.getElem_cons_zero, Act.put, List.setIfInBounds_toArray, List.set_cons_zero, List.set_cons_succ]
      replace hS := hS'
      clear hS'
      refine wpAnyH_take (i := 9) (v := .pointer (some ⟨w9.heap.size, 0, none⟩)) rfl (by kernel_rfl) (by kernel_rfl) (by kernel_rfl) (fun _ _ _ h => h) (.inl ⟨by kernel_rfl, fun w' hS => by go_simp⟩) hS ?_
      try simp only [List.getElem_toArray, List.getElem_cons_succ, List.getElem_cons_zero, Act.put, List.setIfInBounds_toArray, List.set_cons_zero, List.set_cons_succ]
      refine wpAnyH_take (i := 10) (v := .int .i64 0) rfl (by kernel_rfl) (by kernel_rfl) (by kernel_rfl) (fun _ _ _ h => h) (.inl ⟨by kernel_rfl, fun w' hS => by go_simp⟩) hS ?_
      try simp only [List.getElem_toArray, List.getElem_cons_succ, List.getElem_cons_zero, Act.put, List.setIfInBounds_toArray, List.set_cons_zero, List.set_cons_succ]
      refine wpAnyH_done (by kernel_rfl) ?_ _
      refine NoPanic.normal ?_
      go_wp2
      go_ret2
      exact span_Add.end HR9.out hS.2 (by simp only [List.length_append, List.length_take, List.length_drop, List.length_cons])
  · rw [if_pos (by kernel_rfl)]
    go_simp
    have hbA := (Below.refl w8.heap.size w8).alloc (Nat.le_refl _) (.cells #[.int .i64 s.f0, .int .i64 s.f1, .string s.f2] 83)
    have hS' := hS.below hbA
    have hvA : (w8.alloc (.cells #[.int .i64 s.f0, .int .i64 s.f1, .string s.f2] 83)).heap[w8.heap.size]? = some (.cells (span_cells s).toArray 83 (0, 0)) := heap_alloc_new w8 _
    refine hK.out _ _ hS' (fun _ => ?_)
    clear hK
    have hS0 := hS
    replace hS := hS'
    clear hS'
    try simp only [List.getElem_toArray, List.getElem_cons_succ, List.getElem_cons_zero, Act.put, List.setIfInBounds_toArray, List.set_cons_zero, List.set_cons_succ]
    have hvl : w8.heap.size < (w8.alloc (.cells #[.int .i64 s.f0, .int .i64 s.f1, .string s.f2] 83)).heap.size := (Array.getElem?_eq_some_iff.1 hvA).1
    have HB0 : Aside0 (w.heap.size < (w8.alloc (.cells #[.int .i64 s.f0, .int .i64 s.f1, .string s.f2] 83)).heap.size) := ⟨Nat.lt_trans hS0.lt hvl⟩
    clear hbA hS0
    generalize w8.heap.size = vb at *
    generalize w8.alloc (.cells #[.int .i64 s.f0, .int .i64 s.f1, .string s.f2] 83) = w11 at *
    refine wpAnyH_ready (rs := [1]) (by kernel_rfl) (by simp) (AllReadyH.cons rfl (fun K' hK => ?_) AllReadyH.nil)
    rw [if_pos (by kernel_rfl)]
    go_simp
    go_at_call 65
    refine (span_spans.calls' _ L _ (HT.out.below hS.2)).mono ?_
    rintro e w9 ⟨⟨A6, n6, rfl, hn6, hC6⟩, rfl⟩
    have hS' := hS
    have HN6 := Aside0.mk hn6
    have HC6 := Aside0.mk hC6
    clear hn6 hC6
    refine hK.out _ _ hS' (fun _ => ?_)
    clear hK hS
    have hS := hS'
    clear hS'
    try simp only [List.getElem_toArray, List.getElem_cons_succ, List.getElem_cons_zero, Act.put, List.setIfInBounds_toArray, List.set_cons_zero, List.set_cons_succ]
    refine wpAnyH_ready (rs := [2]) (by kernel_rfl) (by simp) (AllReadyH.cons rfl (fun K' hK => ?_) AllReadyH.nil)
    rw [if_pos (by kernel_rfl)]
    go_simp
    go_at_call 75
    refine (span_Clone.calls A6 n6 L _ HC6.out HN6.out HSM.out).mono ?_
    rintro e w12 ⟨v0, rfl, hR0, hb0⟩
    have hS' : AddS w s w12 := hS.below hb0
    refine hK.out _ _ hS' (fun _ => ?_)
    clear hK hS
    have hS := hS'
    clear hS'
    try simp only [List.getElem_toArray, List.getElem_cons_succ, List.getElem_cons_zero, Act.put, List.setIfInBounds_toArray, List.set_cons_zero, List.set_cons_succ]
    have HR0 := Aside0.mk hR0
    have HBB := Aside0.mk hb0.size
    have HV := Aside0.mk ((hb0.block _ hvl).trans hvA)
    have HNE : Aside0 (some vb ≠ v0.ownBlock) := ⟨fun e => by obtain ⟨_, ho⟩ := Kd.R_own hR0; have := own_base ho _ e.symm; omega⟩
    clear hR0 hb0 hvA hvl
    generalize w9.heap.size = B at *
    refine wpAnyH_ready (rs := [6]) (by kernel_rfl) (by simp) (AllReadyH.cons rfl (fun K' hK => ?_) AllReadyH.nil)
    rw [if_pos (by kernel_rfl)]
    go_simp
    go_at_call 74
    refine (span_Insert.calls B v0 L j s vb 1 83 _ HR0.out HJ.out HSM.out HBB.out HV.out HNE.out).mono ?_
    rintro e w9 ⟨v9, rfl, hR9, hb9⟩
    have hS' : AddS w s w9 := ⟨(hb9.block _ HB0.out).trans hS.1, hS.2.trans (hb9.mono (Nat.le_of_lt HB0.out))⟩
    obtain ⟨ad9, c9, rfl⟩ := sliceR1 hR9 (by simp only [List.length_append, List.length_cons]; omega)
    have HR9 := Aside0.mk hR9
    clear hR9 hb9
    refine hK.out _ _ hS' (fun _ => ?_)
    clear hK hS
    have hS := hS'
    clear hS'
    try simp only [List.getElem_toArray, List.getElem_cons_succ, List.getElem_cons_zero, Act.put, List.setIfInBounds_toArray, List.set_cons_zero, List.set_cons_succ]
    refine wpAnyH_take (i := 7) (v := .agg #[.slice (some ad9) (L.take j ++ s :: L.drop j).length c9]) rfl (by kernel_rfl) (by kernel_rfl) (by kernel_rfl) (fun _ _ _ h => h) (.inl ⟨by kernel_rfl, fun w' hS => by go_simp⟩) hS ?_
    try simp only [List.getElem_toArray, List.getElem_cons_succ, List.getElem_cons_zero, Act.put, List.setIfInBounds_toArray, List.set_cons_zero, List.set_cons_succ]
    refine wpAnyH_ready (rs := [8]) (by kernel_rfl) (by simp) (AllReadyH.cons rfl (fun K' hK => ?_) AllReadyH.nil)
    rw [if_pos (by kernel_rfl)]
    go_simp
    have hS' := hS.below ((Below.refl w9.heap.size w9).alloc (Nat.le_refl _) (.cells #[.slice (some ad9) (L.take j ++ s :: L.drop j).length c9] 130 (0, 0)))
    simp only [List.length_append, List.length_take, List.length_drop, List.length_cons] at hS'
    refine hK.out _ _ hS' (fun _ => ?_)
    clear hK
    try simp only [List.getElem_toArray, List.getElem_cons_succ, List.getElem_cons_zero, Act.put, List.setIfInBounds_toArray, List.set_cons_zero, List.set_cons_succ]
    replace hS := hS'
    clear hS'
    refine wpAnyH_take (i := 9) (v := .pointer (some ⟨w9.heap.size, 0, none⟩)) rfl (by kernel_rfl) (by kernel_rfl) (by kernel_rfl) (fun _ _ _ h => h) (.inl ⟨by kernel_rfl, fun w' hS => by go_simp⟩) hS ?_
    try simp only [List.getElem_toArray, List.getElem_cons_succ, List.getElem_cons_zero, Act.put, List.setIfInBounds_toArray, List.set_cons_zero, List.set_cons_succ]
    refine wpAnyH_take (i := 10) (v := .int .i64 0) rfl (by kernel_rfl) (by kernel_rfl) (by kernel_rfl) (fun _ _ _ h => h) (.inl ⟨by kernel_rfl, fun w' hS => by go_simp⟩) hS ?_
    try simp only [List.getElem_toArray, List.getElem_cons_succ, List.getElem_cons_zero, Act.put, List.setIfInBounds_toArray, List.set_cons_zero, List.set_cons_succ]
    refine wpAnyH_done (by kernel_rfl) ?_ _
    refine NoPanic.normal ?_
    go_wp2
    go_ret2
    exact span_Add.end HR9.out hS.2 (by simp only [List.length_append, List.length_take, List.length_drop, List.length_cons])
set_option maxHeartbeats 4000000 in
set_option maxRecDepth 100000 in
theorem span_Add.fitsC (k : Nat) (p : Option Addr) (L : List S83) (s : S83) (j : Nat) (w : World) (hT : Tab w p L) (hf : span_find.f k L s.f0 = some (j : Int)) (hc : ¬ (s.f0 < 0 ∨ 1114111 < s.f1 ∨ s.f1 < s.f0)) (hv : ¬ s.f2.toList = ([] : List UInt8)) (hj : j ≤ L.length) (hsm : L.length < 1099511627776) (c1 : (j : Int) < (L.length : Int)) (c3 : ¬ (rd_T83 L (j : Int)).f0 ≤ s.f1) :
    Calls Tryz.prog 47 #[.pointer p, .agg #[.int .i64 s.f0, .int .i64 s.f1, .string s.f2]] w fun e w' => ∃ g, e = .returned (.tuple #[.pointer (some ⟨g, 0, none⟩), .int .i64 0]) ∧ Tab w' (some ⟨g, 0, none⟩) (L.take j ++ s :: L.drop j) ∧ Below w.heap.size w w' := by
  have HT := Aside0.mk hT
  have HF := Aside0.mk hf
  have h1 : decide (s.f0 < 0) = false := by simp; omega
  have h2 : decide (1114111 < s.f1) = false := by simp; omega
  have h3 : decide (s.f1 < s.f0) = false := by simp; omega
  have b1 : (s.f2.toList == ([] : List UInt8)) = false := beq_eq_false_iff_ne.mpr hv
  have b3 : s.f2.toList.isEmpty = false := by
    cases hv' : s.f2.toList with
    | nil => exact absurd hv' hv
    | cons _ _ => rfl
  have HSM := Aside0.mk hsm
  have HJ := Aside0.mk hj
  rcases hT.open_ with ⟨_, rfl⟩ | ⟨g, A, n, rfl, q2, q3, q4⟩
  · simp at c1; omega
  have hcg : w.cell? ⟨g, 0, none⟩ = some (.slice A L.length n) := by unfold World.cell?; rw [q2]; rfl
  obtain ⟨ad, rfl, hx0, hx1, hx2⟩ := at_T83 q4 (j : Int) (by omega) c1
  rw [Int.toNat_natCast] at hx0
  have HCG := Aside0.mk hcg
  have HX0 := Aside0.mk hx0
  have e1 : decide ((j : Int) < (L.length : Int)) = true := decide_eq_true c1
  have e2 := eq_true c1
  have e4 := eq_false c3
  have e5 : decide ((rd_T83 L (j : Int)).f0 ≤ s.f1) = false := decide_eq_false c3
  clear hT hf hc hj hsm q2 q3 q4 hcg hx0 hx1 hx2 c1 c3
  go_enter Tryz.func47, Tryz.ntmps47
  have HS := Aside0.mk (AddS.start w s)
  go_wp2_with (first
    | (go_at_call 66
       refine (span_find.calls k _ L s.f0 (j : Int) _ (HT.out.below HS.out.2) HF.out).mono ?_
       rintro e w2 ⟨rfl, hb⟩
       have HS2 := Aside0.mk (HS.out.below hb)
       obtain ⟨hx0, hx1, hx2⟩ := HS2.out.cells
       clear hb))
  refine wp_region_noPanic ?_
  refine wp_region_held (S := AddS w s) (by kernel_rfl) ?_
  have hS : AddS w s w2.drew := ⟨HS2.out.1, HS2.out.2.drew⟩
  show wpAnyH _ _ _ _ _ _ _ _ w2.drew
  refine wpAnyH_take (i := 0) (v := .int .i64 (j : Int)) rfl (by kernel_rfl) (by kernel_rfl) (by kernel_rfl) (fun _ _ _ h => h) (.inl ⟨by kernel_rfl, fun w' hS => by go_simp⟩) hS ?_
  try simp only [List.getElem_toArray, List.getElem_cons_succ, List.getElem_cons_zero, Act.put, List.setIfInBounds_toArray, List.set_cons_zero, List.set_cons_succ]
  refine wpAnyH_take (i := 1) (v := .pointer (some ⟨g, 0, none⟩)) rfl (by kernel_rfl) (by kernel_rfl) (by kernel_rfl) (fun _ _ _ h => h) (.inl ⟨by kernel_rfl, fun w' hS => by go_simp⟩) hS ?_
  try simp only [List.getElem_toArray, List.getElem_cons_succ, List.getElem_cons_zero, Act.put, List.setIfInBounds_toArray, List.set_cons_zero, List.set_cons_succ]
  refine wpAnyH_ready (rs := [2]) (by kernel_rfl) (by simp) (AllReadyH.cons rfl (fun K' hK => ?_) AllReadyH.nil)
  rw [if_pos (by kernel_rfl)]
  go_simp
  go_at_call 65
  refine (span_spans.calls' _ L _ (HT.out.below hS.2)).mono ?_
  rintro e w7 ⟨⟨A6, n6, rfl, hn6, hC6⟩, rfl⟩
  have hS' := hS
  refine hK.out _ _ hS' (fun _ => ?_)
  clear hK hS
  have hS := hS'
  clear hS'
  try simp only [List.getElem_toArray, List.getElem_cons_succ, List.getElem_cons_zero, Act.put, List.setIfInBounds_toArray, List.set_cons_zero, List.set_cons_succ]
  refine wpAnyH_take (i := 3) (v := .int .i64 (L.length : Int)) rfl (by kernel_rfl) (by kernel_rfl) (by kernel_rfl) (fun _ _ _ h => h) (.inl ⟨by kernel_rfl, fun w' hS => by go_simp⟩) hS ?_
  try simp only [List.getElem_toArray, List.getElem_cons_succ, List.getElem_cons_zero, Act.put, List.setIfInBounds_toArray, List.set_cons_zero, List.set_cons_succ]
  refine wpAnyH_take (i := 4) (v := .bool true) rfl (by kernel_rfl) (by kernel_rfl) (by kernel_rfl) (fun _ _ _ h => h) (.inl ⟨by kernel_rfl, fun w' hS => by go_simp⟩) hS ?_
  try simp only [List.getElem_toArray, List.getElem_cons_succ, List.getElem_cons_zero, Act.put, List.setIfInBounds_toArray, List.set_cons_zero, List.set_cons_succ]
  refine wpAnyH_take (i := 5) (v := .bool true) rfl (by kernel_rfl) (by kernel_rfl) (by kernel_rfl) (fun _ _ _ h => h) (.inl ⟨by kernel_rfl, fun w' hS => by go_simp⟩) hS ?_
  try simp only [List.getElem_toArray, List.getElem_cons_succ, List.getElem_cons_zero, Act.put, List.setIfInBounds_toArray, List.set_cons_zero, List.set_cons_succ]
  refine wpAnyH_take (i := 6) (v := .pointer (some ⟨g, 0, none⟩)) rfl (by kernel_rfl) (by kernel_rfl) (by kernel_rfl) (fun _ _ _ h => h) (.inl ⟨by kernel_rfl, fun w' hS => by go_simp⟩) hS ?_
  try simp only [List.getElem_toArray, List.getElem_cons_succ, List.getElem_cons_zero, Act.put, List.setIfInBounds_toArray, List.set_cons_zero, List.set_cons_succ]
  refine wpAnyH_take (i := 7) (v := .pointer (some ⟨g, 0, none⟩)) rfl (by kernel_rfl) (by kernel_rfl) (by kernel_rfl) (fun _ _ _ h => h) (.inl ⟨by kernel_rfl, fun w' hS => by go_simp⟩) hS ?_
  try simp only [List.getElem_toArray, List.getElem_cons_succ, List.getElem_cons_zero, Act.put, List.setIfInBounds_toArray, List.set_cons_zero, List.set_cons_succ]
  refine wpAnyH_take (i := 8) (v := .pointer (some ⟨g, 0, none⟩)) rfl (by kernel_rfl) (by kernel_rfl) (by kernel_rfl) (fun _ _ _ h => h) (.inl ⟨by kernel_rfl, fun w' hS => by go_simp⟩) hS ?_
  try simp only [List.getElem_toArray, List.getElem_cons_succ, List.getElem_cons_zero, Act.put, List.setIfInBounds_toArray, List.set_cons_zero, List.set_cons_succ]
  refine wpAnyH_take (i := 9) (v := .slice (some ad) L.length n) rfl (by kernel_rfl) (by kernel_rfl) (by kernel_rfl) (fun _ _ _ h => h) (.inl ⟨by kernel_rfl, fun w' hS => by have q_ := (hS.2.cell (World.block_lt_of_cell? w _ HCG.out)).trans HCG.out; go_simp⟩) hS ?_
  try simp only [List.getElem_toArray, List.getElem_cons_succ, List.getElem_cons_zero, Act.put, List.setIfInBounds_toArray, List.set_cons_zero, List.set_cons_succ]
  refine wpAnyH_take (i := 10) (v := .int .i64 (j : Int)) rfl (by kernel_rfl) (by kernel_rfl) (by kernel_rfl) (fun _ _ _ h => h) (.inl ⟨by kernel_rfl, fun w' hS => by go_simp⟩) hS ?_
  try simp only [List.getElem_toArray, List.getElem_cons_succ, List.getElem_cons_zero, Act.put, List.setIfInBounds_toArray, List.set_cons_zero, List.set_cons_succ]
  refine wpAnyH_take (i := 11) (v := .pointer (some (ad.add (j * 3)))) rfl (by kernel_rfl) (by kernel_rfl) (by kernel_rfl) (fun _ _ _ h => h) (.inl ⟨by kernel_rfl, fun w' hS => by go_simp⟩) hS ?_
  try simp only [List.getElem_toArray, List.getElem_cons_succ, List.getElem_cons_zero, Act.put, List.setIfInBounds_toArray, List.set_cons_zero, List.set_cons_succ]
  refine wpAnyH_take (i := 12) (v := .pointer (some (ad.add (j * 3)))) rfl (by kernel_rfl) (by kernel_rfl) (by kernel_rfl) (fun _ _ _ h => h) (.inl ⟨by kernel_rfl, fun w' hS => by go_simp⟩) hS ?_
  try simp only [List.getElem_toArray, List.getElem_cons_succ, List.getElem_cons_zero, Act.put, List.setIfInBounds_toArray, List.set_cons_zero, List.set_cons_succ]
  refine wpAnyH_take (i := 13) (v := .int .i64 (rd_T83 L (j : Int)).f0) rfl (by kernel_rfl) (by kernel_rfl) (by kernel_rfl) (fun _ _ _ h => h) (.inl ⟨by kernel_rfl, fun w' hS => by have q_ := (hS.2.cell (World.block_lt_of_cell? w _ HX0.out)).trans HX0.out; go_simp⟩) hS ?_
  try simp only [List.getElem_toArray, List.getElem_cons_succ, List.getElem_cons_zero, Act.put, List.setIfInBounds_toArray, List.set_cons_zero, List.set_cons_succ]
  refine wpAnyH_take (i := 14) (v := .pointer (some ⟨w.heap.size, 1, none⟩)) rfl (by kernel_rfl) (by kernel_rfl) (by kernel_rfl) (fun _ _ _ h => h) (.inl ⟨by kernel_rfl, fun w' hS => by go_simp⟩) hS ?_
  try simp only [List.getElem_toArray, List.getElem_cons_succ, List.getElem_cons_zero, Act.put, List.setIfInBounds_toArray, List.set_cons_zero, List.set_cons_succ]
  refine wpAnyH_take (i := 15) (v := .int .i64 s.f1) rfl (by kernel_rfl) (by kernel_rfl) (by kernel_rfl) (fun _ _ _ h => h) (.inl ⟨by kernel_rfl, fun w' hS => by have q_ := hS.cells.2.1; go_simp⟩) hS ?_
  try simp only [List.getElem_toArray, List.getElem_cons_succ, List.getElem_cons_zero, Act.put, List.setIfInBounds_toArray, List.set_cons_zero, List.set_cons_succ]
  refine wpAnyH_take (i := 16) (v := .bool false) rfl (by kernel_rfl) (by kernel_rfl) (by kernel_rfl) (fun _ _ _ h => h) (.inl ⟨by kernel_rfl, fun w' hS => by go_simp⟩) hS ?_
  try simp only [List.getElem_toArray, List.getElem_cons_succ, List.getElem_cons_zero, Act.put, List.setIfInBounds_toArray, List.set_cons_zero, List.set_cons_succ]
  refine wpAnyH_take (i := 17) (v := .bool false) rfl (by kernel_rfl) (by kernel_rfl) (by kernel_rfl) (fun _ _ _ h => h) (.inl ⟨by kernel_rfl, fun w' hS => by go_simp⟩) hS ?_
  try simp only [List.getElem_toArray, List.getElem_cons_succ, List.getElem_cons_zero, Act.put, List.setIfInBounds_toArray, List.set_cons_zero, List.set_cons_succ]
  refine wpAnyH_take (i := 18) (v := .bool false) rfl (by kernel_rfl) (by kernel_rfl) (by kernel_rfl) (fun _ _ _ h => h) (.inl ⟨by kernel_rfl, fun w' hS => by go_simp⟩) hS ?_
  try simp only [List.getElem_toArray, List.getElem_cons_succ, List.getElem_cons_zero, Act.put, List.setIfInBounds_toArray, List.set_cons_zero, List.set_cons_succ]
  refine wpAnyH_done (by kernel_rfl) ?_ _
  refine NoPanic.normal ?_
  go_wp2
  generalize w2.drew = w7 at *
  refine wp_region_noPanic ?_
  refine wp_region_held (S := AddS w s) (by kernel_rfl) ?_
  replace hS : AddS w s w7.drew := ⟨hS.1, hS.2.drew⟩
  show wpAnyH _ _ _ _ _ _ _ _ w7.drew
  generalize w7.drew = w8 at hS ⊢
  refine wpAnyH_take (i := 0) (v := .pointer (some ⟨g, 0, none⟩)) rfl (by kernel_rfl) (by kernel_rfl) (by kernel_rfl) (fun _ _ _ h => h) (.inl ⟨by kernel_rfl, fun w' hS => by go_simp⟩) hS ?_
  try simp only [List.getElem_toArray, List.getElem_cons_succ, List.getElem_cons_zero, Act.put, List.setIfInBounds_toArray, List.set_cons_zero, List.set_cons_succ]
  refine wpAnyH_take (i := 3) (v := .int .i64 (j : Int)) rfl (by kernel_rfl) (by kernel_rfl) (by kernel_rfl) (fun _ _ _ h => h) (.inl ⟨by kernel_rfl, fun w' hS => by go_simp⟩) hS ?_
  try simp only [List.getElem_toArray, List.getElem_cons_succ, List.getElem_cons_zero, Act.put, List.setIfInBounds_toArray, List.set_cons_zero, List.set_cons_succ]
  refine wpAnyH_take (i := 4) (v := .agg #[.int .i64 s.f0, .int .i64 s.f1, .string s.f2]) rfl (by kernel_rfl) (by kernel_rfl) (by kernel_rfl) (fun _ _ _ h => h) (.inl ⟨by kernel_rfl, fun w' hS => by obtain ⟨q0_, q1_, q2_⟩ := hS.cells; go_simp⟩) hS ?_
  try simp only [List.getElem_toArray, List.getElem_cons_succ, List.getElem_cons_zero, Act.put, List.setIfInBounds_toArray, List.set_cons_zero, List.set_cons_succ]
  refine wpAnyH_ready (rs := [1, 5]) (by kernel_rfl) (by simp) (AllReadyH.cons rfl (fun K' hK => ?_) (AllReadyH.cons rfl (fun K' hK => ?_) AllReadyH.nil))
  · rw [if_pos (by kernel_rfl)]
    go_simp
    go_at_call 65
    refine (span_spans.calls' _ L _ (HT.out.below hS.2)).mono ?_
    rintro e w9 ⟨⟨A6, n6, rfl, hn6, hC6⟩, rfl⟩
    have hS' := hS
    have HN6 := Aside0.mk hn6
    have HC6 := Aside0.mk hC6
    clear hn6 hC6
    refine hK.out _ _ hS' (fun _ => ?_)
    clear hK hS
    have hS := hS'
    clear hS'
    try simp only [List.getElem_toArray, List.getElem_cons_succ, List.getElem_cons_zero, Act.put, List.setIfInBounds_toArray, List.set_cons_zero, List.set_cons_succ]
    refine wpAnyH_ready (rs := [2, 5]) (by kernel_rfl) (by simp) (AllReadyH.cons rfl (fun K' hK => ?_) (AllReadyH.cons rfl (fun K' hK => ?_) AllReadyH.nil))
    · rw [if_pos (by kernel_rfl)]
      go_simp
      go_at_call 75
      refine (span_Clone.calls A6 n6 L _ HC6.out HN6.out HSM.out).mono ?_
      rintro e w10 ⟨v0, rfl, hR0, hb0⟩
      have hS' : AddS w s w10 := hS.below hb0
      have HB0 : Aside0 (w.heap.size < w9.heap.size) := ⟨hS.lt⟩
      refine hK.out _ _ hS' (fun _ => ?_)
      clear hK hS
      have hS := hS'
      clear hS'
      try simp only [List.getElem_toArray, List.getElem_cons_succ, List.getElem_cons_zero, Act.put, List.setIfInBounds_toArray, List.set_cons_zero, List.set_cons_succ]
      refine wpAnyH_ready (rs := [5]) (by kernel_rfl) (by simp) (AllReadyH.cons rfl (fun K' hK => ?_) AllReadyH.nil)
      rw [if_pos (by kernel_rfl)]
      go_simp
      have hbA := (Below.refl w10.heap.size w10).alloc (Nat.le_refl _) (.cells #[.int .i64 s.f0, .int .i64 s.f1, .string s.f2] 83)
      have hS' := hS.below hbA
      have hvA : (w10.alloc (.cells #[.int .i64 s.f0, .int .i64 s.f1, .string s.f2] 83)).heap[w10.heap.size]? = some (.cells (span_cells s).toArray 83 (0, 0)) := heap_alloc_new w10 _
      refine hK.out _ _ hS' (fun _ => ?_)
      clear hK
      have hS0 := hS
      replace hS := hS'
      clear hS'
      try simp only [List.getElem_toArray, List.getElem_cons_succ, List.getElem_cons_zero, Act.put, List.setIfInBounds_toArray, List.set_cons_zero, List.set_cons_succ]
      have HR0 := Aside0.mk (Kd.R_below hR0 hbA)
      have HBB := Aside0.mk (Nat.le_trans hb0.size hbA.size)
      have HV := Aside0.mk hvA
      have HNE : Aside0 (some w10.heap.size ≠ v0.ownBlock) := ⟨fun e => by obtain ⟨_, ho⟩ := Kd.R_own hR0; have := own_lt ho _ e.symm; omega⟩
      clear hR0 hb0 hvA hbA hS0
      generalize w9.heap.size = B at *
      generalize w10.heap.size = vb at *
      generalize w10.alloc (.cells #[.int .i64 s.f0, .int .i64 s.f1, .string s.f2] 83) = w11 at *
      refine wpAnyH_ready (rs := [6]) (by kernel_rfl) (by simp) (AllReadyH.cons rfl (fun K' hK => ?_) AllReadyH.nil)
      rw [if_pos (by kernel_rfl)]
      go_simp
      go_at_call 74
      refine (span_Insert.calls B v0 L j s vb 1 83 _ HR0.out HJ.out HSM.out HBB.out HV.out HNE.out).mono ?_
      rintro e w9 ⟨v9, rfl, hR9, hb9⟩
      have hS' : AddS w s w9 := ⟨(hb9.block _ HB0.out).trans hS.1, hS.2.trans (hb9.mono (Nat.le_of_lt HB0.out))⟩
      obtain ⟨ad9, c9, rfl⟩ := sliceR1 hR9 (by simp only [List.length_append, List.length_cons]; omega)
      have HR9 := Aside0.mk hR9
      clear hR9 hb9
      refine hK.out _ _ hS' (fun _ => ?_)
      clear hK hS
      have hS := hS'
      clear hS'
      try simp only [List.getElem_toArray, List.getElem_cons_succ, List.getElem_cons_zero, Act.put, List.setIfInBounds_toArray, List.set_cons_zero, List.set_cons_succ]
      refine wpAnyH_take (i := 7) (v := .agg #[.slice (some ad9) (L.take j ++ s :: L.drop j).length c9]) rfl (by kernel_rfl) (by kernel_rfl) (by kernel_rfl) (fun _ _ _ h => h) (.inl ⟨by kernel_rfl, fun w' hS => by go_simp⟩) hS ?_
      try simp only [List.getElem_toArray, List.getElem_cons_succ, List.getElem_cons_zero, Act.put, List.setIfInBounds_toArray, List.set_cons_zero, List.set_cons_succ]
      refine wpAnyH_ready (rs := [8]) (by kernel_rfl) (by simp) (AllReadyH.cons rfl (fun K' hK => ?_) AllReadyH.nil)
      rw [if_pos (by kernel_rfl)]
      go_simp
      have hS' := hS.below ((Below.refl w9.heap.size w9).alloc (Nat.le_refl _) (.cells #[.slice (some ad9) (L.take j ++ s :: L.drop j).length c9] 130 (0, 0)))
      simp only [List.length_append, List.length_take, List.length_drop, List.length_cons] at hS'
      refine hK.out _ _ hS' (fun _ => ?_)
      clear hK
      try simp only [List.getElem_toArray, List.getElem_cons_succ, List.getElem_cons_zero, Act.put, List.setIfInBounds_toArray, List.set_cons_zero, List.set_cons_succ]
      replace hS := hS'
      clear hS'
      refine wpAnyH_take (i := 9) (v := .pointer (some ⟨w9.heap.size, 0, none⟩)) rfl (by kernel_rfl) (by kernel_rfl) (by kernel_rfl) (fun _ _ _ h => h) (.inl ⟨by kernel_rfl, fun w' hS => by go_simp⟩) hS ?_
      try simp only [List.getElem_toArray, List.getElem_cons_succ, List.getElem_cons_zero, Act.put, List.setIfInBounds_toArray, List.set_cons_zero, List.set_cons_succ]
      refine wpAnyH_take (i := 10) (v := .int .i64 0) rfl (by kernel_rfl) (by kernel_rfl) (by kernel_rfl) (fun _ _ _ h => h) (.inl ⟨by kernel_rfl, fun w' hS => by go_simp⟩) hS ?_
      try simp only [List.getElem_toArray, List.getElem_cons_succ, List.getElem_cons_zero, Act.put, List.setIfInBounds_toArray, List.set_cons_zero, List.set_cons_succ]
      refine wpAnyH_done (by kernel_rfl) ?_ _
      refine NoPanic.normal ?_
      go_wp2
      go_ret2
      exact span_Add.end HR9.out hS.2 (by simp only [List.length_append, List.length_take, List.length_drop, List.length_cons])
    · rw [if_pos (by kernel_rfl)]
      go_simp
      have hbA := (Below.refl w9.heap.size w9).alloc (Nat.le_refl _) (.cells #[.int .i64 s.f0, .int .i64 s.f1, .string s.f2] 83)
      have hS' := hS.below hbA
      have hvA : (w9.alloc (.cells #[.int .i64 s.f0, .int .i64 s.f1, .string s.f2] 83)).heap[w9.heap.size]? = some (.cells (span_cells s).toArray 83 (0, 0)) := heap_alloc_new w9 _
      refine hK.out _ _ hS' (fun _ => ?_)
      clear hK
      have hS0 := hS
      replace hS := hS'
      clear hS'
      try simp only [List.getElem_toArray, List.getElem_cons_succ, List.getElem_cons_zero, Act.put, List.setIfInBounds_toArray, List.set_cons_zero, List.set_cons_succ]
      replace HC6 := Aside0.mk (Kd.C_below HC6.out hbA)
      have hvl : w9.heap.size < (w9.alloc (.cells #[.int .i64 s.f0, .int .i64 s.f1, .string s.f2] 83)).heap.size := (Array.getElem?_eq_some_iff.1 hvA).1
      have HB0 : Aside0 (w.heap.size < (w9.alloc (.cells #[.int .i64 s.f0, .int .i64 s.f1, .string s.f2] 83)).heap.size) := ⟨Nat.lt_trans hS0.lt hvl⟩
      clear hbA hS0
      generalize w9.heap.size = vb at *
      generalize w9.alloc (.cells #[.int .i64 s.f0, .int .i64 s.f1, .string s.f2] 83) = w11 at *
      refine wpAnyH_ready (rs := [2]) (by kernel_rfl) (by simp) (AllReadyH.cons rfl (fun K' hK => ?_) AllReadyH.nil)
      rw [if_pos (by kernel_rfl)]
      go_simp
      go_at_call 75
      refine (span_Clone.calls A6 n6 L _ HC6.out HN6.out HSM.out).mono ?_
      rintro e w12 ⟨v0, rfl, hR0, hb0⟩
      have hS' : AddS w s w12 := hS.below hb0
      refine hK.out _ _ hS' (fun _ => ?_)
      clear hK hS
      have hS := hS'
      clear hS'
      try simp only [List.getElem_toArray, List.getElem_cons_succ, List.getElem_cons_zero, Act.put, List.setIfInBounds_toArray, List.set_cons_zero, List.set_cons_succ]
      have HR0 := Aside0.mk hR0
      have HBB := Aside0.mk hb0.size
      have HV := Aside0.mk ((hb0.block _ hvl).trans hvA)
      have HNE : Aside0 (some vb ≠ v0.ownBlock) := ⟨fun e => by obtain ⟨_, ho⟩ := Kd.R_own hR0; have := own_base ho _ e.symm; omega⟩
      clear hR0 hb0 hvA hvl
      generalize w11.heap.size = B at *
      refine wpAnyH_ready (rs := [6]) (by kernel_rfl) (by simp) (AllReadyH.cons rfl (fun K' hK => ?_) AllReadyH.nil)
      rw [if_pos (by kernel_rfl)]
      go_simp
      go_at_call 74
      refine (span_Insert.calls B v0 L j s vb 1 83 _ HR0.out HJ.out HSM.out HBB.out HV.out HNE.out).mono ?_
      rintro e w9 ⟨v9, rfl, hR9, hb9⟩
      have hS' : AddS w s w9 := ⟨(hb9.block _ HB0.out).trans hS.1, hS.2.trans (hb9.mono (Nat.le_of_lt HB0.out))⟩
      obtain ⟨ad9, c9, rfl⟩ := sliceR1 hR9 (by simp only [List.length_append, List.length_cons]; omega)
      have HR9 := Aside0.mk hR9
      clear hR9 hb9
      refine hK.out _ _ hS' (fun _ => ?_)
      clear hK hS
      have hS := hS'
      clear hS'
      try simp only [List.getElem_toArray, List.getElem_cons_succ, List.getElem_cons_zero, Act.put, List.setIfInBounds_toArray, List.set_cons_zero, List.set_cons_succ]
      refine wpAnyH_take (i := 7) (v := .agg #[.slice (some ad9) (L.take j ++ s :: L.drop j).length c9]) rfl (by kernel_rfl) (by kernel_rfl) (by kernel_rfl) (fun _ _ _ h => h) (.inl ⟨by kernel_rfl, fun w' hS => by go_simp⟩) hS ?_
      try simp only [List.getElem_toArray, List.getElem_cons_succ, List.getElem_cons_zero, Act.put, List.setIfInBounds_toArray, List.set_cons_zero, List.set_cons_succ]
      refine wpAnyH_ready (rs := [8]) (by kernel_rfl) (by simp) (AllReadyH.cons rfl (fun K' hK => ?_) AllReadyH.nil)
      rw [if_pos (by kernel_rfl)]
      go_simp
      have hS' := hS.below ((Below.refl w9.heap.size w9).alloc (Nat.le_refl _) (.cells #[.slice (some ad9) (L.take j ++ s :: L.drop j).length c9] 130 (0, 0)))
      simp only [List.length_append, List.length_take, List.length_drop, List.length_cons] at hS'
      refine hK.out _ _ hS' (fun _ => ?_)
      clear hK
      try simp only [List.getElem_toArray, List.getElem_cons_succ, List.getElem_cons_zero, Act.put, List.setIfInBounds_toArray, List.set_cons_zero, List.set_cons_succ]
      replace hS := hS'
      clear hS'
      refine wpAnyH_take (i := 9) (v := .pointer (some ⟨w9.heap.size, 0, none⟩)) rfl (by kernel_rfl) (by kernel_rfl) (by kernel_rfl) (fun _ _ _ h => h) (.inl ⟨by kernel_rfl, fun w' hS => by go_simp⟩) hS ?_
      try simp only [List.getElem_toArray, List.getElem_cons_succ, List.getElem_cons_zero, Act.put, List.setIfInBounds_toArray, List.set_cons_zero, List.set_cons_succ]
      refine wpAnyH_take (i := 10) (v := .int .i64 0) rfl (by kernel_rfl) (by kernel_rfl) (by kernel_rfl) (fun _ _ _ h => h) (.inl ⟨by kernel_rfl, fun w' hS => by go_simp⟩) hS ?_
      try simp only [List.getElem_toArray, List.getElem_cons_succ, List.getElem_cons_zero, Act.put, List.setIfInBounds_toArray, List.set_cons_zero, List.set_cons_succ]
      refine wpAnyH_done (by kernel_rfl) ?_ _
      refine NoPanic.normal ?_
      go_wp2
      go_ret2
      exact span_Add.end HR9.out hS.2 (by simp only [List.length_append, List.length_take, List.length_drop, List.length_cons])
  · rw [if_pos (by kernel_rfl)]
    go_simp
    have hbA := (Below.refl w8.heap.size w8).alloc (Nat.le_refl _) (.cells #[.int .i64 s.f0, .int .i64 s.f1, .string s.f2] 83)
    have hS' := hS.below hbA
    have hvA : (w8.alloc (.cells #[.int .i64 s.f0, .int .i64 s.f1, .string s.f2] 83)).heap[w8.heap.size]? = some (.cells (span_cells s).toArray 83 (0, 0)) := heap_alloc_new w8 _
    refine hK.out _ _ hS' (fun _ => ?_)
    clear hK
    have hS0 := hS
    replace hS := hS'
    clear hS'
    try simp only [List.getElem_toArray, List.getElem_cons_succ, List.getElem_cons_zero, Act.put, List.setIfInBounds_toArray, List.set_cons_zero, List.set_cons_succ]
    have hvl : w8.heap.size < (w8.alloc (.cells #[.int .i64 s.f0, .int .i64 s.f1, .string s.f2] 83)).heap.size := (Array.getElem?_eq_some_iff.1 hvA).1
    have HB0 : Aside0 (w.heap.size < (w8.alloc (.cells #[.int .i64 s.f0, .int .i64 s.f1, .string s.f2] 83)).heap.size) := ⟨Nat.lt_trans hS0.lt hvl⟩
    clear hbA hS0
    generalize w8.heap.size = vb at *
    generalize w8.alloc (.cells #[.int .i64 s.f0, .int .i64 s.f1, .string s.f2] 83) = w11 at *
    refine wpAnyH_ready (rs := [1]) (by kernel_rfl) (by simp) (AllReadyH.cons rfl (fun K' hK => ?_) AllReadyH.nil)
    rw [if_pos (by kernel_rfl)]
    go_simp
    go_at_call 65
    refine (span_spans.calls' _ L _ (HT.out.below hS.2)).mono ?_
    rintro e w9 ⟨⟨A6, n6, rfl, hn6, hC6⟩, rfl⟩
    have hS' := hS
    have HN6 := Aside0.mk hn6
    have HC6 := Aside0.mk hC6
    clear hn6 hC6
    refine hK.out _ _ hS' (fun _ => ?_)
    clear hK hS
    have hS := hS'
    clear hS'
    try simp only [List.getElem_toArray, List.getElem_cons_succ, List.getElem_cons_zero, Act.put, List.setIfInBounds_toArray, List.set_cons_zero, List.set_cons_succ]
    refine wpAnyH_ready (rs := [2]) (by kernel_rfl) (by simp) (AllReadyH.cons rfl (fun K' hK => ?_) AllReadyH.nil)
    rw [if_pos (by kernel_rfl)]
    go_simp
    go_at_call 75
    refine (span_Clone.calls A6 n6 L _ HC6.out HN6.out HSM.out).mono ?_
    rintro e w12 ⟨v0, rfl, hR0, hb0⟩
    have hS' : AddS w s w12 := hS.below hb0
    refine hK.out _ _ hS' (fun _ => ?_)
    clear hK hS
    have hS := hS'
    clear hS'
    try simp only [List.getElem_toArray, List.getElem_cons_succ, List.getElem_cons_zero, Act.put, List.setIfInBounds_toArray, List.set_cons_zero, List.set_cons_succ]
    have HR0 := Aside0.mk hR0
    have HBB := Aside0.mk hb0.size
    have HV := Aside0.mk ((hb0.block _ hvl).trans hvA)
    have HNE : Aside0 (some vb ≠ v0.ownBlock) := ⟨fun e => by obtain ⟨_, ho⟩ := Kd.R_own hR0; have := own_base ho _ e.symm; omega⟩
    clear hR0 hb0 hvA hvl
    generalize w9.heap.size = B at *
    refine wpAnyH_ready (rs := [6]) (by kernel_rfl) (by simp) (AllReadyH.cons rfl (fun K' hK => ?_) AllReadyH.nil)
    rw [if_pos (by kernel_rfl)]
    go_simp
    go_at_call 74
    refine (span_Insert.calls B v0 L j s vb 1 83 _ HR0.out HJ.out HSM.out HBB.out HV.out HNE.out).mono ?_
    rintro e w9 ⟨v9, rfl, hR9, hb9⟩
    have hS' : AddS w s w9 := ⟨(hb9.block _ HB0.out).trans hS.1, hS.2.trans (hb9.mono (Nat.le_of_lt HB0.out))⟩
    obtain ⟨ad9, c9, rfl⟩ := sliceR1 hR9 (by simp only [List.length_append, List.length_cons]; omega)
    have HR9 := Aside0.mk hR9
    clear hR9 hb9
    refine hK.out _ _ hS' (fun _ => ?_)
    clear hK hS
    have hS := hS'
    clear hS'
    try simp only [List.getElem_toArray, List.getElem_cons_succ, List.getElem_cons_zero, Act.put, List.setIfInBounds_toArray, List.set_cons_zero, List.set_cons_succ]
    refine wpAnyH_take (i := 7) (v := .agg #[.slice (some ad9) (L.take j ++ s :: L.drop j).length c9]) rfl (by kernel_rfl) (by kernel_rfl) (by kernel_rfl) (fun _ _ _ h => h) (.inl ⟨by kernel_rfl, fun w' hS => by go_simp⟩) hS ?_
    try simp only [List.getElem_toArray, List.getElem_cons_succ, List.getElem_cons_zero, Act.put, List.setIfInBounds_toArray, List.set_cons_zero, List.set_cons_succ]
    refine wpAnyH_ready (rs := [8]) (by kernel_rfl) (by simp) (AllReadyH.cons rfl (fun K' hK => ?_) AllReadyH.nil)
    rw [if_pos (by kernel_rfl)]
    go_simp
    have hS' := hS.below ((Below.refl w9.heap.size w9).alloc (Nat.le_refl _) (.cells #[.slice (some ad9) (L.take j ++ s :: L.drop j).length c9] 130 (0, 0)))
    simp only [List.length_append, List.length_take, List.length_drop, List.length_cons] at hS'
    refine hK.out _ _ hS' (fun _ => ?_)
    clear hK
    try simp only [List.getElem_toArray, List.getElem_cons_succ, List.getElem_cons_zero, Act.put, List.setIfInBounds_toArray, List.set_cons_zero, List.set_cons_succ]
    replace hS := hS'
    clear hS'
    refine wpAnyH_take (i := 9) (v := .pointer (some ⟨w9.heap.size, 0, none⟩)) rfl (by kernel_rfl) (by kernel_rfl) (by kernel_rfl) (fun _ _ _ h => h) (.inl ⟨by kernel_rfl, fun w' hS => by go_simp⟩) hS ?_
    try simp only [List.getElem_toArray, List.getElem_cons_succ, List.getElem_cons_zero, Act.put, List.setIfInBounds_toArray, List.set_cons_zero, List.set_cons_succ]
    refine wpAnyH_take (i := 10) (v := .int .i64 0) rfl (by kernel_rfl) (by kernel_rfl) (by kernel_rfl) (fun _ _ _ h => h) (.inl ⟨by kernel_rfl, fun w' hS => by go_simp⟩) hS ?_
    try simp only [List.getElem_toArray, List.getElem_cons_succ, List.getElem_cons_zero, Act.put, List.setIfInBounds_toArray, List.set_cons_zero, List.set_cons_succ]
    refine wpAnyH_done (by kernel_rfl) ?_ _
    refine NoPanic.normal ?_
    go_wp2
    go_ret2
    exact span_Add.end HR9.out hS.2 (by simp only [List.length_append, List.length_take, List.length_drop, List.length_cons])
theorem span_Add.calls (k : Nat) (p : Option Addr) (L : List S83) (s : S83) (j : Nat) (w : World) (hT : Tab w p L) (hf : span_find.f k L s.f0 = some (j : Int)) (hj : j ≤ L.length) (hsm : L.length < 1099511627776) :
    Calls Tryz.prog 47 #[.pointer p, .agg #[.int .i64 s.f0, .int .i64 s.f1, .string s.f2]] w fun e w' => Below w.heap.size w w' ∧ ∃ q, e = .returned (.tuple #[.pointer q, .int .i64 (span_Add.r L s j).1]) ∧
      (((span_Add.r L s j).1 ≠ 0 ∧ q = none) ∨ ((span_Add.r L s j).1 = 0 ∧ (∃ g, q = some ⟨g, 0, none⟩) ∧ Tab w' q (span_Add.r L s j).2)) := by
  unfold span_Add.r
  by_cases c0 : s.f0 < 0 ∨ 1114111 < s.f1 ∨ s.f1 < s.f0
  · simp only [if_pos c0]
    exact (span_Add.range k p L s j w hT hf c0).mono fun e w' h => ⟨h.2, none, h.1, .inl ⟨by omega, rfl⟩⟩
  · simp only [if_neg c0]
    by_cases cv : s.f2.toList = []
    · simp only [if_pos cv]
      exact (span_Add.empty k p L s j w hT hf c0 cv).mono fun e w' h => ⟨h.2, none, h.1, .inl ⟨by omega, rfl⟩⟩
    · simp only [if_neg cv]
      by_cases c1 : (j : Int) < (L.length : Int)
      · by_cases c3 : (rd_T83 L (j : Int)).f0 ≤ s.f1
        · simp only [if_pos (And.intro c1 c3)]
          exact (span_Add.twice k p L s j w hT hf c0 cv c1 (by omega) c3).mono fun e w' h => ⟨h.2, none, h.1, .inl ⟨by omega, rfl⟩⟩
        · simp only [if_neg (fun h : (j : Int) < (L.length : Int) ∧ (rd_T83 L (j : Int)).f0 ≤ s.f1 => c3 h.2)]
          exact (span_Add.fitsC k p L s j w hT hf c0 cv hj hsm c1 c3).mono fun e w' ⟨g, h1, h2, h3⟩ => ⟨h3, _, h1, .inr ⟨trivial, ⟨g, rfl⟩, by rw [Int.toNat_natCast]; exact h2⟩⟩
      · simp only [if_neg (fun h : (j : Int) < (L.length : Int) ∧ (rd_T83 L (j : Int)).f0 ≤ s.f1 => c1 h.1)]
        exact (span_Add.fitsA k p L s j w hT hf c0 cv hj hsm (by omega)).mono fun e w' ⟨g, h1, h2, h3⟩ => ⟨h3, _, h1, .inr ⟨trivial, ⟨g, rfl⟩, by rw [Int.toNat_natCast]; exact h2⟩⟩
end Go.Proofs.YtbpdcbibooiimaaGreatDoor.Q
/- Layer 3 on lists: where a code point stands in a table; Add; New. -/
namespace Go.Proofs.YtbpdcbibooiimaaGreatDoor.K
open Go.RowKit Go.Proofs.YtbpdcbibooiimaaGreatDoorW.PrintWords Go.Proofs.YtbpdcbibooiimaaGreatDoorW.PrintMore Go.Proofs.YtbpdcbibooiimaaGreatDoor.Q
theorem rd43 {L : List S83} (i : Nat) (h : i < L.length) : rd_T83 L (i : Int) = L[i] := by
  unfold rd_T83
  rw [Int.toNat_natCast, List.getD_eq_getElem?_getD, List.getElem?_eq_getElem h]; rfl
def valid (s : S83) : Prop := 0 ≤ s.f0 ∧ s.f0 ≤ s.f1 ∧ s.f1 ≤ 1114111 ∧ s.f2.toList ≠ []
def SpOK (L : List S83) : Prop := L.Pairwise (fun a b => a.f1 < b.f0) ∧ ∀ s ∈ L, valid s
theorem SpOK.nil : SpOK [] := ⟨List.Pairwise.nil, fun _ h => by cases h⟩
theorem SpOK.lt {L : List S83} (h : SpOK L) {i j : Nat} (hij : i < j) (hj : j < L.length) : L[i].f1 < L[j].f0 := List.pairwise_iff_getElem.1 h.1 i j (by omega) hj hij
theorem SpOK.at {L : List S83} (h : SpOK L) {i : Nat} (hi : i < L.length) : valid L[i] := h.2 _ (List.getElem_mem hi)
theorem SpOK.last {L : List S83} (h : SpOK L) {i j : Nat} (hij : i ≤ j) (hj : j < L.length) : L[i].f1 ≤ L[j].f1 := by
  rcases Nat.lt_or_eq_of_le hij with e | e
  · have := h.lt e hj
    have := (h.at hj).2.1
    omega
  · subst e; exact Int.le_refl _
def pos (L : List S83) (c : Int) : Nat := (L.takeWhile (fun s => decide (s.f1 < c))).length
theorem pos_le (L : List S83) (c : Int) : pos L c ≤ L.length := (List.takeWhile_prefix _).length_le
theorem pos_before {L : List S83} {c : Int} : ∀ {i : Nat} (h : i < pos L c), (L[i]'(Nat.lt_of_lt_of_le h (pos_le L c))).f1 < c := by
  unfold pos
  induction L with
  | nil => intro i h; simp at h
  | cons s L ih =>
    intro i h
    by_cases e : s.f1 < c
    · cases i with
      | zero => exact e
      | succ i =>
        simp only [List.getElem_cons_succ]
        simp only [List.takeWhile_cons, decide_eq_true e, if_true, List.length_cons] at h
        exact ih (by omega)
    · simp [List.takeWhile_cons, e] at h
theorem pos_at {L : List S83} {c : Int} (h : pos L c < L.length) : ¬ L[pos L c].f1 < c := by
  induction L with
  | nil => simp at h
  | cons s L ih =>
    by_cases e : s.f1 < c
    · have hp : pos (s :: L) c = pos L c + 1 := by simp [pos, List.takeWhile_cons, e]
      have h' : pos L c < L.length := by rw [hp] at h; simpa using h
      have := ih h'
      simp only [hp, List.getElem_cons_succ]
      exact this
    · have hp : pos (s :: L) c = 0 := by simp [pos, List.takeWhile_cons, e]
      simp only [hp, List.getElem_cons_zero]
      exact e
theorem pos_uniq {L : List S83} (hL : SpOK L) {c : Int} {i : Nat} (hi : i ≤ L.length) (h1 : ∀ j, (hj : j < i) → (L[j]'(by omega)).f1 < c) (h2 : (h : i < L.length) → ¬ L[i].f1 < c) : pos L c = i := by
  have hp := pos_le L c
  rcases Nat.lt_trichotomy (pos L c) i with h | h | h
  · exact absurd (h1 _ h) (pos_at (by omega))
  · exact h
  · exact absurd (pos_before h) (h2 (by omega))
theorem find_ev {L : List S83} (hl : L.length ≤ 1000000) (hL : SpOK L) (c : Int) : Ev (fun k => span_find.f k L c) (pos L c : Int) := by
  have hle := pos_le L c
  have key : ∀ (d lo hi' : Nat), hi' - lo = d → lo ≤ pos L c → pos L c ≤ hi' → hi' ≤ L.length → ∃ b, Ev (fun k => span_Span_int_at_span_Table_find_1.l0 k L c L.length (lo : Int) (hi' : Int)) ((pos L c : Int), b) := by
    intro d
    induction d using Nat.strongRecOn with
    | ind d ih =>
      intro lo hi' h1 h2 h3 h4
      by_cases c' : lo < hi'
      · have eh : wrap64 ((IntKind.u64.wrap (wrap64 ((lo : Int) + (hi' : Int)))) / 2) = (((lo + hi') / 2 : Nat) : Int) := by
          rw [w64 (n := (lo : Int) + hi') (by omega) (by omega)]
          have : IntKind.u64.wrap ((lo : Int) + (hi' : Int)) = (lo : Int) + hi' := by
            simp only [IntKind.wrap, IntKind.bits, IntKind.signed]
            simp
            omega
          rw [this, w64 (by omega) (by omega)]
          omega
        have hm : (lo + hi') / 2 < hi' := by omega
        have hg := rd43 (L := L) ((lo + hi') / 2) (by omega)
        by_cases c2 : (rd_T83 L (((lo + hi') / 2 : Nat) : Int)).f1 < c
        · have : (lo + hi') / 2 < pos L c := by
            apply Classical.byContradiction
            intro hn
            have hp := pos_at (L := L) (c := c) (by omega)
            have := hL.last (i := pos L c) (j := (lo + hi') / 2) (by omega) (by omega)
            rw [hg] at c2
            omega
          obtain ⟨b, hb⟩ := ih (hi' - ((lo + hi') / 2 + 1)) (by omega) ((lo + hi') / 2 + 1) hi' rfl (by omega) h3 h4
          refine ⟨b, Ev.step (fun k => rfl) (Ev.pos (by omega) ?_)⟩
          rw [eh]
          refine Ev.pos (by omega) (Ev.pos (by omega) (Ev.bindS (show span_Table_find_1.f _ _ _ _ = some (-1) by unfold span_Table_find_1.f; rw [if_pos c2]) (Ev.pos (by omega) ?_)))
          rw [w64 (n := (((lo + hi') / 2 : Nat) : Int) + 1) (by omega) (by omega)]
          exact hb
        · have : pos L c ≤ (lo + hi') / 2 := by
            apply Classical.byContradiction
            intro hn
            have := pos_before (L := L) (c := c) (i := (lo + hi') / 2) (by omega)
            rw [hg] at c2
            exact c2 this
          obtain ⟨b, hb⟩ := ih ((lo + hi') / 2 - lo) (by omega) lo ((lo + hi') / 2) rfl h2 this (by omega)
          refine ⟨b, Ev.step (fun k => rfl) (Ev.pos (by omega) ?_)⟩
          rw [eh]
          refine Ev.pos (by omega) (Ev.pos (by omega) (Ev.bindS (show span_Table_find_1.f _ _ _ _ = some 1 by unfold span_Table_find_1.f; rw [if_neg c2]) (Ev.neg (by omega) hb)))
      · have e1 : lo = pos L c := by omega
        subst e1
        by_cases c3 : pos L c < L.length
        · by_cases c4 : (rd_T83 L (pos L c : Int)).f1 < c
          · exact ⟨_, Ev.step (fun k => rfl) (Ev.neg (by omega) (Ev.pos (by omega) (Ev.pos (by omega) (Ev.pos (by omega) (Ev.bindS (show span_Table_find_1.f _ _ _ _ = some (-1) by unfold span_Table_find_1.f; rw [if_pos c4]) (Ev.now _))))))⟩
          · exact ⟨_, Ev.step (fun k => rfl) (Ev.neg (by omega) (Ev.pos (by omega) (Ev.pos (by omega) (Ev.pos (by omega) (Ev.bindS (show span_Table_find_1.f _ _ _ _ = some 1 by unfold span_Table_find_1.f; rw [if_neg c4]) (Ev.now _))))))⟩
        · exact ⟨_, Ev.step (fun k => rfl) (Ev.neg (by omega) (Ev.neg (by omega) (Ev.now _)))⟩
  obtain ⟨b, hb⟩ := key L.length 0 L.length (by omega) (by omega) hle (Nat.le_refl _)
  unfold span_find.f span_Span_int_at_span_Table_find_1.f
  exact Ev.bind hb (Ev.now _)
/-! Add -/
def addR (L : List S83) (s : S83) : Int × List S83 := span_Add.r L s (pos L s.f0 : Int)
theorem addR_eq (L : List S83) (s : S83) : addR L s = if s.f0 < 0 ∨ 1114111 < s.f1 ∨ s.f1 < s.f0 then (14, []) else if s.f2.toList = [] then (16, []) else if (pos L s.f0 : Int) < (L.length : Int) ∧ (rd_T83 L (pos L s.f0 : Int)).f0 ≤ s.f1 then (15, []) else (0, L.take (pos L s.f0) ++ s :: L.drop (pos L s.f0)) := by
  unfold addR span_Add.r
  rw [Int.toNat_natCast]
def meets (a b : S83) : Prop := a.f0 ≤ b.f1 ∧ b.f0 ≤ a.f1
instance (a b : S83) : Decidable (meets a b) := inferInstanceAs (Decidable (_ ∧ _))
def errOf (L : List S83) (s : S83) : Int :=
  if s.f0 < 0 ∨ 1114111 < s.f1 ∨ s.f1 < s.f0 then 14 else if s.f2.toList = [] then 16 else if ∃ t ∈ L, meets t s then 15 else 0
theorem meets_pos {L : List S83} (hL : SpOK L) {s : S83} (hs : s.f0 ≤ s.f1) : (∃ t ∈ L, meets t s) ↔ ((pos L s.f0 : Int) < (L.length : Int) ∧ (rd_T83 L (pos L s.f0 : Int)).f0 ≤ s.f1) := by
  constructor
  · rintro ⟨t, ht, h1, h2⟩
    obtain ⟨i, hi, rfl⟩ := List.getElem_of_mem ht
    have hp : pos L s.f0 ≤ i := by
      apply Classical.byContradiction
      intro hn
      have := pos_before (L := L) (c := s.f0) (i := i) (by omega)
      omega
    refine ⟨by omega, ?_⟩
    rw [rd43 _ (by omega)]
    rcases Nat.lt_or_eq_of_le hp with e | e
    · have := hL.lt e hi
      have := (hL.at (i := pos L s.f0) (by omega)).2.1
      omega
    · simp only [e]; exact h1
  · rintro ⟨h1, h2⟩
    rw [rd43 _ (by omega)] at h2
    exact ⟨_, List.getElem_mem (by omega), h2, by have := pos_at (L := L) (c := s.f0) (by omega); omega⟩
theorem addR_err {L : List S83} (hL : SpOK L) (s : S83) : (addR L s).1 = errOf L s := by
  rw [addR_eq]
  unfold errOf
  by_cases h1 : s.f0 < 0 ∨ 1114111 < s.f1 ∨ s.f1 < s.f0
  · rw [if_pos h1, if_pos h1]
  · rw [if_neg h1, if_neg h1]
    by_cases h2 : s.f2.toList = []
    · rw [if_pos h2, if_pos h2]
    · rw [if_neg h2, if_neg h2]
      have := meets_pos hL (s := s) (by omega)
      by_cases h3 : ∃ t ∈ L, meets t s
      · rw [if_pos h3, if_pos (this.1 h3)]
      · rw [if_neg h3, if_neg (fun h => h3 (this.2 h))]
theorem addR_ok {L : List S83} (hL : SpOK L) {s : S83} (h : (addR L s).1 = 0) : (addR L s).2 = L.take (pos L s.f0) ++ s :: L.drop (pos L s.f0) ∧ valid s ∧ (∀ t ∈ L, ¬ meets t s) := by
  have he := addR_err hL s
  rw [h] at he
  unfold errOf at he
  by_cases h1 : s.f0 < 0 ∨ 1114111 < s.f1 ∨ s.f1 < s.f0
  · rw [if_pos h1] at he; cases he
  · rw [if_neg h1] at he
    by_cases h2 : s.f2.toList = []
    · rw [if_pos h2] at he; cases he
    · rw [if_neg h2] at he
      by_cases h3 : ∃ t ∈ L, meets t s
      · rw [if_pos h3] at he; cases he
      · refine ⟨?_, ⟨by omega, by omega, by omega, h2⟩, fun t ht hm => h3 ⟨t, ht, hm⟩⟩
        rw [addR_eq, if_neg h1, if_neg h2, if_neg (fun hh => h3 ((meets_pos hL (by omega)).2 hh))]
theorem addR_zero {L : List S83} (hL : SpOK L) {s : S83} (hv : valid s) (h : ∀ t ∈ L, ¬ meets t s) : (addR L s).1 = 0 := by
  rw [addR_err hL]
  unfold errOf
  have := hv
  unfold valid at this
  rw [if_neg (by omega), if_neg hv.2.2.2, if_neg (fun ⟨t, ht, hm⟩ => h t ht hm)]
theorem place_sides {L : List S83} (hL : SpOK L) {s : S83} (hv : valid s) (hm : ∀ t ∈ L, ¬ meets t s) : (∀ t ∈ L.take (pos L s.f0), t.f1 < s.f0) ∧ (∀ t ∈ L.drop (pos L s.f0), s.f1 < t.f0) := by
  constructor
  · intro t ht
    obtain ⟨i, hi, rfl⟩ := List.getElem_of_mem ht
    rw [List.length_take] at hi
    rw [List.getElem_take]
    exact pos_before (by omega)
  · intro t ht
    obtain ⟨i, hi, rfl⟩ := List.getElem_of_mem ht
    rw [List.length_drop] at hi
    rw [List.getElem_drop]
    have h1 := pos_at (L := L) (c := s.f0) (by omega)
    have h2 := hL.last (i := pos L s.f0) (j := pos L s.f0 + i) (by omega) (by omega)
    have h3 := hm _ (List.getElem_mem (h := (by omega : pos L s.f0 + i < L.length)))
    unfold meets at h3
    omega
theorem place_ok {L : List S83} (hL : SpOK L) {s : S83} (hv : valid s) (hm : ∀ t ∈ L, ¬ meets t s) : SpOK (L.take (pos L s.f0) ++ s :: L.drop (pos L s.f0)) := by
  obtain ⟨h1, h2⟩ := place_sides hL hv hm
  refine ⟨?_, ?_⟩
  · rw [List.pairwise_append]
    refine ⟨hL.1.sublist (List.take_sublist _ _), ?_, ?_⟩
    · rw [List.pairwise_cons]
      exact ⟨h2, hL.1.sublist (List.drop_sublist _ _)⟩
    · intro a ha b hb
      have ha1 := h1 a ha
      rcases List.mem_cons.1 hb with rfl | hb
      · exact ha1
      · have := h2 b hb
        have := hv.2.1
        omega
  · intro t ht
    rcases List.mem_append.1 ht with h | h
    · exact hL.2 t (List.mem_of_mem_take h)
    · rcases List.mem_cons.1 h with rfl | h
      · exact hv
      · exact hL.2 t (List.mem_of_mem_drop h)
theorem addR_SpOK {L : List S83} (hL : SpOK L) {s : S83} (h : (addR L s).1 = 0) : SpOK (addR L s).2 := by
  obtain ⟨e, hv, hm⟩ := addR_ok hL h
  rw [e]
  exact place_ok hL hv hm
theorem addR_perm {L : List S83} (hL : SpOK L) {s : S83} (h : (addR L s).1 = 0) : ((addR L s).2).Perm (s :: L) := by
  obtain ⟨e, _, _⟩ := addR_ok hL h
  rw [e]
  exact List.perm_middle.trans (List.Perm.cons _ (by rw [List.take_append_drop]))
/-! New -/
def newR : List S83 → List S83 → Int × List S83
  | acc, [] => (0, acc)
  | acc, s :: r => if (addR acc s).1 = 0 then newR (addR acc s).2 r else ((addR acc s).1, [])
theorem newR_len {acc l : List S83} (h : SpOK acc) (h0 : (newR acc l).1 = 0) : SpOK (newR acc l).2 ∧ ((newR acc l).2).Perm (l ++ acc) := by
  induction l generalizing acc with
  | nil => exact ⟨h, by simp [newR]⟩
  | cons s r ih =>
    unfold newR at h0 ⊢
    by_cases e : (addR acc s).1 = 0
    · rw [if_pos e] at h0 ⊢
      obtain ⟨h1, h2⟩ := ih (addR_SpOK h e) h0
      refine ⟨h1, h2.trans ?_⟩
      exact ((List.Perm.append_left r (addR_perm h e)).trans List.perm_middle)
    · rw [if_neg e] at h0
      exact absurd h0 e
def Good (l : List S83) : Prop := (∀ s ∈ l, valid s) ∧ l.Pairwise (fun a b => ¬ meets a b)
theorem newR_good {acc l : List S83} (h : SpOK acc) : (newR acc l).1 = 0 ↔ (Good l ∧ ∀ s ∈ l, ∀ t ∈ acc, ¬ meets t s) := by
  induction l generalizing acc with
  | nil => simp [newR, Good]
  | cons s r ih =>
    unfold newR
    by_cases e : (addR acc s).1 = 0
    · rw [if_pos e, ih (addR_SpOK h e)]
      obtain ⟨_, hv, hm⟩ := addR_ok h e
      have hp := addR_perm h e
      constructor
      · rintro ⟨⟨g1, g2⟩, g3⟩
        refine ⟨⟨fun t ht => ?_, ?_⟩, fun t ht u hu => ?_⟩
        · rcases List.mem_cons.1 ht with rfl | ht
          · exact hv
          · exact g1 t ht
        · rw [List.pairwise_cons]
          exact ⟨fun t ht => g3 t ht s (hp.mem_iff.2 List.mem_cons_self), g2⟩
        · rcases List.mem_cons.1 ht with rfl | ht
          · exact hm u hu
          · exact g3 t ht u (hp.mem_iff.2 (List.mem_cons_of_mem _ hu))
      · rintro ⟨⟨g1, g2⟩, g3⟩
        rw [List.pairwise_cons] at g2
        refine ⟨⟨fun t ht => g1 t (List.mem_cons_of_mem _ ht), g2.2⟩, fun t ht u hu => ?_⟩
        rcases List.mem_cons.1 (hp.mem_iff.1 hu) with rfl | hu
        · exact g2.1 t ht
        · exact g3 t (List.mem_cons_of_mem _ ht) u hu
    · rw [if_neg e]
      refine ⟨fun h0 => absurd h0 e, ?_⟩
      rintro ⟨⟨g1, g2⟩, g3⟩
      exact absurd (addR_zero h (g1 s List.mem_cons_self) (fun t ht => g3 s List.mem_cons_self t ht)) e
end Go.Proofs.YtbpdcbibooiimaaGreatDoor.K
/- span: New. -/
namespace Go.Proofs.YtbpdcbibooiimaaGreatDoor.Q
open Go.RowKit Go.Shelf Go.Proofs.YtbpdcbibooiimaaGreatDoorW.PrintWords Go.Proofs.YtbpdcbibooiimaaGreatDoorW.PrintLast Go.Proofs.YtbpdcbibooiimaaGreatDoorW.PrintMore Go.Proofs.YtbpdcbibooiimaaGreatDoor.K
set_option maxHeartbeats 4000000 in
set_option maxRecDepth 100000 in
theorem span_New.calls (A0 : Option Addr) (c0 : Nat) (l : List S83) (w : World) (hr0 : Kd.C k83 w A0 l.length l) (hc0 : l.length ≤ c0) (hl : l.length ≤ 1000) :
    Calls Tryz.prog 43 #[.slice A0 l.length c0] w fun e w' => Below w.heap.size w w' ∧ ∃ q, e = .returned (.tuple #[.pointer q, .int .i64 (newR [] l).1]) ∧
      (((newR [] l).1 ≠ 0 ∧ q = none) ∨ ((newR [] l).1 = 0 ∧ (∃ g, q = some ⟨g, 0, none⟩) ∧ Tab w' q (newR [] l).2)) := by
  have HR0 := Aside0.mk hr0
  have HC0 := Aside0.mk hc0
  have HL := Aside0.mk hl
  clear hr0 hc0 hl
  go_enter Tryz.func43, Tryz.ntmps43
  go_wp2
  go_loopg [4, 13] (l.length + 1) (fun kq v4 v13 wr => ∃ (i : Nat) (acc : List S83) (g : Nat), v13 = .int .i64 (i : Int) ∧ v4 = .pointer (some ⟨g, 0, none⟩) ∧ Aside0 (Tab wr (some ⟨g, 0, none⟩) acc) ∧ Aside0 (SpOK acc) ∧ Aside0 (newR acc (l.drop i) = newR [] l) ∧ Aside0 (i + kq = l.length + 1 ∧ i ≤ l.length ∧ acc.length = i) ∧ Aside0 (Below w.heap.size w wr))
  case atStart => exact ⟨0, [], _, rfl, rfl, ⟨.inr ⟨_, _, rfl, heap_alloc_new w _, .inl ⟨rfl, rfl⟩⟩⟩, ⟨SpOK.nil⟩, ⟨rfl⟩, ⟨by omega, by omega, rfl⟩, ⟨(Below.refl _ w).alloc (Nat.le_refl _) _⟩⟩
  case round =>
    obtain ⟨i, acc, g, rfl, rfl, HT, HS, HN, HI, HB⟩ := hrel
    obtain ⟨hi1, hi2, hi3⟩ := HI.out
    cases gk with
    | zero => omega
    | succ k1 =>
      by_cases c1 : (i : Int) < (l.length : Int)
      · obtain ⟨ad, rfl, hx0, hx1, hx2⟩ := at_T83 HR0.out (i : Int) (by omega) c1
        rw [Int.toNat_natCast] at hx0 hx1 hx2
        have hx0 := (HB.out.cell (World.block_lt_of_cell? w _ hx0)).trans hx0
        have hx1 := (HB.out.cell (World.block_lt_of_cell? w _ hx1)).trans hx1
        have hx2 := (HB.out.cell (World.block_lt_of_cell? w _ hx2)).trans hx2
        obtain ⟨s, hs⟩ : ∃ s, s = rd_T83 l (i : Int) := ⟨_, rfl⟩
        rw [← hs] at hx0 hx1 hx2
        obtain ⟨kf, hkf⟩ := (find_ev (L := acc) (by have := HL.out; omega) HS.out s.f0).rounds
        have HKF := Aside0.mk hkf
        have HSS := Aside0.mk hs
        clear hkf hs hi1 hi2 hi3
        have e0 := eq_true c1
        have e1 : decide ((i : Int) < (l.length : Int)) = true := decide_eq_true c1
        clear c1
        have hdrop : l.drop i = s :: l.drop (i + 1) := by
          have hlt : i < l.length := by have := of_decide_eq_true e1; omega
          rw [List.drop_eq_getElem_cons hlt, HSS.out, rd43 i hlt]
        have hstep : newR [] l = if (addR acc s).1 = 0 then newR (addR acc s).2 (l.drop (i + 1)) else ((addR acc s).1, []) := by
          rw [← HN.out, hdrop]; rfl
        have HSTEP := Aside0.mk hstep
        clear hdrop hstep
        by_cases ce : (addR acc s).1 = 0
        · have HCE := Aside0.mk ce
          clear ce
          go_wp2_with (go_at_call 47; refine (span_Add.calls kf _ acc s (pos acc s.f0) _ (HT.out.below ((Below.refl _ _).alloc (Nat.le_refl _) _)) HKF.out (pos_le _ _) (by have := HI.out; have := HL.out; omega)).mono ?_; rintro e w5 ⟨hb5, q, rfl, hq⟩; rw [show (span_Add.r acc s (pos acc s.f0 : Int)).1 = 0 from HCE.out] at *; rcases hq with ⟨hq, _⟩ | ⟨_, ⟨g5, rfl⟩, hT5⟩; (exact absurd rfl hq); have HB5 := Aside0.mk hb5; have HT5 := Aside0.mk hT5; clear hb5 hT5)
          go_roundg k1
          case measure => omega
          case rel =>
            have hi := HI.out
            refine ⟨i + 1, (addR acc s).2, g5, ?_, rfl, HT5, ⟨addR_SpOK HS.out HCE.out⟩, ⟨?_⟩, ⟨by omega, ?_, ?_⟩, ⟨?_⟩⟩
            · have := of_decide_eq_true e1; have := HL.out; rw [w64 (by omega) (by omega)]; congr 1
            · rw [HSTEP.out, if_pos HCE.out]
            · have := of_decide_eq_true e1; omega
            · have := (addR_perm HS.out HCE.out).length_eq
              rw [this, List.length_cons]; omega
            · exact HB.out.trans ((((Below.refl _ _).alloc (Nat.le_refl _) _).trans (HB5.out.mono (by simp))).mono HB.out.size)
        · have HCE := Aside0.mk ce
          have e5 : decide ((addR acc s).1 = 0) = false := decide_eq_false ce
          have e6 : ((addR acc s).1 == 0) = false := beq_eq_false_iff_ne.mpr ce
          have e7 := eq_false ce
          clear ce
          go_wp2_with (go_at_call 47; refine (span_Add.calls kf _ acc s (pos acc s.f0) _ (HT.out.below ((Below.refl _ _).alloc (Nat.le_refl _) _)) HKF.out (pos_le _ _) (by have := HI.out; have := HL.out; omega)).mono ?_; rintro e w5 ⟨hb5, q, rfl, hq⟩; rw [show (span_Add.r acc s (pos acc s.f0 : Int)).1 = (addR acc s).1 from rfl] at *; rcases hq with ⟨_, rfl⟩ | ⟨hq, _⟩; rotate_left; (exact absurd hq HCE.out); have HB5 := Aside0.mk hb5; clear hb5)
          go_ret2
          rw [HSTEP.out, if_neg HCE.out]
          exact ⟨HB.out.trans ((((Below.refl _ _).alloc (Nat.le_refl _) _).trans (HB5.out.mono (by simp))).mono HB.out.size), none, rfl, .inl ⟨HCE.out, rfl⟩⟩
      · have e0 := eq_false c1
        have e1 : decide ((i : Int) < (l.length : Int)) = false := decide_eq_false c1
        have hd : l.drop i = [] := List.drop_eq_nil_of_le (by omega)
        have hN := HN.out
        rw [hd] at hN
        have HN' := Aside0.mk hN
        clear hN hd hi1 hi2 hi3 c1
        go_wp2
        go_ret2
        rw [← HN'.out]
        exact ⟨HB.out, _, rfl, .inr ⟨rfl, ⟨g, rfl⟩, HT.out⟩⟩
end Go.Proofs.YtbpdcbibooiimaaGreatDoor.Q
/- A region that draws its order, inside a round of a range over a function: the laws for regions outside of a fence serve there too. -/
namespace Go.Proofs.YtbpdcbibooiimaaGreatDoor.Q
open Go.RowKit Go.Shelf Go.Proofs.YtbpdcbibooiimaaGreatDoorW.PrintWords Go.Proofs.YtbpdcbibooiimaaGreatDoorW.PrintLast Go.Proofs.YtbpdcbibooiimaaGreatDoorW.PrintMore
theorem rowsIn_wide {n : Nat} {P : Program} {row : String} {args : Array Value} {w : World} {R : Value → World → Prop} (h : Rows P row args w R) : RowsIn Fence.wide n P row args w R :=
  fun c cs _ => let ⟨v, w', r, s⟩ := h c cs; ⟨v, w', r, stepsIn_wide.2 s⟩
theorem wpOpIn_of_any {n : Nat} {P : Program} {ops : Array Oper} {Q : Exit → Act → World → Prop} (hQ : ¬ LetsOut Q) {i : Nat} {K K' : Act → World → Prop} (hK : ∀ a w, K a w → K' a w) {a : Act} {w : World} (h : wpOp P ops Q i K a w) : wpOpIn Fence.wide n P ops Q i K' a w := by
  unfold Go.wpOp at h
  unfold Go.wpOpIn
  cases ho : ops[i]? with
  | none => rw [ho] at h; exact hK _ _ h
  | some o =>
    rw [ho] at h
    simp only at h ⊢
    by_cases hw : Region.wanted o (yielded ops a.tmps) = true
    · rw [if_pos hw] at h ⊢
      rcases h with h | ⟨_, h⟩
      · refine ⟨fun _ _ => trivial, ?_⟩
        unfold Oper.wp at h
        rw [show Fence.wide.round = none from rfl, Oper.semAt_none]
        generalize (execOp a.eval o).run P w = r at h ⊢
        cases r with
        | ok nx w1 =>
          cases nx with
          | value v => exact hK _ _ h
          | skip => exact hK _ _ h
          | defer d => exact hK _ _ h
          | enter f args =>
            refine ⟨(fun e => by cases e), callsIn_wide.2 (Calls.mono h ?_)⟩
            intro e w2 he
            cases e with
            | returned v => exact hK _ _ he
            | panicked c => exact he
            | outgrown => exact he
          | row rw_ args => exact ⟨(fun e => by cases e), rowsIn_wide (Rows.mono h (fun v w2 hv => hK _ _ hv))⟩
          | _ => exact h.elim
        | halt x w1 =>
          cases x <;> first | exact h | exact h.elim
      · exact absurd h hQ
    · rw [if_neg hw] at h ⊢
      exact ⟨fun _ _ => trivial, hK _ _ h⟩
theorem wpAnyIn_of_any {n : Nat} {P : Program} {md : Region.Mode} {ops : Array Oper} {Q : Exit → Act → World → Prop} (hQ : ¬ LetsOut Q) : ∀ (fuel : Nat) (listed : Array Bool) (a : Act) (w : World), wpAny P md ops Q fuel listed a w → wpAnyIn Fence.wide n P md ops Q fuel listed a w
  | 0, _, _, _, h => h
  | fuel + 1, _, _, _, h => ⟨h.1, fun i hi => wpOpIn_of_any hQ (fun a' w' h' => wpAnyIn_of_any hQ fuel _ a' w' h') (h.2 i hi)⟩
def onlyK (K : Act → World → Prop) : Exit → Act → World → Prop
  | .normal, a, w => K a w
  | _, _, _ => False
theorem wpIn_region_round {n l id : Nat} {P : Program} {ops : Array Oper} {Q : Exit → Act → World → Prop} {a : Act} {w : World} (hm : P.follows .mixedOrders = true) (hno : noDefer ops = true)
    (h : wpAny P .any ops (onlyK (Q .normal)) ops.size (Array.replicate ops.size false) a w.drew) : (Code.region id ops true).wpIn (Fence.wide.inRound l) n P Q a w := by
  refine wpIn_mono (Q := onlyK (Q .normal)) ?_ (fun e a w he => by cases e <;> first | exact he | exact he.elim)
  exact wpIn_region_any hm (wpAnyIn_round rfl hno _ _ _ _ (wpAnyIn_of_any (fun ⟨_, _, h⟩ => h) _ _ _ _ h))
theorem wpIn_region_round_held {n l id : Nat} {P : Program} {ops : Array Oper} {Q : Exit → Act → World → Prop} {a : Act} {w : World} (S : World → Prop) (hm : P.follows .mixedOrders = true) (hno : noDefer ops = true)
    (h : wpAnyH P .any ops (onlyK (Q .normal)) S ops.size (Array.replicate ops.size false) a w.drew) : (Code.region id ops true).wpIn (Fence.wide.inRound l) n P Q a w :=
  wpIn_region_round hm hno (wpAny_of_held _ _ _ _ h)
end Go.Proofs.YtbpdcbibooiimaaGreatDoor.Q
/- span: small words of the laws' lists. -/
namespace Go.Proofs.YtbpdcbibooiimaaGreatDoor.Q
open Go.RowKit Go.Shelf Go.Proofs.YtbpdcbibooiimaaGreatDoorW.PrintWords Go.Proofs.YtbpdcbibooiimaaGreatDoorW.PrintLast Go.Proofs.YtbpdcbibooiimaaGreatDoorW.PrintMore
def c53 (s : S83) : S93 := ⟨s.f0, s.f1, s.f2⟩
theorem rowK_own {α : Type} {d : Kd α} {e B base : Nat} {T : Nat → Prop} {v : Value} {s : List α} : OwnFrom B (fun (_ : Unit) W => Kd.R d e W base T v s) := fun _ W W' row hs hg hr =>
  Kd.R_mono (Kd.R_grown (Kd.R_bound hs) hg (fun k hk e => by
    obtain ⟨_, o, ho, hc⟩ := hr k e.symm
    obtain ⟨_, _, _, q, _, cells, hcell⟩ := hk
    rw [hcell] at ho
    cases ho
    cases hc)) (fun k hk => hk.1)
theorem own_some {w : World} {base : Nat} {e : TypeId} {size n : Nat} {v : Value} {xs : List Value} (h : w.ownsRow base e size v (n + 1) xs) : ∃ A c, v = .slice A (n + 1) c := by
  rcases h.2 with ⟨_, h0⟩ | ⟨g, c, _, rfl, _⟩
  · omega
  · exact ⟨_, _, rfl⟩
end Go.Proofs.YtbpdcbibooiimaaGreatDoor.Q
/- Three result cells; a table kept. -/
namespace Go.Proofs.YtbpdcbibooiimaaGreatDoor.Q
open Go.RowKit Go.Shelf Go.Proofs.YtbpdcbibooiimaaGreatDoorW.PrintWords Go.Proofs.YtbpdcbibooiimaaGreatDoorW.PrintLast Go.Proofs.YtbpdcbibooiimaaGreatDoorW.PrintMore Go.Proofs.YtbpdcbibooiimaaGreatDoor.K
def SameC (A B : World) : Prop := ∀ (k : Nat) (o : Obj), A.heap[k]? = some o → o.isCells = true → B.heap[k]? = some o
theorem SameC.of_below {A B : World} (h : Below A.heap.size A B) : SameC A B := fun k o hk _ => (h.block k (Array.getElem?_eq_some_iff.1 hk).1).trans hk
theorem SameC.of_grown {A B : World} {row : Option Nat} (hg : A.grownBy B row) (hr : ∀ r, row = some r → ∃ o, A.heap[r]? = some o ∧ o.isCells = false) : SameC A B := fun k o hk hc =>
  (hg.block k (Array.getElem?_eq_some_iff.1 hk).1 (fun e => by
    obtain ⟨o', ho, hn⟩ := hr k e.symm
    rw [hk] at ho
    injection ho with ho
    subst ho
    rw [hc] at hn
    cases hn)).trans hk
theorem SameC.cell {A B : World} (h : SameC A B) {p : Addr} {v : Value} (hc : A.cell? p = some v) : B.cell? p = some v := by
  unfold World.cell? at hc ⊢
  cases ho : A.heap[p.block]? with
  | none => rw [ho] at hc; cases hc
  | some o =>
    rw [ho] at hc
    cases o with
    | cells c t fr => rw [h _ _ ho rfl]; exact hc
    | _ => cases hc
def SameB (n : Nat) (A B : World) : Prop := ∀ (k : Nat) (o : Obj), A.heap[k]? = some o → o.isCells = true → k ≠ n → B.heap[k]? = some o
theorem SameC.but {A B : World} (h : SameC A B) (n : Nat) : SameB n A B := fun k o hk hc _ => h k o hk hc
theorem SameB.trans {n : Nat} {A B C : World} (h : SameB n A B) (k : SameB n B C) : SameB n A C := fun j o hj hc hn => k j o (h j o hj hc hn) hc hn
theorem SameB.set (A : World) (p : Addr) (v : Value) : SameB p.block A (A.setCell p v) := fun k o hk _ hn => (Below.heap_setCell A p v k hn).trans hk
theorem C43_cells {A B : World} {ad : Option Addr} {n : Nat} {L : List S83} (h : Kd.C k83 A ad n L) (hk : ∀ p v, ad = none ∨ (∃ a, ad = some a ∧ p.block = a.block) → A.cell? p = some v → B.cell? p = some v) : Kd.C k83 B ad n L :=
  ⟨h.1, h.2.1, fun hp => by
    obtain ⟨a, e, f⟩ := h.2.2 hp
    refine ⟨a, e, fun j q hj => ?_⟩
    obtain ⟨cs, h1, h2, h3⟩ := f j q hj
    refine ⟨cs, h1, h2, fun i u hu => hk _ _ (.inr ⟨a, e, ?_⟩) (h3 i u hu)⟩
    unfold Addr.add; split <;> rfl⟩
theorem Tab.sameC {A B : World} {p : Option Addr} {L : List S83} (h : Tab A p L) (hk : SameC A B) : Tab B p L := by
  rcases h with h | ⟨g, v, h1, h2, h3⟩
  · exact .inl h
  · refine .inr ⟨g, v, h1, hk _ _ h2 rfl, ?_⟩
    rcases h3 with h3 | ⟨ad, c, e1, e2, e3, cells, e4⟩
    · exact .inl h3
    · exact .inr ⟨ad, c, e1, e2, C43_cells e3 (fun p v _ => hk.cell), cells, hk _ _ e4 rfl⟩
theorem Tab.sameB {A B : World} {n : Nat} {p : Option Addr} {L : List S83} (h : Tab A p L) (hk : SameB n A B) {t : TypeId} {u : Value} (hn : Boxed A n t u) (h1 : t ≠ 83) (h2 : t ≠ 130) : Tab B p L := by
  rcases h with h | ⟨g, v, q1, q2, q3⟩
  · exact .inl h
  · have hg : g ≠ n := fun e => by
      subst e
      rw [show A.heap[g]? = _ from hn] at q2
      injection q2 with q2
      injection q2 with _ q2 _
      exact h2 q2
    refine .inr ⟨g, v, q1, hk _ _ q2 rfl hg, ?_⟩
    rcases q3 with q3 | ⟨ad, c, e1, e2, e3, cells, e4⟩
    · exact .inl q3
    · have ha : ad.block ≠ n := fun e => by
        subst e
        rw [show A.heap[ad.block]? = _ from hn] at e4
        injection e4 with e4
        injection e4 with _ e4 _
        exact h1 e4
      refine .inr ⟨ad, c, e1, e2, C43_cells e3 (fun p v hp hc => ?_), cells, hk _ _ e4 rfl ha⟩
      rcases hp with hp | ⟨a, hp, hb⟩
      · cases hp
      · injection hp with hp
        subst hp
        unfold World.cell? at hc ⊢
        rw [hb] at hc ⊢
        rw [e4] at hc
        rw [hk _ _ e4 rfl ha]
        exact hc
structure Res3 (T : TypeId) (n : Nat) (W : World) (a b c : Value) : Prop where
  r0 : Boxed W n T a
  r1 : Boxed W (n + 1) 27 b
  r2 : Boxed W (n + 1 + 1) 3 c
theorem boxed_sameC {A B : World} {k : Nat} {t : TypeId} {v : Value} (h : Boxed A k t v) (hk : SameC A B) : Boxed B k t v := hk _ _ h rfl
theorem boxed_sameB {A B : World} {n k : Nat} {t : TypeId} {v : Value} (h : Boxed A k t v) (hk : SameB n A B) (hn : k ≠ n) : Boxed B k t v := hk _ _ h rfl hn
theorem boxed_setZ {W : World} {k b : Nat} {t : TypeId} {v u : Value} (h : Boxed W k t v) (hn : k ≠ b) : Boxed (W.setCell ⟨b, 0, none⟩ u) k t v := (Below.heap_setCell W ⟨b, 0, none⟩ u k hn).trans h
theorem Res3.sameC {T : TypeId} {n : Nat} {A B : World} {a b c : Value} (h : Res3 T n A a b c) (hk : SameC A B) : Res3 T n B a b c := ⟨boxed_sameC h.r0 hk, boxed_sameC h.r1 hk, boxed_sameC h.r2 hk⟩
theorem Res3.sameB {T : TypeId} {n m : Nat} {A B : World} {a b c : Value} (h : Res3 T n A a b c) (hk : SameB m A B) (hm : n + 3 ≤ m) : Res3 T n B a b c := ⟨boxed_sameB h.r0 hk (by omega), boxed_sameB h.r1 hk (by omega), boxed_sameB h.r2 hk (by omega)⟩
def set3 (W : World) (n : Nat) (a b c : Value) : World := ((W.setCell ⟨n, 0, none⟩ a).setCell ⟨n + 1, 0, none⟩ b).setCell ⟨n + 1 + 1, 0, none⟩ c
theorem Res3.set {T : TypeId} {n : Nat} {W : World} {a b c : Value} (h : Res3 T n W a b c) (a' b' c' : Value) : Res3 T n (set3 W n a' b' c') a' b' c' :=
  ⟨boxed_setZ (boxed_setZ (Boxed.set a' h.r0) (by omega)) (by omega), boxed_setZ (Boxed.set b' (boxed_setZ h.r1 (by omega))) (by omega), Boxed.set c' (boxed_setZ (boxed_setZ h.r2 (by omega)) (by omega))⟩
theorem set3_heap (W : World) (n : Nat) (a b c : Value) (k : Nat) (hk : k < n ∨ n + 3 ≤ k) : (set3 W n a b c).heap[k]? = W.heap[k]? := by
  unfold set3
  rw [Below.heap_setCell _ ⟨n + 1 + 1, 0, none⟩ c k (show k ≠ n + 1 + 1 by omega), Below.heap_setCell _ ⟨n + 1, 0, none⟩ b k (show k ≠ n + 1 by omega), Below.heap_setCell W ⟨n, 0, none⟩ a k (show k ≠ n by omega)]
theorem set3_below {w W : World} {n : Nat} (h : Below w.heap.size w W) (hn : w.heap.size ≤ n) (a b c : Value) : Below w.heap.size w (set3 W n a b c) :=
  ((h.setCell (p := ⟨n, 0, none⟩) hn a).setCell (p := ⟨n + 1, 0, none⟩) (Nat.le_succ_of_le hn) b).setCell (p := ⟨n + 1 + 1, 0, none⟩) (by show w.heap.size ≤ n + 1 + 1; omega) c
theorem set3_size (W : World) (n : Nat) (a b c : Value) : (set3 W n a b c).heap.size = W.heap.size := by unfold set3; simp
theorem set3_others (W : World) (n : Nat) (a b c : Value) : KeepsOthers W (set3 W n a b c) := ((KeepsOthers.setCell _ _ _).trans (KeepsOthers.setCell _ _ _)).trans (KeepsOthers.setCell _ _ _)
theorem Res3.cells {T : TypeId} {n : Nat} {W : World} {a b c : Value} (h : Res3 T n W a b c) : W.cell? ⟨n, 0, none⟩ = some a ∧ W.cell? ⟨n + 1, 0, none⟩ = some b ∧ W.cell? ⟨n + 1 + 1, 0, none⟩ = some c := ⟨h.r0.cell, h.r1.cell, h.r2.cell⟩
theorem Res3.facts {T : TypeId} {n : Nat} {W : World} {a b c : Value} (h : Res3 T n W a b c) : (W.cell? ⟨n, 0, none⟩ = some a ∧ W.frozen? ⟨n, 0, none⟩ = false) ∧
    (∀ u, (W.setCell ⟨n, 0, none⟩ u).cell? ⟨n + 1, 0, none⟩ = some b ∧ (W.setCell ⟨n, 0, none⟩ u).frozen? ⟨n + 1, 0, none⟩ = false) ∧
    (∀ u v, ((W.setCell ⟨n, 0, none⟩ u).setCell ⟨n + 1, 0, none⟩ v).cell? ⟨n + 1 + 1, 0, none⟩ = some c ∧ ((W.setCell ⟨n, 0, none⟩ u).setCell ⟨n + 1, 0, none⟩ v).frozen? ⟨n + 1 + 1, 0, none⟩ = false) :=
  ⟨⟨h.r0.cell, h.r0.frozen⟩, fun u => have q := boxed_setZ (u := u) (b := n) h.r1 (by omega); ⟨q.cell, q.frozen⟩, fun u v => have q := boxed_setZ (u := v) (b := n + 1) (boxed_setZ (u := u) (b := n) h.r2 (by omega)) (by omega); ⟨q.cell, q.frozen⟩⟩
theorem Res3.mark {T : TypeId} {w W : World} {n D : Nat} {a b c : Value} (h : Res3 T n W a b c) (hb : Below w.heap.size w W) (hn : w.heap.size ≤ n) (hD : W.heap[D]? = some (.deferred (some []))) (lD : n + 3 ≤ D) :
    ∀ o, (W.putObj D o).cell? ⟨n, 0, none⟩ = some a ∧ (W.putObj D o).cell? ⟨n + 1, 0, none⟩ = some b ∧ (W.putObj D o).cell? ⟨n + 1 + 1, 0, none⟩ = some c ∧ Below w.heap.size w (W.putObj D o) := fun o =>
  ⟨(show Boxed _ n _ a from (World.putObj_heap_other (show n ≠ D by omega)).trans h.r0).cell, (show Boxed _ (n + 1) _ b from (World.putObj_heap_other (show n + 1 ≠ D by omega)).trans h.r1).cell, (show Boxed _ (n + 1 + 1) _ c from (World.putObj_heap_other (show n + 1 + 1 ≠ D by omega)).trans h.r2).cell, hb.grown (grownBy_putObj' _ D o) hb.size (fun k e => by cases e; omega)⟩
theorem mark_endZ {w W : World} {D b : Nat} {t : TypeId} {v : Value} (u : Value) (hb : Below w.heap.size w W) (hbk : Boxed W b t v) (hD : W.heap[D]? = some (.deferred (some []))) (h1 : w.heap.size ≤ b) (h2 : w.heap.size ≤ D) :
    (W.setCell ⟨b, 0, none⟩ u).heap[D]? = some (.deferred (some [])) ∧ (∀ o, ((W.setCell ⟨b, 0, none⟩ u).putObj D o).cell? ⟨b, 0, none⟩ = some u) ∧ (∀ o, Below w.heap.size w ((W.setCell ⟨b, 0, none⟩ u).putObj D o)) := by
  have hne : D ≠ b := fun e => by subst e; rw [show W.heap[D]? = _ from hbk] at hD; cases hD
  have hB := hb.setCell (p := ⟨b, 0, none⟩) h1 u
  refine ⟨(Below.heap_setCell W ⟨b, 0, none⟩ u D hne).trans hD, fun o => ?_, fun o => hB.grown (grownBy_putObj' _ D o) hB.size (fun k e => by cases e; exact h2)⟩
  have hs : Boxed ((W.setCell ⟨b, 0, none⟩ u).putObj D o) b t u := (World.putObj_heap_other (Ne.symm hne)).trans (Boxed.set u hbk)
  exact hs.cell
end Go.Proofs.YtbpdcbibooiimaaGreatDoor.Q
/- The lines' two forms (out of Psm2). -/
namespace Go.Proofs.YtbpdcbibooiimaaGreatDoor.Q
open Go.RowKit Go.Shelf Go.Proofs.YtbpdcbibooiimaaGreatDoorW.PrintWords Go.Proofs.YtbpdcbibooiimaaGreatDoorW.PrintLast Go.Proofs.YtbpdcbibooiimaaGreatDoorW.PrintMore Go.Proofs.YtbpdcbibooiimaaGreatDoor.K
def toS (p : Int × List (List Int)) : S90 := ⟨p.1, p.2.map strOfNums⟩
theorem linesS_is : ∀ (X : List (List Int)) (i : Nat), linesS i X = (linesI i X).map toS
  | [], i => rfl
  | x :: X, i => by
    rw [linesI_cons]
    unfold linesS
    cases fieldsL (stripCR x) with
    | none => exact linesS_is X (i + 1)
    | some f => simp only [List.map_cons, linesS_is X (i + 1)]; rfl
theorem linesI_len : ∀ (X : List (List Int)) (i : Nat), (linesI i X).length ≤ X.length
  | [], i => Nat.le_refl _
  | x :: X, i => by
    rw [linesI_cons]
    have := linesI_len X (i + 1)
    cases fieldsL (stripCR x) with
    | none => simp only [List.length_cons]; omega
    | some f => simp only [List.length_cons]; omega
theorem linesI_pos : ∀ (X : List (List Int)) (i : Nat) (p : Int × List (List Int)), p ∈ linesI i X → 0 ≤ p.1 ∧ p.1 ≤ i + X.length
  | [], i, p, h => by cases h
  | x :: X, i, p, h => by
    rw [linesI_cons] at h
    have ih := linesI_pos X (i + 1)
    cases hf : fieldsL (stripCR x) with
    | none => rw [hf] at h; have := ih p h; simp only [List.length_cons]; omega
    | some f =>
      rw [hf] at h
      rcases List.mem_cons.1 h with rfl | h
      · simp only [List.length_cons]; omega
      · have := ih p h; simp only [List.length_cons]; omega
theorem strs_row {W : World} {g : Nat} {X : List (List Int)} (h : W.heap[g]? = some (.cells (rowC X) 9 (0, 0))) (hl : X.length ≤ 1000000) : Kd.C Kd.string W (some ⟨g, 0, none⟩) X.length (X.map strOfNums) := by
  refine ⟨by first | rfl | rw [List.length_map], by first | omega | (rw [List.length_map]; omega), fun _ => ⟨⟨g, 0, none⟩, rfl, fun j q hj => ⟨_, rfl, rfl, fun i u hu => ?_⟩⟩⟩
  have hi : i = 0 := by
    cases i with
    | zero => rfl
    | succ i => simp at hu
  subst hi
  simp only [List.getElem?_cons_zero, Option.some.injEq] at hu
  subst hu
  rw [List.getElem?_map, Option.map_eq_some_iff] at hj
  obtain ⟨y, hy, rfl⟩ := hj
  rw [Addr.add_lit]
  simp only [World.cell?]
  rw [h]
  show (rowC X)[0 + (j * 1 + 0)]? = _
  unfold rowC
  simp [hy]
theorem linesI_fl : ∀ (X : List (List Int)) (i : Nat) (n : Nat), (∀ l ∈ X, l.length ≤ n) → ∀ p ∈ linesI i X, p.2.length ≤ n + 1
  | [], i, n, hX, p, h => by cases h
  | x :: X, i, n, hX, p, h => by
    rw [linesI_cons] at h
    have ih := linesI_fl X (i + 1) n (fun l hl => hX l (List.mem_cons_of_mem _ hl))
    cases hf : fieldsL (stripCR x) with
    | none => rw [hf] at h; exact ih p h
    | some f =>
      rw [hf] at h
      rcases List.mem_cons.1 h with rfl | h
      · unfold fieldsL at hf
        split at hf
        · cases hf
        · obtain rfl := Option.some.inj hf
          have h1 := splP_count (fun x => decide (x = (59 : Int))) (bodyL (stripCR x))
          have h2 := len_spl (body_mem (stripCR x))
          have h3 := len_strip x
          have h4 := hX x (List.mem_cons_self ..)
          simp only [List.length_map]
          unfold spl
          omega
      · exact ih p h
theorem keepsFrom_below2 {B : Nat} {V V' : World} (hb : Below V.heap.size V V') : KeepsFrom B V V' := ⟨hb.size, fun k o _ hk _ => (hb.block k (Array.getElem?_eq_some_iff.1 hk).1).trans hk⟩
end Go.Proofs.YtbpdcbibooiimaaGreatDoor.Q
/- Lines' fields are texts of octets. -/
namespace Go.Proofs.YtbpdcbibooiimaaGreatDoor.Q
open Go.RowKit Go.Shelf Go.Proofs.YtbpdcbibooiimaaGreatDoorW.PrintWords Go.Proofs.YtbpdcbibooiimaaGreatDoorW.PrintLast Go.Proofs.YtbpdcbibooiimaaGreatDoorW.PrintMore Go.Proofs.YtbpdcbibooiimaaGreatDoor.K
theorem trimL_sub (l : List Int) : (trimL l).Sublist l := by
  unfold trimL trimR
  have h1 : (List.dropWhile blk l).Sublist l := List.dropWhile_sublist _
  have h2 : (List.dropWhile blk (List.dropWhile blk l).reverse).Sublist (List.dropWhile blk l).reverse := List.dropWhile_sublist _
  have h3 := h2.reverse
  rw [List.reverse_reverse] at h3
  exact h3.trans h1
theorem fields_oct {l : List Int} {f : List (List Int)} {n : Nat} (ho : Oct l) (hl : l.length ≤ n) (h : fieldsL (stripCR l) = some f) : ∀ p ∈ f, Oct p ∧ p.length ≤ n := by
  unfold fieldsL at h
  split at h
  · cases h
  · obtain rfl := Option.some.inj h
    intro p hp
    obtain ⟨q, hq, rfl⟩ := List.mem_map.1 hp
    have h1 := trimL_sub q
    have hb := body_mem (stripCR l)
    have o2 : Oct q := oct_spl (oct_spl (oct_strip ho) hb) hq
    have l2 := len_spl hq
    have l3 := len_spl hb
    have l4 := len_strip l
    have l5 := h1.length_le
    exact ⟨fun x hx => o2 x (h1.subset hx), by omega⟩
theorem linesI_oct {n : Nat} : ∀ (X : List (List Int)) (i : Nat), (∀ l ∈ X, Oct l ∧ l.length ≤ n) → ∀ p ∈ linesI i X, ∀ q ∈ p.2, Oct q ∧ q.length ≤ n
  | [], i, hX, p, h => by cases h
  | x :: X, i, hX, p, h => by
    rw [linesI_cons] at h
    have ih := linesI_oct X (i + 1) (fun l hl => hX l (List.mem_cons_of_mem _ hl))
    have hx := hX x List.mem_cons_self
    cases hf : fieldsL (stripCR x) with
    | none => rw [hf] at h; exact ih p h
    | some f =>
      rw [hf] at h
      rcases List.mem_cons.1 h with rfl | h
      · exact fields_oct hx.1 hx.2 hf
      · exact ih p h
end Go.Proofs.YtbpdcbibooiimaaGreatDoor.Q
namespace Go.Proofs.YtbpdcbibooiimaaGreatDoor.Q
open Go.RowKit Go.Proofs.YtbpdcbibooiimaaGreatDoorW.PrintWords Go.Proofs.YtbpdcbibooiimaaGreatDoorW.PrintLast Go.Proofs.YtbpdcbibooiimaaGreatDoorW.PrintMore
attribute [local go_sem] max2_int min2_int max_two min_two max_three min_three max_four min_four   -- for this text's walks alone
/-! ### paronymref03_Check: function 50 -/
mutual
def paronymref03_Check.j0 : Nat → List (S93) → Bool → Int → Int → ByteArray → Option (Int)
  | 0, _, _, _, _, _ => none
  | k + 1, x0, x20, x102000, x102001, x102002 => if x20 = true then (some 14) else (if x102002.toList = ([] : List UInt8) then (some 16) else (paronymref03_Check.l0 k x0 0 x102000 x102001 x102002))
def paronymref03_Check.l0 : Nat → List (S93) → Int → Int → Int → ByteArray → Option (Int)
  | 0, _, _, _, _, _ => none
  | k + 1, x0, x5, x102000, x102001, x102002 => if x5 < (x0.length : Int) then (if 0 ≤ x5 then (if ((rd_T93 x0 x5).f0) ≤ x102001 then (if x102000 ≤ ((rd_T93 x0 x5).f1) then (some 15) else (paronymref03_Check.l0 k x0 (wrap64 (x5 + 1)) x102000 x102001 x102002)) else (paronymref03_Check.l0 k x0 (wrap64 (x5 + 1)) x102000 x102001 x102002)) else (none)) else (some 0)
end
def paronymref03_Check.f (k : Nat) (l0 : List (S93)) (a1_0 : Int) (a1_1 : Int) (a1_2 : ByteArray) : Option (Int) := if a1_0 < 0 then (paronymref03_Check.j0 k l0 true a1_0 a1_1 a1_2) else (if a1_1 > 1114111 then (paronymref03_Check.j0 k l0 true a1_0 a1_1 a1_2) else (paronymref03_Check.j0 k l0 (decide (a1_1 < a1_0)) a1_0 a1_1 a1_2))
theorem paronymref03_Check.mono_l : ∀ k, (∀ y0 y1 y2 y3 y4, LeO (paronymref03_Check.j0 k y0 y1 y2 y3 y4) (paronymref03_Check.j0 (k + 1) y0 y1 y2 y3 y4)) ∧ (∀ y0 y1 y2 y3 y4, LeO (paronymref03_Check.l0 k y0 y1 y2 y3 y4) (paronymref03_Check.l0 (k + 1) y0 y1 y2 y3 y4))
  | 0 => ⟨fun _ _ _ _ _ r h => by simp [paronymref03_Check.j0] at h, fun _ _ _ _ _ r h => by simp [paronymref03_Check.l0] at h⟩
  | k + 1 => by
    obtain ⟨ih0, ih1⟩ := paronymref03_Check.mono_l k
    refine ⟨?_, ?_⟩
    · intro y0 y1 y2 y3 y4
      unfold paronymref03_Check.j0
      repeat' first
      | (with_reducible exact ih0 _ _ _ _ _)
      | (with_reducible exact ih1 _ _ _ _ _)
      | (with_reducible exact LeO.refl _)
      | (with_reducible exact LeO.none _)
      | (with_reducible refine LeO.ite ?_ ?_)
      | (with_reducible refine LeO.bind ?_ (fun _ => ?_))
      | exact ih0 _ _ _ _ _
      | exact ih1 _ _ _ _ _
      | exact LeO.none _
      | refine LeO.ite ?_ ?_
      | refine LeO.bind ?_ (fun _ => ?_)
    · intro y0 y1 y2 y3 y4
      unfold paronymref03_Check.l0
      repeat' first
      | (with_reducible exact ih0 _ _ _ _ _)
      | (with_reducible exact ih1 _ _ _ _ _)
      | (with_reducible exact LeO.refl _)
      | (with_reducible exact LeO.none _)
      | (with_reducible refine LeO.ite ?_ ?_)
      | (with_reducible refine LeO.bind ?_ (fun _ => ?_))
      | exact ih0 _ _ _ _ _
      | exact ih1 _ _ _ _ _
      | exact LeO.none _
      | refine LeO.ite ?_ ?_
      | refine LeO.bind ?_ (fun _ => ?_)
theorem paronymref03_Check.mono : ∀ a0 a1 a2 a3 k, LeO (paronymref03_Check.f k a0 a1 a2 a3) (paronymref03_Check.f (k + 1) a0 a1 a2 a3) := by
  intro a0 a1 a2 a3 k
  obtain ⟨ih0, ih1⟩ := paronymref03_Check.mono_l k
  unfold paronymref03_Check.f
  repeat' first
      | (with_reducible exact ih0 _ _ _ _ _)
      | (with_reducible exact ih1 _ _ _ _ _)
      | (with_reducible exact LeO.refl _)
      | (with_reducible exact LeO.none _)
      | (with_reducible refine LeO.ite ?_ ?_)
      | (with_reducible refine LeO.bind ?_ (fun _ => ?_))
      | exact ih0 _ _ _ _ _
      | exact ih1 _ _ _ _ _
      | exact LeO.none _
      | refine LeO.ite ?_ ?_
      | refine LeO.bind ?_ (fun _ => ?_)
set_option maxHeartbeats 8000000 in
set_option maxRecDepth 100000 in
theorem paronymref03_Check.calls (k : Nat) (A0 : Option Addr) (c0 : Nat) (l0 : List (S93)) (a1_0 : Int) (a1_1 : Int) (a1_2 : ByteArray) (r : Int) (w : World) (hr0 : Kd.C k93 w A0 l0.length l0) (hc0 : l0.length ≤ c0) (h : paronymref03_Check.f k l0 a1_0 a1_1 a1_2 = some r) :
    Calls Tryz.prog 50 #[.slice A0 l0.length c0, .agg #[.int .i64 a1_0, .int .i64 a1_1, .string a1_2]] w fun e w' => e = .returned (.int .i64 r) ∧ Below w.heap.size w w' := by
  have hu93 := Tryz.underlying93
  have HR0 := Aside0.mk hr0
  have HC0 := Aside0.mk hc0
  clear hr0 hc0
  have HB := Aside0.mk (Below.refl w.heap.size w)
  have H : (if a1_0 < 0 then (paronymref03_Check.j0 k l0 true a1_0 a1_1 a1_2) else (if a1_1 > 1114111 then (paronymref03_Check.j0 k l0 true a1_0 a1_1 a1_2) else (paronymref03_Check.j0 k l0 (decide (a1_1 < a1_0)) a1_0 a1_1 a1_2))) = some r := h
  clear h
  have HC3 := Aside0.mk H
  clear H
  go_enter Tryz.func50, Tryz.ntmps50
  go_upto_region 1 with (first | ((with_reducible refine gate_dst (N := 3) rfl ?_); refine box_event ?hg (N := 3) ?hd (cs := #[.int .i64 a1_0, .int .i64 a1_1, .string a1_2]) (t := 93) ?hr ?_; (case hd => rfl); (case hg => rfl); (case hr => first | (go_simp; done) | (go_simp; rfl)); intro gb101 hg w4 hbox hb; have n0_ := Aside0.mk (below_step (by repeat (first | (with_reducible first | exact HB.out | apply below_alloc | apply pw_below_drewN | apply below_drew1) | exact HB.out)) hb); have n1_ := Aside0.mk (hbox); have n2_ := Aside0.mk ((by rw [hg]; exact (below_size (by repeat (first | (with_reducible first | exact HB.out | apply below_alloc | apply pw_below_drewN | apply below_drew1) | exact HB.out))) : w.heap.size ≤ gb101)); have n3_ := Aside0.mk ((by rw [hg]; exact (below_size (by repeat (first | (with_reducible first | exact HB.out | apply below_alloc | apply pw_below_drewN | apply below_drew1) | exact HB.out))) : w.heap.size ≤ gb101)); clear HB; have HB := n0_; have BK101 := n1_; have GW101 := n2_; have GE101 := n3_; clear n0_ n1_ n2_ n3_; clear hb hbox hg))
  repeat (go_quiet (first | ((with_reducible refine gate_dst (N := 3) rfl ?_); refine box_event ?hg (N := 3) ?hd (cs := #[.int .i64 a1_0, .int .i64 a1_1, .string a1_2]) (t := 93) ?hr ?_; (case hd => rfl); (case hg => rfl); (case hr => first | (go_simp; done) | (go_simp; rfl)); intro gb101 hg w4 hbox hb; have n0_ := Aside0.mk (below_step (by repeat (first | (with_reducible first | exact HB.out | apply below_alloc | apply pw_below_drewN | apply below_drew1) | exact HB.out)) hb); have n1_ := Aside0.mk (hbox); have n2_ := Aside0.mk ((by rw [hg]; exact (below_size (by repeat (first | (with_reducible first | exact HB.out | apply below_alloc | apply pw_below_drewN | apply below_drew1) | exact HB.out))) : w.heap.size ≤ gb101)); have n3_ := Aside0.mk ((by rw [hg]; exact (below_size (by repeat (first | (with_reducible first | exact HB.out | apply below_alloc | apply pw_below_drewN | apply below_drew1) | exact HB.out))) : w.heap.size ≤ gb101)); clear HB; have HB := n0_; have BK101 := n1_; have GW101 := n2_; have GE101 := n3_; clear n0_ n1_ n2_ n3_; clear hb hbox hg)); go_upto_region 1 with (first | ((with_reducible refine gate_dst (N := 3) rfl ?_); refine box_event ?hg (N := 3) ?hd (cs := #[.int .i64 a1_0, .int .i64 a1_1, .string a1_2]) (t := 93) ?hr ?_; (case hd => rfl); (case hg => rfl); (case hr => first | (go_simp; done) | (go_simp; rfl)); intro gb101 hg w4 hbox hb; have n0_ := Aside0.mk (below_step (by repeat (first | (with_reducible first | exact HB.out | apply below_alloc | apply pw_below_drewN | apply below_drew1) | exact HB.out)) hb); have n1_ := Aside0.mk (hbox); have n2_ := Aside0.mk ((by rw [hg]; exact (below_size (by repeat (first | (with_reducible first | exact HB.out | apply below_alloc | apply pw_below_drewN | apply below_drew1) | exact HB.out))) : w.heap.size ≤ gb101)); have n3_ := Aside0.mk ((by rw [hg]; exact (below_size (by repeat (first | (with_reducible first | exact HB.out | apply below_alloc | apply pw_below_drewN | apply below_drew1) | exact HB.out))) : w.heap.size ≤ gb101)); clear HB; have HB := n0_; have BK101 := n1_; have GW101 := n2_; have GE101 := n3_; clear n0_ n1_ n2_ n3_; clear hb hbox hg)))
  (try simp only [Act.put, List.setIfInBounds_toArray, List.set_cons_zero, List.set_cons_succ])
  go_cut [20] (fun v20 wc => ∃ (kq : Nat) (x20_2 : Bool), v20 = .bool x20_2 ∧ Aside0 (paronymref03_Check.j0 kq l0 x20_2 a1_0 a1_1 a1_2 = some r) ∧ Aside0 (kq ≤ k) ∧ Aside0 (wc.heap[gb101]? = some (.cells #[.int .i64 a1_0, .int .i64 a1_1, .string a1_2] 93 (0, 0))) ∧ Aside0 (Below w.heap.size w wc))
  case first =>
    have H := HC3.out
    clear HC3
    by_cases c5 : a1_0 < 0
    · rw [if_pos c5] at H
      have c5b0 : decide (a1_0 < 0) = true := decide_eq_true c5
      clear c5
      (first | rw [c5b0] | (simp only [i64_w, i32_w]; rw [c5b0]) | rw [c5b1] | (simp only [i64_w, i32_w]; rw [c5b1]) | skip)
      have H' := Aside0.mk H
      clear H
      have hcz6_0 : w4.cell? ⟨gb101, 0, none⟩ = some (.int .i64 a1_0) := (blk_cell BK101.out 0).trans rfl
      have hcz6_1 : w4.cell? ⟨gb101, 1, none⟩ = some (.int .i64 a1_1) := (blk_cell BK101.out 1).trans rfl
      have hcz6_2 : w4.cell? ⟨gb101, 2, none⟩ = some (.string a1_2) := (blk_cell BK101.out 2).trans rfl
      have hfz6_0 := blk_frozen BK101.out 0
      have hfz6_1 := blk_frozen BK101.out 1
      have hfz6_2 := blk_frozen BK101.out 2
      go_wp2
      repeat (go_quiet (fail); try go_wp2)
      go_meet
      case rel => exact ⟨_, (true), (by first | rfl | (simp; done) | (simp [*]; done)), H', ⟨by first | omega | exact Nat.le_refl _⟩, ⟨by (with_reducible repeat (first | refine blk_drewN ?_ _ | refine blk_drew ?_ | refine blk_alloc ?_ _)); exact BK101.out⟩, ⟨by repeat (first | (with_reducible first | exact HB.out | apply below_alloc | apply pw_below_drewN | apply below_drew1 | refine below_set ?_ GE101.out) | exact HB.out)⟩⟩
    · rw [if_neg c5] at H
      have c5b0 : decide (a1_0 < 0) = false := decide_eq_false c5
      clear c5
      (first | rw [c5b0] | (simp only [i64_w, i32_w]; rw [c5b0]) | rw [c5b1] | (simp only [i64_w, i32_w]; rw [c5b1]) | skip)
      by_cases c7 : a1_1 > 1114111
      · rw [if_pos c7] at H
        have c7b0 : decide (1114111 < a1_1) = true := decide_eq_true c7
        clear c7
        have H' := Aside0.mk H
        clear H
        have hcz8_0 : w4.cell? ⟨gb101, 0, none⟩ = some (.int .i64 a1_0) := (blk_cell BK101.out 0).trans rfl
        have hcz8_1 : w4.cell? ⟨gb101, 1, none⟩ = some (.int .i64 a1_1) := (blk_cell BK101.out 1).trans rfl
        have hcz8_2 : w4.cell? ⟨gb101, 2, none⟩ = some (.string a1_2) := (blk_cell BK101.out 2).trans rfl
        have hfz8_0 := blk_frozen BK101.out 0
        have hfz8_1 := blk_frozen BK101.out 1
        have hfz8_2 := blk_frozen BK101.out 2
        go_wp2
        repeat (go_quiet (fail); try go_wp2)
        go_meet
        case rel => exact ⟨_, (true), (by first | rfl | (simp; done) | (simp [*]; done)), H', ⟨by first | omega | exact Nat.le_refl _⟩, ⟨by (with_reducible repeat (first | refine blk_drewN ?_ _ | refine blk_drew ?_ | refine blk_alloc ?_ _)); exact BK101.out⟩, ⟨by repeat (first | (with_reducible first | exact HB.out | apply below_alloc | apply pw_below_drewN | apply below_drew1 | refine below_set ?_ GE101.out) | exact HB.out)⟩⟩
      · rw [if_neg c7] at H
        have c7b0 : decide (1114111 < a1_1) = false := decide_eq_false c7
        clear c7
        have H' := Aside0.mk H
        clear H
        have hcz9_0 : w4.cell? ⟨gb101, 0, none⟩ = some (.int .i64 a1_0) := (blk_cell BK101.out 0).trans rfl
        have hcz9_1 : w4.cell? ⟨gb101, 1, none⟩ = some (.int .i64 a1_1) := (blk_cell BK101.out 1).trans rfl
        have hcz9_2 : w4.cell? ⟨gb101, 2, none⟩ = some (.string a1_2) := (blk_cell BK101.out 2).trans rfl
        have hfz9_0 := blk_frozen BK101.out 0
        have hfz9_1 := blk_frozen BK101.out 1
        have hfz9_2 := blk_frozen BK101.out 2
        go_wp2
        repeat (go_quiet (fail); try go_wp2)
        go_meet
        case rel => exact ⟨_, (decide (a1_1 < a1_0)), (by first | rfl | (simp; done) | (simp [*]; done)), H', ⟨by first | omega | exact Nat.le_refl _⟩, ⟨by (with_reducible repeat (first | refine blk_drewN ?_ _ | refine blk_drew ?_ | refine blk_alloc ?_ _)); exact BK101.out⟩, ⟨by repeat (first | (with_reducible first | exact HB.out | apply below_alloc | apply pw_below_drewN | apply below_drew1 | refine below_set ?_ GE101.out) | exact HB.out)⟩⟩
  case rest =>
    clear HC3
    try clear p2
    try clear c5
    try clear c5b0
    try clear c5b1
    try clear c7
    try clear c7b0
    try clear hcz6_0
    try clear hcz6_1
    try clear hcz6_2
    try clear hcz8_0
    try clear hcz8_1
    try clear hcz8_2
    try clear hcz9_0
    try clear hcz9_1
    try clear hcz9_2
    try clear hfz6_0
    try clear hfz6_1
    try clear hfz6_2
    try clear hfz8_0
    try clear hfz8_1
    try clear hfz8_2
    try clear hfz9_0
    try clear hfz9_1
    try clear hfz9_2
    obtain ⟨kq, x20_2, rfl, HA, HJ2, BK101, HB⟩ := hcut
    cases kq with
    | zero => exact absurd HA.out (by simp [paronymref03_Check.j0])
    | succ kj2 =>
      have H := HA.out
      clear HA
      simp only [paronymref03_Check.j0] at H
      by_cases c10 : x20_2 = true
      · subst c10
        have H1 : (some 14) = some r := by rw [if_pos rfl] at H; exact H
        clear H
        have H := H1
        clear H1
        obtain rfl := Option.some.inj H
        go_wp2
        repeat (go_quiet (fail); try go_wp2)
        go_ret
        exact ⟨by first | rfl | (simp [errW_none, errW_some] <;> rfl) | (simp [*, errW_none, errW_some] <;> rfl), by repeat (first | (with_reducible first | exact HB.out | apply below_alloc | apply pw_below_drewN | apply below_drew1 | refine below_set ?_ GE101.out) | exact HB.out)⟩
      · replace c10 := Bool.eq_false_iff.mpr c10
        subst c10
        have H1 : (if a1_2.toList = ([] : List UInt8) then (some 16) else (paronymref03_Check.l0 kj2 l0 0 a1_0 a1_1 a1_2)) = some r := by rw [if_neg (show ¬ (false = true) by decide)] at H; exact H
        clear H
        have H := H1
        clear H1
        by_cases c11 : a1_2.toList = ([] : List UInt8)
        · rw [if_pos c11] at H
          have c11b0 : (a1_2.toList == ([] : List UInt8)) = true := beq_iff_eq.mpr c11
          have c11b1 : (a1_2.toList != ([] : List UInt8)) = false := bne_eq_false_iff_eq.mpr c11
          clear c11
          obtain rfl := Option.some.inj H
          have hcz12_0 : wc.cell? ⟨gb101, 0, none⟩ = some (.int .i64 a1_0) := (blk_cell BK101.out 0).trans rfl
          have hcz12_1 : wc.cell? ⟨gb101, 1, none⟩ = some (.int .i64 a1_1) := (blk_cell BK101.out 1).trans rfl
          have hcz12_2 : wc.cell? ⟨gb101, 2, none⟩ = some (.string a1_2) := (blk_cell BK101.out 2).trans rfl
          have hfz12_0 := blk_frozen BK101.out 0
          have hfz12_1 := blk_frozen BK101.out 1
          have hfz12_2 := blk_frozen BK101.out 2
          go_wp2
          repeat (go_quiet (fail); try go_wp2)
          go_ret
          exact ⟨by first | rfl | (simp [errW_none, errW_some] <;> rfl) | (simp [*, errW_none, errW_some] <;> rfl), by repeat (first | (with_reducible first | exact HB.out | apply below_alloc | apply pw_below_drewN | apply below_drew1 | refine below_set ?_ GE101.out) | exact HB.out)⟩
        · rw [if_neg c11] at H
          have c11b0 : (a1_2.toList == ([] : List UInt8)) = false := beq_eq_false_iff_ne.mpr c11
          have c11b1 : (a1_2.toList != ([] : List UInt8)) = true := bne_iff_ne.mpr c11
          have H' := Aside0.mk H
          clear H
          have hcz13_0 : wc.cell? ⟨gb101, 0, none⟩ = some (.int .i64 a1_0) := (blk_cell BK101.out 0).trans rfl
          have hcz13_1 : wc.cell? ⟨gb101, 1, none⟩ = some (.int .i64 a1_1) := (blk_cell BK101.out 1).trans rfl
          have hcz13_2 : wc.cell? ⟨gb101, 2, none⟩ = some (.string a1_2) := (blk_cell BK101.out 2).trans rfl
          have hfz13_0 := blk_frozen BK101.out 0
          have hfz13_1 := blk_frozen BK101.out 1
          have hfz13_2 := blk_frozen BK101.out 2
          go_wp2
          repeat (go_quiet (fail); try go_wp2)
          go_loopg [5] kj2 (fun kq v5 w' => ∃ (x5_2 : Int), v5 = .int .i64 x5_2 ∧ Aside0 (paronymref03_Check.l0 kq l0 x5_2 a1_0 a1_1 a1_2 = some r) ∧ Aside0 (kq ≤ kj2) ∧ Aside0 (w'.heap[gb101]? = some (.cells #[.int .i64 a1_0, .int .i64 a1_1, .string a1_2] 93 (0, 0))) ∧ Aside0 (Below w.heap.size w w'))
          case atStart => exact ⟨(0), (by first | rfl | (simp; done) | (simp [*]; done)), H', ⟨Nat.le_refl _⟩, ⟨by (with_reducible repeat (first | refine blk_drewN ?_ _ | refine blk_drew ?_ | refine blk_alloc ?_ _)); exact BK101.out⟩, ⟨by repeat (first | (with_reducible first | exact HB.out | apply below_alloc | apply pw_below_drewN | apply below_drew1 | refine below_set ?_ GE101.out) | exact HB.out)⟩⟩
          case round =>
            clear H'
            try clear c1
            try clear p2
            try clear c5
            try clear c5b0
            try clear c5b1
            try clear c7
            try clear c7b0
            try clear c10
            try clear c11
            try clear c11b0
            try clear c11b1
            try clear hcz12_0
            try clear hcz12_1
            try clear hcz12_2
            try clear hcz13_0
            try clear hcz13_1
            try clear hcz13_2
            try clear hcz6_0
            try clear hcz6_1
            try clear hcz6_2
            try clear hcz8_0
            try clear hcz8_1
            try clear hcz8_2
            try clear hcz9_0
            try clear hcz9_1
            try clear hcz9_2
            try clear hfz12_0
            try clear hfz12_1
            try clear hfz12_2
            try clear hfz13_0
            try clear hfz13_1
            try clear hfz13_2
            try clear hfz6_0
            try clear hfz6_1
            try clear hfz6_2
            try clear hfz8_0
            try clear hfz8_1
            try clear hfz8_2
            try clear hfz9_0
            try clear hfz9_1
            try clear hfz9_2
            try clear p2
            obtain ⟨x5_2, rfl, HA, HK2, BK101, HB⟩ := hrel
            cases gk with
            | zero => exact absurd HA.out (by simp [paronymref03_Check.l0])
            | succ k2 =>
              have H := HA.out
              clear HA
              simp only [paronymref03_Check.l0] at H
              by_cases c14 : x5_2 < (l0.length : Int)
              · rw [if_pos c14] at H
                have c14b0 : decide (x5_2 < (l0.length : Int)) = true := decide_eq_true c14
                clear c14
                by_cases c15 : 0 ≤ x5_2
                · rw [if_pos c15] at H
                  have c15b0 : decide (0 ≤ x5_2) = true := decide_eq_true c15
                  clear c15
                  by_cases c16 : ((rd_T93 l0 x5_2).f0) ≤ a1_1
                  · rw [if_pos c16] at H
                    have c16b0 : decide (((rd_T93 l0 x5_2).f0) ≤ a1_1) = true := decide_eq_true c16
                    clear c16
                    by_cases c17 : a1_0 ≤ ((rd_T93 l0 x5_2).f1)
                    · rw [if_pos c17] at H
                      have c17b0 : decide (a1_0 ≤ ((rd_T93 l0 x5_2).f1)) = true := decide_eq_true c17
                      clear c17
                      obtain rfl := Option.some.inj H
                      have p102 : 0 ≤ (x5_2 : Int) := of_decide_eq_true (by first | (with_reducible assumption) | assumption)
                      have q102 : x5_2 < (l0.length : Int) := of_decide_eq_true (by first | (with_reducible assumption) | assumption)
                      obtain ⟨ad102, e102, hx102_0, hx102_1, hx102_2⟩ := at_T93 HR0.out x5_2 p102 q102
                      cases e102
                      replace hx102_0 := (HB.out.cell (World.block_lt_of_cell? w _ hx102_0)).trans hx102_0
                      replace hx102_1 := (HB.out.cell (World.block_lt_of_cell? w _ hx102_1)).trans hx102_1
                      replace hx102_2 := (HB.out.cell (World.block_lt_of_cell? w _ hx102_2)).trans hx102_2
                      replace p102 := eq_true p102
                      replace q102 := eq_true q102
                      have hcz18_0 : wr.cell? ⟨gb101, 0, none⟩ = some (.int .i64 a1_0) := (blk_cell BK101.out 0).trans rfl
                      have hcz18_1 : wr.cell? ⟨gb101, 1, none⟩ = some (.int .i64 a1_1) := (blk_cell BK101.out 1).trans rfl
                      have hcz18_2 : wr.cell? ⟨gb101, 2, none⟩ = some (.string a1_2) := (blk_cell BK101.out 2).trans rfl
                      have hfz18_0 := blk_frozen BK101.out 0
                      have hfz18_1 := blk_frozen BK101.out 1
                      have hfz18_2 := blk_frozen BK101.out 2
                      have p103 : 0 ≤ (x5_2 : Int) := of_decide_eq_true (by first | (with_reducible assumption) | assumption)
                      have q103 : x5_2 < (l0.length : Int) := of_decide_eq_true (by first | (with_reducible assumption) | assumption)
                      obtain ⟨ad103, e103, hx103_0, hx103_1, hx103_2⟩ := at_T93 HR0.out x5_2 p103 q103
                      obtain rfl : ad102 = ad103 := (by injection e103)
                      replace hx103_0 := (HB.out.cell (World.block_lt_of_cell? w _ hx103_0)).trans hx103_0
                      replace hx103_1 := (HB.out.cell (World.block_lt_of_cell? w _ hx103_1)).trans hx103_1
                      replace hx103_2 := (HB.out.cell (World.block_lt_of_cell? w _ hx103_2)).trans hx103_2
                      replace p103 := eq_true p103
                      replace q103 := eq_true q103
                      go_wp2
                      repeat (go_quiet (fail); try go_wp2)
                      go_ret
                      exact ⟨by first | rfl | (simp [errW_none, errW_some] <;> rfl) | (simp [*, errW_none, errW_some] <;> rfl), by repeat (first | (with_reducible first | exact HB.out | apply below_alloc | apply pw_below_drewN | apply below_drew1 | refine below_set ?_ GE101.out) | exact HB.out)⟩
                    · rw [if_neg c17] at H
                      have c17b0 : decide (a1_0 ≤ ((rd_T93 l0 x5_2).f1)) = false := decide_eq_false c17
                      clear c17
                      have H' := Aside0.mk H
                      clear H
                      have p102 : 0 ≤ (x5_2 : Int) := of_decide_eq_true (by first | (with_reducible assumption) | assumption)
                      have q102 : x5_2 < (l0.length : Int) := of_decide_eq_true (by first | (with_reducible assumption) | assumption)
                      obtain ⟨ad102, e102, hx102_0, hx102_1, hx102_2⟩ := at_T93 HR0.out x5_2 p102 q102
                      cases e102
                      replace hx102_0 := (HB.out.cell (World.block_lt_of_cell? w _ hx102_0)).trans hx102_0
                      replace hx102_1 := (HB.out.cell (World.block_lt_of_cell? w _ hx102_1)).trans hx102_1
                      replace hx102_2 := (HB.out.cell (World.block_lt_of_cell? w _ hx102_2)).trans hx102_2
                      replace p102 := eq_true p102
                      replace q102 := eq_true q102
                      have hcz19_0 : wr.cell? ⟨gb101, 0, none⟩ = some (.int .i64 a1_0) := (blk_cell BK101.out 0).trans rfl
                      have hcz19_1 : wr.cell? ⟨gb101, 1, none⟩ = some (.int .i64 a1_1) := (blk_cell BK101.out 1).trans rfl
                      have hcz19_2 : wr.cell? ⟨gb101, 2, none⟩ = some (.string a1_2) := (blk_cell BK101.out 2).trans rfl
                      have hfz19_0 := blk_frozen BK101.out 0
                      have hfz19_1 := blk_frozen BK101.out 1
                      have hfz19_2 := blk_frozen BK101.out 2
                      have p103 : 0 ≤ (x5_2 : Int) := of_decide_eq_true (by first | (with_reducible assumption) | assumption)
                      have q103 : x5_2 < (l0.length : Int) := of_decide_eq_true (by first | (with_reducible assumption) | assumption)
                      obtain ⟨ad103, e103, hx103_0, hx103_1, hx103_2⟩ := at_T93 HR0.out x5_2 p103 q103
                      obtain rfl : ad102 = ad103 := (by injection e103)
                      replace hx103_0 := (HB.out.cell (World.block_lt_of_cell? w _ hx103_0)).trans hx103_0
                      replace hx103_1 := (HB.out.cell (World.block_lt_of_cell? w _ hx103_1)).trans hx103_1
                      replace hx103_2 := (HB.out.cell (World.block_lt_of_cell? w _ hx103_2)).trans hx103_2
                      replace p103 := eq_true p103
                      replace q103 := eq_true q103
                      go_wp2
                      repeat (go_quiet (fail); try go_wp2)
                      go_roundg k2
                      case measure => have := HJ2.out; have := HK2.out; omega
                      case rel => exact ⟨(wrap64 (x5_2 + 1)), (by first | rfl | (simp; done) | (simp [*]; done)), H', ⟨by have := HJ2.out; have := HK2.out; omega⟩, ⟨by (with_reducible repeat (first | refine blk_drewN ?_ _ | refine blk_drew ?_ | refine blk_alloc ?_ _)); exact BK101.out⟩, ⟨by repeat (first | (with_reducible first | exact HB.out | apply below_alloc | apply pw_below_drewN | apply below_drew1 | refine below_set ?_ GE101.out) | exact HB.out)⟩⟩
                  · rw [if_neg c16] at H
                    have c16b0 : decide (((rd_T93 l0 x5_2).f0) ≤ a1_1) = false := decide_eq_false c16
                    clear c16
                    have H' := Aside0.mk H
                    clear H
                    have p102 : 0 ≤ (x5_2 : Int) := of_decide_eq_true (by first | (with_reducible assumption) | assumption)
                    have q102 : x5_2 < (l0.length : Int) := of_decide_eq_true (by first | (with_reducible assumption) | assumption)
                    obtain ⟨ad102, e102, hx102_0, hx102_1, hx102_2⟩ := at_T93 HR0.out x5_2 p102 q102
                    cases e102
                    replace hx102_0 := (HB.out.cell (World.block_lt_of_cell? w _ hx102_0)).trans hx102_0
                    replace hx102_1 := (HB.out.cell (World.block_lt_of_cell? w _ hx102_1)).trans hx102_1
                    replace hx102_2 := (HB.out.cell (World.block_lt_of_cell? w _ hx102_2)).trans hx102_2
                    replace p102 := eq_true p102
                    replace q102 := eq_true q102
                    have hcz20_0 : wr.cell? ⟨gb101, 0, none⟩ = some (.int .i64 a1_0) := (blk_cell BK101.out 0).trans rfl
                    have hcz20_1 : wr.cell? ⟨gb101, 1, none⟩ = some (.int .i64 a1_1) := (blk_cell BK101.out 1).trans rfl
                    have hcz20_2 : wr.cell? ⟨gb101, 2, none⟩ = some (.string a1_2) := (blk_cell BK101.out 2).trans rfl
                    have hfz20_0 := blk_frozen BK101.out 0
                    have hfz20_1 := blk_frozen BK101.out 1
                    have hfz20_2 := blk_frozen BK101.out 2
                    go_wp2
                    repeat (go_quiet (fail); try go_wp2)
                    go_roundg k2
                    case measure => have := HJ2.out; have := HK2.out; omega
                    case rel => exact ⟨(wrap64 (x5_2 + 1)), (by first | rfl | (simp; done) | (simp [*]; done)), H', ⟨by have := HJ2.out; have := HK2.out; omega⟩, ⟨by (with_reducible repeat (first | refine blk_drewN ?_ _ | refine blk_drew ?_ | refine blk_alloc ?_ _)); exact BK101.out⟩, ⟨by repeat (first | (with_reducible first | exact HB.out | apply below_alloc | apply pw_below_drewN | apply below_drew1 | refine below_set ?_ GE101.out) | exact HB.out)⟩⟩
                · rw [if_neg c15] at H
                  exact absurd H (by simp)
              · rw [if_neg c14] at H
                have c14b0 : decide (x5_2 < (l0.length : Int)) = false := decide_eq_false c14
                clear c14
                obtain rfl := Option.some.inj H
                go_wp2
                repeat (go_quiet (fail); try go_wp2)
                go_ret
                exact ⟨by first | rfl | (simp [errW_none, errW_some] <;> rfl) | (simp [*, errW_none, errW_some] <;> rfl), by repeat (first | (with_reducible first | exact HB.out | apply below_alloc | apply pw_below_drewN | apply below_drew1 | refine below_set ?_ GE101.out) | exact HB.out)⟩
end Go.Proofs.YtbpdcbibooiimaaGreatDoor.Q
/- Layer 3 on lists: Value; the reference's Check. -/
namespace Go.Proofs.YtbpdcbibooiimaaGreatDoor.K
open Go.RowKit Go.Proofs.YtbpdcbibooiimaaGreatDoorW.PrintWords Go.Proofs.YtbpdcbibooiimaaGreatDoorW.PrintMore Go.Proofs.YtbpdcbibooiimaaGreatDoor.Q
def valR (L : List S83) (c : Int) : ByteArray := if pos L c < L.length then (if (rd_T83 L (pos L c : Int)).f0 ≤ c then (rd_T83 L (pos L c : Int)).f2 else ⟨#[]⟩) else ⟨#[]⟩
theorem value_ev {L : List S83} (hl : L.length ≤ 1000000) (hL : SpOK L) (c : Int) : Ev (fun k => span_Value.f k L c) (valR L c) := by
  unfold span_Value.f
  refine Ev.bind (find_ev hl hL c) ?_
  unfold valR
  by_cases h : pos L c < L.length
  · rw [if_pos h]
    refine Ev.pos (by omega) (Ev.pos (by omega) ?_)
    by_cases h2 : (rd_T83 L (pos L c : Int)).f0 ≤ c
    · refine Ev.pos h2 ?_
      rw [if_pos h2]; exact Ev.now _
    · refine Ev.neg h2 ?_
      rw [if_neg h2]; exact Ev.now _
  · rw [if_neg h]
    exact Ev.neg (by omega) (Ev.now _)
theorem valR_in {L : List S83} (hL : SpOK L) {c : Int} {i : Nat} (hi : i < L.length) (h1 : L[i].f0 ≤ c) (h2 : c ≤ L[i].f1) : valR L c = L[i].f2 := by
  have hp : pos L c = i := pos_uniq hL (by omega) (fun j hj => by have := hL.lt hj hi; omega) (fun _ => by omega)
  unfold valR
  rw [hp, if_pos hi, rd43 i hi, if_pos h1]
theorem valR_out {L : List S83} (hL : SpOK L) {c : Int} (h : ∀ s ∈ L, ¬ (s.f0 ≤ c ∧ c ≤ s.f1)) : valR L c = ⟨#[]⟩ := by
  unfold valR
  by_cases hp : pos L c < L.length
  · rw [if_pos hp, rd43 _ hp]
    have h1 := pos_at hp
    have h2 := h _ (List.getElem_mem hp)
    rw [if_neg (fun h3 => h2 ⟨h3, by omega⟩)]
  · rw [if_neg hp]
/-! the law's own functions -/
theorem rd53 {L : List S93} (i : Nat) (h : i < L.length) : rd_T93 L (i : Int) = L[i] := by
  unfold rd_T93
  rw [Int.toNat_natCast, List.getD_eq_getElem?_getD, List.getElem?_eq_getElem h]; rfl
theorem check_ev {L : List S83} (hl : L.length ≤ 1000000) (s : S83) : Ev (fun k => paronymref03_Check.f k (L.map c53) s.f0 s.f1 s.f2) (errOf L s) := by
  have key : ∀ (d i : Nat), L.length - i = d → i ≤ L.length → (∀ a : Nat, (ha : a < i) → (h : a < L.length) → ¬ meets L[a] s) → Ev (fun k => paronymref03_Check.l0 k (L.map c53) (i : Int) s.f0 s.f1 s.f2) (if ∃ t ∈ L, meets t s then 15 else 0) := by
    intro d
    induction d with
    | zero =>
      intro i h1 h2 h3
      refine Ev.step (fun k => rfl) (Ev.neg (by rw [List.length_map]; omega) ?_)
      rw [if_neg (fun ⟨t, ht, hm⟩ => by obtain ⟨a, ha, rfl⟩ := List.getElem_of_mem ht; exact h3 a (by omega) ha hm)]
      exact Ev.now _
    | succ d ih =>
      intro i h1 h2 h3
      have hi : i < L.length := by omega
      have hr : rd_T93 (L.map c53) (i : Int) = c53 L[i] := by rw [rd53 i (by rw [List.length_map]; exact hi), List.getElem_map]
      refine Ev.step (fun k => rfl) (Ev.pos (by rw [List.length_map]; omega) (Ev.pos (by omega) ?_))
      rw [hr]
      have hn := ih (i + 1) (by omega) (by omega)
      rw [w64 (by omega) (by omega)]
      by_cases c1 : (c53 L[i]).f0 ≤ s.f1
      · refine Ev.pos c1 ?_
        by_cases c2 : s.f0 ≤ (c53 L[i]).f1
        · rw [if_pos ⟨L[i], List.getElem_mem hi, c1, c2⟩]
          exact Ev.pos c2 (Ev.now _)
        · exact Ev.neg c2 (hn (fun a ha h => by
            by_cases e : a = i
            · subst e; exact fun hm => c2 hm.2
            · exact h3 a (by omega) h))
      · exact Ev.neg c1 (hn (fun a ha h => by
          by_cases e : a = i
          · subst e; exact fun hm => c1 hm.1
          · exact h3 a (by omega) h))
  have hk := key L.length 0 (by omega) (by omega) (fun a ha => by omega)
  have hj : ∀ b : Bool, Ev (fun k => paronymref03_Check.j0 k (L.map c53) b s.f0 s.f1 s.f2) (if b = true then 14 else if s.f2.toList = [] then 16 else if ∃ t ∈ L, meets t s then 15 else 0) := by
    intro b
    cases b with
    | true => exact Ev.step (f := fun _ => some 14) (fun k => rfl) (Ev.now _)
    | false =>
      refine Ev.step (f := fun k => if s.f2.toList = ([] : List UInt8) then some 16 else paronymref03_Check.l0 k (L.map c53) 0 s.f0 s.f1 s.f2) (fun k => rfl) ?_
      rw [if_neg (by simp)]
      by_cases h : s.f2.toList = []
      · refine Ev.pos h ?_
        rw [if_pos h]
        exact Ev.now _
      · refine Ev.neg h ?_
        rw [if_neg h]
        exact hk
  unfold paronymref03_Check.f errOf
  by_cases h1 : s.f0 < 0
  · rw [if_pos (.inl h1)]
    exact Ev.pos h1 (hj true)
  · refine Ev.neg h1 ?_
    by_cases h2 : s.f1 > 1114111
    · rw [if_pos (.inr (.inl h2))]
      exact Ev.pos h2 (hj true)
    · refine Ev.neg h2 ?_
      have := hj (decide (s.f1 < s.f0))
      by_cases h3 : s.f1 < s.f0
      · rw [if_pos (.inr (.inr h3))]
        simpa [h3] using this
      · rw [if_neg (by omega)]
        simpa [h3] using this
end Go.Proofs.YtbpdcbibooiimaaGreatDoor.K
namespace Go.Proofs.YtbpdcbibooiimaaGreatDoor.Q
open Go.RowKit Go.Proofs.YtbpdcbibooiimaaGreatDoorW.PrintWords Go.Proofs.YtbpdcbibooiimaaGreatDoorW.PrintLast Go.Proofs.YtbpdcbibooiimaaGreatDoorW.PrintMore
attribute [local go_sem] max2_int min2_int max_two min_two max_three min_three max_four min_four   -- for this text's walks alone
/-! ### paronymref03_Sorted: function 51 -/
mutual
def paronymref03_Sorted.l0 : Nat → List (S93) → List (S93) → Int → Option ((List (S93)))
  | 0, _, _, _ => none
  | k + 1, x0, x3, x4 => if x4 < (x0.length : Int) then (paronymref03_Sorted.l1 k x0 x3 x4 (x3.length : Int)) else (some x3)
def paronymref03_Sorted.l1 : Nat → List (S93) → List (S93) → Int → Int → Option ((List (S93)))
  | 0, _, _, _, _ => none
  | k + 1, x0, x3, x4, x5 => if x5 > 0 then (if 0 ≤ (wrap64 (x5 - 1)) then (if (wrap64 (x5 - 1)) < (x3.length : Int) then (if 0 ≤ x4 then (if x4 < (x0.length : Int) then (if ((rd_T93 x3 (wrap64 (x5 - 1))).f0) > ((rd_T93 x0 x4).f0) then (paronymref03_Sorted.l1 k x0 x3 x4 (wrap64 (x5 - 1))) else (if 0 ≤ x5 then (if x5 ≤ (x3.length : Int) then ((some (x3.take (x5 : Int).toNat : List (S93))).bind fun y103 => (if ([] : List (S93)).length + y103.length < 4398046511104 then ((some (([] : List (S93)) ++ y103 : List (S93))).bind fun y107 => (if y107.length < 4398046511104 then ((some (y107 ++ [(⟨(rd_T93 x0 x4).f0, (rd_T93 x0 x4).f1, (rd_T93 x0 x4).f2⟩ : S93)] : List (S93))).bind fun y111 => ((some (x3.drop (x5 : Int).toNat : List (S93))).bind fun y114 => (if y111.length + y114.length < 4398046511104 then (paronymref03_Sorted.l0 k x0 (y111 ++ y114) (wrap64 (x4 + 1))) else (none)))) else (none))) else (none))) else (none)) else (none))) else (none)) else (none)) else (none)) else (none)) else (if 0 ≤ x5 then (if x5 ≤ (x3.length : Int) then ((some (x3.take (x5 : Int).toNat : List (S93))).bind fun y121 => (if ([] : List (S93)).length + y121.length < 4398046511104 then ((some (([] : List (S93)) ++ y121 : List (S93))).bind fun y125 => (if 0 ≤ x4 then (if x4 < (x0.length : Int) then (if y125.length < 4398046511104 then ((some (y125 ++ [(⟨(rd_T93 x0 x4).f0, (rd_T93 x0 x4).f1, (rd_T93 x0 x4).f2⟩ : S93)] : List (S93))).bind fun y129 => ((some (x3.drop (x5 : Int).toNat : List (S93))).bind fun y132 => (if y129.length + y132.length < 4398046511104 then (paronymref03_Sorted.l0 k x0 (y129 ++ y132) (wrap64 (x4 + 1))) else (none)))) else (none)) else (none)) else (none))) else (none))) else (none)) else (none))
end
def paronymref03_Sorted.f (k : Nat) (l0 : List (S93)) : Option ((List (S93))) := paronymref03_Sorted.l0 k l0 ([] : List (S93)) 0
theorem paronymref03_Sorted.mono_l : ∀ k, (∀ y0 y1 y2, LeO (paronymref03_Sorted.l0 k y0 y1 y2) (paronymref03_Sorted.l0 (k + 1) y0 y1 y2)) ∧ (∀ y0 y1 y2 y3, LeO (paronymref03_Sorted.l1 k y0 y1 y2 y3) (paronymref03_Sorted.l1 (k + 1) y0 y1 y2 y3))
  | 0 => ⟨fun _ _ _ r h => by simp [paronymref03_Sorted.l0] at h, fun _ _ _ _ r h => by simp [paronymref03_Sorted.l1] at h⟩
  | k + 1 => by
    obtain ⟨ih0, ih1⟩ := paronymref03_Sorted.mono_l k
    refine ⟨?_, ?_⟩
    · intro y0 y1 y2
      unfold paronymref03_Sorted.l0
      repeat' first
      | (with_reducible exact ih0 _ _ _)
      | (with_reducible exact ih1 _ _ _ _)
      | (with_reducible exact LeO.refl _)
      | (with_reducible exact LeO.none _)
      | (with_reducible refine LeO.ite ?_ ?_)
      | (with_reducible refine LeO.bind ?_ (fun _ => ?_))
      | exact ih0 _ _ _
      | exact ih1 _ _ _ _
      | exact LeO.none _
      | refine LeO.ite ?_ ?_
      | refine LeO.bind ?_ (fun _ => ?_)
    · intro y0 y1 y2 y3
      unfold paronymref03_Sorted.l1
      repeat' first
      | (with_reducible exact ih0 _ _ _)
      | (with_reducible exact ih1 _ _ _ _)
      | (with_reducible exact LeO.refl _)
      | (with_reducible exact LeO.none _)
      | (with_reducible refine LeO.ite ?_ ?_)
      | (with_reducible refine LeO.bind ?_ (fun _ => ?_))
      | exact ih0 _ _ _
      | exact ih1 _ _ _ _
      | exact LeO.none _
      | refine LeO.ite ?_ ?_
      | refine LeO.bind ?_ (fun _ => ?_)
theorem paronymref03_Sorted.mono : ∀ a0 k, LeO (paronymref03_Sorted.f k a0) (paronymref03_Sorted.f (k + 1) a0) := by
  intro a0 k
  obtain ⟨ih0, ih1⟩ := paronymref03_Sorted.mono_l k
  unfold paronymref03_Sorted.f
  repeat' first
      | (with_reducible exact ih0 _ _ _)
      | (with_reducible exact ih1 _ _ _ _)
      | (with_reducible exact LeO.refl _)
      | (with_reducible exact LeO.none _)
      | (with_reducible refine LeO.ite ?_ ?_)
      | (with_reducible refine LeO.bind ?_ (fun _ => ?_))
      | exact ih0 _ _ _
      | exact ih1 _ _ _ _
      | exact LeO.none _
      | refine LeO.ite ?_ ?_
      | refine LeO.bind ?_ (fun _ => ?_)
set_option maxHeartbeats 8000000 in
set_option maxRecDepth 100000 in
theorem paronymref03_Sorted.calls (k : Nat) (A0 : Option Addr) (c0 : Nat) (l0 : List (S93)) (r : List (S93)) (w : World) (hr0 : Kd.C k93 w A0 l0.length l0) (hc0 : l0.length ≤ c0) (h : paronymref03_Sorted.f k l0 = some r) :
    Calls Tryz.prog 51 #[.slice A0 l0.length c0] w fun e w' => ∃ v0_ : Value, e = .returned (v0_) ∧ Kd.R k93 93 w' w.heap.size (fun _ => True) v0_ r ∧ Below w.heap.size w w' := by
  have hu93 := Tryz.underlying93
  have HR0 := Aside0.mk hr0
  have HC0 := Aside0.mk hc0
  clear hr0 hc0
  have HB := Aside0.mk (Below.refl w.heap.size w)
  have H : (paronymref03_Sorted.l0 k l0 ([] : List (S93)) 0) = some r := h
  clear h
  have H' := Aside0.mk H
  clear H
  go_enter Tryz.func51, Tryz.ntmps51
  go_wp2
  repeat (go_quiet (fail); try go_wp2)
  go_loopg [3, 4] k (fun kq v3 v4 w' => ∃ (x3_1 : List (S93)) (x4_1 : Int), v4 = .int .i64 x4_1 ∧ Aside0 (paronymref03_Sorted.l0 kq l0 x3_1 x4_1 = some r) ∧ Aside0 (kq ≤ k) ∧ Aside0 (Kd.R k93 93 w' w.heap.size (fun _ => True) v3 x3_1) ∧ Aside0 (Below w.heap.size w w'))
  case atStart => exact ⟨(([] : List (S93))), (0), (by first | rfl | (simp; done) | (simp [*]; done)), H', ⟨Nat.le_refl _⟩, ⟨by first | exact Kd.R_nil _ _ _ _ _ | exact Kd.N_nil _ _ _ _ _ | exact Kd.V_nil _ _ _ _ _ | exact Kd.Q_nil _ _ _ _ _ | exact Kd.S_nil _ _ _ _ _⟩, ⟨by repeat (first | (with_reducible first | exact HB.out | apply below_alloc | apply pw_below_drewN | apply below_drew1) | exact HB.out)⟩⟩
  case round =>
    clear H'
    obtain ⟨x3_1, x4_1, rfl, HA, HK1, HO_3, HB⟩ := hrel
    cases gk with
    | zero => exact absurd HA.out (by simp [paronymref03_Sorted.l0])
    | succ k1 =>
      have H := HA.out
      clear HA
      simp only [paronymref03_Sorted.l0] at H
      by_cases c2 : x4_1 < (l0.length : Int)
      · rw [if_pos c2] at H
        have c2b0 : decide (x4_1 < (l0.length : Int)) = true := decide_eq_true c2
        clear c2
        have H' := Aside0.mk H
        clear H
        obtain ⟨Ao3, co3, eo3⟩ := Kd.R_slice HO_3.out
        subst eo3
        go_wp2
        repeat (go_quiet (fail); try go_wp2)
        go_loopg [5] k1 (fun kq v5 w' => ∃ (x5_2 : Int), v5 = .int .i64 x5_2 ∧ Aside0 (paronymref03_Sorted.l1 kq l0 x3_1 x4_1 x5_2 = some r) ∧ Aside0 (kq ≤ k1) ∧ Aside0 (Kd.R k93 93 w' w.heap.size (fun _ => True) (.slice Ao3 x3_1.length co3) x3_1) ∧ Aside0 (Below w.heap.size w w'))
        case atStart => exact ⟨((x3_1.length : Int)), (by first | rfl | (simp; done) | (simp [*]; done)), H', ⟨Nat.le_refl _⟩, ⟨by (with_reducible repeat (first | apply Kd.R_alloc | apply Kd.R_drewN | apply Kd.R_drew)); exact HO_3.out⟩, ⟨by repeat (first | (with_reducible first | exact HB.out | apply below_alloc | apply pw_below_drewN | apply below_drew1) | exact HB.out)⟩⟩
        case round =>
          clear H'
          try clear c2
          try clear c2b0
          try clear p2
          obtain ⟨x5_2, rfl, HA, HK2, HO_3, HB⟩ := hrel
          cases gk with
          | zero => exact absurd HA.out (by simp [paronymref03_Sorted.l1])
          | succ k2 =>
            have H := HA.out
            clear HA
            simp only [paronymref03_Sorted.l1] at H
            by_cases c4 : x5_2 > 0
            · rw [if_pos c4] at H
              have c4b0 : decide (0 < x5_2) = true := decide_eq_true c4
              clear c4
              obtain ⟨ji5, hji5⟩ : ∃ j_ : Int, (wrap64 (x5_2 - 1)) = j_ := ⟨_, rfl⟩
              replace H : (if 0 ≤ (ji5) then (if (ji5) < (x3_1.length : Int) then (if 0 ≤ x4_1 then (if x4_1 < (l0.length : Int) then (if ((rd_T93 x3_1 (ji5)).f0) > ((rd_T93 l0 x4_1).f0) then (paronymref03_Sorted.l1 k2 l0 x3_1 x4_1 ji5) else (if 0 ≤ x5_2 then (if x5_2 ≤ (x3_1.length : Int) then ((some (x3_1.take (x5_2 : Int).toNat : List (S93))).bind fun y103 => (if ([] : List (S93)).length + y103.length < 4398046511104 then ((some (([] : List (S93)) ++ y103 : List (S93))).bind fun y107 => (if y107.length < 4398046511104 then ((some (y107 ++ [(⟨(rd_T93 l0 x4_1).f0, (rd_T93 l0 x4_1).f1, (rd_T93 l0 x4_1).f2⟩ : S93)] : List (S93))).bind fun y111 => ((some (x3_1.drop (x5_2 : Int).toNat : List (S93))).bind fun y114 => (if y111.length + y114.length < 4398046511104 then (paronymref03_Sorted.l0 k2 l0 (y111 ++ y114) (wrap64 (x4_1 + 1))) else (none)))) else (none))) else (none))) else (none)) else (none))) else (none)) else (none)) else (none)) else (none)) = some r := by first | (rw [hji5] at H; exact H) | (simp only [hji5] at H ⊢; exact H)
              have hji5w : (IntKind.i64.wrap (x5_2 - 1)) = ji5 := (i64_w _).trans hji5
              by_cases c6 : 0 ≤ (ji5)
              · rw [if_pos c6] at H
                have c6b0 : decide (0 ≤ (ji5)) = true := decide_eq_true c6
                clear c6
                by_cases c7 : (ji5) < (x3_1.length : Int)
                · rw [if_pos c7] at H
                  have c7b0 : decide ((ji5) < (x3_1.length : Int)) = true := decide_eq_true c7
                  clear c7
                  by_cases c8 : 0 ≤ x4_1
                  · rw [if_pos c8] at H
                    have c8b0 : decide (0 ≤ x4_1) = true := decide_eq_true c8
                    clear c8
                    by_cases c9 : x4_1 < (l0.length : Int)
                    · rw [if_pos c9] at H
                      have c9b0 : decide (x4_1 < (l0.length : Int)) = true := decide_eq_true c9
                      clear c9
                      by_cases c10 : ((rd_T93 x3_1 (ji5)).f0) > ((rd_T93 l0 x4_1).f0)
                      · rw [if_pos c10] at H
                        have c10b0 : decide (((rd_T93 l0 x4_1).f0) < ((rd_T93 x3_1 (ji5)).f0)) = true := decide_eq_true c10
                        clear c10
                        have H' := Aside0.mk H
                        clear H
                        have p101 : 0 ≤ ((ji5) : Int) := of_decide_eq_true (by first | (with_reducible assumption) | assumption)
                        have q101 : (ji5) < (x3_1.length : Int) := of_decide_eq_true (by first | (with_reducible assumption) | assumption)
                        obtain ⟨ad101, e101, hx101_0, hx101_1, hx101_2⟩ := at_T93 (Kd.R_reads' HO_3.out).2.2 (ji5) p101 q101
                        cases e101
                        replace p101 := eq_true p101
                        replace q101 := eq_true q101
                        have p102 : 0 ≤ (x4_1 : Int) := of_decide_eq_true (by first | (with_reducible assumption) | assumption)
                        have q102 : x4_1 < (l0.length : Int) := of_decide_eq_true (by first | (with_reducible assumption) | assumption)
                        obtain ⟨ad102, e102, hx102_0, hx102_1, hx102_2⟩ := at_T93 HR0.out x4_1 p102 q102
                        cases e102
                        replace hx102_0 := (HB.out.cell (World.block_lt_of_cell? w _ hx102_0)).trans hx102_0
                        replace hx102_1 := (HB.out.cell (World.block_lt_of_cell? w _ hx102_1)).trans hx102_1
                        replace hx102_2 := (HB.out.cell (World.block_lt_of_cell? w _ hx102_2)).trans hx102_2
                        replace p102 := eq_true p102
                        replace q102 := eq_true q102
                        go_wp2
                        repeat (go_quiet (fail); try go_wp2)
                        go_roundg k2
                        case measure => have := HK1.out; have := HK2.out; omega
                        case rel => exact ⟨(ji5), (by first | rfl | (simp; done) | (simp only [← hji5] <;> (first | rfl | simp)) | (simp [*]; done)), H', ⟨by have := HK1.out; have := HK2.out; omega⟩, ⟨by (with_reducible repeat (first | apply Kd.R_alloc | apply Kd.R_drewN | apply Kd.R_drew)); exact HO_3.out⟩, ⟨by repeat (first | (with_reducible first | exact HB.out | apply below_alloc | apply pw_below_drewN | apply below_drew1) | exact HB.out)⟩⟩
                      · rw [if_neg c10] at H
                        have c10b0 : decide (((rd_T93 l0 x4_1).f0) < ((rd_T93 x3_1 (ji5)).f0)) = false := decide_eq_false c10
                        clear c10
                        by_cases c11 : 0 ≤ x5_2
                        · rw [if_pos c11] at H
                          have c11b0 := eq_true c11
                          have c11b1 : decide (0 ≤ x5_2) = true := decide_eq_true c11
                          clear c11
                          by_cases c12 : x5_2 ≤ (x3_1.length : Int)
                          · rw [if_pos c12] at H
                            have c12b0 := eq_true c12
                            have c12b1 : decide (x5_2 ≤ (x3_1.length : Int)) = true := decide_eq_true c12
                            clear c12
                            obtain ⟨y103, hy103⟩ : ∃ y_ : List (S93), y_ = (x3_1.take (x5_2 : Int).toNat) := ⟨_, rfl⟩
                            replace H : (if ([] : List (S93)).length + y103.length < 4398046511104 then ((some (([] : List (S93)) ++ y103 : List (S93))).bind fun y107 => (if y107.length < 4398046511104 then ((some (y107 ++ [(⟨(rd_T93 l0 x4_1).f0, (rd_T93 l0 x4_1).f1, (rd_T93 l0 x4_1).f2⟩ : S93)] : List (S93))).bind fun y111 => ((some (x3_1.drop (x5_2 : Int).toNat : List (S93))).bind fun y114 => (if y111.length + y114.length < 4398046511104 then (paronymref03_Sorted.l0 k2 l0 (y111 ++ y114) (wrap64 (x4_1 + 1))) else (none)))) else (none))) else (none)) = some r := by first | (rw [hy103]; with_reducible exact H) | (have H2_ := (Option.bind_some _ _).symm.trans H; rw [hy103]; with_reducible exact H2_) | (have H2_ := (Option.bind_some _ _).symm.trans H; with_reducible exact H2_) | with_reducible exact H | (rw [hy103]; exact H) | exact H
                            have Ny103 := Aside0.mk hy103
                            clear hy103
                            by_cases c13 : ([] : List (S93)).length + y103.length < 4398046511104
                            · rw [if_pos c13] at H
                              have LMc13 := Aside0.mk c13
                              clear c13
                              obtain ⟨y107, hy107⟩ : ∃ y_ : List (S93), y_ = (([] : List (S93)) ++ y103) := ⟨_, rfl⟩
                              replace H : (if y107.length < 4398046511104 then ((some (y107 ++ [(⟨(rd_T93 l0 x4_1).f0, (rd_T93 l0 x4_1).f1, (rd_T93 l0 x4_1).f2⟩ : S93)] : List (S93))).bind fun y111 => ((some (x3_1.drop (x5_2 : Int).toNat : List (S93))).bind fun y114 => (if y111.length + y114.length < 4398046511104 then (paronymref03_Sorted.l0 k2 l0 (y111 ++ y114) (wrap64 (x4_1 + 1))) else (none)))) else (none)) = some r := by first | (rw [hy107]; with_reducible exact H) | (have H2_ := (Option.bind_some _ _).symm.trans H; rw [hy107]; with_reducible exact H2_) | (have H2_ := (Option.bind_some _ _).symm.trans H; with_reducible exact H2_) | with_reducible exact H | (rw [hy107]; exact H) | exact H
                              have Ny107 := Aside0.mk hy107
                              clear hy107
                              by_cases c14 : y107.length < 4398046511104
                              · rw [if_pos c14] at H
                                have LMc14 := Aside0.mk c14
                                clear c14
                                obtain ⟨y111, hy111⟩ : ∃ y_ : List (S93), y_ = (y107 ++ [(⟨(rd_T93 l0 x4_1).f0, (rd_T93 l0 x4_1).f1, (rd_T93 l0 x4_1).f2⟩ : S93)]) := ⟨_, rfl⟩
                                replace H : ((some (x3_1.drop (x5_2 : Int).toNat : List (S93))).bind fun y114 => (if y111.length + y114.length < 4398046511104 then (paronymref03_Sorted.l0 k2 l0 (y111 ++ y114) (wrap64 (x4_1 + 1))) else (none))) = some r := by first | (rw [hy111]; with_reducible exact H) | (have H2_ := (Option.bind_some _ _).symm.trans H; rw [hy111]; with_reducible exact H2_) | (have H2_ := (Option.bind_some _ _).symm.trans H; with_reducible exact H2_) | with_reducible exact H | (rw [hy111]; exact H) | exact H
                                have Ny111 := Aside0.mk hy111
                                clear hy111
                                have c15b0 := eq_true (of_decide_eq_true (by first | (with_reducible assumption) | assumption) : 0 ≤ x5_2)
                                have c16b0 := eq_true (of_decide_eq_true (by first | (with_reducible assumption) | assumption) : x5_2 ≤ (x3_1.length : Int))
                                obtain ⟨y114, hy114⟩ : ∃ y_ : List (S93), y_ = (x3_1.drop (x5_2 : Int).toNat) := ⟨_, rfl⟩
                                replace H : (if y111.length + y114.length < 4398046511104 then (paronymref03_Sorted.l0 k2 l0 (y111 ++ y114) (wrap64 (x4_1 + 1))) else (none)) = some r := by first | (rw [hy114]; with_reducible exact H) | (have H2_ := (Option.bind_some _ _).symm.trans H; rw [hy114]; with_reducible exact H2_) | (have H2_ := (Option.bind_some _ _).symm.trans H; with_reducible exact H2_) | with_reducible exact H | (rw [hy114]; exact H) | exact H
                                have Ny114 := Aside0.mk hy114
                                clear hy114
                                by_cases c17 : y111.length + y114.length < 4398046511104
                                · rw [if_pos c17] at H
                                  have LMc17 := Aside0.mk c17
                                  clear c17
                                  obtain ⟨y118, hy118⟩ : ∃ y_ : List (S93), y_ = (y111 ++ y114) := ⟨_, rfl⟩
                                  replace H : (paronymref03_Sorted.l0 k2 l0 y118 (wrap64 (x4_1 + 1))) = some r := by first | (rw [hy118]; with_reducible exact H) | (have H2_ := (Option.bind_some _ _).symm.trans H; rw [hy118]; with_reducible exact H2_) | (have H2_ := (Option.bind_some _ _).symm.trans H; with_reducible exact H2_) | with_reducible exact H | (rw [hy118]; exact H) | exact H
                                  have Ny118 := Aside0.mk hy118
                                  clear hy118
                                  have H' := Aside0.mk H
                                  clear H
                                  have p101 : 0 ≤ ((ji5) : Int) := of_decide_eq_true (by first | (with_reducible assumption) | assumption)
                                  have q101 : (ji5) < (x3_1.length : Int) := of_decide_eq_true (by first | (with_reducible assumption) | assumption)
                                  obtain ⟨ad101, e101, hx101_0, hx101_1, hx101_2⟩ := at_T93 (Kd.R_reads' HO_3.out).2.2 (ji5) p101 q101
                                  cases e101
                                  replace p101 := eq_true p101
                                  replace q101 := eq_true q101
                                  have p102 : 0 ≤ (x4_1 : Int) := of_decide_eq_true (by first | (with_reducible assumption) | assumption)
                                  have q102 : x4_1 < (l0.length : Int) := of_decide_eq_true (by first | (with_reducible assumption) | assumption)
                                  obtain ⟨ad102, e102, hx102_0, hx102_1, hx102_2⟩ := at_T93 HR0.out x4_1 p102 q102
                                  cases e102
                                  replace hx102_0 := (HB.out.cell (World.block_lt_of_cell? w _ hx102_0)).trans hx102_0
                                  replace hx102_1 := (HB.out.cell (World.block_lt_of_cell? w _ hx102_1)).trans hx102_1
                                  replace hx102_2 := (HB.out.cell (World.block_lt_of_cell? w _ hx102_2)).trans hx102_2
                                  replace p102 := eq_true p102
                                  replace q102 := eq_true q102
                                  have q18 : (x5_2 : Int) ≤ ((x3_1.length : Int) : Int) := of_decide_eq_true (by first | (with_reducible assumption) | assumption)
                                  obtain ⟨i018, hi018, _, hsz18, _⟩ := info_parts info93
                                  have hroom18 : x3_1.length ≤ co3 := (Kd.R_reads' HO_3.out).2.1
                                  have hC18 : Kd.C k93 _ (some ad101) x3_1.length x3_1 := (Kd.R_reads' HO_3.out).2.2
                                  have hcut18 := cut_to (P := Tryz.prog) 30 93 .i64 Tryz.underlying30 hi018 (some ad101) x3_1.length co3 x5_2 (of_decide_eq_true (by first | (with_reducible assumption) | assumption)) q18 hroom18
                                  have hr18 := Kd.C_take (m := (x5_2 : Int).toNat) hC18 (by omega)
                                  have hy18 : y103.length = (x5_2 : Int).toNat := (by rw [Ny103.out, List.length_take]; omega)
                                  rw [← Ny103.out] at hr18
                                  rw [← hy18] at hcut18
                                  have HR106 := Aside0.mk hr18
                                  have HC106 := Aside0.mk (show y103.length ≤ co3 from by omega)
                                  clear hr18 hC18 hroom18 hi018 hsz18
                                  have KY18 := Aside0.mk hy18
                                  clear hy18
                                  have KL18 := Aside0.mk (show (x5_2 : Int).toNat ≤ x3_1.length from by omega)
                                  replace q18 := eq_true q18
                                  go_wp2_with (first | ((with_reducible refine gate_builtin (b := .append) (xs := #[.tmp 33, .tmp 36]) rfl ?_); at_builtin; refine Kd.R_append_rows k93 (w0 := w) w.heap.size rfl (.tmp 33) (.tmp 36) 30 93 (.agg #[(.int .i64 0), (.int .i64 0), (.string ⟨#[]⟩)]) 32 rfl Tryz.underlying30 info93 rfl (by decide) (by omega) (.slice none 0 0) ([] : List (S93)) y103 _ _ _ (fun k_ => some k_ ≠ (.slice (some ad101) x3_1.length co3 : Value).ownBlock) (fun _ => False) rfl rfl ?aO ?aR (fun _ _ h => h) (fun _ h => h.elim) ?aF ?aB ?aS ?aL ?_; (case aR => repeat (first | exact (by repeat (first | (with_reducible exact HR106.out) | (with_reducible refine Kd.C_alloc ?_ _) | (with_reducible refine Kd.C_drewN ?_ _) | (with_reducible refine Kd.C_drew ?_) | exact HR106.out)) | (with_reducible refine Kd.C_alloc ?_ _) | (with_reducible refine Kd.C_drewN ?_ _) | (with_reducible refine Kd.C_drew ?_))); (case aB => exact (by repeat (first | (with_reducible first | exact HB.out | apply below_alloc | apply pw_below_drewN | apply below_drew1) | exact HB.out))); (case aF => exact (fun k_ hk => Kd.fresh' (Kd.R_lt (by (with_reducible repeat (first | apply Kd.R_alloc | apply Kd.R_drewN | apply Kd.R_drew)); exact HO_3.out)) k_ hk)); (case aO => exact ((Kd.R_nil _ _ _ _ (fun k_ => some k_ ≠ (.slice (some ad101) x3_1.length co3 : Value).ownBlock)))); (case aS => exact (below_size (by repeat (first | (with_reducible first | exact HB.out | apply below_alloc | apply pw_below_drewN | apply below_drew1) | exact HB.out)))); (case aL => have := LMc13.out; omega); intro v108 w19 ho hb hg hat; rw [← Ny107.out] at ho; have n0_ := Aside0.mk (Kd.R_after (Kd.R_apart_nil (by (with_reducible repeat (first | apply Kd.R_alloc | apply Kd.R_drewN | apply Kd.R_drew)); exact HO_3.out)) hg hat); have n1_ := Aside0.mk (hb); have n2_ := Aside0.mk ((show Kd.C k93 w19 (some ad101) y103.length y103 from by rw [Ny103.out]; exact Kd.C_take (m := (x5_2 : Int).toNat) ((Kd.R_reads' (Kd.R_after (Kd.R_apart_nil (by (with_reducible repeat (first | apply Kd.R_alloc | apply Kd.R_drewN | apply Kd.R_drew)); exact HO_3.out)) hg hat)).2.2) KL18.out)); have n3_ := Aside0.mk (ho); clear HO_3; clear HB; clear HR106; have HO_3 := n0_; have HB := n1_; have HR106 := n2_; have HO109 := n3_; clear n0_ n1_ n2_ n3_; clear ho hb hg hat; have p110 : 0 ≤ (x4_1 : Int) := of_decide_eq_true (by first | (with_reducible assumption) | assumption); have q110 : x4_1 < (l0.length : Int) := of_decide_eq_true (by first | (with_reducible assumption) | assumption); obtain ⟨ad110, e110, hx110_0, hx110_1, hx110_2⟩ := at_T93 HR0.out x4_1 p110 q110; obtain rfl : ad102 = ad110 := (by injection e110); replace hx110_0 := (HB.out.cell (World.block_lt_of_cell? w _ hx110_0)).trans hx110_0; replace hx110_1 := (HB.out.cell (World.block_lt_of_cell? w _ hx110_1)).trans hx110_1; replace hx110_2 := (HB.out.cell (World.block_lt_of_cell? w _ hx110_2)).trans hx110_2; replace p110 := eq_true p110; replace q110 := eq_true q110) | ((with_reducible refine gate_builtin (b := .append) (xs := #[.tmp 38, .tmp 43]) rfl ?_); at_builtin; refine Kd.R_append k93 (w0 := w) w.heap.size rfl (.tmp 38) (.tmp 43) 30 93 (.agg #[(.int .i64 0), (.int .i64 0), (.string ⟨#[]⟩)]) 32 rfl Tryz.underlying30 info93 rfl (by decide) (by omega) v108 y107 (⟨(rd_T93 l0 x4_1).f0, (rd_T93 l0 x4_1).f1, (rd_T93 l0 x4_1).f2⟩ : S93) [.int .i64 ((rd_T93 l0 x4_1).f0), .int .i64 ((rd_T93 l0 x4_1).f1), .string ((rd_T93 l0 x4_1).f2)] (fun k_ => some k_ ≠ (.slice (some ad101) x3_1.length co3 : Value).ownBlock) (fun _ => False) rfl rfl ?aP (fun _ hk => hk.elim) ?aF ?aO ?aB ?aS ?aL ?_; (case aP => exact k93_mkM _ _ _ (⟨(rd_T93 l0 x4_1).f0, (rd_T93 l0 x4_1).f1, (rd_T93 l0 x4_1).f2⟩ : S93)); (case aB => exact (by repeat (first | (with_reducible first | exact HB.out | apply below_alloc | apply pw_below_drewN | apply below_drew1) | exact HB.out))); (case aF => exact (fun k_ hk => Kd.fresh' (Kd.R_lt (by (with_reducible repeat (first | apply Kd.R_alloc | apply Kd.R_drewN | apply Kd.R_drew)); exact HO_3.out)) k_ hk)); (case aO => exact (by (with_reducible repeat (first | apply Kd.R_alloc | apply Kd.R_drewN | apply Kd.R_drew)); exact HO109.out)); (case aS => exact (below_size (by repeat (first | (with_reducible first | exact HB.out | apply below_alloc | apply pw_below_drewN | apply below_drew1) | exact HB.out)))); (case aL => have := LMc14.out; omega); intro v112 w20 ho hb hg hat; rw [← Ny111.out] at ho; have n0_ := Aside0.mk (Kd.R_after (ok := (fun _ => True)) (by (with_reducible repeat (first | apply Kd.R_alloc | apply Kd.R_drewN | apply Kd.R_drew)); exact HO_3.out) hg hat); have n1_ := Aside0.mk (hb); have n2_ := Aside0.mk ((show Kd.C k93 w20 (some ad101) y103.length y103 from by rw [Ny103.out]; exact Kd.C_take (m := (x5_2 : Int).toNat) ((Kd.R_reads' (Kd.R_after (ok := (fun _ => True)) (by (with_reducible repeat (first | apply Kd.R_alloc | apply Kd.R_drewN | apply Kd.R_drew)); exact HO_3.out) hg hat)).2.2) KL18.out)); have n3_ := Aside0.mk (ho); clear HO_3; clear HB; clear HR106; clear HO109; have HO_3 := n0_; have HB := n1_; have HR106 := n2_; have HO113 := n3_; clear n0_ n1_ n2_ n3_; clear ho hb hg hat; have q21 : (x5_2 : Int) ≤ ((x3_1.length : Int) : Int) := of_decide_eq_true (by first | (with_reducible assumption) | assumption); obtain ⟨i021, hi021, _, hsz21, _⟩ := info_parts info93; have hroom21 : x3_1.length ≤ co3 := (Kd.R_reads' HO_3.out).2.1; have hC21 : Kd.C k93 _ (some ad101) x3_1.length x3_1 := (Kd.R_reads' HO_3.out).2.2; have q021 : (0 : Int) ≤ (x5_2 : Int) := of_decide_eq_true (by first | (with_reducible assumption) | assumption); have hcut21 := cut_from (P := Tryz.prog) 30 93 .i64 Tryz.underlying30 hi021 3 hsz21 (some ad101) x3_1.length co3 x5_2 q021 q21; have hr21 := Kd.C_drop (m := (x5_2 : Int).toNat) (c := co3) hC21 (by omega) hroom21; obtain ⟨A21, hA21⟩ : ∃ A1, A1 = (if co3 = (x5_2 : Int).toNat then (some ad101) else ((some ad101) : Option Addr).map (·.add ((x5_2 : Int).toNat * 3))) := ⟨_, rfl⟩; obtain ⟨c21, hc21⟩ : ∃ c1, c1 = co3 - (x5_2 : Int).toNat := ⟨_, rfl⟩; have hy21 : y114.length = x3_1.length - (x5_2 : Int).toNat := (by rw [Ny114.out, List.length_drop] <;> omega); rw [show (x3_1).drop (x5_2 : Int).toNat = y114 from Ny114.out.symm] at hr21; replace hr21 : Kd.C k93 _ A21 y114.length y114 := (by rw [hA21]; exact hr21); rw [← hy21, ← hA21, ← hc21] at hcut21; have HR117 := Aside0.mk hr21; have HC117 := Aside0.mk (show y114.length ≤ c21 from by rw [hy21, hc21]; exact Nat.sub_le_sub_right hroom21 _); clear hr21 hC21 hroom21 hi021 hsz21 hc21; have KY21 := Aside0.mk hy21; have KA21 := Aside0.mk hA21; clear hy21 hA21; have KL21 := Aside0.mk (show (x5_2 : Int).toNat ≤ x3_1.length from by omega); replace q21 := eq_true q21) | ((with_reducible refine gate_builtin (b := .append) (xs := #[.tmp 45, .tmp 48]) rfl ?_); at_builtin; refine Kd.R_append_rows k93 (w0 := w) w.heap.size rfl (.tmp 45) (.tmp 48) 30 93 (.agg #[(.int .i64 0), (.int .i64 0), (.string ⟨#[]⟩)]) 32 rfl Tryz.underlying30 info93 rfl (by decide) (by omega) v112 y111 y114 _ _ _ (fun k_ => some k_ ≠ (.slice (some ad101) x3_1.length co3 : Value).ownBlock) (fun _ => False) rfl rfl ?aO ?aR (fun _ _ h => h) (fun _ h => h.elim) ?aF ?aB ?aS ?aL ?_; (case aR => repeat (first | exact (by repeat (first | (with_reducible exact HR117.out) | (with_reducible refine Kd.C_alloc ?_ _) | (with_reducible refine Kd.C_drewN ?_ _) | (with_reducible refine Kd.C_drew ?_) | exact HR117.out)) | (with_reducible refine Kd.C_alloc ?_ _) | (with_reducible refine Kd.C_drewN ?_ _) | (with_reducible refine Kd.C_drew ?_))); (case aB => exact (by repeat (first | (with_reducible first | exact HB.out | apply below_alloc | apply pw_below_drewN | apply below_drew1) | exact HB.out))); (case aF => exact (fun k_ hk => Kd.fresh' (Kd.R_lt (by (with_reducible repeat (first | apply Kd.R_alloc | apply Kd.R_drewN | apply Kd.R_drew)); exact HO_3.out)) k_ hk)); (case aO => exact (by (with_reducible repeat (first | apply Kd.R_alloc | apply Kd.R_drewN | apply Kd.R_drew)); exact HO113.out)); (case aS => exact (below_size (by repeat (first | (with_reducible first | exact HB.out | apply below_alloc | apply pw_below_drewN | apply below_drew1) | exact HB.out)))); (case aL => have := LMc17.out; omega); intro v119 w22 ho hb hg hat; rw [← Ny118.out] at ho; have n0_ := Aside0.mk (Kd.R_after (ok := (fun _ => True)) (by (with_reducible repeat (first | apply Kd.R_alloc | apply Kd.R_drewN | apply Kd.R_drew)); exact HO_3.out) hg hat); have n1_ := Aside0.mk (hb); have n2_ := Aside0.mk ((show Kd.C k93 w22 (some ad101) y103.length y103 from by rw [Ny103.out]; exact Kd.C_take (m := (x5_2 : Int).toNat) ((Kd.R_reads' (Kd.R_after (ok := (fun _ => True)) (by (with_reducible repeat (first | apply Kd.R_alloc | apply Kd.R_drewN | apply Kd.R_drew)); exact HO_3.out) hg hat)).2.2) KL18.out)); have n3_ := Aside0.mk ((show Kd.C k93 w22 A21 y114.length y114 from by rw [Ny114.out, KA21.out]; exact Kd.C_drop (m := (x5_2 : Int).toNat) (c := co3) ((Kd.R_reads' (Kd.R_after (ok := (fun _ => True)) (by (with_reducible repeat (first | apply Kd.R_alloc | apply Kd.R_drewN | apply Kd.R_drew)); exact HO_3.out) hg hat)).2.2) KL21.out ((Kd.R_reads' (Kd.R_after (ok := (fun _ => True)) (by (with_reducible repeat (first | apply Kd.R_alloc | apply Kd.R_drewN | apply Kd.R_drew)); exact HO_3.out) hg hat)).2.1))); have n4_ := Aside0.mk (ho); clear HO_3; clear HB; clear HR106; clear HR117; clear HO113; have HO_3 := n0_; have HB := n1_; have HR106 := n2_; have HR117 := n3_; have HO120 := n4_; clear n0_ n1_ n2_ n3_ n4_; clear ho hb hg hat))
                                  repeat (go_quiet (first | ((with_reducible refine gate_builtin (b := .append) (xs := #[.tmp 33, .tmp 36]) rfl ?_); at_builtin; refine Kd.R_append_rows k93 (w0 := w) w.heap.size rfl (.tmp 33) (.tmp 36) 30 93 (.agg #[(.int .i64 0), (.int .i64 0), (.string ⟨#[]⟩)]) 32 rfl Tryz.underlying30 info93 rfl (by decide) (by omega) (.slice none 0 0) ([] : List (S93)) y103 _ _ _ (fun k_ => some k_ ≠ (.slice (some ad101) x3_1.length co3 : Value).ownBlock) (fun _ => False) rfl rfl ?aO ?aR (fun _ _ h => h) (fun _ h => h.elim) ?aF ?aB ?aS ?aL ?_; (case aR => repeat (first | exact (by repeat (first | (with_reducible exact HR106.out) | (with_reducible refine Kd.C_alloc ?_ _) | (with_reducible refine Kd.C_drewN ?_ _) | (with_reducible refine Kd.C_drew ?_) | exact HR106.out)) | (with_reducible refine Kd.C_alloc ?_ _) | (with_reducible refine Kd.C_drewN ?_ _) | (with_reducible refine Kd.C_drew ?_))); (case aB => exact (by repeat (first | (with_reducible first | exact HB.out | apply below_alloc | apply pw_below_drewN | apply below_drew1) | exact HB.out))); (case aF => exact (fun k_ hk => Kd.fresh' (Kd.R_lt (by (with_reducible repeat (first | apply Kd.R_alloc | apply Kd.R_drewN | apply Kd.R_drew)); exact HO_3.out)) k_ hk)); (case aO => exact ((Kd.R_nil _ _ _ _ (fun k_ => some k_ ≠ (.slice (some ad101) x3_1.length co3 : Value).ownBlock)))); (case aS => exact (below_size (by repeat (first | (with_reducible first | exact HB.out | apply below_alloc | apply pw_below_drewN | apply below_drew1) | exact HB.out)))); (case aL => have := LMc13.out; omega); intro v108 w19 ho hb hg hat; rw [← Ny107.out] at ho; have n0_ := Aside0.mk (Kd.R_after (Kd.R_apart_nil (by (with_reducible repeat (first | apply Kd.R_alloc | apply Kd.R_drewN | apply Kd.R_drew)); exact HO_3.out)) hg hat); have n1_ := Aside0.mk (hb); have n2_ := Aside0.mk ((show Kd.C k93 w19 (some ad101) y103.length y103 from by rw [Ny103.out]; exact Kd.C_take (m := (x5_2 : Int).toNat) ((Kd.R_reads' (Kd.R_after (Kd.R_apart_nil (by (with_reducible repeat (first | apply Kd.R_alloc | apply Kd.R_drewN | apply Kd.R_drew)); exact HO_3.out)) hg hat)).2.2) KL18.out)); have n3_ := Aside0.mk (ho); clear HO_3; clear HB; clear HR106; have HO_3 := n0_; have HB := n1_; have HR106 := n2_; have HO109 := n3_; clear n0_ n1_ n2_ n3_; clear ho hb hg hat; have p110 : 0 ≤ (x4_1 : Int) := of_decide_eq_true (by first | (with_reducible assumption) | assumption); have q110 : x4_1 < (l0.length : Int) := of_decide_eq_true (by first | (with_reducible assumption) | assumption); obtain ⟨ad110, e110, hx110_0, hx110_1, hx110_2⟩ := at_T93 HR0.out x4_1 p110 q110; obtain rfl : ad102 = ad110 := (by injection e110); replace hx110_0 := (HB.out.cell (World.block_lt_of_cell? w _ hx110_0)).trans hx110_0; replace hx110_1 := (HB.out.cell (World.block_lt_of_cell? w _ hx110_1)).trans hx110_1; replace hx110_2 := (HB.out.cell (World.block_lt_of_cell? w _ hx110_2)).trans hx110_2; replace p110 := eq_true p110; replace q110 := eq_true q110) | ((with_reducible refine gate_builtin (b := .append) (xs := #[.tmp 38, .tmp 43]) rfl ?_); at_builtin; refine Kd.R_append k93 (w0 := w) w.heap.size rfl (.tmp 38) (.tmp 43) 30 93 (.agg #[(.int .i64 0), (.int .i64 0), (.string ⟨#[]⟩)]) 32 rfl Tryz.underlying30 info93 rfl (by decide) (by omega) v108 y107 (⟨(rd_T93 l0 x4_1).f0, (rd_T93 l0 x4_1).f1, (rd_T93 l0 x4_1).f2⟩ : S93) [.int .i64 ((rd_T93 l0 x4_1).f0), .int .i64 ((rd_T93 l0 x4_1).f1), .string ((rd_T93 l0 x4_1).f2)] (fun k_ => some k_ ≠ (.slice (some ad101) x3_1.length co3 : Value).ownBlock) (fun _ => False) rfl rfl ?aP (fun _ hk => hk.elim) ?aF ?aO ?aB ?aS ?aL ?_; (case aP => exact k93_mkM _ _ _ (⟨(rd_T93 l0 x4_1).f0, (rd_T93 l0 x4_1).f1, (rd_T93 l0 x4_1).f2⟩ : S93)); (case aB => exact (by repeat (first | (with_reducible first | exact HB.out | apply below_alloc | apply pw_below_drewN | apply below_drew1) | exact HB.out))); (case aF => exact (fun k_ hk => Kd.fresh' (Kd.R_lt (by (with_reducible repeat (first | apply Kd.R_alloc | apply Kd.R_drewN | apply Kd.R_drew)); exact HO_3.out)) k_ hk)); (case aO => exact (by (with_reducible repeat (first | apply Kd.R_alloc | apply Kd.R_drewN | apply Kd.R_drew)); exact HO109.out)); (case aS => exact (below_size (by repeat (first | (with_reducible first | exact HB.out | apply below_alloc | apply pw_below_drewN | apply below_drew1) | exact HB.out)))); (case aL => have := LMc14.out; omega); intro v112 w20 ho hb hg hat; rw [← Ny111.out] at ho; have n0_ := Aside0.mk (Kd.R_after (ok := (fun _ => True)) (by (with_reducible repeat (first | apply Kd.R_alloc | apply Kd.R_drewN | apply Kd.R_drew)); exact HO_3.out) hg hat); have n1_ := Aside0.mk (hb); have n2_ := Aside0.mk ((show Kd.C k93 w20 (some ad101) y103.length y103 from by rw [Ny103.out]; exact Kd.C_take (m := (x5_2 : Int).toNat) ((Kd.R_reads' (Kd.R_after (ok := (fun _ => True)) (by (with_reducible repeat (first | apply Kd.R_alloc | apply Kd.R_drewN | apply Kd.R_drew)); exact HO_3.out) hg hat)).2.2) KL18.out)); have n3_ := Aside0.mk (ho); clear HO_3; clear HB; clear HR106; clear HO109; have HO_3 := n0_; have HB := n1_; have HR106 := n2_; have HO113 := n3_; clear n0_ n1_ n2_ n3_; clear ho hb hg hat; have q21 : (x5_2 : Int) ≤ ((x3_1.length : Int) : Int) := of_decide_eq_true (by first | (with_reducible assumption) | assumption); obtain ⟨i021, hi021, _, hsz21, _⟩ := info_parts info93; have hroom21 : x3_1.length ≤ co3 := (Kd.R_reads' HO_3.out).2.1; have hC21 : Kd.C k93 _ (some ad101) x3_1.length x3_1 := (Kd.R_reads' HO_3.out).2.2; have q021 : (0 : Int) ≤ (x5_2 : Int) := of_decide_eq_true (by first | (with_reducible assumption) | assumption); have hcut21 := cut_from (P := Tryz.prog) 30 93 .i64 Tryz.underlying30 hi021 3 hsz21 (some ad101) x3_1.length co3 x5_2 q021 q21; have hr21 := Kd.C_drop (m := (x5_2 : Int).toNat) (c := co3) hC21 (by omega) hroom21; obtain ⟨A21, hA21⟩ : ∃ A1, A1 = (if co3 = (x5_2 : Int).toNat then (some ad101) else ((some ad101) : Option Addr).map (·.add ((x5_2 : Int).toNat * 3))) := ⟨_, rfl⟩; obtain ⟨c21, hc21⟩ : ∃ c1, c1 = co3 - (x5_2 : Int).toNat := ⟨_, rfl⟩; have hy21 : y114.length = x3_1.length - (x5_2 : Int).toNat := (by rw [Ny114.out, List.length_drop] <;> omega); rw [show (x3_1).drop (x5_2 : Int).toNat = y114 from Ny114.out.symm] at hr21; replace hr21 : Kd.C k93 _ A21 y114.length y114 := (by rw [hA21]; exact hr21); rw [← hy21, ← hA21, ← hc21] at hcut21; have HR117 := Aside0.mk hr21; have HC117 := Aside0.mk (show y114.length ≤ c21 from by rw [hy21, hc21]; exact Nat.sub_le_sub_right hroom21 _); clear hr21 hC21 hroom21 hi021 hsz21 hc21; have KY21 := Aside0.mk hy21; have KA21 := Aside0.mk hA21; clear hy21 hA21; have KL21 := Aside0.mk (show (x5_2 : Int).toNat ≤ x3_1.length from by omega); replace q21 := eq_true q21) | ((with_reducible refine gate_builtin (b := .append) (xs := #[.tmp 45, .tmp 48]) rfl ?_); at_builtin; refine Kd.R_append_rows k93 (w0 := w) w.heap.size rfl (.tmp 45) (.tmp 48) 30 93 (.agg #[(.int .i64 0), (.int .i64 0), (.string ⟨#[]⟩)]) 32 rfl Tryz.underlying30 info93 rfl (by decide) (by omega) v112 y111 y114 _ _ _ (fun k_ => some k_ ≠ (.slice (some ad101) x3_1.length co3 : Value).ownBlock) (fun _ => False) rfl rfl ?aO ?aR (fun _ _ h => h) (fun _ h => h.elim) ?aF ?aB ?aS ?aL ?_; (case aR => repeat (first | exact (by repeat (first | (with_reducible exact HR117.out) | (with_reducible refine Kd.C_alloc ?_ _) | (with_reducible refine Kd.C_drewN ?_ _) | (with_reducible refine Kd.C_drew ?_) | exact HR117.out)) | (with_reducible refine Kd.C_alloc ?_ _) | (with_reducible refine Kd.C_drewN ?_ _) | (with_reducible refine Kd.C_drew ?_))); (case aB => exact (by repeat (first | (with_reducible first | exact HB.out | apply below_alloc | apply pw_below_drewN | apply below_drew1) | exact HB.out))); (case aF => exact (fun k_ hk => Kd.fresh' (Kd.R_lt (by (with_reducible repeat (first | apply Kd.R_alloc | apply Kd.R_drewN | apply Kd.R_drew)); exact HO_3.out)) k_ hk)); (case aO => exact (by (with_reducible repeat (first | apply Kd.R_alloc | apply Kd.R_drewN | apply Kd.R_drew)); exact HO113.out)); (case aS => exact (below_size (by repeat (first | (with_reducible first | exact HB.out | apply below_alloc | apply pw_below_drewN | apply below_drew1) | exact HB.out)))); (case aL => have := LMc17.out; omega); intro v119 w22 ho hb hg hat; rw [← Ny118.out] at ho; have n0_ := Aside0.mk (Kd.R_after (ok := (fun _ => True)) (by (with_reducible repeat (first | apply Kd.R_alloc | apply Kd.R_drewN | apply Kd.R_drew)); exact HO_3.out) hg hat); have n1_ := Aside0.mk (hb); have n2_ := Aside0.mk ((show Kd.C k93 w22 (some ad101) y103.length y103 from by rw [Ny103.out]; exact Kd.C_take (m := (x5_2 : Int).toNat) ((Kd.R_reads' (Kd.R_after (ok := (fun _ => True)) (by (with_reducible repeat (first | apply Kd.R_alloc | apply Kd.R_drewN | apply Kd.R_drew)); exact HO_3.out) hg hat)).2.2) KL18.out)); have n3_ := Aside0.mk ((show Kd.C k93 w22 A21 y114.length y114 from by rw [Ny114.out, KA21.out]; exact Kd.C_drop (m := (x5_2 : Int).toNat) (c := co3) ((Kd.R_reads' (Kd.R_after (ok := (fun _ => True)) (by (with_reducible repeat (first | apply Kd.R_alloc | apply Kd.R_drewN | apply Kd.R_drew)); exact HO_3.out) hg hat)).2.2) KL21.out ((Kd.R_reads' (Kd.R_after (ok := (fun _ => True)) (by (with_reducible repeat (first | apply Kd.R_alloc | apply Kd.R_drewN | apply Kd.R_drew)); exact HO_3.out) hg hat)).2.1))); have n4_ := Aside0.mk (ho); clear HO_3; clear HB; clear HR106; clear HR117; clear HO113; have HO_3 := n0_; have HB := n1_; have HR106 := n2_; have HR117 := n3_; have HO120 := n4_; clear n0_ n1_ n2_ n3_ n4_; clear ho hb hg hat)); try go_wp2_with (first | ((with_reducible refine gate_builtin (b := .append) (xs := #[.tmp 33, .tmp 36]) rfl ?_); at_builtin; refine Kd.R_append_rows k93 (w0 := w) w.heap.size rfl (.tmp 33) (.tmp 36) 30 93 (.agg #[(.int .i64 0), (.int .i64 0), (.string ⟨#[]⟩)]) 32 rfl Tryz.underlying30 info93 rfl (by decide) (by omega) (.slice none 0 0) ([] : List (S93)) y103 _ _ _ (fun k_ => some k_ ≠ (.slice (some ad101) x3_1.length co3 : Value).ownBlock) (fun _ => False) rfl rfl ?aO ?aR (fun _ _ h => h) (fun _ h => h.elim) ?aF ?aB ?aS ?aL ?_; (case aR => repeat (first | exact (by repeat (first | (with_reducible exact HR106.out) | (with_reducible refine Kd.C_alloc ?_ _) | (with_reducible refine Kd.C_drewN ?_ _) | (with_reducible refine Kd.C_drew ?_) | exact HR106.out)) | (with_reducible refine Kd.C_alloc ?_ _) | (with_reducible refine Kd.C_drewN ?_ _) | (with_reducible refine Kd.C_drew ?_))); (case aB => exact (by repeat (first | (with_reducible first | exact HB.out | apply below_alloc | apply pw_below_drewN | apply below_drew1) | exact HB.out))); (case aF => exact (fun k_ hk => Kd.fresh' (Kd.R_lt (by (with_reducible repeat (first | apply Kd.R_alloc | apply Kd.R_drewN | apply Kd.R_drew)); exact HO_3.out)) k_ hk)); (case aO => exact ((Kd.R_nil _ _ _ _ (fun k_ => some k_ ≠ (.slice (some ad101) x3_1.length co3 : Value).ownBlock)))); (case aS => exact (below_size (by repeat (first | (with_reducible first | exact HB.out | apply below_alloc | apply pw_below_drewN | apply below_drew1) | exact HB.out)))); (case aL => have := LMc13.out; omega); intro v108 w19 ho hb hg hat; rw [← Ny107.out] at ho; have n0_ := Aside0.mk (Kd.R_after (Kd.R_apart_nil (by (with_reducible repeat (first | apply Kd.R_alloc | apply Kd.R_drewN | apply Kd.R_drew)); exact HO_3.out)) hg hat); have n1_ := Aside0.mk (hb); have n2_ := Aside0.mk ((show Kd.C k93 w19 (some ad101) y103.length y103 from by rw [Ny103.out]; exact Kd.C_take (m := (x5_2 : Int).toNat) ((Kd.R_reads' (Kd.R_after (Kd.R_apart_nil (by (with_reducible repeat (first | apply Kd.R_alloc | apply Kd.R_drewN | apply Kd.R_drew)); exact HO_3.out)) hg hat)).2.2) KL18.out)); have n3_ := Aside0.mk (ho); clear HO_3; clear HB; clear HR106; have HO_3 := n0_; have HB := n1_; have HR106 := n2_; have HO109 := n3_; clear n0_ n1_ n2_ n3_; clear ho hb hg hat; have p110 : 0 ≤ (x4_1 : Int) := of_decide_eq_true (by first | (with_reducible assumption) | assumption); have q110 : x4_1 < (l0.length : Int) := of_decide_eq_true (by first | (with_reducible assumption) | assumption); obtain ⟨ad110, e110, hx110_0, hx110_1, hx110_2⟩ := at_T93 HR0.out x4_1 p110 q110; obtain rfl : ad102 = ad110 := (by injection e110); replace hx110_0 := (HB.out.cell (World.block_lt_of_cell? w _ hx110_0)).trans hx110_0; replace hx110_1 := (HB.out.cell (World.block_lt_of_cell? w _ hx110_1)).trans hx110_1; replace hx110_2 := (HB.out.cell (World.block_lt_of_cell? w _ hx110_2)).trans hx110_2; replace p110 := eq_true p110; replace q110 := eq_true q110) | ((with_reducible refine gate_builtin (b := .append) (xs := #[.tmp 38, .tmp 43]) rfl ?_); at_builtin; refine Kd.R_append k93 (w0 := w) w.heap.size rfl (.tmp 38) (.tmp 43) 30 93 (.agg #[(.int .i64 0), (.int .i64 0), (.string ⟨#[]⟩)]) 32 rfl Tryz.underlying30 info93 rfl (by decide) (by omega) v108 y107 (⟨(rd_T93 l0 x4_1).f0, (rd_T93 l0 x4_1).f1, (rd_T93 l0 x4_1).f2⟩ : S93) [.int .i64 ((rd_T93 l0 x4_1).f0), .int .i64 ((rd_T93 l0 x4_1).f1), .string ((rd_T93 l0 x4_1).f2)] (fun k_ => some k_ ≠ (.slice (some ad101) x3_1.length co3 : Value).ownBlock) (fun _ => False) rfl rfl ?aP (fun _ hk => hk.elim) ?aF ?aO ?aB ?aS ?aL ?_; (case aP => exact k93_mkM _ _ _ (⟨(rd_T93 l0 x4_1).f0, (rd_T93 l0 x4_1).f1, (rd_T93 l0 x4_1).f2⟩ : S93)); (case aB => exact (by repeat (first | (with_reducible first | exact HB.out | apply below_alloc | apply pw_below_drewN | apply below_drew1) | exact HB.out))); (case aF => exact (fun k_ hk => Kd.fresh' (Kd.R_lt (by (with_reducible repeat (first | apply Kd.R_alloc | apply Kd.R_drewN | apply Kd.R_drew)); exact HO_3.out)) k_ hk)); (case aO => exact (by (with_reducible repeat (first | apply Kd.R_alloc | apply Kd.R_drewN | apply Kd.R_drew)); exact HO109.out)); (case aS => exact (below_size (by repeat (first | (with_reducible first | exact HB.out | apply below_alloc | apply pw_below_drewN | apply below_drew1) | exact HB.out)))); (case aL => have := LMc14.out; omega); intro v112 w20 ho hb hg hat; rw [← Ny111.out] at ho; have n0_ := Aside0.mk (Kd.R_after (ok := (fun _ => True)) (by (with_reducible repeat (first | apply Kd.R_alloc | apply Kd.R_drewN | apply Kd.R_drew)); exact HO_3.out) hg hat); have n1_ := Aside0.mk (hb); have n2_ := Aside0.mk ((show Kd.C k93 w20 (some ad101) y103.length y103 from by rw [Ny103.out]; exact Kd.C_take (m := (x5_2 : Int).toNat) ((Kd.R_reads' (Kd.R_after (ok := (fun _ => True)) (by (with_reducible repeat (first | apply Kd.R_alloc | apply Kd.R_drewN | apply Kd.R_drew)); exact HO_3.out) hg hat)).2.2) KL18.out)); have n3_ := Aside0.mk (ho); clear HO_3; clear HB; clear HR106; clear HO109; have HO_3 := n0_; have HB := n1_; have HR106 := n2_; have HO113 := n3_; clear n0_ n1_ n2_ n3_; clear ho hb hg hat; have q21 : (x5_2 : Int) ≤ ((x3_1.length : Int) : Int) := of_decide_eq_true (by first | (with_reducible assumption) | assumption); obtain ⟨i021, hi021, _, hsz21, _⟩ := info_parts info93; have hroom21 : x3_1.length ≤ co3 := (Kd.R_reads' HO_3.out).2.1; have hC21 : Kd.C k93 _ (some ad101) x3_1.length x3_1 := (Kd.R_reads' HO_3.out).2.2; have q021 : (0 : Int) ≤ (x5_2 : Int) := of_decide_eq_true (by first | (with_reducible assumption) | assumption); have hcut21 := cut_from (P := Tryz.prog) 30 93 .i64 Tryz.underlying30 hi021 3 hsz21 (some ad101) x3_1.length co3 x5_2 q021 q21; have hr21 := Kd.C_drop (m := (x5_2 : Int).toNat) (c := co3) hC21 (by omega) hroom21; obtain ⟨A21, hA21⟩ : ∃ A1, A1 = (if co3 = (x5_2 : Int).toNat then (some ad101) else ((some ad101) : Option Addr).map (·.add ((x5_2 : Int).toNat * 3))) := ⟨_, rfl⟩; obtain ⟨c21, hc21⟩ : ∃ c1, c1 = co3 - (x5_2 : Int).toNat := ⟨_, rfl⟩; have hy21 : y114.length = x3_1.length - (x5_2 : Int).toNat := (by rw [Ny114.out, List.length_drop] <;> omega); rw [show (x3_1).drop (x5_2 : Int).toNat = y114 from Ny114.out.symm] at hr21; replace hr21 : Kd.C k93 _ A21 y114.length y114 := (by rw [hA21]; exact hr21); rw [← hy21, ← hA21, ← hc21] at hcut21; have HR117 := Aside0.mk hr21; have HC117 := Aside0.mk (show y114.length ≤ c21 from by rw [hy21, hc21]; exact Nat.sub_le_sub_right hroom21 _); clear hr21 hC21 hroom21 hi021 hsz21 hc21; have KY21 := Aside0.mk hy21; have KA21 := Aside0.mk hA21; clear hy21 hA21; have KL21 := Aside0.mk (show (x5_2 : Int).toNat ≤ x3_1.length from by omega); replace q21 := eq_true q21) | ((with_reducible refine gate_builtin (b := .append) (xs := #[.tmp 45, .tmp 48]) rfl ?_); at_builtin; refine Kd.R_append_rows k93 (w0 := w) w.heap.size rfl (.tmp 45) (.tmp 48) 30 93 (.agg #[(.int .i64 0), (.int .i64 0), (.string ⟨#[]⟩)]) 32 rfl Tryz.underlying30 info93 rfl (by decide) (by omega) v112 y111 y114 _ _ _ (fun k_ => some k_ ≠ (.slice (some ad101) x3_1.length co3 : Value).ownBlock) (fun _ => False) rfl rfl ?aO ?aR (fun _ _ h => h) (fun _ h => h.elim) ?aF ?aB ?aS ?aL ?_; (case aR => repeat (first | exact (by repeat (first | (with_reducible exact HR117.out) | (with_reducible refine Kd.C_alloc ?_ _) | (with_reducible refine Kd.C_drewN ?_ _) | (with_reducible refine Kd.C_drew ?_) | exact HR117.out)) | (with_reducible refine Kd.C_alloc ?_ _) | (with_reducible refine Kd.C_drewN ?_ _) | (with_reducible refine Kd.C_drew ?_))); (case aB => exact (by repeat (first | (with_reducible first | exact HB.out | apply below_alloc | apply pw_below_drewN | apply below_drew1) | exact HB.out))); (case aF => exact (fun k_ hk => Kd.fresh' (Kd.R_lt (by (with_reducible repeat (first | apply Kd.R_alloc | apply Kd.R_drewN | apply Kd.R_drew)); exact HO_3.out)) k_ hk)); (case aO => exact (by (with_reducible repeat (first | apply Kd.R_alloc | apply Kd.R_drewN | apply Kd.R_drew)); exact HO113.out)); (case aS => exact (below_size (by repeat (first | (with_reducible first | exact HB.out | apply below_alloc | apply pw_below_drewN | apply below_drew1) | exact HB.out)))); (case aL => have := LMc17.out; omega); intro v119 w22 ho hb hg hat; rw [← Ny118.out] at ho; have n0_ := Aside0.mk (Kd.R_after (ok := (fun _ => True)) (by (with_reducible repeat (first | apply Kd.R_alloc | apply Kd.R_drewN | apply Kd.R_drew)); exact HO_3.out) hg hat); have n1_ := Aside0.mk (hb); have n2_ := Aside0.mk ((show Kd.C k93 w22 (some ad101) y103.length y103 from by rw [Ny103.out]; exact Kd.C_take (m := (x5_2 : Int).toNat) ((Kd.R_reads' (Kd.R_after (ok := (fun _ => True)) (by (with_reducible repeat (first | apply Kd.R_alloc | apply Kd.R_drewN | apply Kd.R_drew)); exact HO_3.out) hg hat)).2.2) KL18.out)); have n3_ := Aside0.mk ((show Kd.C k93 w22 A21 y114.length y114 from by rw [Ny114.out, KA21.out]; exact Kd.C_drop (m := (x5_2 : Int).toNat) (c := co3) ((Kd.R_reads' (Kd.R_after (ok := (fun _ => True)) (by (with_reducible repeat (first | apply Kd.R_alloc | apply Kd.R_drewN | apply Kd.R_drew)); exact HO_3.out) hg hat)).2.2) KL21.out ((Kd.R_reads' (Kd.R_after (ok := (fun _ => True)) (by (with_reducible repeat (first | apply Kd.R_alloc | apply Kd.R_drewN | apply Kd.R_drew)); exact HO_3.out) hg hat)).2.1))); have n4_ := Aside0.mk (ho); clear HO_3; clear HB; clear HR106; clear HR117; clear HO113; have HO_3 := n0_; have HB := n1_; have HR106 := n2_; have HR117 := n3_; have HO120 := n4_; clear n0_ n1_ n2_ n3_ n4_; clear ho hb hg hat)))
                                  go_roundg k2
                                  case measure => have := HK1.out; have := HK2.out; omega
                                  case rel => exact ⟨(y118), (wrap64 (x4_1 + 1)), (by first | rfl | (simp; done) | (simp [*]; done)), H', ⟨by have := HK1.out; have := HK2.out; omega⟩, ⟨by (with_reducible repeat (first | apply Kd.R_alloc | apply Kd.R_drewN | apply Kd.R_drew)); exact Kd.R_mono HO120.out (fun _ hk => trivial)⟩, ⟨by repeat (first | (with_reducible first | exact HB.out | apply below_alloc | apply pw_below_drewN | apply below_drew1) | exact HB.out)⟩⟩
                                · rw [if_neg c17] at H
                                  exact absurd H (by simp)
                              · rw [if_neg c14] at H
                                exact absurd H (by simp)
                            · rw [if_neg c13] at H
                              exact absurd H (by simp)
                          · rw [if_neg c12] at H
                            exact absurd H (by simp)
                        · rw [if_neg c11] at H
                          exact absurd H (by simp)
                    · rw [if_neg c9] at H
                      exact absurd H (by simp)
                  · rw [if_neg c8] at H
                    exact absurd H (by simp)
                · rw [if_neg c7] at H
                  exact absurd H (by simp)
              · rw [if_neg c6] at H
                exact absurd H (by simp)
            · rw [if_neg c4] at H
              have c4b0 : decide (0 < x5_2) = false := decide_eq_false c4
              clear c4
              by_cases c23 : 0 ≤ x5_2
              · rw [if_pos c23] at H
                have c23b0 := eq_true c23
                have c23b1 : decide (0 ≤ x5_2) = true := decide_eq_true c23
                clear c23
                by_cases c24 : x5_2 ≤ (x3_1.length : Int)
                · rw [if_pos c24] at H
                  have c24b0 := eq_true c24
                  have c24b1 : decide (x5_2 ≤ (x3_1.length : Int)) = true := decide_eq_true c24
                  clear c24
                  obtain ⟨y121, hy121⟩ : ∃ y_ : List (S93), y_ = (x3_1.take (x5_2 : Int).toNat) := ⟨_, rfl⟩
                  replace H : (if ([] : List (S93)).length + y121.length < 4398046511104 then ((some (([] : List (S93)) ++ y121 : List (S93))).bind fun y125 => (if 0 ≤ x4_1 then (if x4_1 < (l0.length : Int) then (if y125.length < 4398046511104 then ((some (y125 ++ [(⟨(rd_T93 l0 x4_1).f0, (rd_T93 l0 x4_1).f1, (rd_T93 l0 x4_1).f2⟩ : S93)] : List (S93))).bind fun y129 => ((some (x3_1.drop (x5_2 : Int).toNat : List (S93))).bind fun y132 => (if y129.length + y132.length < 4398046511104 then (paronymref03_Sorted.l0 k2 l0 (y129 ++ y132) (wrap64 (x4_1 + 1))) else (none)))) else (none)) else (none)) else (none))) else (none)) = some r := by first | (rw [hy121]; with_reducible exact H) | (have H2_ := (Option.bind_some _ _).symm.trans H; rw [hy121]; with_reducible exact H2_) | (have H2_ := (Option.bind_some _ _).symm.trans H; with_reducible exact H2_) | with_reducible exact H | (rw [hy121]; exact H) | exact H
                  have Ny121 := Aside0.mk hy121
                  clear hy121
                  by_cases c25 : ([] : List (S93)).length + y121.length < 4398046511104
                  · rw [if_pos c25] at H
                    have LMc25 := Aside0.mk c25
                    clear c25
                    obtain ⟨y125, hy125⟩ : ∃ y_ : List (S93), y_ = (([] : List (S93)) ++ y121) := ⟨_, rfl⟩
                    replace H : (if 0 ≤ x4_1 then (if x4_1 < (l0.length : Int) then (if y125.length < 4398046511104 then ((some (y125 ++ [(⟨(rd_T93 l0 x4_1).f0, (rd_T93 l0 x4_1).f1, (rd_T93 l0 x4_1).f2⟩ : S93)] : List (S93))).bind fun y129 => ((some (x3_1.drop (x5_2 : Int).toNat : List (S93))).bind fun y132 => (if y129.length + y132.length < 4398046511104 then (paronymref03_Sorted.l0 k2 l0 (y129 ++ y132) (wrap64 (x4_1 + 1))) else (none)))) else (none)) else (none)) else (none)) = some r := by first | (rw [hy125]; with_reducible exact H) | (have H2_ := (Option.bind_some _ _).symm.trans H; rw [hy125]; with_reducible exact H2_) | (have H2_ := (Option.bind_some _ _).symm.trans H; with_reducible exact H2_) | with_reducible exact H | (rw [hy125]; exact H) | exact H
                    have Ny125 := Aside0.mk hy125
                    clear hy125
                    by_cases c26 : 0 ≤ x4_1
                    · rw [if_pos c26] at H
                      have c26b0 : decide (0 ≤ x4_1) = true := decide_eq_true c26
                      clear c26
                      by_cases c27 : x4_1 < (l0.length : Int)
                      · rw [if_pos c27] at H
                        have c27b0 : decide (x4_1 < (l0.length : Int)) = true := decide_eq_true c27
                        clear c27
                        by_cases c28 : y125.length < 4398046511104
                        · rw [if_pos c28] at H
                          have LMc28 := Aside0.mk c28
                          clear c28
                          obtain ⟨y129, hy129⟩ : ∃ y_ : List (S93), y_ = (y125 ++ [(⟨(rd_T93 l0 x4_1).f0, (rd_T93 l0 x4_1).f1, (rd_T93 l0 x4_1).f2⟩ : S93)]) := ⟨_, rfl⟩
                          replace H : ((some (x3_1.drop (x5_2 : Int).toNat : List (S93))).bind fun y132 => (if y129.length + y132.length < 4398046511104 then (paronymref03_Sorted.l0 k2 l0 (y129 ++ y132) (wrap64 (x4_1 + 1))) else (none))) = some r := by first | (rw [hy129]; with_reducible exact H) | (have H2_ := (Option.bind_some _ _).symm.trans H; rw [hy129]; with_reducible exact H2_) | (have H2_ := (Option.bind_some _ _).symm.trans H; with_reducible exact H2_) | with_reducible exact H | (rw [hy129]; exact H) | exact H
                          have Ny129 := Aside0.mk hy129
                          clear hy129
                          have c29b0 := eq_true (of_decide_eq_true (by first | (with_reducible assumption) | assumption) : 0 ≤ x5_2)
                          have c30b0 := eq_true (of_decide_eq_true (by first | (with_reducible assumption) | assumption) : x5_2 ≤ (x3_1.length : Int))
                          obtain ⟨y132, hy132⟩ : ∃ y_ : List (S93), y_ = (x3_1.drop (x5_2 : Int).toNat) := ⟨_, rfl⟩
                          replace H : (if y129.length + y132.length < 4398046511104 then (paronymref03_Sorted.l0 k2 l0 (y129 ++ y132) (wrap64 (x4_1 + 1))) else (none)) = some r := by first | (rw [hy132]; with_reducible exact H) | (have H2_ := (Option.bind_some _ _).symm.trans H; rw [hy132]; with_reducible exact H2_) | (have H2_ := (Option.bind_some _ _).symm.trans H; with_reducible exact H2_) | with_reducible exact H | (rw [hy132]; exact H) | exact H
                          have Ny132 := Aside0.mk hy132
                          clear hy132
                          by_cases c31 : y129.length + y132.length < 4398046511104
                          · rw [if_pos c31] at H
                            have LMc31 := Aside0.mk c31
                            clear c31
                            obtain ⟨y136, hy136⟩ : ∃ y_ : List (S93), y_ = (y129 ++ y132) := ⟨_, rfl⟩
                            replace H : (paronymref03_Sorted.l0 k2 l0 y136 (wrap64 (x4_1 + 1))) = some r := by first | (rw [hy136]; with_reducible exact H) | (have H2_ := (Option.bind_some _ _).symm.trans H; rw [hy136]; with_reducible exact H2_) | (have H2_ := (Option.bind_some _ _).symm.trans H; with_reducible exact H2_) | with_reducible exact H | (rw [hy136]; exact H) | exact H
                            have Ny136 := Aside0.mk hy136
                            clear hy136
                            have H' := Aside0.mk H
                            clear H
                            have q32 : (x5_2 : Int) ≤ ((x3_1.length : Int) : Int) := of_decide_eq_true (by first | (with_reducible assumption) | assumption)
                            obtain ⟨i032, hi032, _, hsz32, _⟩ := info_parts info93
                            have hroom32 : x3_1.length ≤ co3 := (Kd.R_reads' HO_3.out).2.1
                            have hC32 : Kd.C k93 _ Ao3 x3_1.length x3_1 := (Kd.R_reads' HO_3.out).2.2
                            have hcut32 := cut_to (P := Tryz.prog) 30 93 .i64 Tryz.underlying30 hi032 Ao3 x3_1.length co3 x5_2 (of_decide_eq_true (by first | (with_reducible assumption) | assumption)) q32 hroom32
                            have hr32 := Kd.C_take (m := (x5_2 : Int).toNat) hC32 (by omega)
                            have hy32 : y121.length = (x5_2 : Int).toNat := (by rw [Ny121.out, List.length_take]; omega)
                            rw [← Ny121.out] at hr32
                            rw [← hy32] at hcut32
                            have HR124 := Aside0.mk hr32
                            have HC124 := Aside0.mk (show y121.length ≤ co3 from by omega)
                            clear hr32 hC32 hroom32 hi032 hsz32
                            have KY32 := Aside0.mk hy32
                            clear hy32
                            have KL32 := Aside0.mk (show (x5_2 : Int).toNat ≤ x3_1.length from by omega)
                            replace q32 := eq_true q32
                            go_wp2_with (first | ((with_reducible refine gate_builtin (b := .append) (xs := #[.tmp 33, .tmp 36]) rfl ?_); at_builtin; refine Kd.R_append_rows k93 (w0 := w) w.heap.size rfl (.tmp 33) (.tmp 36) 30 93 (.agg #[(.int .i64 0), (.int .i64 0), (.string ⟨#[]⟩)]) 32 rfl Tryz.underlying30 info93 rfl (by decide) (by omega) (.slice none 0 0) ([] : List (S93)) y121 _ _ _ (fun k_ => some k_ ≠ (.slice Ao3 x3_1.length co3 : Value).ownBlock) (fun _ => False) rfl rfl ?aO ?aR (fun _ _ h => h) (fun _ h => h.elim) ?aF ?aB ?aS ?aL ?_; (case aR => repeat (first | exact (by repeat (first | (with_reducible exact HR124.out) | (with_reducible refine Kd.C_alloc ?_ _) | (with_reducible refine Kd.C_drewN ?_ _) | (with_reducible refine Kd.C_drew ?_) | exact HR124.out)) | (with_reducible refine Kd.C_alloc ?_ _) | (with_reducible refine Kd.C_drewN ?_ _) | (with_reducible refine Kd.C_drew ?_))); (case aB => exact (by repeat (first | (with_reducible first | exact HB.out | apply below_alloc | apply pw_below_drewN | apply below_drew1) | exact HB.out))); (case aF => exact (fun k_ hk => Kd.fresh' (Kd.R_lt (by (with_reducible repeat (first | apply Kd.R_alloc | apply Kd.R_drewN | apply Kd.R_drew)); exact HO_3.out)) k_ hk)); (case aO => exact ((Kd.R_nil _ _ _ _ (fun k_ => some k_ ≠ (.slice Ao3 x3_1.length co3 : Value).ownBlock)))); (case aS => exact (below_size (by repeat (first | (with_reducible first | exact HB.out | apply below_alloc | apply pw_below_drewN | apply below_drew1) | exact HB.out)))); (case aL => have := LMc25.out; omega); intro v126 w33 ho hb hg hat; rw [← Ny125.out] at ho; have n0_ := Aside0.mk (Kd.R_after (Kd.R_apart_nil (by (with_reducible repeat (first | apply Kd.R_alloc | apply Kd.R_drewN | apply Kd.R_drew)); exact HO_3.out)) hg hat); have n1_ := Aside0.mk (hb); have n2_ := Aside0.mk ((show Kd.C k93 w33 Ao3 y121.length y121 from by rw [Ny121.out]; exact Kd.C_take (m := (x5_2 : Int).toNat) ((Kd.R_reads' (Kd.R_after (Kd.R_apart_nil (by (with_reducible repeat (first | apply Kd.R_alloc | apply Kd.R_drewN | apply Kd.R_drew)); exact HO_3.out)) hg hat)).2.2) KL32.out)); have n3_ := Aside0.mk (ho); clear HO_3; clear HB; clear HR124; have HO_3 := n0_; have HB := n1_; have HR124 := n2_; have HO127 := n3_; clear n0_ n1_ n2_ n3_; clear ho hb hg hat; have p128 : 0 ≤ (x4_1 : Int) := of_decide_eq_true (by first | (with_reducible assumption) | assumption); have q128 : x4_1 < (l0.length : Int) := of_decide_eq_true (by first | (with_reducible assumption) | assumption); obtain ⟨ad128, e128, hx128_0, hx128_1, hx128_2⟩ := at_T93 HR0.out x4_1 p128 q128; cases e128; replace hx128_0 := (HB.out.cell (World.block_lt_of_cell? w _ hx128_0)).trans hx128_0; replace hx128_1 := (HB.out.cell (World.block_lt_of_cell? w _ hx128_1)).trans hx128_1; replace hx128_2 := (HB.out.cell (World.block_lt_of_cell? w _ hx128_2)).trans hx128_2; replace p128 := eq_true p128; replace q128 := eq_true q128) | ((with_reducible refine gate_builtin (b := .append) (xs := #[.tmp 38, .tmp 43]) rfl ?_); at_builtin; refine Kd.R_append k93 (w0 := w) w.heap.size rfl (.tmp 38) (.tmp 43) 30 93 (.agg #[(.int .i64 0), (.int .i64 0), (.string ⟨#[]⟩)]) 32 rfl Tryz.underlying30 info93 rfl (by decide) (by omega) v126 y125 (⟨(rd_T93 l0 x4_1).f0, (rd_T93 l0 x4_1).f1, (rd_T93 l0 x4_1).f2⟩ : S93) [.int .i64 ((rd_T93 l0 x4_1).f0), .int .i64 ((rd_T93 l0 x4_1).f1), .string ((rd_T93 l0 x4_1).f2)] (fun k_ => some k_ ≠ (.slice Ao3 x3_1.length co3 : Value).ownBlock) (fun _ => False) rfl rfl ?aP (fun _ hk => hk.elim) ?aF ?aO ?aB ?aS ?aL ?_; (case aP => exact k93_mkM _ _ _ (⟨(rd_T93 l0 x4_1).f0, (rd_T93 l0 x4_1).f1, (rd_T93 l0 x4_1).f2⟩ : S93)); (case aB => exact (by repeat (first | (with_reducible first | exact HB.out | apply below_alloc | apply pw_below_drewN | apply below_drew1) | exact HB.out))); (case aF => exact (fun k_ hk => Kd.fresh' (Kd.R_lt (by (with_reducible repeat (first | apply Kd.R_alloc | apply Kd.R_drewN | apply Kd.R_drew)); exact HO_3.out)) k_ hk)); (case aO => exact (by (with_reducible repeat (first | apply Kd.R_alloc | apply Kd.R_drewN | apply Kd.R_drew)); exact HO127.out)); (case aS => exact (below_size (by repeat (first | (with_reducible first | exact HB.out | apply below_alloc | apply pw_below_drewN | apply below_drew1) | exact HB.out)))); (case aL => have := LMc28.out; omega); intro v130 w34 ho hb hg hat; rw [← Ny129.out] at ho; have n0_ := Aside0.mk (Kd.R_after (ok := (fun _ => True)) (by (with_reducible repeat (first | apply Kd.R_alloc | apply Kd.R_drewN | apply Kd.R_drew)); exact HO_3.out) hg hat); have n1_ := Aside0.mk (hb); have n2_ := Aside0.mk ((show Kd.C k93 w34 Ao3 y121.length y121 from by rw [Ny121.out]; exact Kd.C_take (m := (x5_2 : Int).toNat) ((Kd.R_reads' (Kd.R_after (ok := (fun _ => True)) (by (with_reducible repeat (first | apply Kd.R_alloc | apply Kd.R_drewN | apply Kd.R_drew)); exact HO_3.out) hg hat)).2.2) KL32.out)); have n3_ := Aside0.mk (ho); clear HO_3; clear HB; clear HR124; clear HO127; have HO_3 := n0_; have HB := n1_; have HR124 := n2_; have HO131 := n3_; clear n0_ n1_ n2_ n3_; clear ho hb hg hat; have q35 : (x5_2 : Int) ≤ ((x3_1.length : Int) : Int) := of_decide_eq_true (by first | (with_reducible assumption) | assumption); obtain ⟨i035, hi035, _, hsz35, _⟩ := info_parts info93; have hroom35 : x3_1.length ≤ co3 := (Kd.R_reads' HO_3.out).2.1; have hC35 : Kd.C k93 _ Ao3 x3_1.length x3_1 := (Kd.R_reads' HO_3.out).2.2; have q035 : (0 : Int) ≤ (x5_2 : Int) := of_decide_eq_true (by first | (with_reducible assumption) | assumption); have hcut35 := cut_from (P := Tryz.prog) 30 93 .i64 Tryz.underlying30 hi035 3 hsz35 Ao3 x3_1.length co3 x5_2 q035 q35; have hr35 := Kd.C_drop (m := (x5_2 : Int).toNat) (c := co3) hC35 (by omega) hroom35; obtain ⟨A35, hA35⟩ : ∃ A1, A1 = (if co3 = (x5_2 : Int).toNat then Ao3 else (Ao3 : Option Addr).map (·.add ((x5_2 : Int).toNat * 3))) := ⟨_, rfl⟩; obtain ⟨c35, hc35⟩ : ∃ c1, c1 = co3 - (x5_2 : Int).toNat := ⟨_, rfl⟩; have hy35 : y132.length = x3_1.length - (x5_2 : Int).toNat := (by rw [Ny132.out, List.length_drop] <;> omega); rw [show (x3_1).drop (x5_2 : Int).toNat = y132 from Ny132.out.symm] at hr35; replace hr35 : Kd.C k93 _ A35 y132.length y132 := (by rw [hA35]; exact hr35); rw [← hy35, ← hA35, ← hc35] at hcut35; have HR135 := Aside0.mk hr35; have HC135 := Aside0.mk (show y132.length ≤ c35 from by rw [hy35, hc35]; exact Nat.sub_le_sub_right hroom35 _); clear hr35 hC35 hroom35 hi035 hsz35 hc35; have KY35 := Aside0.mk hy35; have KA35 := Aside0.mk hA35; clear hy35 hA35; have KL35 := Aside0.mk (show (x5_2 : Int).toNat ≤ x3_1.length from by omega); replace q35 := eq_true q35) | ((with_reducible refine gate_builtin (b := .append) (xs := #[.tmp 45, .tmp 48]) rfl ?_); at_builtin; refine Kd.R_append_rows k93 (w0 := w) w.heap.size rfl (.tmp 45) (.tmp 48) 30 93 (.agg #[(.int .i64 0), (.int .i64 0), (.string ⟨#[]⟩)]) 32 rfl Tryz.underlying30 info93 rfl (by decide) (by omega) v130 y129 y132 _ _ _ (fun k_ => some k_ ≠ (.slice Ao3 x3_1.length co3 : Value).ownBlock) (fun _ => False) rfl rfl ?aO ?aR (fun _ _ h => h) (fun _ h => h.elim) ?aF ?aB ?aS ?aL ?_; (case aR => repeat (first | exact (by repeat (first | (with_reducible exact HR135.out) | (with_reducible refine Kd.C_alloc ?_ _) | (with_reducible refine Kd.C_drewN ?_ _) | (with_reducible refine Kd.C_drew ?_) | exact HR135.out)) | (with_reducible refine Kd.C_alloc ?_ _) | (with_reducible refine Kd.C_drewN ?_ _) | (with_reducible refine Kd.C_drew ?_))); (case aB => exact (by repeat (first | (with_reducible first | exact HB.out | apply below_alloc | apply pw_below_drewN | apply below_drew1) | exact HB.out))); (case aF => exact (fun k_ hk => Kd.fresh' (Kd.R_lt (by (with_reducible repeat (first | apply Kd.R_alloc | apply Kd.R_drewN | apply Kd.R_drew)); exact HO_3.out)) k_ hk)); (case aO => exact (by (with_reducible repeat (first | apply Kd.R_alloc | apply Kd.R_drewN | apply Kd.R_drew)); exact HO131.out)); (case aS => exact (below_size (by repeat (first | (with_reducible first | exact HB.out | apply below_alloc | apply pw_below_drewN | apply below_drew1) | exact HB.out)))); (case aL => have := LMc31.out; omega); intro v137 w36 ho hb hg hat; rw [← Ny136.out] at ho; have n0_ := Aside0.mk (Kd.R_after (ok := (fun _ => True)) (by (with_reducible repeat (first | apply Kd.R_alloc | apply Kd.R_drewN | apply Kd.R_drew)); exact HO_3.out) hg hat); have n1_ := Aside0.mk (hb); have n2_ := Aside0.mk ((show Kd.C k93 w36 Ao3 y121.length y121 from by rw [Ny121.out]; exact Kd.C_take (m := (x5_2 : Int).toNat) ((Kd.R_reads' (Kd.R_after (ok := (fun _ => True)) (by (with_reducible repeat (first | apply Kd.R_alloc | apply Kd.R_drewN | apply Kd.R_drew)); exact HO_3.out) hg hat)).2.2) KL32.out)); have n3_ := Aside0.mk ((show Kd.C k93 w36 A35 y132.length y132 from by rw [Ny132.out, KA35.out]; exact Kd.C_drop (m := (x5_2 : Int).toNat) (c := co3) ((Kd.R_reads' (Kd.R_after (ok := (fun _ => True)) (by (with_reducible repeat (first | apply Kd.R_alloc | apply Kd.R_drewN | apply Kd.R_drew)); exact HO_3.out) hg hat)).2.2) KL35.out ((Kd.R_reads' (Kd.R_after (ok := (fun _ => True)) (by (with_reducible repeat (first | apply Kd.R_alloc | apply Kd.R_drewN | apply Kd.R_drew)); exact HO_3.out) hg hat)).2.1))); have n4_ := Aside0.mk (ho); clear HO_3; clear HB; clear HR124; clear HR135; clear HO131; have HO_3 := n0_; have HB := n1_; have HR124 := n2_; have HR135 := n3_; have HO138 := n4_; clear n0_ n1_ n2_ n3_ n4_; clear ho hb hg hat))
                            repeat (go_quiet (first | ((with_reducible refine gate_builtin (b := .append) (xs := #[.tmp 33, .tmp 36]) rfl ?_); at_builtin; refine Kd.R_append_rows k93 (w0 := w) w.heap.size rfl (.tmp 33) (.tmp 36) 30 93 (.agg #[(.int .i64 0), (.int .i64 0), (.string ⟨#[]⟩)]) 32 rfl Tryz.underlying30 info93 rfl (by decide) (by omega) (.slice none 0 0) ([] : List (S93)) y121 _ _ _ (fun k_ => some k_ ≠ (.slice Ao3 x3_1.length co3 : Value).ownBlock) (fun _ => False) rfl rfl ?aO ?aR (fun _ _ h => h) (fun _ h => h.elim) ?aF ?aB ?aS ?aL ?_; (case aR => repeat (first | exact (by repeat (first | (with_reducible exact HR124.out) | (with_reducible refine Kd.C_alloc ?_ _) | (with_reducible refine Kd.C_drewN ?_ _) | (with_reducible refine Kd.C_drew ?_) | exact HR124.out)) | (with_reducible refine Kd.C_alloc ?_ _) | (with_reducible refine Kd.C_drewN ?_ _) | (with_reducible refine Kd.C_drew ?_))); (case aB => exact (by repeat (first | (with_reducible first | exact HB.out | apply below_alloc | apply pw_below_drewN | apply below_drew1) | exact HB.out))); (case aF => exact (fun k_ hk => Kd.fresh' (Kd.R_lt (by (with_reducible repeat (first | apply Kd.R_alloc | apply Kd.R_drewN | apply Kd.R_drew)); exact HO_3.out)) k_ hk)); (case aO => exact ((Kd.R_nil _ _ _ _ (fun k_ => some k_ ≠ (.slice Ao3 x3_1.length co3 : Value).ownBlock)))); (case aS => exact (below_size (by repeat (first | (with_reducible first | exact HB.out | apply below_alloc | apply pw_below_drewN | apply below_drew1) | exact HB.out)))); (case aL => have := LMc25.out; omega); intro v126 w33 ho hb hg hat; rw [← Ny125.out] at ho; have n0_ := Aside0.mk (Kd.R_after (Kd.R_apart_nil (by (with_reducible repeat (first | apply Kd.R_alloc | apply Kd.R_drewN | apply Kd.R_drew)); exact HO_3.out)) hg hat); have n1_ := Aside0.mk (hb); have n2_ := Aside0.mk ((show Kd.C k93 w33 Ao3 y121.length y121 from by rw [Ny121.out]; exact Kd.C_take (m := (x5_2 : Int).toNat) ((Kd.R_reads' (Kd.R_after (Kd.R_apart_nil (by (with_reducible repeat (first | apply Kd.R_alloc | apply Kd.R_drewN | apply Kd.R_drew)); exact HO_3.out)) hg hat)).2.2) KL32.out)); have n3_ := Aside0.mk (ho); clear HO_3; clear HB; clear HR124; have HO_3 := n0_; have HB := n1_; have HR124 := n2_; have HO127 := n3_; clear n0_ n1_ n2_ n3_; clear ho hb hg hat; have p128 : 0 ≤ (x4_1 : Int) := of_decide_eq_true (by first | (with_reducible assumption) | assumption); have q128 : x4_1 < (l0.length : Int) := of_decide_eq_true (by first | (with_reducible assumption) | assumption); obtain ⟨ad128, e128, hx128_0, hx128_1, hx128_2⟩ := at_T93 HR0.out x4_1 p128 q128; cases e128; replace hx128_0 := (HB.out.cell (World.block_lt_of_cell? w _ hx128_0)).trans hx128_0; replace hx128_1 := (HB.out.cell (World.block_lt_of_cell? w _ hx128_1)).trans hx128_1; replace hx128_2 := (HB.out.cell (World.block_lt_of_cell? w _ hx128_2)).trans hx128_2; replace p128 := eq_true p128; replace q128 := eq_true q128) | ((with_reducible refine gate_builtin (b := .append) (xs := #[.tmp 38, .tmp 43]) rfl ?_); at_builtin; refine Kd.R_append k93 (w0 := w) w.heap.size rfl (.tmp 38) (.tmp 43) 30 93 (.agg #[(.int .i64 0), (.int .i64 0), (.string ⟨#[]⟩)]) 32 rfl Tryz.underlying30 info93 rfl (by decide) (by omega) v126 y125 (⟨(rd_T93 l0 x4_1).f0, (rd_T93 l0 x4_1).f1, (rd_T93 l0 x4_1).f2⟩ : S93) [.int .i64 ((rd_T93 l0 x4_1).f0), .int .i64 ((rd_T93 l0 x4_1).f1), .string ((rd_T93 l0 x4_1).f2)] (fun k_ => some k_ ≠ (.slice Ao3 x3_1.length co3 : Value).ownBlock) (fun _ => False) rfl rfl ?aP (fun _ hk => hk.elim) ?aF ?aO ?aB ?aS ?aL ?_; (case aP => exact k93_mkM _ _ _ (⟨(rd_T93 l0 x4_1).f0, (rd_T93 l0 x4_1).f1, (rd_T93 l0 x4_1).f2⟩ : S93)); (case aB => exact (by repeat (first | (with_reducible first | exact HB.out | apply below_alloc | apply pw_below_drewN | apply below_drew1) | exact HB.out))); (case aF => exact (fun k_ hk => Kd.fresh' (Kd.R_lt (by (with_reducible repeat (first | apply Kd.R_alloc | apply Kd.R_drewN | apply Kd.R_drew)); exact HO_3.out)) k_ hk)); (case aO => exact (by (with_reducible repeat (first | apply Kd.R_alloc | apply Kd.R_drewN | apply Kd.R_drew)); exact HO127.out)); (case aS => exact (below_size (by repeat (first | (with_reducible first | exact HB.out | apply below_alloc | apply pw_below_drewN | apply below_drew1) | exact HB.out)))); (case aL => have := LMc28.out; omega); intro v130 w34 ho hb hg hat; rw [← Ny129.out] at ho; have n0_ := Aside0.mk (Kd.R_after (ok := (fun _ => True)) (by (with_reducible repeat (first | apply Kd.R_alloc | apply Kd.R_drewN | apply Kd.R_drew)); exact HO_3.out) hg hat); have n1_ := Aside0.mk (hb); have n2_ := Aside0.mk ((show Kd.C k93 w34 Ao3 y121.length y121 from by rw [Ny121.out]; exact Kd.C_take (m := (x5_2 : Int).toNat) ((Kd.R_reads' (Kd.R_after (ok := (fun _ => True)) (by (with_reducible repeat (first | apply Kd.R_alloc | apply Kd.R_drewN | apply Kd.R_drew)); exact HO_3.out) hg hat)).2.2) KL32.out)); have n3_ := Aside0.mk (ho); clear HO_3; clear HB; clear HR124; clear HO127; have HO_3 := n0_; have HB := n1_; have HR124 := n2_; have HO131 := n3_; clear n0_ n1_ n2_ n3_; clear ho hb hg hat; have q35 : (x5_2 : Int) ≤ ((x3_1.length : Int) : Int) := of_decide_eq_true (by first | (with_reducible assumption) | assumption); obtain ⟨i035, hi035, _, hsz35, _⟩ := info_parts info93; have hroom35 : x3_1.length ≤ co3 := (Kd.R_reads' HO_3.out).2.1; have hC35 : Kd.C k93 _ Ao3 x3_1.length x3_1 := (Kd.R_reads' HO_3.out).2.2; have q035 : (0 : Int) ≤ (x5_2 : Int) := of_decide_eq_true (by first | (with_reducible assumption) | assumption); have hcut35 := cut_from (P := Tryz.prog) 30 93 .i64 Tryz.underlying30 hi035 3 hsz35 Ao3 x3_1.length co3 x5_2 q035 q35; have hr35 := Kd.C_drop (m := (x5_2 : Int).toNat) (c := co3) hC35 (by omega) hroom35; obtain ⟨A35, hA35⟩ : ∃ A1, A1 = (if co3 = (x5_2 : Int).toNat then Ao3 else (Ao3 : Option Addr).map (·.add ((x5_2 : Int).toNat * 3))) := ⟨_, rfl⟩; obtain ⟨c35, hc35⟩ : ∃ c1, c1 = co3 - (x5_2 : Int).toNat := ⟨_, rfl⟩; have hy35 : y132.length = x3_1.length - (x5_2 : Int).toNat := (by rw [Ny132.out, List.length_drop] <;> omega); rw [show (x3_1).drop (x5_2 : Int).toNat = y132 from Ny132.out.symm] at hr35; replace hr35 : Kd.C k93 _ A35 y132.length y132 := (by rw [hA35]; exact hr35); rw [← hy35, ← hA35, ← hc35] at hcut35; have HR135 := Aside0.mk hr35; have HC135 := Aside0.mk (show y132.length ≤ c35 from by rw [hy35, hc35]; exact Nat.sub_le_sub_right hroom35 _); clear hr35 hC35 hroom35 hi035 hsz35 hc35; have KY35 := Aside0.mk hy35; have KA35 := Aside0.mk hA35; clear hy35 hA35; have KL35 := Aside0.mk (show (x5_2 : Int).toNat ≤ x3_1.length from by omega); replace q35 := eq_true q35) | ((with_reducible refine gate_builtin (b := .append) (xs := #[.tmp 45, .tmp 48]) rfl ?_); at_builtin; refine Kd.R_append_rows k93 (w0 := w) w.heap.size rfl (.tmp 45) (.tmp 48) 30 93 (.agg #[(.int .i64 0), (.int .i64 0), (.string ⟨#[]⟩)]) 32 rfl Tryz.underlying30 info93 rfl (by decide) (by omega) v130 y129 y132 _ _ _ (fun k_ => some k_ ≠ (.slice Ao3 x3_1.length co3 : Value).ownBlock) (fun _ => False) rfl rfl ?aO ?aR (fun _ _ h => h) (fun _ h => h.elim) ?aF ?aB ?aS ?aL ?_; (case aR => repeat (first | exact (by repeat (first | (with_reducible exact HR135.out) | (with_reducible refine Kd.C_alloc ?_ _) | (with_reducible refine Kd.C_drewN ?_ _) | (with_reducible refine Kd.C_drew ?_) | exact HR135.out)) | (with_reducible refine Kd.C_alloc ?_ _) | (with_reducible refine Kd.C_drewN ?_ _) | (with_reducible refine Kd.C_drew ?_))); (case aB => exact (by repeat (first | (with_reducible first | exact HB.out | apply below_alloc | apply pw_below_drewN | apply below_drew1) | exact HB.out))); (case aF => exact (fun k_ hk => Kd.fresh' (Kd.R_lt (by (with_reducible repeat (first | apply Kd.R_alloc | apply Kd.R_drewN | apply Kd.R_drew)); exact HO_3.out)) k_ hk)); (case aO => exact (by (with_reducible repeat (first | apply Kd.R_alloc | apply Kd.R_drewN | apply Kd.R_drew)); exact HO131.out)); (case aS => exact (below_size (by repeat (first | (with_reducible first | exact HB.out | apply below_alloc | apply pw_below_drewN | apply below_drew1) | exact HB.out)))); (case aL => have := LMc31.out; omega); intro v137 w36 ho hb hg hat; rw [← Ny136.out] at ho; have n0_ := Aside0.mk (Kd.R_after (ok := (fun _ => True)) (by (with_reducible repeat (first | apply Kd.R_alloc | apply Kd.R_drewN | apply Kd.R_drew)); exact HO_3.out) hg hat); have n1_ := Aside0.mk (hb); have n2_ := Aside0.mk ((show Kd.C k93 w36 Ao3 y121.length y121 from by rw [Ny121.out]; exact Kd.C_take (m := (x5_2 : Int).toNat) ((Kd.R_reads' (Kd.R_after (ok := (fun _ => True)) (by (with_reducible repeat (first | apply Kd.R_alloc | apply Kd.R_drewN | apply Kd.R_drew)); exact HO_3.out) hg hat)).2.2) KL32.out)); have n3_ := Aside0.mk ((show Kd.C k93 w36 A35 y132.length y132 from by rw [Ny132.out, KA35.out]; exact Kd.C_drop (m := (x5_2 : Int).toNat) (c := co3) ((Kd.R_reads' (Kd.R_after (ok := (fun _ => True)) (by (with_reducible repeat (first | apply Kd.R_alloc | apply Kd.R_drewN | apply Kd.R_drew)); exact HO_3.out) hg hat)).2.2) KL35.out ((Kd.R_reads' (Kd.R_after (ok := (fun _ => True)) (by (with_reducible repeat (first | apply Kd.R_alloc | apply Kd.R_drewN | apply Kd.R_drew)); exact HO_3.out) hg hat)).2.1))); have n4_ := Aside0.mk (ho); clear HO_3; clear HB; clear HR124; clear HR135; clear HO131; have HO_3 := n0_; have HB := n1_; have HR124 := n2_; have HR135 := n3_; have HO138 := n4_; clear n0_ n1_ n2_ n3_ n4_; clear ho hb hg hat)); try go_wp2_with (first | ((with_reducible refine gate_builtin (b := .append) (xs := #[.tmp 33, .tmp 36]) rfl ?_); at_builtin; refine Kd.R_append_rows k93 (w0 := w) w.heap.size rfl (.tmp 33) (.tmp 36) 30 93 (.agg #[(.int .i64 0), (.int .i64 0), (.string ⟨#[]⟩)]) 32 rfl Tryz.underlying30 info93 rfl (by decide) (by omega) (.slice none 0 0) ([] : List (S93)) y121 _ _ _ (fun k_ => some k_ ≠ (.slice Ao3 x3_1.length co3 : Value).ownBlock) (fun _ => False) rfl rfl ?aO ?aR (fun _ _ h => h) (fun _ h => h.elim) ?aF ?aB ?aS ?aL ?_; (case aR => repeat (first | exact (by repeat (first | (with_reducible exact HR124.out) | (with_reducible refine Kd.C_alloc ?_ _) | (with_reducible refine Kd.C_drewN ?_ _) | (with_reducible refine Kd.C_drew ?_) | exact HR124.out)) | (with_reducible refine Kd.C_alloc ?_ _) | (with_reducible refine Kd.C_drewN ?_ _) | (with_reducible refine Kd.C_drew ?_))); (case aB => exact (by repeat (first | (with_reducible first | exact HB.out | apply below_alloc | apply pw_below_drewN | apply below_drew1) | exact HB.out))); (case aF => exact (fun k_ hk => Kd.fresh' (Kd.R_lt (by (with_reducible repeat (first | apply Kd.R_alloc | apply Kd.R_drewN | apply Kd.R_drew)); exact HO_3.out)) k_ hk)); (case aO => exact ((Kd.R_nil _ _ _ _ (fun k_ => some k_ ≠ (.slice Ao3 x3_1.length co3 : Value).ownBlock)))); (case aS => exact (below_size (by repeat (first | (with_reducible first | exact HB.out | apply below_alloc | apply pw_below_drewN | apply below_drew1) | exact HB.out)))); (case aL => have := LMc25.out; omega); intro v126 w33 ho hb hg hat; rw [← Ny125.out] at ho; have n0_ := Aside0.mk (Kd.R_after (Kd.R_apart_nil (by (with_reducible repeat (first | apply Kd.R_alloc | apply Kd.R_drewN | apply Kd.R_drew)); exact HO_3.out)) hg hat); have n1_ := Aside0.mk (hb); have n2_ := Aside0.mk ((show Kd.C k93 w33 Ao3 y121.length y121 from by rw [Ny121.out]; exact Kd.C_take (m := (x5_2 : Int).toNat) ((Kd.R_reads' (Kd.R_after (Kd.R_apart_nil (by (with_reducible repeat (first | apply Kd.R_alloc | apply Kd.R_drewN | apply Kd.R_drew)); exact HO_3.out)) hg hat)).2.2) KL32.out)); have n3_ := Aside0.mk (ho); clear HO_3; clear HB; clear HR124; have HO_3 := n0_; have HB := n1_; have HR124 := n2_; have HO127 := n3_; clear n0_ n1_ n2_ n3_; clear ho hb hg hat; have p128 : 0 ≤ (x4_1 : Int) := of_decide_eq_true (by first | (with_reducible assumption) | assumption); have q128 : x4_1 < (l0.length : Int) := of_decide_eq_true (by first | (with_reducible assumption) | assumption); obtain ⟨ad128, e128, hx128_0, hx128_1, hx128_2⟩ := at_T93 HR0.out x4_1 p128 q128; cases e128; replace hx128_0 := (HB.out.cell (World.block_lt_of_cell? w _ hx128_0)).trans hx128_0; replace hx128_1 := (HB.out.cell (World.block_lt_of_cell? w _ hx128_1)).trans hx128_1; replace hx128_2 := (HB.out.cell (World.block_lt_of_cell? w _ hx128_2)).trans hx128_2; replace p128 := eq_true p128; replace q128 := eq_true q128) | ((with_reducible refine gate_builtin (b := .append) (xs := #[.tmp 38, .tmp 43]) rfl ?_); at_builtin; refine Kd.R_append k93 (w0 := w) w.heap.size rfl (.tmp 38) (.tmp 43) 30 93 (.agg #[(.int .i64 0), (.int .i64 0), (.string ⟨#[]⟩)]) 32 rfl Tryz.underlying30 info93 rfl (by decide) (by omega) v126 y125 (⟨(rd_T93 l0 x4_1).f0, (rd_T93 l0 x4_1).f1, (rd_T93 l0 x4_1).f2⟩ : S93) [.int .i64 ((rd_T93 l0 x4_1).f0), .int .i64 ((rd_T93 l0 x4_1).f1), .string ((rd_T93 l0 x4_1).f2)] (fun k_ => some k_ ≠ (.slice Ao3 x3_1.length co3 : Value).ownBlock) (fun _ => False) rfl rfl ?aP (fun _ hk => hk.elim) ?aF ?aO ?aB ?aS ?aL ?_; (case aP => exact k93_mkM _ _ _ (⟨(rd_T93 l0 x4_1).f0, (rd_T93 l0 x4_1).f1, (rd_T93 l0 x4_1).f2⟩ : S93)); (case aB => exact (by repeat (first | (with_reducible first | exact HB.out | apply below_alloc | apply pw_below_drewN | apply below_drew1) | exact HB.out))); (case aF => exact (fun k_ hk => Kd.fresh' (Kd.R_lt (by (with_reducible repeat (first | apply Kd.R_alloc | apply Kd.R_drewN | apply Kd.R_drew)); exact HO_3.out)) k_ hk)); (case aO => exact (by (with_reducible repeat (first | apply Kd.R_alloc | apply Kd.R_drewN | apply Kd.R_drew)); exact HO127.out)); (case aS => exact (below_size (by repeat (first | (with_reducible first | exact HB.out | apply below_alloc | apply pw_below_drewN | apply below_drew1) | exact HB.out)))); (case aL => have := LMc28.out; omega); intro v130 w34 ho hb hg hat; rw [← Ny129.out] at ho; have n0_ := Aside0.mk (Kd.R_after (ok := (fun _ => True)) (by (with_reducible repeat (first | apply Kd.R_alloc | apply Kd.R_drewN | apply Kd.R_drew)); exact HO_3.out) hg hat); have n1_ := Aside0.mk (hb); have n2_ := Aside0.mk ((show Kd.C k93 w34 Ao3 y121.length y121 from by rw [Ny121.out]; exact Kd.C_take (m := (x5_2 : Int).toNat) ((Kd.R_reads' (Kd.R_after (ok := (fun _ => True)) (by (with_reducible repeat (first | apply Kd.R_alloc | apply Kd.R_drewN | apply Kd.R_drew)); exact HO_3.out) hg hat)).2.2) KL32.out)); have n3_ := Aside0.mk (ho); clear HO_3; clear HB; clear HR124; clear HO127; have HO_3 := n0_; have HB := n1_; have HR124 := n2_; have HO131 := n3_; clear n0_ n1_ n2_ n3_; clear ho hb hg hat; have q35 : (x5_2 : Int) ≤ ((x3_1.length : Int) : Int) := of_decide_eq_true (by first | (with_reducible assumption) | assumption); obtain ⟨i035, hi035, _, hsz35, _⟩ := info_parts info93; have hroom35 : x3_1.length ≤ co3 := (Kd.R_reads' HO_3.out).2.1; have hC35 : Kd.C k93 _ Ao3 x3_1.length x3_1 := (Kd.R_reads' HO_3.out).2.2; have q035 : (0 : Int) ≤ (x5_2 : Int) := of_decide_eq_true (by first | (with_reducible assumption) | assumption); have hcut35 := cut_from (P := Tryz.prog) 30 93 .i64 Tryz.underlying30 hi035 3 hsz35 Ao3 x3_1.length co3 x5_2 q035 q35; have hr35 := Kd.C_drop (m := (x5_2 : Int).toNat) (c := co3) hC35 (by omega) hroom35; obtain ⟨A35, hA35⟩ : ∃ A1, A1 = (if co3 = (x5_2 : Int).toNat then Ao3 else (Ao3 : Option Addr).map (·.add ((x5_2 : Int).toNat * 3))) := ⟨_, rfl⟩; obtain ⟨c35, hc35⟩ : ∃ c1, c1 = co3 - (x5_2 : Int).toNat := ⟨_, rfl⟩; have hy35 : y132.length = x3_1.length - (x5_2 : Int).toNat := (by rw [Ny132.out, List.length_drop] <;> omega); rw [show (x3_1).drop (x5_2 : Int).toNat = y132 from Ny132.out.symm] at hr35; replace hr35 : Kd.C k93 _ A35 y132.length y132 := (by rw [hA35]; exact hr35); rw [← hy35, ← hA35, ← hc35] at hcut35; have HR135 := Aside0.mk hr35; have HC135 := Aside0.mk (show y132.length ≤ c35 from by rw [hy35, hc35]; exact Nat.sub_le_sub_right hroom35 _); clear hr35 hC35 hroom35 hi035 hsz35 hc35; have KY35 := Aside0.mk hy35; have KA35 := Aside0.mk hA35; clear hy35 hA35; have KL35 := Aside0.mk (show (x5_2 : Int).toNat ≤ x3_1.length from by omega); replace q35 := eq_true q35) | ((with_reducible refine gate_builtin (b := .append) (xs := #[.tmp 45, .tmp 48]) rfl ?_); at_builtin; refine Kd.R_append_rows k93 (w0 := w) w.heap.size rfl (.tmp 45) (.tmp 48) 30 93 (.agg #[(.int .i64 0), (.int .i64 0), (.string ⟨#[]⟩)]) 32 rfl Tryz.underlying30 info93 rfl (by decide) (by omega) v130 y129 y132 _ _ _ (fun k_ => some k_ ≠ (.slice Ao3 x3_1.length co3 : Value).ownBlock) (fun _ => False) rfl rfl ?aO ?aR (fun _ _ h => h) (fun _ h => h.elim) ?aF ?aB ?aS ?aL ?_; (case aR => repeat (first | exact (by repeat (first | (with_reducible exact HR135.out) | (with_reducible refine Kd.C_alloc ?_ _) | (with_reducible refine Kd.C_drewN ?_ _) | (with_reducible refine Kd.C_drew ?_) | exact HR135.out)) | (with_reducible refine Kd.C_alloc ?_ _) | (with_reducible refine Kd.C_drewN ?_ _) | (with_reducible refine Kd.C_drew ?_))); (case aB => exact (by repeat (first | (with_reducible first | exact HB.out | apply below_alloc | apply pw_below_drewN | apply below_drew1) | exact HB.out))); (case aF => exact (fun k_ hk => Kd.fresh' (Kd.R_lt (by (with_reducible repeat (first | apply Kd.R_alloc | apply Kd.R_drewN | apply Kd.R_drew)); exact HO_3.out)) k_ hk)); (case aO => exact (by (with_reducible repeat (first | apply Kd.R_alloc | apply Kd.R_drewN | apply Kd.R_drew)); exact HO131.out)); (case aS => exact (below_size (by repeat (first | (with_reducible first | exact HB.out | apply below_alloc | apply pw_below_drewN | apply below_drew1) | exact HB.out)))); (case aL => have := LMc31.out; omega); intro v137 w36 ho hb hg hat; rw [← Ny136.out] at ho; have n0_ := Aside0.mk (Kd.R_after (ok := (fun _ => True)) (by (with_reducible repeat (first | apply Kd.R_alloc | apply Kd.R_drewN | apply Kd.R_drew)); exact HO_3.out) hg hat); have n1_ := Aside0.mk (hb); have n2_ := Aside0.mk ((show Kd.C k93 w36 Ao3 y121.length y121 from by rw [Ny121.out]; exact Kd.C_take (m := (x5_2 : Int).toNat) ((Kd.R_reads' (Kd.R_after (ok := (fun _ => True)) (by (with_reducible repeat (first | apply Kd.R_alloc | apply Kd.R_drewN | apply Kd.R_drew)); exact HO_3.out) hg hat)).2.2) KL32.out)); have n3_ := Aside0.mk ((show Kd.C k93 w36 A35 y132.length y132 from by rw [Ny132.out, KA35.out]; exact Kd.C_drop (m := (x5_2 : Int).toNat) (c := co3) ((Kd.R_reads' (Kd.R_after (ok := (fun _ => True)) (by (with_reducible repeat (first | apply Kd.R_alloc | apply Kd.R_drewN | apply Kd.R_drew)); exact HO_3.out) hg hat)).2.2) KL35.out ((Kd.R_reads' (Kd.R_after (ok := (fun _ => True)) (by (with_reducible repeat (first | apply Kd.R_alloc | apply Kd.R_drewN | apply Kd.R_drew)); exact HO_3.out) hg hat)).2.1))); have n4_ := Aside0.mk (ho); clear HO_3; clear HB; clear HR124; clear HR135; clear HO131; have HO_3 := n0_; have HB := n1_; have HR124 := n2_; have HR135 := n3_; have HO138 := n4_; clear n0_ n1_ n2_ n3_ n4_; clear ho hb hg hat)))
                            go_roundg k2
                            case measure => have := HK1.out; have := HK2.out; omega
                            case rel => exact ⟨(y136), (wrap64 (x4_1 + 1)), (by first | rfl | (simp; done) | (simp [*]; done)), H', ⟨by have := HK1.out; have := HK2.out; omega⟩, ⟨by (with_reducible repeat (first | apply Kd.R_alloc | apply Kd.R_drewN | apply Kd.R_drew)); exact Kd.R_mono HO138.out (fun _ hk => trivial)⟩, ⟨by repeat (first | (with_reducible first | exact HB.out | apply below_alloc | apply pw_below_drewN | apply below_drew1) | exact HB.out)⟩⟩
                          · rw [if_neg c31] at H
                            exact absurd H (by simp)
                        · rw [if_neg c28] at H
                          exact absurd H (by simp)
                      · rw [if_neg c27] at H
                        exact absurd H (by simp)
                    · rw [if_neg c26] at H
                      exact absurd H (by simp)
                  · rw [if_neg c25] at H
                    exact absurd H (by simp)
                · rw [if_neg c24] at H
                  exact absurd H (by simp)
              · rw [if_neg c23] at H
                exact absurd H (by simp)
      · rw [if_neg c2] at H
        have c2b0 : decide (x4_1 < (l0.length : Int)) = false := decide_eq_false c2
        clear c2
        obtain rfl := Option.some.inj H
        go_wp2
        repeat (go_quiet (fail); try go_wp2)
        go_ret
        exact ⟨_, by first | rfl | (simp [errW_none, errW_some] <;> rfl) | (simp [*, errW_none, errW_some] <;> rfl), by (with_reducible repeat (first | apply Kd.R_alloc | apply Kd.R_drewN | apply Kd.R_drew)); exact HO_3.out, by repeat (first | (with_reducible first | exact HB.out | apply below_alloc | apply pw_below_drewN | apply below_drew1) | exact HB.out)⟩
end Go.Proofs.YtbpdcbibooiimaaGreatDoor.Q
/- Layer 3 on lists: the reference's Sorted; the same spans in another order. -/
namespace Go.Proofs.YtbpdcbibooiimaaGreatDoor.K
open Go.RowKit Go.Proofs.YtbpdcbibooiimaaGreatDoorW.PrintWords Go.Proofs.YtbpdcbibooiimaaGreatDoorW.PrintMore Go.Proofs.YtbpdcbibooiimaaGreatDoor.Q
theorem rdc {L : List S83} (i : Nat) (h : i < L.length) : rd_T93 (L.map c53) (i : Int) = c53 L[i] := by rw [rd53 i (by rw [List.length_map]; exact h), List.getElem_map]
theorem sorted_ev {l : List S83} (hl : l.length ≤ 100000) : ∀ (d i : Nat) (acc : List S83), l.length - i = d → i ≤ l.length → SpOK acc → acc.length + d ≤ 1000000 → (newR acc (l.drop i)).1 = 0 →
    Ev (fun k => paronymref03_Sorted.l0 k (l.map c53) (acc.map c53) (i : Int)) ((newR acc (l.drop i)).2.map c53) := by
  intro d
  induction d with
  | zero =>
    intro i acc h1 h2 h3 h4 h5
    refine Ev.step (fun k => rfl) (Ev.neg (by rw [List.length_map]; omega) ?_)
    rw [List.drop_eq_nil_of_le (by omega)]
    exact Ev.now _
  | succ d ih =>
    intro i acc h1 h2 h3 h4 h5
    have hi : i < l.length := by omega
    rw [List.drop_eq_getElem_cons hi] at h5 ⊢
    obtain ⟨s, hs⟩ : ∃ s, s = l[i] := ⟨_, rfl⟩
    rw [← hs] at h5 ⊢
    unfold newR at h5 ⊢
    by_cases e : (addR acc s).1 = 0
    · rw [if_pos e] at h5 ⊢
      obtain ⟨he, hv, hm⟩ := addR_ok h3 e
      obtain ⟨hb, ha⟩ := place_sides h3 hv hm
      have hple := pos_le acc s.f0
      have hlen : (addR acc s).2.length = acc.length + 1 := by rw [(addR_perm h3 e).length_eq, List.length_cons]
      have hn := ih (i + 1) (addR acc s).2 (by omega) (by omega) (addR_SpOK h3 e) (by omega) h5
      rw [he, List.map_append, List.map_cons, List.map_take, List.map_drop] at hn
      have hml : (acc.map c53).length = acc.length := List.length_map _
      have hrs : rd_T93 (l.map c53) (i : Int) = c53 s := by rw [rdc i hi, hs]
      refine Ev.step (fun k => rfl) (Ev.pos (by rw [List.length_map]; omega) ?_)
      have key : ∀ (q j : Nat), j - pos acc s.f0 = q → pos acc s.f0 ≤ j → j ≤ acc.length → Ev (fun k => paronymref03_Sorted.l1 k (l.map c53) (acc.map c53) (i : Int) (j : Int)) ((newR (acc.take (pos acc s.f0) ++ s :: acc.drop (pos acc s.f0)) (l.drop (i + 1))).2.map c53) := by
        intro q
        induction q with
        | zero =>
          intro j g1 g2 g3
          have : j = pos acc s.f0 := by omega
          subst this
          have ht : ((pos acc s.f0 : Int)).toNat = pos acc s.f0 := by omega
          have hlt : ((acc.map c53).take (pos acc s.f0)).length = pos acc s.f0 := by rw [List.length_take, hml]; omega
          have hld : ((acc.map c53).drop (pos acc s.f0)).length = acc.length - pos acc s.f0 := by rw [List.length_drop, hml]
          have hfin : (acc.map c53).take (pos acc s.f0) ++ [(⟨(c53 s).f0, (c53 s).f1, (c53 s).f2⟩ : S93)] ++ (acc.map c53).drop (pos acc s.f0) = (acc.map c53).take (pos acc s.f0) ++ c53 s :: (acc.map c53).drop (pos acc s.f0) := by simp
          by_cases z : pos acc s.f0 = 0
          · refine Ev.step (fun k => rfl) (Ev.neg (by omega) (Ev.pos (by omega) (Ev.pos (by omega) ?_)))
            rw [ht]
            refine Ev.bindS rfl (Ev.pos (by rw [hlt]; simp; omega) (Ev.bindS rfl (Ev.pos (by omega) (Ev.pos (by rw [List.length_map]; omega) ?_))))
            rw [List.nil_append]
            refine Ev.pos (by rw [hlt]; omega) ?_
            rw [hrs]
            refine Ev.bindS rfl (Ev.bindS rfl (Ev.pos (by rw [List.length_append, hlt, hld]; simp; omega) ?_))
            rw [w64 (by omega) (by omega), hfin]
            exact hn
          · have hw : wrap64 ((pos acc s.f0 : Int) - 1) = ((pos acc s.f0 - 1 : Nat) : Int) := by rw [w64 (by omega) (by omega)]; omega
            refine Ev.step (fun k => rfl) (Ev.pos (by omega) ?_)
            rw [hw]
            refine Ev.pos (by omega) (Ev.pos (by omega) (Ev.pos (by omega) (Ev.pos (by rw [List.length_map]; omega) ?_)))
            rw [rdc (pos acc s.f0 - 1) (by omega), hrs]
            have hlt1 := pos_before (L := acc) (c := s.f0) (i := pos acc s.f0 - 1) (by omega)
            have hle1 := (h3.at (i := pos acc s.f0 - 1) (by omega)).2.1
            refine Ev.neg (show ¬ acc[pos acc s.f0 - 1].f0 > s.f0 by omega) (Ev.pos (by omega) (Ev.pos (by omega) ?_))
            rw [ht]
            refine Ev.bindS rfl (Ev.pos (by rw [hlt]; simp; omega) (Ev.bindS rfl ?_))
            rw [List.nil_append]
            refine Ev.pos (by rw [hlt]; omega) ?_
            refine Ev.bindS rfl (Ev.bindS rfl (Ev.pos (by rw [List.length_append, hlt, hld]; simp; omega) ?_))
            rw [w64 (by omega) (by omega), hfin]
            exact hn
        | succ q ihq =>
          intro j g1 g2 g3
          have hw : wrap64 ((j : Int) - 1) = ((j - 1 : Nat) : Int) := by rw [w64 (by omega) (by omega)]; omega
          refine Ev.step (fun k => rfl) (Ev.pos (by omega) ?_)
          rw [hw]
          refine Ev.pos (by omega) (Ev.pos (by omega) (Ev.pos (by omega) (Ev.pos (by rw [List.length_map]; omega) ?_)))
          rw [rdc (j - 1) (by omega), hrs]
          have hgt := ha acc[j - 1] (by
            rw [List.mem_iff_getElem]
            exact ⟨j - 1 - pos acc s.f0, by rw [List.length_drop]; omega, by rw [List.getElem_drop]; congr 1; omega⟩)
          have hv1 := hv.2.1
          refine Ev.pos (show acc[j - 1].f0 > s.f0 by omega) ?_
          exact ihq (j - 1) (by omega) (by omega) (by omega)
      rw [hml, he]
      exact key (acc.length - pos acc s.f0) acc.length rfl hple (Nat.le_refl _)
    · rw [if_neg e] at h5
      exact absurd h5 e
theorem newR_SpOK {l : List S83} (h : (newR [] l).1 = 0) : SpOK (newR [] l).2 ∧ ((newR [] l).2).Perm l := by
  obtain ⟨h1, h2⟩ := newR_len SpOK.nil h
  rw [List.append_nil] at h2
  exact ⟨h1, h2⟩
theorem newR_perm {l m : List S83} (hp : m.Perm l) (h : (newR [] l).1 = 0) : newR [] m = (0, (newR [] l).2) := by
  have g := (newR_good (l := l) SpOK.nil).1 h
  have gm : Good m := ⟨fun s hs => g.1.1 s (hp.mem_iff.1 hs), (hp.pairwise_iff (fun {a b} hab hba => hab ⟨hba.2, hba.1⟩)).2 g.1.2⟩
  have h0 : (newR [] m).1 = 0 := (newR_good SpOK.nil).2 ⟨gm, fun s _ t ht => by cases ht⟩
  obtain ⟨a1, a2⟩ := newR_SpOK h
  obtain ⟨b1, b2⟩ := newR_SpOK h0
  have hpp : ((newR [] m).2).Perm (newR [] l).2 := b2.trans (hp.trans a2.symm)
  have heq : (newR [] m).2 = (newR [] l).2 := by
    refine List.Perm.eq_of_pairwise (le := fun a b => a.f1 < b.f0) ?_ b1.1 a1.1 hpp
    intro a b ha hb hab hba
    have h1 := (b1.2 a ha).2.1
    have h2 := (a1.2 b hb).2.1
    omega
  rw [← heq]
  exact Prod.ext h0 rfl
end Go.Proofs.YtbpdcbibooiimaaGreatDoor.K
/- prop.Parse on lists: the spans of lines that have fields; lines in another order. (Seat d. Typed before that seat was laid: not built yet where NOTES.md doesn't say so.) -/
namespace Go.Proofs.YtbpdcbibooiimaaGreatDoor.K
open Go.RowKit Go.Proofs.YtbpdcbibooiimaaGreatDoor.Q Go.Proofs.YtbpdcbibooiimaaGreatDoorW.PrintWords Go.Proofs.YtbpdcbibooiimaaGreatDoorW.PrintLast
def amongB (vs : List ByteArray) (b : ByteArray) : Bool := vs.isEmpty || vs.any (fun v => v.toList == b.toList)
def ppS (vs : List ByteArray) : List (List Int) → Sum Int (Option S83)
  | a :: b :: _ => if (rangeL a).2.2 = 0 then (if b = [] then .inl 16 else if amongB vs (strOfNums b) = true then .inr (some ⟨(rangeL a).1, (rangeL a).2.1, strOfNums b⟩) else .inr none) else .inl (rangeL a).2.2
  | _ => .inl 12
def ppGo (vs : List ByteArray) : List (Int × List (List Int)) → List S83 → Option (List S83) × Int × Int
  | [], acc => (some acc, 0, 0)
  | x :: r, acc => match ppS vs x.2 with
    | .inl e => (none, e, x.1)
    | .inr none => ppGo vs r acc
    | .inr (some s) => if (addR acc s).1 = 0 then ppGo vs r (addR acc s).2 else (none, (addR acc s).1, x.1)
def keepS (vs : List ByteArray) (x : List (List Int)) : Option S83 := match ppS vs x with
  | .inr (some s) => some s
  | _ => none
def okS (vs : List ByteArray) (x : List (List Int)) : Prop := ∃ o, ppS vs x = .inr o
theorem ppS_err {vs : List ByteArray} {x : List (List Int)} {e : Int} (h : ppS vs x = .inl e) : e ≠ 0 := by
  unfold ppS at h
  split at h
  · split at h
    · split at h
      · injection h with h; omega
      · split at h <;> cases h
    · injection h with h
      rename_i hh
      rw [← h]; exact hh
  · injection h with h; omega
theorem ppGo_ok (vs : List ByteArray) : ∀ (X : List (Int × List (List Int))) (acc : List S83), (ppGo vs X acc).2.1 = 0 ↔ ((∀ x ∈ X, okS vs x.2) ∧ (newR acc (X.filterMap (fun x => keepS vs x.2))).1 = 0)
  | [], acc => by simp [ppGo, newR]
  | x :: X, acc => by
    unfold ppGo
    have hall : (∀ y ∈ x :: X, okS vs y.2) ↔ (okS vs x.2 ∧ ∀ y ∈ X, okS vs y.2) := by simp
    rw [hall, List.filterMap_cons]
    cases hx : ppS vs x.2 with
    | inl e =>
      have he := ppS_err hx
      have hno : ¬ okS vs x.2 := fun ⟨o, ho⟩ => by rw [hx] at ho; cases ho
      simp only
      exact ⟨fun h => absurd h he, fun h => absurd h.1.1 hno⟩
    | inr o =>
      have hyes : okS vs x.2 := ⟨o, hx⟩
      cases o with
      | none =>
        have hk : keepS vs x.2 = none := by unfold keepS; rw [hx]
        rw [hk]
        simp only
        rw [ppGo_ok vs X acc]
        exact ⟨fun h => ⟨⟨hyes, h.1⟩, h.2⟩, fun h => ⟨h.1.2, h.2⟩⟩
      | some s =>
        have hk : keepS vs x.2 = some s := by unfold keepS; rw [hx]
        rw [hk]
        simp only
        unfold newR
        by_cases c : (addR acc s).1 = 0
        · rw [if_pos c, if_pos c, ppGo_ok vs X _]
          exact ⟨fun h => ⟨⟨hyes, h.1⟩, h.2⟩, fun h => ⟨h.1.2, h.2⟩⟩
        · rw [if_neg c, if_neg c]
          exact ⟨fun h => absurd h c, fun h => absurd h.2 c⟩
theorem ppGo_is (vs : List ByteArray) : ∀ (X : List (Int × List (List Int))) (acc : List S83), (ppGo vs X acc).2.1 = 0 → ppGo vs X acc = (some (newR acc (X.filterMap (fun x => keepS vs x.2))).2, 0, 0)
  | [], acc, _ => by simp [ppGo, newR]
  | x :: X, acc, h => by
    unfold ppGo at h ⊢
    rw [List.filterMap_cons]
    cases hx : ppS vs x.2 with
    | inl e =>
      rw [hx] at h
      exact absurd h (ppS_err hx)
    | inr o =>
      rw [hx] at h
      cases o with
      | none =>
        have hk : keepS vs x.2 = none := by unfold keepS; rw [hx]
        rw [hk]
        exact ppGo_is vs X acc h
      | some s =>
        have hk : keepS vs x.2 = some s := by unfold keepS; rw [hx]
        rw [hk]
        simp only at h ⊢
        unfold newR
        by_cases c : (addR acc s).1 = 0
        · rw [if_pos c] at h
          rw [if_pos c, if_pos c]
          exact ppGo_is vs X _ h
        · rw [if_neg c] at h
          exact absurd h c
theorem ppGo_perm {vs : List ByteArray} {X Y : List (Int × List (List Int))} (hp : (Y.map (·.2)).Perm (X.map (·.2))) (h : (ppGo vs X []).2.1 = 0) : ppGo vs Y [] = ppGo vs X [] := by
  obtain ⟨h1, h2⟩ := (ppGo_ok vs X []).1 h
  have fm : ∀ Z : List (Int × List (List Int)), Z.filterMap (fun x => keepS vs x.2) = (Z.map (·.2)).filterMap (keepS vs) := fun Z => by rw [List.filterMap_map]; rfl
  have hk : (Y.filterMap (fun x => keepS vs x.2)).Perm (X.filterMap (fun x => keepS vs x.2)) := by
    rw [fm Y, fm X]; exact hp.filterMap _
  have hy := newR_perm hk h2
  have hoy : (ppGo vs Y []).2.1 = 0 := (ppGo_ok vs Y []).2 ⟨fun y hy => by
    obtain ⟨x, hx, e⟩ := List.mem_map.1 (hp.mem_iff.1 (List.mem_map_of_mem (f := (·.2)) hy))
    have := h1 x hx
    rw [e] at this
    exact this, by rw [hy]⟩
  rw [ppGo_is vs Y [] hoy, ppGo_is vs X [] h, hy]
theorem linesI_fields : ∀ (X : List (List Int)) (i : Nat), (linesI i X).map (·.2) = X.filterMap (fun l => fieldsL (stripCR l))
  | [], _ => rfl
  | x :: X, i => by
    rw [linesI_cons, List.filterMap_cons]
    cases fieldsL (stripCR x) with
    | none => exact linesI_fields X (i + 1)
    | some f => simp only [List.map_cons]; rw [linesI_fields X (i + 1)]
theorem turned_fields {X Y : List (List Int)} (hp : Y.Perm X) (i j : Nat) : ((linesI i (Y ++ [[]])).map (·.2)).Perm ((linesI j X).map (·.2)) := by
  rw [linesI_fields, linesI_fields, List.filterMap_append]
  have e : ([[]] : List (List Int)).filterMap (fun l => fieldsL (stripCR l)) = [] := by decide
  rw [e, List.append_nil]
  exact hp.filterMap _
theorem newR_filter {l : List S83} (p : S83 → Bool) (h : (newR [] l).1 = 0) : newR [] (l.filter p) = (0, (newR [] l).2.filter p) := by
  have g := (newR_good (l := l) SpOK.nil).1 h
  have gm : Good (l.filter p) := ⟨fun s hs => g.1.1 s (List.mem_filter.1 hs).1, g.1.2.filter p⟩
  have h0 : (newR [] (l.filter p)).1 = 0 := (newR_good SpOK.nil).2 ⟨gm, fun s _ t ht => by cases ht⟩
  obtain ⟨a1, a2⟩ := newR_SpOK h
  obtain ⟨b1, b2⟩ := newR_SpOK h0
  have f1 : SpOK ((newR [] l).2.filter p) := ⟨a1.1.filter p, fun s hs => a1.2 s (List.mem_filter.1 hs).1⟩
  have hpp : ((newR [] (l.filter p)).2).Perm ((newR [] l).2.filter p) := b2.trans (a2.filter p).symm
  have heq : (newR [] (l.filter p)).2 = (newR [] l).2.filter p := by
    refine List.Perm.eq_of_pairwise (le := fun a b => a.f1 < b.f0) ?_ b1.1 f1.1 hpp
    intro a b ha hb hab hba
    have h1 := (b1.2 a ha).2.1
    have h2 := (f1.2 b hb).2.1
    omega
  rw [← heq]
  exact Prod.ext h0 rfl
theorem ppS_two (v o : ByteArray) (x : List (List Int)) : (okS [v] x ↔ okS [v, o] x) ∧ keepS [v] x = (keepS [v, o] x).filter (fun s => v.toList == s.f2.toList) := by
  unfold okS keepS ppS
  match x with
  | [] => exact ⟨Iff.rfl, rfl⟩
  | [a] => exact ⟨Iff.rfl, rfl⟩
  | a :: b :: t =>
    simp only
    by_cases c1 : (rangeL a).2.2 = 0
    · rw [if_pos c1, if_pos c1]
      by_cases c2 : b = []
      · rw [if_pos c2, if_pos c2]; exact ⟨Iff.rfl, rfl⟩
      · rw [if_neg c2, if_neg c2]
        have e1 : amongB [v] (strOfNums b) = (v.toList == (strOfNums b).toList) := by simp [amongB]
        have e2 : amongB [v, o] (strOfNums b) = ((v.toList == (strOfNums b).toList) || (o.toList == (strOfNums b).toList)) := by simp [amongB]
        rw [e1, e2]
        cases h1 : (v.toList == (strOfNums b).toList) with
        | true => exact ⟨by simp, by simp [Option.filter, h1]⟩
        | false =>
          cases h2 : (o.toList == (strOfNums b).toList) with
          | true => exact ⟨by simp, by simp [Option.filter, h1]⟩
          | false => exact ⟨by simp, by simp⟩
    · rw [if_neg c1, if_neg c1]; exact ⟨Iff.rfl, rfl⟩
theorem ppGo_two (v o : ByteArray) (X : List (Int × List (List Int))) (h : (ppGo [v, o] X []).2.1 = 0) : ∃ L M, ppGo [v] X [] = (some L, 0, 0) ∧ ppGo [v, o] X [] = (some M, 0, 0) ∧ L = M.filter (fun s => v.toList == s.f2.toList) ∧ SpOK M := by
  obtain ⟨h1, h2⟩ := (ppGo_ok [v, o] X []).1 h
  have hk : X.filterMap (fun x => keepS [v] x.2) = (X.filterMap (fun x => keepS [v, o] x.2)).filter (fun s => v.toList == s.f2.toList) := by
    rw [List.filter_filterMap]
    congr 1
    funext x
    exact (ppS_two v o x.2).2
  have hf := newR_filter (fun s => v.toList == s.f2.toList) h2
  have h0 : (ppGo [v] X []).2.1 = 0 := (ppGo_ok [v] X []).2 ⟨fun x hx => (ppS_two v o x.2).1.2 (h1 x hx), by rw [hk, hf]⟩
  exact ⟨_, _, ppGo_is [v] X [] h0, ppGo_is [v, o] X [] h, by rw [hk, hf], (newR_SpOK h2).1⟩
end Go.Proofs.YtbpdcbibooiimaaGreatDoor.K
namespace Go.Proofs.YtbpdcbibooiimaaGreatDoor.Q
open Go.RowKit Go.Proofs.YtbpdcbibooiimaaGreatDoorW.PrintWords Go.Proofs.YtbpdcbibooiimaaGreatDoorW.PrintLast Go.Proofs.YtbpdcbibooiimaaGreatDoorW.PrintMore
attribute [local go_sem] max2_int min2_int max_two min_two max_three min_three max_four min_four   -- for this text's walks alone
/-! ### slices_Index_string_string: function 73 -/
def slices_Index_string_string.l0 : Nat → List ByteArray → ByteArray → Int → Int → Option (Int)
  | 0, _, _, _, _ => none
  | k + 1, x0, x1, x7, x8 => if x8 < x7 then (if 0 ≤ x8 then (if x8 < (x0.length : Int) then (if x1.toList = (rdOf ByteArray.empty x0 x8).toList then (some x8) else (slices_Index_string_string.l0 k x0 x1 x7 (wrap64 (x8 + 1)))) else (none)) else (none)) else (some (-1))
def slices_Index_string_string.f (k : Nat) (l0 : List ByteArray) (a1 : ByteArray) : Option (Int) := slices_Index_string_string.l0 k l0 a1 (l0.length : Int) 0
theorem slices_Index_string_string.mono_l : ∀ k, (∀ y0 y1 y2 y3, LeO (slices_Index_string_string.l0 k y0 y1 y2 y3) (slices_Index_string_string.l0 (k + 1) y0 y1 y2 y3))
  | 0 => fun _ _ _ _ r h => by simp [slices_Index_string_string.l0] at h
  | k + 1 => by
    have ih0 := slices_Index_string_string.mono_l k
    · intro y0 y1 y2 y3
      unfold slices_Index_string_string.l0
      repeat' first
      | (with_reducible exact ih0 _ _ _ _)
      | (with_reducible exact LeO.refl _)
      | (with_reducible exact LeO.none _)
      | (with_reducible refine LeO.ite ?_ ?_)
      | (with_reducible refine LeO.bind ?_ (fun _ => ?_))
      | exact ih0 _ _ _ _
      | exact LeO.none _
      | refine LeO.ite ?_ ?_
      | refine LeO.bind ?_ (fun _ => ?_)
theorem slices_Index_string_string.mono : ∀ a0 a1 k, LeO (slices_Index_string_string.f k a0 a1) (slices_Index_string_string.f (k + 1) a0 a1) := by
  intro a0 a1 k
  have ih0 := slices_Index_string_string.mono_l k
  unfold slices_Index_string_string.f
  repeat' first
      | (with_reducible exact ih0 _ _ _ _)
      | (with_reducible exact LeO.refl _)
      | (with_reducible exact LeO.none _)
      | (with_reducible refine LeO.ite ?_ ?_)
      | (with_reducible refine LeO.bind ?_ (fun _ => ?_))
      | exact ih0 _ _ _ _
      | exact LeO.none _
      | refine LeO.ite ?_ ?_
      | refine LeO.bind ?_ (fun _ => ?_)
set_option maxHeartbeats 8000000 in
set_option maxRecDepth 100000 in
theorem slices_Index_string_string.calls (k : Nat) (A0 : Option Addr) (c0 : Nat) (l0 : List ByteArray) (a1 : ByteArray) (r : Int) (w : World) (hr0 : Kd.C Kd.string w A0 l0.length l0) (hc0 : l0.length ≤ c0) (h : slices_Index_string_string.f k l0 a1 = some r) :
    Calls Tryz.prog 73 #[.slice A0 l0.length c0, .string a1] w fun e w' => e = .returned (.int .i64 r) ∧ Drawn0 w w' := by
  have HR0 := Aside0.mk hr0
  have HC0 := Aside0.mk hc0
  clear hr0 hc0
  have H : (slices_Index_string_string.l0 k l0 a1 (l0.length : Int) 0) = some r := h
  clear h
  have H' := Aside0.mk H
  clear H
  go_enter Tryz.func73, Tryz.ntmps73
  go_wp2
  go_loopg [8] k (fun kq v8 w' => ∃ (x8_1 : Int), v8 = .int .i64 x8_1 ∧ Aside0 (slices_Index_string_string.l0 kq l0 a1 (l0.length : Int) x8_1 = some r) ∧ Aside0 (kq ≤ k) ∧ Drawn0 w w')
  case atStart => exact ⟨(0), (by first | rfl | (simp; done) | (simp [*]; done)), H', ⟨Nat.le_refl _⟩, by repeat (first | exact Drawn0.refl _ | apply Drawn0.step)⟩
  case round =>
    clear H'
    try clear p2
    obtain ⟨x8_1, rfl, HA, HK1, ⟨m1, rfl⟩⟩ := hrel
    cases gk with
    | zero => exact absurd HA.out (by simp [slices_Index_string_string.l0])
    | succ k1 =>
      have H := HA.out
      clear HA
      simp only [slices_Index_string_string.l0] at H
      by_cases c3 : x8_1 < (l0.length : Int)
      · rw [if_pos c3] at H
        have c3b0 : decide (x8_1 < (l0.length : Int)) = true := decide_eq_true c3
        clear c3
        by_cases c4 : 0 ≤ x8_1
        · rw [if_pos c4] at H
          have c4b0 : decide (0 ≤ x8_1) = true := decide_eq_true c4
          clear c4
          by_cases c5 : x8_1 < (l0.length : Int)
          · rw [if_pos c5] at H
            have c5b0 : decide (x8_1 < (l0.length : Int)) = true := decide_eq_true c5
            clear c5
            by_cases c6 : a1.toList = (rdOf ByteArray.empty l0 x8_1).toList
            · rw [if_pos c6] at H
              have c6b0 : (a1.toList == (rdOf ByteArray.empty l0 x8_1).toList) = true := beq_iff_eq.mpr c6
              have c6b1 : (a1.toList != (rdOf ByteArray.empty l0 x8_1).toList) = false := bne_eq_false_iff_eq.mpr c6
              clear c6
              obtain rfl := Option.some.inj H
              have p101 : 0 ≤ (x8_1 : Int) := of_decide_eq_true (by first | (with_reducible assumption) | assumption)
              have q101 : x8_1 < (l0.length : Int) := of_decide_eq_true (by first | (with_reducible assumption) | assumption)
              obtain ⟨ad101, e101, hx101_0⟩ := Kd.at_string HR0.out x8_1 p101 q101
              cases e101
              replace p101 := eq_true p101
              replace q101 := eq_true q101
              go_wp2
              go_ret
              exact ⟨by first | rfl | (simp; done) | (simp [*]; done), by repeat (first | exact Drawn0.refl _ | apply Drawn0.step)⟩
            · rw [if_neg c6] at H
              have c6b0 : (a1.toList == (rdOf ByteArray.empty l0 x8_1).toList) = false := beq_eq_false_iff_ne.mpr c6
              have c6b1 : (a1.toList != (rdOf ByteArray.empty l0 x8_1).toList) = true := bne_iff_ne.mpr c6
              have H' := Aside0.mk H
              clear H
              have p101 : 0 ≤ (x8_1 : Int) := of_decide_eq_true (by first | (with_reducible assumption) | assumption)
              have q101 : x8_1 < (l0.length : Int) := of_decide_eq_true (by first | (with_reducible assumption) | assumption)
              obtain ⟨ad101, e101, hx101_0⟩ := Kd.at_string HR0.out x8_1 p101 q101
              cases e101
              replace p101 := eq_true p101
              replace q101 := eq_true q101
              go_wp2
              go_roundg k1
              case measure => have := HK1.out; omega
              case rel => exact ⟨(wrap64 (x8_1 + 1)), (by first | rfl | (simp; done) | (simp [*]; done)), H', ⟨by have := HK1.out; omega⟩, by repeat (first | exact Drawn0.refl _ | apply Drawn0.step)⟩
          · rw [if_neg c5] at H
            exact absurd H (by simp)
        · rw [if_neg c4] at H
          exact absurd H (by simp)
      · rw [if_neg c3] at H
        have c3b0 : decide (x8_1 < (l0.length : Int)) = false := decide_eq_false c3
        clear c3
        obtain rfl := Option.some.inj H
        go_wp2
        go_ret
        exact ⟨by first | rfl | (simp; done) | (simp [*]; done), by repeat (first | exact Drawn0.refl _ | apply Drawn0.step)⟩
end Go.Proofs.YtbpdcbibooiimaaGreatDoor.Q
namespace Go.Proofs.YtbpdcbibooiimaaGreatDoor.Q
open Go.RowKit Go.Proofs.YtbpdcbibooiimaaGreatDoorW.PrintWords Go.Proofs.YtbpdcbibooiimaaGreatDoorW.PrintLast Go.Proofs.YtbpdcbibooiimaaGreatDoorW.PrintMore
attribute [local go_sem] max2_int min2_int max_two min_two max_three min_three max_four min_four   -- for this text's walks alone
/-! ### slices_Contains_string_string: function 46 -/
def slices_Contains_string_string.f (k : Nat) (l0 : List ByteArray) (a1 : ByteArray) : Option (Bool) := (slices_Index_string_string.f k l0 a1).bind fun t101 => (some (decide (t101 ≥ 0)))
theorem slices_Contains_string_string.mono : ∀ a0 a1 k, LeO (slices_Contains_string_string.f k a0 a1) (slices_Contains_string_string.f (k + 1) a0 a1) := by
  intro a0 a1 k
  unfold slices_Contains_string_string.f
  repeat' first
      | (with_reducible exact slices_Index_string_string.mono _ _ _)
      | (with_reducible exact LeO.refl _)
      | (with_reducible exact LeO.none _)
      | (with_reducible refine LeO.ite ?_ ?_)
      | (with_reducible refine LeO.bind ?_ (fun _ => ?_))
      | exact slices_Index_string_string.mono _ _ _
      | exact LeO.none _
      | refine LeO.ite ?_ ?_
      | refine LeO.bind ?_ (fun _ => ?_)
set_option maxHeartbeats 8000000 in
set_option maxRecDepth 100000 in
theorem slices_Contains_string_string.calls (k : Nat) (A0 : Option Addr) (c0 : Nat) (l0 : List ByteArray) (a1 : ByteArray) (r : Bool) (w : World) (hr0 : Kd.C Kd.string w A0 l0.length l0) (hc0 : l0.length ≤ c0) (h : slices_Contains_string_string.f k l0 a1 = some r) :
    Calls Tryz.prog 46 #[.slice A0 l0.length c0, .string a1] w fun e w' => e = .returned (.bool r) ∧ Drawn0 w w' := by
  have HR0 := Aside0.mk hr0
  have HC0 := Aside0.mk hc0
  clear hr0 hc0
  have H : ((slices_Index_string_string.f k l0 a1).bind fun t101 => (some (decide (t101 ≥ 0)))) = some r := h
  clear h
  replace H := Option.bind_eq_some_iff.mp H
  obtain ⟨t101, A30, H⟩ := H
  replace H : (some (decide (t101 ≥ 0))) = some r := H
  have A3 := Aside0.mk A30
  clear A30
  obtain rfl := Option.some.inj H
  go_enter Tryz.func46, Tryz.ntmps46
  go_wp2_with (first | ((with_reducible refine gate_callee (f := 73) rfl ?_); refine goesL_ (some 7) rfl rfl Tryz.func73 (by kernel_rfl) rfl #[.slice A0 l0.length c0, .string a1] rfl (by (try simp only [List.map_toArray, List.map_cons, List.map_nil]); first | done | rfl | (simp only [List.length_drop, List.length_take]; rfl)) ?_; (with_reducible refine (slices_Index_string_string.calls k _ _ l0 a1 t101 _ ?side1 ?side2 A3.out).mono ?_); (case side1 => repeat (first | exact HR0.out | (with_reducible refine Kd.C_alloc ?_ _) | (with_reducible refine Kd.C_drewN ?_ _) | (with_reducible refine Kd.C_drew ?_))); (case side2 => exact HC0.out); rintro e w' ⟨rfl, ⟨nd, rfl⟩⟩; refine ⟨_, rfl, ?_⟩))
  go_ret
  exact ⟨by first | rfl | (simp; done) | (simp [*]; done), by repeat (first | exact Drawn0.refl _ | apply Drawn0.step)⟩
end Go.Proofs.YtbpdcbibooiimaaGreatDoor.Q
namespace Go.Proofs.YtbpdcbibooiimaaGreatDoor.Q
open Go.RowKit Go.Proofs.YtbpdcbibooiimaaGreatDoorW.PrintWords Go.Proofs.YtbpdcbibooiimaaGreatDoorW.PrintLast Go.Proofs.YtbpdcbibooiimaaGreatDoorW.PrintMore
attribute [local go_sem] max2_int min2_int max_two min_two max_three min_three max_four min_four   -- for this text's walks alone
/-! ### paronymlaw05_few: function 14 -/
def paronymlaw05_few.l0 : Nat → List ByteArray → Int → Option (Bool)
  | 0, _, _ => none
  | k + 1, x0, x3 => if x3 < (x0.length : Int) then (if 0 ≤ x3 then (if ((rdOf ByteArray.empty x0 x3).size : Int) > 30 then (some false) else (paronymlaw05_few.l0 k x0 (wrap64 (x3 + 1)))) else (none)) else (some true)
def paronymlaw05_few.f (k : Nat) (l0 : List ByteArray) : Option (Bool) := if (l0.length : Int) > 5 then (some false) else (paronymlaw05_few.l0 k l0 0)
theorem paronymlaw05_few.mono_l : ∀ k, (∀ y0 y1, LeO (paronymlaw05_few.l0 k y0 y1) (paronymlaw05_few.l0 (k + 1) y0 y1))
  | 0 => fun _ _ r h => by simp [paronymlaw05_few.l0] at h
  | k + 1 => by
    have ih0 := paronymlaw05_few.mono_l k
    · intro y0 y1
      unfold paronymlaw05_few.l0
      repeat' first
      | (with_reducible exact ih0 _ _)
      | (with_reducible exact LeO.refl _)
      | (with_reducible exact LeO.none _)
      | (with_reducible refine LeO.ite ?_ ?_)
      | (with_reducible refine LeO.bind ?_ (fun _ => ?_))
      | exact ih0 _ _
      | exact LeO.none _
      | refine LeO.ite ?_ ?_
      | refine LeO.bind ?_ (fun _ => ?_)
theorem paronymlaw05_few.mono : ∀ a0 k, LeO (paronymlaw05_few.f k a0) (paronymlaw05_few.f (k + 1) a0) := by
  intro a0 k
  have ih0 := paronymlaw05_few.mono_l k
  unfold paronymlaw05_few.f
  repeat' first
      | (with_reducible exact ih0 _ _)
      | (with_reducible exact LeO.refl _)
      | (with_reducible exact LeO.none _)
      | (with_reducible refine LeO.ite ?_ ?_)
      | (with_reducible refine LeO.bind ?_ (fun _ => ?_))
      | exact ih0 _ _
      | exact LeO.none _
      | refine LeO.ite ?_ ?_
      | refine LeO.bind ?_ (fun _ => ?_)
set_option maxHeartbeats 8000000 in
set_option maxRecDepth 100000 in
theorem paronymlaw05_few.calls (k : Nat) (A0 : Option Addr) (c0 : Nat) (l0 : List ByteArray) (r : Bool) (w : World) (hr0 : Kd.C Kd.string w A0 l0.length l0) (hc0 : l0.length ≤ c0) (h : paronymlaw05_few.f k l0 = some r) :
    Calls Tryz.prog 14 #[.slice A0 l0.length c0] w fun e w' => e = .returned (.bool r) ∧ Drawn0 w w' := by
  have HR0 := Aside0.mk hr0
  have HC0 := Aside0.mk hc0
  clear hr0 hc0
  have H : (if (l0.length : Int) > 5 then (some false) else (paronymlaw05_few.l0 k l0 0)) = some r := h
  clear h
  by_cases c2 : (l0.length : Int) > 5
  · rw [if_pos c2] at H
    have c2b0 : decide (5 < (l0.length : Int)) = true := decide_eq_true c2
    have c2b1 : decide (5 < l0.length) = true := decide_eq_true (by omega)
    clear c2
    obtain rfl := Option.some.inj H
    go_enter Tryz.func14, Tryz.ntmps14
    go_wp2
    go_ret
    exact ⟨by first | rfl | (simp; done) | (simp [*]; done), by repeat (first | exact Drawn0.refl _ | apply Drawn0.step)⟩
  · rw [if_neg c2] at H
    have c2b0 : decide (5 < (l0.length : Int)) = false := decide_eq_false c2
    have c2b1 : decide (5 < l0.length) = false := decide_eq_false (by omega)
    clear c2
    have H' := Aside0.mk H
    clear H
    go_enter Tryz.func14, Tryz.ntmps14
    go_wp2
    go_loopg [3] k (fun kq v3 w' => ∃ (x3_1 : Int), v3 = .int .i64 x3_1 ∧ Aside0 (paronymlaw05_few.l0 kq l0 x3_1 = some r) ∧ Aside0 (kq ≤ k) ∧ Drawn0 w w')
    case atStart => exact ⟨(0), (by first | rfl | (simp; done) | (simp [*]; done)), H', ⟨Nat.le_refl _⟩, by repeat (first | exact Drawn0.refl _ | apply Drawn0.step)⟩
    case round =>
      clear H'
      try clear c1
      try clear c2
      try clear c2b0
      try clear c2b1
      try clear p2
      obtain ⟨x3_1, rfl, HA, HK1, ⟨m1, rfl⟩⟩ := hrel
      cases gk with
      | zero => exact absurd HA.out (by simp [paronymlaw05_few.l0])
      | succ k1 =>
        have H := HA.out
        clear HA
        simp only [paronymlaw05_few.l0] at H
        by_cases c3 : x3_1 < (l0.length : Int)
        · rw [if_pos c3] at H
          have c3b0 : decide (x3_1 < (l0.length : Int)) = true := decide_eq_true c3
          clear c3
          by_cases c4 : 0 ≤ x3_1
          · rw [if_pos c4] at H
            have c4b0 : decide (0 ≤ x3_1) = true := decide_eq_true c4
            clear c4
            by_cases c5 : ((rdOf ByteArray.empty l0 x3_1).size : Int) > 30
            · rw [if_pos c5] at H
              have c5b0 : decide (30 < ((rdOf ByteArray.empty l0 x3_1).size : Int)) = true := decide_eq_true c5
              have c5b1 : decide (30 < (rdOf ByteArray.empty l0 x3_1).size) = true := decide_eq_true (by omega)
              clear c5
              obtain rfl := Option.some.inj H
              have p101 : 0 ≤ (x3_1 : Int) := of_decide_eq_true (by first | (with_reducible assumption) | assumption)
              have q101 : x3_1 < (l0.length : Int) := of_decide_eq_true (by first | (with_reducible assumption) | assumption)
              obtain ⟨ad101, e101, hx101_0⟩ := Kd.at_string HR0.out x3_1 p101 q101
              cases e101
              replace p101 := eq_true p101
              replace q101 := eq_true q101
              go_wp2
              go_ret
              exact ⟨by first | rfl | (simp; done) | (simp [*]; done), by repeat (first | exact Drawn0.refl _ | apply Drawn0.step)⟩
            · rw [if_neg c5] at H
              have c5b0 : decide (30 < ((rdOf ByteArray.empty l0 x3_1).size : Int)) = false := decide_eq_false c5
              have c5b1 : decide (30 < (rdOf ByteArray.empty l0 x3_1).size) = false := decide_eq_false (by omega)
              clear c5
              have H' := Aside0.mk H
              clear H
              have p101 : 0 ≤ (x3_1 : Int) := of_decide_eq_true (by first | (with_reducible assumption) | assumption)
              have q101 : x3_1 < (l0.length : Int) := of_decide_eq_true (by first | (with_reducible assumption) | assumption)
              obtain ⟨ad101, e101, hx101_0⟩ := Kd.at_string HR0.out x3_1 p101 q101
              cases e101
              replace p101 := eq_true p101
              replace q101 := eq_true q101
              go_wp2
              go_roundg k1
              case measure => have := HK1.out; omega
              case rel => exact ⟨(wrap64 (x3_1 + 1)), (by first | rfl | (simp; done) | (simp [*]; done)), H', ⟨by have := HK1.out; omega⟩, by repeat (first | exact Drawn0.refl _ | apply Drawn0.step)⟩
          · rw [if_neg c4] at H
            exact absurd H (by simp)
        · rw [if_neg c3] at H
          have c3b0 : decide (x3_1 < (l0.length : Int)) = false := decide_eq_false c3
          clear c3
          obtain rfl := Option.some.inj H
          go_wp2
          go_ret
          exact ⟨by first | rfl | (simp; done) | (simp [*]; done), by repeat (first | exact Drawn0.refl _ | apply Drawn0.step)⟩
end Go.Proofs.YtbpdcbibooiimaaGreatDoor.Q
