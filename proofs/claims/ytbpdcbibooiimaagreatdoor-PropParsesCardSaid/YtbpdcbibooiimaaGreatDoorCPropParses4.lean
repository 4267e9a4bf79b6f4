/- Part 4 of 4 of the proof of PropParses: prop.Parse of any file and of any values tells the document's table, or the first error and its line, and the file stays as it is: for every input For every input; no condition. -/
import Derived.Test.YtbpdcbibooiimaaGreatDoorCPropParses1
import Derived.Test.YtbpdcbibooiimaaGreatDoorCPropParses3
import Derived.Test.YtbpdcbibooiimaaGreatDoorCPropParses2
import Derived.StillTailTactics
import Derived.BigRegion
import Derived.Deep.DeepCutAuto
import Derived.IntWalk
import Derived.Deep.RegionLaw
import Derived.Deep.LoopGhost
import Derived.Sort.LoopGhostIn
import Derived.Lib.SlBytesConst
import Derived.Laws.Cover1
import Derived.Test.YtbpdcbibooiimaaGreatDoorRows
import Derived.Test.YtbpdcbibooiimaaGreatDoorCards
import Derived.Test.YtbpdcbibooiimaaGreatDoorTie
import Derived.LaidMore
import Derived.Lay
import Derived.SevenTiedAt
import Derived.Stop.Joined
import Derived.WalkKit
import Derived.ProofKit
import Derived.OpenShut
import Derived.ShutString
import Derived.ChangeOld
import Derived.ChangeMaps5
import Derived.Below
import Derived.SizedLaws
import Derived.Test.YtbpdcbibooiimaaGreatDoorWSized
set_option linter.unusedVariables false
set_option linter.unusedSimpArgs false

/- Is a text among others? The printed Contains; the law's few. -/
namespace Go.Proofs.YtbpdcbibooiimaaGreatDoor.K
open Go.RowKit Go.Proofs.YtbpdcbibooiimaaGreatDoorW.PrintWords Go.Proofs.YtbpdcbibooiimaaGreatDoorW.PrintMore Go.Proofs.YtbpdcbibooiimaaGreatDoor.Q
theorem rdOfB (X : List ByteArray) (i : Nat) (h : i < X.length) : rdOf ByteArray.empty X (i : Int) = X[i] := by
  unfold rdOf
  rw [Int.toNat_natCast, List.getD_eq_getElem?_getD, List.getElem?_eq_getElem h]; rfl
def idxB (v : ByteArray) : List ByteArray → Nat → Int
  | [], _ => -1
  | x :: r, i => if v.toList = x.toList then (i : Int) else idxB v r (i + 1)
theorem index_ev (vs : List ByteArray) (v : ByteArray) (hl : vs.length ≤ 1000000) : Ev (fun k => slices_Index_string_string.f k vs v) (idxB v vs 0) := by
  have loop : ∀ (d i : Nat), vs.length - i = d → i ≤ vs.length → Ev (fun k => slices_Index_string_string.l0 k vs v (vs.length : Int) (i : Int)) (idxB v (vs.drop i) i) := by
    intro d
    induction d with
    | zero =>
      intro i h1 h2
      rw [List.drop_eq_nil_of_le (by omega)]
      exact Ev.step (fun k => rfl) (Ev.neg (by omega) (Ev.ret rfl))
    | succ d ih =>
      intro i h1 h2
      have hi : i < vs.length := by omega
      rw [List.drop_eq_getElem_cons hi]
      unfold idxB
      refine Ev.step (fun k => rfl) (Ev.pos (by omega) (Ev.pos (by omega) (Ev.pos (by omega) ?_)))
      rw [rdOfB vs i hi]
      by_cases c : v.toList = vs[i].toList
      · rw [if_pos c]; exact Ev.pos c (Ev.ret rfl)
      · rw [if_neg c]
        refine Ev.neg c ?_
        have e : wrap64 ((i : Int) + 1) = ((i + 1 : Nat) : Int) := by rw [w64 (by omega) (by omega)]; omega
        rw [e]
        exact ih (i + 1) (by omega) (by omega)
  have := loop vs.length 0 (by omega) (by omega)
  rw [List.drop_zero] at this
  exact this
theorem idxB_iff (v : ByteArray) : ∀ (vs : List ByteArray) (i : Nat), decide (idxB v vs i ≥ 0) = vs.any (fun x => x.toList == v.toList)
  | [], i => rfl
  | x :: r, i => by
    unfold idxB
    rw [List.any_cons]
    by_cases c : v.toList = x.toList
    · rw [if_pos c, beq_iff_eq.mpr c.symm, Bool.true_or]
      exact decide_eq_true (by omega)
    · rw [if_neg c, beq_eq_false_iff_ne.mpr (fun e => c e.symm), Bool.false_or]
      exact idxB_iff v r (i + 1)
theorem containsB_ev (vs : List ByteArray) (v : ByteArray) (hl : vs.length ≤ 1000000) : Ev (fun k => slices_Contains_string_string.f k vs v) (vs.any (fun x => x.toList == v.toList)) := by
  unfold slices_Contains_string_string.f
  refine Ev.bind (index_ev vs v hl) ?_
  rw [← idxB_iff v vs 0]
  exact Ev.ret rfl
def fewB (vs : List ByteArray) : Bool := decide (vs.length ≤ 5) && vs.all (fun v => decide (v.size ≤ 30))
theorem few_ev (vs : List ByteArray) : Ev (fun k => paronymlaw05_few.f k vs) (fewB vs) := by
  have loop : ∀ (d i : Nat), vs.length ≤ 5 → vs.length - i = d → i ≤ vs.length → Ev (fun k => paronymlaw05_few.l0 k vs (i : Int)) ((vs.drop i).all (fun v => decide (v.size ≤ 30))) := by
    intro d
    induction d with
    | zero =>
      intro i h0 h1 h2
      rw [List.drop_eq_nil_of_le (by omega)]
      exact Ev.step (fun k => rfl) (Ev.neg (by omega) (Ev.ret rfl))
    | succ d ih =>
      intro i h0 h1 h2
      have hi : i < vs.length := by omega
      rw [List.drop_eq_getElem_cons hi, List.all_cons]
      refine Ev.step (fun k => rfl) (Ev.pos (by omega) (Ev.pos (by omega) ?_))
      rw [rdOfB vs i hi]
      by_cases c : vs[i].size ≤ 30
      · rw [decide_eq_true c, Bool.true_and]
        refine Ev.neg (by omega) ?_
        have e : wrap64 ((i : Int) + 1) = ((i + 1 : Nat) : Int) := by rw [w64 (by omega) (by omega)]; omega
        rw [e]
        exact ih (i + 1) h0 (by omega) (by omega)
      · rw [decide_eq_false c, Bool.false_and]
        exact Ev.pos (by omega) (Ev.ret rfl)
  unfold paronymlaw05_few.f fewB
  by_cases c : vs.length ≤ 5
  · rw [decide_eq_true c, Bool.true_and]
    refine Ev.neg (by omega) ?_
    have := loop vs.length 0 c (by omega) (by omega)
    rw [List.drop_zero] at this
    exact this
  · rw [decide_eq_false c, Bool.false_and]
    exact Ev.pos (by omega) (Ev.ret rfl)
theorem amongB_iff (vs : List ByteArray) (b : ByteArray) (hne : vs ≠ []) : amongB vs b = vs.any (fun x => x.toList == b.toList) := by
  unfold amongB
  cases vs with
  | nil => exact absurd rfl hne
  | cons x r => rfl
end Go.Proofs.YtbpdcbibooiimaaGreatDoor.K
/- prop.Parse on lists: its steps. -/
namespace Go.Proofs.YtbpdcbibooiimaaGreatDoor.K
open Go.RowKit Go.Proofs.YtbpdcbibooiimaaGreatDoor.Q Go.Proofs.YtbpdcbibooiimaaGreatDoorW.PrintWords Go.Proofs.YtbpdcbibooiimaaGreatDoorW.PrintLast
theorem ppGo_err {vs : List ByteArray} {X : List (Int × List (List Int))} {x : Int × List (List Int)} {acc : List S83} {e : Int} (h : ppS vs x.2 = .inl e) : ppGo vs (x :: X) acc = (none, e, x.1) := by
  unfold ppGo; rw [h]
theorem ppGo_skip {vs : List ByteArray} {X : List (Int × List (List Int))} {x : Int × List (List Int)} {acc : List S83} (h : ppS vs x.2 = .inr none) : ppGo vs (x :: X) acc = ppGo vs X acc := by
  conv => lhs; unfold ppGo
  rw [h]
theorem ppGo_add {vs : List ByteArray} {X : List (Int × List (List Int))} {x : Int × List (List Int)} {acc : List S83} {s : S83} (h : ppS vs x.2 = .inr (some s)) (h0 : (addR acc s).1 = 0) : ppGo vs (x :: X) acc = ppGo vs X (addR acc s).2 := by
  conv => lhs; unfold ppGo
  rw [h]; simp only; rw [if_pos h0]
theorem ppGo_twice {vs : List ByteArray} {X : List (Int × List (List Int))} {x : Int × List (List Int)} {acc : List S83} {s : S83} (h : ppS vs x.2 = .inr (some s)) (h0 : (addR acc s).1 ≠ 0) : ppGo vs (x :: X) acc = (none, (addR acc s).1, x.1) := by
  conv => lhs; unfold ppGo
  rw [h]; simp only; rw [if_neg h0]
theorem ppS_short {vs : List ByteArray} : ∀ {f : List (List Int)}, f.length < 2 → ppS vs f = .inl 12
  | [], _ => rfl
  | [a], _ => rfl
  | a :: b :: r, h => by simp at h; omega
theorem ppS_rng {vs : List ByteArray} {a b : List Int} {r : List (List Int)} (h : (rangeL a).2.2 ≠ 0) : ppS vs (a :: b :: r) = .inl (rangeL a).2.2 := by
  unfold ppS; simp only; rw [if_neg h]
theorem ppS_empty {vs : List ByteArray} {a : List Int} {r : List (List Int)} (h : (rangeL a).2.2 = 0) : ppS vs (a :: [] :: r) = .inl 16 := by
  unfold ppS; simp only; rw [if_pos h, if_pos trivial]
theorem ppS_out {vs : List ByteArray} {a b : List Int} {r : List (List Int)} (h : (rangeL a).2.2 = 0) (hb : b ≠ []) (hm : amongB vs (strOfNums b) = false) : ppS vs (a :: b :: r) = .inr none := by
  unfold ppS; simp only; rw [if_pos h, if_neg hb, if_neg (by rw [hm]; decide)]
theorem ppS_in {vs : List ByteArray} {a b : List Int} {r : List (List Int)} (h : (rangeL a).2.2 = 0) (hb : b ≠ []) (hm : amongB vs (strOfNums b) = true) : ppS vs (a :: b :: r) = .inr (some ⟨(rangeL a).1, (rangeL a).2.1, strOfNums b⟩) := by
  unfold ppS; simp only; rw [if_pos h, if_neg hb, if_pos hm]
theorem newR_app : ∀ (l m acc : List S83), (newR acc l).1 = 0 → newR acc (l ++ m) = newR (newR acc l).2 m
  | [], m, acc, _ => rfl
  | s :: r, m, acc, h => by
    unfold newR at h
    rw [List.cons_append]
    conv => lhs; unfold newR
    conv => rhs; arg 1; unfold newR
    by_cases c : (addR acc s).1 = 0
    · rw [if_pos c] at h
      rw [if_pos c, if_pos c]
      exact newR_app r m _ h
    · rw [if_neg c] at h
      exact absurd h c
theorem newR_snoc {l : List S83} {s : S83} (h : (newR [] l).1 = 0) (h0 : (addR (newR [] l).2 s).1 = 0) : newR [] (l ++ [s]) = (0, (addR (newR [] l).2 s).2) := by
  rw [newR_app l [s] [] h]
  generalize (newR [] l).2 = acc at h0 ⊢
  unfold newR
  rw [if_pos h0]
  rfl
theorem err_came {l : List S83} (h : (newR [] l).1 = 0) (s : S83) : errOf l s = (addR (newR [] l).2 s).1 := by
  obtain ⟨h1, h2⟩ := newR_SpOK h
  rw [addR_err h1]
  unfold errOf
  have : (∃ t ∈ l, meets t s) ↔ ∃ t ∈ (newR [] l).2, meets t s := by
    constructor
    · rintro ⟨t, ht, hm⟩; exact ⟨t, h2.mem_iff.2 ht, hm⟩
    · rintro ⟨t, ht, hm⟩; exact ⟨t, h2.mem_iff.1 ht, hm⟩
  simp only [this]
theorem sorted_all {l : List S83} (hl : l.length ≤ 100000) (h : (newR [] l).1 = 0) : Ev (fun k => paronymref03_Sorted.f k (l.map c53)) ((newR [] l).2.map c53) := by
  have := sorted_ev hl l.length 0 [] (by omega) (by omega) SpOK.nil (by simp; omega) (by rw [List.drop_zero]; exact h)
  rw [List.drop_zero] at this
  exact this
end Go.Proofs.YtbpdcbibooiimaaGreatDoor.K
/- prop.Parse: the walk. -/
namespace Go.Proofs.YtbpdcbibooiimaaGreatDoor.Q
open Go.RowKit Go.Shelf Go.Proofs.YtbpdcbibooiimaaGreatDoorW.PrintWords Go.Proofs.YtbpdcbibooiimaaGreatDoorW.PrintLast Go.Proofs.YtbpdcbibooiimaaGreatDoorW.PrintMore Go.Proofs.YtbpdcbibooiimaaGreatDoor.K
attribute [local go_sem] Oper.semAt_some
theorem EnvF.ltP {w : World} (h : EnvF w) : 0 < w.heap.size ∧ 8 < w.heap.size := by
  obtain ⟨⟨m0, hm0⟩, hm6⟩ := h
  have lt_of : ∀ (b i : Nat) (v : Value), w.cell? ⟨b, i, none⟩ = some v → b < w.heap.size := fun b i v h => by
    unfold World.cell? at h
    by_cases hb : b < w.heap.size
    · exact hb
    · simp only [Array.getElem?_eq_none (Nat.le_of_not_lt hb)] at h; cases h
  exact ⟨lt_of _ _ _ hm0, lt_of _ _ _ hm6⟩
theorem tab_set3 {W : World} {n : Nat} {p : Option Addr} {L : List S83} {a b c : Value} (h : Tab W p L) (hr : Res3 26 n W a b c) (a' b' c' : Value) : Tab (set3 W n a' b' c') p L := by
  have h1 := h.sameB (SameB.set W ⟨n, 0, none⟩ a') hr.r0 (by decide) (by decide)
  have r1 : Boxed (W.setCell ⟨n, 0, none⟩ a') (n + 1) 27 b := boxed_setZ hr.r1 (by omega)
  have h2 := h1.sameB (SameB.set _ ⟨n + 1, 0, none⟩ b') r1 (by decide) (by decide)
  have r2 : Boxed ((W.setCell ⟨n, 0, none⟩ a').setCell ⟨n + 1, 0, none⟩ b') (n + 1 + 1) 3 c := boxed_setZ (boxed_setZ hr.r2 (by omega)) (by omega)
  exact h2.sameB (SameB.set _ ⟨n + 1 + 1, 0, none⟩ c') r2 (by decide) (by decide)
theorem tab_putD {W : World} {D : Nat} {o : Obj} {p : Option Addr} {L : List S83} (h : Tab W p L) (hD : W.heap[D]? = some (.deferred (some []))) : Tab (W.putObj D o) p L :=
  h.sameC (fun k ob hk hc => by
    have hne : k ≠ D := fun e => by
      subst e
      rw [hk] at hD
      injection hD with hD
      subst hD
      cases hc
    exact (World.putObj_heap_other hne).trans hk)
theorem ppS_ln (vs : List ByteArray) (f : List (List Int)) : ppS vs f = if (lnR f).2.2.2 = 0 then (if amongB vs (strOfNums (lnR f).2.2.1) = true then .inr (some ⟨(lnR f).1, (lnR f).2.1, strOfNums (lnR f).2.2.1⟩) else .inr none) else .inl (lnR f).2.2.2 := by
  match f with
  | [] => rfl
  | [a] => rfl
  | a :: b :: r =>
    unfold ppS lnR
    simp only
    by_cases c1 : (rangeL a).2.2 = 0
    · rw [if_pos c1, if_pos c1]
      by_cases c2 : b = []
      · rw [if_pos c2, if_pos c2]; rfl
      · rw [if_neg c2, if_neg c2]
        simp
    · rw [if_neg c1, if_neg c1]
      simp [c1]
def ppQ (o : Option (List S83)) (W : World) (q : Option Addr) : Prop := match o with
  | none => q = none
  | some l => (∃ g, q = some ⟨g, 0, none⟩) ∧ Tab W q l ∧ SpOK l
def ppI (w : World) (n0 n7 B : Nat) (vs : List ByteArray) (Av : Option Addr) (cv : Nat) (X : List (Int × List (List Int))) (pre : List LItem) (W : World) : Prop :=
  ∃ (acc : List S83) (g : Nat), Boxed W n7 26 (.pointer (some ⟨g, 0, none⟩)) ∧ Tab W (some ⟨g, 0, none⟩) acc ∧ (SpOK acc ∧ acc.length ≤ pre.length ∧ ppGo vs (X.drop pre.length) acc = ppGo vs X []) ∧
    Res3 26 (n0 + 1) W (.pointer none) (.int .i64 0) (.int .i64 0) ∧ Boxed W n0 23 (.slice Av vs.length cv) ∧ Below w.heap.size w W ∧ B ≤ W.heap.size
def ppX (w : World) (n0 B : Nat) (vs : List ByteArray) (X : List (Int × List (List Int))) (c : Code) (pre : List LItem) (W : World) : Prop :=
  c = .ret ∧ ∃ e l : Int, ppGo vs X [] = (none, e, l) ∧ Res3 26 (n0 + 1) W (.pointer none) (.int .i64 e) (.int .i64 l) ∧ Below w.heap.size w W ∧ B ≤ W.heap.size
theorem rowC_cells {α : Type} {row : Option Nat} {W : World} (hr : ∀ r, row = some r → True ∧ ∃ o : Obj, W.heap[r]? = some o ∧ o.isCells = false) : ∀ r, row = some r → ∃ o : Obj, W.heap[r]? = some o ∧ o.isCells = false := fun r e => (hr r e).2
theorem ppI_own (w : World) (n0 n7 B B' : Nat) (hB : w.heap.size ≤ B') (vs : List ByteArray) (Av : Option Addr) (cv : Nat) (X : List (Int × List (List Int))) : OwnFrom B' (ppI w n0 n7 B vs Av cv X) := fun s W W' row hs hg hr => by
  obtain ⟨acc, g, h1, h2, h3, h4, h5, h6, h7⟩ := hs
  have hk : SameC W W' := SameC.of_grown hg (fun r e => (hr r e).2)
  exact ⟨acc, g, boxed_sameC h1 hk, h2.sameC hk, h3, h4.sameC hk, boxed_sameC h5 hk, ownFrom_below (β := Unit) (Nat.le_refl _) hB () W W' row h6 hg hr, Nat.le_trans h7 hg.size⟩
theorem ppX_own (w : World) (n0 B B' : Nat) (hB : w.heap.size ≤ B') (vs : List ByteArray) (X : List (Int × List (List Int))) (c : Code) : OwnFrom B' (ppX w n0 B vs X c) := fun s W W' row hs hg hr => by
  obtain ⟨h0, e, l, h1, h4, h6, h7⟩ := hs
  have hk : SameC W W' := SameC.of_grown hg (fun r e => (hr r e).2)
  exact ⟨h0, e, l, h1, h4.sameC hk, ownFrom_below (β := Unit) (Nat.le_refl _) hB () W W' row h6 hg hr, Nat.le_trans h7 hg.size⟩
theorem ppI_add {w W w3 : World} {n0 n7 B : Nat} {vs : List ByteArray} {Av : Option Addr} {cv : Nat} {X : List (Int × List (List Int))} {pre : List LItem} {x : LItem} {acc acc2 : List S83} {g9 : Nat} {u : Value} (hn : n0 + 4 ≤ n7 ∧ w.heap.size ≤ n7)
    (hT : Tab w3 (some ⟨g9, 0, none⟩) acc2) (hn7 : Boxed w3 n7 26 u) (hres : Res3 26 (n0 + 1) w3 (.pointer none) (.int .i64 0) (.int .i64 0)) (hv0 : Boxed w3 n0 23 (.slice Av vs.length cv)) (hb : Below w.heap.size w w3) (hW : Below W.heap.size W w3) (hB : B ≤ w3.heap.size)
    (hok : SpOK acc2) (hl : acc2.length ≤ pre.length + 1) (hgo : ppGo vs (X.drop (pre.length + 1)) acc2 = ppGo vs X []) :
    KeepsFrom B W (w3.setCell ⟨n7, 0, none⟩ (.pointer (some ⟨g9, 0, none⟩))) ∧ KeepC (fun k => k = n7) W (w3.setCell ⟨n7, 0, none⟩ (.pointer (some ⟨g9, 0, none⟩))) ∧ ppI w n0 n7 B vs Av cv X (pre ++ [x]) (w3.setCell ⟨n7, 0, none⟩ (.pointer (some ⟨g9, 0, none⟩))) := by
  refine ⟨(keepsFrom_below2 hW).trans ((KeepsOthers.setCell _ _ _).from _), (KeepC.of_below hW).trans (KeepC.of_set rfl), acc2, g9, Boxed.set _ hn7, ?_, ⟨hok, by rw [List.length_append]; exact hl, by rw [List.length_append]; exact hgo⟩, ?_, ?_, ?_, ?_⟩
  · exact hT.sameB (SameB.set w3 ⟨n7, 0, none⟩ _) hn7 (by decide) (by decide)
  · exact hres.sameB (SameB.set w3 ⟨n7, 0, none⟩ _) (by show n0 + 1 + 3 ≤ n7; omega)
  · exact boxed_setZ hv0 (by omega)
  · exact hb.setCell (p := ⟨n7, 0, none⟩) hn.2 _
  · simp only [World.size_setCell]; exact hB
set_option maxHeartbeats 8000000 in
set_option maxRecDepth 100000 in
theorem prop_Parse.main (A : Option Addr) (c : Nat) (L : List Int) (ho : Oct L) (hl : L.length ≤ 100000) (Av : Option Addr) (cv : Nat) (vs : List ByteArray) (hvl : vs.length ≤ 1000000) (w : World) (hE : EnvF w) (hr : Kd.C (Kd.int .u8) w A L.length L) (hc : L.length ≤ c) (hrv : Kd.C Kd.string w Av vs.length vs) (hcv : vs.length ≤ cv) :
    Calls Tryz.prog 15 #[.slice A L.length c, .slice Av vs.length cv] w fun e w' => Below w.heap.size w w' ∧ ∃ q, e = .returned (.tuple #[.pointer q, .int .i64 (ppGo vs (linesI 0 (spl 10 L)) []).2.1, .int .i64 (ppGo vs (linesI 0 (spl 10 L)) []).2.2]) ∧
      ppQ (ppGo vs (linesI 0 (spl 10 L)) []).1 w' q := by
  obtain ⟨X, hX⟩ : ∃ X, X = linesI 0 (spl 10 L) := ⟨_, rfl⟩
  rw [← hX]
  have hXn : X.length ≤ 100001 := by
    rw [hX]
    have h1 := linesI_len (spl 10 L) 0
    have h2 := splP_count (fun x => decide (x = (10 : Int))) L
    unfold spl at h1 ⊢; omega
  have hXo : ∀ p ∈ X, ∀ q ∈ p.2, Oct q ∧ q.length ≤ 100000 := by
    rw [hX]
    exact linesI_oct _ 0 (fun l hl2 => ⟨oct_spl ho hl2, by have := len_spl hl2; omega⟩)
  have hXf : ∀ p ∈ X, p.2.length ≤ 100001 := by
    rw [hX]
    exact linesI_fl _ 0 100000 (fun l hl2 => by have := len_spl hl2; omega)
  obtain ⟨w4, hw4⟩ : ∃ w4, w4 = (((w.alloc (.cells #[.slice Av vs.length cv] 23)).alloc (.cells #[.pointer none] 26)).alloc (.cells #[.int .i64 0] 27)).alloc (.cells #[.int .i64 0] 3) := ⟨_, rfl⟩
  have hsz4 : w4.heap.size = w.heap.size + 4 := by rw [hw4]; simp
  have hb4 : Below w.heap.size w w4 := by
    rw [hw4]
    exact ((((Below.refl _ w).alloc (Nat.le_refl _) _).alloc (by simp only [World.size_alloc]; omega) _).alloc (by simp only [World.size_alloc]; omega) _).alloc (by simp only [World.size_alloc]; omega) _
  have hx0 : Boxed w4 w.heap.size 23 (.slice Av vs.length cv) := by rw [hw4]; exact (((Boxed.new w _ _).alloc _).alloc _).alloc _
  have hx1 : Boxed w4 (w.heap.size + 1) 26 (.pointer none) := by
    have := Boxed.new (w.alloc (.cells #[.slice Av vs.length cv] 23)) 26 (.pointer none)
    simp only [World.size_alloc] at this
    rw [hw4]; exact (this.alloc _).alloc _
  have hx2 : Boxed w4 (w.heap.size + 1 + 1) 27 (.int .i64 0) := by
    have := Boxed.new ((w.alloc (.cells #[.slice Av vs.length cv] 23)).alloc (.cells #[.pointer none] 26)) 27 (.int .i64 0)
    simp only [World.size_alloc] at this
    rw [hw4]; exact this.alloc _
  have hx3 : Boxed w4 (w.heap.size + 1 + 1 + 1) 3 (.int .i64 0) := by
    have := Boxed.new (((w.alloc (.cells #[.slice Av vs.length cv] 23)).alloc (.cells #[.pointer none] 26)).alloc (.cells #[.int .i64 0] 27)) 3 (.int .i64 0)
    simp only [World.size_alloc] at this
    rw [hw4]; exact this
  have hcall := span_New.calls none 0 [] w4 (Kd.C_nil _ _) (Nat.le_refl _) (by simp)
  rw [hw4] at hcall
  have HCALL := Aside0.mk hcall
  have HW4 := Aside0.mk hw4
  have HX4 : Aside0 (Res3 26 (w.heap.size + 1) w4 (.pointer none) (.int .i64 0) (.int .i64 0)) := ⟨⟨hx1, hx2, hx3⟩⟩
  have HV4 := Aside0.mk hx0
  have HS4 := Aside0.mk hsz4
  have HB4 := Aside0.mk hb4
  have HX := Aside0.mk hX
  have HXN := Aside0.mk hXn
  have HXO := Aside0.mk hXo
  have HXF := Aside0.mk hXf
  have HO := Aside0.mk ho
  have HL := Aside0.mk hl
  have HVL0 := Aside0.mk hvl
  have HE := Aside0.mk hE
  have HR := Aside0.mk hr
  have HC := Aside0.mk hc
  have HRV := Aside0.mk hrv
  have HCV := Aside0.mk hcv
  clear hcall hw4 hx0 hx1 hx2 hx3 hsz4 hb4 ho hl hE hr hc hrv hcv hvl hX hXn hXo hXf
  refine (callsIn_wide (n := 20)).1 ?_
  refine callsIn_of_wp_marks Tryz.func15 rfl trivial ?_ rfl
  simp only [Tryz.ntmps15, List.size_toArray, List.length_cons, List.length_nil, Nat.reduceAdd, Nat.reduceSub, Array.replicate_succ, Array.replicate_zero, List.push_toArray, List.append_toArray, List.nil_append, List.cons_append]
  refine wpIn_wide.2 ?_
  go_wp2_with (first
    | (go_at_call 43; refine HCALL.out.mono ?_; rw [← HW4.out]; rintro e w5 ⟨hb5, q, rfl, hq⟩; rw [show (newR ([] : List S83) []).1 = 0 from rfl] at *; rcases hq with ⟨hq, _⟩ | ⟨_, ⟨g5, rfl⟩, hT5⟩; (exact absurd rfl hq)
       have hs5 := hb5.size
       have hs4 := HS4.out
       have hn6 : Boxed (w5.alloc (.cells #[.pointer (some ⟨g5, 0, none⟩)] 26)) w5.heap.size 26 (.pointer (some ⟨g5, 0, none⟩)) := Boxed.new w5 _ _
       have hb6 : Below w4.heap.size w4 (w5.alloc (.cells #[.pointer (some ⟨g5, 0, none⟩)] 26)) := hb5.alloc hs5 _
       have ht6 : Tab (w5.alloc (.cells #[.pointer (some ⟨g5, 0, none⟩)] 26)) (some ⟨g5, 0, none⟩) [] := hT5.below ((Below.refl _ _).alloc (Nat.le_refl _) _)
       have hs6 : (w5.alloc (.cells #[.pointer (some ⟨g5, 0, none⟩)] 26)).heap.size = w5.heap.size + 1 := World.size_alloc ..
       have hbw6 := HB4.out.trans (hb6.mono HB4.out.size)
       have H6 := Aside0.mk hn6
       have HB6 := Aside0.mk hb6
       have HT6 := Aside0.mk ht6
       have HS6 := Aside0.mk (And.intro hs6 (And.intro hs5 hs4))
       have HBW6 := Aside0.mk hbw6
       clear hb5 hT5 hn6 hb6 ht6 hs6 hs5 hs4 hbw6)
    | (go_at_call 44
       generalize w5.alloc (.cells #[.pointer (some ⟨g5, 0, none⟩)] 26) = w6 at *
       refine (field_Lines.calls A c L HO.out (by have := HL.out; omega) w6 (HE.out.below HBW6.out) (Kd.C_below HR.out HBW6.out) HC.out).mono ?_
       rintro e w7 ⟨g, gb, rfl, hg0, hgb0, hg, hgb, hb7⟩
       have HG := Aside0.mk (And.intro hg0 hgb0)
       have HGL := Aside0.mk hg
       have HGB := Aside0.mk hgb
       have HB7 := Aside0.mk hb7
       clear hg0 hgb0 hg hgb hb7))
  have h1 := HE.out.ltP
  have h2 := HS6.out
  have h3 := HB7.out.size
  have hb7w : Below w.heap.size w w7 := HBW6.out.trans (HB7.out.mono HBW6.out.size)
  have hst := field_Lines.stops L HO.out (by have := HL.out; omega) g gb w7 (fun k => k = w5.heap.size) (HE.out.below hb7w) (fun e => by omega) (fun e => by omega) (fun e => by have := HG.out.1; omega) HGL.out HGB.out 19 (by omega)
  rw [← HX.out] at hst
  have hb67 : Below w4.heap.size w4 w7 := HB6.out.trans (HB7.out.mono HB6.out.size)
  have hI0 : ppI w w.heap.size w5.heap.size w7.heap.size vs Av cv X [] w7 := ⟨[], g5, (HB7.out.block _ H6.out.lt).trans H6.out, HT6.out.below HB7.out, ⟨SpOK.nil, Nat.le_refl _, rfl⟩, HX4.out.sameC (SameC.of_below hb67), boxed_sameC HV4.out (SameC.of_below hb67), hb7w, Nat.le_refl _⟩
  have HST := Aside0.mk hst
  have HI0 := Aside0.mk hI0
  have HSZ : Aside0 (w.heap.size + 4 ≤ w5.heap.size ∧ w5.heap.size + 1 ≤ w7.heap.size) := ⟨by omega, by omega⟩
  have HWS : Aside0 (w.heap.size ≤ w7.heap.size) := ⟨by omega⟩
  clear hst hI0 h1 h2 h3 hb7w hb67 HGL HGB
  refine (wpIn_wide (n := 20)).1 ?_
  refine wpIn_range_as rfl (by omega) (gf := 69) (lb := #[.pointer (some ⟨gb, 0, none⟩)]) rfl trivial (enters_of Tryz.func69 (by kernel_rfl) rfl)
    HST.out KeepC.trans keepC_put (Below.refl _ _) (fun _ => rfl)
    (ppI w w.heap.size w5.heap.size w7.heap.size vs Av cv X) (ppX w w.heap.size w7.heap.size vs X) (ppI_own w _ _ _ _ HWS.out _ _ _ _) (fun c => ppX_own w _ _ _ HWS.out _ _ c) HI0.out
    (fun pre x a1 W => (∃ vb, a1 = { tmps := #[Value.slice A L.length c, Value.slice Av vs.length cv, undef, Value.pointer (some ⟨w.heap.size, 0, none⟩), Value.pointer (some ⟨w.heap.size + 1, 0, none⟩), Value.pointer (some ⟨w.heap.size + 1 + 1, 0, none⟩), Value.pointer (some ⟨w.heap.size + 1 + 1 + 1, 0, none⟩), Value.pointer (some ⟨w5.heap.size, 0, none⟩), Value.int IntKind.i64 0, Value.pointer (some ⟨vb, 0, none⟩), undef, undef, Value.tuple #[Value.pointer (some ⟨g5, 0, none⟩), Value.int IntKind.i64 0], Value.tuple #[Value.pointer (some ⟨g5, 0, none⟩), Value.int IntKind.i64 0], Value.pointer (some ⟨g5, 0, none⟩), Value.int IntKind.i64 0, Value.slice A L.length c, Value.func (Fn.func 69) #[] #[Value.pointer (some ⟨gb, 0, none⟩)], Value.agg #[Value.int IntKind.i64 x.1, Value.slice (some ⟨x.2.1, 0, none⟩) x.2.2.length x.2.2.length], undef, undef, undef, undef, undef, undef, undef, undef, undef, undef, undef, undef, undef, undef, undef, undef, undef, undef, undef, undef, undef, undef, undef, undef, undef, undef, undef, undef, undef, undef, undef, undef, undef], defers := [] } ∧ w7.heap.size ≤ vb ∧ W.heap[vb]? = some (.cells #[.int .i64 x.1, .slice (some ⟨x.2.1, 0, none⟩) x.2.2.length x.2.2.length] 81 (0, 0))) ∧ LItem.at_ x W ∧ ppI w w.heap.size w5.heap.size w7.heap.size vs Av cv X pre W)
    (fun pre x a1 s W W' row hs hg hr => by
      obtain ⟨⟨vb, h1, h2, h3⟩, h4, h5⟩ := hs
      have hk : SameC W W' := SameC.of_grown hg (fun r e => (hr r e).2)
      exact ⟨⟨vb, h1, h2, hk _ _ h3 rfl⟩, hk _ _ h4 rfl, ppI_own w _ _ _ _ HWS.out _ _ _ _ pre W W' row h5 hg hr⟩) ?assign ?body ?done ?stop
  case assign =>
    rintro l pre x W K hI hat hK
    have HI := Aside0.mk hI
    have HK := Aside0.mk hK
    have HAT := Aside0.mk hat
    clear hI hK hat
    simp only [LItem.enc]
    gi_wp2
    have hS : w7.heap.size ≤ W.heap.size := by obtain ⟨_, _, _, _, _, _, _, _, h⟩ := HI.out; exact h
    have hk : SameC W (W.alloc (.cells #[.int .i64 x.1, .slice (some ⟨x.2.1, 0, none⟩) x.2.2.length x.2.2.length] 81)) := SameC.of_below ((Below.refl _ W).alloc (Nat.le_refl _) _)
    refine HK.out _ _ ((KeepsOthers.alloc W _).from _) (KeepC.of_below ((Below.refl _ W).alloc (Nat.le_refl _) _)) ⟨⟨W.heap.size, rfl, hS, heap_alloc_new W _⟩, hk _ _ HAT.out rfl, ppI_own w _ _ _ _ HWS.out _ _ _ _ pre W _ none HI.out (World.grownBy_alloc W _ none) (fun r e => by cases e)⟩
  case body =>
    rintro l' pre x a1 W ⟨⟨vb, rfl, hvl, hvb⟩, hat, acc, g7, hN7, hT7, ⟨hOK, hal, hgo⟩, hRes, hV0, hB, hSW⟩ hsp
    have hlen : pre.length < X.length := by have := hsp.length_le; simp at this; omega
    have hx : X[pre.length]? = some (LItem.pr x) := by
      obtain ⟨t, ht⟩ := hsp
      rw [← ht, List.map_append, List.append_assoc, List.getElem?_append_right (by simp)]; simp
    obtain ⟨x1, xg, xf⟩ := x
    have hx : X[pre.length]? = some (x1, xf) := hx
    have hdrop : X.drop pre.length = (x1, xf) :: X.drop (pre.length + 1) := by
      rw [List.drop_eq_getElem_cons hlen]
      rw [List.getElem?_eq_getElem hlen] at hx
      rw [Option.some.inj hx]
    have hmem : (x1, xf) ∈ X := List.mem_of_getElem? hx
    rw [hdrop] at hgo
    have hfo := HXO.out _ hmem
    have hfl := HXF.out _ hmem
    simp only at hfo hfl
    have hx0 : W.cell? ⟨vb, 0, none⟩ = some (.int .i64 x1) := by simp only [World.cell?]; rw [hvb]; rfl
    have hx1 : W.cell? ⟨vb, 1, none⟩ = some (.slice (some ⟨xg, 0, none⟩) xf.length xf.length) := by simp only [World.cell?]; rw [hvb]; rfl
    have hEW : EnvF W := HE.out.below hB
    have hcl := prop_line.calls xf (some ⟨xg, 0, none⟩) xf.length W hEW (fun q hq => (hfo q hq).1) (fun q hq => by have := (hfo q hq).2; omega) (strs_row hat (by omega))
    have hln := ppS_ln vs xf
    unfold lnV at hcl
    obtain ⟨a0, ha0⟩ : ∃ a0, a0 = (lnR xf).1 := ⟨_, rfl⟩
    obtain ⟨b0, hb0⟩ : ∃ b0, b0 = (lnR xf).2.1 := ⟨_, rfl⟩
    obtain ⟨v0, hv0⟩ : ∃ v0, v0 = strOfNums (lnR xf).2.2.1 := ⟨_, rfl⟩
    obtain ⟨er, her⟩ : ∃ er, er = (lnR xf).2.2.2 := ⟨_, rfl⟩
    rw [← ha0, ← hb0, ← hv0, ← her] at hcl hln
    have HCL := Aside0.mk hcl
    have HLN := Aside0.mk hln
    have HN7 := Aside0.mk hN7
    have HT7 := Aside0.mk hT7
    have HOK := Aside0.mk hOK
    have HAL : Aside0 (acc.length ≤ pre.length ∧ pre.length < X.length) := ⟨hal, hlen⟩
    have HGO := Aside0.mk hgo
    have HRES := Aside0.mk hRes
    have HV0 := Aside0.mk hV0
    have HB := Aside0.mk hB
    have HSW := Aside0.mk hSW
    have HVL := Aside0.mk hvl
    have HVBX := Aside0.mk hvb
    clear hvl hvb hat hN7 hT7 hOK hal hgo hRes hV0 hB hSW hsp hlen hx hdrop hmem hfo hfl hEW hcl hln ha0 hb0 hv0 her HST HI0 HCALL
    by_cases c1 : er = 0
    · subst c1
      have hsk : amongB vs v0 = false → ppS vs xf = .inr none := fun h => by rw [HLN.out, if_pos rfl, if_neg (by rw [h]; decide)]
      have hin : amongB vs v0 = true → ppS vs xf = .inr (some ⟨a0, b0, v0⟩) := fun h => by rw [HLN.out, if_pos rfl, if_pos h]
      have HSK := Aside0.mk hsk
      have HIN := Aside0.mk hin
      clear hsk hin
      cases ham : amongB vs v0 with
      | false =>
        have HAM := Aside0.mk ham
        have hne : vs ≠ [] := fun e => by rw [e] at ham; cases ham
        have hpos : 0 < vs.length := List.length_pos_iff.2 hne
        have e0 : ((0 : Int) < (vs.length : Int)) = True := eq_true (by omega)
        have e1 : decide ((0 : Int) < (vs.length : Int)) = true := decide_eq_true (by omega)
        have e2 : decide (0 < vs.length) = true := decide_eq_true hpos
        obtain ⟨kc, hkc⟩ := (containsB_ev vs v0 HVL0.out).rounds
        rw [← amongB_iff vs v0 hne, ham] at hkc
        have HKC := Aside0.mk hkc
        clear ham hne hpos hkc
        gi_wp2_with (first
          | (refine ⟨trivial, ?_⟩; gi_at_call 45; refine (CallsIn.inRound l' (callsIn_wide.2 HCL.out)).mono ?_; rintro e w1 ⟨rfl, hb⟩
             have HB1 := Aside0.mk hb
             have hbv := hb.alloc hb.size (.cells #[.int .i64 a0, .int .i64 b0, .string v0] 83)
             have HBV := Aside0.mk hbv
             have hc3 : C3 83 (w1.alloc (.cells #[.int .i64 a0, .int .i64 b0, .string v0] 83)) w1.heap.size (.int .i64 a0) (.int .i64 b0) (.string v0) := heap_alloc_new w1 _
             obtain ⟨y0, y1, y2⟩ := hc3.cells
             have HC3 := Aside0.mk hc3
             have q7 := (boxed_sameC HN7.out (SameC.of_below hbv)).cell
             have q8 := (boxed_sameC HN7.out (SameC.of_below hbv)).frozen
             have qv0 := (boxed_sameC HV0.out (SameC.of_below hbv)).cell
             have q9 := (SameC.of_below hbv).cell hx0
             have HVC := Aside0.mk q9
             have hr1 := HRES.out.sameC (SameC.of_below hbv)
             have HR1 := Aside0.mk hr1
             have qr0 := hr1.r0.cell
             clear hb hbv hc3 hr1)
          | (refine ⟨trivial, ?_⟩; gi_at_call 46; (refine (CallsIn.inRound l' (callsIn_wide.2 (slices_Contains_string_string.calls kc Av cv vs v0 false _ (Kd.C_alloc (Kd.C_below (Kd.C_below HRV.out HB.out) HB1.out) _) HCV.out HKC.out))).mono ?_); rintro e w2 ⟨rfl, hd⟩
             have HB2 := Aside0.mk (HBV.out.trans (hd.below.mono HBV.out.size))
             clear hd))
        exact ⟨keepsFrom_below2 HB2.out, KeepC.of_below HB2.out, acc, g7, boxed_sameC HN7.out (SameC.of_below HB2.out), HT7.out.below HB2.out, ⟨HOK.out, by rw [List.length_append]; have := HAL.out.1; simp; omega, by rw [List.length_append, ← HGO.out, ppGo_skip (x := (x1, xf)) (HSK.out HAM.out)]; rfl⟩, HRES.out.sameC (SameC.of_below HB2.out), boxed_sameC HV0.out (SameC.of_below HB2.out), HB.out.trans (HB2.out.mono HB.out.size), Nat.le_trans HSW.out HB2.out.size⟩
      | true =>
        have HAM := Aside0.mk (HIN.out ham)
        obtain ⟨s, hs⟩ : ∃ s : S83, s = ⟨a0, b0, v0⟩ := ⟨_, rfl⟩
        have HSS := Aside0.mk hs
        obtain ⟨kf, hkf⟩ := (find_ev (L := acc) (by have := HAL.out; have := HXN.out; omega) HOK.out s.f0).rounds
        have HKF := Aside0.mk hkf
        have hadd := fun W' (hb : Below W.heap.size W W') => span_Add.calls kf _ acc s (pos acc s.f0) W' (HT7.out.below hb) HKF.out (pos_le _ _) (by have := HAL.out; have := HXN.out; omega)
        have hss : Value.agg #[.int .i64 s.f0, .int .i64 s.f1, .string s.f2] = .agg #[.int .i64 a0, .int .i64 b0, .string v0] := by rw [hs]
        have hs1 : (span_Add.r acc s (pos acc s.f0 : Int)) = addR acc s := rfl
        simp only [hss, hs1] at hadd
        have HADD := Aside0.mk hadd
        clear hkf hadd hss hs1
        have hcase : vs = [] ∨ (vs ≠ [] ∧ vs.any (fun x => x.toList == v0.toList) = true) := by
          by_cases h : vs = []
          · exact .inl h
          · exact .inr ⟨h, by rw [← amongB_iff vs v0 h]; exact ham⟩
        have HCASE := Aside0.mk hcase
        clear hcase ham hs
        by_cases c2 : (addR acc s).1 = 0
        · have HC2 := Aside0.mk c2
          clear c2
          have hadd0 : ∀ W', Below W.heap.size W W' → Calls Tryz.prog 47 #[.pointer (some ⟨g7, 0, none⟩), .agg #[.int .i64 a0, .int .i64 b0, .string v0]] W' fun e w' => ∃ g9, e = .returned (.tuple #[.pointer (some ⟨g9, 0, none⟩), .int .i64 0]) ∧ Tab w' (some ⟨g9, 0, none⟩) (addR acc s).2 ∧ Below W'.heap.size W' w' := fun W' hb => (HADD.out W' hb).mono (fun e w' ⟨h1, q, h2, h3⟩ => by
            rcases h3 with ⟨h3, _⟩ | ⟨_, ⟨g9, rfl⟩, h5⟩
            · exact absurd HC2.out h3
            · exact ⟨g9, by rw [h2, HC2.out], h5, h1⟩)
          have HADD0 := Aside0.mk hadd0
          have hams : ppS vs xf = .inr (some s) := by rw [HAM.out, HSS.out]
          have HAMS := Aside0.mk hams
          clear hadd0 hams HADD
          rcases HCASE.out with hnil | ⟨hne, hany⟩
          · have e0 : ((0 : Int) < (vs.length : Int)) = False := by rw [hnil]; simp
            have e1 : decide ((0 : Int) < (vs.length : Int)) = false := by rw [hnil]; simp
            have e2 : decide (0 < vs.length) = false := by rw [hnil]; simp
            have e3 : (0 < vs.length) = False := by rw [hnil]; simp
            clear hnil
            gi_wp2_with (first
              | (refine ⟨trivial, ?_⟩; gi_at_call 45; refine (CallsIn.inRound l' (callsIn_wide.2 HCL.out)).mono ?_; rintro e w1 ⟨rfl, hb⟩
                 have HB1 := Aside0.mk hb
                 have hbv := hb.alloc hb.size (.cells #[.int .i64 a0, .int .i64 b0, .string v0] 83)
                 have HBV := Aside0.mk hbv
                 have hc3 : C3 83 (w1.alloc (.cells #[.int .i64 a0, .int .i64 b0, .string v0] 83)) w1.heap.size (.int .i64 a0) (.int .i64 b0) (.string v0) := heap_alloc_new w1 _
                 obtain ⟨y0, y1, y2⟩ := hc3.cells
                 have HC3 := Aside0.mk hc3
                 have q7 := (boxed_sameC HN7.out (SameC.of_below hbv)).cell
                 have q8 := (boxed_sameC HN7.out (SameC.of_below hbv)).frozen
                 have qv0 := (boxed_sameC HV0.out (SameC.of_below hbv)).cell
                 have q9 := (SameC.of_below hbv).cell hx0
                 have HVC := Aside0.mk q9
                 have hr1 := HRES.out.sameC (SameC.of_below hbv)
                 have HR1 := Aside0.mk hr1
                 have qr0 := hr1.r0.cell
                 clear hb hbv hc3 hr1)
              | (refine ⟨trivial, ?_⟩; gi_at_call 47; refine (CallsIn.inRound l' (callsIn_wide.2 (HADD0.out _ HBV.out))).mono ?_; rintro e w3 ⟨g9, rfl, hT3, hb⟩; have HT3 := Aside0.mk hT3; clear hT3
                 have hb3 := HBV.out.trans (hb.mono HBV.out.size)
                 have hn3 := boxed_sameC HN7.out (SameC.of_below hb3)
                 have q7c := hn3.cell
                 have q7f := hn3.frozen
                 have HN3 := Aside0.mk hn3
                 have HB3 := Aside0.mk hb3
                 clear hn3 hb3 hb q7 q8 q9)
              | (refine ⟨(trivial : Fence.wide.fn _), ?_⟩))
            exact ppI_add (acc := acc) (x := (x1, xg, xf)) (by have := HSZ.out; omega) HT3.out HN3.out (HRES.out.sameC (SameC.of_below HB3.out)) (boxed_sameC HV0.out (SameC.of_below HB3.out)) (HB.out.trans (HB3.out.mono HB.out.size)) HB3.out (Nat.le_trans HSW.out HB3.out.size) (addR_SpOK HOK.out HC2.out) (by have := (addR_perm HOK.out HC2.out).length_eq; simp only [List.length_cons] at this; have := HAL.out; omega) (by rw [← HGO.out, ppGo_add (x := (x1, xf)) HAMS.out HC2.out])
          · have hpos : 0 < vs.length := List.length_pos_iff.2 hne
            have e0 : ((0 : Int) < (vs.length : Int)) = True := eq_true (by omega)
            have e1 : decide ((0 : Int) < (vs.length : Int)) = true := decide_eq_true (by omega)
            have e2 : decide (0 < vs.length) = true := decide_eq_true hpos
            have e3 : (0 < vs.length) = True := eq_true hpos
            obtain ⟨kc, hkc⟩ := (containsB_ev vs v0 HVL0.out).rounds
            rw [hany] at hkc
            have HKC := Aside0.mk hkc
            clear hne hpos hkc hany
            gi_wp2_with (first
              | (refine ⟨trivial, ?_⟩; gi_at_call 45; refine (CallsIn.inRound l' (callsIn_wide.2 HCL.out)).mono ?_; rintro e w1 ⟨rfl, hb⟩
                 have HB1 := Aside0.mk hb
                 have hbv := hb.alloc hb.size (.cells #[.int .i64 a0, .int .i64 b0, .string v0] 83)
                 have HBV := Aside0.mk hbv
                 have hc3 : C3 83 (w1.alloc (.cells #[.int .i64 a0, .int .i64 b0, .string v0] 83)) w1.heap.size (.int .i64 a0) (.int .i64 b0) (.string v0) := heap_alloc_new w1 _
                 obtain ⟨y0, y1, y2⟩ := hc3.cells
                 have HC3 := Aside0.mk hc3
                 have q7 := (boxed_sameC HN7.out (SameC.of_below hbv)).cell
                 have q8 := (boxed_sameC HN7.out (SameC.of_below hbv)).frozen
                 have qv0 := (boxed_sameC HV0.out (SameC.of_below hbv)).cell
                 have q9 := (SameC.of_below hbv).cell hx0
                 have HVC := Aside0.mk q9
                 have hr1 := HRES.out.sameC (SameC.of_below hbv)
                 have HR1 := Aside0.mk hr1
                 have qr0 := hr1.r0.cell
                 clear hb hbv hc3 hr1)
              | (refine ⟨trivial, ?_⟩; gi_at_call 46; (refine (CallsIn.inRound l' (callsIn_wide.2 (slices_Contains_string_string.calls kc Av cv vs v0 true _ (Kd.C_alloc (Kd.C_below (Kd.C_below HRV.out HB.out) HB1.out) _) HCV.out HKC.out))).mono ?_); rintro e w2 ⟨rfl, hd⟩
                 have hb2 := hd.below
                 have q7 := (boxed_sameC HN7.out (SameC.of_below (HBV.out.trans (hb2.mono HBV.out.size)))).cell
                 have hc9 : C3 83 w2 w1.heap.size (.int .i64 a0) (.int .i64 b0) (.string v0) := (hb2.block _ HC3.out.lt).trans HC3.out
                 obtain ⟨y0, y1, y2⟩ := hc9.cells
                 have HBV := Aside0.mk (HBV.out.trans (hb2.mono HBV.out.size))
                 clear hd hb2 hc9)
              | (refine ⟨trivial, ?_⟩; gi_at_call 47; refine (CallsIn.inRound l' (callsIn_wide.2 (HADD0.out _ HBV.out))).mono ?_; rintro e w3 ⟨g9, rfl, hT3, hb⟩; have HT3 := Aside0.mk hT3; clear hT3
                 have hb3 := HBV.out.trans (hb.mono HBV.out.size)
                 have hn3 := boxed_sameC HN7.out (SameC.of_below hb3)
                 have q7c := hn3.cell
                 have q7f := hn3.frozen
                 have HN3 := Aside0.mk hn3
                 have HB3 := Aside0.mk hb3
                 clear hn3 hb3 hb q7 q8 q9)
              | (refine ⟨(trivial : Fence.wide.fn _), ?_⟩))
            exact ppI_add (acc := acc) (x := (x1, xg, xf)) (by have := HSZ.out; omega) HT3.out HN3.out (HRES.out.sameC (SameC.of_below HB3.out)) (boxed_sameC HV0.out (SameC.of_below HB3.out)) (HB.out.trans (HB3.out.mono HB.out.size)) HB3.out (Nat.le_trans HSW.out HB3.out.size) (addR_SpOK HOK.out HC2.out) (by have := (addR_perm HOK.out HC2.out).length_eq; simp only [List.length_cons] at this; have := HAL.out; omega) (by rw [← HGO.out, ppGo_add (x := (x1, xf)) HAMS.out HC2.out])
        · have HC2 := Aside0.mk c2
          obtain ⟨e9, he9⟩ : ∃ e9, e9 = (addR acc s).1 := ⟨_, rfl⟩
          rw [← he9] at c2
          have HE9 := Aside0.mk he9
          have f0 : (e9 == 0) = false := beq_eq_false_iff_ne.mpr c2
          have f1 : (e9 != 0) = true := bne_iff_ne.mpr c2
          have f2 : decide (e9 = 0) = false := decide_eq_false c2
          clear c2 he9
          have hadd0 : ∀ W', Below W.heap.size W W' → Calls Tryz.prog 47 #[.pointer (some ⟨g7, 0, none⟩), .agg #[.int .i64 a0, .int .i64 b0, .string v0]] W' fun e w' => e = .returned (.tuple #[.pointer none, .int .i64 e9]) ∧ Below W'.heap.size W' w' := fun W' hb => (HADD.out W' hb).mono (fun e w' ⟨h1, q, h2, h3⟩ => by
            rcases h3 with ⟨_, rfl⟩ | ⟨h3, _⟩
            · exact ⟨by rw [h2, HE9.out], h1⟩
            · exact absurd h3 HC2.out)
          have HADD0 := Aside0.mk hadd0
          have hams : ppS vs xf = .inr (some s) := by rw [HAM.out, HSS.out]
          have HAMS := Aside0.mk hams
          clear hadd0 hams HADD
          rcases HCASE.out with hnil | ⟨hne, hany⟩
          · have e0 : ((0 : Int) < (vs.length : Int)) = False := by rw [hnil]; simp
            have e1 : decide ((0 : Int) < (vs.length : Int)) = false := by rw [hnil]; simp
            have e2 : decide (0 < vs.length) = false := by rw [hnil]; simp
            have e3 : (0 < vs.length) = False := by rw [hnil]; simp
            clear hnil
            gi_wp2_with (first
              | (refine ⟨trivial, ?_⟩; gi_at_call 45; refine (CallsIn.inRound l' (callsIn_wide.2 HCL.out)).mono ?_; rintro e w1 ⟨rfl, hb⟩
                 have HB1 := Aside0.mk hb
                 have hbv := hb.alloc hb.size (.cells #[.int .i64 a0, .int .i64 b0, .string v0] 83)
                 have HBV := Aside0.mk hbv
                 have hc3 : C3 83 (w1.alloc (.cells #[.int .i64 a0, .int .i64 b0, .string v0] 83)) w1.heap.size (.int .i64 a0) (.int .i64 b0) (.string v0) := heap_alloc_new w1 _
                 obtain ⟨y0, y1, y2⟩ := hc3.cells
                 have HC3 := Aside0.mk hc3
                 have q7 := (boxed_sameC HN7.out (SameC.of_below hbv)).cell
                 have q8 := (boxed_sameC HN7.out (SameC.of_below hbv)).frozen
                 have qv0 := (boxed_sameC HV0.out (SameC.of_below hbv)).cell
                 have q9 := (SameC.of_below hbv).cell hx0
                 have HVC := Aside0.mk q9
                 have hr1 := HRES.out.sameC (SameC.of_below hbv)
                 have HR1 := Aside0.mk hr1
                 have qr0 := hr1.r0.cell
                 clear hb hbv hc3 hr1)
              | (refine ⟨trivial, ?_⟩; gi_at_call 47; refine (CallsIn.inRound l' (callsIn_wide.2 (HADD0.out _ HBV.out))).mono ?_; rintro e w3 ⟨rfl, hb⟩
                 have hb3 := HBV.out.trans (hb.mono HBV.out.size)
                 have hn3 := boxed_sameC HN7.out (SameC.of_below hb3)
                 have q7c := hn3.cell
                 have q7f := hn3.frozen
                 have HN3 := Aside0.mk hn3
                 have HB3 := Aside0.mk hb3
                 clear hn3 hb3 hb q7 q8 q9)
              | (refine ⟨(trivial : Fence.wide.fn _), ?_⟩))
            have hv3 : (w3.setCell ⟨w5.heap.size, 0, none⟩ (.pointer none)).cell? ⟨vb, 0, none⟩ = some (.int .i64 x1) := by
              have hvx := (SameC.of_below HB3.out) _ _ HVBX.out rfl
              have hne9 : vb ≠ w5.heap.size := by have := HVL.out; have := HSZ.out; omega
              have : (w3.setCell ⟨w5.heap.size, 0, none⟩ (.pointer none)).heap[vb]? = _ := (Below.heap_setCell w3 ⟨w5.heap.size, 0, none⟩ (.pointer none) vb hne9).trans hvx
              simp only [World.cell?]
              rw [this]; rfl
            have hr3 := (HRES.out.sameC (SameC.of_below HB3.out)).sameB (SameB.set w3 ⟨w5.heap.size, 0, none⟩ (.pointer none)) (by show w.heap.size + 1 + 3 ≤ w5.heap.size; have := HSZ.out; omega)
            have HVC := Aside0.mk hv3
            have HR3 := Aside0.mk hr3
            clear hv3 hr3 hx0 hx1 q7c q7f
            have bx0 : Boxed (w3.setCell ⟨w5.heap.size, 0, none⟩ (.pointer none)).drew (w.heap.size + 1) 26 (.pointer none) := HR3.out.r0
            have bx1 : Boxed (((w3.setCell ⟨w5.heap.size, 0, none⟩ (.pointer none)).setCell ⟨w.heap.size + 1, 0, none⟩ (.pointer none))).drew (w.heap.size + 1 + 1) 27 (.int .i64 0) := boxed_setZ HR3.out.r1 (by omega)
            have bx2 : Boxed ((((w3.setCell ⟨w5.heap.size, 0, none⟩ (.pointer none)).setCell ⟨w.heap.size + 1, 0, none⟩ (.pointer none)).setCell ⟨w.heap.size + 1 + 1, 0, none⟩ (.int .i64 e9))).drew (w.heap.size + 1 + 1 + 1) 3 (.int .i64 0) := boxed_setZ (boxed_setZ HR3.out.r2 (by omega)) (by omega)
            have g0 := bx0.cell
            have g1 := bx0.frozen
            have g2 := bx1.cell
            have g3 := bx1.frozen
            have g4 := bx2.cell
            have g5' := bx2.frozen
            clear bx0 bx1 bx2
            have hn0 : ∀ (V : World) (b : Nat) (u : Value) (p : Addr), p.block ≠ b → (V.setCell ⟨b, 0, none⟩ u).cell? p = V.cell? p := fun V b u p h => World.cell?_of_block (Below.heap_setCell V ⟨b, 0, none⟩ u p.block h)
            have hvbn : w.heap.size + 4 ≤ vb := by have := HVL.out; have := HSZ.out; omega
            have hS : (fun w' : World => w'.cell? ⟨vb, 0, none⟩ = some (.int .i64 x1)) (w3.setCell ⟨w5.heap.size, 0, none⟩ (.pointer none)).drew := HVC.out
            have hS1 : (fun w' : World => w'.cell? ⟨vb, 0, none⟩ = some (.int .i64 x1)) (((w3.setCell ⟨w5.heap.size, 0, none⟩ (.pointer none)).setCell ⟨w.heap.size + 1, 0, none⟩ (.pointer none))).drew := (hn0 _ _ _ _ (by show vb ≠ _; omega)).trans hS
            have hS2 : (fun w' : World => w'.cell? ⟨vb, 0, none⟩ = some (.int .i64 x1)) ((((w3.setCell ⟨w5.heap.size, 0, none⟩ (.pointer none)).setCell ⟨w.heap.size + 1, 0, none⟩ (.pointer none)).setCell ⟨w.heap.size + 1 + 1, 0, none⟩ (.int .i64 e9))).drew := (hn0 _ _ _ _ (by show vb ≠ _; omega)).trans hS1
            have hS3 : (fun w' : World => w'.cell? ⟨vb, 0, none⟩ = some (.int .i64 x1)) (((((w3.setCell ⟨w5.heap.size, 0, none⟩ (.pointer none)).setCell ⟨w.heap.size + 1, 0, none⟩ (.pointer none)).setCell ⟨w.heap.size + 1 + 1, 0, none⟩ (.int .i64 e9)).setCell ⟨w.heap.size + 1 + 1 + 1, 0, none⟩ (.int .i64 x1))).drew := (hn0 _ _ _ _ (by show vb ≠ _; omega)).trans hS2
            clear hn0 hvbn
            refine wpIn_region_round_held (fun w' : World => w'.cell? ⟨vb, 0, none⟩ = some (.int .i64 x1)) (by kernel_rfl) (by kernel_rfl) ?_
            show wpAnyH _ _ _ _ _ _ _ _ (w3.setCell ⟨w5.heap.size, 0, none⟩ (.pointer none)).drew
            refine wpAnyH_take (i := 0) (v := .int .i64 e9) rfl (by kernel_rfl) (by kernel_rfl) (by kernel_rfl) (fun _ _ _ h => h) (.inl ⟨by kernel_rfl, fun w' hS => by have q_1 := hS; first | (go_simp; done) | (go_simp; simp [*]; done)⟩) hS ?_
            try simp only [List.getElem_toArray, List.getElem_cons_succ, List.getElem_cons_zero, Act.put, List.setIfInBounds_toArray, List.set_cons_zero, List.set_cons_succ]
            refine wpAnyH_take (i := 1) (v := .pointer (some ⟨vb, 0, none⟩)) rfl (by kernel_rfl) (by kernel_rfl) (by kernel_rfl) (fun _ _ _ h => h) (.inl ⟨by kernel_rfl, fun w' hS => by have q_1 := hS; first | (go_simp; done) | (go_simp; simp [*]; done)⟩) hS ?_
            try simp only [List.getElem_toArray, List.getElem_cons_succ, List.getElem_cons_zero, Act.put, List.setIfInBounds_toArray, List.set_cons_zero, List.set_cons_succ]
            refine wpAnyH_take (i := 2) (v := .int .i64 x1) rfl (by kernel_rfl) (by kernel_rfl) (by kernel_rfl) (fun _ _ _ h => h) (.inl ⟨by kernel_rfl, fun w' hS => by have q_1 := hS; first | (go_simp; done) | (go_simp; simp [*]; done)⟩) hS ?_
            try simp only [List.getElem_toArray, List.getElem_cons_succ, List.getElem_cons_zero, Act.put, List.setIfInBounds_toArray, List.set_cons_zero, List.set_cons_succ]
            refine wpAnyH_ready (rs := [3]) (by kernel_rfl) (by simp) (AllReadyH.cons rfl (fun K' hK => ?_) AllReadyH.nil)
            rw [if_pos (by kernel_rfl)]
            go_simp
            refine hK.out _ _ hS1 (fun _ => ?_)
            clear hK
            try simp only [List.getElem_toArray, List.getElem_cons_succ, List.getElem_cons_zero, Act.put, List.setIfInBounds_toArray, List.set_cons_zero, List.set_cons_succ]
            refine wpAnyH_ready (rs := [4]) (by kernel_rfl) (by simp) (AllReadyH.cons rfl (fun K' hK => ?_) AllReadyH.nil)
            rw [if_pos (by kernel_rfl)]
            go_simp
            refine hK.out _ _ hS2 (fun _ => ?_)
            clear hK
            try simp only [List.getElem_toArray, List.getElem_cons_succ, List.getElem_cons_zero, Act.put, List.setIfInBounds_toArray, List.set_cons_zero, List.set_cons_succ]
            refine wpAnyH_ready (rs := [5]) (by kernel_rfl) (by simp) (AllReadyH.cons rfl (fun K' hK => ?_) AllReadyH.nil)
            rw [if_pos (by kernel_rfl)]
            go_simp
            refine hK.out _ _ hS3 (fun _ => ?_)
            clear hK
            try simp only [List.getElem_toArray, List.getElem_cons_succ, List.getElem_cons_zero, Act.put, List.setIfInBounds_toArray, List.set_cons_zero, List.set_cons_succ]
            refine wpAnyH_done (by kernel_rfl) ?_ _
            refine NoPanic.normal ?_
            gi_wp2
            refine ⟨?_, rfl, e9, x1, ?_, ?_, ?_, ?_⟩
            · exact (keepsFrom_below2 HB3.out).trans (((KeepsOthers.setCell _ _ _).trans ((KeepsOthers.drew _).trans (((KeepsOthers.setCell _ _ _).trans (KeepsOthers.setCell _ _ _)).trans (KeepsOthers.setCell _ _ _)))).from _)
            · rw [← HGO.out, ppGo_twice (x := (x1, xf)) HAMS.out HC2.out, HE9.out]
            · have hz := HR3.out.set (.pointer none) (.int .i64 e9) (.int .i64 x1)
              exact ⟨hz.r0, hz.r1, hz.r2⟩
            · exact set3_below (below_drew ((HB.out.trans (HB3.out.mono HB.out.size)).setCell (p := ⟨w5.heap.size, 0, none⟩) (by show w.heap.size ≤ w5.heap.size; have := HSZ.out; omega) _)) (by omega) _ _ _
            · show w7.heap.size ≤ (World.setCell (World.setCell (World.setCell _ _ _) _ _) _ _).heap.size
              simp only [World.size_setCell]
              exact Nat.le_trans HSW.out HB3.out.size
          · have hpos : 0 < vs.length := List.length_pos_iff.2 hne
            have e0 : ((0 : Int) < (vs.length : Int)) = True := eq_true (by omega)
            have e1 : decide ((0 : Int) < (vs.length : Int)) = true := decide_eq_true (by omega)
            have e2 : decide (0 < vs.length) = true := decide_eq_true hpos
            have e3 : (0 < vs.length) = True := eq_true hpos
            obtain ⟨kc, hkc⟩ := (containsB_ev vs v0 HVL0.out).rounds
            rw [hany] at hkc
            have HKC := Aside0.mk hkc
            clear hne hpos hkc hany
            gi_wp2_with (first
              | (refine ⟨trivial, ?_⟩; gi_at_call 45; refine (CallsIn.inRound l' (callsIn_wide.2 HCL.out)).mono ?_; rintro e w1 ⟨rfl, hb⟩
                 have HB1 := Aside0.mk hb
                 have hbv := hb.alloc hb.size (.cells #[.int .i64 a0, .int .i64 b0, .string v0] 83)
                 have HBV := Aside0.mk hbv
                 have hc3 : C3 83 (w1.alloc (.cells #[.int .i64 a0, .int .i64 b0, .string v0] 83)) w1.heap.size (.int .i64 a0) (.int .i64 b0) (.string v0) := heap_alloc_new w1 _
                 obtain ⟨y0, y1, y2⟩ := hc3.cells
                 have HC3 := Aside0.mk hc3
                 have q7 := (boxed_sameC HN7.out (SameC.of_below hbv)).cell
                 have q8 := (boxed_sameC HN7.out (SameC.of_below hbv)).frozen
                 have qv0 := (boxed_sameC HV0.out (SameC.of_below hbv)).cell
                 have q9 := (SameC.of_below hbv).cell hx0
                 have HVC := Aside0.mk q9
                 have hr1 := HRES.out.sameC (SameC.of_below hbv)
                 have HR1 := Aside0.mk hr1
                 have qr0 := hr1.r0.cell
                 clear hb hbv hc3 hr1)
              | (refine ⟨trivial, ?_⟩; gi_at_call 46; (refine (CallsIn.inRound l' (callsIn_wide.2 (slices_Contains_string_string.calls kc Av cv vs v0 true _ (Kd.C_alloc (Kd.C_below (Kd.C_below HRV.out HB.out) HB1.out) _) HCV.out HKC.out))).mono ?_); rintro e w2 ⟨rfl, hd⟩
                 have hb2 := hd.below
                 have q7 := (boxed_sameC HN7.out (SameC.of_below (HBV.out.trans (hb2.mono HBV.out.size)))).cell
                 have hc9 : C3 83 w2 w1.heap.size (.int .i64 a0) (.int .i64 b0) (.string v0) := (hb2.block _ HC3.out.lt).trans HC3.out
                 obtain ⟨y0, y1, y2⟩ := hc9.cells
                 have HBV := Aside0.mk (HBV.out.trans (hb2.mono HBV.out.size))
                 clear hd hb2 hc9)
              | (refine ⟨trivial, ?_⟩; gi_at_call 47; refine (CallsIn.inRound l' (callsIn_wide.2 (HADD0.out _ HBV.out))).mono ?_; rintro e w3 ⟨rfl, hb⟩
                 have hb3 := HBV.out.trans (hb.mono HBV.out.size)
                 have hn3 := boxed_sameC HN7.out (SameC.of_below hb3)
                 have q7c := hn3.cell
                 have q7f := hn3.frozen
                 have HN3 := Aside0.mk hn3
                 have HB3 := Aside0.mk hb3
                 clear hn3 hb3 hb q7 q8 q9)
              | (refine ⟨(trivial : Fence.wide.fn _), ?_⟩))
            have hv3 : (w3.setCell ⟨w5.heap.size, 0, none⟩ (.pointer none)).cell? ⟨vb, 0, none⟩ = some (.int .i64 x1) := by
              have hvx := (SameC.of_below HB3.out) _ _ HVBX.out rfl
              have hne9 : vb ≠ w5.heap.size := by have := HVL.out; have := HSZ.out; omega
              have : (w3.setCell ⟨w5.heap.size, 0, none⟩ (.pointer none)).heap[vb]? = _ := (Below.heap_setCell w3 ⟨w5.heap.size, 0, none⟩ (.pointer none) vb hne9).trans hvx
              simp only [World.cell?]
              rw [this]; rfl
            have hr3 := (HRES.out.sameC (SameC.of_below HB3.out)).sameB (SameB.set w3 ⟨w5.heap.size, 0, none⟩ (.pointer none)) (by show w.heap.size + 1 + 3 ≤ w5.heap.size; have := HSZ.out; omega)
            have HVC := Aside0.mk hv3
            have HR3 := Aside0.mk hr3
            clear hv3 hr3 hx0 hx1 q7c q7f
            have bx0 : Boxed (w3.setCell ⟨w5.heap.size, 0, none⟩ (.pointer none)).drew (w.heap.size + 1) 26 (.pointer none) := HR3.out.r0
            have bx1 : Boxed (((w3.setCell ⟨w5.heap.size, 0, none⟩ (.pointer none)).setCell ⟨w.heap.size + 1, 0, none⟩ (.pointer none))).drew (w.heap.size + 1 + 1) 27 (.int .i64 0) := boxed_setZ HR3.out.r1 (by omega)
            have bx2 : Boxed ((((w3.setCell ⟨w5.heap.size, 0, none⟩ (.pointer none)).setCell ⟨w.heap.size + 1, 0, none⟩ (.pointer none)).setCell ⟨w.heap.size + 1 + 1, 0, none⟩ (.int .i64 e9))).drew (w.heap.size + 1 + 1 + 1) 3 (.int .i64 0) := boxed_setZ (boxed_setZ HR3.out.r2 (by omega)) (by omega)
            have g0 := bx0.cell
            have g1 := bx0.frozen
            have g2 := bx1.cell
            have g3 := bx1.frozen
            have g4 := bx2.cell
            have g5' := bx2.frozen
            clear bx0 bx1 bx2
            have hn0 : ∀ (V : World) (b : Nat) (u : Value) (p : Addr), p.block ≠ b → (V.setCell ⟨b, 0, none⟩ u).cell? p = V.cell? p := fun V b u p h => World.cell?_of_block (Below.heap_setCell V ⟨b, 0, none⟩ u p.block h)
            have hvbn : w.heap.size + 4 ≤ vb := by have := HVL.out; have := HSZ.out; omega
            have hS : (fun w' : World => w'.cell? ⟨vb, 0, none⟩ = some (.int .i64 x1)) (w3.setCell ⟨w5.heap.size, 0, none⟩ (.pointer none)).drew := HVC.out
            have hS1 : (fun w' : World => w'.cell? ⟨vb, 0, none⟩ = some (.int .i64 x1)) (((w3.setCell ⟨w5.heap.size, 0, none⟩ (.pointer none)).setCell ⟨w.heap.size + 1, 0, none⟩ (.pointer none))).drew := (hn0 _ _ _ _ (by show vb ≠ _; omega)).trans hS
            have hS2 : (fun w' : World => w'.cell? ⟨vb, 0, none⟩ = some (.int .i64 x1)) ((((w3.setCell ⟨w5.heap.size, 0, none⟩ (.pointer none)).setCell ⟨w.heap.size + 1, 0, none⟩ (.pointer none)).setCell ⟨w.heap.size + 1 + 1, 0, none⟩ (.int .i64 e9))).drew := (hn0 _ _ _ _ (by show vb ≠ _; omega)).trans hS1
            have hS3 : (fun w' : World => w'.cell? ⟨vb, 0, none⟩ = some (.int .i64 x1)) (((((w3.setCell ⟨w5.heap.size, 0, none⟩ (.pointer none)).setCell ⟨w.heap.size + 1, 0, none⟩ (.pointer none)).setCell ⟨w.heap.size + 1 + 1, 0, none⟩ (.int .i64 e9)).setCell ⟨w.heap.size + 1 + 1 + 1, 0, none⟩ (.int .i64 x1))).drew := (hn0 _ _ _ _ (by show vb ≠ _; omega)).trans hS2
            clear hn0 hvbn
            refine wpIn_region_round_held (fun w' : World => w'.cell? ⟨vb, 0, none⟩ = some (.int .i64 x1)) (by kernel_rfl) (by kernel_rfl) ?_
            show wpAnyH _ _ _ _ _ _ _ _ (w3.setCell ⟨w5.heap.size, 0, none⟩ (.pointer none)).drew
            refine wpAnyH_take (i := 0) (v := .int .i64 e9) rfl (by kernel_rfl) (by kernel_rfl) (by kernel_rfl) (fun _ _ _ h => h) (.inl ⟨by kernel_rfl, fun w' hS => by have q_1 := hS; first | (go_simp; done) | (go_simp; simp [*]; done)⟩) hS ?_
            try simp only [List.getElem_toArray, List.getElem_cons_succ, List.getElem_cons_zero, Act.put, List.setIfInBounds_toArray, List.set_cons_zero, List.set_cons_succ]
            refine wpAnyH_take (i := 1) (v := .pointer (some ⟨vb, 0, none⟩)) rfl (by kernel_rfl) (by kernel_rfl) (by kernel_rfl) (fun _ _ _ h => h) (.inl ⟨by kernel_rfl, fun w' hS => by have q_1 := hS; first | (go_simp; done) | (go_simp; simp [*]; done)⟩) hS ?_
            try simp only [List.getElem_toArray, List.getElem_cons_succ, List.getElem_cons_zero, Act.put, List.setIfInBounds_toArray, List.set_cons_zero, List.set_cons_succ]
            refine wpAnyH_take (i := 2) (v := .int .i64 x1) rfl (by kernel_rfl) (by kernel_rfl) (by kernel_rfl) (fun _ _ _ h => h) (.inl ⟨by kernel_rfl, fun w' hS => by have q_1 := hS; first | (go_simp; done) | (go_simp; simp [*]; done)⟩) hS ?_
            try simp only [List.getElem_toArray, List.getElem_cons_succ, List.getElem_cons_zero, Act.put, List.setIfInBounds_toArray, List.set_cons_zero, List.set_cons_succ]
            refine wpAnyH_ready (rs := [3]) (by kernel_rfl) (by simp) (AllReadyH.cons rfl (fun K' hK => ?_) AllReadyH.nil)
            rw [if_pos (by kernel_rfl)]
            go_simp
            refine hK.out _ _ hS1 (fun _ => ?_)
            clear hK
            try simp only [List.getElem_toArray, List.getElem_cons_succ, List.getElem_cons_zero, Act.put, List.setIfInBounds_toArray, List.set_cons_zero, List.set_cons_succ]
            refine wpAnyH_ready (rs := [4]) (by kernel_rfl) (by simp) (AllReadyH.cons rfl (fun K' hK => ?_) AllReadyH.nil)
            rw [if_pos (by kernel_rfl)]
            go_simp
            refine hK.out _ _ hS2 (fun _ => ?_)
            clear hK
            try simp only [List.getElem_toArray, List.getElem_cons_succ, List.getElem_cons_zero, Act.put, List.setIfInBounds_toArray, List.set_cons_zero, List.set_cons_succ]
            refine wpAnyH_ready (rs := [5]) (by kernel_rfl) (by simp) (AllReadyH.cons rfl (fun K' hK => ?_) AllReadyH.nil)
            rw [if_pos (by kernel_rfl)]
            go_simp
            refine hK.out _ _ hS3 (fun _ => ?_)
            clear hK
            try simp only [List.getElem_toArray, List.getElem_cons_succ, List.getElem_cons_zero, Act.put, List.setIfInBounds_toArray, List.set_cons_zero, List.set_cons_succ]
            refine wpAnyH_done (by kernel_rfl) ?_ _
            refine NoPanic.normal ?_
            gi_wp2
            refine ⟨?_, rfl, e9, x1, ?_, ?_, ?_, ?_⟩
            · exact (keepsFrom_below2 HB3.out).trans (((KeepsOthers.setCell _ _ _).trans ((KeepsOthers.drew _).trans (((KeepsOthers.setCell _ _ _).trans (KeepsOthers.setCell _ _ _)).trans (KeepsOthers.setCell _ _ _)))).from _)
            · rw [← HGO.out, ppGo_twice (x := (x1, xf)) HAMS.out HC2.out, HE9.out]
            · have hz := HR3.out.set (.pointer none) (.int .i64 e9) (.int .i64 x1)
              exact ⟨hz.r0, hz.r1, hz.r2⟩
            · exact set3_below (below_drew ((HB.out.trans (HB3.out.mono HB.out.size)).setCell (p := ⟨w5.heap.size, 0, none⟩) (by show w.heap.size ≤ w5.heap.size; have := HSZ.out; omega) _)) (by omega) _ _ _
            · show w7.heap.size ≤ (World.setCell (World.setCell (World.setCell _ _ _) _ _) _ _).heap.size
              simp only [World.size_setCell]
              exact Nat.le_trans HSW.out HB3.out.size
    · have f0 : (er == 0) = false := beq_eq_false_iff_ne.mpr c1
      have f1 : (er != 0) = true := bne_iff_ne.mpr c1
      have HC1 := Aside0.mk c1
      have hie : ppS vs xf = .inl er := by rw [HLN.out, if_neg c1]
      have HIE := Aside0.mk hie
      clear c1 hie
      gi_wp2_with (first
          | (refine ⟨trivial, ?_⟩; gi_at_call 45; refine (CallsIn.inRound l' (callsIn_wide.2 HCL.out)).mono ?_; rintro e w1 ⟨rfl, hb⟩
             have HB1 := Aside0.mk hb
             have hbv := hb.alloc hb.size (.cells #[.int .i64 a0, .int .i64 b0, .string v0] 83)
             have HBV := Aside0.mk hbv
             have hc3 : C3 83 (w1.alloc (.cells #[.int .i64 a0, .int .i64 b0, .string v0] 83)) w1.heap.size (.int .i64 a0) (.int .i64 b0) (.string v0) := heap_alloc_new w1 _
             obtain ⟨y0, y1, y2⟩ := hc3.cells
             have HC3 := Aside0.mk hc3
             have q7 := (boxed_sameC HN7.out (SameC.of_below hbv)).cell
             have q8 := (boxed_sameC HN7.out (SameC.of_below hbv)).frozen
             have qv0 := (boxed_sameC HV0.out (SameC.of_below hbv)).cell
             have q9 := (SameC.of_below hbv).cell hx0
             have HVC := Aside0.mk q9
             have hr1 := HRES.out.sameC (SameC.of_below hbv)
             have HR1 := Aside0.mk hr1
             have qr0 := hr1.r0.cell
             clear hb hbv hc3 hr1))
      clear hx0 hx1 y0 y1 y2 q7 q8 q9 qv0 qr0
      have bx0 : Boxed (w1.alloc (.cells #[.int .i64 a0, .int .i64 b0, .string v0] 83)).drew (w.heap.size + 1) 26 (.pointer none) := HR1.out.r0
      have bx1 : Boxed (((w1.alloc (.cells #[.int .i64 a0, .int .i64 b0, .string v0] 83)).setCell ⟨w.heap.size + 1, 0, none⟩ (.pointer none))).drew (w.heap.size + 1 + 1) 27 (.int .i64 0) := boxed_setZ HR1.out.r1 (by omega)
      have bx2 : Boxed ((((w1.alloc (.cells #[.int .i64 a0, .int .i64 b0, .string v0] 83)).setCell ⟨w.heap.size + 1, 0, none⟩ (.pointer none)).setCell ⟨w.heap.size + 1 + 1, 0, none⟩ (.int .i64 er))).drew (w.heap.size + 1 + 1 + 1) 3 (.int .i64 0) := boxed_setZ (boxed_setZ HR1.out.r2 (by omega)) (by omega)
      have g0 := bx0.cell
      have g1 := bx0.frozen
      have g2 := bx1.cell
      have g3 := bx1.frozen
      have g4 := bx2.cell
      have g5' := bx2.frozen
      clear bx0 bx1 bx2
      have hn0 : ∀ (V : World) (b : Nat) (u : Value) (p : Addr), p.block ≠ b → (V.setCell ⟨b, 0, none⟩ u).cell? p = V.cell? p := fun V b u p h => World.cell?_of_block (Below.heap_setCell V ⟨b, 0, none⟩ u p.block h)
      have hvbn : w.heap.size + 4 ≤ vb := by have := HVL.out; have := HSZ.out; omega
      have hS : (fun w' : World => w'.cell? ⟨vb, 0, none⟩ = some (.int .i64 x1)) (w1.alloc (.cells #[.int .i64 a0, .int .i64 b0, .string v0] 83)).drew := HVC.out
      have hS1 : (fun w' : World => w'.cell? ⟨vb, 0, none⟩ = some (.int .i64 x1)) (((w1.alloc (.cells #[.int .i64 a0, .int .i64 b0, .string v0] 83)).setCell ⟨w.heap.size + 1, 0, none⟩ (.pointer none))).drew := (hn0 _ _ _ _ (by show vb ≠ _; omega)).trans hS
      have hS2 : (fun w' : World => w'.cell? ⟨vb, 0, none⟩ = some (.int .i64 x1)) ((((w1.alloc (.cells #[.int .i64 a0, .int .i64 b0, .string v0] 83)).setCell ⟨w.heap.size + 1, 0, none⟩ (.pointer none)).setCell ⟨w.heap.size + 1 + 1, 0, none⟩ (.int .i64 er))).drew := (hn0 _ _ _ _ (by show vb ≠ _; omega)).trans hS1
      have hS3 : (fun w' : World => w'.cell? ⟨vb, 0, none⟩ = some (.int .i64 x1)) (((((w1.alloc (.cells #[.int .i64 a0, .int .i64 b0, .string v0] 83)).setCell ⟨w.heap.size + 1, 0, none⟩ (.pointer none)).setCell ⟨w.heap.size + 1 + 1, 0, none⟩ (.int .i64 er)).setCell ⟨w.heap.size + 1 + 1 + 1, 0, none⟩ (.int .i64 x1))).drew := (hn0 _ _ _ _ (by show vb ≠ _; omega)).trans hS2
      clear hn0 hvbn
      refine wpIn_region_round_held (fun w' : World => w'.cell? ⟨vb, 0, none⟩ = some (.int .i64 x1)) (by kernel_rfl) (by kernel_rfl) ?_
      show wpAnyH _ _ _ _ _ _ _ _ (w1.alloc (.cells #[.int .i64 a0, .int .i64 b0, .string v0] 83)).drew
      refine wpAnyH_take (i := 0) (v := .int .i64 er) rfl (by kernel_rfl) (by kernel_rfl) (by kernel_rfl) (fun _ _ _ h => h) (.inl ⟨by kernel_rfl, fun w' hS => by have q_1 := hS; first | (go_simp; done) | (go_simp; simp [*]; done)⟩) hS ?_
      try simp only [List.getElem_toArray, List.getElem_cons_succ, List.getElem_cons_zero, Act.put, List.setIfInBounds_toArray, List.set_cons_zero, List.set_cons_succ]
      refine wpAnyH_take (i := 1) (v := .pointer (some ⟨vb, 0, none⟩)) rfl (by kernel_rfl) (by kernel_rfl) (by kernel_rfl) (fun _ _ _ h => h) (.inl ⟨by kernel_rfl, fun w' hS => by have q_1 := hS; first | (go_simp; done) | (go_simp; simp [*]; done)⟩) hS ?_
      try simp only [List.getElem_toArray, List.getElem_cons_succ, List.getElem_cons_zero, Act.put, List.setIfInBounds_toArray, List.set_cons_zero, List.set_cons_succ]
      refine wpAnyH_take (i := 2) (v := .int .i64 x1) rfl (by kernel_rfl) (by kernel_rfl) (by kernel_rfl) (fun _ _ _ h => h) (.inl ⟨by kernel_rfl, fun w' hS => by have q_1 := hS; first | (go_simp; done) | (go_simp; simp [*]; done)⟩) hS ?_
      try simp only [List.getElem_toArray, List.getElem_cons_succ, List.getElem_cons_zero, Act.put, List.setIfInBounds_toArray, List.set_cons_zero, List.set_cons_succ]
      refine wpAnyH_ready (rs := [3]) (by kernel_rfl) (by simp) (AllReadyH.cons rfl (fun K' hK => ?_) AllReadyH.nil)
      rw [if_pos (by kernel_rfl)]
      go_simp
      refine hK.out _ _ hS1 (fun _ => ?_)
      clear hK
      try simp only [List.getElem_toArray, List.getElem_cons_succ, List.getElem_cons_zero, Act.put, List.setIfInBounds_toArray, List.set_cons_zero, List.set_cons_succ]
      refine wpAnyH_ready (rs := [4]) (by kernel_rfl) (by simp) (AllReadyH.cons rfl (fun K' hK => ?_) AllReadyH.nil)
      rw [if_pos (by kernel_rfl)]
      go_simp
      refine hK.out _ _ hS2 (fun _ => ?_)
      clear hK
      try simp only [List.getElem_toArray, List.getElem_cons_succ, List.getElem_cons_zero, Act.put, List.setIfInBounds_toArray, List.set_cons_zero, List.set_cons_succ]
      refine wpAnyH_ready (rs := [5]) (by kernel_rfl) (by simp) (AllReadyH.cons rfl (fun K' hK => ?_) AllReadyH.nil)
      rw [if_pos (by kernel_rfl)]
      go_simp
      refine hK.out _ _ hS3 (fun _ => ?_)
      clear hK
      try simp only [List.getElem_toArray, List.getElem_cons_succ, List.getElem_cons_zero, Act.put, List.setIfInBounds_toArray, List.set_cons_zero, List.set_cons_succ]
      refine wpAnyH_done (by kernel_rfl) ?_ _
      refine NoPanic.normal ?_
      gi_wp2
      refine ⟨?_, rfl, er, x1, ?_, ?_, ?_, ?_⟩
      · exact (keepsFrom_below2 HBV.out).trans (((KeepsOthers.drew _).trans (((KeepsOthers.setCell _ _ _).trans (KeepsOthers.setCell _ _ _)).trans (KeepsOthers.setCell _ _ _))).from _)
      · rw [← HGO.out, ppGo_err (x := (x1, xf)) HIE.out]
      · have hz := HR1.out.set (.pointer none) (.int .i64 er) (.int .i64 x1)
        exact ⟨hz.r0, hz.r1, hz.r2⟩
      · exact set3_below (below_drew (HB.out.trans (HBV.out.mono HB.out.size))) (by omega) _ _ _
      · show w7.heap.size ≤ (World.setCell (World.setCell (World.setCell _ _ _) _ _) _ _).heap.size
        simp only [World.size_setCell]
        exact Nat.le_trans HSW.out HBV.out.size
  case done =>
    rintro D ys W hD hys ⟨acc, g7, hN7, hT7, ⟨hOK, hal, hgo⟩, hRes, hV0, hB, hSW⟩ hK
    have hy : ys.length = X.length := by rw [← hys, List.length_map]
    have hgo : ppGo vs X [] = (some acc, 0, 0) := by rw [← hgo, hy, List.drop_length]; rfl
    have hc7 := hN7.cell
    obtain ⟨⟨g0, g1⟩, g2, g3⟩ := hRes.facts
    have g4 := (g2 (.pointer (some ⟨g7, 0, none⟩))).1
    have g5' := (g2 (.pointer (some ⟨g7, 0, none⟩))).2
    have g6 := (g3 (.pointer (some ⟨g7, 0, none⟩)) (.int .i64 0)).1
    have g8 := (g3 (.pointer (some ⟨g7, 0, none⟩)) (.int .i64 0)).2
    have HGO := Aside0.mk hgo
    have HRES := Aside0.mk hRes
    have HT7 := Aside0.mk hT7
    have HOK := Aside0.mk hOK
    have HN7 := Aside0.mk hN7
    have HB := Aside0.mk hB
    have HK := Aside0.mk hK
    have HD := Aside0.mk hD
    clear hN7 hT7 hOK hal hgo hRes hV0 hB hSW hK hD hys hy g2 g3
    go_wp2
    have hd := HD.out
    have hsz := HSZ.out
    have hres := HRES.out.set (.pointer (some ⟨g7, 0, none⟩)) (.int .i64 0) (.int .i64 0)
    have hDs : (set3 W (w.heap.size + 1) (.pointer (some ⟨g7, 0, none⟩)) (.int .i64 0) (.int .i64 0)).heap[D]? = some (.deferred (some [])) := (set3_heap W _ _ _ _ D (.inr (by omega))).trans HK.out
    have hbs := set3_below HB.out (show w.heap.size ≤ w.heap.size + 1 by omega) (.pointer (some ⟨g7, 0, none⟩)) (.int .i64 0) (.int .i64 0)
    have hmk := hres.mark hbs (by omega) hDs (by omega)
    have hTs : Tab (set3 W (w.heap.size + 1) (.pointer (some ⟨g7, 0, none⟩)) (.int .i64 0) (.int .i64 0)) (some ⟨g7, 0, none⟩) acc := tab_set3 HT7.out HRES.out _ _ _
    refine ⟨by simp, .inl ⟨_, _, rfl, run_takeDeferred hDs, ?_⟩⟩
    rw [HGO.out]
    obtain ⟨m0, m1, m2, m3⟩ := hmk (.deferred none)
    unfold set3 at m0 m1 m2
    exact ⟨_, by simp [results, Tryz.results15, go_sem, m0, m1, m2], m3, some ⟨g7, 0, none⟩, rfl, ⟨g7, rfl⟩, tab_putD hTs hDs, HOK.out⟩
  case stop =>
    rintro D c pre W hD hSp ⟨rfl, e, n, hgo, hRes, hB, hSW⟩ hK
    have HGO := Aside0.mk hgo
    have HRES := Aside0.mk hRes
    have HB := Aside0.mk hB
    have HK := Aside0.mk hK
    have HD := Aside0.mk hD
    clear hgo hRes hB hSW hK hD hSp
    refine wpIn_wide.2 ?_
    go_wp2
    have hd := HD.out
    have hsz := HSZ.out
    have hmk := HRES.out.mark HB.out (by omega) HK.out (by omega)
    refine ⟨by simp, .inl ⟨_, _, rfl, run_takeDeferred HK.out, ?_⟩⟩
    rw [HGO.out]
    obtain ⟨m0, m1, m2, m3⟩ := hmk (.deferred none)
    exact ⟨_, by simp [results, Tryz.results15, go_sem, m0, m1, m2], m3, none, rfl, rfl⟩
end Go.Proofs.YtbpdcbibooiimaaGreatDoor.Q
/- prop's reference: Parse. -/
namespace Go.Proofs.YtbpdcbibooiimaaGreatDoor.Q
open Go.RowKit Go.Shelf Go.Proofs.YtbpdcbibooiimaaGreatDoorW.PrintWords Go.Proofs.YtbpdcbibooiimaaGreatDoorW.PrintLast Go.Proofs.YtbpdcbibooiimaaGreatDoorW.PrintMore Go.Proofs.YtbpdcbibooiimaaGreatDoor.K
def prfL (o : Option (List S83)) : List S93 := match o with
  | none => []
  | some l => l.map c53
theorem operCall {P : Program} {Q : Exit → Act → World → Prop} {K : Act → World → Prop} {oi : Oper} {a : Act} {w : World} {f : FuncId} {fn : Func} {aa : Array Operand} {ts : Array TypeId} (hf : P.funcs[f]? = some fn) (hname : (fn.name == "runtime.NumGoroutine") = false) (hb : fn.body.isSome = true) (args : Array Value)
    (hop : oi.op = .call { callee := .value (.func f), args := aa, argTypes := ts }) (hargs : aa.map a.eval = args)
    (h : Calls P f args w fun e w' => ∃ v, e = .returned v ∧ K (a.put oi.dst v) w') : Oper.wp P oi a w K Q := by
  have he := enters_ hf hname hb args w
  have hrun : (execOp a.eval oi).run P w = .ok (.enter f args) w := by
    unfold execOp
    simp [hop, resolve, Deferred.ofValue, invoke, Act.eval, hargs, he]
  unfold Oper.wp
  rw [hrun, Oper.upon_enter]
  refine h.mono fun e w'' hh => ?_
  obtain ⟨v, rfl, hk⟩ := hh
  exact hk
theorem operVal {P : Program} {Q : Exit → Act → World → Prop} {K : Act → World → Prop} {oi : Oper} {a : Act} {w : World} {v : Value} (hrun : (execOp a.eval oi).run P w = .ok (.value v) w) (h : K (a.put oi.dst v) w) : Oper.wp P oi a w K Q := by
  unfold Oper.wp
  rw [hrun]
  exact h
theorem refCheck.calls (k : Nat) (A0 : Option Addr) (c0 n : Nat) (l0 : List S93) (a1_0 : Int) (a1_1 : Int) (a1_2 : ByteArray) (r : Int) (w : World) (hr0 : Kd.C k93 w A0 n l0) (hn : l0.length = n) (hc0 : n ≤ c0) (h : paronymref03_Check.f k l0 a1_0 a1_1 a1_2 = some r) :
    Calls Tryz.prog 50 #[.slice A0 n c0, .agg #[.int .i64 a1_0, .int .i64 a1_1, .string a1_2]] w fun e w' => e = .returned (.int .i64 r) ∧ Below w.heap.size w w' := by
  subst hn
  exact paronymref03_Check.calls k A0 c0 l0 a1_0 a1_1 a1_2 r w hr0 hc0 h
theorem refSorted.calls (k : Nat) (A0 : Option Addr) (c0 n : Nat) (l0 : List S93) (r : List S93) (w : World) (hr0 : Kd.C k93 w A0 l0.length l0) (hn : l0.length = n) (hc0 : n ≤ c0) (h : paronymref03_Sorted.f k l0 = some r) :
    Calls Tryz.prog 51 #[.slice A0 n c0] w fun e w' => ∃ v0_ : Value, e = .returned (v0_) ∧ Kd.R k93 93 w' w.heap.size (fun _ => True) v0_ r ∧ Below w.heap.size w w' := by
  subst hn
  exact paronymref03_Sorted.calls k A0 c0 l0 r w hr0 hc0 h
set_option maxHeartbeats 8000000 in
set_option maxRecDepth 100000 in
theorem refParse5.calls (L : List Int) (ho : Oct L) (hl : L.length ≤ 50000) (Av : Option Addr) (cv : Nat) (vs : List ByteArray) (hvl : vs.length ≤ 1000000) (w : World) (hrv : Kd.C Kd.string w Av vs.length vs) (hcv : vs.length ≤ cv) :
    Calls Tryz.prog 16 #[.string (strOfNums L), .slice Av vs.length cv] w fun e w' => ∃ v, e = .returned (.tuple #[v, .int .i64 (ppGo vs (linesI 0 (spl 10 L)) []).2.1, .int .i64 (ppGo vs (linesI 0 (spl 10 L)) []).2.2]) ∧
      Kd.R k93 93 w' w.heap.size (fun _ => True) v (prfL (ppGo vs (linesI 0 (spl 10 L)) []).1) ∧ Below w.heap.size w w' := by
  obtain ⟨k1, hk1⟩ := (lines_ev ho (by omega)).rounds
  obtain ⟨X, hX⟩ : ∃ X, X = linesI 0 (spl 10 L) := ⟨_, rfl⟩
  have hXn : X.length ≤ 50001 := by
    rw [hX]
    have h1 := linesI_len (spl 10 L) 0
    have h2 := splP_count (fun x => decide (x = (10 : Int))) L
    unfold spl at h1 ⊢; omega
  have hXo : ∀ p ∈ X, ∀ q ∈ p.2, Oct q ∧ q.length ≤ 50000 := by
    rw [hX]
    exact linesI_oct _ 0 (fun l hl2 => ⟨oct_spl ho hl2, by have := len_spl hl2; omega⟩)
  rw [linesS_is, ← hX] at hk1
  rw [← hX]
  have HXN := Aside0.mk hXn
  have HXO := Aside0.mk hXo
  have HK1 := Aside0.mk hk1
  have HVL := Aside0.mk hvl
  have HRV := Aside0.mk hrv
  have HCV := Aside0.mk hcv
  clear hX hXn hXo hk1 hvl hrv hcv ho hl
  go_enter Tryz.func16, Tryz.ntmps16
  go_wp2_with (go_at_call 48; refine (paronymref02_Lines.calls k1 _ _ _ HK1.out).mono ?_; rintro e w1 ⟨v1, rfl, hs, hb⟩
               obtain ⟨Aw, cw, e, hcw, hCw⟩ := Kd.R_reads (Kd.S_R hs)
               rw [List.length_map] at e hcw hCw
               subst e
               have HB1 := Aside0.mk hb
               have HCW := Aside0.mk hcw
               have HW := Aside0.mk hCw
               clear hs hb hcw hCw)
  go_loopg [8, 9] (X.length + 1) (fun kq v8 v9 wr => ∃ (i : Nat) (l : List S83), v9 = .int .i64 (i : Int) ∧ Aside0 (i + kq = X.length + 1 ∧ i ≤ X.length ∧ l.length ≤ i) ∧ Aside0 ((newR [] l).1 = 0 ∧ ppGo vs (X.drop i) (newR [] l).2 = ppGo vs X []) ∧ Aside0 (Kd.R k93 93 wr w1.heap.size (fun _ => True) v8 (l.map c53)) ∧ Aside0 (Below w.heap.size w wr) ∧ Aside0 (Below w1.heap.size w1 wr))
  case atStart => exact ⟨0, [], rfl, ⟨by omega, by omega, by simp⟩, ⟨rfl, rfl⟩, ⟨Kd.R_nil _ _ _ _ _⟩, HB1, ⟨Below.refl _ _⟩⟩
  case round =>
    obtain ⟨i, l, rfl, HI, HP, HO8, HB, HBW⟩ := hrel
    cases gk with
    | zero => exact absurd HI.out (by omega)
    | succ kq =>
      have hO8 := HO8.out
      obtain ⟨A8, c8, hv8⟩ := Kd.R_slice hO8
      rw [List.length_map] at hv8
      subst hv8
      clear hO8
      by_cases c1 : (i : Int) < (X.length : Int)
      · have hil : i < X.length := by omega
        have b0 : 0 ≤ (i : Int) := by omega
        obtain ⟨ad, A1, n1, e1, hx0, hx1, hl1, hC1⟩ := at_T90 (Kd.C_below (by rw [← @List.length_map _ _ X toS] at HW; exact HW.out) HBW.out) (i : Int) b0 (by rw [List.length_map]; exact c1)
        have hx : X[i]? = some X[i] := List.getElem?_eq_getElem hil
        have hrd : rd_T90 (X.map toS) (i : Int) = toS X[i] := by
          unfold rd_T90
          rw [Int.toNat_natCast, List.getD_eq_getElem?_getD, List.getElem?_map, hx]; rfl
        rw [hrd] at hx0 hx1 hl1 hC1
        have hdrop : X.drop i = X[i] :: X.drop (i + 1) := List.drop_eq_getElem_cons hil
        have hmem : X[i] ∈ X := List.getElem_mem hil
        obtain ⟨x, hxe⟩ : ∃ x, x = X[i] := ⟨_, rfl⟩
        rw [← hxe] at hx0 hx1 hl1 hC1 hdrop hmem
        obtain ⟨x1, xf⟩ := x
        have hfo := HXO.out _ hmem
        have hgo := HP.out.2
        rw [hdrop] at hgo
        have hln : (toS (x1, xf)).f1.length = xf.length := List.length_map ..
        rw [hln] at hx1 hl1 hC1
        have hx0 : wr.cell? (ad.add (i * 2)) = some (.int .i64 x1) := by rw [Int.toNat_natCast] at hx0; exact hx0
        have hx1 : wr.cell? ⟨(ad.add (i * 2)).block, (ad.add (i * 2)).off + 1, none⟩ = some (.slice A1 xf.length n1) := by rw [Int.toNat_natCast] at hx1; exact hx1
        have hC1 : Kd.C Kd.string wr A1 xf.length (xf.map strOfNums) := hC1
        cases e1
        have HX0 := Aside0.mk hx0
        have HFO := Aside0.mk hfo
        have HGO := Aside0.mk hgo
        have HIL := Aside0.mk hil
        have e0 := eq_true c1
        have e2 : decide ((i : Int) < (X.length : Int)) = true := decide_eq_true c1
        have e3 : (0 ≤ (i : Int)) = True := eq_true b0
        have e2n : (i < X.length) = True := eq_true hil
        clear hx hrd hdrop hmem hxe hfo hgo hln hl1 c1 b0 hil
        by_cases c2 : xf.length < 2
        · have f0 : decide ((xf.length : Int) < 2) = true := decide_eq_true (by omega)
          have f1 : decide (xf.length < 2) = true := decide_eq_true c2
          have hie : ppS vs xf = .inl 12 := ppS_short c2
          have HIE := Aside0.mk hie
          clear c2 hie hC1
          go_wp2
          repeat (go_quiet (fail); try go_wp2)
          go_ret3
          rw [← HGO.out, ppGo_err (x := (x1, xf)) HIE.out]
          exact ⟨_, rfl, Kd.R_nil _ _ _ _ _, (by repeat (first | (with_reducible first | exact HB.out | apply below_alloc | apply pw_below_drewN | apply below_drew1) | exact HB.out))⟩
        · have f0 : decide ((xf.length : Int) < 2) = false := decide_eq_false (by omega)
          have f1 : decide (xf.length < 2) = false := decide_eq_false c2
          have hf3 : ∃ a b r, xf = a :: b :: r := by
            match xf, c2 with
            | [], h => simp at h
            | [a], h => simp at h
            | a :: b :: r, _ => exact ⟨a, b, r, rfl⟩
          obtain ⟨a, b, r, hxf⟩ := hf3
          obtain ⟨ad1, rfl, hcs⟩ := strs_cell hC1 (by omega)
          have h0 : wr.cell? ad1 = some (.string (strOfNums a)) := by have := hcs 0 (by omega); rw [Addr.add_zero'] at this; simp only [hxf] at this; exact this
          have h1 : wr.cell? (ad1.add 1) = some (.string (strOfNums b)) := by have := hcs 1 (by omega); simp only [hxf] at this; exact this
          simp only [Nat.reduceEqDiff, Go.Addr.add, ↓reduceIte] at h1
          have H1 := Aside0.mk h1
          have hfa := HFO.out a (by rw [hxf]; simp)
          have e5 : (0 < xf.length) = True := eq_true (by omega)
          have e6 : (1 < xf.length) = True := eq_true (by omega)
          have e5i : ((0 : Int) < (xf.length : Int)) = True := eq_true (by omega)
          have e6i : ((1 : Int) < (xf.length : Int)) = True := eq_true (by omega)
          obtain ⟨kr, hkr⟩ := (refRange_ev hfa.1 (by have := hfa.2; omega)).rounds
          obtain ⟨a0, ha0⟩ : ∃ a0, a0 = (rangeL a).1 := ⟨_, rfl⟩
          obtain ⟨b0, hb0⟩ : ∃ b0, b0 = (rangeL a).2.1 := ⟨_, rfl⟩
          obtain ⟨er, her⟩ : ∃ er, er = (rangeL a).2.2 := ⟨_, rfl⟩
          have hkr2 : paronymref02_Range.f kr (strOfNums a) = some (a0, b0, er) := by rw [hkr, ha0, hb0, her]
          have HKR := Aside0.mk hkr2
          have HA0 := Aside0.mk ha0
          have HB0 := Aside0.mk hb0
          have HER := Aside0.mk her
          have HXF := Aside0.mk hxf
          clear c2 hC1 hcs hfa hkr hkr2 ha0 hb0 her hxf h1
          by_cases c3 : er = 0
          · have HC3 : Aside0 ((rangeL a).2.2 = 0) := ⟨by rw [← HER.out]; exact c3⟩
            subst c3
            by_cases c4 : b = []
            · have hie : ppS vs xf = .inl 16 := by rw [HXF.out, c4]; exact ppS_empty HC3.out
              have HIE := Aside0.mk hie
              have g1 : (strOfNums b).toList = ([] : List UInt8) := str_nilU.2 c4
              have g2 : ((strOfNums b).toList == ([] : List UInt8)) = true := beq_iff_eq.mpr g1
              have g3 : (strOfNums b).toList.isEmpty = true := by rw [g1]; rfl
              clear hie c4
              go_wp2_with (go_at_call 49; (with_reducible refine (paronymref02_Range.calls kr _ _ _ _ _ HKR.out).mono ?_); rintro e w2 ⟨rfl, hb⟩; have h1 := (hb.cell (World.block_lt_of_cell? wr _ H1.out)).trans H1.out; have hx0 := (hb.cell (World.block_lt_of_cell? wr _ HX0.out)).trans HX0.out; have hx1 := (hb.cell (World.block_lt_of_cell? wr _ hx1)).trans hx1; have HB := Aside0.mk (HB.out.trans (hb.mono HB.out.size)); clear hb)
              repeat (go_quiet (fail); try go_wp2)
              go_ret3
              rw [← HGO.out, ppGo_err (x := (x1, xf)) HIE.out]
              exact ⟨_, rfl, Kd.R_nil _ _ _ _ _, (by repeat (first | (with_reducible first | exact HB.out | apply below_alloc | apply pw_below_drewN | apply below_drew1) | exact HB.out))⟩
            · have g1 : ¬ (strOfNums b).toList = ([] : List UInt8) := fun h => c4 (str_nilU.1 h)
              have g2 : ((strOfNums b).toList == ([] : List UInt8)) = false := beq_eq_false_iff_ne.mpr g1
              have g3 : (strOfNums b).toList.isEmpty = false := by
                cases hv' : (strOfNums b).toList with
                | nil => exact absurd hv' g1
                | cons _ _ => rfl
              have HC4 := Aside0.mk c4
              obtain ⟨v, hv⟩ : ∃ v, v = strOfNums b := ⟨_, rfl⟩
              rw [← hv] at g1 g2 g3 H1
              have HV := Aside0.mk hv
              clear c4 hv
              go_wp2_with (go_at_call 49; (with_reducible refine (paronymref02_Range.calls kr _ _ _ _ _ HKR.out).mono ?_); rintro e w2 ⟨rfl, hb⟩; have h1 := (hb.cell (World.block_lt_of_cell? wr _ H1.out)).trans H1.out; have HB2 := Aside0.mk hb; have HB := Aside0.mk (HB.out.trans (hb.mono HB.out.size)); clear hb)
              have HX2 := Aside0.mk ((HB2.out.cell (World.block_lt_of_cell? wr _ HX0.out)).trans HX0.out)
              have HO2 := Aside0.mk (Kd.R_below HO8.out HB2.out)
              have HW2 := Aside0.mk (HBW.out.trans (HB2.out.mono HBW.out.size))
              have hb0 : ((vs.length : Int) == 0) = vs.isEmpty := by cases vs <;> simp <;> omega
              have hb1 : decide ((vs.length : Int) = 0) = vs.isEmpty := by cases vs <;> simp <;> omega
              have hb2 : (vs.length == 0) = vs.isEmpty := by cases vs <;> simp
              have hb3 : decide (vs.length = 0) = vs.isEmpty := by cases vs <;> simp
              go_loopg [14, 15] (vs.length + 1) (fun kq2 v14 v15 wr2 => ∃ (j : Nat), v15 = .int .i64 (j : Int) ∧ v14 = .bool (vs.isEmpty || (vs.take j).any (fun x => x.toList == v.toList)) ∧ Aside0 (j + kq2 = vs.length + 1 ∧ j ≤ vs.length) ∧ Aside0 (Below w2.heap.size w2 wr2))
              case atStart => exact ⟨0, rfl, by simp [hb0], ⟨by omega, by omega⟩, ⟨by repeat (first | exact Below.refl _ _ | apply below_alloc | apply pw_below_drewN | apply below_drew1)⟩⟩
              case round =>
                clear hb0 hb1 hb2 hb3
                obtain ⟨j, rfl, rfl, HJ, HBJ⟩ := hrel
                cases gk with
                | zero => exact absurd HJ.out (by omega)
                | succ kq3 =>
                  have h1 := (HBJ.out.cell (World.block_lt_of_cell? w2 _ h1)).trans h1
                  by_cases c5 : (j : Int) < (vs.length : Int)
                  · have hjl : j < vs.length := by omega
                    have hbw := HB.out.trans (HBJ.out.mono HB.out.size)
                    obtain ⟨adv, ev, hxv⟩ := Kd.at_string (Kd.C_below HRV.out hbw) (j : Int) (by omega) c5
                    cases ev
                    rw [rdOfB vs j hjl, Int.toNat_natCast] at hxv
                    have htk : ∀ p : ByteArray → Bool, (vs.take (j + 1)).any p = ((vs.take j).any p || p vs[j]) := fun p => by
                      rw [List.take_succ_eq_append_getElem hjl, List.any_append]; simp
                    have hnx := htk (fun x => x.toList == v.toList)
                    obtain ⟨u, hu⟩ : ∃ u, u = vs[j] := ⟨_, rfl⟩
                    rw [← hu] at hxv hnx
                    obtain ⟨cur, hcur⟩ : ∃ cur, cur = (vs.isEmpty || (vs.take j).any (fun x => x.toList == v.toList)) := ⟨_, rfl⟩
                    have hnx2 : (vs.isEmpty || (vs.take (j + 1)).any (fun x => x.toList == v.toList)) = (cur || (u.toList == v.toList)) := by rw [hnx, hcur, Bool.or_assoc]
                    rw [← hcur]
                    have HNX := Aside0.mk hnx2
                    have HJL := Aside0.mk hjl
                    have b9 : (j : Int) ≤ 1000000 := by have := HVL.out; omega
                    have e7 := eq_true c5
                    have e8 : decide ((j : Int) < (vs.length : Int)) = true := decide_eq_true c5
                    have e9 : (0 ≤ (j : Int)) = True := eq_true (by omega)
                    have e10 : (j < vs.length) = True := eq_true hjl
                    clear c5 hjl hbw htk hnx hu hcur hnx2
                    cases cur with
                    | true =>
                      go_wp2
                      repeat (go_quiet (fail); try go_wp2)
                      go_roundg kq3
                      case measure => omega
                      case rel => exact ⟨j + 1, by first | rfl | go_num, by first | (rw [HNX.out]; rfl) | (rw [HNX.out]; simp), ⟨by have := HJ.out; omega, HJL.out⟩, ⟨(by repeat (first | (with_reducible first | exact HBJ.out | apply below_alloc | apply pw_below_drewN | apply below_drew1) | exact HBJ.out))⟩⟩
                    | false =>
                      cases huv : (u.toList == v.toList) with
                      | true =>
                        have k1 := beq_iff_eq.mp huv
                        have HU := Aside0.mk huv
                        go_wp2
                        repeat (go_quiet (fail); try go_wp2)
                        go_roundg kq3
                        case measure => omega
                        case rel => exact ⟨j + 1, by first | rfl | go_num, by rw [HNX.out, HU.out]; rfl, ⟨by have := HJ.out; omega, HJL.out⟩, ⟨(by repeat (first | (with_reducible first | exact HBJ.out | apply below_alloc | apply pw_below_drewN | apply below_drew1) | exact HBJ.out))⟩⟩
                      | false =>
                        have HU := Aside0.mk huv
                        go_wp2
                        repeat (go_quiet (fail); try go_wp2)
                        go_roundg kq3
                        case measure => omega
                        case rel => exact ⟨j + 1, by first | rfl | go_num, by rw [HNX.out, HU.out]; rfl, ⟨by have := HJ.out; omega, HJL.out⟩, ⟨(by repeat (first | (with_reducible first | exact HBJ.out | apply below_alloc | apply pw_below_drewN | apply below_drew1) | exact HBJ.out))⟩⟩
                  · have hjl : j = vs.length := by have := HJ.out; omega
                    have e7 := eq_false c5
                    have e8 : decide ((j : Int) < (vs.length : Int)) = false := decide_eq_false c5
                    have hall : (vs.isEmpty || (vs.take j).any (fun x => x.toList == v.toList)) = amongB vs v := by rw [hjl, List.take_length]; rfl
                    have hbw := HB.out.trans (HBJ.out.mono HB.out.size)
                    have HBW2 := Aside0.mk hbw
                    have hbl : (i : Int) ≤ 50001 := by have := HXN.out; have := HIL.out; omega
                    have hx0 := (HBJ.out.cell (World.block_lt_of_cell? w2 _ HX2.out)).trans HX2.out
                    rw [hall]
                    clear hjl c5 hall hbw
                    cases ham : amongB vs v with
                    | false =>
                      have hsk : ppS vs xf = .inr none := by rw [HXF.out]; exact ppS_out HC3.out HC4.out (by rw [← HV.out]; exact ham)
                      have HSK := Aside0.mk hsk
                      clear ham hsk
                      go_wp2
                      go_roundg kq
                      case measure => omega
                      case rel => exact ⟨i + 1, l, by first | rfl | go_num, ⟨by have := HI.out; omega, HIL.out, by have := HI.out; omega⟩, ⟨HP.out.1, by rw [← HGO.out, ppGo_skip (x := (x1, xf)) HSK.out]⟩, ⟨Kd.R_below HO2.out HBJ.out⟩, ⟨HBW2.out⟩, ⟨HW2.out.trans (HBJ.out.mono HW2.out.size)⟩⟩
                    | true =>
                      obtain ⟨s, hs⟩ : ∃ s : S83, s = ⟨a0, b0, v⟩ := ⟨_, rfl⟩
                      have hin : ppS vs xf = .inr (some s) := by rw [HXF.out, hs, HA0.out, HB0.out, HV.out]; exact ppS_in HC3.out HC4.out (by rw [← HV.out]; exact ham)
                      have HIN := Aside0.mk hin
                      have hec : errOf l s = (addR (newR [] l).2 s).1 := err_came HP.out.1 s
                      obtain ⟨kc, hkc⟩ := (check_ev (L := l) (by have := HI.out; have := HXN.out; omega) s).rounds
                      rw [hec] at hkc
                      obtain ⟨e9, he9⟩ : ∃ e9, e9 = (addR (newR [] l).2 s).1 := ⟨_, rfl⟩
                      rw [← he9, hs] at hkc
                      have HKC := Aside0.mk hkc
                      have HE9 := Aside0.mk he9
                      have HSS := Aside0.mk hs
                      have HC8 : Aside0 (Kd.C k93 wr A8 l.length (l.map c53)) := ⟨by have := (Kd.R_reads' (Kd.R_below HO2.out HBJ.out)).2.2; rw [List.length_map] at this; exact this⟩
                      have Hc8 : Aside0 (l.length ≤ c8) := ⟨(Kd.R_reads' HO8.out).2.1⟩
                      clear ham hin hec hkc he9 hs
                      have HW25 := Aside0.mk (HW2.out.trans (HBJ.out.mono HW2.out.size))
                      by_cases c6 : e9 = 0
                      · have HC6 := Aside0.mk c6
                        subst c6
                        go_wp2_with (first
                          | (go_at_call 50; (with_reducible refine (refCheck.calls kc A8 c8 l.length (l.map c53) _ _ _ _ _ (Kd.C_alloc HC8.out _) (by rw [List.length_map]) Hc8.out HKC.out).mono ?_); rintro e w5 ⟨rfl, hb⟩
                             have hb5 := ((Below.refl wr.heap.size wr).alloc (Nat.le_refl _) (.cells #[.int .i64 a0, .int .i64 b0, .string v] 93)).trans (hb.mono (by simp))
                             have hc5 : C3 93 w5 wr.heap.size (.int .i64 a0) (.int .i64 b0) (.string v) := (hb.block _ (by simp)).trans (heap_alloc_new wr _)
                             obtain ⟨y0, y1, y2⟩ := hc5.cells
                             have HB5 := Aside0.mk hb5
                             have HO5 := Aside0.mk (Kd.R_below (Kd.R_below HO2.out HBJ.out) hb5)
                             clear hb hb5 hc5)
                          | ((with_reducible refine gate_builtin (b := .append) (xs := #[.tmp 102, .tmp 104]) rfl ?_); at_builtin
                             refine Kd.R_append k93 (w0 := w1) w1.heap.size rfl (.tmp 102) (.tmp 104) 30 93 (.agg #[(.int .i64 0), (.int .i64 0), (.string ⟨#[]⟩)]) 32 rfl Tryz.underlying30 info93 rfl (by decide) (by omega) (.slice A8 l.length c8) (l.map c53) (⟨a0, b0, v⟩ : S93) [.int .i64 a0, .int .i64 b0, .string v] (fun _ => True) (fun _ => False) rfl rfl ?aP (fun _ hk => hk.elim) (fun _ _ => trivial) HO5.out (HW25.out.trans (HB5.out.mono HW25.out.size)) (Nat.le_trans HW25.out.size HB5.out.size) ?aL ?_
                             (case aP => exact k93_mkM _ _ _ (⟨a0, b0, v⟩ : S93))
                             (case aL => have := HI.out; have := HXN.out; rw [List.length_map]; omega)
                             intro v6 w6 ho hb hg hat
                             have HO6 := Aside0.mk ho
                             have HB6 := Aside0.mk hb
                             clear ho hb hg hat))
                        go_roundg kq
                        case measure => omega
                        case rel =>
                          refine ⟨i + 1, l ++ [s], by first | rfl | go_num, ⟨by have := HI.out; omega, HIL.out, by rw [List.length_append]; have := HI.out; simp; omega⟩, ⟨?_, ?_⟩, ⟨?_⟩, ⟨HB1.out.trans (HB6.out.mono HB1.out.size)⟩, HB6⟩
                          · rw [newR_snoc HP.out.1 HE9.out.symm]
                          · rw [newR_snoc HP.out.1 HE9.out.symm, ← HGO.out, ppGo_add (x := (x1, xf)) HIN.out HE9.out.symm]
                          · rw [List.map_append, HSS.out]; exact HO6.out
                      · have g4 : (e9 == 0) = false := beq_eq_false_iff_ne.mpr c6
                        have g5 : (e9 != 0) = true := bne_iff_ne.mpr c6
                        have HC6 := Aside0.mk c6
                        clear c6
                        go_wp2_with (go_at_call 50; (with_reducible refine (refCheck.calls kc A8 c8 l.length (l.map c53) _ _ _ _ _ (Kd.C_alloc HC8.out _) (by rw [List.length_map]) Hc8.out HKC.out).mono ?_); rintro e w5 ⟨rfl, hb⟩
                                     have hb5 := ((Below.refl wr.heap.size wr).alloc (Nat.le_refl _) (.cells #[.int .i64 a0, .int .i64 b0, .string v] 93)).trans (hb.mono (by simp))
                                     have hx0 := (hb5.cell (World.block_lt_of_cell? wr _ hx0)).trans hx0
                                     have HB5 := Aside0.mk (HBW2.out.trans (hb5.mono HBW2.out.size))
                                     clear hb hb5)
                        repeat (go_quiet (fail); try go_wp2)
                        go_ret3
                        rw [← HGO.out, ppGo_twice (x := (x1, xf)) HIN.out (by rw [← HE9.out]; exact HC6.out), ← HE9.out]
                        exact ⟨_, rfl, Kd.R_nil _ _ _ _ _, (by repeat (first | (with_reducible first | exact HB5.out | apply below_alloc | apply pw_below_drewN | apply below_drew1) | exact HB5.out))⟩
          · have hie : ppS vs xf = .inl er := by rw [HXF.out, HER.out]; exact ppS_rng (by rw [← HER.out]; exact c3)
            have HIE := Aside0.mk hie
            have g1 : (er == 0) = false := beq_eq_false_iff_ne.mpr c3
            have g2 : (er != 0) = true := bne_iff_ne.mpr c3
            clear hie c3
            go_wp2_with (go_at_call 49; (with_reducible refine (paronymref02_Range.calls kr _ _ _ _ _ HKR.out).mono ?_); rintro e w2 ⟨rfl, hb⟩; have hx0 := (hb.cell (World.block_lt_of_cell? wr _ HX0.out)).trans HX0.out; have hx1 := (hb.cell (World.block_lt_of_cell? wr _ hx1)).trans hx1; have HB := Aside0.mk (HB.out.trans (hb.mono HB.out.size)); clear hb)
            repeat (go_quiet (fail); try go_wp2)
            go_ret3
            rw [← HGO.out, ppGo_err (x := (x1, xf)) HIE.out]
            exact ⟨_, rfl, Kd.R_nil _ _ _ _ _, (by repeat (first | (with_reducible first | exact HB.out | apply below_alloc | apply pw_below_drewN | apply below_drew1) | exact HB.out))⟩
      · have hi : i = X.length := by have := HI.out; omega
        subst hi
        have e0 := eq_false c1
        have e2 : decide ((X.length : Int) < (X.length : Int)) = false := decide_eq_false c1
        have hgo := HP.out.2
        rw [List.drop_length] at hgo
        have hgo2 : ppGo vs X [] = (some (newR [] l).2, 0, 0) := by rw [← hgo]; rfl
        have HGO := Aside0.mk hgo2
        obtain ⟨ks, hks⟩ := (sorted_all (l := l) (by have := HI.out; have := HXN.out; omega) HP.out.1).rounds
        have HKS := Aside0.mk hks
        obtain ⟨_, hc8, hC8⟩ := Kd.R_reads' HO8.out
        have HC8 := Aside0.mk hC8
        have Hc8 := Aside0.mk hc8
        clear hgo hgo2 hks hc8 hC8 c1
        go_wp2
        refine operCall Tryz.func51 (by kernel_rfl) rfl #[.slice A8 l.length c8] rfl (by simp only [List.map_toArray, List.map_cons, List.map_nil]; rfl) ?_
        refine (refSorted.calls ks A8 c8 l.length (l.map c53) _ _ HC8.out (by rw [List.length_map]) (by have := Hc8.out; omega) HKS.out).mono ?_
        rintro e w2 ⟨v2, rfl, hR, hb⟩
        have HR2 := Aside0.mk hR
        have HB2 := Aside0.mk (HB.out.trans (hb.mono HB.out.size))
        have HSZ := Aside0.mk HB.out.size
        clear hb hR
        refine ⟨_, rfl, ?_⟩
        try simp only [List.getElem_toArray, List.getElem_cons_succ, List.getElem_cons_zero, Act.put, List.setIfInBounds_toArray, List.set_cons_zero, List.set_cons_succ]
        go_wp2
        go_ret3
        rw [HGO.out]
        exact ⟨_, rfl, Kd.R_lower HR2.out HSZ.out, HB2.out⟩
end Go.Proofs.YtbpdcbibooiimaaGreatDoor.Q
/- span: slices.Values at []Span, and Table.All. -/
namespace Go.Proofs.YtbpdcbibooiimaaGreatDoor.Q
open Go.RowKit Go.Shelf Go.Proofs.YtbpdcbibooiimaaGreatDoorW.PrintWords Go.Proofs.YtbpdcbibooiimaaGreatDoorW.PrintLast Go.Proofs.YtbpdcbibooiimaaGreatDoorW.PrintMore
attribute [local go_sem] Oper.semAt_some
theorem KeepC.boxed {T : Nat → Prop} {A B : World} (h : KeepC T A B) {k : Nat} {t : TypeId} {v : Value} (hb : Boxed A k t v) (hk : ¬ T k) : Boxed B k t v := h.2 k _ hb rfl hk
theorem KeepC.cell {T : Nat → Prop} {A B : World} (h : KeepC T A B) {p : Addr} {v : Value} (hc : A.cell? p = some v) (hp : ¬ T p.block) : B.cell? p = some v := by
  unfold World.cell? at hc ⊢
  cases ho : A.heap[p.block]? with
  | none => rw [ho] at hc; cases hc
  | some o =>
    rw [ho] at hc
    cases o with
    | cells c t fr => rw [h.2 _ _ ho rfl hp]; exact hc
    | _ => cases hc
def span_val (s : S83) : Value := .agg #[.int .i64 s.f0, .int .i64 s.f1, .string s.f2]
set_option maxHeartbeats 2000000 in
set_option maxRecDepth 100000 in
theorem span_Values.stops (L : List S83) (hl : L.length ≤ 1000000) (B : Nat) (A : Option Addr) (c : Nat) (T : Nat → Prop) (w : World)
    (hTB : ¬ T B) (hTA : ∀ ad, A = some ad → L ≠ [] → ¬ T ad.block) (hBox : Boxed w B 127 (.slice A L.length c)) (hR : Kd.C k83 w A L.length L) (n : Nat) (hn : 3 ≤ n) :
    SeqPr Fence.wide n Tryz.prog 100 #[.pointer (some ⟨B, 0, none⟩)] (fun x : S83 => #[span_val x]) (KeepC T) (fun _ _ => True) (fun ys => ys = L) (fun pre => pre <+: L) w := fun l J Jx W hW hJ hJx hY h0 => by
  refine callsIn_of_wp Tryz.func100 rfl trivial ?_ rfl
  simp only [Tryz.ntmps100, List.size_toArray, List.length_cons, List.length_nil, Nat.reduceAdd, Nat.reduceSub, Array.replicate_succ, Array.replicate_zero, List.push_toArray, List.append_toArray, List.nil_append, List.cons_append]
  have KC : Aside0 (KeepC T w W) := ⟨hW.size, fun k o hk _ _ => (hW.block k (Array.getElem?_eq_some_iff.1 hk).1).trans hk⟩
  have HTA := Aside0.mk hTA
  have HTB := Aside0.mk hTB
  have HRL := Aside0.mk hR
  have HBX := Aside0.mk hBox
  have HJ := Aside0.mk hJ
  have HY := Aside0.mk hY
  have H0 := Aside0.mk h0
  have HL := Aside0.mk hl
  clear hTA hTB hR hBox hJ hY h0 hJx hW hl
  have hcell := (KC.out.boxed HBX.out HTB.out).cell
  gi_wp2
  clear hcell
  gi_loopg [7] (L.length + 1) (fun kq v7 wr => ∃ (i : Nat), v7 = .int .i64 (i : Int) ∧ Aside0 (i + kq = L.length + 1 ∧ i ≤ L.length) ∧ Aside0 (J (L.take i) wr) ∧ Aside0 (KeepC T w wr))
  case atStart => exact ⟨0, rfl, ⟨by omega, by omega⟩, ⟨H0.out⟩, KC⟩
  case round =>
    clear H0 KC
    obtain ⟨i, rfl, HI, HJp, KC⟩ := hrel
    cases gk with
    | zero => exact absurd HI.out (by omega)
    | succ kq =>
      by_cases c1 : (i : Int) < (L.length : Int)
      · obtain ⟨ad, rfl, hx0, hx1, hx2⟩ := at_T83 HRL.out (i : Int) (by omega) c1
        rw [Int.toNat_natCast] at hx0 hx1 hx2
        have hblk : (ad.add (i * 3)).block = ad.block := by unfold Addr.add; split <;> rfl
        have hnT : ¬ T (ad.add (i * 3)).block := by rw [hblk]; exact HTA.out _ rfl (fun e => by rw [e] at c1; simp at c1; omega)
        have hx0 := KC.out.cell hx0 hnT
        have hx1 := KC.out.cell hx1 hnT
        have hx2 := KC.out.cell hx2 hnT
        obtain ⟨s, hs⟩ : ∃ s, s = rd_T83 L (i : Int) := ⟨_, rfl⟩
        rw [← hs] at hx0 hx1 hx2
        have HSS := Aside0.mk hs
        have htake : L.take i ++ [s] = L.take (i + 1) := by
          have hlt : i < L.length := by omega
          rw [hs, Go.Proofs.YtbpdcbibooiimaaGreatDoor.K.rd43 i hlt, List.take_add_one, List.getElem?_eq_getElem hlt]
          rfl
        have HTK := Aside0.mk htake
        have e0 := eq_true c1
        have e1 : decide ((i : Int) < (L.length : Int)) = true := decide_eq_true c1
        clear hs c1 htake hblk hnT
        have hj2 := HJ.out _ _ _ none HJp.out (World.grownBy_alloc wr (.cells #[.int .i64 s.f0, .int .i64 s.f1, .string s.f2] 83) none) (fun r e => by cases e)
        obtain ⟨fn, tmps, assign, body, hy, hRR⟩ := HY.out (L.take i) s _ hj2 trivial (by rw [HTK.out]; exact List.take_prefix _ _)
        have hk2 : KeepC T w (wr.alloc (.cells #[.int .i64 s.f0, .int .i64 s.f1, .string s.f2] 83)) := KC.out.trans (KeepC.of_below ((Below.refl _ _).alloc (Nat.le_refl _) _))
        have HK2 := Aside0.mk hk2
        have HRR := Aside0.mk hRR
        simp only [span_val] at hy
        clear hj2 hRR hk2 KC HJp
        gi_wp2
        refine ⟨fun _ => by omega, ?_⟩
        refine HRR.out.mono ?_
        rintro e W3 (⟨rfl, hJ3, hk3⟩ | ⟨rfl, hJx3⟩)
        · have HJ3 := Aside0.mk hJ3
          have HK3 := Aside0.mk (HK2.out.trans hk3)
          clear hJ3 hk3 HRR hy HK2 hx0 hx1 hx2
          gi_wp2
          gi_roundg kq
          case measure => omega
          case rel =>
            have := HI.out
            have := of_decide_eq_true e1
            have := HL.out
            exact ⟨i + 1, by rw [Go.Proofs.YtbpdcbibooiimaaGreatDoor.K.w64 (by omega) (by omega)]; rfl, ⟨by omega, by omega⟩, ⟨by rw [← HTK.out]; exact HJ3.out⟩, HK3⟩
        · have HJX := Aside0.mk hJx3
          clear hJx3 HRR hy hx0 hx1 hx2
          gi_wp2
          refine bodyPost_ret (results_none rfl _ _ _) rfl ?_
          exact ⟨⟨_, rfl⟩, .inr ⟨L.take i ++ [s], by rw [HTK.out]; exact List.take_prefix _ _, HJX.out⟩⟩
      · have e0 := eq_false c1
        have e1 : decide ((i : Int) < (L.length : Int)) = false := decide_eq_false c1
        have hi : i = L.length := by have := HI.out; omega
        subst hi
        clear c1
        gi_wp2
        go_end0
        exact ⟨⟨_, rfl⟩, .inl ⟨L, rfl, by have := HJp.out; rwa [List.take_length] at this⟩⟩
set_option maxHeartbeats 1000000 in
set_option maxRecDepth 100000 in
theorem span_Values.calls (A : Option Addr) (n c : Nat) (w : World) :
    Calls Tryz.prog 77 #[.slice A n c] w fun e w' => e = .returned (.func (.func 100) #[] #[.pointer (some ⟨w.heap.size, 0, none⟩)]) ∧ w' = w.alloc (.cells #[.slice A n c] 127) := by
  go_enter Tryz.func77, Tryz.ntmps77
  go_wp2
  go_ret
  exact ⟨rfl, rfl⟩
set_option maxHeartbeats 2000000 in
set_option maxRecDepth 100000 in
theorem span_spans.calls0 (p : Option Addr) (L : List S83) (w0 w : World) (hT : Tab w0 p L) (hb : Below w0.heap.size w0 w) :
    Calls Tryz.prog 65 #[.pointer p] w fun e w' => (∃ A c, e = .returned (.slice A L.length c) ∧ Row43 w0 (.slice A L.length c) L ∧ Kd.C k83 w0 A L.length L) ∧ w' = w := by
  rcases hT with ⟨rfl, rfl⟩ | ⟨g, v, rfl, h2, h3⟩
  · go_enter Tryz.func65, Tryz.ntmps65
    go_wp2
    go_ret
    exact ⟨⟨none, 0, rfl, .inl ⟨rfl, rfl⟩, ⟨rfl, by simp, fun h => by simp at h⟩⟩, rfl⟩
  · have h3' := h3
    obtain ⟨A, c, rfl, h4, h5⟩ := h3'.open_
    have hc : w.cell? ⟨g, 0, none⟩ = some (.slice A L.length c) := by unfold World.cell?; rw [(hb.block g (Array.getElem?_eq_some_iff.1 h2).1).trans h2]; rfl
    have H3 := Aside0.mk h3
    have H5 := Aside0.mk h5
    clear h2 h3 h4 h5 h3' hb
    go_enter Tryz.func65, Tryz.ntmps65
    go_wp2
    go_ret
    exact ⟨⟨A, c, rfl, H3.out, H5.out⟩, rfl⟩
set_option maxHeartbeats 1000000 in
set_option maxRecDepth 100000 in
theorem span_All.calls (p : Option Addr) (L : List S83) (w0 w : World) (hT : Tab w0 p L) (hb : Below w0.heap.size w0 w) :
    Calls Tryz.prog 52 #[.pointer p] w fun e w' => ∃ A c, e = .returned (.func (.func 100) #[] #[.pointer (some ⟨w.heap.size, 0, none⟩)]) ∧ w' = w.alloc (.cells #[.slice A L.length c] 127) ∧ Row43 w0 (.slice A L.length c) L ∧ Kd.C k83 w0 A L.length L := by
  have HT := Aside0.mk hT
  have HB := Aside0.mk hb
  clear hT hb
  go_enter Tryz.func52, Tryz.ntmps52
  go_wp2_with (first
    | (go_at_call 65
       refine (span_spans.calls0 p L w0 _ HT.out HB.out).mono ?_
       rintro e w1 ⟨⟨A, n, rfl, hr, hC⟩, rfl⟩
       have HN := Aside0.mk hr
       have HC := Aside0.mk hC
       clear hr hC)
    | (go_at_call 77
       refine (span_Values.calls A L.length n _).mono ?_
       rintro e w2 ⟨rfl, rfl⟩))
  go_ret
  exact ⟨A, n, rfl, rfl, HN.out, HC.out⟩
theorem row43_lt {w : World} {A : Option Addr} {c : Nat} {L : List S83} (h : Row43 w (.slice A L.length c) L) (hl : L.length ≤ 9223372036854775807) : ∀ ad, A = some ad → L ≠ [] → ad.block < w.heap.size := by
  rintro ad rfl hne
  rcases h with ⟨h1, h2⟩ | ⟨ad', c', h1, h2, h3, _⟩
  · exact absurd h2 hne
  · injection h1 with h1
    injection h1 with h1
    subst h1
    obtain ⟨ad2, e2, hx, _⟩ := at_T83 h3 0 (by omega) (by have := List.length_pos_iff.2 hne; omega)
    injection e2 with e2
    subst e2
    have := World.block_lt_of_cell? w _ hx
    have hblk : (ad.add ((0 : Int).toNat * 3)).block = ad.block := by unfold Addr.add; split <;> rfl
    rwa [hblk] at this
theorem row43_type {w : World} {A : Option Addr} {c : Nat} {L : List S83} (h : Row43 w (.slice A L.length c) L) : ∀ ad o, A = some ad → L ≠ [] → w.heap[ad.block]? = some o → ∃ cells, o = .cells cells 83 (0, 0) := by
  rintro ad o rfl hne ho
  rcases h with ⟨h1, h2⟩ | ⟨ad', c', h1, h2, h3, cells, h4⟩
  · exact absurd h2 hne
  · injection h1 with h1
    injection h1 with h1
    subst h1
    rw [ho] at h4
    exact ⟨cells, Option.some.inj h4⟩
end Go.Proofs.YtbpdcbibooiimaaGreatDoor.Q
/- Layer 5's law: Is (a table has just these spans). -/
namespace Go.Proofs.YtbpdcbibooiimaaGreatDoor.Q
open Go.RowKit Go.Shelf Go.Proofs.YtbpdcbibooiimaaGreatDoorW.PrintWords Go.Proofs.YtbpdcbibooiimaaGreatDoorW.PrintLast Go.Proofs.YtbpdcbibooiimaaGreatDoorW.PrintMore Go.Proofs.YtbpdcbibooiimaaGreatDoor.K
attribute [local go_sem] Oper.semAt_some
def isI (w : World) (B : Nat) (A : Option Addr) (c m : Nat) (pre : List S83) (W : World) : Prop := Boxed W (w.heap.size + 2) 3 (.int .i64 pre.length) ∧ Boxed W (w.heap.size + 1) 4 (.bool false) ∧ Boxed W w.heap.size 30 (.slice A m c) ∧ Below w.heap.size w W ∧ B ≤ W.heap.size
theorem isI_own (w : World) (B B' : Nat) (hB : w.heap.size ≤ B') (A : Option Addr) (c m : Nat) : OwnFrom B' (isI w B A c m) := fun s W W' row hs hg hr => by
  obtain ⟨h1, h2, h3, h4, h5⟩ := hs
  have hk : SameC W W' := SameC.of_grown hg (fun r e => (hr r e).2)
  exact ⟨boxed_sameC h1 hk, boxed_sameC h2 hk, boxed_sameC h3 hk, ownFrom_below (β := Unit) (Nat.le_refl _) hB () W W' row h4 hg hr, Nat.le_trans h5 hg.size⟩
def isT (w : World) (k : Nat) : Prop := k = w.heap.size + 2
set_option maxHeartbeats 4000000 in
set_option maxRecDepth 100000 in
theorem paronymlaw05_Is.main (p : Option Addr) (L : List S83) (A1 : Option Addr) (c1 : Nat) (M : List S93) (hM : M = L.map c53) (w : World) (hT : Tab w p L) (hl : L.length ≤ 1000000) (hr : Kd.C k93 w A1 M.length M) :
    Calls Tryz.prog 17 #[.pointer p, .slice A1 M.length c1] w fun e w' => e = .returned (.bool true) ∧ Below w.heap.size w w' := by
  have hML : M.length = L.length := by rw [hM, List.length_map]
  rw [hML] at hr ⊢
  obtain ⟨w3, hw3⟩ : ∃ w3, w3 = ((w.alloc (.cells #[.slice A1 L.length c1] 30)).alloc (.cells #[.bool false] 4)).alloc (.cells #[.int .i64 0] 3) := ⟨_, rfl⟩
  have hsz3 : w3.heap.size = w.heap.size + 3 := by rw [hw3]; simp
  have hb3 : Below w.heap.size w w3 := by
    rw [hw3]
    exact (((Below.refl _ w).alloc (Nat.le_refl _) _).alloc (by simp only [World.size_alloc]; omega) _).alloc (by simp only [World.size_alloc]; omega) _
  have hx0 : Boxed w3 w.heap.size 30 (.slice A1 L.length c1) := by rw [hw3]; exact ((Boxed.new w _ _).alloc _).alloc _
  have hx1 : Boxed w3 (w.heap.size + 1) 4 (.bool false) := by
    have := Boxed.new (w.alloc (.cells #[.slice A1 L.length c1] 30)) 4 (.bool false)
    simp only [World.size_alloc] at this
    rw [hw3]; exact this.alloc _
  have hx2 : Boxed w3 (w.heap.size + 2) 3 (.int .i64 0) := by
    have := Boxed.new ((w.alloc (.cells #[.slice A1 L.length c1] 30)).alloc (.cells #[.bool false] 4)) 3 (.int .i64 0)
    simp only [World.size_alloc] at this
    rw [hw3]; exact this
  have hcall := span_All.calls p L w w3 hT hb3
  rw [hw3] at hcall
  have HCALL := Aside0.mk hcall
  have HW3 := Aside0.mk hw3
  have HX3 := Aside0.mk (And.intro hx0 (And.intro hx1 hx2))
  have HS3 := Aside0.mk hsz3
  have HB3 := Aside0.mk hb3
  have HM := Aside0.mk hM
  have HL := Aside0.mk hl
  have HR := Aside0.mk hr
  have HT := Aside0.mk hT
  clear hcall hw3 hx0 hx1 hx2 hsz3 hb3 hM hl hr hT hML
  refine (callsIn_wide (n := 10)).1 ?_
  refine callsIn_of_wp_marks Tryz.func17 rfl trivial ?_ rfl
  simp only [Tryz.ntmps17, List.size_toArray, List.length_cons, List.length_nil, Nat.reduceAdd, Nat.reduceSub, Array.replicate_succ, Array.replicate_zero, List.push_toArray, List.append_toArray, List.nil_append, List.cons_append]
  refine wpIn_wide.2 ?_
  go_wp2_with (go_at_call 52; refine HCALL.out.mono ?_; rw [← HW3.out]; rintro e w4 ⟨A, c, rfl, rfl, hr, hC⟩
               have hs3 := HS3.out
               have hb4 : Below w3.heap.size w3 (w3.alloc (.cells #[.slice A L.length c] 127)) := (Below.refl _ _).alloc (Nat.le_refl _) _
               have hbx : Boxed (w3.alloc (.cells #[.slice A L.length c] 127)) w3.heap.size 127 (.slice A L.length c) := Boxed.new w3 _ _
               have hz4 : (w3.alloc (.cells #[.slice A L.length c] 127)).heap.size = w3.heap.size + 1 := World.size_alloc ..
               have HROW := Aside0.mk hr
               have HC := Aside0.mk hC
               have HB4 := Aside0.mk hb4
               have HBX := Aside0.mk hbx
               have HZ4 := Aside0.mk (And.intro hz4 hs3)
               clear hr hC hb4 hbx hz4 hs3)
  have hst := span_Values.stops L HL.out w3.heap.size A c (isT w) _ (fun h => by have h1 := HS3.out; unfold isT at h; omega) (fun ad e hne h => by have := row43_lt HROW.out (by have := HL.out; omega) ad e hne; unfold isT at h; omega) HBX.out (Kd.C_below HC.out (HB3.out.trans (HB4.out.mono HB3.out.size))) 9 (by omega)
  have hI0 : isI w w3.heap.size A1 c1 L.length [] (w3.alloc (.cells #[.slice A L.length c] 127)) := ⟨HX3.out.2.2.alloc _, HX3.out.2.1.alloc _, HX3.out.1.alloc _, HB3.out.trans (HB4.out.mono HB3.out.size), by simp⟩
  have hrw : Kd.C k93 (w3.alloc (.cells #[.slice A L.length c] 127)) A1 L.length M := Kd.C_below HR.out (HB3.out.trans (HB4.out.mono HB3.out.size))
  have HST := Aside0.mk hst
  have HI0 := Aside0.mk hI0
  have HRW := Aside0.mk hrw
  have hws : w.heap.size ≤ w3.heap.size := by have := HS3.out; omega
  have HWS := Aside0.mk hws
  clear hst hI0 hrw hws HROW HC HBX HCALL HX3
  refine (wpIn_wide (n := 10)).1 ?_
  refine wpIn_range_as rfl (by omega) (gf := 100) (lb := #[Value.pointer (some ⟨w3.heap.size, 0, none⟩)]) rfl trivial (enters_of Tryz.func100 (by kernel_rfl) rfl)
    HST.out KeepC.trans keepC_put (Below.refl _ _) (fun _ => rfl)
    (isI w w3.heap.size A1 c1 L.length) (fun c xs W => False) (isI_own w _ _ (by have := HZ4.out; omega) _ _ _) (fun c s W W' row hs hg hr => hs) HI0.out
    (fun pre x a1 W => ∃ vb, a1 = { tmps := #[Value.pointer p, Value.slice A1 L.length c1, undef, Value.pointer (some ⟨w.heap.size, 0, none⟩), Value.pointer (some ⟨w.heap.size + 1, 0, none⟩), Value.pointer (some ⟨w.heap.size + 2, 0, none⟩), Value.pointer (some ⟨vb, 0, none⟩), Value.pointer p, Value.func (Fn.func 100) #[] #[Value.pointer (some ⟨w3.heap.size, 0, none⟩)], span_val x, undef, undef, undef, undef, undef, undef, undef, undef, undef, undef, undef, undef, undef, undef, undef, undef, undef, undef, undef, undef, undef, undef, undef, undef, undef, undef, undef, undef, undef, undef, undef, undef, undef, undef, undef, undef, undef, undef, undef, undef], defers := [] } ∧ W.heap[vb]? = some (.cells #[.int .i64 x.f0, .int .i64 x.f1, .string x.f2] 83 (0, 0)) ∧ isI w w3.heap.size A1 c1 L.length pre W)
    (fun pre x a1 s W W' row hs hg hr => by
      obtain ⟨vb, h1, h2, h3⟩ := hs
      exact ⟨vb, h1, (SameC.of_grown hg (fun r e => (hr r e).2)) _ _ h2 rfl, isI_own w _ _ (by have := HZ4.out; omega) _ _ _ pre W W' row h3 hg hr⟩) ?assign ?body ?done ?stop
  case assign =>
    rintro l pre x W K hI - hK
    have HI := Aside0.mk hI
    have HK := Aside0.mk hK
    clear hI hK
    simp only [span_val]
    gi_wp2
    refine HK.out _ _ ?_ ?_ ⟨W.heap.size, rfl, heap_alloc_new W _, ?_⟩
    · exact (KeepsOthers.alloc W _).from _
    · exact KeepC.of_below ((Below.refl _ W).alloc (Nat.le_refl _) _)
    · exact isI_own w _ W.heap.size (by obtain ⟨_, _, _, hB, _⟩ := HI.out; exact hB.size) _ _ _ pre W _ none HI.out (World.grownBy_alloc W _ none) (fun r e => by cases e)
  case body =>
    rintro l' pre x a1 W ⟨vb, rfl, hvb, hN, hF, hS0, hB, hSz⟩ hsp
    have hlen : pre.length < L.length := by
      obtain ⟨t, ht⟩ := hsp
      rw [← ht]; simp
    have hx : L[pre.length]? = some x := by
      obtain ⟨t, ht⟩ := hsp
      rw [← ht, List.append_assoc, List.getElem?_append_right (Nat.le_refl _)]; simp
    have hx0 : W.cell? ⟨vb, 0, none⟩ = some (.int .i64 x.f0) := by simp only [World.cell?]; rw [hvb]; rfl
    have hx1 : W.cell? ⟨vb, 1, none⟩ = some (.int .i64 x.f1) := by simp only [World.cell?]; rw [hvb]; rfl
    have hx2 : W.cell? ⟨vb, 2, none⟩ = some (.string x.f2) := by simp only [World.cell?]; rw [hvb]; rfl
    have hcN := hN.cell
    have hcS := hS0.cell
    have hMl : M.length = L.length := by rw [HM.out, List.length_map]
    have hrW : Kd.C k93 W A1 L.length M := Kd.C_below HR.out hB
    obtain ⟨ad, rfl, hr0, hr1, hr2⟩ := at_T93 hrW (pre.length : Int) (by omega) (by omega)
    have hrd : rd_T93 M (pre.length : Int) = c53 x := by
      rw [HM.out, rdc pre.length hlen]
      congr 1
      rw [List.getElem?_eq_getElem hlen] at hx
      exact Option.some.inj hx
    rw [hrd, Int.toNat_natCast] at hr0 hr1 hr2
    have hr0 : W.cell? (ad.add (pre.length * 3)) = some (.int .i64 x.f0) := hr0
    have hr1 : W.cell? ⟨(ad.add (pre.length * 3)).block, (ad.add (pre.length * 3)).off + 1, none⟩ = some (.int .i64 x.f1) := by first | exact hr1 | (have := hr1; simpa using this)
    have hr2 : W.cell? ⟨(ad.add (pre.length * 3)).block, (ad.add (pre.length * 3)).off + 2, none⟩ = some (.string x.f2) := by first | exact hr2 | (have := hr2; simpa using this)
    have hpl : ((pre.length : Int) < (L.length : Int)) := by omega
    have e5 := eq_true hpl
    have e6 : decide ((L.length : Int) ≤ (pre.length : Int)) = false := decide_eq_false (by omega)
    have e7 : (0 ≤ (pre.length : Int)) = True := eq_true (by omega)
    have e8 : decide (L.length ≤ pre.length) = false := decide_eq_false (by omega)
    have HN := Aside0.mk hN
    have HF := Aside0.mk hF
    have HS0 := Aside0.mk hS0
    have HB := Aside0.mk hB
    have HSz := Aside0.mk hSz
    have HPL := Aside0.mk hpl
    clear hN hF hS0 hB hSz hpl hsp hx hMl hrW hrd hvb hlen
    have e9 : (x.f2.toList != x.f2.toList) = false := by simp
    simp only [span_val]
    gi_wp2
    have hS : Below W.heap.size W W.drew := (Below.refl _ W).drew
    refine wpIn_region_round_held (fun w' => Below W.heap.size W w') (by kernel_rfl) (by kernel_rfl) ?_
    show wpAnyH _ _ _ _ _ _ _ _ W.drew
    refine wpAnyH_take (i := 0) (v := .int .i64 (pre.length : Int)) rfl (by kernel_rfl) (by kernel_rfl) (by kernel_rfl) (fun _ _ _ h => h) (.inl ⟨by kernel_rfl, fun w' hS => by have q_ := (hS.cell (World.block_lt_of_cell? W _ hcN)).trans hcN; first | (go_simp; done) | (go_simp; simp [*]; done)⟩) hS ?_
    try simp only [List.getElem_toArray, List.getElem_cons_succ, List.getElem_cons_zero, Act.put, List.setIfInBounds_toArray, List.set_cons_zero, List.set_cons_succ]
    refine wpAnyH_take (i := 1) (v := .slice (some ad) L.length c1) rfl (by kernel_rfl) (by kernel_rfl) (by kernel_rfl) (fun _ _ _ h => h) (.inl ⟨by kernel_rfl, fun w' hS => by have q_ := (hS.cell (World.block_lt_of_cell? W _ hcS)).trans hcS; first | (go_simp; done) | (go_simp; simp [*]; done)⟩) hS ?_
    try simp only [List.getElem_toArray, List.getElem_cons_succ, List.getElem_cons_zero, Act.put, List.setIfInBounds_toArray, List.set_cons_zero, List.set_cons_succ]
    refine wpAnyH_take (i := 2) (v := .int .i64 (L.length : Int)) rfl (by kernel_rfl) (by kernel_rfl) (by kernel_rfl) (fun _ _ _ h => h) (.inl ⟨by kernel_rfl, fun w' hS => by first | (go_simp; done) | (go_simp; simp [*]; done)⟩) hS ?_
    try simp only [List.getElem_toArray, List.getElem_cons_succ, List.getElem_cons_zero, Act.put, List.setIfInBounds_toArray, List.set_cons_zero, List.set_cons_succ]
    refine wpAnyH_take (i := 3) (v := .bool false) rfl (by kernel_rfl) (by kernel_rfl) (by kernel_rfl) (fun _ _ _ h => h) (.inl ⟨by kernel_rfl, fun w' hS => by first | (go_simp; done) | (go_simp; simp [*]; done)⟩) hS ?_
    try simp only [List.getElem_toArray, List.getElem_cons_succ, List.getElem_cons_zero, Act.put, List.setIfInBounds_toArray, List.set_cons_zero, List.set_cons_succ]
    refine wpAnyH_take (i := 4) (v := .bool false) rfl (by kernel_rfl) (by kernel_rfl) (by kernel_rfl) (fun _ _ _ h => h) (.inl ⟨by kernel_rfl, fun w' hS => by first | (go_simp; done) | (go_simp; simp [*]; done)⟩) hS ?_
    try simp only [List.getElem_toArray, List.getElem_cons_succ, List.getElem_cons_zero, Act.put, List.setIfInBounds_toArray, List.set_cons_zero, List.set_cons_succ]
    refine wpAnyH_take (i := 5) (v := .pointer (some ⟨vb, 0, none⟩)) rfl (by kernel_rfl) (by kernel_rfl) (by kernel_rfl) (fun _ _ _ h => h) (.inl ⟨by kernel_rfl, fun w' hS => by first | (go_simp; done) | (go_simp; simp [*]; done)⟩) hS ?_
    try simp only [List.getElem_toArray, List.getElem_cons_succ, List.getElem_cons_zero, Act.put, List.setIfInBounds_toArray, List.set_cons_zero, List.set_cons_succ]
    refine wpAnyH_take (i := 6) (v := .int .i64 x.f0) rfl (by kernel_rfl) (by kernel_rfl) (by kernel_rfl) (fun _ _ _ h => h) (.inl ⟨by kernel_rfl, fun w' hS => by have q_ := (hS.cell (World.block_lt_of_cell? W _ hx0)).trans hx0; first | (go_simp; done) | (go_simp; simp [*]; done)⟩) hS ?_
    try simp only [List.getElem_toArray, List.getElem_cons_succ, List.getElem_cons_zero, Act.put, List.setIfInBounds_toArray, List.set_cons_zero, List.set_cons_succ]
    refine wpAnyH_take (i := 7) (v := .slice (some ad) L.length c1) rfl (by kernel_rfl) (by kernel_rfl) (by kernel_rfl) (fun _ _ _ h => h) (.inl ⟨by kernel_rfl, fun w' hS => by have q_ := (hS.cell (World.block_lt_of_cell? W _ hcS)).trans hcS; first | (go_simp; done) | (go_simp; simp [*]; done)⟩) hS ?_
    try simp only [List.getElem_toArray, List.getElem_cons_succ, List.getElem_cons_zero, Act.put, List.setIfInBounds_toArray, List.set_cons_zero, List.set_cons_succ]
    refine wpAnyH_take (i := 8) (v := .int .i64 (pre.length : Int)) rfl (by kernel_rfl) (by kernel_rfl) (by kernel_rfl) (fun _ _ _ h => h) (.inl ⟨by kernel_rfl, fun w' hS => by have q_ := (hS.cell (World.block_lt_of_cell? W _ hcN)).trans hcN; first | (go_simp; done) | (go_simp; simp [*]; done)⟩) hS ?_
    try simp only [List.getElem_toArray, List.getElem_cons_succ, List.getElem_cons_zero, Act.put, List.setIfInBounds_toArray, List.set_cons_zero, List.set_cons_succ]
    refine wpAnyH_take (i := 9) (v := .pointer (some (ad.add (pre.length * 3)))) rfl (by kernel_rfl) (by kernel_rfl) (by kernel_rfl) (fun _ _ _ h => h) (.inl ⟨by kernel_rfl, fun w' hS => by first | (go_simp; done) | (go_simp; simp [*]; done)⟩) hS ?_
    try simp only [List.getElem_toArray, List.getElem_cons_succ, List.getElem_cons_zero, Act.put, List.setIfInBounds_toArray, List.set_cons_zero, List.set_cons_succ]
    refine wpAnyH_take (i := 10) (v := .pointer (some (ad.add (pre.length * 3)))) rfl (by kernel_rfl) (by kernel_rfl) (by kernel_rfl) (fun _ _ _ h => h) (.inl ⟨by kernel_rfl, fun w' hS => by first | (go_simp; done) | (go_simp; simp [*]; done)⟩) hS ?_
    try simp only [List.getElem_toArray, List.getElem_cons_succ, List.getElem_cons_zero, Act.put, List.setIfInBounds_toArray, List.set_cons_zero, List.set_cons_succ]
    refine wpAnyH_take (i := 11) (v := .int .i64 x.f0) rfl (by kernel_rfl) (by kernel_rfl) (by kernel_rfl) (fun _ _ _ h => h) (.inl ⟨by kernel_rfl, fun w' hS => by have q_ := (hS.cell (World.block_lt_of_cell? W _ hr0)).trans hr0; first | (go_simp; done) | (go_simp; simp [*]; done)⟩) hS ?_
    try simp only [List.getElem_toArray, List.getElem_cons_succ, List.getElem_cons_zero, Act.put, List.setIfInBounds_toArray, List.set_cons_zero, List.set_cons_succ]
    refine wpAnyH_take (i := 12) (v := .bool false) rfl (by kernel_rfl) (by kernel_rfl) (by kernel_rfl) (fun _ _ _ h => h) (.inl ⟨by kernel_rfl, fun w' hS => by first | (go_simp; done) | (go_simp; simp [*]; done)⟩) hS ?_
    try simp only [List.getElem_toArray, List.getElem_cons_succ, List.getElem_cons_zero, Act.put, List.setIfInBounds_toArray, List.set_cons_zero, List.set_cons_succ]
    refine wpAnyH_take (i := 13) (v := .bool false) rfl (by kernel_rfl) (by kernel_rfl) (by kernel_rfl) (fun _ _ _ h => h) (.inl ⟨by kernel_rfl, fun w' hS => by first | (go_simp; done) | (go_simp; simp [*]; done)⟩) hS ?_
    try simp only [List.getElem_toArray, List.getElem_cons_succ, List.getElem_cons_zero, Act.put, List.setIfInBounds_toArray, List.set_cons_zero, List.set_cons_succ]
    refine wpAnyH_take (i := 14) (v := .bool false) rfl (by kernel_rfl) (by kernel_rfl) (by kernel_rfl) (fun _ _ _ h => h) (.inl ⟨by kernel_rfl, fun w' hS => by first | (go_simp; done) | (go_simp; simp [*]; done)⟩) hS ?_
    try simp only [List.getElem_toArray, List.getElem_cons_succ, List.getElem_cons_zero, Act.put, List.setIfInBounds_toArray, List.set_cons_zero, List.set_cons_succ]
    refine wpAnyH_take (i := 15) (v := .pointer (some ⟨vb, 1, none⟩)) rfl (by kernel_rfl) (by kernel_rfl) (by kernel_rfl) (fun _ _ _ h => h) (.inl ⟨by kernel_rfl, fun w' hS => by first | (go_simp; done) | (go_simp; simp [*]; done)⟩) hS ?_
    try simp only [List.getElem_toArray, List.getElem_cons_succ, List.getElem_cons_zero, Act.put, List.setIfInBounds_toArray, List.set_cons_zero, List.set_cons_succ]
    refine wpAnyH_take (i := 16) (v := .int .i64 x.f1) rfl (by kernel_rfl) (by kernel_rfl) (by kernel_rfl) (fun _ _ _ h => h) (.inl ⟨by kernel_rfl, fun w' hS => by have q_ := (hS.cell (World.block_lt_of_cell? W _ hx1)).trans hx1; first | (go_simp; done) | (go_simp; simp [*]; done)⟩) hS ?_
    try simp only [List.getElem_toArray, List.getElem_cons_succ, List.getElem_cons_zero, Act.put, List.setIfInBounds_toArray, List.set_cons_zero, List.set_cons_succ]
    refine wpAnyH_take (i := 17) (v := .slice (some ad) L.length c1) rfl (by kernel_rfl) (by kernel_rfl) (by kernel_rfl) (fun _ _ _ h => h) (.inl ⟨by kernel_rfl, fun w' hS => by have q_ := (hS.cell (World.block_lt_of_cell? W _ hcS)).trans hcS; first | (go_simp; done) | (go_simp; simp [*]; done)⟩) hS ?_
    try simp only [List.getElem_toArray, List.getElem_cons_succ, List.getElem_cons_zero, Act.put, List.setIfInBounds_toArray, List.set_cons_zero, List.set_cons_succ]
    refine wpAnyH_take (i := 18) (v := .int .i64 (pre.length : Int)) rfl (by kernel_rfl) (by kernel_rfl) (by kernel_rfl) (fun _ _ _ h => h) (.inl ⟨by kernel_rfl, fun w' hS => by have q_ := (hS.cell (World.block_lt_of_cell? W _ hcN)).trans hcN; first | (go_simp; done) | (go_simp; simp [*]; done)⟩) hS ?_
    try simp only [List.getElem_toArray, List.getElem_cons_succ, List.getElem_cons_zero, Act.put, List.setIfInBounds_toArray, List.set_cons_zero, List.set_cons_succ]
    refine wpAnyH_take (i := 19) (v := .pointer (some (ad.add (pre.length * 3)))) rfl (by kernel_rfl) (by kernel_rfl) (by kernel_rfl) (fun _ _ _ h => h) (.inl ⟨by kernel_rfl, fun w' hS => by first | (go_simp; done) | (go_simp; simp [*]; done)⟩) hS ?_
    try simp only [List.getElem_toArray, List.getElem_cons_succ, List.getElem_cons_zero, Act.put, List.setIfInBounds_toArray, List.set_cons_zero, List.set_cons_succ]
    refine wpAnyH_take (i := 20) (v := .pointer (some ⟨(ad.add (pre.length * 3)).block, (ad.add (pre.length * 3)).off + 1, none⟩)) rfl (by kernel_rfl) (by kernel_rfl) (by kernel_rfl) (fun _ _ _ h => h) (.inl ⟨by kernel_rfl, fun w' hS => by first | (go_simp; done) | (go_simp; simp [*]; done)⟩) hS ?_
    try simp only [List.getElem_toArray, List.getElem_cons_succ, List.getElem_cons_zero, Act.put, List.setIfInBounds_toArray, List.set_cons_zero, List.set_cons_succ]
    refine wpAnyH_take (i := 21) (v := .int .i64 x.f1) rfl (by kernel_rfl) (by kernel_rfl) (by kernel_rfl) (fun _ _ _ h => h) (.inl ⟨by kernel_rfl, fun w' hS => by have q_ := (hS.cell (World.block_lt_of_cell? W _ hr1)).trans hr1; first | (go_simp; done) | (go_simp; simp [*]; done)⟩) hS ?_
    try simp only [List.getElem_toArray, List.getElem_cons_succ, List.getElem_cons_zero, Act.put, List.setIfInBounds_toArray, List.set_cons_zero, List.set_cons_succ]
    refine wpAnyH_take (i := 22) (v := .bool false) rfl (by kernel_rfl) (by kernel_rfl) (by kernel_rfl) (fun _ _ _ h => h) (.inl ⟨by kernel_rfl, fun w' hS => by first | (go_simp; done) | (go_simp; simp [*]; done)⟩) hS ?_
    try simp only [List.getElem_toArray, List.getElem_cons_succ, List.getElem_cons_zero, Act.put, List.setIfInBounds_toArray, List.set_cons_zero, List.set_cons_succ]
    refine wpAnyH_take (i := 23) (v := .bool false) rfl (by kernel_rfl) (by kernel_rfl) (by kernel_rfl) (fun _ _ _ h => h) (.inl ⟨by kernel_rfl, fun w' hS => by first | (go_simp; done) | (go_simp; simp [*]; done)⟩) hS ?_
    try simp only [List.getElem_toArray, List.getElem_cons_succ, List.getElem_cons_zero, Act.put, List.setIfInBounds_toArray, List.set_cons_zero, List.set_cons_succ]
    refine wpAnyH_take (i := 24) (v := .bool false) rfl (by kernel_rfl) (by kernel_rfl) (by kernel_rfl) (fun _ _ _ h => h) (.inl ⟨by kernel_rfl, fun w' hS => by first | (go_simp; done) | (go_simp; simp [*]; done)⟩) hS ?_
    try simp only [List.getElem_toArray, List.getElem_cons_succ, List.getElem_cons_zero, Act.put, List.setIfInBounds_toArray, List.set_cons_zero, List.set_cons_succ]
    refine wpAnyH_take (i := 25) (v := .pointer (some ⟨vb, 2, none⟩)) rfl (by kernel_rfl) (by kernel_rfl) (by kernel_rfl) (fun _ _ _ h => h) (.inl ⟨by kernel_rfl, fun w' hS => by first | (go_simp; done) | (go_simp; simp [*]; done)⟩) hS ?_
    try simp only [List.getElem_toArray, List.getElem_cons_succ, List.getElem_cons_zero, Act.put, List.setIfInBounds_toArray, List.set_cons_zero, List.set_cons_succ]
    refine wpAnyH_take (i := 26) (v := .string x.f2) rfl (by kernel_rfl) (by kernel_rfl) (by kernel_rfl) (fun _ _ _ h => h) (.inl ⟨by kernel_rfl, fun w' hS => by have q_ := (hS.cell (World.block_lt_of_cell? W _ hx2)).trans hx2; first | (go_simp; done) | (go_simp; simp [*]; done)⟩) hS ?_
    try simp only [List.getElem_toArray, List.getElem_cons_succ, List.getElem_cons_zero, Act.put, List.setIfInBounds_toArray, List.set_cons_zero, List.set_cons_succ]
    refine wpAnyH_take (i := 27) (v := .slice (some ad) L.length c1) rfl (by kernel_rfl) (by kernel_rfl) (by kernel_rfl) (fun _ _ _ h => h) (.inl ⟨by kernel_rfl, fun w' hS => by have q_ := (hS.cell (World.block_lt_of_cell? W _ hcS)).trans hcS; first | (go_simp; done) | (go_simp; simp [*]; done)⟩) hS ?_
    try simp only [List.getElem_toArray, List.getElem_cons_succ, List.getElem_cons_zero, Act.put, List.setIfInBounds_toArray, List.set_cons_zero, List.set_cons_succ]
    refine wpAnyH_take (i := 28) (v := .int .i64 (pre.length : Int)) rfl (by kernel_rfl) (by kernel_rfl) (by kernel_rfl) (fun _ _ _ h => h) (.inl ⟨by kernel_rfl, fun w' hS => by have q_ := (hS.cell (World.block_lt_of_cell? W _ hcN)).trans hcN; first | (go_simp; done) | (go_simp; simp [*]; done)⟩) hS ?_
    try simp only [List.getElem_toArray, List.getElem_cons_succ, List.getElem_cons_zero, Act.put, List.setIfInBounds_toArray, List.set_cons_zero, List.set_cons_succ]
    refine wpAnyH_take (i := 29) (v := .pointer (some (ad.add (pre.length * 3)))) rfl (by kernel_rfl) (by kernel_rfl) (by kernel_rfl) (fun _ _ _ h => h) (.inl ⟨by kernel_rfl, fun w' hS => by first | (go_simp; done) | (go_simp; simp [*]; done)⟩) hS ?_
    try simp only [List.getElem_toArray, List.getElem_cons_succ, List.getElem_cons_zero, Act.put, List.setIfInBounds_toArray, List.set_cons_zero, List.set_cons_succ]
    refine wpAnyH_take (i := 30) (v := .pointer (some ⟨(ad.add (pre.length * 3)).block, (ad.add (pre.length * 3)).off + 2, none⟩)) rfl (by kernel_rfl) (by kernel_rfl) (by kernel_rfl) (fun _ _ _ h => h) (.inl ⟨by kernel_rfl, fun w' hS => by first | (go_simp; done) | (go_simp; simp [*]; done)⟩) hS ?_
    try simp only [List.getElem_toArray, List.getElem_cons_succ, List.getElem_cons_zero, Act.put, List.setIfInBounds_toArray, List.set_cons_zero, List.set_cons_succ]
    refine wpAnyH_take (i := 31) (v := .string x.f2) rfl (by kernel_rfl) (by kernel_rfl) (by kernel_rfl) (fun _ _ _ h => h) (.inl ⟨by kernel_rfl, fun w' hS => by have q_ := (hS.cell (World.block_lt_of_cell? W _ hr2)).trans hr2; first | (go_simp; done) | (go_simp; simp [*]; done)⟩) hS ?_
    try simp only [List.getElem_toArray, List.getElem_cons_succ, List.getElem_cons_zero, Act.put, List.setIfInBounds_toArray, List.set_cons_zero, List.set_cons_succ]
    refine wpAnyH_take (i := 32) (v := .bool false) rfl (by kernel_rfl) (by kernel_rfl) (by kernel_rfl) (fun _ _ _ h => h) (.inl ⟨by kernel_rfl, fun w' hS => by first | (go_simp; done) | (go_simp; simp [*]; done)⟩) hS ?_
    try simp only [List.getElem_toArray, List.getElem_cons_succ, List.getElem_cons_zero, Act.put, List.setIfInBounds_toArray, List.set_cons_zero, List.set_cons_succ]
    refine wpAnyH_take (i := 33) (v := .bool false) rfl (by kernel_rfl) (by kernel_rfl) (by kernel_rfl) (fun _ _ _ h => h) (.inl ⟨by kernel_rfl, fun w' hS => by first | (go_simp; done) | (go_simp; simp [*]; done)⟩) hS ?_
    try simp only [List.getElem_toArray, List.getElem_cons_succ, List.getElem_cons_zero, Act.put, List.setIfInBounds_toArray, List.set_cons_zero, List.set_cons_succ]
    refine wpAnyH_done (by kernel_rfl) ?_ _
    refine NoPanic.normal ?_
    have hn9 : Boxed W.drew (w.heap.size + 2) 3 (.int .i64 pre.length) := HN.out
    have hc9 := hn9.cell
    have hf9 := hn9.frozen
    have hw9 : wrap64 ((pre.length : Int) + 1) = ((pre.length + 1 : Nat) : Int) := by rw [w64 (by omega) (by have := HPL.out; have := HL.out; omega)]; omega
    have HN9 := Aside0.mk hn9
    clear hn9 hS
    gi_wp2
    refine ⟨((KeepsOthers.drew W).trans (KeepsOthers.setCell _ _ _)).from _, (KeepC.of_below ((Below.refl _ W).drew)).trans (KeepC.of_set rfl), ?_, ?_, ?_, ?_, ?_⟩
    · rw [List.length_append]; first | exact Boxed.set _ HN9.out | (rw [← hw9]; exact Boxed.set _ HN9.out)
    · exact boxed_setZ (show Boxed W.drew _ _ _ from HF.out) (by omega)
    · exact boxed_setZ (show Boxed W.drew _ _ _ from HS0.out) (by omega)
    · exact (below_drew HB.out).setCell (p := ⟨w.heap.size + 2, 0, none⟩) (by simp) _
    · show _ ≤ (World.setCell _ _ _).heap.size
      simp; exact HSz.out
  case done =>
    rintro D ys W hD hys ⟨hN, hF, hS0, hB, hSz⟩ hK
    subst hys
    have hcN : W.cell? ⟨w.heap.size + 1 + 1, 0, none⟩ = some (.int .i64 ys.length) := hN.cell
    have hcS := hS0.cell
    have hcF := hF.cell
    have hfF := hF.frozen
    have e6 : ((ys.length : Int) == (ys.length : Int)) = true := beq_self_eq_true _
    have HF := Aside0.mk hF
    have HB := Aside0.mk hB
    have HK := Aside0.mk hK
    have HD := Aside0.mk hD
    clear hN hF hS0 hB hSz hK hD
    go_wp2
    have hd := HD.out
    have hz := HZ4.out
    obtain ⟨m1, m2, m3⟩ := mark_endZ (.bool true) HB.out HF.out HK.out (by omega) (by omega)
    refine ⟨by simp, .inl ⟨_, _, rfl, run_takeDeferred m1, ?_⟩⟩
    exact ⟨_, by simp [results, Tryz.results17, go_sem, m2], rfl, m3 _⟩
  case stop =>
    rintro D c pre W hD hSp h hK
    exact h.elim
end Go.Proofs.YtbpdcbibooiimaaGreatDoor.Q
/- Layer 5: the contracts that the laws' walks use, told by cases. -/
namespace Go.Proofs.YtbpdcbibooiimaaGreatDoor.Q
open Go.RowKit Go.Shelf Go.Proofs.YtbpdcbibooiimaaGreatDoorW.PrintWords Go.Proofs.YtbpdcbibooiimaaGreatDoorW.PrintLast Go.Proofs.YtbpdcbibooiimaaGreatDoorW.PrintMore Go.Proofs.YtbpdcbibooiimaaGreatDoor.K
theorem ppGo_cases (vs : List ByteArray) : ∀ (X : List (Int × List (List Int))) (acc : List S83), (∃ l, ppGo vs X acc = (some l, 0, 0)) ∨ ∃ e n : Int, e ≠ 0 ∧ ppGo vs X acc = (none, e, n)
  | [], acc => .inl ⟨acc, rfl⟩
  | x :: X, acc => by
    cases h : ppS vs x.2 with
    | inl e => exact .inr ⟨e, x.1, ppS_err h, ppGo_err h⟩
    | inr o =>
      cases o with
      | none => rw [ppGo_skip h]; exact ppGo_cases vs X acc
      | some s =>
        by_cases c : (addR acc s).1 = 0
        · rw [ppGo_add h c]; exact ppGo_cases vs X _
        · exact .inr ⟨_, x.1, c, ppGo_twice h c⟩
theorem ppGo_count (vs : List ByteArray) : ∀ (X : List (Int × List (List Int))) (acc l : List S83), SpOK acc → ppGo vs X acc = (some l, 0, 0) → l.length ≤ acc.length + X.length
  | [], acc, l, _, h => by
    unfold ppGo at h
    rw [Prod.mk.injEq, Option.some.injEq] at h
    rw [← h.1]; simp
  | x :: X, acc, l, hO, h => by
    cases hs : ppS vs x.2 with
    | inl e => rw [ppGo_err hs] at h; cases h
    | inr o =>
      cases o with
      | none =>
        rw [ppGo_skip hs] at h
        have := ppGo_count vs X acc l hO h
        simp only [List.length_cons]; omega
      | some s =>
        by_cases c : (addR acc s).1 = 0
        · rw [ppGo_add hs c] at h
          have h1 := ppGo_count vs X _ l (addR_SpOK hO c) h
          have h2 := (addR_perm hO c).length_eq
          simp only [List.length_cons] at h2 ⊢; omega
        · rw [ppGo_twice hs c] at h; cases h
theorem ppGo_len' {vs : List ByteArray} {L : List Int} {l : List S83} (hl : L.length ≤ 900) (h : ppGo vs (linesI 0 (spl 10 L)) [] = (some l, 0, 0)) : l.length ≤ 1000 := by
  have h1 := ppGo_count vs _ [] l SpOK.nil h
  have h2 := linesI_len (spl 10 L) 0
  have h3 := splP_count (fun x => decide (x = (10 : Int))) L
  unfold spl at h1 h2
  simp only [List.length_nil] at h1
  omega
theorem ppGo_len {vs : List ByteArray} {L : List Int} {l : List S83} (hl : L.length ≤ 800) (h : ppGo vs (linesI 0 (spl 10 L)) [] = (some l, 0, 0)) : l.length ≤ 1000000 := by
  have := ppGo_len' (by omega) h
  omega
section
variable {L : List Int} {vs : List ByteArray}
theorem p5_parse_ok (A : Option Addr) (c : Nat) (ho : Oct L) (hl : L.length ≤ 100000) (Av : Option Addr) (cv : Nat) (hvl : vs.length ≤ 1000000) (w : World) (hE : EnvF w) (hr : Kd.C (Kd.int .u8) w A L.length L) (hc : L.length ≤ c) (hrv : Kd.C Kd.string w Av vs.length vs) (hcv : vs.length ≤ cv)
    {l : List S83} (h : ppGo vs (linesI 0 (spl 10 L)) [] = (some l, 0, 0)) :
    Calls Tryz.prog 15 #[.slice A L.length c, .slice Av vs.length cv] w fun e w' => ∃ g, e = .returned (.tuple #[.pointer (some ⟨g, 0, none⟩), .int .i64 0, .int .i64 0]) ∧ Tab w' (some ⟨g, 0, none⟩) l ∧ SpOK l ∧ Below w.heap.size w w' :=
  (prop_Parse.main A c L ho hl Av cv vs hvl w hE hr hc hrv hcv).mono fun e w' ⟨hb, q, he, hq⟩ => by
    rw [h] at he hq
    obtain ⟨⟨g, rfl⟩, hT, hO⟩ := hq
    exact ⟨g, he, hT, hO, hb⟩
theorem p5_parse_err (A : Option Addr) (c : Nat) (ho : Oct L) (hl : L.length ≤ 100000) (Av : Option Addr) (cv : Nat) (hvl : vs.length ≤ 1000000) (w : World) (hE : EnvF w) (hr : Kd.C (Kd.int .u8) w A L.length L) (hc : L.length ≤ c) (hrv : Kd.C Kd.string w Av vs.length vs) (hcv : vs.length ≤ cv)
    {f n : Int} (h : ppGo vs (linesI 0 (spl 10 L)) [] = (none, f, n)) :
    Calls Tryz.prog 15 #[.slice A L.length c, .slice Av vs.length cv] w fun e w' => e = .returned (.tuple #[.pointer none, .int .i64 f, .int .i64 n]) ∧ Below w.heap.size w w' :=
  (prop_Parse.main A c L ho hl Av cv vs hvl w hE hr hc hrv hcv).mono fun e w' ⟨hb, q, he, hq⟩ => by
    rw [h] at he hq
    have hq : q = none := hq
    subst hq
    exact ⟨he, hb⟩
theorem p5_ref_ok (ho : Oct L) (hl : L.length ≤ 50000) (Av : Option Addr) (cv : Nat) (hvl : vs.length ≤ 1000000) (w : World) (hrv : Kd.C Kd.string w Av vs.length vs) (hcv : vs.length ≤ cv)
    {l : List S83} {M : List S93} (hM : M = l.map c53) (h : ppGo vs (linesI 0 (spl 10 L)) [] = (some l, 0, 0)) :
    Calls Tryz.prog 16 #[.string (strOfNums L), .slice Av vs.length cv] w fun e w' => ∃ A' c', e = .returned (.tuple #[.slice A' M.length c', .int .i64 0, .int .i64 0]) ∧ M.length ≤ c' ∧ Kd.C k93 w' A' M.length M ∧ Below w.heap.size w w' :=
  (refParse5.calls L ho hl Av cv vs hvl w hrv hcv).mono fun e w' ⟨v, he, hR, hb⟩ => by
    rw [h] at he hR
    have hR : Kd.R k93 93 w' w.heap.size (fun _ => True) v M := by rw [hM]; exact hR
    obtain ⟨A', c', rfl, h1, h2⟩ := Kd.R_reads hR
    exact ⟨A', c', he, h1, h2, hb⟩
theorem p5_ref_err (ho : Oct L) (hl : L.length ≤ 50000) (Av : Option Addr) (cv : Nat) (hvl : vs.length ≤ 1000000) (w : World) (hrv : Kd.C Kd.string w Av vs.length vs) (hcv : vs.length ≤ cv)
    {f n : Int} (h : ppGo vs (linesI 0 (spl 10 L)) [] = (none, f, n)) :
    Calls Tryz.prog 16 #[.string (strOfNums L), .slice Av vs.length cv] w fun e w' => ∃ A' c', e = .returned (.tuple #[.slice A' 0 c', .int .i64 f, .int .i64 n]) ∧ Kd.C k93 w' A' 0 [] ∧ Below w.heap.size w w' :=
  (refParse5.calls L ho hl Av cv vs hvl w hrv hcv).mono fun e w' ⟨v, he, hR, hb⟩ => by
    rw [h] at he hR
    have hR : Kd.R k93 93 w' w.heap.size (fun _ => True) v [] := hR
    obtain ⟨A', c', rfl, h1, h2⟩ := Kd.R_reads hR
    exact ⟨A', c', he, h2, hb⟩
theorem p5_few (A : Option Addr) (c : Nat) (b : Bool) (hb : fewB vs = b) (w : World) (hr : Kd.C Kd.string w A vs.length vs) (hc : vs.length ≤ c) :
    Calls Tryz.prog 14 #[.slice A vs.length c] w fun e w' => e = .returned (.bool b) ∧ Below w.heap.size w w' := by
  subst hb
  obtain ⟨k, hk⟩ := (few_ev vs).rounds
  exact (paronymlaw05_few.calls k A c vs _ w hr hc hk).mono fun e w' h => ⟨h.1, h.2.below⟩
theorem few_len (h : fewB vs = true) : vs.length ≤ 5 := by
  unfold fewB at h
  have := (Bool.and_eq_true_iff.1 h).1
  exact of_decide_eq_true this
end
end Go.Proofs.YtbpdcbibooiimaaGreatDoor.Q
namespace Go.Proofs.YtbpdcbibooiimaaGreatDoor.Q
open Go.RowKit Go.Proofs.YtbpdcbibooiimaaGreatDoorW.PrintWords Go.Proofs.YtbpdcbibooiimaaGreatDoorW.PrintLast Go.Proofs.YtbpdcbibooiimaaGreatDoorW.PrintMore
def bytesLit.f (l : List Int) : Option (List Int) := some l
theorem bytesLit.cells {W : World} {e : Nat} {xs : List Int} {C : Array Value} {p : Nat × Nat} {g : Nat} (hC : C = (xs.map (Value.int .u8)).toArray) (hl : xs.length ≤ 9223372036854775807) (h : W.heap[g]? = some (.cells C e p)) :
    Kd.C (Kd.int .u8) W (some ⟨g, 0, none⟩) xs.length xs := by
  refine Kd.C_of_reads (d := (0 : Int)) ⟨rfl, hl, fun _ => ⟨_, rfl, fun j hj => ?_⟩⟩
  rw [add_plain, cell_of_row W g j C e p h, hC]
  simp [List.getD_eq_getElem?_getD, List.getElem?_eq_getElem hj]
theorem bytesLit.step {P : Program} {W : World} {ops : Array Oper} {rest : List Oper} {o : Oper} {a : Act} {Q : Exit → Act → World → Prop} {C : Array Value} {n c : Nat} (t e : TypeId) (s : Operand) (xs r : List Int) (h : bytesLit.f xs = some r)
    (hgd : o.guard = none) (hop : o.op = .convert t t s) (hs : a.eval s = .slice (some ⟨W.heap.size, 0, none⟩) n c) (ht : P.underlying t = some (.slice e)) (he : P.underlying e = some (.int .u8))
    (hC : C = (xs.map (Value.int .u8)).toArray) (hn : n = xs.length) (hc : n ≤ c) (hl : xs.length ≤ 9223372036854775807)
    (hk : ∀ v w1, Kd.V (Kd.int .u8) e w1 W.heap.size (fun k => W.heap.size ≤ k) v r → Below W.heap.size W w1 → wpList P ops Q rest (a.put o.dst v) w1) :
    wpList P ops Q (o :: rest) a (W.alloc (.cells C e)) := by
  obtain rfl := Option.some.inj h
  have hr := Lib.run_convert_bytes_const (P := P) W t e C n c ht he
  refine wpList_plain hgd fun K hK => ?_
  unfold Oper.wp execOp
  simp only [hop, hs]
  have hr2 : (do let v ← convert t t (.slice (some ⟨W.heap.size, 0, none⟩) n c); pure (Next.value v) : Sem Next).run P (W.alloc (.cells C e)) = .ok (.value (.slice (some ⟨W.heap.size, 0, none⟩) n c)) (W.alloc (.cells C e (C.size, C.size + 1))) := by
    rw [Sem.run_bind, hr]; rfl
  first | rw [hr2] | (simp only [Sem.run_bind, hr, Sem.run_pure, Result.andThen_ok]) 
  refine hK _ _ (hk _ _ ?_ ((Below.refl _ W).alloc (Nat.le_refl _) _))
  subst hn
  refine Kd.V_mk hc (fun W' hW => ?_)
  refine bytesLit.cells hC hl (e := e) (p := (C.size, C.size + 1)) ?_
  rw [hW W.heap.size (Nat.le_refl _) (by simp)]
  exact heap_alloc_new W _
end Go.Proofs.YtbpdcbibooiimaaGreatDoor.Q
/- Layer 5's law: awake. -/
namespace Go.Proofs.YtbpdcbibooiimaaGreatDoor.Q
open Go.RowKit Go.Shelf Go.Proofs.YtbpdcbibooiimaaGreatDoorW.PrintWords Go.Proofs.YtbpdcbibooiimaaGreatDoorW.PrintLast Go.Proofs.YtbpdcbibooiimaaGreatDoorW.PrintMore Go.Proofs.YtbpdcbibooiimaaGreatDoor.K
def aw5L : List Int := [48, 48, 54, 49, 46, 46, 48, 48, 54, 51, 32, 59, 32, 80, 86, 65, 76, 73, 68, 10, 48, 48, 54, 52, 32, 59, 32, 68, 73, 83, 65, 76, 76, 79, 87, 69, 68, 10]
def aw5R : List Int := [48, 48, 54, 49, 46, 46, 48, 48, 54, 51]
def aw5Q : List Int := [48, 48, 54, 52]
def aw5P : List Int := [80, 86, 65, 76, 73, 68]
def aw5D : List Int := [68, 73, 83, 65, 76, 76, 79, 87, 69, 68]
def aw5V : ByteArray := ⟨#[80, 86, 65, 76, 73, 68]⟩
theorem aw5L_oct : Oct aw5L := fun x hx => by simp only [aw5L, List.mem_cons, List.not_mem_nil, or_false] at hx; omega
theorem hexT97 : hexT 97 = [48, 48, 54, 49] := by
  unfold hexT
  rw [hexL_step (by omega), hexL_one (by omega)]
  decide
theorem hexT99 : hexT 99 = [48, 48, 54, 51] := by
  unfold hexT
  rw [hexL_step (by omega), hexL_one (by omega)]
  decide
theorem hexT100 : hexT 100 = [48, 48, 54, 52] := by
  unfold hexT
  rw [hexL_step (by omega), hexL_one (by omega)]
  decide
theorem aw5_range : rangeL aw5R = (97, 99, 0) := by
  have hd : dots aw5R = some 4 := by decide
  have h1 : pointL (aw5R.take 4) = some 97 := by
    rw [pointL_is, if_neg (by decide), show valF 0 (aw5R.take 4) = some 97 from by decide]
    unfold endP
    simp only
    rw [if_neg (by decide), if_pos (by rw [hexT97]; decide)]
  have h2 : pointL (aw5R.drop (4 + 2)) = some 99 := by
    rw [pointL_is, if_neg (by decide), show valF 0 (aw5R.drop (4 + 2)) = some 99 from by decide]
    unfold endP
    simp only
    rw [if_neg (by decide), if_pos (by rw [hexT99]; decide)]
  unfold rangeL
  rw [hd]
  simp only
  rw [h1, h2]
  decide
theorem aw5_range2 : rangeL aw5Q = (100, 100, 0) := by
  have hd : dots aw5Q = none := by decide
  have h1 : pointL aw5Q = some 100 := by
    rw [pointL_is, if_neg (by decide), show valF 0 aw5Q = some 100 from by decide]
    unfold endP
    simp only
    rw [if_neg (by decide), if_pos (by rw [hexT100]; decide)]
  unfold rangeL
  rw [hd]
  simp only
  rw [h1]
  try decide
theorem aw5_lines : linesI 0 (spl 10 aw5L) = [(1, [aw5R, aw5P]), (2, [aw5Q, aw5D])] := by decide +kernel
theorem aw5_V : strOfNums aw5P = aw5V := by rfl
theorem aw5_S1 : ppS [aw5V] [aw5R, aw5P] = .inr (some ⟨97, 99, aw5V⟩) := by
  have := ppS_in (vs := [aw5V]) (a := aw5R) (b := aw5P) (r := []) (by rw [aw5_range]) (by decide) (by rw [aw5_V]; unfold amongB; simp)
  rw [aw5_range, aw5_V] at this
  exact this
theorem aw5_S2 : ppS [aw5V] [aw5Q, aw5D] = .inr none := ppS_out (by rw [aw5_range2]) (by decide) (by unfold amongB; decide +kernel)
theorem aw5_valid : valid ⟨97, 99, aw5V⟩ := ⟨by decide, by decide, by decide, by rw [ba_toList]; decide⟩
theorem aw5_ok : SpOK [⟨97, 99, aw5V⟩] := ⟨List.pairwise_singleton _ _, fun s hs => by rw [List.mem_singleton.1 hs]; exact aw5_valid⟩
theorem aw5_add : addR [] ⟨97, 99, aw5V⟩ = (0, [⟨97, 99, aw5V⟩]) := by
  have h := addR_zero SpOK.nil aw5_valid (fun t ht => by cases ht)
  obtain ⟨h1, _, _⟩ := addR_ok SpOK.nil h
  exact Prod.ext h (by rw [h1]; rfl)
theorem aw5_go : ppGo [aw5V] (linesI 0 (spl 10 aw5L)) [] = (some [⟨97, 99, aw5V⟩], 0, 0) := by
  rw [aw5_lines, ppGo_add (x := (1, [aw5R, aw5P])) aw5_S1 (by rw [aw5_add]), aw5_add, ppGo_skip (x := (2, [aw5Q, aw5D])) aw5_S2]
  rfl
theorem aw5_v1 : valR [⟨97, 99, aw5V⟩] 98 = aw5V := valR_in (i := 0) aw5_ok (by simp) (by simp) (by simp)
theorem aw5_v2 : valR [⟨97, 99, aw5V⟩] 100 = ⟨#[]⟩ := valR_out aw5_ok (fun s hs h => by rw [List.mem_singleton.1 hs] at h; simp at h)
theorem strsB_row {W : World} {g : Nat} {X : List ByteArray} (h : W.heap[g]? = some (.cells (X.map Value.string).toArray 9 (0, 0))) (hl : X.length ≤ 1000000) : Kd.C Kd.string W (some ⟨g, 0, none⟩) X.length X := by
  refine ⟨rfl, by omega, fun _ => ⟨⟨g, 0, none⟩, rfl, fun j q hj => ⟨_, rfl, rfl, fun i u hu => ?_⟩⟩⟩
  have hi : i = 0 := by
    cases i with
    | zero => rfl
    | succ i => simp at hu
  subst hi
  simp only [List.getElem?_cons_zero, Option.some.injEq] at hu
  subst hu
  rw [Addr.add_lit]
  simp only [World.cell?]
  rw [h]
  show ((X.map Value.string).toArray)[0 + (j * 1 + 0)]? = _
  simp [hj]
theorem p5_value (p : Option Addr) (L : List S83) (c : Int) (r : ByteArray) (hr : valR L c = r) (w : World) (hT : Tab w p L) (hl : L.length ≤ 1000000) (hL : SpOK L) :
    Calls Tryz.prog 42 #[.pointer p, .int .i64 c] w fun e w' => e = .returned (.string r) ∧ Below w.heap.size w w' := by
  subst hr
  obtain ⟨k, hk⟩ := (value_ev hl hL c).rounds
  exact span_Value.calls k p L c _ w hT hk
set_option maxHeartbeats 4000000 in
set_option maxRecDepth 100000 in
theorem paronymlaw05_awake.calls0 (w : World) (hE : EnvF w) : Calls Tryz.prog 13 #[] w fun e w' => e = .returned (.bool true) ∧ Below w.heap.size w w' := by
  have HE := Aside0.mk hE
  have gv : aw5V.toList = [80, 86, 65, 76, 73, 68] := by rw [ba_toList]; rfl
  have gw : (aw5V.toList == [80, 86, 65, 76, 73, 68]) = true := beq_iff_eq.mpr gv
  clear hE
  go_enter Tryz.func13, Tryz.ntmps13
  go_wp2_with (first
    | ((with_reducible refine gate_dst (N := 6) rfl ?_); (try (refine gate_guard (by rfl) ?_; dsimp only)); refine bytesLit.step 22 5 _ aw5L aw5L rfl rfl rfl (by rfl) Tryz.underlying22 Tryz.underlying5 rfl rfl (by decide) (by decide) ?_; intro v1 w2 hv1 hb2; have HV1 := Aside0.mk hv1; have HB2 := Aside0.mk hb2; clear hv1 hb2)
    | (go_at_call 15
       obtain ⟨A1, c1, rfl⟩ := Kd.V_slice HV1.out
       obtain ⟨-, hc1, hC1⟩ := Kd.V_reads' HV1.out
       have hb3 : Below w.heap.size w (w2.alloc (.cells #[.string aw5V] 9)) := HB2.out.alloc HB2.out.size _
       refine (p5_parse_ok (L := aw5L) (vs := [aw5V]) A1 c1 aw5L_oct (by decide) (some ⟨w2.heap.size, 0, none⟩) 1 (by simp) (w2.alloc (.cells #[.string aw5V] 9)) (HE.out.below hb3) (Kd.C_alloc hC1 _) hc1 (strsB_row (heap_alloc_new w2 _) (by simp)) (Nat.le_refl _) aw5_go).mono ?_
       rintro e w4 ⟨g, rfl, hT, hO, hb⟩
       have HT := Aside0.mk hT
       have HB4 := Aside0.mk (hb3.trans (hb.mono hb3.size))
       clear hc1 hC1 hb3 hT hO hb)
    | (go_at_call 41; refine (span_Len.calls _ _ _ HT.out).mono ?_; rintro e w5 ⟨rfl, rfl⟩; have HT5 := HT; have HB5 := HB4)
    | (go_at_call 42; (with_reducible refine (p5_value _ _ 98 aw5V aw5_v1 _ HT5.out (by simp) aw5_ok).mono ?_); rintro e w6 ⟨rfl, hb⟩; have HT6 := Aside0.mk (HT5.out.below hb); have HB6 := Aside0.mk (HB5.out.trans (hb.mono HB5.out.size)); clear hb)
    | (go_at_call 42; (with_reducible refine (p5_value _ _ 100 ⟨#[]⟩ aw5_v2 _ HT6.out (by simp) aw5_ok).mono ?_); rintro e w7 ⟨rfl, hb⟩; have HB7 := Aside0.mk (HB6.out.trans (hb.mono HB6.out.size)); clear hb))
  go_ret
  exact ⟨rfl, HB7.out⟩
end Go.Proofs.YtbpdcbibooiimaaGreatDoor.Q
/- PropParses: the walk. -/
namespace Go.Proofs.YtbpdcbibooiimaaGreatDoor.Q
open Go.RowKit Go.Shelf Go.Proofs.YtbpdcbibooiimaaGreatDoorW.PrintWords Go.Proofs.YtbpdcbibooiimaaGreatDoorW.PrintLast Go.Proofs.YtbpdcbibooiimaaGreatDoorW.PrintMore Go.Proofs.YtbpdcbibooiimaaGreatDoor.K
set_option maxHeartbeats 4000000 in
set_option maxRecDepth 100000 in
theorem paronymlaw05_PropParses.long (A : Option Addr) (c : Nat) (L : List Int) (Av : Option Addr) (cv : Nat) (vs : List ByteArray) (w : World) (hE : EnvF w) (hl : ¬ L.length ≤ 800) :
    Calls Tryz.prog 3 #[.slice A L.length c, .slice Av vs.length cv] w fun e w' => e = .returned (.bool true) ∧ Below w.heap.size w w' := by
  have HE := Aside0.mk hE
  have e0 : ((800 : Int) < (L.length : Int)) = True := eq_true (by omega)
  have e1 : decide ((800 : Int) < (L.length : Int)) = true := decide_eq_true (by omega)
  clear hE hl
  have HB := Aside0.mk (Below.refl w.heap.size w)
  go_enter Tryz.func3, Tryz.ntmps3
  go_wp2_with (go_at_call 13; (with_reducible refine (paronymlaw05_awake.calls0 _ (HE.out.below HB.out)).mono ?_); rintro e w1 ⟨rfl, hb⟩; have HB := Aside0.mk (HB.out.trans (hb.mono HB.out.size)); clear hb)
  go_ret
  exact ⟨rfl, HB.out⟩
set_option maxHeartbeats 4000000 in
set_option maxRecDepth 100000 in
theorem paronymlaw05_PropParses.many (A : Option Addr) (c : Nat) (L : List Int) (Av : Option Addr) (cv : Nat) (vs : List ByteArray) (w : World) (hE : EnvF w) (hl : L.length ≤ 800) (hrv : Kd.C Kd.string w Av vs.length vs) (hcv : vs.length ≤ cv) (hf : fewB vs = false) :
    Calls Tryz.prog 3 #[.slice A L.length c, .slice Av vs.length cv] w fun e w' => e = .returned (.bool true) ∧ Below w.heap.size w w' := by
  have HE := Aside0.mk hE
  have HRV := Aside0.mk hrv
  have HCV := Aside0.mk hcv
  have HF := Aside0.mk hf
  have e0 : ((800 : Int) < (L.length : Int)) = False := eq_false (by omega)
  have e1 : decide ((800 : Int) < (L.length : Int)) = false := decide_eq_false (by omega)
  clear hE hl hrv hcv hf
  have HB := Aside0.mk (Below.refl w.heap.size w)
  go_enter Tryz.func3, Tryz.ntmps3
  go_wp2_with (first
    | (go_at_call 13; (with_reducible refine (paronymlaw05_awake.calls0 _ (HE.out.below HB.out)).mono ?_); rintro e w1 ⟨rfl, hb⟩; have HB := Aside0.mk (HB.out.trans (hb.mono HB.out.size)); clear hb)
    | (go_at_call 14; (with_reducible refine (p5_few _ _ _ HF.out _ (Kd.C_below HRV.out HB.out) HCV.out).mono ?_); rintro e w2 ⟨rfl, hb⟩; have HB := Aside0.mk (HB.out.trans (hb.mono HB.out.size)); clear hb))
  go_ret
  exact ⟨rfl, HB.out⟩
set_option maxHeartbeats 4000000 in
set_option maxRecDepth 100000 in
theorem paronymlaw05_PropParses.err (A : Option Addr) (c : Nat) (L : List Int) (ho : Oct L) (Av : Option Addr) (cv : Nat) (vs : List ByteArray) (w : World) (hE : EnvF w) (hl : L.length ≤ 800) (hr : Kd.C (Kd.int .u8) w A L.length L) (hc : L.length ≤ c) (hrv : Kd.C Kd.string w Av vs.length vs) (hcv : vs.length ≤ cv) (hf : fewB vs = true)
    (f n : Int) (h0 : f ≠ 0) (h : ppGo vs (linesI 0 (spl 10 L)) [] = (none, f, n)) :
    Calls Tryz.prog 3 #[.slice A L.length c, .slice Av vs.length cv] w fun e w' => e = .returned (.bool true) ∧ Below w.heap.size w w' := by
  have hv5 := few_len hf
  have HE := Aside0.mk hE
  have HR := Aside0.mk hr
  have HC := Aside0.mk hc
  have HO := Aside0.mk ho
  have HRV := Aside0.mk hrv
  have HCV := Aside0.mk hcv
  have HF := Aside0.mk hf
  have HH := Aside0.mk h
  have HL : Aside0 (L.length ≤ 50000) := ⟨by omega⟩
  have HL2 : Aside0 (L.length ≤ 100000) := ⟨by omega⟩
  have HV5 : Aside0 (vs.length ≤ 1000000) := ⟨by omega⟩
  have e0 : ((800 : Int) < (L.length : Int)) = False := eq_false (by omega)
  have e1 : decide ((800 : Int) < (L.length : Int)) = false := decide_eq_false (by omega)
  have e2 : (f == 0) = false := beq_eq_false_iff_ne.mpr h0
  have e3 : (f != 0) = true := bne_iff_ne.mpr h0
  have e4 : decide (f = 0) = false := decide_eq_false h0
  have e5 : (f = 0) = False := eq_false h0
  clear hE hl hrv hcv hf hr hc ho h h0 hv5
  have HB := Aside0.mk (Below.refl w.heap.size w)
  go_enter Tryz.func3, Tryz.ntmps3
  go_wp2_with (first
    | (go_at_call 13; (with_reducible refine (paronymlaw05_awake.calls0 _ (HE.out.below HB.out)).mono ?_); rintro e w1 ⟨rfl, hb⟩; have HB := Aside0.mk (HB.out.trans (hb.mono HB.out.size)); clear hb)
    | (go_at_call 14; (with_reducible refine (p5_few _ _ _ HF.out _ (Kd.C_below HRV.out HB.out) HCV.out).mono ?_); rintro e w2 ⟨rfl, hb⟩; have HB := Aside0.mk (HB.out.trans (hb.mono HB.out.size)); clear hb
       have hcx := Kd.C_string (P := Tryz.prog) (c := c) Tryz.underlying22 Tryz.underlying5 Tryz.underlying9 (Kd.C_below HR.out HB.out))
    | (go_at_call 15; (with_reducible refine (p5_parse_err A c HO.out HL2.out Av cv HV5.out _ (HE.out.below HB.out) (Kd.C_below HR.out HB.out) HC.out (Kd.C_below HRV.out HB.out) HCV.out HH.out).mono ?_); rintro e w3 ⟨rfl, hb⟩; have HB := Aside0.mk (HB.out.trans (hb.mono HB.out.size)); clear hb hcx)
    | (go_at_call 16; (with_reducible refine (p5_ref_err HO.out HL.out Av cv HV5.out _ (Kd.C_below HRV.out HB.out) HCV.out HH.out).mono ?_); rintro e w4 ⟨A4, c4, rfl, hC4, hb⟩; have HB := Aside0.mk (HB.out.trans (hb.mono HB.out.size)); clear hb hC4
       have hcy := Kd.C_string (P := Tryz.prog) (c := c) Tryz.underlying22 Tryz.underlying5 Tryz.underlying9 (Kd.C_below HR.out HB.out)))
  go_ret
  exact ⟨rfl, HB.out⟩
set_option maxHeartbeats 4000000 in
set_option maxRecDepth 100000 in
theorem paronymlaw05_PropParses.fine (A : Option Addr) (c : Nat) (L : List Int) (ho : Oct L) (Av : Option Addr) (cv : Nat) (vs : List ByteArray) (w : World) (hE : EnvF w) (hl : L.length ≤ 800) (hr : Kd.C (Kd.int .u8) w A L.length L) (hc : L.length ≤ c) (hrv : Kd.C Kd.string w Av vs.length vs) (hcv : vs.length ≤ cv) (hf : fewB vs = true)
    (l : List S83) (hll : l.length ≤ 1000000) (h : ppGo vs (linesI 0 (spl 10 L)) [] = (some l, 0, 0)) :
    Calls Tryz.prog 3 #[.slice A L.length c, .slice Av vs.length cv] w fun e w' => e = .returned (.bool true) ∧ Below w.heap.size w w' := by
  have hv5 := few_len hf
  have HE := Aside0.mk hE
  have HR := Aside0.mk hr
  have HC := Aside0.mk hc
  have HO := Aside0.mk ho
  have HRV := Aside0.mk hrv
  have HCV := Aside0.mk hcv
  have HF := Aside0.mk hf
  have HH := Aside0.mk h
  have HLL := Aside0.mk hll
  obtain ⟨M, hM⟩ : ∃ M, M = l.map c53 := ⟨_, rfl⟩
  have HM := Aside0.mk hM
  have HL : Aside0 (L.length ≤ 50000) := ⟨by omega⟩
  have HL2 : Aside0 (L.length ≤ 100000) := ⟨by omega⟩
  have HV5 : Aside0 (vs.length ≤ 1000000) := ⟨by omega⟩
  have e0 : ((800 : Int) < (L.length : Int)) = False := eq_false (by omega)
  have e1 : decide ((800 : Int) < (L.length : Int)) = false := decide_eq_false (by omega)
  clear hE hl hrv hcv hf hr hc ho h hv5 hM hll
  have HB := Aside0.mk (Below.refl w.heap.size w)
  go_enter Tryz.func3, Tryz.ntmps3
  go_wp2_with (first
    | (go_at_call 13; (with_reducible refine (paronymlaw05_awake.calls0 _ (HE.out.below HB.out)).mono ?_); rintro e w1 ⟨rfl, hb⟩; have HB := Aside0.mk (HB.out.trans (hb.mono HB.out.size)); clear hb)
    | (go_at_call 14; (with_reducible refine (p5_few _ _ _ HF.out _ (Kd.C_below HRV.out HB.out) HCV.out).mono ?_); rintro e w2 ⟨rfl, hb⟩; have HB := Aside0.mk (HB.out.trans (hb.mono HB.out.size)); clear hb
       have hcx := Kd.C_string (P := Tryz.prog) (c := c) Tryz.underlying22 Tryz.underlying5 Tryz.underlying9 (Kd.C_below HR.out HB.out))
    | (go_at_call 15; (with_reducible refine (p5_parse_ok A c HO.out HL2.out Av cv HV5.out _ (HE.out.below HB.out) (Kd.C_below HR.out HB.out) HC.out (Kd.C_below HRV.out HB.out) HCV.out HH.out).mono ?_); rintro e w3 ⟨g, rfl, hT, hOK, hb⟩; have HT := Aside0.mk hT; have HB := Aside0.mk (HB.out.trans (hb.mono HB.out.size)); clear hb hcx hT hOK)
    | (go_at_call 16; (with_reducible refine (p5_ref_ok HO.out HL.out Av cv HV5.out _ (Kd.C_below HRV.out HB.out) HCV.out HM.out HH.out).mono ?_); rintro e w4 ⟨A4, c4, rfl, hc4, hC4, hb⟩; have HC4 := Aside0.mk hC4; have HT4 := Aside0.mk (HT.out.below hb); have HB := Aside0.mk (HB.out.trans (hb.mono HB.out.size)); clear hb hC4 hc4)
    | (go_at_call 17; (with_reducible refine (paronymlaw05_Is.main _ l A4 c4 M HM.out _ HT4.out HLL.out HC4.out).mono ?_); rintro e w5 ⟨rfl, hb⟩; have HB := Aside0.mk (HB.out.trans (hb.mono HB.out.size)); clear hb
       have hcy := Kd.C_string (P := Tryz.prog) (c := c) Tryz.underlying22 Tryz.underlying5 Tryz.underlying9 (Kd.C_below HR.out HB.out)))
  go_ret
  exact ⟨rfl, HB.out⟩
theorem paronymlaw05_PropParses.walk (a0 : Option Addr) (cap0 : Nat) (l0 : List Int) (a1 : Option Addr) (cap1 : Nat) (l1 : List ByteArray) (w : World) (hE : EnvF w) (hC0 : Kd.C (Kd.int .u8) w a0 l0.length l0) (hcap0 : l0.length ≤ cap0) (ho : Oct l0) (hC1 : Kd.C Kd.string w a1 l1.length l1) (hcap1 : l1.length ≤ cap1) (hwf : ∀ s ∈ l1, s.size ≤ 9223372036854775807) :
    Calls Tryz.prog 3 #[.slice a0 l0.length cap0, .slice a1 l1.length cap1] w fun e w' => e = .returned (.bool true) ∧ Below w.heap.size w w' := by
  by_cases hl : l0.length ≤ 800
  · cases hf : fewB l1 with
    | false => exact paronymlaw05_PropParses.many a0 cap0 l0 a1 cap1 l1 w hE hl hC1 hcap1 hf
    | true =>
      rcases ppGo_cases l1 (linesI 0 (spl 10 l0)) [] with ⟨l, h⟩ | ⟨e, n, h0, h⟩
      · exact paronymlaw05_PropParses.fine a0 cap0 l0 ho a1 cap1 l1 w hE hl hC0 hcap0 hC1 hcap1 hf l (ppGo_len hl h) h
      · exact paronymlaw05_PropParses.err a0 cap0 l0 ho a1 cap1 l1 w hE hl hC0 hcap0 hC1 hcap1 hf e n h0 h
  · exact paronymlaw05_PropParses.long a0 cap0 l0 a1 cap1 l1 w hE hl
end Go.Proofs.YtbpdcbibooiimaaGreatDoor.Q
namespace Go.Proofs.YtbpdcbibooiimaaGreatDoor.propParses
open Go.ChangeShapes Go.WideShapes Go.ChangeAt Go.RowKit
open Go.ChangeMaps (open_string shut_string)
theorem own : ownKnob Tryz.prog.godebug = none := by kernel_rfl
theorem laidOut : laidOutB Tryz.prog = true := by kernel_rfl
set_option maxRecDepth 100000 in
theorem lifted (os : Os) (started : os.Started) (H : Type) (enc : TypeId × Value → H) :
    ReturnsInHanded {} Tryz.checked os 3 .any (fun w args => (Rows.propParsesSpec.pre enc Tryz.prog Tryz.f3 Rows.propParsesRow.domain false w args ∧ laidMetH Tryz.prog Rows.propParsesRow.laid w) ∧ sizedMet enc Tryz.prog Tryz.f3 (OpenSpec.ofChange Rows.propParsesSpec) false w args) (Rows.propParsesSpec.post enc Tryz.prog Tryz.f3 false true false false) := by
  refine Q.returns_shaped_and (C := Tryz.checked) (X := fun w => laidMetH Tryz.prog Rows.propParsesRow.laid w) (fun _ _ hh h => h.of_heap hh) own started (by kernel_rfl) Tryz.func3
    (ChangeSpec.witness_shaped (enc := enc) (C := Tryz.checked) (os := os) (X := fun w _ => laidMetH Tryz.prog Rows.propParsesRow.laid w) false (World.laidAll Tryz.prog os Rows.propParsesRow.laid) #[.slice none 0 0, .slice none 0 0] 8 (World.laidAll_os _ _ _)
      (World.shaped_of_ZipB (by kernel_rfl) (by kernel_rfl)) (by kernel_rfl) (by kernel_rfl) (by kernel_rfl)
      (by rw [MakeChecks.laidMetH_plain _ _ _ (by kernel_rfl)]; exact laidMet_laidAll _ (by kernel_rfl) (by kernel_rfl))) ?_
  intro W base args ds gs before hsh hL hval0 hW hsz0
  have hsz : (DataW.weightsEach Tryz.prog (Tryz.f3.params.toList ++ Rows.propParsesSpec.plain.varTypes Tryz.prog) (ds ++ gs)).all (· ≤ reachBytes) = true := hsz0
  have hval : ∀ (j : Nat) t v, Tryz.f3.params[j]? = some t → args[j]? = some v → Value.okWide Tryz.prog W .any base t v := hval0
  have hW' := hW
  obtain ⟨p, q, hA0, hV, rfl, hfz, hnd⟩ := hW
  have hA : DataW.TrodAll enc Tryz.prog W 0 (fun _ => true) true Tryz.f3.params.toList args.toList ds p := hA0
  rw [Tryz.params3] at hA hval hsz
  obtain ⟨v0, vs0, d0, ds0, p0, q0, hargs, rfl, rfl, h0, r0⟩ := trodAll_cons hA
  obtain ⟨v1, vs1, d1, ds1, p1, q1, rfl, rfl, rfl, h1, r1⟩ := trodAll_cons r0
  obtain ⟨rfl, rfl, rfl⟩ := trodAll_nil r1
  obtain rfl : args = #[v0, v1] := by cases args; simp_all
  obtain ⟨rfl, rfl⟩ := trodVars_none hV
  obtain ⟨a0, len0, cap0, rfl⟩ := okWide_slice Tryz.underlying22 (hval 0 22 v0 rfl rfl)
  have k0 := h0
  have lt0 : ∀ x ∈ p0, x.block < W.heap.size := by obtain ⟨m, hm⟩ := k0; exact DataW.trod_lt m _ _ _ hm
  obtain ⟨l0, hn0, hcap0, hC0, hwf0⟩ : ∃ l : List Int, l.length = len0 ∧ len0 ≤ cap0 ∧ Go.Proofs.YtbpdcbibooiimaaGreatDoorW.PrintWords.Kd.C (Go.Proofs.YtbpdcbibooiimaaGreatDoorW.PrintWords.Kd.int .u8) W a0 len0 l ∧ ∀ z ∈ l, (Lit.int .u8 z).wf = true := by
    obtain ⟨fuel, hf⟩ := h0
    have hf' : DataW.trod enc Tryz.prog W 0 (fun _ => true) true fuel 22 [.slice a0 len0 cap0] = some (d0, p0) := hf
    obtain ⟨A, c, l, e, q1, q2, q3⟩ := Q.ints_of_trod1 Tryz.underlying22 Tryz.underlying5 (by kernel_rfl) hf'
    simp only [List.cons.injEq, Value.slice.injEq, and_true] at e
    obtain ⟨rfl, rfl, rfl⟩ := e
    exact ⟨l, rfl, q1, q2, q3⟩
  subst hn0
  have k1 := h1
  have lt1 : ∀ x ∈ p1, x.block < W.heap.size := by obtain ⟨m, hm⟩ := k1; exact DataW.trod_lt m _ _ _ hm
  obtain ⟨a1, len1, cap1, rfl⟩ := okWide_slice Tryz.underlying23 (hval 1 23 v1 rfl rfl)
  obtain ⟨l1, hn1, hcap1, hC1, hwf1⟩ := Q.opens_arg Tryz.underlying23 (by kernel_rfl) (Q.opens_string Tryz.underlying9) h1
  subst hn1
  clear hA0 hval0 hsz0 hsz
  refine (Q.paronymlaw05_PropParses.walk a0 cap0 l0 a1 cap1 l1 W (Q.env_of_laid (List.mem_filter.2 ⟨List.mem_cons_of_mem _ (List.mem_cons_self ..), by kernel_rfl⟩) hsh hL) hC0 hcap0 (K.oct_of_wf hwf0) hC1 hcap1 hwf1).mono fun e W' ⟨he, bel⟩ => ?_
  subst he
  exact ⟨_, rfl, _, _, _, [], _, [], hW', trodAll_mk1 (shut_bool Tryz.underlying4 _), (trodAll_cons_mk (Below.trod laidOut (by kernel_rfl) (of_decide_eq_true (by kernel_rfl)) k0 bel lt0) (trodAll_cons_mk (Below.trod laidOut (by kernel_rfl) (of_decide_eq_true (by kernel_rfl)) k1 bel lt1) trodAll_mk0)), rfl, bel.frame _, fun h => by cases h⟩
theorem over : Rows.propParsesRow.holds Tryz.pinned (OpenSpec.ofChange Rows.propParsesSpec) :=
  OpenClaim.holds_of_wide 3 Tryz.f3 rfl rfl rfl rfl rfl rfl rfl ⟨rfl, rfl, rfl, rfl, rfl⟩ rfl rfl rfl rfl rfl (by kernel_rfl) Tryz.func3 (by kernel_rfl)
    (of_decide_eq_true (by kernel_rfl)) (by unfold Func.isWrapper; first | (rw [if_pos (by decide +kernel)]; kernel_rfl) | (rw [if_neg (by decide +kernel)]; exact ⟨rfl, rfl⟩))
    (fun os started H enc _ => lifted os started H enc)
theorem card : Rows.PropParsesCardSaid :=
  Claim7.holds_tied_plain_at .later [] [.data, .data, .data, .data, .pinned, .pinned] true (true, "ea15d2eb81024d9e71850c30cd30141e77aebce7e40ec8c40f847e40fd417039") true over (fun _ h => by cases h) (by kernel_rfl) (fun _ h => by cases h) propParses_row_tie rfl ⟨rfl, rfl⟩ (by kernel_rfl) rfl
    (fun f fn hf hfn => by
      obtain rfl : f = 3 := Option.some.inj ((show Tryz.prog.funcNamed "paronym/paronymlaw05.PropParses" = some 3 by kernel_rfl).symm.trans hf) |>.symm
      obtain rfl : fn = Tryz.f3 := (Option.some.inj (Tryz.func3.symm.trans hfn)).symm
      exact ⟨by kernel_rfl, fun j t ht => by
        rw [Tryz.params3] at ht
        have hm : t ∈ ([22, 23] : List Nat) := by have := Array.mem_of_getElem? ht; simp at this ⊢; omega
        have hall : (([22, 23] : List Nat).all fun u => !Tryz.prog.wantsStandIn u) = true := by kernel_rfl
        exact (show Tryz.prog.wantsStandIn t = false by simpa using List.all_eq_true.1 hall t hm)⟩)
    (by kernel_rfl)
#print axioms card
end Go.Proofs.YtbpdcbibooiimaaGreatDoor.propParses
namespace Go.Proofs.YtbpdcbibooiimaaGreatDoor
theorem propParses_holds : Rows.PropParsesCardSaid := propParses.card
end Go.Proofs.YtbpdcbibooiimaaGreatDoor
