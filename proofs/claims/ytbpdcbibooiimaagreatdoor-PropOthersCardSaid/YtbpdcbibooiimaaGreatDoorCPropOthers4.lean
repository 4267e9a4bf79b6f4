/- Part 4 of 4 of the proof of PropOthers: the code points of a value are the same, whichever other value is told beside it: for every input For every input; no condition. -/
import Derived.Test.YtbpdcbibooiimaaGreatDoorCPropOthers1
import Derived.Test.YtbpdcbibooiimaaGreatDoorCPropOthers3
import Derived.Test.YtbpdcbibooiimaaGreatDoorCPropOthers2
import Derived.StillTailTactics
import Derived.BigRegion
import Derived.Deep.DeepCutAuto
import Derived.IntWalk
import Derived.Deep.RegionLaw
import Derived.Deep.LoopGhost
import Derived.Lib.SlBytesConst
import Derived.Sort.LoopGhostIn
import Derived.WalkMore
import Derived.Laws.AppendOwn
import Derived.Test.YtbpdcbibooiimaaGreatDoorRows
import Derived.Test.YtbpdcbibooiimaaGreatDoorCards
import Derived.Test.YtbpdcbibooiimaaGreatDoorTie
import Derived.LaidMore
import Derived.Lay
import Derived.SevenTiedAt
import Derived.Stop.Joined
import Derived.WalkKit
import Derived.ProofKit
import Derived.OpenShut
import Derived.ShutString
import Derived.ChangeOld
import Derived.ChangeMaps5
import Derived.Below
import Derived.SizedLaws
import Derived.Test.YtbpdcbibooiimaaGreatDoorWSized
set_option linter.unusedVariables false
set_option linter.unusedSimpArgs false

/- Is a text among others? The printed Contains; the law's few. -/
namespace Go.Proofs.YtbpdcbibooiimaaGreatDoor.K
open Go.RowKit Go.Proofs.YtbpdcbibooiimaaGreatDoorW.PrintWords Go.Proofs.YtbpdcbibooiimaaGreatDoorW.PrintMore Go.Proofs.YtbpdcbibooiimaaGreatDoor.Q
theorem rdOfB (X : List ByteArray) (i : Nat) (h : i < X.length) : rdOf ByteArray.empty X (i : Int) = X[i] := by
  unfold rdOf
  rw [Int.toNat_natCast, List.getD_eq_getElem?_getD, List.getElem?_eq_getElem h]; rfl
def idxB (v : ByteArray) : List ByteArray → Nat → Int
  | [], _ => -1
  | x :: r, i => if v.toList = x.toList then (i : Int) else idxB v r (i + 1)
theorem index_ev (vs : List ByteArray) (v : ByteArray) (hl : vs.length ≤ 1000000) : Ev (fun k => slices_Index_string_string.f k vs v) (idxB v vs 0) := by
  have loop : ∀ (d i : Nat), vs.length - i = d → i ≤ vs.length → Ev (fun k => slices_Index_string_string.l0 k vs v (vs.length : Int) (i : Int)) (idxB v (vs.drop i) i) := by
    intro d
    induction d with
    | zero =>
      intro i h1 h2
      rw [List.drop_eq_nil_of_le (by omega)]
      exact Ev.step (fun k => rfl) (Ev.neg (by omega) (Ev.ret rfl))
    | succ d ih =>
      intro i h1 h2
      have hi : i < vs.length := by omega
      rw [List.drop_eq_getElem_cons hi]
      unfold idxB
      refine Ev.step (fun k => rfl) (Ev.pos (by omega) (Ev.pos (by omega) (Ev.pos (by omega) ?_)))
      rw [rdOfB vs i hi]
      by_cases c : v.toList = vs[i].toList
      · rw [if_pos c]; exact Ev.pos c (Ev.ret rfl)
      · rw [if_neg c]
        refine Ev.neg c ?_
        have e : wrap64 ((i : Int) + 1) = ((i + 1 : Nat) : Int) := by rw [w64 (by omega) (by omega)]; omega
        rw [e]
        exact ih (i + 1) (by omega) (by omega)
  have := loop vs.length 0 (by omega) (by omega)
  rw [List.drop_zero] at this
  exact this
theorem idxB_iff (v : ByteArray) : ∀ (vs : List ByteArray) (i : Nat), decide (idxB v vs i ≥ 0) = vs.any (fun x => x.toList == v.toList)
  | [], i => rfl
  | x :: r, i => by
    unfold idxB
    rw [List.any_cons]
    by_cases c : v.toList = x.toList
    · rw [if_pos c, beq_iff_eq.mpr c.symm, Bool.true_or]
      exact decide_eq_true (by omega)
    · rw [if_neg c, beq_eq_false_iff_ne.mpr (fun e => c e.symm), Bool.false_or]
      exact idxB_iff v r (i + 1)
theorem containsB_ev (vs : List ByteArray) (v : ByteArray) (hl : vs.length ≤ 1000000) : Ev (fun k => slices_Contains_string_string.f k vs v) (vs.any (fun x => x.toList == v.toList)) := by
  unfold slices_Contains_string_string.f
  refine Ev.bind (index_ev vs v hl) ?_
  rw [← idxB_iff v vs 0]
  exact Ev.ret rfl
def fewB (vs : List ByteArray) : Bool := decide (vs.length ≤ 5) && vs.all (fun v => decide (v.size ≤ 30))
theorem few_ev (vs : List ByteArray) : Ev (fun k => paronymlaw05_few.f k vs) (fewB vs) := by
  have loop : ∀ (d i : Nat), vs.length ≤ 5 → vs.length - i = d → i ≤ vs.length → Ev (fun k => paronymlaw05_few.l0 k vs (i : Int)) ((vs.drop i).all (fun v => decide (v.size ≤ 30))) := by
    intro d
    induction d with
    | zero =>
      intro i h0 h1 h2
      rw [List.drop_eq_nil_of_le (by omega)]
      exact Ev.step (fun k => rfl) (Ev.neg (by omega) (Ev.ret rfl))
    | succ d ih =>
      intro i h0 h1 h2
      have hi : i < vs.length := by omega
      rw [List.drop_eq_getElem_cons hi, List.all_cons]
      refine Ev.step (fun k => rfl) (Ev.pos (by omega) (Ev.pos (by omega) ?_))
      rw [rdOfB vs i hi]
      by_cases c : vs[i].size ≤ 30
      · rw [decide_eq_true c, Bool.true_and]
        refine Ev.neg (by omega) ?_
        have e : wrap64 ((i : Int) + 1) = ((i + 1 : Nat) : Int) := by rw [w64 (by omega) (by omega)]; omega
        rw [e]
        exact ih (i + 1) h0 (by omega) (by omega)
      · rw [decide_eq_false c, Bool.false_and]
        exact Ev.pos (by omega) (Ev.ret rfl)
  unfold paronymlaw05_few.f fewB
  by_cases c : vs.length ≤ 5
  · rw [decide_eq_true c, Bool.true_and]
    refine Ev.neg (by omega) ?_
    have := loop vs.length 0 c (by omega) (by omega)
    rw [List.drop_zero] at this
    exact this
  · rw [decide_eq_false c, Bool.false_and]
    exact Ev.pos (by omega) (Ev.ret rfl)
theorem amongB_iff (vs : List ByteArray) (b : ByteArray) (hne : vs ≠ []) : amongB vs b = vs.any (fun x => x.toList == b.toList) := by
  unfold amongB
  cases vs with
  | nil => exact absurd rfl hne
  | cons x r => rfl
end Go.Proofs.YtbpdcbibooiimaaGreatDoor.K
/- prop.Parse on lists: its steps. -/
namespace Go.Proofs.YtbpdcbibooiimaaGreatDoor.K
open Go.RowKit Go.Proofs.YtbpdcbibooiimaaGreatDoor.Q Go.Proofs.YtbpdcbibooiimaaGreatDoorW.PrintWords Go.Proofs.YtbpdcbibooiimaaGreatDoorW.PrintLast
theorem ppGo_err {vs : List ByteArray} {X : List (Int × List (List Int))} {x : Int × List (List Int)} {acc : List S83} {e : Int} (h : ppS vs x.2 = .inl e) : ppGo vs (x :: X) acc = (none, e, x.1) := by
  unfold ppGo; rw [h]
theorem ppGo_skip {vs : List ByteArray} {X : List (Int × List (List Int))} {x : Int × List (List Int)} {acc : List S83} (h : ppS vs x.2 = .inr none) : ppGo vs (x :: X) acc = ppGo vs X acc := by
  conv => lhs; unfold ppGo
  rw [h]
theorem ppGo_add {vs : List ByteArray} {X : List (Int × List (List Int))} {x : Int × List (List Int)} {acc : List S83} {s : S83} (h : ppS vs x.2 = .inr (some s)) (h0 : (addR acc s).1 = 0) : ppGo vs (x :: X) acc = ppGo vs X (addR acc s).2 := by
  conv => lhs; unfold ppGo
  rw [h]; simp only; rw [if_pos h0]
theorem ppGo_twice {vs : List ByteArray} {X : List (Int × List (List Int))} {x : Int × List (List Int)} {acc : List S83} {s : S83} (h : ppS vs x.2 = .inr (some s)) (h0 : (addR acc s).1 ≠ 0) : ppGo vs (x :: X) acc = (none, (addR acc s).1, x.1) := by
  conv => lhs; unfold ppGo
  rw [h]; simp only; rw [if_neg h0]
theorem ppS_short {vs : List ByteArray} : ∀ {f : List (List Int)}, f.length < 2 → ppS vs f = .inl 12
  | [], _ => rfl
  | [a], _ => rfl
  | a :: b :: r, h => by simp at h; omega
theorem ppS_rng {vs : List ByteArray} {a b : List Int} {r : List (List Int)} (h : (rangeL a).2.2 ≠ 0) : ppS vs (a :: b :: r) = .inl (rangeL a).2.2 := by
  unfold ppS; simp only; rw [if_neg h]
theorem ppS_empty {vs : List ByteArray} {a : List Int} {r : List (List Int)} (h : (rangeL a).2.2 = 0) : ppS vs (a :: [] :: r) = .inl 16 := by
  unfold ppS; simp only; rw [if_pos h, if_pos trivial]
theorem ppS_out {vs : List ByteArray} {a b : List Int} {r : List (List Int)} (h : (rangeL a).2.2 = 0) (hb : b ≠ []) (hm : amongB vs (strOfNums b) = false) : ppS vs (a :: b :: r) = .inr none := by
  unfold ppS; simp only; rw [if_pos h, if_neg hb, if_neg (by rw [hm]; decide)]
theorem ppS_in {vs : List ByteArray} {a b : List Int} {r : List (List Int)} (h : (rangeL a).2.2 = 0) (hb : b ≠ []) (hm : amongB vs (strOfNums b) = true) : ppS vs (a :: b :: r) = .inr (some ⟨(rangeL a).1, (rangeL a).2.1, strOfNums b⟩) := by
  unfold ppS; simp only; rw [if_pos h, if_neg hb, if_pos hm]
theorem newR_app : ∀ (l m acc : List S83), (newR acc l).1 = 0 → newR acc (l ++ m) = newR (newR acc l).2 m
  | [], m, acc, _ => rfl
  | s :: r, m, acc, h => by
    unfold newR at h
    rw [List.cons_append]
    conv => lhs; unfold newR
    conv => rhs; arg 1; unfold newR
    by_cases c : (addR acc s).1 = 0
    · rw [if_pos c] at h
      rw [if_pos c, if_pos c]
      exact newR_app r m _ h
    · rw [if_neg c] at h
      exact absurd h c
theorem newR_snoc {l : List S83} {s : S83} (h : (newR [] l).1 = 0) (h0 : (addR (newR [] l).2 s).1 = 0) : newR [] (l ++ [s]) = (0, (addR (newR [] l).2 s).2) := by
  rw [newR_app l [s] [] h]
  generalize (newR [] l).2 = acc at h0 ⊢
  unfold newR
  rw [if_pos h0]
  rfl
theorem err_came {l : List S83} (h : (newR [] l).1 = 0) (s : S83) : errOf l s = (addR (newR [] l).2 s).1 := by
  obtain ⟨h1, h2⟩ := newR_SpOK h
  rw [addR_err h1]
  unfold errOf
  have : (∃ t ∈ l, meets t s) ↔ ∃ t ∈ (newR [] l).2, meets t s := by
    constructor
    · rintro ⟨t, ht, hm⟩; exact ⟨t, h2.mem_iff.2 ht, hm⟩
    · rintro ⟨t, ht, hm⟩; exact ⟨t, h2.mem_iff.1 ht, hm⟩
  simp only [this]
theorem sorted_all {l : List S83} (hl : l.length ≤ 100000) (h : (newR [] l).1 = 0) : Ev (fun k => paronymref03_Sorted.f k (l.map c53)) ((newR [] l).2.map c53) := by
  have := sorted_ev hl l.length 0 [] (by omega) (by omega) SpOK.nil (by simp; omega) (by rw [List.drop_zero]; exact h)
  rw [List.drop_zero] at this
  exact this
end Go.Proofs.YtbpdcbibooiimaaGreatDoor.K
/- prop.Parse: the walk. -/
namespace Go.Proofs.YtbpdcbibooiimaaGreatDoor.Q
open Go.RowKit Go.Shelf Go.Proofs.YtbpdcbibooiimaaGreatDoorW.PrintWords Go.Proofs.YtbpdcbibooiimaaGreatDoorW.PrintLast Go.Proofs.YtbpdcbibooiimaaGreatDoorW.PrintMore Go.Proofs.YtbpdcbibooiimaaGreatDoor.K
attribute [local go_sem] Oper.semAt_some
theorem EnvF.ltP {w : World} (h : EnvF w) : 0 < w.heap.size ∧ 8 < w.heap.size := by
  obtain ⟨⟨m0, hm0⟩, hm6⟩ := h
  have lt_of : ∀ (b i : Nat) (v : Value), w.cell? ⟨b, i, none⟩ = some v → b < w.heap.size := fun b i v h => by
    unfold World.cell? at h
    by_cases hb : b < w.heap.size
    · exact hb
    · simp only [Array.getElem?_eq_none (Nat.le_of_not_lt hb)] at h; cases h
  exact ⟨lt_of _ _ _ hm0, lt_of _ _ _ hm6⟩
theorem tab_set3 {W : World} {n : Nat} {p : Option Addr} {L : List S83} {a b c : Value} (h : Tab W p L) (hr : Res3 26 n W a b c) (a' b' c' : Value) : Tab (set3 W n a' b' c') p L := by
  have h1 := h.sameB (SameB.set W ⟨n, 0, none⟩ a') hr.r0 (by decide) (by decide)
  have r1 : Boxed (W.setCell ⟨n, 0, none⟩ a') (n + 1) 27 b := boxed_setZ hr.r1 (by omega)
  have h2 := h1.sameB (SameB.set _ ⟨n + 1, 0, none⟩ b') r1 (by decide) (by decide)
  have r2 : Boxed ((W.setCell ⟨n, 0, none⟩ a').setCell ⟨n + 1, 0, none⟩ b') (n + 1 + 1) 3 c := boxed_setZ (boxed_setZ hr.r2 (by omega)) (by omega)
  exact h2.sameB (SameB.set _ ⟨n + 1 + 1, 0, none⟩ c') r2 (by decide) (by decide)
theorem tab_putD {W : World} {D : Nat} {o : Obj} {p : Option Addr} {L : List S83} (h : Tab W p L) (hD : W.heap[D]? = some (.deferred (some []))) : Tab (W.putObj D o) p L :=
  h.sameC (fun k ob hk hc => by
    have hne : k ≠ D := fun e => by
      subst e
      rw [hk] at hD
      injection hD with hD
      subst hD
      cases hc
    exact (World.putObj_heap_other hne).trans hk)
theorem ppS_ln (vs : List ByteArray) (f : List (List Int)) : ppS vs f = if (lnR f).2.2.2 = 0 then (if amongB vs (strOfNums (lnR f).2.2.1) = true then .inr (some ⟨(lnR f).1, (lnR f).2.1, strOfNums (lnR f).2.2.1⟩) else .inr none) else .inl (lnR f).2.2.2 := by
  match f with
  | [] => rfl
  | [a] => rfl
  | a :: b :: r =>
    unfold ppS lnR
    simp only
    by_cases c1 : (rangeL a).2.2 = 0
    · rw [if_pos c1, if_pos c1]
      by_cases c2 : b = []
      · rw [if_pos c2, if_pos c2]; rfl
      · rw [if_neg c2, if_neg c2]
        simp
    · rw [if_neg c1, if_neg c1]
      simp [c1]
def ppQ (o : Option (List S83)) (W : World) (q : Option Addr) : Prop := match o with
  | none => q = none
  | some l => (∃ g, q = some ⟨g, 0, none⟩) ∧ Tab W q l ∧ SpOK l
def ppI (w : World) (n0 n7 B : Nat) (vs : List ByteArray) (Av : Option Addr) (cv : Nat) (X : List (Int × List (List Int))) (pre : List LItem) (W : World) : Prop :=
  ∃ (acc : List S83) (g : Nat), Boxed W n7 26 (.pointer (some ⟨g, 0, none⟩)) ∧ Tab W (some ⟨g, 0, none⟩) acc ∧ (SpOK acc ∧ acc.length ≤ pre.length ∧ ppGo vs (X.drop pre.length) acc = ppGo vs X []) ∧
    Res3 26 (n0 + 1) W (.pointer none) (.int .i64 0) (.int .i64 0) ∧ Boxed W n0 23 (.slice Av vs.length cv) ∧ Below w.heap.size w W ∧ B ≤ W.heap.size
def ppX (w : World) (n0 B : Nat) (vs : List ByteArray) (X : List (Int × List (List Int))) (c : Code) (pre : List LItem) (W : World) : Prop :=
  c = .ret ∧ ∃ e l : Int, ppGo vs X [] = (none, e, l) ∧ Res3 26 (n0 + 1) W (.pointer none) (.int .i64 e) (.int .i64 l) ∧ Below w.heap.size w W ∧ B ≤ W.heap.size
theorem rowC_cells {α : Type} {row : Option Nat} {W : World} (hr : ∀ r, row = some r → True ∧ ∃ o : Obj, W.heap[r]? = some o ∧ o.isCells = false) : ∀ r, row = some r → ∃ o : Obj, W.heap[r]? = some o ∧ o.isCells = false := fun r e => (hr r e).2
theorem ppI_own (w : World) (n0 n7 B B' : Nat) (hB : w.heap.size ≤ B') (vs : List ByteArray) (Av : Option Addr) (cv : Nat) (X : List (Int × List (List Int))) : OwnFrom B' (ppI w n0 n7 B vs Av cv X) := fun s W W' row hs hg hr => by
  obtain ⟨acc, g, h1, h2, h3, h4, h5, h6, h7⟩ := hs
  have hk : SameC W W' := SameC.of_grown hg (fun r e => (hr r e).2)
  exact ⟨acc, g, boxed_sameC h1 hk, h2.sameC hk, h3, h4.sameC hk, boxed_sameC h5 hk, ownFrom_below (β := Unit) (Nat.le_refl _) hB () W W' row h6 hg hr, Nat.le_trans h7 hg.size⟩
theorem ppX_own (w : World) (n0 B B' : Nat) (hB : w.heap.size ≤ B') (vs : List ByteArray) (X : List (Int × List (List Int))) (c : Code) : OwnFrom B' (ppX w n0 B vs X c) := fun s W W' row hs hg hr => by
  obtain ⟨h0, e, l, h1, h4, h6, h7⟩ := hs
  have hk : SameC W W' := SameC.of_grown hg (fun r e => (hr r e).2)
  exact ⟨h0, e, l, h1, h4.sameC hk, ownFrom_below (β := Unit) (Nat.le_refl _) hB () W W' row h6 hg hr, Nat.le_trans h7 hg.size⟩
theorem ppI_add {w W w3 : World} {n0 n7 B : Nat} {vs : List ByteArray} {Av : Option Addr} {cv : Nat} {X : List (Int × List (List Int))} {pre : List LItem} {x : LItem} {acc acc2 : List S83} {g9 : Nat} {u : Value} (hn : n0 + 4 ≤ n7 ∧ w.heap.size ≤ n7)
    (hT : Tab w3 (some ⟨g9, 0, none⟩) acc2) (hn7 : Boxed w3 n7 26 u) (hres : Res3 26 (n0 + 1) w3 (.pointer none) (.int .i64 0) (.int .i64 0)) (hv0 : Boxed w3 n0 23 (.slice Av vs.length cv)) (hb : Below w.heap.size w w3) (hW : Below W.heap.size W w3) (hB : B ≤ w3.heap.size)
    (hok : SpOK acc2) (hl : acc2.length ≤ pre.length + 1) (hgo : ppGo vs (X.drop (pre.length + 1)) acc2 = ppGo vs X []) :
    KeepsFrom B W (w3.setCell ⟨n7, 0, none⟩ (.pointer (some ⟨g9, 0, none⟩))) ∧ KeepC (fun k => k = n7) W (w3.setCell ⟨n7, 0, none⟩ (.pointer (some ⟨g9, 0, none⟩))) ∧ ppI w n0 n7 B vs Av cv X (pre ++ [x]) (w3.setCell ⟨n7, 0, none⟩ (.pointer (some ⟨g9, 0, none⟩))) := by
  refine ⟨(keepsFrom_below2 hW).trans ((KeepsOthers.setCell _ _ _).from _), (KeepC.of_below hW).trans (KeepC.of_set rfl), acc2, g9, Boxed.set _ hn7, ?_, ⟨hok, by rw [List.length_append]; exact hl, by rw [List.length_append]; exact hgo⟩, ?_, ?_, ?_, ?_⟩
  · exact hT.sameB (SameB.set w3 ⟨n7, 0, none⟩ _) hn7 (by decide) (by decide)
  · exact hres.sameB (SameB.set w3 ⟨n7, 0, none⟩ _) (by show n0 + 1 + 3 ≤ n7; omega)
  · exact boxed_setZ hv0 (by omega)
  · exact hb.setCell (p := ⟨n7, 0, none⟩) hn.2 _
  · simp only [World.size_setCell]; exact hB
set_option maxHeartbeats 8000000 in
set_option maxRecDepth 100000 in
theorem prop_Parse.main (A : Option Addr) (c : Nat) (L : List Int) (ho : Oct L) (hl : L.length ≤ 100000) (Av : Option Addr) (cv : Nat) (vs : List ByteArray) (hvl : vs.length ≤ 1000000) (w : World) (hE : EnvF w) (hr : Kd.C (Kd.int .u8) w A L.length L) (hc : L.length ≤ c) (hrv : Kd.C Kd.string w Av vs.length vs) (hcv : vs.length ≤ cv) :
    Calls Tryz.prog 15 #[.slice A L.length c, .slice Av vs.length cv] w fun e w' => Below w.heap.size w w' ∧ ∃ q, e = .returned (.tuple #[.pointer q, .int .i64 (ppGo vs (linesI 0 (spl 10 L)) []).2.1, .int .i64 (ppGo vs (linesI 0 (spl 10 L)) []).2.2]) ∧
      ppQ (ppGo vs (linesI 0 (spl 10 L)) []).1 w' q := by
  obtain ⟨X, hX⟩ : ∃ X, X = linesI 0 (spl 10 L) := ⟨_, rfl⟩
  rw [← hX]
  have hXn : X.length ≤ 100001 := by
    rw [hX]
    have h1 := linesI_len (spl 10 L) 0
    have h2 := splP_count (fun x => decide (x = (10 : Int))) L
    unfold spl at h1 ⊢; omega
  have hXo : ∀ p ∈ X, ∀ q ∈ p.2, Oct q ∧ q.length ≤ 100000 := by
    rw [hX]
    exact linesI_oct _ 0 (fun l hl2 => ⟨oct_spl ho hl2, by have := len_spl hl2; omega⟩)
  have hXf : ∀ p ∈ X, p.2.length ≤ 100001 := by
    rw [hX]
    exact linesI_fl _ 0 100000 (fun l hl2 => by have := len_spl hl2; omega)
  obtain ⟨w4, hw4⟩ : ∃ w4, w4 = (((w.alloc (.cells #[.slice Av vs.length cv] 23)).alloc (.cells #[.pointer none] 26)).alloc (.cells #[.int .i64 0] 27)).alloc (.cells #[.int .i64 0] 3) := ⟨_, rfl⟩
  have hsz4 : w4.heap.size = w.heap.size + 4 := by rw [hw4]; simp
  have hb4 : Below w.heap.size w w4 := by
    rw [hw4]
    exact ((((Below.refl _ w).alloc (Nat.le_refl _) _).alloc (by simp only [World.size_alloc]; omega) _).alloc (by simp only [World.size_alloc]; omega) _).alloc (by simp only [World.size_alloc]; omega) _
  have hx0 : Boxed w4 w.heap.size 23 (.slice Av vs.length cv) := by rw [hw4]; exact (((Boxed.new w _ _).alloc _).alloc _).alloc _
  have hx1 : Boxed w4 (w.heap.size + 1) 26 (.pointer none) := by
    have := Boxed.new (w.alloc (.cells #[.slice Av vs.length cv] 23)) 26 (.pointer none)
    simp only [World.size_alloc] at this
    rw [hw4]; exact (this.alloc _).alloc _
  have hx2 : Boxed w4 (w.heap.size + 1 + 1) 27 (.int .i64 0) := by
    have := Boxed.new ((w.alloc (.cells #[.slice Av vs.length cv] 23)).alloc (.cells #[.pointer none] 26)) 27 (.int .i64 0)
    simp only [World.size_alloc] at this
    rw [hw4]; exact this.alloc _
  have hx3 : Boxed w4 (w.heap.size + 1 + 1 + 1) 3 (.int .i64 0) := by
    have := Boxed.new (((w.alloc (.cells #[.slice Av vs.length cv] 23)).alloc (.cells #[.pointer none] 26)).alloc (.cells #[.int .i64 0] 27)) 3 (.int .i64 0)
    simp only [World.size_alloc] at this
    rw [hw4]; exact this
  have hcall := span_New.calls none 0 [] w4 (Kd.C_nil _ _) (Nat.le_refl _) (by simp)
  rw [hw4] at hcall
  have HCALL := Aside0.mk hcall
  have HW4 := Aside0.mk hw4
  have HX4 : Aside0 (Res3 26 (w.heap.size + 1) w4 (.pointer none) (.int .i64 0) (.int .i64 0)) := ⟨⟨hx1, hx2, hx3⟩⟩
  have HV4 := Aside0.mk hx0
  have HS4 := Aside0.mk hsz4
  have HB4 := Aside0.mk hb4
  have HX := Aside0.mk hX
  have HXN := Aside0.mk hXn
  have HXO := Aside0.mk hXo
  have HXF := Aside0.mk hXf
  have HO := Aside0.mk ho
  have HL := Aside0.mk hl
  have HVL0 := Aside0.mk hvl
  have HE := Aside0.mk hE
  have HR := Aside0.mk hr
  have HC := Aside0.mk hc
  have HRV := Aside0.mk hrv
  have HCV := Aside0.mk hcv
  clear hcall hw4 hx0 hx1 hx2 hx3 hsz4 hb4 ho hl hE hr hc hrv hcv hvl hX hXn hXo hXf
  refine (callsIn_wide (n := 20)).1 ?_
  refine callsIn_of_wp_marks Tryz.func15 rfl trivial ?_ rfl
  simp only [Tryz.ntmps15, List.size_toArray, List.length_cons, List.length_nil, Nat.reduceAdd, Nat.reduceSub, Array.replicate_succ, Array.replicate_zero, List.push_toArray, List.append_toArray, List.nil_append, List.cons_append]
  refine wpIn_wide.2 ?_
  go_wp2_with (first
    | (go_at_call 43; refine HCALL.out.mono ?_; rw [← HW4.out]; rintro e w5 ⟨hb5, q, rfl, hq⟩; rw [show (newR ([] : List S83) []).1 = 0 from rfl] at *; rcases hq with ⟨hq, _⟩ | ⟨_, ⟨g5, rfl⟩, hT5⟩; (exact absurd rfl hq)
       have hs5 := hb5.size
       have hs4 := HS4.out
       have hn6 : Boxed (w5.alloc (.cells #[.pointer (some ⟨g5, 0, none⟩)] 26)) w5.heap.size 26 (.pointer (some ⟨g5, 0, none⟩)) := Boxed.new w5 _ _
       have hb6 : Below w4.heap.size w4 (w5.alloc (.cells #[.pointer (some ⟨g5, 0, none⟩)] 26)) := hb5.alloc hs5 _
       have ht6 : Tab (w5.alloc (.cells #[.pointer (some ⟨g5, 0, none⟩)] 26)) (some ⟨g5, 0, none⟩) [] := hT5.below ((Below.refl _ _).alloc (Nat.le_refl _) _)
       have hs6 : (w5.alloc (.cells #[.pointer (some ⟨g5, 0, none⟩)] 26)).heap.size = w5.heap.size + 1 := World.size_alloc ..
       have hbw6 := HB4.out.trans (hb6.mono HB4.out.size)
       have H6 := Aside0.mk hn6
       have HB6 := Aside0.mk hb6
       have HT6 := Aside0.mk ht6
       have HS6 := Aside0.mk (And.intro hs6 (And.intro hs5 hs4))
       have HBW6 := Aside0.mk hbw6
       clear hb5 hT5 hn6 hb6 ht6 hs6 hs5 hs4 hbw6)
    | (go_at_call 44
       generalize w5.alloc (.cells #[.pointer (some ⟨g5, 0, none⟩)] 26) = w6 at *
       refine (field_Lines.calls A c L HO.out (by have := HL.out; omega) w6 (HE.out.below HBW6.out) (Kd.C_below HR.out HBW6.out) HC.out).mono ?_
       rintro e w7 ⟨g, gb, rfl, hg0, hgb0, hg, hgb, hb7⟩
       have HG := Aside0.mk (And.intro hg0 hgb0)
       have HGL := Aside0.mk hg
       have HGB := Aside0.mk hgb
       have HB7 := Aside0.mk hb7
       clear hg0 hgb0 hg hgb hb7))
  have h1 := HE.out.ltP
  have h2 := HS6.out
  have h3 := HB7.out.size
  have hb7w : Below w.heap.size w w7 := HBW6.out.trans (HB7.out.mono HBW6.out.size)
  have hst := field_Lines.stops L HO.out (by have := HL.out; omega) g gb w7 (fun k => k = w5.heap.size) (HE.out.below hb7w) (fun e => by omega) (fun e => by omega) (fun e => by have := HG.out.1; omega) HGL.out HGB.out 19 (by omega)
  rw [← HX.out] at hst
  have hb67 : Below w4.heap.size w4 w7 := HB6.out.trans (HB7.out.mono HB6.out.size)
  have hI0 : ppI w w.heap.size w5.heap.size w7.heap.size vs Av cv X [] w7 := ⟨[], g5, (HB7.out.block _ H6.out.lt).trans H6.out, HT6.out.below HB7.out, ⟨SpOK.nil, Nat.le_refl _, rfl⟩, HX4.out.sameC (SameC.of_below hb67), boxed_sameC HV4.out (SameC.of_below hb67), hb7w, Nat.le_refl _⟩
  have HST := Aside0.mk hst
  have HI0 := Aside0.mk hI0
  have HSZ : Aside0 (w.heap.size + 4 ≤ w5.heap.size ∧ w5.heap.size + 1 ≤ w7.heap.size) := ⟨by omega, by omega⟩
  have HWS : Aside0 (w.heap.size ≤ w7.heap.size) := ⟨by omega⟩
  clear hst hI0 h1 h2 h3 hb7w hb67 HGL HGB
  refine (wpIn_wide (n := 20)).1 ?_
  refine wpIn_range_as rfl (by omega) (gf := 69) (lb := #[.pointer (some ⟨gb, 0, none⟩)]) rfl trivial (enters_of Tryz.func69 (by kernel_rfl) rfl)
    HST.out KeepC.trans keepC_put (Below.refl _ _) (fun _ => rfl)
    (ppI w w.heap.size w5.heap.size w7.heap.size vs Av cv X) (ppX w w.heap.size w7.heap.size vs X) (ppI_own w _ _ _ _ HWS.out _ _ _ _) (fun c => ppX_own w _ _ _ HWS.out _ _ c) HI0.out
    (fun pre x a1 W => (∃ vb, a1 = { tmps := #[Value.slice A L.length c, Value.slice Av vs.length cv, undef, Value.pointer (some ⟨w.heap.size, 0, none⟩), Value.pointer (some ⟨w.heap.size + 1, 0, none⟩), Value.pointer (some ⟨w.heap.size + 1 + 1, 0, none⟩), Value.pointer (some ⟨w.heap.size + 1 + 1 + 1, 0, none⟩), Value.pointer (some ⟨w5.heap.size, 0, none⟩), Value.int IntKind.i64 0, Value.pointer (some ⟨vb, 0, none⟩), undef, undef, Value.tuple #[Value.pointer (some ⟨g5, 0, none⟩), Value.int IntKind.i64 0], Value.tuple #[Value.pointer (some ⟨g5, 0, none⟩), Value.int IntKind.i64 0], Value.pointer (some ⟨g5, 0, none⟩), Value.int IntKind.i64 0, Value.slice A L.length c, Value.func (Fn.func 69) #[] #[Value.pointer (some ⟨gb, 0, none⟩)], Value.agg #[Value.int IntKind.i64 x.1, Value.slice (some ⟨x.2.1, 0, none⟩) x.2.2.length x.2.2.length], undef, undef, undef, undef, undef, undef, undef, undef, undef, undef, undef, undef, undef, undef, undef, undef, undef, undef, undef, undef, undef, undef, undef, undef, undef, undef, undef, undef, undef, undef, undef, undef, undef], defers := [] } ∧ w7.heap.size ≤ vb ∧ W.heap[vb]? = some (.cells #[.int .i64 x.1, .slice (some ⟨x.2.1, 0, none⟩) x.2.2.length x.2.2.length] 81 (0, 0))) ∧ LItem.at_ x W ∧ ppI w w.heap.size w5.heap.size w7.heap.size vs Av cv X pre W)
    (fun pre x a1 s W W' row hs hg hr => by
      obtain ⟨⟨vb, h1, h2, h3⟩, h4, h5⟩ := hs
      have hk : SameC W W' := SameC.of_grown hg (fun r e => (hr r e).2)
      exact ⟨⟨vb, h1, h2, hk _ _ h3 rfl⟩, hk _ _ h4 rfl, ppI_own w _ _ _ _ HWS.out _ _ _ _ pre W W' row h5 hg hr⟩) ?assign ?body ?done ?stop
  case assign =>
    rintro l pre x W K hI hat hK
    have HI := Aside0.mk hI
    have HK := Aside0.mk hK
    have HAT := Aside0.mk hat
    clear hI hK hat
    simp only [LItem.enc]
    gi_wp2
    have hS : w7.heap.size ≤ W.heap.size := by obtain ⟨_, _, _, _, _, _, _, _, h⟩ := HI.out; exact h
    have hk : SameC W (W.alloc (.cells #[.int .i64 x.1, .slice (some ⟨x.2.1, 0, none⟩) x.2.2.length x.2.2.length] 81)) := SameC.of_below ((Below.refl _ W).alloc (Nat.le_refl _) _)
    refine HK.out _ _ ((KeepsOthers.alloc W _).from _) (KeepC.of_below ((Below.refl _ W).alloc (Nat.le_refl _) _)) ⟨⟨W.heap.size, rfl, hS, heap_alloc_new W _⟩, hk _ _ HAT.out rfl, ppI_own w _ _ _ _ HWS.out _ _ _ _ pre W _ none HI.out (World.grownBy_alloc W _ none) (fun r e => by cases e)⟩
  case body =>
    rintro l' pre x a1 W ⟨⟨vb, rfl, hvl, hvb⟩, hat, acc, g7, hN7, hT7, ⟨hOK, hal, hgo⟩, hRes, hV0, hB, hSW⟩ hsp
    have hlen : pre.length < X.length := by have := hsp.length_le; simp at this; omega
    have hx : X[pre.length]? = some (LItem.pr x) := by
      obtain ⟨t, ht⟩ := hsp
      rw [← ht, List.map_append, List.append_assoc, List.getElem?_append_right (by simp)]; simp
    obtain ⟨x1, xg, xf⟩ := x
    have hx : X[pre.length]? = some (x1, xf) := hx
    have hdrop : X.drop pre.length = (x1, xf) :: X.drop (pre.length + 1) := by
      rw [List.drop_eq_getElem_cons hlen]
      rw [List.getElem?_eq_getElem hlen] at hx
      rw [Option.some.inj hx]
    have hmem : (x1, xf) ∈ X := List.mem_of_getElem? hx
    rw [hdrop] at hgo
    have hfo := HXO.out _ hmem
    have hfl := HXF.out _ hmem
    simp only at hfo hfl
    have hx0 : W.cell? ⟨vb, 0, none⟩ = some (.int .i64 x1) := by simp only [World.cell?]; rw [hvb]; rfl
    have hx1 : W.cell? ⟨vb, 1, none⟩ = some (.slice (some ⟨xg, 0, none⟩) xf.length xf.length) := by simp only [World.cell?]; rw [hvb]; rfl
    have hEW : EnvF W := HE.out.below hB
    have hcl := prop_line.calls xf (some ⟨xg, 0, none⟩) xf.length W hEW (fun q hq => (hfo q hq).1) (fun q hq => by have := (hfo q hq).2; omega) (strs_row hat (by omega))
    have hln := ppS_ln vs xf
    unfold lnV at hcl
    obtain ⟨a0, ha0⟩ : ∃ a0, a0 = (lnR xf).1 := ⟨_, rfl⟩
    obtain ⟨b0, hb0⟩ : ∃ b0, b0 = (lnR xf).2.1 := ⟨_, rfl⟩
    obtain ⟨v0, hv0⟩ : ∃ v0, v0 = strOfNums (lnR xf).2.2.1 := ⟨_, rfl⟩
    obtain ⟨er, her⟩ : ∃ er, er = (lnR xf).2.2.2 := ⟨_, rfl⟩
    rw [← ha0, ← hb0, ← hv0, ← her] at hcl hln
    have HCL := Aside0.mk hcl
    have HLN := Aside0.mk hln
    have HN7 := Aside0.mk hN7
    have HT7 := Aside0.mk hT7
    have HOK := Aside0.mk hOK
    have HAL : Aside0 (acc.length ≤ pre.length ∧ pre.length < X.length) := ⟨hal, hlen⟩
    have HGO := Aside0.mk hgo
    have HRES := Aside0.mk hRes
    have HV0 := Aside0.mk hV0
    have HB := Aside0.mk hB
    have HSW := Aside0.mk hSW
    have HVL := Aside0.mk hvl
    have HVBX := Aside0.mk hvb
    clear hvl hvb hat hN7 hT7 hOK hal hgo hRes hV0 hB hSW hsp hlen hx hdrop hmem hfo hfl hEW hcl hln ha0 hb0 hv0 her HST HI0 HCALL
    by_cases c1 : er = 0
    · subst c1
      have hsk : amongB vs v0 = false → ppS vs xf = .inr none := fun h => by rw [HLN.out, if_pos rfl, if_neg (by rw [h]; decide)]
      have hin : amongB vs v0 = true → ppS vs xf = .inr (some ⟨a0, b0, v0⟩) := fun h => by rw [HLN.out, if_pos rfl, if_pos h]
      have HSK := Aside0.mk hsk
      have HIN := Aside0.mk hin
      clear hsk hin
      cases ham : amongB vs v0 with
      | false =>
        have HAM := Aside0.mk ham
        have hne : vs ≠ [] := fun e => by rw [e] at ham; cases ham
        have hpos : 0 < vs.length := List.length_pos_iff.2 hne
        have e0 : ((0 : Int) < (vs.length : Int)) = True := eq_true (by omega)
        have e1 : decide ((0 : Int) < (vs.length : Int)) = true := decide_eq_true (by omega)
        have e2 : decide (0 < vs.length) = true := decide_eq_true hpos
        obtain ⟨kc, hkc⟩ := (containsB_ev vs v0 HVL0.out).rounds
        rw [← amongB_iff vs v0 hne, ham] at hkc
        have HKC := Aside0.mk hkc
        clear ham hne hpos hkc
        gi_wp2_with (first
          | (refine ⟨trivial, ?_⟩; gi_at_call 45; refine (CallsIn.inRound l' (callsIn_wide.2 HCL.out)).mono ?_; rintro e w1 ⟨rfl, hb⟩
             have HB1 := Aside0.mk hb
             have hbv := hb.alloc hb.size (.cells #[.int .i64 a0, .int .i64 b0, .string v0] 83)
             have HBV := Aside0.mk hbv
             have hc3 : C3 83 (w1.alloc (.cells #[.int .i64 a0, .int .i64 b0, .string v0] 83)) w1.heap.size (.int .i64 a0) (.int .i64 b0) (.string v0) := heap_alloc_new w1 _
             obtain ⟨y0, y1, y2⟩ := hc3.cells
             have HC3 := Aside0.mk hc3
             have q7 := (boxed_sameC HN7.out (SameC.of_below hbv)).cell
             have q8 := (boxed_sameC HN7.out (SameC.of_below hbv)).frozen
             have qv0 := (boxed_sameC HV0.out (SameC.of_below hbv)).cell
             have q9 := (SameC.of_below hbv).cell hx0
             have HVC := Aside0.mk q9
             have hr1 := HRES.out.sameC (SameC.of_below hbv)
             have HR1 := Aside0.mk hr1
             have qr0 := hr1.r0.cell
             clear hb hbv hc3 hr1)
          | (refine ⟨trivial, ?_⟩; gi_at_call 46; (refine (CallsIn.inRound l' (callsIn_wide.2 (slices_Contains_string_string.calls kc Av cv vs v0 false _ (Kd.C_alloc (Kd.C_below (Kd.C_below HRV.out HB.out) HB1.out) _) HCV.out HKC.out))).mono ?_); rintro e w2 ⟨rfl, hd⟩
             have HB2 := Aside0.mk (HBV.out.trans (hd.below.mono HBV.out.size))
             clear hd))
        exact ⟨keepsFrom_below2 HB2.out, KeepC.of_below HB2.out, acc, g7, boxed_sameC HN7.out (SameC.of_below HB2.out), HT7.out.below HB2.out, ⟨HOK.out, by rw [List.length_append]; have := HAL.out.1; simp; omega, by rw [List.length_append, ← HGO.out, ppGo_skip (x := (x1, xf)) (HSK.out HAM.out)]; rfl⟩, HRES.out.sameC (SameC.of_below HB2.out), boxed_sameC HV0.out (SameC.of_below HB2.out), HB.out.trans (HB2.out.mono HB.out.size), Nat.le_trans HSW.out HB2.out.size⟩
      | true =>
        have HAM := Aside0.mk (HIN.out ham)
        obtain ⟨s, hs⟩ : ∃ s : S83, s = ⟨a0, b0, v0⟩ := ⟨_, rfl⟩
        have HSS := Aside0.mk hs
        obtain ⟨kf, hkf⟩ := (find_ev (L := acc) (by have := HAL.out; have := HXN.out; omega) HOK.out s.f0).rounds
        have HKF := Aside0.mk hkf
        have hadd := fun W' (hb : Below W.heap.size W W') => span_Add.calls kf _ acc s (pos acc s.f0) W' (HT7.out.below hb) HKF.out (pos_le _ _) (by have := HAL.out; have := HXN.out; omega)
        have hss : Value.agg #[.int .i64 s.f0, .int .i64 s.f1, .string s.f2] = .agg #[.int .i64 a0, .int .i64 b0, .string v0] := by rw [hs]
        have hs1 : (span_Add.r acc s (pos acc s.f0 : Int)) = addR acc s := rfl
        simp only [hss, hs1] at hadd
        have HADD := Aside0.mk hadd
        clear hkf hadd hss hs1
        have hcase : vs = [] ∨ (vs ≠ [] ∧ vs.any (fun x => x.toList == v0.toList) = true) := by
          by_cases h : vs = []
          · exact .inl h
          · exact .inr ⟨h, by rw [← amongB_iff vs v0 h]; exact ham⟩
        have HCASE := Aside0.mk hcase
        clear hcase ham hs
        by_cases c2 : (addR acc s).1 = 0
        · have HC2 := Aside0.mk c2
          clear c2
          have hadd0 : ∀ W', Below W.heap.size W W' → Calls Tryz.prog 47 #[.pointer (some ⟨g7, 0, none⟩), .agg #[.int .i64 a0, .int .i64 b0, .string v0]] W' fun e w' => ∃ g9, e = .returned (.tuple #[.pointer (some ⟨g9, 0, none⟩), .int .i64 0]) ∧ Tab w' (some ⟨g9, 0, none⟩) (addR acc s).2 ∧ Below W'.heap.size W' w' := fun W' hb => (HADD.out W' hb).mono (fun e w' ⟨h1, q, h2, h3⟩ => by
            rcases h3 with ⟨h3, _⟩ | ⟨_, ⟨g9, rfl⟩, h5⟩
            · exact absurd HC2.out h3
            · exact ⟨g9, by rw [h2, HC2.out], h5, h1⟩)
          have HADD0 := Aside0.mk hadd0
          have hams : ppS vs xf = .inr (some s) := by rw [HAM.out, HSS.out]
          have HAMS := Aside0.mk hams
          clear hadd0 hams HADD
          rcases HCASE.out with hnil | ⟨hne, hany⟩
          · have e0 : ((0 : Int) < (vs.length : Int)) = False := by rw [hnil]; simp
            have e1 : decide ((0 : Int) < (vs.length : Int)) = false := by rw [hnil]; simp
            have e2 : decide (0 < vs.length) = false := by rw [hnil]; simp
            have e3 : (0 < vs.length) = False := by rw [hnil]; simp
            clear hnil
            gi_wp2_with (first
              | (refine ⟨trivial, ?_⟩; gi_at_call 45; refine (CallsIn.inRound l' (callsIn_wide.2 HCL.out)).mono ?_; rintro e w1 ⟨rfl, hb⟩
                 have HB1 := Aside0.mk hb
                 have hbv := hb.alloc hb.size (.cells #[.int .i64 a0, .int .i64 b0, .string v0] 83)
                 have HBV := Aside0.mk hbv
                 have hc3 : C3 83 (w1.alloc (.cells #[.int .i64 a0, .int .i64 b0, .string v0] 83)) w1.heap.size (.int .i64 a0) (.int .i64 b0) (.string v0) := heap_alloc_new w1 _
                 obtain ⟨y0, y1, y2⟩ := hc3.cells
                 have HC3 := Aside0.mk hc3
                 have q7 := (boxed_sameC HN7.out (SameC.of_below hbv)).cell
                 have q8 := (boxed_sameC HN7.out (SameC.of_below hbv)).frozen
                 have qv0 := (boxed_sameC HV0.out (SameC.of_below hbv)).cell
                 have q9 := (SameC.of_below hbv).cell hx0
                 have HVC := Aside0.mk q9
                 have hr1 := HRES.out.sameC (SameC.of_below hbv)
                 have HR1 := Aside0.mk hr1
                 have qr0 := hr1.r0.cell
                 clear hb hbv hc3 hr1)
              | (refine ⟨trivial, ?_⟩; gi_at_call 47; refine (CallsIn.inRound l' (callsIn_wide.2 (HADD0.out _ HBV.out))).mono ?_; rintro e w3 ⟨g9, rfl, hT3, hb⟩; have HT3 := Aside0.mk hT3; clear hT3
                 have hb3 := HBV.out.trans (hb.mono HBV.out.size)
                 have hn3 := boxed_sameC HN7.out (SameC.of_below hb3)
                 have q7c := hn3.cell
                 have q7f := hn3.frozen
                 have HN3 := Aside0.mk hn3
                 have HB3 := Aside0.mk hb3
                 clear hn3 hb3 hb q7 q8 q9)
              | (refine ⟨(trivial : Fence.wide.fn _), ?_⟩))
            exact ppI_add (acc := acc) (x := (x1, xg, xf)) (by have := HSZ.out; omega) HT3.out HN3.out (HRES.out.sameC (SameC.of_below HB3.out)) (boxed_sameC HV0.out (SameC.of_below HB3.out)) (HB.out.trans (HB3.out.mono HB.out.size)) HB3.out (Nat.le_trans HSW.out HB3.out.size) (addR_SpOK HOK.out HC2.out) (by have := (addR_perm HOK.out HC2.out).length_eq; simp only [List.length_cons] at this; have := HAL.out; omega) (by rw [← HGO.out, ppGo_add (x := (x1, xf)) HAMS.out HC2.out])
          · have hpos : 0 < vs.length := List.length_pos_iff.2 hne
            have e0 : ((0 : Int) < (vs.length : Int)) = True := eq_true (by omega)
            have e1 : decide ((0 : Int) < (vs.length : Int)) = true := decide_eq_true (by omega)
            have e2 : decide (0 < vs.length) = true := decide_eq_true hpos
            have e3 : (0 < vs.length) = True := eq_true hpos
            obtain ⟨kc, hkc⟩ := (containsB_ev vs v0 HVL0.out).rounds
            rw [hany] at hkc
            have HKC := Aside0.mk hkc
            clear hne hpos hkc hany
            gi_wp2_with (first
              | (refine ⟨trivial, ?_⟩; gi_at_call 45; refine (CallsIn.inRound l' (callsIn_wide.2 HCL.out)).mono ?_; rintro e w1 ⟨rfl, hb⟩
                 have HB1 := Aside0.mk hb
                 have hbv := hb.alloc hb.size (.cells #[.int .i64 a0, .int .i64 b0, .string v0] 83)
                 have HBV := Aside0.mk hbv
                 have hc3 : C3 83 (w1.alloc (.cells #[.int .i64 a0, .int .i64 b0, .string v0] 83)) w1.heap.size (.int .i64 a0) (.int .i64 b0) (.string v0) := heap_alloc_new w1 _
                 obtain ⟨y0, y1, y2⟩ := hc3.cells
                 have HC3 := Aside0.mk hc3
                 have q7 := (boxed_sameC HN7.out (SameC.of_below hbv)).cell
                 have q8 := (boxed_sameC HN7.out (SameC.of_below hbv)).frozen
                 have qv0 := (boxed_sameC HV0.out (SameC.of_below hbv)).cell
                 have q9 := (SameC.of_below hbv).cell hx0
                 have HVC := Aside0.mk q9
                 have hr1 := HRES.out.sameC (SameC.of_below hbv)
                 have HR1 := Aside0.mk hr1
                 have qr0 := hr1.r0.cell
                 clear hb hbv hc3 hr1)
              | (refine ⟨trivial, ?_⟩; gi_at_call 46; (refine (CallsIn.inRound l' (callsIn_wide.2 (slices_Contains_string_string.calls kc Av cv vs v0 true _ (Kd.C_alloc (Kd.C_below (Kd.C_below HRV.out HB.out) HB1.out) _) HCV.out HKC.out))).mono ?_); rintro e w2 ⟨rfl, hd⟩
                 have hb2 := hd.below
                 have q7 := (boxed_sameC HN7.out (SameC.of_below (HBV.out.trans (hb2.mono HBV.out.size)))).cell
                 have hc9 : C3 83 w2 w1.heap.size (.int .i64 a0) (.int .i64 b0) (.string v0) := (hb2.block _ HC3.out.lt).trans HC3.out
                 obtain ⟨y0, y1, y2⟩ := hc9.cells
                 have HBV := Aside0.mk (HBV.out.trans (hb2.mono HBV.out.size))
                 clear hd hb2 hc9)
              | (refine ⟨trivial, ?_⟩; gi_at_call 47; refine (CallsIn.inRound l' (callsIn_wide.2 (HADD0.out _ HBV.out))).mono ?_; rintro e w3 ⟨g9, rfl, hT3, hb⟩; have HT3 := Aside0.mk hT3; clear hT3
                 have hb3 := HBV.out.trans (hb.mono HBV.out.size)
                 have hn3 := boxed_sameC HN7.out (SameC.of_below hb3)
                 have q7c := hn3.cell
                 have q7f := hn3.frozen
                 have HN3 := Aside0.mk hn3
                 have HB3 := Aside0.mk hb3
                 clear hn3 hb3 hb q7 q8 q9)
              | (refine ⟨(trivial : Fence.wide.fn _), ?_⟩))
            exact ppI_add (acc := acc) (x := (x1, xg, xf)) (by have := HSZ.out; omega) HT3.out HN3.out (HRES.out.sameC (SameC.of_below HB3.out)) (boxed_sameC HV0.out (SameC.of_below HB3.out)) (HB.out.trans (HB3.out.mono HB.out.size)) HB3.out (Nat.le_trans HSW.out HB3.out.size) (addR_SpOK HOK.out HC2.out) (by have := (addR_perm HOK.out HC2.out).length_eq; simp only [List.length_cons] at this; have := HAL.out; omega) (by rw [← HGO.out, ppGo_add (x := (x1, xf)) HAMS.out HC2.out])
        · have HC2 := Aside0.mk c2
          obtain ⟨e9, he9⟩ : ∃ e9, e9 = (addR acc s).1 := ⟨_, rfl⟩
          rw [← he9] at c2
          have HE9 := Aside0.mk he9
          have f0 : (e9 == 0) = false := beq_eq_false_iff_ne.mpr c2
          have f1 : (e9 != 0) = true := bne_iff_ne.mpr c2
          have f2 : decide (e9 = 0) = false := decide_eq_false c2
          clear c2 he9
          have hadd0 : ∀ W', Below W.heap.size W W' → Calls Tryz.prog 47 #[.pointer (some ⟨g7, 0, none⟩), .agg #[.int .i64 a0, .int .i64 b0, .string v0]] W' fun e w' => e = .returned (.tuple #[.pointer none, .int .i64 e9]) ∧ Below W'.heap.size W' w' := fun W' hb => (HADD.out W' hb).mono (fun e w' ⟨h1, q, h2, h3⟩ => by
            rcases h3 with ⟨_, rfl⟩ | ⟨h3, _⟩
            · exact ⟨by rw [h2, HE9.out], h1⟩
            · exact absurd h3 HC2.out)
          have HADD0 := Aside0.mk hadd0
          have hams : ppS vs xf = .inr (some s) := by rw [HAM.out, HSS.out]
          have HAMS := Aside0.mk hams
          clear hadd0 hams HADD
          rcases HCASE.out with hnil | ⟨hne, hany⟩
          · have e0 : ((0 : Int) < (vs.length : Int)) = False := by rw [hnil]; simp
            have e1 : decide ((0 : Int) < (vs.length : Int)) = false := by rw [hnil]; simp
            have e2 : decide (0 < vs.length) = false := by rw [hnil]; simp
            have e3 : (0 < vs.length) = False := by rw [hnil]; simp
            clear hnil
            gi_wp2_with (first
              | (refine ⟨trivial, ?_⟩; gi_at_call 45; refine (CallsIn.inRound l' (callsIn_wide.2 HCL.out)).mono ?_; rintro e w1 ⟨rfl, hb⟩
                 have HB1 := Aside0.mk hb
                 have hbv := hb.alloc hb.size (.cells #[.int .i64 a0, .int .i64 b0, .string v0] 83)
                 have HBV := Aside0.mk hbv
                 have hc3 : C3 83 (w1.alloc (.cells #[.int .i64 a0, .int .i64 b0, .string v0] 83)) w1.heap.size (.int .i64 a0) (.int .i64 b0) (.string v0) := heap_alloc_new w1 _
                 obtain ⟨y0, y1, y2⟩ := hc3.cells
                 have HC3 := Aside0.mk hc3
                 have q7 := (boxed_sameC HN7.out (SameC.of_below hbv)).cell
                 have q8 := (boxed_sameC HN7.out (SameC.of_below hbv)).frozen
                 have qv0 := (boxed_sameC HV0.out (SameC.of_below hbv)).cell
                 have q9 := (SameC.of_below hbv).cell hx0
                 have HVC := Aside0.mk q9
                 have hr1 := HRES.out.sameC (SameC.of_below hbv)
                 have HR1 := Aside0.mk hr1
                 have qr0 := hr1.r0.cell
                 clear hb hbv hc3 hr1)
              | (refine ⟨trivial, ?_⟩; gi_at_call 47; refine (CallsIn.inRound l' (callsIn_wide.2 (HADD0.out _ HBV.out))).mono ?_; rintro e w3 ⟨rfl, hb⟩
                 have hb3 := HBV.out.trans (hb.mono HBV.out.size)
                 have hn3 := boxed_sameC HN7.out (SameC.of_below hb3)
                 have q7c := hn3.cell
                 have q7f := hn3.frozen
                 have HN3 := Aside0.mk hn3
                 have HB3 := Aside0.mk hb3
                 clear hn3 hb3 hb q7 q8 q9)
              | (refine ⟨(trivial : Fence.wide.fn _), ?_⟩))
            have hv3 : (w3.setCell ⟨w5.heap.size, 0, none⟩ (.pointer none)).cell? ⟨vb, 0, none⟩ = some (.int .i64 x1) := by
              have hvx := (SameC.of_below HB3.out) _ _ HVBX.out rfl
              have hne9 : vb ≠ w5.heap.size := by have := HVL.out; have := HSZ.out; omega
              have : (w3.setCell ⟨w5.heap.size, 0, none⟩ (.pointer none)).heap[vb]? = _ := (Below.heap_setCell w3 ⟨w5.heap.size, 0, none⟩ (.pointer none) vb hne9).trans hvx
              simp only [World.cell?]
              rw [this]; rfl
            have hr3 := (HRES.out.sameC (SameC.of_below HB3.out)).sameB (SameB.set w3 ⟨w5.heap.size, 0, none⟩ (.pointer none)) (by show w.heap.size + 1 + 3 ≤ w5.heap.size; have := HSZ.out; omega)
            have HVC := Aside0.mk hv3
            have HR3 := Aside0.mk hr3
            clear hv3 hr3 hx0 hx1 q7c q7f
            have bx0 : Boxed (w3.setCell ⟨w5.heap.size, 0, none⟩ (.pointer none)).drew (w.heap.size + 1) 26 (.pointer none) := HR3.out.r0
            have bx1 : Boxed (((w3.setCell ⟨w5.heap.size, 0, none⟩ (.pointer none)).setCell ⟨w.heap.size + 1, 0, none⟩ (.pointer none))).drew (w.heap.size + 1 + 1) 27 (.int .i64 0) := boxed_setZ HR3.out.r1 (by omega)
            have bx2 : Boxed ((((w3.setCell ⟨w5.heap.size, 0, none⟩ (.pointer none)).setCell ⟨w.heap.size + 1, 0, none⟩ (.pointer none)).setCell ⟨w.heap.size + 1 + 1, 0, none⟩ (.int .i64 e9))).drew (w.heap.size + 1 + 1 + 1) 3 (.int .i64 0) := boxed_setZ (boxed_setZ HR3.out.r2 (by omega)) (by omega)
            have g0 := bx0.cell
            have g1 := bx0.frozen
            have g2 := bx1.cell
            have g3 := bx1.frozen
            have g4 := bx2.cell
            have g5' := bx2.frozen
            clear bx0 bx1 bx2
            have hn0 : ∀ (V : World) (b : Nat) (u : Value) (p : Addr), p.block ≠ b → (V.setCell ⟨b, 0, none⟩ u).cell? p = V.cell? p := fun V b u p h => World.cell?_of_block (Below.heap_setCell V ⟨b, 0, none⟩ u p.block h)
            have hvbn : w.heap.size + 4 ≤ vb := by have := HVL.out; have := HSZ.out; omega
            have hS : (fun w' : World => w'.cell? ⟨vb, 0, none⟩ = some (.int .i64 x1)) (w3.setCell ⟨w5.heap.size, 0, none⟩ (.pointer none)).drew := HVC.out
            have hS1 : (fun w' : World => w'.cell? ⟨vb, 0, none⟩ = some (.int .i64 x1)) (((w3.setCell ⟨w5.heap.size, 0, none⟩ (.pointer none)).setCell ⟨w.heap.size + 1, 0, none⟩ (.pointer none))).drew := (hn0 _ _ _ _ (by show vb ≠ _; omega)).trans hS
            have hS2 : (fun w' : World => w'.cell? ⟨vb, 0, none⟩ = some (.int .i64 x1)) ((((w3.setCell ⟨w5.heap.size, 0, none⟩ (.pointer none)).setCell ⟨w.heap.size + 1, 0, none⟩ (.pointer none)).setCell ⟨w.heap.size + 1 + 1, 0, none⟩ (.int .i64 e9))).drew := (hn0 _ _ _ _ (by show vb ≠ _; omega)).trans hS1
            have hS3 : (fun w' : World => w'.cell? ⟨vb, 0, none⟩ = some (.int .i64 x1)) (((((w3.setCell ⟨w5.heap.size, 0, none⟩ (.pointer none)).setCell ⟨w.heap.size + 1, 0, none⟩ (.pointer none)).setCell ⟨w.heap.size + 1 + 1, 0, none⟩ (.int .i64 e9)).setCell ⟨w.heap.size + 1 + 1 + 1, 0, none⟩ (.int .i64 x1))).drew := (hn0 _ _ _ _ (by show vb ≠ _; omega)).trans hS2
            clear hn0 hvbn
            refine wpIn_region_round_held (fun w' : World => w'.cell? ⟨vb, 0, none⟩ = some (.int .i64 x1)) (by kernel_rfl) (by kernel_rfl) ?_
            show wpAnyH _ _ _ _ _ _ _ _ (w3.setCell ⟨w5.heap.size, 0, none⟩ (.pointer none)).drew
            refine wpAnyH_take (i := 0) (v := .int .i64 e9) rfl (by kernel_rfl) (by kernel_rfl) (by kernel_rfl) (fun _ _ _ h => h) (.inl ⟨by kernel_rfl, fun w' hS => by have q_1 := hS; first | (go_simp; done) | (go_simp; simp [*]; done)⟩) hS ?_
            try simp only [List.getElem_toArray, List.getElem_cons_succ, List.getElem_cons_zero, Act.put, List.setIfInBounds_toArray, List.set_cons_zero, List.set_cons_succ]
            refine wpAnyH_take (i := 1) (v := .pointer (some ⟨vb, 0, none⟩)) rfl (by kernel_rfl) (by kernel_rfl) (by kernel_rfl) (fun _ _ _ h => h) (.inl ⟨by kernel_rfl, fun w' hS => by have q_1 := hS; first | (go_simp; done) | (go_simp; simp [*]; done)⟩) hS ?_
            try simp only [List.getElem_toArray, List.getElem_cons_succ, List.getElem_cons_zero, Act.put, List.setIfInBounds_toArray, List.set_cons_zero, List.set_cons_succ]
            refine wpAnyH_take (i := 2) (v := .int .i64 x1) rfl (by kernel_rfl) (by kernel_rfl) (by kernel_rfl) (fun _ _ _ h => h) (.inl ⟨by kernel_rfl, fun w' hS => by have q_1 := hS; first | (go_simp; done) | (go_simp; simp [*]; done)⟩) hS ?_
            try simp only [List.getElem_toArray, List.getElem_cons_succ, List.getElem_cons_zero, Act.put, List.setIfInBounds_toArray, List.set_cons_zero, List.set_cons_succ]
            refine wpAnyH_ready (rs := [3]) (by kernel_rfl) (by simp) (AllReadyH.cons rfl (fun K' hK => ?_) AllReadyH.nil)
            rw [if_pos (by kernel_rfl)]
            go_simp
            refine hK.out _ _ hS1 (fun _ => ?_)
            clear hK
            try simp only [List.getElem_toArray, List.getElem_cons_succ, List.getElem_cons_zero, Act.put, List.setIfInBounds_toArray, List.set_cons_zero, List.set_cons_succ]
            refine wpAnyH_ready (rs := [4]) (by kernel_rfl) (by simp) (AllReadyH.cons rfl (fun K' hK => ?_) AllReadyH.nil)
            rw [if_pos (by kernel_rfl)]
            go_simp
            refine hK.out _ _ hS2 (fun _ => ?_)
            clear hK
            try simp only [List.getElem_toArray, List.getElem_cons_succ, List.getElem_cons_zero, Act.put, List.setIfInBounds_toArray, List.set_cons_zero, List.set_cons_succ]
            refine wpAnyH_ready (rs := [5]) (by kernel_rfl) (by simp) (AllReadyH.cons rfl (fun K' hK => ?_) AllReadyH.nil)
            rw [if_pos (by kernel_rfl)]
            go_simp
            refine hK.out _ _ hS3 (fun _ => ?_)
            clear hK
            try simp only [List.getElem_toArray, List.getElem_cons_succ, List.getElem_cons_zero, Act.put, List.setIfInBounds_toArray, List.set_cons_zero, List.set_cons_succ]
            refine wpAnyH_done (by kernel_rfl) ?_ _
            refine NoPanic.normal ?_
            gi_wp2
            refine ⟨?_, rfl, e9, x1, ?_, ?_, ?_, ?_⟩
            · exact (keepsFrom_below2 HB3.out).trans (((KeepsOthers.setCell _ _ _).trans ((KeepsOthers.drew _).trans (((KeepsOthers.setCell _ _ _).trans (KeepsOthers.setCell _ _ _)).trans (KeepsOthers.setCell _ _ _)))).from _)
            · rw [← HGO.out, ppGo_twice (x := (x1, xf)) HAMS.out HC2.out, HE9.out]
            · have hz := HR3.out.set (.pointer none) (.int .i64 e9) (.int .i64 x1)
              exact ⟨hz.r0, hz.r1, hz.r2⟩
            · exact set3_below (below_drew ((HB.out.trans (HB3.out.mono HB.out.size)).setCell (p := ⟨w5.heap.size, 0, none⟩) (by show w.heap.size ≤ w5.heap.size; have := HSZ.out; omega) _)) (by omega) _ _ _
            · show w7.heap.size ≤ (World.setCell (World.setCell (World.setCell _ _ _) _ _) _ _).heap.size
              simp only [World.size_setCell]
              exact Nat.le_trans HSW.out HB3.out.size
          · have hpos : 0 < vs.length := List.length_pos_iff.2 hne
            have e0 : ((0 : Int) < (vs.length : Int)) = True := eq_true (by omega)
            have e1 : decide ((0 : Int) < (vs.length : Int)) = true := decide_eq_true (by omega)
            have e2 : decide (0 < vs.length) = true := decide_eq_true hpos
            have e3 : (0 < vs.length) = True := eq_true hpos
            obtain ⟨kc, hkc⟩ := (containsB_ev vs v0 HVL0.out).rounds
            rw [hany] at hkc
            have HKC := Aside0.mk hkc
            clear hne hpos hkc hany
            gi_wp2_with (first
              | (refine ⟨trivial, ?_⟩; gi_at_call 45; refine (CallsIn.inRound l' (callsIn_wide.2 HCL.out)).mono ?_; rintro e w1 ⟨rfl, hb⟩
                 have HB1 := Aside0.mk hb
                 have hbv := hb.alloc hb.size (.cells #[.int .i64 a0, .int .i64 b0, .string v0] 83)
                 have HBV := Aside0.mk hbv
                 have hc3 : C3 83 (w1.alloc (.cells #[.int .i64 a0, .int .i64 b0, .string v0] 83)) w1.heap.size (.int .i64 a0) (.int .i64 b0) (.string v0) := heap_alloc_new w1 _
                 obtain ⟨y0, y1, y2⟩ := hc3.cells
                 have HC3 := Aside0.mk hc3
                 have q7 := (boxed_sameC HN7.out (SameC.of_below hbv)).cell
                 have q8 := (boxed_sameC HN7.out (SameC.of_below hbv)).frozen
                 have qv0 := (boxed_sameC HV0.out (SameC.of_below hbv)).cell
                 have q9 := (SameC.of_below hbv).cell hx0
                 have HVC := Aside0.mk q9
                 have hr1 := HRES.out.sameC (SameC.of_below hbv)
                 have HR1 := Aside0.mk hr1
                 have qr0 := hr1.r0.cell
                 clear hb hbv hc3 hr1)
              | (refine ⟨trivial, ?_⟩; gi_at_call 46; (refine (CallsIn.inRound l' (callsIn_wide.2 (slices_Contains_string_string.calls kc Av cv vs v0 true _ (Kd.C_alloc (Kd.C_below (Kd.C_below HRV.out HB.out) HB1.out) _) HCV.out HKC.out))).mono ?_); rintro e w2 ⟨rfl, hd⟩
                 have hb2 := hd.below
                 have q7 := (boxed_sameC HN7.out (SameC.of_below (HBV.out.trans (hb2.mono HBV.out.size)))).cell
                 have hc9 : C3 83 w2 w1.heap.size (.int .i64 a0) (.int .i64 b0) (.string v0) := (hb2.block _ HC3.out.lt).trans HC3.out
                 obtain ⟨y0, y1, y2⟩ := hc9.cells
                 have HBV := Aside0.mk (HBV.out.trans (hb2.mono HBV.out.size))
                 clear hd hb2 hc9)
              | (refine ⟨trivial, ?_⟩; gi_at_call 47; refine (CallsIn.inRound l' (callsIn_wide.2 (HADD0.out _ HBV.out))).mono ?_; rintro e w3 ⟨rfl, hb⟩
                 have hb3 := HBV.out.trans (hb.mono HBV.out.size)
                 have hn3 := boxed_sameC HN7.out (SameC.of_below hb3)
                 have q7c := hn3.cell
                 have q7f := hn3.frozen
                 have HN3 := Aside0.mk hn3
                 have HB3 := Aside0.mk hb3
                 clear hn3 hb3 hb q7 q8 q9)
              | (refine ⟨(trivial : Fence.wide.fn _), ?_⟩))
            have hv3 : (w3.setCell ⟨w5.heap.size, 0, none⟩ (.pointer none)).cell? ⟨vb, 0, none⟩ = some (.int .i64 x1) := by
              have hvx := (SameC.of_below HB3.out) _ _ HVBX.out rfl
              have hne9 : vb ≠ w5.heap.size := by have := HVL.out; have := HSZ.out; omega
              have : (w3.setCell ⟨w5.heap.size, 0, none⟩ (.pointer none)).heap[vb]? = _ := (Below.heap_setCell w3 ⟨w5.heap.size, 0, none⟩ (.pointer none) vb hne9).trans hvx
              simp only [World.cell?]
              rw [this]; rfl
            have hr3 := (HRES.out.sameC (SameC.of_below HB3.out)).sameB (SameB.set w3 ⟨w5.heap.size, 0, none⟩ (.pointer none)) (by show w.heap.size + 1 + 3 ≤ w5.heap.size; have := HSZ.out; omega)
            have HVC := Aside0.mk hv3
            have HR3 := Aside0.mk hr3
            clear hv3 hr3 hx0 hx1 q7c q7f
            have bx0 : Boxed (w3.setCell ⟨w5.heap.size, 0, none⟩ (.pointer none)).drew (w.heap.size + 1) 26 (.pointer none) := HR3.out.r0
            have bx1 : Boxed (((w3.setCell ⟨w5.heap.size, 0, none⟩ (.pointer none)).setCell ⟨w.heap.size + 1, 0, none⟩ (.pointer none))).drew (w.heap.size + 1 + 1) 27 (.int .i64 0) := boxed_setZ HR3.out.r1 (by omega)
            have bx2 : Boxed ((((w3.setCell ⟨w5.heap.size, 0, none⟩ (.pointer none)).setCell ⟨w.heap.size + 1, 0, none⟩ (.pointer none)).setCell ⟨w.heap.size + 1 + 1, 0, none⟩ (.int .i64 e9))).drew (w.heap.size + 1 + 1 + 1) 3 (.int .i64 0) := boxed_setZ (boxed_setZ HR3.out.r2 (by omega)) (by omega)
            have g0 := bx0.cell
            have g1 := bx0.frozen
            have g2 := bx1.cell
            have g3 := bx1.frozen
            have g4 := bx2.cell
            have g5' := bx2.frozen
            clear bx0 bx1 bx2
            have hn0 : ∀ (V : World) (b : Nat) (u : Value) (p : Addr), p.block ≠ b → (V.setCell ⟨b, 0, none⟩ u).cell? p = V.cell? p := fun V b u p h => World.cell?_of_block (Below.heap_setCell V ⟨b, 0, none⟩ u p.block h)
            have hvbn : w.heap.size + 4 ≤ vb := by have := HVL.out; have := HSZ.out; omega
            have hS : (fun w' : World => w'.cell? ⟨vb, 0, none⟩ = some (.int .i64 x1)) (w3.setCell ⟨w5.heap.size, 0, none⟩ (.pointer none)).drew := HVC.out
            have hS1 : (fun w' : World => w'.cell? ⟨vb, 0, none⟩ = some (.int .i64 x1)) (((w3.setCell ⟨w5.heap.size, 0, none⟩ (.pointer none)).setCell ⟨w.heap.size + 1, 0, none⟩ (.pointer none))).drew := (hn0 _ _ _ _ (by show vb ≠ _; omega)).trans hS
            have hS2 : (fun w' : World => w'.cell? ⟨vb, 0, none⟩ = some (.int .i64 x1)) ((((w3.setCell ⟨w5.heap.size, 0, none⟩ (.pointer none)).setCell ⟨w.heap.size + 1, 0, none⟩ (.pointer none)).setCell ⟨w.heap.size + 1 + 1, 0, none⟩ (.int .i64 e9))).drew := (hn0 _ _ _ _ (by show vb ≠ _; omega)).trans hS1
            have hS3 : (fun w' : World => w'.cell? ⟨vb, 0, none⟩ = some (.int .i64 x1)) (((((w3.setCell ⟨w5.heap.size, 0, none⟩ (.pointer none)).setCell ⟨w.heap.size + 1, 0, none⟩ (.pointer none)).setCell ⟨w.heap.size + 1 + 1, 0, none⟩ (.int .i64 e9)).setCell ⟨w.heap.size + 1 + 1 + 1, 0, none⟩ (.int .i64 x1))).drew := (hn0 _ _ _ _ (by show vb ≠ _; omega)).trans hS2
            clear hn0 hvbn
            refine wpIn_region_round_held (fun w' : World => w'.cell? ⟨vb, 0, none⟩ = some (.int .i64 x1)) (by kernel_rfl) (by kernel_rfl) ?_
            show wpAnyH _ _ _ _ _ _ _ _ (w3.setCell ⟨w5.heap.size, 0, none⟩ (.pointer none)).drew
            refine wpAnyH_take (i := 0) (v := .int .i64 e9) rfl (by kernel_rfl) (by kernel_rfl) (by kernel_rfl) (fun _ _ _ h => h) (.inl ⟨by kernel_rfl, fun w' hS => by have q_1 := hS; first | (go_simp; done) | (go_simp; simp [*]; done)⟩) hS ?_
            try simp only [List.getElem_toArray, List.getElem_cons_succ, List.getElem_cons_zero, Act.put, List.setIfInBounds_toArray, List.set_cons_zero, List.set_cons_succ]
            refine wpAnyH_take (i := 1) (v := .pointer (some ⟨vb, 0, none⟩)) rfl (by kernel_rfl) (by kernel_rfl) (by kernel_rfl) (fun _ _ _ h => h) (.inl ⟨by kernel_rfl, fun w' hS => by have q_1 := hS; first | (go_simp; done) | (go_simp; simp [*]; done)⟩) hS ?_
            try simp only [List.getElem_toArray, List.getElem_cons_succ, List.getElem_cons_zero, Act.put, List.setIfInBounds_toArray, List.set_cons_zero, List.set_cons_succ]
            refine wpAnyH_take (i := 2) (v := .int .i64 x1) rfl (by kernel_rfl) (by kernel_rfl) (by kernel_rfl) (fun _ _ _ h => h) (.inl ⟨by kernel_rfl, fun w' hS => by have q_1 := hS; first | (go_simp; done) | (go_simp; simp [*]; done)⟩) hS ?_
            try simp only [List.getElem_toArray, List.getElem_cons_succ, List.getElem_cons_zero, Act.put, List.setIfInBounds_toArray, List.set_cons_zero, List.set_cons_succ]
            refine wpAnyH_ready (rs := [3]) (by kernel_rfl) (by simp) (AllReadyH.cons rfl (fun K' hK => ?_) AllReadyH.nil)
            rw [if_pos (by kernel_rfl)]
            go_simp
            refine hK.out _ _ hS1 (fun _ => ?_)
            clear hK
            try simp only [List.getElem_toArray, List.getElem_cons_succ, List.getElem_cons_zero, Act.put, List.setIfInBounds_toArray, List.set_cons_zero, List.set_cons_succ]
            refine wpAnyH_ready (rs := [4]) (by kernel_rfl) (by simp) (AllReadyH.cons rfl (fun K' hK => ?_) AllReadyH.nil)
            rw [if_pos (by kernel_rfl)]
            go_simp
            refine hK.out _ _ hS2 (fun _ => ?_)
            clear hK
            try simp only [List.getElem_toArray, List.getElem_cons_succ, List.getElem_cons_zero, Act.put, List.setIfInBounds_toArray, List.set_cons_zero, List.set_cons_succ]
            refine wpAnyH_ready (rs := [5]) (by kernel_rfl) (by simp) (AllReadyH.cons rfl (fun K' hK => ?_) AllReadyH.nil)
            rw [if_pos (by kernel_rfl)]
            go_simp
            refine hK.out _ _ hS3 (fun _ => ?_)
            clear hK
            try simp only [List.getElem_toArray, List.getElem_cons_succ, List.getElem_cons_zero, Act.put, List.setIfInBounds_toArray, List.set_cons_zero, List.set_cons_succ]
            refine wpAnyH_done (by kernel_rfl) ?_ _
            refine NoPanic.normal ?_
            gi_wp2
            refine ⟨?_, rfl, e9, x1, ?_, ?_, ?_, ?_⟩
            · exact (keepsFrom_below2 HB3.out).trans (((KeepsOthers.setCell _ _ _).trans ((KeepsOthers.drew _).trans (((KeepsOthers.setCell _ _ _).trans (KeepsOthers.setCell _ _ _)).trans (KeepsOthers.setCell _ _ _)))).from _)
            · rw [← HGO.out, ppGo_twice (x := (x1, xf)) HAMS.out HC2.out, HE9.out]
            · have hz := HR3.out.set (.pointer none) (.int .i64 e9) (.int .i64 x1)
              exact ⟨hz.r0, hz.r1, hz.r2⟩
            · exact set3_below (below_drew ((HB.out.trans (HB3.out.mono HB.out.size)).setCell (p := ⟨w5.heap.size, 0, none⟩) (by show w.heap.size ≤ w5.heap.size; have := HSZ.out; omega) _)) (by omega) _ _ _
            · show w7.heap.size ≤ (World.setCell (World.setCell (World.setCell _ _ _) _ _) _ _).heap.size
              simp only [World.size_setCell]
              exact Nat.le_trans HSW.out HB3.out.size
    · have f0 : (er == 0) = false := beq_eq_false_iff_ne.mpr c1
      have f1 : (er != 0) = true := bne_iff_ne.mpr c1
      have HC1 := Aside0.mk c1
      have hie : ppS vs xf = .inl er := by rw [HLN.out, if_neg c1]
      have HIE := Aside0.mk hie
      clear c1 hie
      gi_wp2_with (first
          | (refine ⟨trivial, ?_⟩; gi_at_call 45; refine (CallsIn.inRound l' (callsIn_wide.2 HCL.out)).mono ?_; rintro e w1 ⟨rfl, hb⟩
             have HB1 := Aside0.mk hb
             have hbv := hb.alloc hb.size (.cells #[.int .i64 a0, .int .i64 b0, .string v0] 83)
             have HBV := Aside0.mk hbv
             have hc3 : C3 83 (w1.alloc (.cells #[.int .i64 a0, .int .i64 b0, .string v0] 83)) w1.heap.size (.int .i64 a0) (.int .i64 b0) (.string v0) := heap_alloc_new w1 _
             obtain ⟨y0, y1, y2⟩ := hc3.cells
             have HC3 := Aside0.mk hc3
             have q7 := (boxed_sameC HN7.out (SameC.of_below hbv)).cell
             have q8 := (boxed_sameC HN7.out (SameC.of_below hbv)).frozen
             have qv0 := (boxed_sameC HV0.out (SameC.of_below hbv)).cell
             have q9 := (SameC.of_below hbv).cell hx0
             have HVC := Aside0.mk q9
             have hr1 := HRES.out.sameC (SameC.of_below hbv)
             have HR1 := Aside0.mk hr1
             have qr0 := hr1.r0.cell
             clear hb hbv hc3 hr1))
      clear hx0 hx1 y0 y1 y2 q7 q8 q9 qv0 qr0
      have bx0 : Boxed (w1.alloc (.cells #[.int .i64 a0, .int .i64 b0, .string v0] 83)).drew (w.heap.size + 1) 26 (.pointer none) := HR1.out.r0
      have bx1 : Boxed (((w1.alloc (.cells #[.int .i64 a0, .int .i64 b0, .string v0] 83)).setCell ⟨w.heap.size + 1, 0, none⟩ (.pointer none))).drew (w.heap.size + 1 + 1) 27 (.int .i64 0) := boxed_setZ HR1.out.r1 (by omega)
      have bx2 : Boxed ((((w1.alloc (.cells #[.int .i64 a0, .int .i64 b0, .string v0] 83)).setCell ⟨w.heap.size + 1, 0, none⟩ (.pointer none)).setCell ⟨w.heap.size + 1 + 1, 0, none⟩ (.int .i64 er))).drew (w.heap.size + 1 + 1 + 1) 3 (.int .i64 0) := boxed_setZ (boxed_setZ HR1.out.r2 (by omega)) (by omega)
      have g0 := bx0.cell
      have g1 := bx0.frozen
      have g2 := bx1.cell
      have g3 := bx1.frozen
      have g4 := bx2.cell
      have g5' := bx2.frozen
      clear bx0 bx1 bx2
      have hn0 : ∀ (V : World) (b : Nat) (u : Value) (p : Addr), p.block ≠ b → (V.setCell ⟨b, 0, none⟩ u).cell? p = V.cell? p := fun V b u p h => World.cell?_of_block (Below.heap_setCell V ⟨b, 0, none⟩ u p.block h)
      have hvbn : w.heap.size + 4 ≤ vb := by have := HVL.out; have := HSZ.out; omega
      have hS : (fun w' : World => w'.cell? ⟨vb, 0, none⟩ = some (.int .i64 x1)) (w1.alloc (.cells #[.int .i64 a0, .int .i64 b0, .string v0] 83)).drew := HVC.out
      have hS1 : (fun w' : World => w'.cell? ⟨vb, 0, none⟩ = some (.int .i64 x1)) (((w1.alloc (.cells #[.int .i64 a0, .int .i64 b0, .string v0] 83)).setCell ⟨w.heap.size + 1, 0, none⟩ (.pointer none))).drew := (hn0 _ _ _ _ (by show vb ≠ _; omega)).trans hS
      have hS2 : (fun w' : World => w'.cell? ⟨vb, 0, none⟩ = some (.int .i64 x1)) ((((w1.alloc (.cells #[.int .i64 a0, .int .i64 b0, .string v0] 83)).setCell ⟨w.heap.size + 1, 0, none⟩ (.pointer none)).setCell ⟨w.heap.size + 1 + 1, 0, none⟩ (.int .i64 er))).drew := (hn0 _ _ _ _ (by show vb ≠ _; omega)).trans hS1
      have hS3 : (fun w' : World => w'.cell? ⟨vb, 0, none⟩ = some (.int .i64 x1)) (((((w1.alloc (.cells #[.int .i64 a0, .int .i64 b0, .string v0] 83)).setCell ⟨w.heap.size + 1, 0, none⟩ (.pointer none)).setCell ⟨w.heap.size + 1 + 1, 0, none⟩ (.int .i64 er)).setCell ⟨w.heap.size + 1 + 1 + 1, 0, none⟩ (.int .i64 x1))).drew := (hn0 _ _ _ _ (by show vb ≠ _; omega)).trans hS2
      clear hn0 hvbn
      refine wpIn_region_round_held (fun w' : World => w'.cell? ⟨vb, 0, none⟩ = some (.int .i64 x1)) (by kernel_rfl) (by kernel_rfl) ?_
      show wpAnyH _ _ _ _ _ _ _ _ (w1.alloc (.cells #[.int .i64 a0, .int .i64 b0, .string v0] 83)).drew
      refine wpAnyH_take (i := 0) (v := .int .i64 er) rfl (by kernel_rfl) (by kernel_rfl) (by kernel_rfl) (fun _ _ _ h => h) (.inl ⟨by kernel_rfl, fun w' hS => by have q_1 := hS; first | (go_simp; done) | (go_simp; simp [*]; done)⟩) hS ?_
      try simp only [List.getElem_toArray, List.getElem_cons_succ, List.getElem_cons_zero, Act.put, List.setIfInBounds_toArray, List.set_cons_zero, List.set_cons_succ]
      refine wpAnyH_take (i := 1) (v := .pointer (some ⟨vb, 0, none⟩)) rfl (by kernel_rfl) (by kernel_rfl) (by kernel_rfl) (fun _ _ _ h => h) (.inl ⟨by kernel_rfl, fun w' hS => by have q_1 := hS; first | (go_simp; done) | (go_simp; simp [*]; done)⟩) hS ?_
      try simp only [List.getElem_toArray, List.getElem_cons_succ, List.getElem_cons_zero, Act.put, List.setIfInBounds_toArray, List.set_cons_zero, List.set_cons_succ]
      refine wpAnyH_take (i := 2) (v := .int .i64 x1) rfl (by kernel_rfl) (by kernel_rfl) (by kernel_rfl) (fun _ _ _ h => h) (.inl ⟨by kernel_rfl, fun w' hS => by have q_1 := hS; first | (go_simp; done) | (go_simp; simp [*]; done)⟩) hS ?_
      try simp only [List.getElem_toArray, List.getElem_cons_succ, List.getElem_cons_zero, Act.put, List.setIfInBounds_toArray, List.set_cons_zero, List.set_cons_succ]
      refine wpAnyH_ready (rs := [3]) (by kernel_rfl) (by simp) (AllReadyH.cons rfl (fun K' hK => ?_) AllReadyH.nil)
      rw [if_pos (by kernel_rfl)]
      go_simp
      refine hK.out _ _ hS1 (fun _ => ?_)
      clear hK
      try simp only [List.getElem_toArray, List.getElem_cons_succ, List.getElem_cons_zero, Act.put, List.setIfInBounds_toArray, List.set_cons_zero, List.set_cons_succ]
      refine wpAnyH_ready (rs := [4]) (by kernel_rfl) (by simp) (AllReadyH.cons rfl (fun K' hK => ?_) AllReadyH.nil)
      rw [if_pos (by kernel_rfl)]
      go_simp
      refine hK.out _ _ hS2 (fun _ => ?_)
      clear hK
      try simp only [List.getElem_toArray, List.getElem_cons_succ, List.getElem_cons_zero, Act.put, List.setIfInBounds_toArray, List.set_cons_zero, List.set_cons_succ]
      refine wpAnyH_ready (rs := [5]) (by kernel_rfl) (by simp) (AllReadyH.cons rfl (fun K' hK => ?_) AllReadyH.nil)
      rw [if_pos (by kernel_rfl)]
      go_simp
      refine hK.out _ _ hS3 (fun _ => ?_)
      clear hK
      try simp only [List.getElem_toArray, List.getElem_cons_succ, List.getElem_cons_zero, Act.put, List.setIfInBounds_toArray, List.set_cons_zero, List.set_cons_succ]
      refine wpAnyH_done (by kernel_rfl) ?_ _
      refine NoPanic.normal ?_
      gi_wp2
      refine ⟨?_, rfl, er, x1, ?_, ?_, ?_, ?_⟩
      · exact (keepsFrom_below2 HBV.out).trans (((KeepsOthers.drew _).trans (((KeepsOthers.setCell _ _ _).trans (KeepsOthers.setCell _ _ _)).trans (KeepsOthers.setCell _ _ _))).from _)
      · rw [← HGO.out, ppGo_err (x := (x1, xf)) HIE.out]
      · have hz := HR1.out.set (.pointer none) (.int .i64 er) (.int .i64 x1)
        exact ⟨hz.r0, hz.r1, hz.r2⟩
      · exact set3_below (below_drew (HB.out.trans (HBV.out.mono HB.out.size))) (by omega) _ _ _
      · show w7.heap.size ≤ (World.setCell (World.setCell (World.setCell _ _ _) _ _) _ _).heap.size
        simp only [World.size_setCell]
        exact Nat.le_trans HSW.out HBV.out.size
  case done =>
    rintro D ys W hD hys ⟨acc, g7, hN7, hT7, ⟨hOK, hal, hgo⟩, hRes, hV0, hB, hSW⟩ hK
    have hy : ys.length = X.length := by rw [← hys, List.length_map]
    have hgo : ppGo vs X [] = (some acc, 0, 0) := by rw [← hgo, hy, List.drop_length]; rfl
    have hc7 := hN7.cell
    obtain ⟨⟨g0, g1⟩, g2, g3⟩ := hRes.facts
    have g4 := (g2 (.pointer (some ⟨g7, 0, none⟩))).1
    have g5' := (g2 (.pointer (some ⟨g7, 0, none⟩))).2
    have g6 := (g3 (.pointer (some ⟨g7, 0, none⟩)) (.int .i64 0)).1
    have g8 := (g3 (.pointer (some ⟨g7, 0, none⟩)) (.int .i64 0)).2
    have HGO := Aside0.mk hgo
    have HRES := Aside0.mk hRes
    have HT7 := Aside0.mk hT7
    have HOK := Aside0.mk hOK
    have HN7 := Aside0.mk hN7
    have HB := Aside0.mk hB
    have HK := Aside0.mk hK
    have HD := Aside0.mk hD
    clear hN7 hT7 hOK hal hgo hRes hV0 hB hSW hK hD hys hy g2 g3
    go_wp2
    have hd := HD.out
    have hsz := HSZ.out
    have hres := HRES.out.set (.pointer (some ⟨g7, 0, none⟩)) (.int .i64 0) (.int .i64 0)
    have hDs : (set3 W (w.heap.size + 1) (.pointer (some ⟨g7, 0, none⟩)) (.int .i64 0) (.int .i64 0)).heap[D]? = some (.deferred (some [])) := (set3_heap W _ _ _ _ D (.inr (by omega))).trans HK.out
    have hbs := set3_below HB.out (show w.heap.size ≤ w.heap.size + 1 by omega) (.pointer (some ⟨g7, 0, none⟩)) (.int .i64 0) (.int .i64 0)
    have hmk := hres.mark hbs (by omega) hDs (by omega)
    have hTs : Tab (set3 W (w.heap.size + 1) (.pointer (some ⟨g7, 0, none⟩)) (.int .i64 0) (.int .i64 0)) (some ⟨g7, 0, none⟩) acc := tab_set3 HT7.out HRES.out _ _ _
    refine ⟨by simp, .inl ⟨_, _, rfl, run_takeDeferred hDs, ?_⟩⟩
    rw [HGO.out]
    obtain ⟨m0, m1, m2, m3⟩ := hmk (.deferred none)
    unfold set3 at m0 m1 m2
    exact ⟨_, by simp [results, Tryz.results15, go_sem, m0, m1, m2], m3, some ⟨g7, 0, none⟩, rfl, ⟨g7, rfl⟩, tab_putD hTs hDs, HOK.out⟩
  case stop =>
    rintro D c pre W hD hSp ⟨rfl, e, n, hgo, hRes, hB, hSW⟩ hK
    have HGO := Aside0.mk hgo
    have HRES := Aside0.mk hRes
    have HB := Aside0.mk hB
    have HK := Aside0.mk hK
    have HD := Aside0.mk hD
    clear hgo hRes hB hSW hK hD hSp
    refine wpIn_wide.2 ?_
    go_wp2
    have hd := HD.out
    have hsz := HSZ.out
    have hmk := HRES.out.mark HB.out (by omega) HK.out (by omega)
    refine ⟨by simp, .inl ⟨_, _, rfl, run_takeDeferred HK.out, ?_⟩⟩
    rw [HGO.out]
    obtain ⟨m0, m1, m2, m3⟩ := hmk (.deferred none)
    exact ⟨_, by simp [results, Tryz.results15, go_sem, m0, m1, m2], m3, none, rfl, rfl⟩
end Go.Proofs.YtbpdcbibooiimaaGreatDoor.Q
/- prop's reference: Parse. -/
namespace Go.Proofs.YtbpdcbibooiimaaGreatDoor.Q
open Go.RowKit Go.Shelf Go.Proofs.YtbpdcbibooiimaaGreatDoorW.PrintWords Go.Proofs.YtbpdcbibooiimaaGreatDoorW.PrintLast Go.Proofs.YtbpdcbibooiimaaGreatDoorW.PrintMore Go.Proofs.YtbpdcbibooiimaaGreatDoor.K
def prfL (o : Option (List S83)) : List S93 := match o with
  | none => []
  | some l => l.map c53
theorem operCall {P : Program} {Q : Exit → Act → World → Prop} {K : Act → World → Prop} {oi : Oper} {a : Act} {w : World} {f : FuncId} {fn : Func} {aa : Array Operand} {ts : Array TypeId} (hf : P.funcs[f]? = some fn) (hname : (fn.name == "runtime.NumGoroutine") = false) (hb : fn.body.isSome = true) (args : Array Value)
    (hop : oi.op = .call { callee := .value (.func f), args := aa, argTypes := ts }) (hargs : aa.map a.eval = args)
    (h : Calls P f args w fun e w' => ∃ v, e = .returned v ∧ K (a.put oi.dst v) w') : Oper.wp P oi a w K Q := by
  have he := enters_ hf hname hb args w
  have hrun : (execOp a.eval oi).run P w = .ok (.enter f args) w := by
    unfold execOp
    simp [hop, resolve, Deferred.ofValue, invoke, Act.eval, hargs, he]
  unfold Oper.wp
  rw [hrun, Oper.upon_enter]
  refine h.mono fun e w'' hh => ?_
  obtain ⟨v, rfl, hk⟩ := hh
  exact hk
theorem operVal {P : Program} {Q : Exit → Act → World → Prop} {K : Act → World → Prop} {oi : Oper} {a : Act} {w : World} {v : Value} (hrun : (execOp a.eval oi).run P w = .ok (.value v) w) (h : K (a.put oi.dst v) w) : Oper.wp P oi a w K Q := by
  unfold Oper.wp
  rw [hrun]
  exact h
theorem refCheck.calls (k : Nat) (A0 : Option Addr) (c0 n : Nat) (l0 : List S93) (a1_0 : Int) (a1_1 : Int) (a1_2 : ByteArray) (r : Int) (w : World) (hr0 : Kd.C k93 w A0 n l0) (hn : l0.length = n) (hc0 : n ≤ c0) (h : paronymref03_Check.f k l0 a1_0 a1_1 a1_2 = some r) :
    Calls Tryz.prog 50 #[.slice A0 n c0, .agg #[.int .i64 a1_0, .int .i64 a1_1, .string a1_2]] w fun e w' => e = .returned (.int .i64 r) ∧ Below w.heap.size w w' := by
  subst hn
  exact paronymref03_Check.calls k A0 c0 l0 a1_0 a1_1 a1_2 r w hr0 hc0 h
theorem refSorted.calls (k : Nat) (A0 : Option Addr) (c0 n : Nat) (l0 : List S93) (r : List S93) (w : World) (hr0 : Kd.C k93 w A0 l0.length l0) (hn : l0.length = n) (hc0 : n ≤ c0) (h : paronymref03_Sorted.f k l0 = some r) :
    Calls Tryz.prog 51 #[.slice A0 n c0] w fun e w' => ∃ v0_ : Value, e = .returned (v0_) ∧ Kd.R k93 93 w' w.heap.size (fun _ => True) v0_ r ∧ Below w.heap.size w w' := by
  subst hn
  exact paronymref03_Sorted.calls k A0 c0 l0 r w hr0 hc0 h
set_option maxHeartbeats 8000000 in
set_option maxRecDepth 100000 in
theorem refParse5.calls (L : List Int) (ho : Oct L) (hl : L.length ≤ 50000) (Av : Option Addr) (cv : Nat) (vs : List ByteArray) (hvl : vs.length ≤ 1000000) (w : World) (hrv : Kd.C Kd.string w Av vs.length vs) (hcv : vs.length ≤ cv) :
    Calls Tryz.prog 16 #[.string (strOfNums L), .slice Av vs.length cv] w fun e w' => ∃ v, e = .returned (.tuple #[v, .int .i64 (ppGo vs (linesI 0 (spl 10 L)) []).2.1, .int .i64 (ppGo vs (linesI 0 (spl 10 L)) []).2.2]) ∧
      Kd.R k93 93 w' w.heap.size (fun _ => True) v (prfL (ppGo vs (linesI 0 (spl 10 L)) []).1) ∧ Below w.heap.size w w' := by
  obtain ⟨k1, hk1⟩ := (lines_ev ho (by omega)).rounds
  obtain ⟨X, hX⟩ : ∃ X, X = linesI 0 (spl 10 L) := ⟨_, rfl⟩
  have hXn : X.length ≤ 50001 := by
    rw [hX]
    have h1 := linesI_len (spl 10 L) 0
    have h2 := splP_count (fun x => decide (x = (10 : Int))) L
    unfold spl at h1 ⊢; omega
  have hXo : ∀ p ∈ X, ∀ q ∈ p.2, Oct q ∧ q.length ≤ 50000 := by
    rw [hX]
    exact linesI_oct _ 0 (fun l hl2 => ⟨oct_spl ho hl2, by have := len_spl hl2; omega⟩)
  rw [linesS_is, ← hX] at hk1
  rw [← hX]
  have HXN := Aside0.mk hXn
  have HXO := Aside0.mk hXo
  have HK1 := Aside0.mk hk1
  have HVL := Aside0.mk hvl
  have HRV := Aside0.mk hrv
  have HCV := Aside0.mk hcv
  clear hX hXn hXo hk1 hvl hrv hcv ho hl
  go_enter Tryz.func16, Tryz.ntmps16
  go_wp2_with (go_at_call 48; refine (paronymref02_Lines.calls k1 _ _ _ HK1.out).mono ?_; rintro e w1 ⟨v1, rfl, hs, hb⟩
               obtain ⟨Aw, cw, e, hcw, hCw⟩ := Kd.R_reads (Kd.S_R hs)
               rw [List.length_map] at e hcw hCw
               subst e
               have HB1 := Aside0.mk hb
               have HCW := Aside0.mk hcw
               have HW := Aside0.mk hCw
               clear hs hb hcw hCw)
  go_loopg [8, 9] (X.length + 1) (fun kq v8 v9 wr => ∃ (i : Nat) (l : List S83), v9 = .int .i64 (i : Int) ∧ Aside0 (i + kq = X.length + 1 ∧ i ≤ X.length ∧ l.length ≤ i) ∧ Aside0 ((newR [] l).1 = 0 ∧ ppGo vs (X.drop i) (newR [] l).2 = ppGo vs X []) ∧ Aside0 (Kd.R k93 93 wr w1.heap.size (fun _ => True) v8 (l.map c53)) ∧ Aside0 (Below w.heap.size w wr) ∧ Aside0 (Below w1.heap.size w1 wr))
  case atStart => exact ⟨0, [], rfl, ⟨by omega, by omega, by simp⟩, ⟨rfl, rfl⟩, ⟨Kd.R_nil _ _ _ _ _⟩, HB1, ⟨Below.refl _ _⟩⟩
  case round =>
    obtain ⟨i, l, rfl, HI, HP, HO8, HB, HBW⟩ := hrel
    cases gk with
    | zero => exact absurd HI.out (by omega)
    | succ kq =>
      have hO8 := HO8.out
      obtain ⟨A8, c8, hv8⟩ := Kd.R_slice hO8
      rw [List.length_map] at hv8
      subst hv8
      clear hO8
      by_cases c1 : (i : Int) < (X.length : Int)
      · have hil : i < X.length := by omega
        have b0 : 0 ≤ (i : Int) := by omega
        obtain ⟨ad, A1, n1, e1, hx0, hx1, hl1, hC1⟩ := at_T90 (Kd.C_below (by rw [← @List.length_map _ _ X toS] at HW; exact HW.out) HBW.out) (i : Int) b0 (by rw [List.length_map]; exact c1)
        have hx : X[i]? = some X[i] := List.getElem?_eq_getElem hil
        have hrd : rd_T90 (X.map toS) (i : Int) = toS X[i] := by
          unfold rd_T90
          rw [Int.toNat_natCast, List.getD_eq_getElem?_getD, List.getElem?_map, hx]; rfl
        rw [hrd] at hx0 hx1 hl1 hC1
        have hdrop : X.drop i = X[i] :: X.drop (i + 1) := List.drop_eq_getElem_cons hil
        have hmem : X[i] ∈ X := List.getElem_mem hil
        obtain ⟨x, hxe⟩ : ∃ x, x = X[i] := ⟨_, rfl⟩
        rw [← hxe] at hx0 hx1 hl1 hC1 hdrop hmem
        obtain ⟨x1, xf⟩ := x
        have hfo := HXO.out _ hmem
        have hgo := HP.out.2
        rw [hdrop] at hgo
        have hln : (toS (x1, xf)).f1.length = xf.length := List.length_map ..
        rw [hln] at hx1 hl1 hC1
        have hx0 : wr.cell? (ad.add (i * 2)) = some (.int .i64 x1) := by rw [Int.toNat_natCast] at hx0; exact hx0
        have hx1 : wr.cell? ⟨(ad.add (i * 2)).block, (ad.add (i * 2)).off + 1, none⟩ = some (.slice A1 xf.length n1) := by rw [Int.toNat_natCast] at hx1; exact hx1
        have hC1 : Kd.C Kd.string wr A1 xf.length (xf.map strOfNums) := hC1
        cases e1
        have HX0 := Aside0.mk hx0
        have HFO := Aside0.mk hfo
        have HGO := Aside0.mk hgo
        have HIL := Aside0.mk hil
        have e0 := eq_true c1
        have e2 : decide ((i : Int) < (X.length : Int)) = true := decide_eq_true c1
        have e3 : (0 ≤ (i : Int)) = True := eq_true b0
        have e2n : (i < X.length) = True := eq_true hil
        clear hx hrd hdrop hmem hxe hfo hgo hln hl1 c1 b0 hil
        by_cases c2 : xf.length < 2
        · have f0 : decide ((xf.length : Int) < 2) = true := decide_eq_true (by omega)
          have f1 : decide (xf.length < 2) = true := decide_eq_true c2
          have hie : ppS vs xf = .inl 12 := ppS_short c2
          have HIE := Aside0.mk hie
          clear c2 hie hC1
          go_wp2
          repeat (go_quiet (fail); try go_wp2)
          go_ret3
          rw [← HGO.out, ppGo_err (x := (x1, xf)) HIE.out]
          exact ⟨_, rfl, Kd.R_nil _ _ _ _ _, (by repeat (first | (with_reducible first | exact HB.out | apply below_alloc | apply pw_below_drewN | apply below_drew1) | exact HB.out))⟩
        · have f0 : decide ((xf.length : Int) < 2) = false := decide_eq_false (by omega)
          have f1 : decide (xf.length < 2) = false := decide_eq_false c2
          have hf3 : ∃ a b r, xf = a :: b :: r := by
            match xf, c2 with
            | [], h => simp at h
            | [a], h => simp at h
            | a :: b :: r, _ => exact ⟨a, b, r, rfl⟩
          obtain ⟨a, b, r, hxf⟩ := hf3
          obtain ⟨ad1, rfl, hcs⟩ := strs_cell hC1 (by omega)
          have h0 : wr.cell? ad1 = some (.string (strOfNums a)) := by have := hcs 0 (by omega); rw [Addr.add_zero'] at this; simp only [hxf] at this; exact this
          have h1 : wr.cell? (ad1.add 1) = some (.string (strOfNums b)) := by have := hcs 1 (by omega); simp only [hxf] at this; exact this
          simp only [Nat.reduceEqDiff, Go.Addr.add, ↓reduceIte] at h1
          have H1 := Aside0.mk h1
          have hfa := HFO.out a (by rw [hxf]; simp)
          have e5 : (0 < xf.length) = True := eq_true (by omega)
          have e6 : (1 < xf.length) = True := eq_true (by omega)
          have e5i : ((0 : Int) < (xf.length : Int)) = True := eq_true (by omega)
          have e6i : ((1 : Int) < (xf.length : Int)) = True := eq_true (by omega)
          obtain ⟨kr, hkr⟩ := (refRange_ev hfa.1 (by have := hfa.2; omega)).rounds
          obtain ⟨a0, ha0⟩ : ∃ a0, a0 = (rangeL a).1 := ⟨_, rfl⟩
          obtain ⟨b0, hb0⟩ : ∃ b0, b0 = (rangeL a).2.1 := ⟨_, rfl⟩
          obtain ⟨er, her⟩ : ∃ er, er = (rangeL a).2.2 := ⟨_, rfl⟩
          have hkr2 : paronymref02_Range.f kr (strOfNums a) = some (a0, b0, er) := by rw [hkr, ha0, hb0, her]
          have HKR := Aside0.mk hkr2
          have HA0 := Aside0.mk ha0
          have HB0 := Aside0.mk hb0
          have HER := Aside0.mk her
          have HXF := Aside0.mk hxf
          clear c2 hC1 hcs hfa hkr hkr2 ha0 hb0 her hxf h1
          by_cases c3 : er = 0
          · have HC3 : Aside0 ((rangeL a).2.2 = 0) := ⟨by rw [← HER.out]; exact c3⟩
            subst c3
            by_cases c4 : b = []
            · have hie : ppS vs xf = .inl 16 := by rw [HXF.out, c4]; exact ppS_empty HC3.out
              have HIE := Aside0.mk hie
              have g1 : (strOfNums b).toList = ([] : List UInt8) := str_nilU.2 c4
              have g2 : ((strOfNums b).toList == ([] : List UInt8)) = true := beq_iff_eq.mpr g1
              have g3 : (strOfNums b).toList.isEmpty = true := by rw [g1]; rfl
              clear hie c4
              go_wp2_with (go_at_call 49; (with_reducible refine (paronymref02_Range.calls kr _ _ _ _ _ HKR.out).mono ?_); rintro e w2 ⟨rfl, hb⟩; have h1 := (hb.cell (World.block_lt_of_cell? wr _ H1.out)).trans H1.out; have hx0 := (hb.cell (World.block_lt_of_cell? wr _ HX0.out)).trans HX0.out; have hx1 := (hb.cell (World.block_lt_of_cell? wr _ hx1)).trans hx1; have HB := Aside0.mk (HB.out.trans (hb.mono HB.out.size)); clear hb)
              repeat (go_quiet (fail); try go_wp2)
              go_ret3
              rw [← HGO.out, ppGo_err (x := (x1, xf)) HIE.out]
              exact ⟨_, rfl, Kd.R_nil _ _ _ _ _, (by repeat (first | (with_reducible first | exact HB.out | apply below_alloc | apply pw_below_drewN | apply below_drew1) | exact HB.out))⟩
            · have g1 : ¬ (strOfNums b).toList = ([] : List UInt8) := fun h => c4 (str_nilU.1 h)
              have g2 : ((strOfNums b).toList == ([] : List UInt8)) = false := beq_eq_false_iff_ne.mpr g1
              have g3 : (strOfNums b).toList.isEmpty = false := by
                cases hv' : (strOfNums b).toList with
                | nil => exact absurd hv' g1
                | cons _ _ => rfl
              have HC4 := Aside0.mk c4
              obtain ⟨v, hv⟩ : ∃ v, v = strOfNums b := ⟨_, rfl⟩
              rw [← hv] at g1 g2 g3 H1
              have HV := Aside0.mk hv
              clear c4 hv
              go_wp2_with (go_at_call 49; (with_reducible refine (paronymref02_Range.calls kr _ _ _ _ _ HKR.out).mono ?_); rintro e w2 ⟨rfl, hb⟩; have h1 := (hb.cell (World.block_lt_of_cell? wr _ H1.out)).trans H1.out; have HB2 := Aside0.mk hb; have HB := Aside0.mk (HB.out.trans (hb.mono HB.out.size)); clear hb)
              have HX2 := Aside0.mk ((HB2.out.cell (World.block_lt_of_cell? wr _ HX0.out)).trans HX0.out)
              have HO2 := Aside0.mk (Kd.R_below HO8.out HB2.out)
              have HW2 := Aside0.mk (HBW.out.trans (HB2.out.mono HBW.out.size))
              have hb0 : ((vs.length : Int) == 0) = vs.isEmpty := by cases vs <;> simp <;> omega
              have hb1 : decide ((vs.length : Int) = 0) = vs.isEmpty := by cases vs <;> simp <;> omega
              have hb2 : (vs.length == 0) = vs.isEmpty := by cases vs <;> simp
              have hb3 : decide (vs.length = 0) = vs.isEmpty := by cases vs <;> simp
              go_loopg [14, 15] (vs.length + 1) (fun kq2 v14 v15 wr2 => ∃ (j : Nat), v15 = .int .i64 (j : Int) ∧ v14 = .bool (vs.isEmpty || (vs.take j).any (fun x => x.toList == v.toList)) ∧ Aside0 (j + kq2 = vs.length + 1 ∧ j ≤ vs.length) ∧ Aside0 (Below w2.heap.size w2 wr2))
              case atStart => exact ⟨0, rfl, by simp [hb0], ⟨by omega, by omega⟩, ⟨by repeat (first | exact Below.refl _ _ | apply below_alloc | apply pw_below_drewN | apply below_drew1)⟩⟩
              case round =>
                clear hb0 hb1 hb2 hb3
                obtain ⟨j, rfl, rfl, HJ, HBJ⟩ := hrel
                cases gk with
                | zero => exact absurd HJ.out (by omega)
                | succ kq3 =>
                  have h1 := (HBJ.out.cell (World.block_lt_of_cell? w2 _ h1)).trans h1
                  by_cases c5 : (j : Int) < (vs.length : Int)
                  · have hjl : j < vs.length := by omega
                    have hbw := HB.out.trans (HBJ.out.mono HB.out.size)
                    obtain ⟨adv, ev, hxv⟩ := Kd.at_string (Kd.C_below HRV.out hbw) (j : Int) (by omega) c5
                    cases ev
                    rw [rdOfB vs j hjl, Int.toNat_natCast] at hxv
                    have htk : ∀ p : ByteArray → Bool, (vs.take (j + 1)).any p = ((vs.take j).any p || p vs[j]) := fun p => by
                      rw [List.take_succ_eq_append_getElem hjl, List.any_append]; simp
                    have hnx := htk (fun x => x.toList == v.toList)
                    obtain ⟨u, hu⟩ : ∃ u, u = vs[j] := ⟨_, rfl⟩
                    rw [← hu] at hxv hnx
                    obtain ⟨cur, hcur⟩ : ∃ cur, cur = (vs.isEmpty || (vs.take j).any (fun x => x.toList == v.toList)) := ⟨_, rfl⟩
                    have hnx2 : (vs.isEmpty || (vs.take (j + 1)).any (fun x => x.toList == v.toList)) = (cur || (u.toList == v.toList)) := by rw [hnx, hcur, Bool.or_assoc]
                    rw [← hcur]
                    have HNX := Aside0.mk hnx2
                    have HJL := Aside0.mk hjl
                    have b9 : (j : Int) ≤ 1000000 := by have := HVL.out; omega
                    have e7 := eq_true c5
                    have e8 : decide ((j : Int) < (vs.length : Int)) = true := decide_eq_true c5
                    have e9 : (0 ≤ (j : Int)) = True := eq_true (by omega)
                    have e10 : (j < vs.length) = True := eq_true hjl
                    clear c5 hjl hbw htk hnx hu hcur hnx2
                    cases cur with
                    | true =>
                      go_wp2
                      repeat (go_quiet (fail); try go_wp2)
                      go_roundg kq3
                      case measure => omega
                      case rel => exact ⟨j + 1, by first | rfl | go_num, by first | (rw [HNX.out]; rfl) | (rw [HNX.out]; simp), ⟨by have := HJ.out; omega, HJL.out⟩, ⟨(by repeat (first | (with_reducible first | exact HBJ.out | apply below_alloc | apply pw_below_drewN | apply below_drew1) | exact HBJ.out))⟩⟩
                    | false =>
                      cases huv : (u.toList == v.toList) with
                      | true =>
                        have k1 := beq_iff_eq.mp huv
                        have HU := Aside0.mk huv
                        go_wp2
                        repeat (go_quiet (fail); try go_wp2)
                        go_roundg kq3
                        case measure => omega
                        case rel => exact ⟨j + 1, by first | rfl | go_num, by rw [HNX.out, HU.out]; rfl, ⟨by have := HJ.out; omega, HJL.out⟩, ⟨(by repeat (first | (with_reducible first | exact HBJ.out | apply below_alloc | apply pw_below_drewN | apply below_drew1) | exact HBJ.out))⟩⟩
                      | false =>
                        have HU := Aside0.mk huv
                        go_wp2
                        repeat (go_quiet (fail); try go_wp2)
                        go_roundg kq3
                        case measure => omega
                        case rel => exact ⟨j + 1, by first | rfl | go_num, by rw [HNX.out, HU.out]; rfl, ⟨by have := HJ.out; omega, HJL.out⟩, ⟨(by repeat (first | (with_reducible first | exact HBJ.out | apply below_alloc | apply pw_below_drewN | apply below_drew1) | exact HBJ.out))⟩⟩
                  · have hjl : j = vs.length := by have := HJ.out; omega
                    have e7 := eq_false c5
                    have e8 : decide ((j : Int) < (vs.length : Int)) = false := decide_eq_false c5
                    have hall : (vs.isEmpty || (vs.take j).any (fun x => x.toList == v.toList)) = amongB vs v := by rw [hjl, List.take_length]; rfl
                    have hbw := HB.out.trans (HBJ.out.mono HB.out.size)
                    have HBW2 := Aside0.mk hbw
                    have hbl : (i : Int) ≤ 50001 := by have := HXN.out; have := HIL.out; omega
                    have hx0 := (HBJ.out.cell (World.block_lt_of_cell? w2 _ HX2.out)).trans HX2.out
                    rw [hall]
                    clear hjl c5 hall hbw
                    cases ham : amongB vs v with
                    | false =>
                      have hsk : ppS vs xf = .inr none := by rw [HXF.out]; exact ppS_out HC3.out HC4.out (by rw [← HV.out]; exact ham)
                      have HSK := Aside0.mk hsk
                      clear ham hsk
                      go_wp2
                      go_roundg kq
                      case measure => omega
                      case rel => exact ⟨i + 1, l, by first | rfl | go_num, ⟨by have := HI.out; omega, HIL.out, by have := HI.out; omega⟩, ⟨HP.out.1, by rw [← HGO.out, ppGo_skip (x := (x1, xf)) HSK.out]⟩, ⟨Kd.R_below HO2.out HBJ.out⟩, ⟨HBW2.out⟩, ⟨HW2.out.trans (HBJ.out.mono HW2.out.size)⟩⟩
                    | true =>
                      obtain ⟨s, hs⟩ : ∃ s : S83, s = ⟨a0, b0, v⟩ := ⟨_, rfl⟩
                      have hin : ppS vs xf = .inr (some s) := by rw [HXF.out, hs, HA0.out, HB0.out, HV.out]; exact ppS_in HC3.out HC4.out (by rw [← HV.out]; exact ham)
                      have HIN := Aside0.mk hin
                      have hec : errOf l s = (addR (newR [] l).2 s).1 := err_came HP.out.1 s
                      obtain ⟨kc, hkc⟩ := (check_ev (L := l) (by have := HI.out; have := HXN.out; omega) s).rounds
                      rw [hec] at hkc
                      obtain ⟨e9, he9⟩ : ∃ e9, e9 = (addR (newR [] l).2 s).1 := ⟨_, rfl⟩
                      rw [← he9, hs] at hkc
                      have HKC := Aside0.mk hkc
                      have HE9 := Aside0.mk he9
                      have HSS := Aside0.mk hs
                      have HC8 : Aside0 (Kd.C k93 wr A8 l.length (l.map c53)) := ⟨by have := (Kd.R_reads' (Kd.R_below HO2.out HBJ.out)).2.2; rw [List.length_map] at this; exact this⟩
                      have Hc8 : Aside0 (l.length ≤ c8) := ⟨(Kd.R_reads' HO8.out).2.1⟩
                      clear ham hin hec hkc he9 hs
                      have HW25 := Aside0.mk (HW2.out.trans (HBJ.out.mono HW2.out.size))
                      by_cases c6 : e9 = 0
                      · have HC6 := Aside0.mk c6
                        subst c6
                        go_wp2_with (first
                          | (go_at_call 50; (with_reducible refine (refCheck.calls kc A8 c8 l.length (l.map c53) _ _ _ _ _ (Kd.C_alloc HC8.out _) (by rw [List.length_map]) Hc8.out HKC.out).mono ?_); rintro e w5 ⟨rfl, hb⟩
                             have hb5 := ((Below.refl wr.heap.size wr).alloc (Nat.le_refl _) (.cells #[.int .i64 a0, .int .i64 b0, .string v] 93)).trans (hb.mono (by simp))
                             have hc5 : C3 93 w5 wr.heap.size (.int .i64 a0) (.int .i64 b0) (.string v) := (hb.block _ (by simp)).trans (heap_alloc_new wr _)
                             obtain ⟨y0, y1, y2⟩ := hc5.cells
                             have HB5 := Aside0.mk hb5
                             have HO5 := Aside0.mk (Kd.R_below (Kd.R_below HO2.out HBJ.out) hb5)
                             clear hb hb5 hc5)
                          | ((with_reducible refine gate_builtin (b := .append) (xs := #[.tmp 102, .tmp 104]) rfl ?_); at_builtin
                             refine Kd.R_append k93 (w0 := w1) w1.heap.size rfl (.tmp 102) (.tmp 104) 30 93 (.agg #[(.int .i64 0), (.int .i64 0), (.string ⟨#[]⟩)]) 32 rfl Tryz.underlying30 info93 rfl (by decide) (by omega) (.slice A8 l.length c8) (l.map c53) (⟨a0, b0, v⟩ : S93) [.int .i64 a0, .int .i64 b0, .string v] (fun _ => True) (fun _ => False) rfl rfl ?aP (fun _ hk => hk.elim) (fun _ _ => trivial) HO5.out (HW25.out.trans (HB5.out.mono HW25.out.size)) (Nat.le_trans HW25.out.size HB5.out.size) ?aL ?_
                             (case aP => exact k93_mkM _ _ _ (⟨a0, b0, v⟩ : S93))
                             (case aL => have := HI.out; have := HXN.out; rw [List.length_map]; omega)
                             intro v6 w6 ho hb hg hat
                             have HO6 := Aside0.mk ho
                             have HB6 := Aside0.mk hb
                             clear ho hb hg hat))
                        go_roundg kq
                        case measure => omega
                        case rel =>
                          refine ⟨i + 1, l ++ [s], by first | rfl | go_num, ⟨by have := HI.out; omega, HIL.out, by rw [List.length_append]; have := HI.out; simp; omega⟩, ⟨?_, ?_⟩, ⟨?_⟩, ⟨HB1.out.trans (HB6.out.mono HB1.out.size)⟩, HB6⟩
                          · rw [newR_snoc HP.out.1 HE9.out.symm]
                          · rw [newR_snoc HP.out.1 HE9.out.symm, ← HGO.out, ppGo_add (x := (x1, xf)) HIN.out HE9.out.symm]
                          · rw [List.map_append, HSS.out]; exact HO6.out
                      · have g4 : (e9 == 0) = false := beq_eq_false_iff_ne.mpr c6
                        have g5 : (e9 != 0) = true := bne_iff_ne.mpr c6
                        have HC6 := Aside0.mk c6
                        clear c6
                        go_wp2_with (go_at_call 50; (with_reducible refine (refCheck.calls kc A8 c8 l.length (l.map c53) _ _ _ _ _ (Kd.C_alloc HC8.out _) (by rw [List.length_map]) Hc8.out HKC.out).mono ?_); rintro e w5 ⟨rfl, hb⟩
                                     have hb5 := ((Below.refl wr.heap.size wr).alloc (Nat.le_refl _) (.cells #[.int .i64 a0, .int .i64 b0, .string v] 93)).trans (hb.mono (by simp))
                                     have hx0 := (hb5.cell (World.block_lt_of_cell? wr _ hx0)).trans hx0
                                     have HB5 := Aside0.mk (HBW2.out.trans (hb5.mono HBW2.out.size))
                                     clear hb hb5)
                        repeat (go_quiet (fail); try go_wp2)
                        go_ret3
                        rw [← HGO.out, ppGo_twice (x := (x1, xf)) HIN.out (by rw [← HE9.out]; exact HC6.out), ← HE9.out]
                        exact ⟨_, rfl, Kd.R_nil _ _ _ _ _, (by repeat (first | (with_reducible first | exact HB5.out | apply below_alloc | apply pw_below_drewN | apply below_drew1) | exact HB5.out))⟩
          · have hie : ppS vs xf = .inl er := by rw [HXF.out, HER.out]; exact ppS_rng (by rw [← HER.out]; exact c3)
            have HIE := Aside0.mk hie
            have g1 : (er == 0) = false := beq_eq_false_iff_ne.mpr c3
            have g2 : (er != 0) = true := bne_iff_ne.mpr c3
            clear hie c3
            go_wp2_with (go_at_call 49; (with_reducible refine (paronymref02_Range.calls kr _ _ _ _ _ HKR.out).mono ?_); rintro e w2 ⟨rfl, hb⟩; have hx0 := (hb.cell (World.block_lt_of_cell? wr _ HX0.out)).trans HX0.out; have hx1 := (hb.cell (World.block_lt_of_cell? wr _ hx1)).trans hx1; have HB := Aside0.mk (HB.out.trans (hb.mono HB.out.size)); clear hb)
            repeat (go_quiet (fail); try go_wp2)
            go_ret3
            rw [← HGO.out, ppGo_err (x := (x1, xf)) HIE.out]
            exact ⟨_, rfl, Kd.R_nil _ _ _ _ _, (by repeat (first | (with_reducible first | exact HB.out | apply below_alloc | apply pw_below_drewN | apply below_drew1) | exact HB.out))⟩
      · have hi : i = X.length := by have := HI.out; omega
        subst hi
        have e0 := eq_false c1
        have e2 : decide ((X.length : Int) < (X.length : Int)) = false := decide_eq_false c1
        have hgo := HP.out.2
        rw [List.drop_length] at hgo
        have hgo2 : ppGo vs X [] = (some (newR [] l).2, 0, 0) := by rw [← hgo]; rfl
        have HGO := Aside0.mk hgo2
        obtain ⟨ks, hks⟩ := (sorted_all (l := l) (by have := HI.out; have := HXN.out; omega) HP.out.1).rounds
        have HKS := Aside0.mk hks
        obtain ⟨_, hc8, hC8⟩ := Kd.R_reads' HO8.out
        have HC8 := Aside0.mk hC8
        have Hc8 := Aside0.mk hc8
        clear hgo hgo2 hks hc8 hC8 c1
        go_wp2
        refine operCall Tryz.func51 (by kernel_rfl) rfl #[.slice A8 l.length c8] rfl (by simp only [List.map_toArray, List.map_cons, List.map_nil]; rfl) ?_
        refine (refSorted.calls ks A8 c8 l.length (l.map c53) _ _ HC8.out (by rw [List.length_map]) (by have := Hc8.out; omega) HKS.out).mono ?_
        rintro e w2 ⟨v2, rfl, hR, hb⟩
        have HR2 := Aside0.mk hR
        have HB2 := Aside0.mk (HB.out.trans (hb.mono HB.out.size))
        have HSZ := Aside0.mk HB.out.size
        clear hb hR
        refine ⟨_, rfl, ?_⟩
        try simp only [List.getElem_toArray, List.getElem_cons_succ, List.getElem_cons_zero, Act.put, List.setIfInBounds_toArray, List.set_cons_zero, List.set_cons_succ]
        go_wp2
        go_ret3
        rw [HGO.out]
        exact ⟨_, rfl, Kd.R_lower HR2.out HSZ.out, HB2.out⟩
end Go.Proofs.YtbpdcbibooiimaaGreatDoor.Q
/- Layer 5: the contracts told at once, whether or not a line is wrong. -/
namespace Go.Proofs.YtbpdcbibooiimaaGreatDoor.Q
open Go.RowKit Go.Shelf Go.Proofs.YtbpdcbibooiimaaGreatDoorW.PrintWords Go.Proofs.YtbpdcbibooiimaaGreatDoorW.PrintLast Go.Proofs.YtbpdcbibooiimaaGreatDoorW.PrintMore Go.Proofs.YtbpdcbibooiimaaGreatDoor.K
theorem ppGo_cases (vs : List ByteArray) : ∀ (X : List (Int × List (List Int))) (acc : List S83), (∃ l, ppGo vs X acc = (some l, 0, 0)) ∨ ∃ e n : Int, e ≠ 0 ∧ ppGo vs X acc = (none, e, n)
  | [], acc => .inl ⟨acc, rfl⟩
  | x :: X, acc => by
    cases h : ppS vs x.2 with
    | inl e => exact .inr ⟨e, x.1, ppS_err h, ppGo_err h⟩
    | inr o =>
      cases o with
      | none => rw [ppGo_skip h]; exact ppGo_cases vs X acc
      | some s =>
        by_cases c : (addR acc s).1 = 0
        · rw [ppGo_add h c]; exact ppGo_cases vs X _
        · exact .inr ⟨_, x.1, c, ppGo_twice h c⟩
def tabL (o : Option (List S83)) : List S83 := o.getD []
theorem ppGo_SpOK (vs : List ByteArray) : ∀ (X : List (Int × List (List Int))) (acc : List S83), SpOK acc → SpOK (tabL (ppGo vs X acc).1) ∧ (tabL (ppGo vs X acc).1).length ≤ acc.length + X.length
  | [], acc, h => ⟨h, Nat.le_refl _⟩
  | x :: X, acc, h => by
    cases hs : ppS vs x.2 with
    | inl e => rw [ppGo_err hs]; exact ⟨SpOK.nil, Nat.zero_le _⟩
    | inr o =>
      cases o with
      | none =>
        rw [ppGo_skip hs]
        have := ppGo_SpOK vs X acc h
        exact ⟨this.1, by simp only [List.length_cons]; omega⟩
      | some s =>
        by_cases c : (addR acc s).1 = 0
        · rw [ppGo_add hs c]
          have := ppGo_SpOK vs X _ (addR_SpOK h c)
          have h2 := (addR_perm h c).length_eq
          exact ⟨this.1, by simp only [List.length_cons] at h2 ⊢; omega⟩
        · rw [ppGo_twice hs c]; exact ⟨SpOK.nil, Nat.zero_le _⟩
theorem tab_nilZ (w : World) : Tab w none [] := .inl ⟨rfl, rfl⟩
section
variable {L : List Int} {vs : List ByteArray}
theorem p5_parse_ok (A : Option Addr) (c : Nat) (ho : Oct L) (hl : L.length ≤ 100000) (Av : Option Addr) (cv : Nat) (hvl : vs.length ≤ 1000000) (w : World) (hE : EnvF w) (hr : Kd.C (Kd.int .u8) w A L.length L) (hc : L.length ≤ c) (hrv : Kd.C Kd.string w Av vs.length vs) (hcv : vs.length ≤ cv)
    {l : List S83} (h : ppGo vs (linesI 0 (spl 10 L)) [] = (some l, 0, 0)) :
    Calls Tryz.prog 15 #[.slice A L.length c, .slice Av vs.length cv] w fun e w' => ∃ g, e = .returned (.tuple #[.pointer (some ⟨g, 0, none⟩), .int .i64 0, .int .i64 0]) ∧ Tab w' (some ⟨g, 0, none⟩) l ∧ SpOK l ∧ Below w.heap.size w w' :=
  (prop_Parse.main A c L ho hl Av cv vs hvl w hE hr hc hrv hcv).mono fun e w' ⟨hb, q, he, hq⟩ => by
    rw [h] at he hq
    obtain ⟨⟨g, rfl⟩, hT, hO⟩ := hq
    exact ⟨g, he, hT, hO, hb⟩
def ppA (vs : List ByteArray) (L : List Int) : Option (List S83) × Int × Int := ppGo vs (linesI 0 (spl 10 L)) []
theorem ppA_len (hl : L.length ≤ 900) : (tabL (ppA vs L).1).length ≤ 1000 := by
  have h1 := (ppGo_SpOK vs (linesI 0 (spl 10 L)) [] SpOK.nil).2
  have h2 := linesI_len (spl 10 L) 0
  have h3 := splP_count (fun x => decide (x = (10 : Int))) L
  unfold spl at h1 h2
  simp only [List.length_nil] at h1
  unfold ppA spl
  omega
theorem ppA_ok : SpOK (tabL (ppA vs L).1) := (ppGo_SpOK vs _ [] SpOK.nil).1
theorem p5_parse (A : Option Addr) (c : Nat) (ho : Oct L) (hl : L.length ≤ 100000) (Av : Option Addr) (cv n : Nat) (hn : vs.length = n) (hvl : n ≤ 1000000) (w : World) (hE : EnvF w) (hr : Kd.C (Kd.int .u8) w A L.length L) (hc : L.length ≤ c) (hrv : Kd.C Kd.string w Av n vs) (hcv : n ≤ cv) :
    Calls Tryz.prog 15 #[.slice A L.length c, .slice Av n cv] w fun e w' => ∃ q, e = .returned (.tuple #[.pointer q, .int .i64 (ppA vs L).2.1, .int .i64 (ppA vs L).2.2]) ∧ Tab w' q (tabL (ppA vs L).1) ∧ ((ppA vs L).1 = none → q = none) ∧ Below w.heap.size w w' := by
  subst hn
  refine (prop_Parse.main A c L ho hl Av cv vs hvl w hE hr hc hrv hcv).mono fun e w' ⟨hb, q, he, hq⟩ => ⟨q, he, ?_, ?_, hb⟩
  · unfold ppA
    cases h : (ppGo vs (linesI 0 (spl 10 L)) []).1 with
    | none =>
      rw [h] at hq
      have hq : q = none := hq
      subst hq
      exact tab_nilZ w'
    | some l => rw [h] at hq; exact hq.2.1
  · unfold ppA
    intro h
    rw [h] at hq
    exact hq
theorem p5_parse0 (A : Option Addr) (c : Nat) (ho : Oct L) (hl : L.length ≤ 100000) (w : World) (hE : EnvF w) (hr : Kd.C (Kd.int .u8) w A L.length L) (hc : L.length ≤ c) :
    Calls Tryz.prog 15 #[.slice A L.length c, .slice none 0 0] w fun e w' => ∃ q, e = .returned (.tuple #[.pointer q, .int .i64 (ppA [] L).2.1, .int .i64 (ppA [] L).2.2]) ∧ Tab w' q (tabL (ppA [] L).1) ∧ ((ppA [] L).1 = none → q = none) ∧ Below w.heap.size w w' :=
  p5_parse A c ho hl none 0 0 rfl (by omega) w hE hr hc (Kd.C_nil _ _) (Nat.le_refl _)
theorem p5_ref0 (ho : Oct L) (hl : L.length ≤ 50000) (w : World) {M : List S93} (hM : M = (tabL (ppA [] L).1).map c53) :
    Calls Tryz.prog 16 #[.string (strOfNums L), .slice none 0 0] w fun e w' => ∃ A' c', e = .returned (.tuple #[.slice A' M.length c', .int .i64 (ppA [] L).2.1, .int .i64 (ppA [] L).2.2]) ∧ M.length ≤ c' ∧ Kd.C k93 w' A' M.length M ∧ Below w.heap.size w w' :=
  (refParse5.calls L ho hl none 0 [] (by simp) w (Kd.C_nil _ _) (Nat.le_refl _)).mono fun e w' ⟨v, he, hR, hb⟩ => by
    have hR : Kd.R k93 93 w' w.heap.size (fun _ => True) v M := by
      have e2 : M = prfL (ppGo [] (linesI 0 (spl 10 L)) []).1 := by
        rw [hM]
        unfold ppA
        cases (ppGo [] (linesI 0 (spl 10 L)) []).1 <;> rfl
      rw [e2]; exact hR
    obtain ⟨A', c', rfl, h1, h2⟩ := Kd.R_reads hR
    exact ⟨A', c', he, h1, h2, hb⟩
end
end Go.Proofs.YtbpdcbibooiimaaGreatDoor.Q
namespace Go.Proofs.YtbpdcbibooiimaaGreatDoor.Q
open Go.RowKit Go.Proofs.YtbpdcbibooiimaaGreatDoorW.PrintWords Go.Proofs.YtbpdcbibooiimaaGreatDoorW.PrintLast Go.Proofs.YtbpdcbibooiimaaGreatDoorW.PrintMore
def bytesLit.f (l : List Int) : Option (List Int) := some l
theorem bytesLit.cells {W : World} {e : Nat} {xs : List Int} {C : Array Value} {p : Nat × Nat} {g : Nat} (hC : C = (xs.map (Value.int .u8)).toArray) (hl : xs.length ≤ 9223372036854775807) (h : W.heap[g]? = some (.cells C e p)) :
    Kd.C (Kd.int .u8) W (some ⟨g, 0, none⟩) xs.length xs := by
  refine Kd.C_of_reads (d := (0 : Int)) ⟨rfl, hl, fun _ => ⟨_, rfl, fun j hj => ?_⟩⟩
  rw [add_plain, cell_of_row W g j C e p h, hC]
  simp [List.getD_eq_getElem?_getD, List.getElem?_eq_getElem hj]
theorem bytesLit.step {P : Program} {W : World} {ops : Array Oper} {rest : List Oper} {o : Oper} {a : Act} {Q : Exit → Act → World → Prop} {C : Array Value} {n c : Nat} (t e : TypeId) (s : Operand) (xs r : List Int) (h : bytesLit.f xs = some r)
    (hgd : o.guard = none) (hop : o.op = .convert t t s) (hs : a.eval s = .slice (some ⟨W.heap.size, 0, none⟩) n c) (ht : P.underlying t = some (.slice e)) (he : P.underlying e = some (.int .u8))
    (hC : C = (xs.map (Value.int .u8)).toArray) (hn : n = xs.length) (hc : n ≤ c) (hl : xs.length ≤ 9223372036854775807)
    (hk : ∀ v w1, Kd.V (Kd.int .u8) e w1 W.heap.size (fun k => W.heap.size ≤ k) v r → Below W.heap.size W w1 → wpList P ops Q rest (a.put o.dst v) w1) :
    wpList P ops Q (o :: rest) a (W.alloc (.cells C e)) := by
  obtain rfl := Option.some.inj h
  have hr := Lib.run_convert_bytes_const (P := P) W t e C n c ht he
  refine wpList_plain hgd fun K hK => ?_
  unfold Oper.wp execOp
  simp only [hop, hs]
  have hr2 : (do let v ← convert t t (.slice (some ⟨W.heap.size, 0, none⟩) n c); pure (Next.value v) : Sem Next).run P (W.alloc (.cells C e)) = .ok (.value (.slice (some ⟨W.heap.size, 0, none⟩) n c)) (W.alloc (.cells C e (C.size, C.size + 1))) := by
    rw [Sem.run_bind, hr]; rfl
  first | rw [hr2] | (simp only [Sem.run_bind, hr, Sem.run_pure, Result.andThen_ok]) 
  refine hK _ _ (hk _ _ ?_ ((Below.refl _ W).alloc (Nat.le_refl _) _))
  subst hn
  refine Kd.V_mk hc (fun W' hW => ?_)
  refine bytesLit.cells hC hl (e := e) (p := (C.size, C.size + 1)) ?_
  rw [hW W.heap.size (Nat.le_refl _) (by simp)]
  exact heap_alloc_new W _
end Go.Proofs.YtbpdcbibooiimaaGreatDoor.Q
/- Layer 5's law: awake. -/
namespace Go.Proofs.YtbpdcbibooiimaaGreatDoor.Q
open Go.RowKit Go.Shelf Go.Proofs.YtbpdcbibooiimaaGreatDoorW.PrintWords Go.Proofs.YtbpdcbibooiimaaGreatDoorW.PrintLast Go.Proofs.YtbpdcbibooiimaaGreatDoorW.PrintMore Go.Proofs.YtbpdcbibooiimaaGreatDoor.K
def aw5L : List Int := [48, 48, 54, 49, 46, 46, 48, 48, 54, 51, 32, 59, 32, 80, 86, 65, 76, 73, 68, 10, 48, 48, 54, 52, 32, 59, 32, 68, 73, 83, 65, 76, 76, 79, 87, 69, 68, 10]
def aw5R : List Int := [48, 48, 54, 49, 46, 46, 48, 48, 54, 51]
def aw5Q : List Int := [48, 48, 54, 52]
def aw5P : List Int := [80, 86, 65, 76, 73, 68]
def aw5D : List Int := [68, 73, 83, 65, 76, 76, 79, 87, 69, 68]
def aw5V : ByteArray := ⟨#[80, 86, 65, 76, 73, 68]⟩
theorem aw5L_oct : Oct aw5L := fun x hx => by simp only [aw5L, List.mem_cons, List.not_mem_nil, or_false] at hx; omega
theorem hexT97 : hexT 97 = [48, 48, 54, 49] := by
  unfold hexT
  rw [hexL_step (by omega), hexL_one (by omega)]
  decide
theorem hexT99 : hexT 99 = [48, 48, 54, 51] := by
  unfold hexT
  rw [hexL_step (by omega), hexL_one (by omega)]
  decide
theorem hexT100 : hexT 100 = [48, 48, 54, 52] := by
  unfold hexT
  rw [hexL_step (by omega), hexL_one (by omega)]
  decide
theorem aw5_range : rangeL aw5R = (97, 99, 0) := by
  have hd : dots aw5R = some 4 := by decide
  have h1 : pointL (aw5R.take 4) = some 97 := by
    rw [pointL_is, if_neg (by decide), show valF 0 (aw5R.take 4) = some 97 from by decide]
    unfold endP
    simp only
    rw [if_neg (by decide), if_pos (by rw [hexT97]; decide)]
  have h2 : pointL (aw5R.drop (4 + 2)) = some 99 := by
    rw [pointL_is, if_neg (by decide), show valF 0 (aw5R.drop (4 + 2)) = some 99 from by decide]
    unfold endP
    simp only
    rw [if_neg (by decide), if_pos (by rw [hexT99]; decide)]
  unfold rangeL
  rw [hd]
  simp only
  rw [h1, h2]
  decide
theorem aw5_range2 : rangeL aw5Q = (100, 100, 0) := by
  have hd : dots aw5Q = none := by decide
  have h1 : pointL aw5Q = some 100 := by
    rw [pointL_is, if_neg (by decide), show valF 0 aw5Q = some 100 from by decide]
    unfold endP
    simp only
    rw [if_neg (by decide), if_pos (by rw [hexT100]; decide)]
  unfold rangeL
  rw [hd]
  simp only
  rw [h1]
  try decide
theorem aw5_lines : linesI 0 (spl 10 aw5L) = [(1, [aw5R, aw5P]), (2, [aw5Q, aw5D])] := by decide +kernel
theorem aw5_V : strOfNums aw5P = aw5V := by rfl
theorem aw5_S1 : ppS [aw5V] [aw5R, aw5P] = .inr (some ⟨97, 99, aw5V⟩) := by
  have := ppS_in (vs := [aw5V]) (a := aw5R) (b := aw5P) (r := []) (by rw [aw5_range]) (by decide) (by rw [aw5_V]; unfold amongB; simp)
  rw [aw5_range, aw5_V] at this
  exact this
theorem aw5_S2 : ppS [aw5V] [aw5Q, aw5D] = .inr none := ppS_out (by rw [aw5_range2]) (by decide) (by unfold amongB; decide +kernel)
theorem aw5_valid : valid ⟨97, 99, aw5V⟩ := ⟨by decide, by decide, by decide, by rw [ba_toList]; decide⟩
theorem aw5_ok : SpOK [⟨97, 99, aw5V⟩] := ⟨List.pairwise_singleton _ _, fun s hs => by rw [List.mem_singleton.1 hs]; exact aw5_valid⟩
theorem aw5_add : addR [] ⟨97, 99, aw5V⟩ = (0, [⟨97, 99, aw5V⟩]) := by
  have h := addR_zero SpOK.nil aw5_valid (fun t ht => by cases ht)
  obtain ⟨h1, _, _⟩ := addR_ok SpOK.nil h
  exact Prod.ext h (by rw [h1]; rfl)
theorem aw5_go : ppGo [aw5V] (linesI 0 (spl 10 aw5L)) [] = (some [⟨97, 99, aw5V⟩], 0, 0) := by
  rw [aw5_lines, ppGo_add (x := (1, [aw5R, aw5P])) aw5_S1 (by rw [aw5_add]), aw5_add, ppGo_skip (x := (2, [aw5Q, aw5D])) aw5_S2]
  rfl
theorem aw5_v1 : valR [⟨97, 99, aw5V⟩] 98 = aw5V := valR_in (i := 0) aw5_ok (by simp) (by simp) (by simp)
theorem aw5_v2 : valR [⟨97, 99, aw5V⟩] 100 = ⟨#[]⟩ := valR_out aw5_ok (fun s hs h => by rw [List.mem_singleton.1 hs] at h; simp at h)
theorem strsB_row {W : World} {g : Nat} {X : List ByteArray} (h : W.heap[g]? = some (.cells (X.map Value.string).toArray 9 (0, 0))) (hl : X.length ≤ 1000000) : Kd.C Kd.string W (some ⟨g, 0, none⟩) X.length X := by
  refine ⟨rfl, by omega, fun _ => ⟨⟨g, 0, none⟩, rfl, fun j q hj => ⟨_, rfl, rfl, fun i u hu => ?_⟩⟩⟩
  have hi : i = 0 := by
    cases i with
    | zero => rfl
    | succ i => simp at hu
  subst hi
  simp only [List.getElem?_cons_zero, Option.some.injEq] at hu
  subst hu
  rw [Addr.add_lit]
  simp only [World.cell?]
  rw [h]
  show ((X.map Value.string).toArray)[0 + (j * 1 + 0)]? = _
  simp [hj]
theorem p5_value (p : Option Addr) (L : List S83) (c : Int) (r : ByteArray) (hr : valR L c = r) (w : World) (hT : Tab w p L) (hl : L.length ≤ 1000000) (hL : SpOK L) :
    Calls Tryz.prog 42 #[.pointer p, .int .i64 c] w fun e w' => e = .returned (.string r) ∧ Below w.heap.size w w' := by
  subst hr
  obtain ⟨k, hk⟩ := (value_ev hl hL c).rounds
  exact span_Value.calls k p L c _ w hT hk
set_option maxHeartbeats 4000000 in
set_option maxRecDepth 100000 in
theorem paronymlaw05_awake.calls0 (w : World) (hE : EnvF w) : Calls Tryz.prog 13 #[] w fun e w' => e = .returned (.bool true) ∧ Below w.heap.size w w' := by
  have HE := Aside0.mk hE
  have gv : aw5V.toList = [80, 86, 65, 76, 73, 68] := by rw [ba_toList]; rfl
  have gw : (aw5V.toList == [80, 86, 65, 76, 73, 68]) = true := beq_iff_eq.mpr gv
  clear hE
  go_enter Tryz.func13, Tryz.ntmps13
  go_wp2_with (first
    | ((with_reducible refine gate_dst (N := 6) rfl ?_); (try (refine gate_guard (by rfl) ?_; dsimp only)); refine bytesLit.step 22 5 _ aw5L aw5L rfl rfl rfl (by rfl) Tryz.underlying22 Tryz.underlying5 rfl rfl (by decide) (by decide) ?_; intro v1 w2 hv1 hb2; have HV1 := Aside0.mk hv1; have HB2 := Aside0.mk hb2; clear hv1 hb2)
    | (go_at_call 15
       obtain ⟨A1, c1, rfl⟩ := Kd.V_slice HV1.out
       obtain ⟨-, hc1, hC1⟩ := Kd.V_reads' HV1.out
       have hb3 : Below w.heap.size w (w2.alloc (.cells #[.string aw5V] 9)) := HB2.out.alloc HB2.out.size _
       refine (p5_parse_ok (L := aw5L) (vs := [aw5V]) A1 c1 aw5L_oct (by decide) (some ⟨w2.heap.size, 0, none⟩) 1 (by simp) (w2.alloc (.cells #[.string aw5V] 9)) (HE.out.below hb3) (Kd.C_alloc hC1 _) hc1 (strsB_row (heap_alloc_new w2 _) (by simp)) (Nat.le_refl _) aw5_go).mono ?_
       rintro e w4 ⟨g, rfl, hT, hO, hb⟩
       have HT := Aside0.mk hT
       have HB4 := Aside0.mk (hb3.trans (hb.mono hb3.size))
       clear hc1 hC1 hb3 hT hO hb)
    | (go_at_call 41; refine (span_Len.calls _ _ _ HT.out).mono ?_; rintro e w5 ⟨rfl, rfl⟩; have HT5 := HT; have HB5 := HB4)
    | (go_at_call 42; (with_reducible refine (p5_value _ _ 98 aw5V aw5_v1 _ HT5.out (by simp) aw5_ok).mono ?_); rintro e w6 ⟨rfl, hb⟩; have HT6 := Aside0.mk (HT5.out.below hb); have HB6 := Aside0.mk (HB5.out.trans (hb.mono HB5.out.size)); clear hb)
    | (go_at_call 42; (with_reducible refine (p5_value _ _ 100 ⟨#[]⟩ aw5_v2 _ HT6.out (by simp) aw5_ok).mono ?_); rintro e w7 ⟨rfl, hb⟩; have HB7 := Aside0.mk (HB6.out.trans (hb.mono HB6.out.size)); clear hb))
  go_ret
  exact ⟨rfl, HB7.out⟩
end Go.Proofs.YtbpdcbibooiimaaGreatDoor.Q
/- span: slices.Values at []Span, and Table.All. -/
namespace Go.Proofs.YtbpdcbibooiimaaGreatDoor.Q
open Go.RowKit Go.Shelf Go.Proofs.YtbpdcbibooiimaaGreatDoorW.PrintWords Go.Proofs.YtbpdcbibooiimaaGreatDoorW.PrintLast Go.Proofs.YtbpdcbibooiimaaGreatDoorW.PrintMore
attribute [local go_sem] Oper.semAt_some
theorem KeepC.boxed {T : Nat → Prop} {A B : World} (h : KeepC T A B) {k : Nat} {t : TypeId} {v : Value} (hb : Boxed A k t v) (hk : ¬ T k) : Boxed B k t v := h.2 k _ hb rfl hk
theorem KeepC.cell {T : Nat → Prop} {A B : World} (h : KeepC T A B) {p : Addr} {v : Value} (hc : A.cell? p = some v) (hp : ¬ T p.block) : B.cell? p = some v := by
  unfold World.cell? at hc ⊢
  cases ho : A.heap[p.block]? with
  | none => rw [ho] at hc; cases hc
  | some o =>
    rw [ho] at hc
    cases o with
    | cells c t fr => rw [h.2 _ _ ho rfl hp]; exact hc
    | _ => cases hc
def span_val (s : S83) : Value := .agg #[.int .i64 s.f0, .int .i64 s.f1, .string s.f2]
set_option maxHeartbeats 2000000 in
set_option maxRecDepth 100000 in
theorem span_Values.stops (L : List S83) (hl : L.length ≤ 1000000) (B : Nat) (A : Option Addr) (c : Nat) (T : Nat → Prop) (w : World)
    (hTB : ¬ T B) (hTA : ∀ ad, A = some ad → L ≠ [] → ¬ T ad.block) (hBox : Boxed w B 127 (.slice A L.length c)) (hR : Kd.C k83 w A L.length L) (n : Nat) (hn : 3 ≤ n) :
    SeqPr Fence.wide n Tryz.prog 100 #[.pointer (some ⟨B, 0, none⟩)] (fun x : S83 => #[span_val x]) (KeepC T) (fun _ _ => True) (fun ys => ys = L) (fun pre => pre <+: L) w := fun l J Jx W hW hJ hJx hY h0 => by
  refine callsIn_of_wp Tryz.func100 rfl trivial ?_ rfl
  simp only [Tryz.ntmps100, List.size_toArray, List.length_cons, List.length_nil, Nat.reduceAdd, Nat.reduceSub, Array.replicate_succ, Array.replicate_zero, List.push_toArray, List.append_toArray, List.nil_append, List.cons_append]
  have KC : Aside0 (KeepC T w W) := ⟨hW.size, fun k o hk _ _ => (hW.block k (Array.getElem?_eq_some_iff.1 hk).1).trans hk⟩
  have HTA := Aside0.mk hTA
  have HTB := Aside0.mk hTB
  have HRL := Aside0.mk hR
  have HBX := Aside0.mk hBox
  have HJ := Aside0.mk hJ
  have HY := Aside0.mk hY
  have H0 := Aside0.mk h0
  have HL := Aside0.mk hl
  clear hTA hTB hR hBox hJ hY h0 hJx hW hl
  have hcell := (KC.out.boxed HBX.out HTB.out).cell
  gi_wp2
  clear hcell
  gi_loopg [7] (L.length + 1) (fun kq v7 wr => ∃ (i : Nat), v7 = .int .i64 (i : Int) ∧ Aside0 (i + kq = L.length + 1 ∧ i ≤ L.length) ∧ Aside0 (J (L.take i) wr) ∧ Aside0 (KeepC T w wr))
  case atStart => exact ⟨0, rfl, ⟨by omega, by omega⟩, ⟨H0.out⟩, KC⟩
  case round =>
    clear H0 KC
    obtain ⟨i, rfl, HI, HJp, KC⟩ := hrel
    cases gk with
    | zero => exact absurd HI.out (by omega)
    | succ kq =>
      by_cases c1 : (i : Int) < (L.length : Int)
      · obtain ⟨ad, rfl, hx0, hx1, hx2⟩ := at_T83 HRL.out (i : Int) (by omega) c1
        rw [Int.toNat_natCast] at hx0 hx1 hx2
        have hblk : (ad.add (i * 3)).block = ad.block := by unfold Addr.add; split <;> rfl
        have hnT : ¬ T (ad.add (i * 3)).block := by rw [hblk]; exact HTA.out _ rfl (fun e => by rw [e] at c1; simp at c1; omega)
        have hx0 := KC.out.cell hx0 hnT
        have hx1 := KC.out.cell hx1 hnT
        have hx2 := KC.out.cell hx2 hnT
        obtain ⟨s, hs⟩ : ∃ s, s = rd_T83 L (i : Int) := ⟨_, rfl⟩
        rw [← hs] at hx0 hx1 hx2
        have HSS := Aside0.mk hs
        have htake : L.take i ++ [s] = L.take (i + 1) := by
          have hlt : i < L.length := by omega
          rw [hs, Go.Proofs.YtbpdcbibooiimaaGreatDoor.K.rd43 i hlt, List.take_add_one, List.getElem?_eq_getElem hlt]
          rfl
        have HTK := Aside0.mk htake
        have e0 := eq_true c1
        have e1 : decide ((i : Int) < (L.length : Int)) = true := decide_eq_true c1
        clear hs c1 htake hblk hnT
        have hj2 := HJ.out _ _ _ none HJp.out (World.grownBy_alloc wr (.cells #[.int .i64 s.f0, .int .i64 s.f1, .string s.f2] 83) none) (fun r e => by cases e)
        obtain ⟨fn, tmps, assign, body, hy, hRR⟩ := HY.out (L.take i) s _ hj2 trivial (by rw [HTK.out]; exact List.take_prefix _ _)
        have hk2 : KeepC T w (wr.alloc (.cells #[.int .i64 s.f0, .int .i64 s.f1, .string s.f2] 83)) := KC.out.trans (KeepC.of_below ((Below.refl _ _).alloc (Nat.le_refl _) _))
        have HK2 := Aside0.mk hk2
        have HRR := Aside0.mk hRR
        simp only [span_val] at hy
        clear hj2 hRR hk2 KC HJp
        gi_wp2
        refine ⟨fun _ => by omega, ?_⟩
        refine HRR.out.mono ?_
        rintro e W3 (⟨rfl, hJ3, hk3⟩ | ⟨rfl, hJx3⟩)
        · have HJ3 := Aside0.mk hJ3
          have HK3 := Aside0.mk (HK2.out.trans hk3)
          clear hJ3 hk3 HRR hy HK2 hx0 hx1 hx2
          gi_wp2
          gi_roundg kq
          case measure => omega
          case rel =>
            have := HI.out
            have := of_decide_eq_true e1
            have := HL.out
            exact ⟨i + 1, by rw [Go.Proofs.YtbpdcbibooiimaaGreatDoor.K.w64 (by omega) (by omega)]; rfl, ⟨by omega, by omega⟩, ⟨by rw [← HTK.out]; exact HJ3.out⟩, HK3⟩
        · have HJX := Aside0.mk hJx3
          clear hJx3 HRR hy hx0 hx1 hx2
          gi_wp2
          refine bodyPost_ret (results_none rfl _ _ _) rfl ?_
          exact ⟨⟨_, rfl⟩, .inr ⟨L.take i ++ [s], by rw [HTK.out]; exact List.take_prefix _ _, HJX.out⟩⟩
      · have e0 := eq_false c1
        have e1 : decide ((i : Int) < (L.length : Int)) = false := decide_eq_false c1
        have hi : i = L.length := by have := HI.out; omega
        subst hi
        clear c1
        gi_wp2
        go_end0
        exact ⟨⟨_, rfl⟩, .inl ⟨L, rfl, by have := HJp.out; rwa [List.take_length] at this⟩⟩
set_option maxHeartbeats 1000000 in
set_option maxRecDepth 100000 in
theorem span_Values.calls (A : Option Addr) (n c : Nat) (w : World) :
    Calls Tryz.prog 77 #[.slice A n c] w fun e w' => e = .returned (.func (.func 100) #[] #[.pointer (some ⟨w.heap.size, 0, none⟩)]) ∧ w' = w.alloc (.cells #[.slice A n c] 127) := by
  go_enter Tryz.func77, Tryz.ntmps77
  go_wp2
  go_ret
  exact ⟨rfl, rfl⟩
set_option maxHeartbeats 2000000 in
set_option maxRecDepth 100000 in
theorem span_spans.calls0 (p : Option Addr) (L : List S83) (w0 w : World) (hT : Tab w0 p L) (hb : Below w0.heap.size w0 w) :
    Calls Tryz.prog 65 #[.pointer p] w fun e w' => (∃ A c, e = .returned (.slice A L.length c) ∧ Row43 w0 (.slice A L.length c) L ∧ Kd.C k83 w0 A L.length L) ∧ w' = w := by
  rcases hT with ⟨rfl, rfl⟩ | ⟨g, v, rfl, h2, h3⟩
  · go_enter Tryz.func65, Tryz.ntmps65
    go_wp2
    go_ret
    exact ⟨⟨none, 0, rfl, .inl ⟨rfl, rfl⟩, ⟨rfl, by simp, fun h => by simp at h⟩⟩, rfl⟩
  · have h3' := h3
    obtain ⟨A, c, rfl, h4, h5⟩ := h3'.open_
    have hc : w.cell? ⟨g, 0, none⟩ = some (.slice A L.length c) := by unfold World.cell?; rw [(hb.block g (Array.getElem?_eq_some_iff.1 h2).1).trans h2]; rfl
    have H3 := Aside0.mk h3
    have H5 := Aside0.mk h5
    clear h2 h3 h4 h5 h3' hb
    go_enter Tryz.func65, Tryz.ntmps65
    go_wp2
    go_ret
    exact ⟨⟨A, c, rfl, H3.out, H5.out⟩, rfl⟩
set_option maxHeartbeats 1000000 in
set_option maxRecDepth 100000 in
theorem span_All.calls (p : Option Addr) (L : List S83) (w0 w : World) (hT : Tab w0 p L) (hb : Below w0.heap.size w0 w) :
    Calls Tryz.prog 52 #[.pointer p] w fun e w' => ∃ A c, e = .returned (.func (.func 100) #[] #[.pointer (some ⟨w.heap.size, 0, none⟩)]) ∧ w' = w.alloc (.cells #[.slice A L.length c] 127) ∧ Row43 w0 (.slice A L.length c) L ∧ Kd.C k83 w0 A L.length L := by
  have HT := Aside0.mk hT
  have HB := Aside0.mk hb
  clear hT hb
  go_enter Tryz.func52, Tryz.ntmps52
  go_wp2_with (first
    | (go_at_call 65
       refine (span_spans.calls0 p L w0 _ HT.out HB.out).mono ?_
       rintro e w1 ⟨⟨A, n, rfl, hr, hC⟩, rfl⟩
       have HN := Aside0.mk hr
       have HC := Aside0.mk hC
       clear hr hC)
    | (go_at_call 77
       refine (span_Values.calls A L.length n _).mono ?_
       rintro e w2 ⟨rfl, rfl⟩))
  go_ret
  exact ⟨A, n, rfl, rfl, HN.out, HC.out⟩
theorem row43_lt {w : World} {A : Option Addr} {c : Nat} {L : List S83} (h : Row43 w (.slice A L.length c) L) (hl : L.length ≤ 9223372036854775807) : ∀ ad, A = some ad → L ≠ [] → ad.block < w.heap.size := by
  rintro ad rfl hne
  rcases h with ⟨h1, h2⟩ | ⟨ad', c', h1, h2, h3, _⟩
  · exact absurd h2 hne
  · injection h1 with h1
    injection h1 with h1
    subst h1
    obtain ⟨ad2, e2, hx, _⟩ := at_T83 h3 0 (by omega) (by have := List.length_pos_iff.2 hne; omega)
    injection e2 with e2
    subst e2
    have := World.block_lt_of_cell? w _ hx
    have hblk : (ad.add ((0 : Int).toNat * 3)).block = ad.block := by unfold Addr.add; split <;> rfl
    rwa [hblk] at this
theorem row43_type {w : World} {A : Option Addr} {c : Nat} {L : List S83} (h : Row43 w (.slice A L.length c) L) : ∀ ad o, A = some ad → L ≠ [] → w.heap[ad.block]? = some o → ∃ cells, o = .cells cells 83 (0, 0) := by
  rintro ad o rfl hne ho
  rcases h with ⟨h1, h2⟩ | ⟨ad', c', h1, h2, h3, cells, h4⟩
  · exact absurd h2 hne
  · injection h1 with h1
    injection h1 with h1
    subst h1
    rw [ho] at h4
    exact ⟨cells, Option.some.inj h4⟩
end Go.Proofs.YtbpdcbibooiimaaGreatDoor.Q
/- What a body keeps, told by the blocks' objects (their types); slices.Values at []Span by it. -/
namespace Go.Proofs.YtbpdcbibooiimaaGreatDoor.Q
open Go.RowKit Go.Shelf Go.Proofs.YtbpdcbibooiimaaGreatDoorW.PrintWords Go.Proofs.YtbpdcbibooiimaaGreatDoorW.PrintLast Go.Proofs.YtbpdcbibooiimaaGreatDoorW.PrintMore
attribute [local go_sem] Oper.semAt_some
def KeepO (Q : Nat → Obj → Prop) (A B : World) : Prop := A.heap.size ≤ B.heap.size ∧ ∀ k o, A.heap[k]? = some o → o.isCells = true → Q k o → B.heap[k]? = some o
theorem KeepO.refl (Q : Nat → Obj → Prop) (A : World) : KeepO Q A A := ⟨Nat.le_refl _, fun _ _ h _ _ => h⟩
theorem KeepO.trans {Q : Nat → Obj → Prop} {A B C : World} (h : KeepO Q A B) (k : KeepO Q B C) : KeepO Q A C := ⟨Nat.le_trans h.1 k.1, fun j o hj hc hn => k.2 j o (h.2 j o hj hc hn) hc hn⟩
theorem KeepO.of_below {Q : Nat → Obj → Prop} {A B : World} (h : Below A.heap.size A B) : KeepO Q A B := ⟨h.size, fun k o hk _ _ => (h.block k (Array.getElem?_eq_some_iff.1 hk).1).trans hk⟩
theorem KeepO.grown {Q : Nat → Obj → Prop} {A B : World} {row : Option Nat} (hg : A.grownBy B row) (hQ : ∀ k o, row = some k → A.heap[k]? = some o → o.isCells = true → ¬ Q k o) : KeepO Q A B :=
  ⟨hg.size, fun k o hk hc hn => (hg.block k (Array.getElem?_eq_some_iff.1 hk).1 (fun e => hQ k o e.symm hk hc hn)).trans hk⟩
theorem KeepO.of_set {Q : Nat → Obj → Prop} {A : World} {p : Addr} {v : Value} (h : ∀ o, A.heap[p.block]? = some o → ¬ Q p.block o) : KeepO Q A (A.setCell p v) := ⟨by simp, fun k o hk _ hn => (Below.heap_setCell A p v k (fun e => by subst e; exact h o hk hn)).trans hk⟩
theorem keepO_put {Q : Nat → Obj → Prop} {w : World} : ∀ (W : World) (l : Nat) (o o' : Obj), w.heap.size ≤ l → W.heap[l]? = some o → o.isCells = false → o.isWalk = false → KeepO Q W (W.putObj l o') :=
  fun W l o o' _ ho hc _ => ⟨(grownBy_putObj' W l o').size, fun k ob hk hkc _ => by
    have hne : k ≠ l := fun e => by
      subst e
      rw [ho] at hk
      injection hk with hk
      rw [← hk, hc] at hkc
      cases hkc
    exact (World.putObj_heap_other hne).trans hk⟩
theorem KeepO.boxed {Q : Nat → Obj → Prop} {A B : World} (h : KeepO Q A B) {k : Nat} {t : TypeId} {v : Value} (hb : Boxed A k t v) (hk : Q k (.cells #[v] t (0, 0))) : Boxed B k t v := h.2 k _ hb rfl hk
theorem KeepO.cell {Q : Nat → Obj → Prop} {A B : World} (h : KeepO Q A B) {p : Addr} {v : Value} (hc : A.cell? p = some v) (hp : ∀ o, A.heap[p.block]? = some o → Q p.block o) : B.cell? p = some v := by
  unfold World.cell? at hc ⊢
  cases ho : A.heap[p.block]? with
  | none => rw [ho] at hc; cases hc
  | some o =>
    rw [ho] at hc
    cases o with
    | cells c t fr => rw [h.2 _ _ ho rfl (hp _ ho)]; exact hc
    | _ => cases hc
set_option maxHeartbeats 2000000 in
set_option maxRecDepth 100000 in
theorem span_Values.stopsO (L : List S83) (hl : L.length ≤ 1000000) (B : Nat) (A : Option Addr) (c : Nat) (Q : Nat → Obj → Prop) (w : World)
    (hTB : Q B (.cells #[.slice A L.length c] 127 (0, 0))) (hTA : ∀ ad o, A = some ad → L ≠ [] → w.heap[ad.block]? = some o → Q ad.block o) (hBox : Boxed w B 127 (.slice A L.length c)) (hR : Kd.C k83 w A L.length L) (n : Nat) (hn : 3 ≤ n) :
    SeqPr Fence.wide n Tryz.prog 100 #[.pointer (some ⟨B, 0, none⟩)] (fun x : S83 => #[span_val x]) (KeepO Q) (fun _ _ => True) (fun ys => ys = L) (fun pre => pre <+: L) w := fun l J Jx W hW hJ hJx hY h0 => by
  refine callsIn_of_wp Tryz.func100 rfl trivial ?_ rfl
  simp only [Tryz.ntmps100, List.size_toArray, List.length_cons, List.length_nil, Nat.reduceAdd, Nat.reduceSub, Array.replicate_succ, Array.replicate_zero, List.push_toArray, List.append_toArray, List.nil_append, List.cons_append]
  have KC : Aside0 (KeepO Q w W) := ⟨hW.size, fun k o hk _ _ => (hW.block k (Array.getElem?_eq_some_iff.1 hk).1).trans hk⟩
  have HTA := Aside0.mk hTA
  have HTB := Aside0.mk hTB
  have HRL := Aside0.mk hR
  have HBX := Aside0.mk hBox
  have HJ := Aside0.mk hJ
  have HY := Aside0.mk hY
  have H0 := Aside0.mk h0
  have HL := Aside0.mk hl
  clear hTA hTB hR hBox hJ hY h0 hJx hW hl
  have hcell := (KC.out.boxed HBX.out HTB.out).cell
  gi_wp2
  clear hcell
  gi_loopg [7] (L.length + 1) (fun kq v7 wr => ∃ (i : Nat), v7 = .int .i64 (i : Int) ∧ Aside0 (i + kq = L.length + 1 ∧ i ≤ L.length) ∧ Aside0 (J (L.take i) wr) ∧ Aside0 (KeepO Q w wr))
  case atStart => exact ⟨0, rfl, ⟨by omega, by omega⟩, ⟨H0.out⟩, KC⟩
  case round =>
    clear H0 KC
    obtain ⟨i, rfl, HI, HJp, KC⟩ := hrel
    cases gk with
    | zero => exact absurd HI.out (by omega)
    | succ kq =>
      by_cases c1 : (i : Int) < (L.length : Int)
      · obtain ⟨ad, rfl, hx0, hx1, hx2⟩ := at_T83 HRL.out (i : Int) (by omega) c1
        rw [Int.toNat_natCast] at hx0 hx1 hx2
        have hblk : (ad.add (i * 3)).block = ad.block := by unfold Addr.add; split <;> rfl
        have hnT : ∀ o, w.heap[(ad.add (i * 3)).block]? = some o → Q (ad.add (i * 3)).block o := fun o ho => by rw [hblk] at ho ⊢; exact HTA.out _ o rfl (fun e => by rw [e] at c1; simp at c1; omega) ho
        have hx0 := KC.out.cell hx0 hnT
        have hx1 := KC.out.cell hx1 hnT
        have hx2 := KC.out.cell hx2 hnT
        obtain ⟨s, hs⟩ : ∃ s, s = rd_T83 L (i : Int) := ⟨_, rfl⟩
        rw [← hs] at hx0 hx1 hx2
        have HSS := Aside0.mk hs
        have htake : L.take i ++ [s] = L.take (i + 1) := by
          have hlt : i < L.length := by omega
          rw [hs, Go.Proofs.YtbpdcbibooiimaaGreatDoor.K.rd43 i hlt, List.take_add_one, List.getElem?_eq_getElem hlt]
          rfl
        have HTK := Aside0.mk htake
        have e0 := eq_true c1
        have e1 : decide ((i : Int) < (L.length : Int)) = true := decide_eq_true c1
        clear hs c1 htake hblk hnT
        have hj2 := HJ.out _ _ _ none HJp.out (World.grownBy_alloc wr (.cells #[.int .i64 s.f0, .int .i64 s.f1, .string s.f2] 83) none) (fun r e => by cases e)
        obtain ⟨fn, tmps, assign, body, hy, hRR⟩ := HY.out (L.take i) s _ hj2 trivial (by rw [HTK.out]; exact List.take_prefix _ _)
        have hk2 : KeepO Q w (wr.alloc (.cells #[.int .i64 s.f0, .int .i64 s.f1, .string s.f2] 83)) := KC.out.trans (KeepO.of_below ((Below.refl _ _).alloc (Nat.le_refl _) _))
        have HK2 := Aside0.mk hk2
        have HRR := Aside0.mk hRR
        simp only [span_val] at hy
        clear hj2 hRR hk2 KC HJp
        gi_wp2
        refine ⟨fun _ => by omega, ?_⟩
        refine HRR.out.mono ?_
        rintro e W3 (⟨rfl, hJ3, hk3⟩ | ⟨rfl, hJx3⟩)
        · have HJ3 := Aside0.mk hJ3
          have HK3 := Aside0.mk (HK2.out.trans hk3)
          clear hJ3 hk3 HRR hy HK2 hx0 hx1 hx2
          gi_wp2
          gi_roundg kq
          case measure => omega
          case rel =>
            have := HI.out
            have := of_decide_eq_true e1
            have := HL.out
            exact ⟨i + 1, by rw [Go.Proofs.YtbpdcbibooiimaaGreatDoor.K.w64 (by omega) (by omega)]; rfl, ⟨by omega, by omega⟩, ⟨by rw [← HTK.out]; exact HJ3.out⟩, HK3⟩
        · have HJX := Aside0.mk hJx3
          clear hJx3 HRR hy hx0 hx1 hx2
          gi_wp2
          refine bodyPost_ret (results_none rfl _ _ _) rfl ?_
          exact ⟨⟨_, rfl⟩, .inr ⟨L.take i ++ [s], by rw [HTK.out]; exact List.take_prefix _ _, HJX.out⟩⟩
      · have e0 := eq_false c1
        have e1 : decide ((i : Int) < (L.length : Int)) = false := decide_eq_false c1
        have hi : i = L.length := by have := HI.out; omega
        subst hi
        clear c1
        gi_wp2
        go_end0
        exact ⟨⟨_, rfl⟩, .inl ⟨L, rfl, by have := HJp.out; rwa [List.take_length] at this⟩⟩
end Go.Proofs.YtbpdcbibooiimaaGreatDoor.Q
/- The same, where the iterator is told of the rounds' other objects too (an iterator that ranges over another one wants that). After wpIn_range_as. -/
namespace Go.Proofs.YtbpdcbibooiimaaGreatDoor.Q
open Go.RowKit Go.Shelf Go.Proofs.YtbpdcbibooiimaaGreatDoorW.PrintWords Go.Proofs.YtbpdcbibooiimaaGreatDoorW.PrintLast Go.Proofs.YtbpdcbibooiimaaGreatDoorW.PrintMore
def SeqPw {α : Type} (F : Fence) (n : Nat) (P : Program) (g : Nat) (lb : Array Value) (encs : α → Array Value) (Kp : World → World → Prop) (Pr : α → World → Prop) (S Sp : List α → Prop) (w : World) : Prop :=
  ∀ (l : Nat) (J Jx : List α → World → Prop) (W : World), Below w.heap.size w W → OwnFrom W.heap.size J → OwnFrom W.heap.size Jx →
    (∀ pre x W1, J pre W1 → Pr x W1 → Sp (pre ++ [x]) → YieldAt F (n - 1) P l (encs x) W1 fun e W' =>
      ((e = .returned (.bool true) ∧ J (pre ++ [x]) W' ∧ Kp W1 W') ∨ (e = .returned (.bool false) ∧ Jx (pre ++ [x]) W')) ∧ KeepsFrom W.heap.size W1 W') →
    J [] W →
    CallsIn F n P g (#[.func (.yield l) #[] #[]] ++ lb) W fun e W' => (∃ v, e = .returned v) ∧ ((∃ xs, S xs ∧ J xs W') ∨ (∃ pre, Sp pre ∧ Jx pre W'))
theorem ownFrom_abides {β : Type} {B : Nat} {J : β → World → Prop} (h : OwnFrom B J) : AbidesFrom B J := fun s W W' row hs hg hr => h s W W' row hs hg (fun r e => by obtain ⟨hB, o, ho, hw⟩ := hr r e; exact ⟨hB, o, ho, Obj.not_cells_of_walk hw⟩)
theorem SeqPr.toPw {α : Type} {F : Fence} {n : Nat} {P : Program} {g : Nat} {lb : Array Value} {encs : α → Array Value} {Kp : World → World → Prop} {Pr : α → World → Prop} {S Sp : List α → Prop} {w : World} (h : SeqPr F n P g lb encs Kp Pr S Sp w) : SeqPw F n P g lb encs Kp Pr S Sp w :=
  fun l J Jx W hW hJ hJx hY h0 => h l J Jx W hW (ownFrom_abides hJ) (ownFrom_abides hJx) (fun pre x W1 a b c => (hY pre x W1 a b c).mono (fun e w' hr => hr.1)) h0
theorem KeepsFrom.up {B B' : Nat} {W W' : World} (h : KeepsFrom B W W') (hB : B ≤ B') : KeepsFrom B' W W' := ⟨h.size, fun k o hk => h.same k o (Nat.le_trans hB hk)⟩
theorem KeepsFrom.putObj {B : Nat} (W : World) {l : Nat} (o : Obj) (hl : l < B) : KeepsFrom B W (W.putObj l o) := ⟨(grownBy_putObj' W l o).size, fun k ob hk ho _ => (World.putObj_heap_other (by omega)).trans ho⟩
section
variable {F : Fence} {n : Nat} {P : Program}
theorem wpIn_range_w {α : Type} {g : Operand} {ps : Array Tmp} {assign body : Code} {Q : Exit → Act → World → Prop} {a : Act} {w : World}
    (hro : F.round = none) (h1 : 1 ≤ n) {gf : Nat} {lb : Array Value} (hg : a.eval g = .func (.func gf) #[] lb) (hFg : F.fn gf) (eg : ∀ args w, (callFunc gf args).run P w = .ok (.enter gf args) w)
    {encs : α → Array Value} {Kp : World → World → Prop} {Pr : α → World → Prop} {S Sp : List α → Prop} {w0 : World} (hseq : SeqPw F (n - 1) P gf lb encs Kp Pr S Sp w0)
    (hKt : ∀ {A B C : World}, Kp A B → Kp B C → Kp A C) (hKb : ∀ (W : World) (l : Nat) (o o' : Obj), w.heap.size ≤ l → W.heap[l]? = some o → o.isCells = false → o.isWalk = false → Kp W (W.putObj l o')) (hb0 : Below w0.heap.size w0 w) (hps : ∀ x, (encs x).size = ps.size)
    (I : List α → World → Prop) (Ix : Code → List α → World → Prop) (hI : OwnFrom w.heap.size I) (hIx : ∀ c, OwnFrom w.heap.size (Ix c)) (h0 : I [] w) (I1 : List α → α → Act → World → Prop) (hI1 : ∀ pre x a1, OwnFrom w.heap.size (fun (_ : Unit) W => I1 pre x a1 W))
    (hassign : ∀ (l : Nat) (pre : List α) (x : α) (W : World) (K : Act → World → Prop), I pre W → Pr x W → (∀ a1 W1, KeepsFrom w.heap.size W W1 → Kp W W1 → I1 pre x a1 W1 → K a1 W1) →
      assign.wpIn (F.inRound l) (n - 1 - 1) P (Exit.then K (fun _ _ _ => False)) { tmps := (ps.zip (encs x)).foldl (fun t (p, v) => t.setIfInBounds p v) a.tmps, defers := [] } W)
    (hbody : ∀ (l : Nat) (pre : List α) (x : α) (a1 : Act) (W : World), I1 pre x a1 W → Sp (pre ++ [x]) → body.wpIn (F.inRound l) (n - 1 - 1) P (ownPostG w.heap.size Kp I Ix (pre ++ [x]) W) a1 W)
    (hdone : ∀ (D : Nat) (xs : List α) (W : World), w.heap.size ≤ D → S xs → I xs W → W.heap[D]? = some (.deferred (some [])) → Q .normal { a with defers := { target := .collected D, args := #[] } :: a.defers } W)
    (hstop : ∀ (D : Nat) (c : Code) (pre : List α) (W : World), w.heap.size ≤ D → Sp pre → Ix c pre W → W.heap[D]? = some (.deferred (some [])) → c.wpIn F n P Q { a with defers := { target := .collected D, args := #[] } :: a.defers } W) :
    (Code.rangeFunc g ps assign body).wpIn F n P Q a w := by
  refine wpIn_rangeFunc ?_
  intro fn hfn
  rw [hro]
  let L : Nat := w.heap.size + 1
  obtain ⟨rec, hrec⟩ : ∃ rec : LoopState → Option Code → Loop, rec = fun st pe => { state := st, pending := pe, fn, tmps := a.tmps, params := ps, assign, body, defers := w.heap.size } := ⟨_, rfl⟩
  obtain ⟨W1, hW1⟩ : ∃ W1, (w.alloc (.deferred (some []))).alloc (.loop (rec .ready none)) = W1 := ⟨_, rfl⟩
  have hL1 : W1.heap[L]? = some (.loop (rec .ready none)) := by
    have := World.alloc_heap_new (w.alloc (.deferred (some []))) (.loop (rec .ready none))
    rw [World.size_alloc] at this
    rw [← hW1]; exact this
  have hD1 : W1.heap[w.heap.size]? = some (.deferred (some [])) := by
    rw [← hW1]; exact (Below.heap_alloc _ _ _ (by simp)).trans (World.alloc_heap_new w _)
  have hb1 : Below w0.heap.size w0 W1 := by
    rw [← hW1]; exact hb0.trans ((((Below.refl _ w).alloc (Nat.le_refl _) _).alloc (by simp) _).mono hb0.size)
  have hsz1 : W1.heap.size = w.heap.size + 2 := by rw [← hW1]; simp
  have walk_row : ∀ {A : World} {row : Option Nat}, (∀ r, row = some r → W1.heap.size ≤ r ∧ ∃ o : Obj, A.heap[r]? = some o ∧ o.isWalk = true) → (∀ r, row = some r → w.heap.size ≤ r ∧ ∃ o : Obj, A.heap[r]? = some o ∧ o.isCells = false) :=
    fun hr r e => by obtain ⟨hB, o, ho, hw⟩ := hr r e; exact ⟨by omega, o, ho, Obj.not_cells_of_walk hw⟩
  have stay : ∀ {A B : World} {row : Option Nat} {k : Nat} {o : Obj}, A.grownBy B row → (∀ r, row = some r → W1.heap.size ≤ r ∧ ∃ o : Obj, A.heap[r]? = some o ∧ o.isWalk = true) → A.heap[k]? = some o → o.isWalk = false → B.heap[k]? = some o :=
    fun hg' hr hk hw => (grownBy_keeps hg' (fun r e => (hr r e).2) hk hw).trans hk
  have stay2 : ∀ {A B : World} {row : Option Nat} {k : Nat} {o : Obj}, A.grownBy B row → (∀ r, row = some r → W1.heap.size ≤ r ∧ ∃ o : Obj, A.heap[r]? = some o ∧ o.isCells = false) → A.heap[k]? = some o → k < W1.heap.size → B.heap[k]? = some o :=
    fun hg' hr hk hlt => (hg'.block _ (Array.getElem?_eq_some_iff.1 hk).1 (fun e => by have := (hr _ e.symm).1; omega)).trans hk
  refine ⟨L, [{ target := .collected w.heap.size, args := #[] }], W1, { target := .fn (.func gf) lb, args := #[.func (.yield L) #[] #[]] }, W1, gf, #[.func (.yield L) #[] #[]] ++ lb, W1, ?_, ?_, ?_, ?_, fun _ => h1, ?_⟩
  · rw [← hW1, hrec]; exact run_enterLoop_outer _ _ _ _ _
  · simp only [resolve, hg]
    simp [go_sem]
  · intro f' hf'; simp [Target.leads] at hf'; subst hf'; exact hFg
  · simp [invoke, go_sem, eg]
  · have call := hseq L (fun pre W => I pre W ∧ W.heap[L]? = some (.loop (rec .ready none)) ∧ W.heap[w.heap.size]? = some (.deferred (some [])))
      (fun pre W => ∃ c, Ix c pre W ∧ W.heap[L]? = some (.loop (rec .done (some c))) ∧ W.heap[w.heap.size]? = some (.deferred (some []))) W1 hb1
      (fun s A B row hs hg' hr => ⟨hI s A B row hs.1 hg' (fun r e => ⟨by have := (hr r e).1; omega, (hr r e).2⟩), stay2 hg' hr hs.2.1 (by show w.heap.size + 1 < _; omega), stay2 hg' hr hs.2.2 (by omega)⟩)
      (fun s A B row ⟨c, hc, hl, hk⟩ hg' hr => ⟨c, hIx c s A B row hc hg' (fun r e => ⟨by have := (hr r e).1; omega, (hr r e).2⟩), stay2 hg' hr hl (by show w.heap.size + 1 < _; omega), stay2 hg' hr hk (by omega)⟩)
      ?round ⟨by rw [← hW1]; exact hI.alloc _ (hI.alloc _ h0), hL1, hD1⟩
    case round =>
      rintro pre x W ⟨hi, hl, hk⟩ hpr hlen
      have hlt : L < W.heap.size := (Array.getElem?_eq_some_iff.1 hl).1
      have hLD : w.heap.size ≠ L := by show w.heap.size ≠ w.heap.size + 1; omega
      have hLw : w.heap.size ≤ L := by show w.heap.size ≤ w.heap.size + 1; omega
      have hy := run_yield (P := P) (args := encs x) hl (by rw [hrec]; exact hps x)
      rw [hrec] at hy
      refine ⟨fn, _, assign, body, hy, roundIn_of_wpIn hfn (hassign _ pre x W _ hi hpr (fun a1 WA hkA hkpA hi1 => ⟨_, run_beginRound (hkA.same _ _ hLw hl rfl) (by rw [hrec]), ?_⟩))⟩
      have hl := hkA.same _ _ hLw hl rfl
      have hk := hkA.same _ _ (Nat.le_refl _) hk rfl
      have hlt : L < WA.heap.size := (Array.getElem?_eq_some_iff.1 hl).1
      obtain ⟨WB, hWB⟩ : ∃ WB, WA.putObj L (.loop { rec .ready none with state := .busy }) = WB := ⟨_, rfl⟩
      have hl2 : WB.heap[L]? = some (.loop { rec .ready none with state := .busy }) := by rw [← hWB]; exact World.putObj_heap_same hlt
      have hk2 : WB.heap[w.heap.size]? = some (.deferred (some [])) := by rw [← hWB]; exact (World.putObj_heap_other hLD).trans hk
      have hw2 : Kp W WB := by rw [← hWB]; exact hKt hkpA (hKb _ _ _ _ hLw hl rfl rfl)
      have hi2 : I1 pre x a1 WB := by rw [← hWB]; exact (hI1 pre x a1).putObj (s := ()) _ hi1 hLw hl rfl
      rw [hWB]
      refine wpIn_mono (hbody _ pre x a1 WB hi2 hlen) ?_
      have fin : ∀ (jump : Option Code) (W3 : World), KeepsFrom w.heap.size WB W3 →
          (Instr.endRound L jump).run P W3 = .ok (.bool jump.isNone) (W3.putObj L (.loop (rec (if jump.isNone then .ready else .done) jump))) ∧
          W3.heap[L]? = some (.loop { rec .ready none with state := .busy }) ∧
          (W3.putObj L (.loop (rec (if jump.isNone then .ready else .done) jump))).heap[L]? = some (.loop (rec (if jump.isNone then .ready else .done) jump)) ∧
          (W3.putObj L (.loop (rec (if jump.isNone then .ready else .done) jump))).heap[w.heap.size]? = some (.deferred (some [])) := fun jump W3 hk3 => by
        have hl3 := hk3.same _ _ hLw hl2 rfl
        have hd3 := hk3.same _ _ (Nat.le_refl _) hk2 rfl
        have hend := run_endRound (P := P) jump hl3
        refine ⟨?_, hl3, World.putObj_heap_same (Array.getElem?_eq_some_iff.1 hl3).1, (World.putObj_heap_other hLD).trans hd3⟩
        rw [hrec] at hend ⊢
        exact hend
      have keeps : ∀ (W3 : World) (o3 : Obj), KeepsFrom w.heap.size WB W3 → KeepsFrom W1.heap.size W (W3.putObj L o3) := fun W3 o3 hk3 => by
        refine ((KeepsFrom.up hkA (by omega)).trans ?_).trans ((KeepsFrom.up hk3 (by omega)).trans (KeepsFrom.putObj _ _ (by show w.heap.size + 1 < _; omega)))
        rw [← hWB]
        exact KeepsFrom.putObj _ _ (by show w.heap.size + 1 < _; omega)
      have out : ∀ (c : Code) (W3 : World), KeepsFrom w.heap.size WB W3 → Ix c (pre ++ [x]) W3 → ∃ v W', (Instr.endRound L (some c)).run P W3 = .ok v W' ∧ v = .bool false ∧ (∃ c', Ix c' (pre ++ [x]) W' ∧ W'.heap[L]? = some (.loop (rec .done (some c'))) ∧ W'.heap[w.heap.size]? = some (.deferred (some []))) ∧ KeepsFrom W1.heap.size W W' := fun c W3 hk3 hi3 => by
        obtain ⟨hr, hl3, hl4, hk4⟩ := fin (some c) W3 hk3
        exact ⟨_, _, hr, rfl, ⟨c, (hIx _).putObj _ hi3 hLw hl3 rfl, hl4, hk4⟩, keeps _ _ hk3⟩
      rintro e a3 W3 hp
      cases e with
      | normal =>
        obtain ⟨hk3, hkp3, hi3⟩ := hp
        obtain ⟨hr, hl3, hl4, hk4⟩ := fin none W3 hk3
        exact ⟨_, _, hr, .inl ⟨rfl, ⟨hI.putObj _ hi3 hLw hl3 rfl, hl4, hk4⟩, hKt (hKt hw2 hkp3) (hKb _ _ _ _ hLw hl3 rfl rfl)⟩, keeps _ _ hk3⟩
      | ret =>
        obtain ⟨v, W', hr, rfl, h, hkf⟩ := out .ret W3 hp.1 hp.2
        exact ⟨_, _, hr, .inr ⟨rfl, h⟩, hkf⟩
      | exit id =>
        obtain ⟨v, W', hr, rfl, h, hkf⟩ := out (.exit id) W3 hp.1 hp.2
        exact ⟨_, _, hr, .inr ⟨rfl, h⟩, hkf⟩
      | goto t =>
        obtain ⟨v, W', hr, rfl, h, hkf⟩ := out (.goto t) W3 hp.1 hp.2
        exact ⟨_, _, hr, .inr ⟨rfl, h⟩, hkf⟩
      | panic ch => exact hp.elim
      | outgrown => exact hp.elim
    refine call.mono ?_
    have hLD : w.heap.size ≠ L := by show w.heap.size ≠ w.heap.size + 1; omega
    have hLw : w.heap.size ≤ L := by show w.heap.size ≤ w.heap.size + 1; omega
    rintro e W2 ⟨⟨v, rfl⟩, (⟨xs, hS, hi, hl, hk⟩ | ⟨pre, hSp, c, hi, hl, hk⟩)⟩
    · exact ⟨none, _, by have := run_endLoop (P := P) hl (by rw [hrec]; simp); rw [hrec] at this; exact this, hdone _ xs _ (Nat.le_refl _) hS (hI.putObj _ hi hLw hl rfl) ((World.putObj_heap_other hLD).trans hk)⟩
    · exact ⟨some c, _, by have := run_endLoop (P := P) hl (by rw [hrec]; simp); rw [hrec] at this; exact this, hstop _ c pre _ (Nat.le_refl _) hSp ((hIx c).putObj _ hi hLw hl rfl) ((World.putObj_heap_other hLD).trans hk)⟩
end
theorem roundIn_any {m m' : Nat} {P : Program} {l l' : Nat} {f : FuncId} {tmps : Array Value} {assign body : Code} {w : World} {R : Ending → World → Prop} (h : RoundIn Fence.wide m P l f tmps assign body w R) : RoundIn (Fence.wide.inRound l') m' P l f tmps assign body w R :=
  ⟨h.1, fun c cs _ => h.2 c cs (fun d hd => by cases hd)⟩
end Go.Proofs.YtbpdcbibooiimaaGreatDoor.Q
/- span: Table.Points: an iterator over an iterator. -/
namespace Go.Proofs.YtbpdcbibooiimaaGreatDoor.Q
open Go.RowKit Go.Shelf Go.Proofs.YtbpdcbibooiimaaGreatDoorW.PrintWords Go.Proofs.YtbpdcbibooiimaaGreatDoorW.PrintLast Go.Proofs.YtbpdcbibooiimaaGreatDoorW.PrintMore Go.Proofs.YtbpdcbibooiimaaGreatDoor.K
attribute [local go_sem] Oper.semAt_some
def QT (ts : List Nat) (_ : Nat) (o : Obj) : Prop := ∃ cs t f, o = .cells cs t f ∧ t ∉ ts
theorem QT.mk {ts : List Nat} {k : Nat} {cs : Array Value} {t : Nat} {f : Nat × Nat} (h : t ∉ ts) : QT ts k (.cells cs t f) := ⟨cs, t, f, rfl, h⟩
def spanPts (s : S83) : List Int := (List.range (s.f1 + 1 - s.f0).toNat).map (fun j : Nat => s.f0 + (j : Int))
def ptsIn (v : ByteArray) (L : List S83) : List Int := L.flatMap (fun s => if s.f2.toList = v.toList then spanPts s else [])
def ptsOf (L : List S83) (v : ByteArray) : List Int := if v.toList = [] then [] else ptsIn v L
theorem ptsIn_snoc (v : ByteArray) (pre : List S83) (x : S83) : ptsIn v (pre ++ [x]) = ptsIn v pre ++ (if x.f2.toList = v.toList then spanPts x else []) := by
  unfold ptsIn; simp
theorem ptsIn_prefix {v : ByteArray} {a b : List S83} (h : a <+: b) : ptsIn v a <+: ptsIn v b := by
  obtain ⟨c, rfl⟩ := h
  unfold ptsIn
  rw [List.flatMap_append]
  exact List.prefix_append _ _
theorem spanPts_len (s : S83) : (spanPts s).length = (s.f1 + 1 - s.f0).toNat := by unfold spanPts; simp
theorem spanPts_take (s : S83) (j : Nat) (h : s.f0 + (j : Int) ≤ s.f1) : (spanPts s).take j ++ [s.f0 + (j : Int)] = (spanPts s).take (j + 1) := by
  have hl : j < (spanPts s).length := by rw [spanPts_len]; omega
  rw [List.take_add_one, List.getElem?_eq_getElem hl]
  simp [spanPts]
theorem wpIn_scope_wide {n : Nat} {P : Program} {c : Code} {Q : Exit → Act → World → Prop} {a : Act} {w : World} (h : c.wpIn Fence.wide n P (Exit.noGoto Q) a w) : (Code.scope c).wpIn Fence.wide n P Q a w := wpIn_wide.2 (wp_scope_straight (wpIn_wide.1 h))
theorem wpIn_label_wide {n : Nat} {P : Program} {l : Nat} {Q : Exit → Act → World → Prop} {a : Act} {w : World} (h : Q .normal a w) : (Code.label l).wpIn Fence.wide n P Q a w := wpIn_wide.2 (wp_label h)
set_option maxHeartbeats 4000000 in
set_option maxRecDepth 100000 in
theorem span_Points.stops (L : List S83) (hl : L.length ≤ 1000) (hL : SpOK L) (v : ByteArray) (p : Option Addr) (Bv Bt : Nat) (w : World)
    (hBv : Boxed w Bv 9 (.string v)) (hBt : Boxed w Bt 26 (.pointer p)) (hT : Tab w p L) (n : Nat) (hn : 6 ≤ n) :
    SeqPw Fence.wide n Tryz.prog 78 #[.pointer (some ⟨Bv, 0, none⟩), .pointer (some ⟨Bt, 0, none⟩)] (fun c : Int => #[.int .i64 c]) (KeepO (QT [3, 39])) (fun _ _ => True) (fun ys => ys = ptsOf L v) (fun pre => pre <+: ptsOf L v) w := fun l J Jx W hW hJ hJx hY h0 => by
  refine callsIn_of_wp_marks Tryz.func78 rfl trivial ?_ rfl
  simp only [Tryz.ntmps78, List.size_toArray, List.length_cons, List.length_nil, Nat.reduceAdd, Nat.reduceSub, Array.replicate_succ, Array.replicate_zero, List.push_toArray, List.append_toArray, List.nil_append, List.cons_append]
  have hbv : Boxed W Bv 9 (.string v) := (hW.block _ hBv.lt).trans hBv
  have hbt : Boxed W Bt 26 (.pointer p) := (hW.block _ hBt.lt).trans hBt
  have HBv := Aside0.mk hbv
  have HBt := Aside0.mk hbt
  have HT := Aside0.mk (hT.below hW)
  have HJ := Aside0.mk hJ
  have HJX := Aside0.mk hJx
  have HY := Aside0.mk hY
  have H0 := Aside0.mk h0
  have HL := Aside0.mk hl
  have HOK := Aside0.mk hL
  have hcv := (hbv.alloc (.cells #[.func (.yield l) #[] #[]] 143)).cell
  have hct := (hbt.alloc (.cells #[.func (.yield l) #[] #[]] 143)).cell
  clear hbv hbt
  clear hBv hBt hT hJ hJx hY h0 hl hL hW
  by_cases hv : v.toList = ([] : List UInt8)
  · have b1 : (v.toList == ([] : List UInt8)) = true := beq_iff_eq.mpr hv
    have b2 : v.toList.isEmpty = true := by rw [hv]; rfl
    have HPT : Aside0 (ptsOf L v = []) := ⟨by unfold ptsOf; rw [if_pos hv]⟩
    clear hv
    gi_wp2
    refine wpIn_scope_wide ?_
    gi_wp2
    rw [Exit.noGoto_ret]
    exact ⟨_, results_none rfl _ _ _, ⟨_, rfl⟩, .inl ⟨[], HPT.out.symm, HJ.out _ _ _ none H0.out (World.grownBy_alloc W _ none) (fun r e => by cases e)⟩⟩
  · have b1 : (v.toList == ([] : List UInt8)) = false := beq_eq_false_iff_ne.mpr hv
    have b2 : v.toList.isEmpty = false := by
      cases hh : v.toList with
      | nil => exact absurd hh hv
      | cons _ _ => rfl
    have HPT : Aside0 (ptsOf L v = ptsIn v L) := ⟨by unfold ptsOf; rw [if_neg hv]⟩
    clear hv
    have hb0 : Below W.heap.size W (W.alloc (.cells #[.func (.yield l) #[] #[]] 143)) := (Below.refl _ W).alloc (Nat.le_refl _) _
    have HB0 := Aside0.mk hb0
    have HYB := Aside0.mk (Boxed.new W 143 (.func (.yield l) #[] #[]))
    clear hb0
    gi_wp2
    refine wpIn_scope_wide ?_
    gi_wp2
    refine wpIn_label_wide ?_
    gi_wp2_with (refine ⟨trivial, (fun h => by cases h), ?_⟩; gi_at_call 52; refine (callsIn_wide.2 (span_All.calls p L W _ HT.out HB0.out)).mono ?_; rintro e w4 ⟨A, c, rfl, rfl, hr, hC⟩; have HR := Aside0.mk hr; have HC := Aside0.mk hC; clear hr hC)
    have hW4 : ((W.alloc (.cells #[.func (.yield l) #[] #[]] 143)).alloc (.cells #[.slice A L.length c] 127)).heap.size = W.heap.size + 2 := by simp
    have hbx : Boxed ((W.alloc (.cells #[.func (.yield l) #[] #[]] 143)).alloc (.cells #[.slice A L.length c] 127)) (W.heap.size + 1) 127 (.slice A L.length c) := by
      have := Boxed.new (W.alloc (.cells #[.func (.yield l) #[] #[]] 143)) 127 (.slice A L.length c)
      rwa [World.size_alloc] at this
    have hbA : Below W.heap.size W ((W.alloc (.cells #[.func (.yield l) #[] #[]] 143)).alloc (.cells #[.slice A L.length c] 127)) := HB0.out.alloc (by simp) _
    have hC4 := Kd.C_below HC.out hbA
    have hbv4 : Boxed ((W.alloc (.cells #[.func (.yield l) #[] #[]] 143)).alloc (.cells #[.slice A L.length c] 127)) Bv 9 (.string v) := (hbA.block _ (Boxed.lt HBv.out)).trans HBv.out
    have hby4 := HYB.out.alloc (.cells #[.slice A L.length c] 127)
    have hj4 := HJ.out.alloc (.cells #[.slice A L.length c] 127) (HJ.out.alloc (.cells #[.func (.yield l) #[] #[]] 143) H0.out)
    have hst := span_Values.stopsO L (by have := HL.out; omega) (W.heap.size + 1) A c (QT [3, 39]) _ (QT.mk (by decide)) (fun ad o e hne ho => by
      have hlt := row43_lt HR.out (by have := HL.out; omega) ad e hne
      obtain ⟨cells, rfl⟩ := row43_type HR.out ad o e hne ((hbA.block _ hlt).symm.trans ho)
      exact QT.mk (by decide)) hbx hC4 (n - 1) (by omega)
    have HST := Aside0.mk (SeqPr.toPw hst)
    clear hst hbx hC4 hcv hct
    generalize hw4 : (W.alloc (.cells #[.func (.yield l) #[] #[]] 143)).alloc (.cells #[.slice A L.length c] 127) = w4 at *
    clear hw4
    have HI0 : Aside0 ((J [] w4 ∧ Boxed w4 Bv 9 (.string v)) ∧ (Boxed w4 W.heap.size 143 (.func (.yield l) #[] #[]) ∧ W.heap.size + 2 ≤ w4.heap.size)) := ⟨⟨⟨hj4, hbv4⟩, ⟨hby4, by omega⟩⟩⟩
    clear hj4 hbv4 hby4 hbA
    refine wpIn_range_w rfl (by omega) (gf := 100) (lb := #[Value.pointer (some { block := W.heap.size + 1, off := 0 })]) rfl trivial (enters_of Tryz.func100 (by kernel_rfl) rfl)
      HST.out KeepO.trans keepO_put (Below.refl _ _) (fun _ => rfl)
      (fun pre W' => (J (ptsIn v pre) W' ∧ Boxed W' Bv 9 (.string v)) ∧ (Boxed W' W.heap.size 143 (.func (.yield l) #[] #[]) ∧ W.heap.size + 2 ≤ W'.heap.size)) (fun c pre W' => c = .exit 0 ∧ ∃ q, q <+: ptsIn v L ∧ Jx q W')
      (fun s A B row hs hg hr => ⟨⟨HJ.out _ _ _ row hs.1.1 hg (fun r e => ⟨by have := (hr r e).1; omega, (hr r e).2⟩), boxed_own Bv 9 (fun _ : Unit => .string v) () A B row hs.1.2 hg (fun r e => (hr r e).2)⟩, ⟨boxed_own W.heap.size 143 (fun _ : Unit => .func (.yield l) #[] #[]) () A B row hs.2.1 hg (fun r e => (hr r e).2), Nat.le_trans hs.2.2 hg.size⟩⟩)
      (fun c s A B row hs hg hr => ⟨hs.1, by obtain ⟨q, h1, h2⟩ := hs.2; exact ⟨q, h1, HJX.out _ _ _ row h2 hg (fun r e => ⟨by have := (hr r e).1; omega, (hr r e).2⟩)⟩⟩)
      HI0.out
      (fun pre x a1 W' => ∃ vb, a1 = { tmps := #[Value.func (Fn.yield l) #[] #[], Value.pointer (some { block := Bv, off := 0 }), Value.pointer (some { block := Bt, off := 0 }), Value.pointer (some { block := W.heap.size, off := 0 }), Value.pointer (some { block := vb, off := 0 }), undef, Value.string v, Value.bool false, Value.pointer p, Value.func (Fn.func 100) #[] #[Value.pointer (some { block := W.heap.size + 1, off := 0 })], span_val x, undef, undef, undef, undef, undef, undef, undef, undef, undef, undef, undef, undef, undef, undef, undef, undef], defers := [] } ∧ W'.heap[vb]? = some (.cells #[.int .i64 x.f0, .int .i64 x.f1, .string x.f2] 83 (0, 0)) ∧ ((J (ptsIn v pre) W' ∧ Boxed W' Bv 9 (.string v)) ∧ (Boxed W' W.heap.size 143 (.func (.yield l) #[] #[]) ∧ W.heap.size + 2 ≤ W'.heap.size)))
      (fun pre x a1 s A B row hs hg hr => by
        obtain ⟨vb, h1, h2, h3⟩ := hs
        refine ⟨vb, h1, (hg.block vb (Array.getElem?_eq_some_iff.1 h2).1 (fun e => by
          obtain ⟨_, o, ho, hc⟩ := hr vb e.symm
          rw [h2] at ho
          cases ho
          cases hc)).trans h2, ⟨⟨HJ.out _ _ _ row h3.1.1 hg (fun r e => ⟨by have := (hr r e).1; omega, (hr r e).2⟩), boxed_own Bv 9 (fun _ : Unit => .string v) () A B row h3.1.2 hg (fun r e => (hr r e).2)⟩, ⟨boxed_own W.heap.size 143 (fun _ : Unit => .func (.yield l) #[] #[]) () A B row h3.2.1 hg (fun r e => (hr r e).2), Nat.le_trans h3.2.2 hg.size⟩⟩⟩) ?assign ?body ?done ?stop
    case assign =>
      rintro l' pre x W' K hI - hK
      have HI := Aside0.mk hI
      have HK := Aside0.mk hK
      clear hI hK
      simp only [span_val]
      gi_wp2
      have hbA : Below W'.heap.size W' (W'.alloc (.cells #[.int .i64 x.f0, .int .i64 x.f1, .string x.f2] 83)) := (Below.refl _ W').alloc (Nat.le_refl _) _
      refine HK.out _ _ ?_ ?_ ⟨W'.heap.size, rfl, heap_alloc_new W' _, ?_⟩
      · exact (KeepsOthers.alloc W' _).from _
      · exact KeepO.of_below hbA
      · exact ⟨⟨HJ.out.alloc _ HI.out.1.1, HI.out.1.2.alloc _⟩, ⟨HI.out.2.1.alloc _, Nat.le_trans HI.out.2.2 (by simp)⟩⟩
    case body =>
      rintro l' pre x a1 W' ⟨vb, rfl, hvb, ⟨hj, hbv⟩, ⟨hby, hsz⟩⟩ hsp
      have hx0 : W'.cell? ⟨vb, 0, none⟩ = some (.int .i64 x.f0) := by simp only [World.cell?]; rw [hvb]; rfl
      have hx1 : W'.cell? ⟨vb, 1, none⟩ = some (.int .i64 x.f1) := by simp only [World.cell?]; rw [hvb]; rfl
      have hx2 : W'.cell? ⟨vb, 2, none⟩ = some (.string x.f2) := by simp only [World.cell?]; rw [hvb]; rfl
      have hcv := hbv.cell
      have hcy := hby.cell
      have HVB := Aside0.mk hvb
      have HJ1 := Aside0.mk hj
      have HBV := Aside0.mk hbv
      have HBY := Aside0.mk hby
      have HSZ := Aside0.mk hsz
      have hsp' : ptsIn v (pre ++ [x]) <+: ptsIn v L := ptsIn_prefix hsp
      have HSP := Aside0.mk hsp'
      have hval : valid x := by
        have hm : x ∈ L := by
          obtain ⟨r, hr⟩ := hsp
          rw [← hr]; simp
        exact HOK.out.2 x hm
      have HVAL := Aside0.mk hval
      clear hvb hj hbv hby hsz hsp hsp' hval
      by_cases hq : x.f2.toList = v.toList
      · have HQ := Aside0.mk hq
        have d1 : (x.f2.toList != v.toList) = false := bne_eq_false_iff_eq.mpr hq
        have d2 : (x.f2.toList == v.toList) = true := beq_iff_eq.mpr hq
        rw [ptsIn_snoc, if_pos hq] at HSP
        clear hq
        gi_wp2
        gi_loopg [5] ((x.f1 + 1 - x.f0).toNat + 1) (fun kq v5 wr => ∃ (j : Nat) (ch : Int), v5 = .int .i64 ch ∧ Aside0 (ch = x.f0 + (j : Int) ∧ j + kq = (x.f1 + 1 - x.f0).toNat + 1 ∧ j ≤ (x.f1 + 1 - x.f0).toNat) ∧ Aside0 (J (ptsIn v pre ++ (spanPts x).take j) wr) ∧ Aside0 (KeepO (QT [3, 39]) W' wr) ∧ Aside0 (KeepsFrom w4.heap.size W' wr))
        case atStart => exact ⟨0, x.f0, rfl, ⟨by omega, by omega, by omega⟩, ⟨by rw [List.take_zero, List.append_nil]; exact HJ1.out⟩, ⟨KeepO.refl _ _⟩, ⟨KeepsFrom.refl _ _⟩⟩
        case round =>
          clear HJ1 hx0 hx1 hx2 hcv hcy
          obtain ⟨j, ch, rfl, HI, HJp, HKO, HKF⟩ := hrel
          cases gk with
          | zero => exact absurd HI.out (by omega)
          | succ kq =>
            have hvb2 := HKO.out.2 vb _ HVB.out rfl (QT.mk (by decide))
            have hx1 : wr.cell? ⟨vb, 1, none⟩ = some (.int .i64 x.f1) := by simp only [World.cell?]; rw [hvb2]; rfl
            have hby2 := HKO.out.boxed HBY.out (QT.mk (by decide))
            have hbv2 := HKO.out.boxed HBV.out (QT.mk (by decide))
            have hcy := hby2.cell
            have HBY2 := Aside0.mk hby2
            have HBV2 := Aside0.mk hbv2
            obtain ⟨v0, v1, v2, _⟩ := HVAL.out
            clear hvb2 hby2 hbv2
            by_cases c1 : ch ≤ x.f1
            · have d3 : decide (ch ≤ x.f1) = true := decide_eq_true c1
              have b0 : 0 ≤ ch := by have := HI.out; omega
              have b1 : ch ≤ 1114111 := by omega
              have hsn : (spanPts x).take j ++ [ch] = (spanPts x).take (j + 1) := by
                rw [HI.out.1]; exact spanPts_take x j (by have := HI.out.1; omega)
              have HSN := Aside0.mk hsn
              obtain ⟨fn, tmps, assign, body, hy, hR⟩ := HY.out (ptsIn v pre ++ (spanPts x).take j) ch wr HJp.out trivial (by
                rw [HPT.out, List.append_assoc, HSN.out]
                exact ((List.prefix_append_right_inj _).2 (List.take_prefix _ _)).trans HSP.out)
              have HRR := Aside0.mk hR
              have E3 := eq_true c1
              clear hsn hR c1 v0 v1 v2
              gi_wp2
              refine ⟨fun _ => by omega, ?_⟩
              refine (roundIn_any HRR.out).mono ?_
              rintro e W3 ⟨(⟨rfl, hJ3, hk3⟩ | ⟨rfl, hJx3⟩), hkf⟩
              · have HJ3 := Aside0.mk hJ3
                have HK3 := Aside0.mk (HKO.out.trans hk3)
                have HF3 := Aside0.mk (HKF.out.trans (KeepsFrom.up hkf (by omega : W.heap.size ≤ w4.heap.size)))
                clear hJ3 hk3 hkf HRR hy
                gi_wp2
                gi_roundg kq
                case measure => omega
                case rel =>
                  have hi := HI.out
                  have := of_decide_eq_true d3
                  exact ⟨j + 1, ch + 1, by first | rfl | (rw [w64 (by omega) (by omega)]), ⟨by omega, by omega, by omega⟩, ⟨by rw [← HSN.out, ← List.append_assoc]; exact HJ3.out⟩, HK3, HF3⟩
              · have HJ3 := Aside0.mk hJx3
                have HF3 := Aside0.mk (HKF.out.trans (KeepsFrom.up hkf (by omega : W.heap.size ≤ w4.heap.size)))
                clear hJx3 hkf HRR hy
                gi_wp2
                exact ⟨HF3.out, rfl, ptsIn v pre ++ (spanPts x).take j ++ [ch], by
                  rw [List.append_assoc, HSN.out]
                  exact ((List.prefix_append_right_inj _).2 (List.take_prefix _ _)).trans HSP.out, HJ3.out⟩
            · have d3 : decide (ch ≤ x.f1) = false := decide_eq_false c1
              have E3 := eq_false c1
              have hj : j = (x.f1 + 1 - x.f0).toNat := by have := HI.out; omega
              clear c1 v0 v1 v2
              gi_wp2
              refine ⟨HKF.out, HKO.out, ⟨?_, HBV2.out⟩, HBY2.out, Nat.le_trans HSZ.out HKO.out.1⟩
              have := HJp.out
              rw [hj, List.take_of_length_le (by rw [spanPts_len]; exact Nat.le_refl _)] at this
              rw [ptsIn_snoc, if_pos HQ.out]
              exact this
      · have HQ := Aside0.mk hq
        have d1 : (x.f2.toList != v.toList) = true := bne_iff_ne.mpr hq
        have d2 : (x.f2.toList == v.toList) = false := beq_eq_false_iff_ne.mpr hq
        clear hq
        gi_wp2
        refine ⟨KeepsFrom.refl _ _, KeepO.refl _ _, ⟨?_, HBV.out⟩, HBY.out, HSZ.out⟩
        rw [ptsIn_snoc, if_neg HQ.out, List.append_nil]
        exact HJ1.out
    case done =>
      rintro D ys W' hD hys ⟨⟨hj, hbv⟩, ⟨hby, hsz⟩⟩ hK
      subst hys
      have HJD := Aside0.mk hj
      have HK := Aside0.mk hK
      clear hj hK hbv hby
      gi_wp2
      rw [Exit.noGoto_normal]
      refine ⟨by simp, .inl ⟨_, _, rfl, run_takeDeferred (w := W') HK.out, ?_⟩⟩
      exact ⟨_, results_none rfl _ _ _, ⟨_, rfl⟩, .inl ⟨ptsIn v ys, HPT.out.symm, HJ.out.putObj _ HJD.out (by omega) HK.out rfl⟩⟩
    case stop =>
      rintro D c pre W' hD hSp ⟨rfl, q, hq, hjx⟩ hK
      have HJD := Aside0.mk hjx
      have HQ := Aside0.mk hq
      have HK := Aside0.mk hK
      clear hjx hq hK
      gi_wp2
      rw [Exit.noGoto_normal]
      refine ⟨by simp, .inl ⟨_, _, rfl, run_takeDeferred (w := W') HK.out, ?_⟩⟩
      exact ⟨_, results_none rfl _ _ _, ⟨_, rfl⟩, .inr ⟨q, by rw [HPT.out]; exact HQ.out, HJX.out.putObj _ HJD.out (by omega) HK.out rfl⟩⟩
end Go.Proofs.YtbpdcbibooiimaaGreatDoor.Q
namespace Go.Proofs.YtbpdcbibooiimaaGreatDoor.Q
open Go.RowKit Go.Proofs.YtbpdcbibooiimaaGreatDoorW.PrintWords Go.Proofs.YtbpdcbibooiimaaGreatDoorW.PrintLast Go.Proofs.YtbpdcbibooiimaaGreatDoorW.PrintMore
attribute [local go_sem] max2_int min2_int max_two min_two max_three min_three max_four min_four   -- for this text's walks alone
/-! ### paronymref01_Compare: function 53 -/
mutual
def paronymref01_Compare.l0 : Nat → List Int → List Int → Int → Option (Int)
 | 0, _, _, _ => none
 | k + 1, x0, x1, x5 => if x5 < (x0.length : Int) then (paronymref01_Compare.j1 k x0 x1 x5 (decide (x5 < (x1.length : Int)))) else (paronymref01_Compare.j1 k x0 x1 x5 false)
def paronymref01_Compare.j1 : Nat → List Int → List Int → Int → Bool → Option (Int)
 | 0, _, _, _, _ => none
 | k + 1, x0, x1, x5, x15 => if x15 = true then (if 0 ≤ x5 then (if x5 < (x0.length : Int) then (if x5 < (x1.length : Int) then (if (rd x0 x5) < (rd x1 x5) then (some (-1)) else (if (rd x0 x5) > (rd x1 x5) then (some 1) else (paronymref01_Compare.l0 k x0 x1 (wrap64 (x5 + 1))))) else (none)) else (none)) else (none)) else (if (x0.length : Int) < (x1.length : Int) then (some (-1)) else (if (x0.length : Int) > (x1.length : Int) then (some 1) else (some 0)))
end
def paronymref01_Compare.f (k : Nat) (l0 : List Int) (l1 : List Int) : Option (Int) := paronymref01_Compare.l0 k l0 l1 0
theorem paronymref01_Compare.mono_l : ∀ k, (∀ y0 y1 y2, LeO (paronymref01_Compare.l0 k y0 y1 y2) (paronymref01_Compare.l0 (k + 1) y0 y1 y2)) ∧ (∀ y0 y1 y2 y3, LeO (paronymref01_Compare.j1 k y0 y1 y2 y3) (paronymref01_Compare.j1 (k + 1) y0 y1 y2 y3))
 | 0 => ⟨fun _ _ _ r h => by simp [paronymref01_Compare.l0] at h, fun _ _ _ _ r h => by simp [paronymref01_Compare.j1] at h⟩
 | k + 1 => by
  obtain ⟨ih0, ih1⟩ := paronymref01_Compare.mono_l k
  refine ⟨?_, ?_⟩
  ·intro y0 y1 y2
   unfold paronymref01_Compare.l0
   repeat' first
   | (with_reducible exact ih0 _ _ _)
   | (with_reducible exact ih1 _ _ _ _)
   | (with_reducible exact LeO.refl _)
   | (with_reducible exact LeO.none _)
   | (with_reducible refine LeO.ite ?_ ?_)
   | (with_reducible refine LeO.bind ?_ (fun _ => ?_))
   | exact ih0 _ _ _
   | exact ih1 _ _ _ _
   | exact LeO.none _
   | refine LeO.ite ?_ ?_
   | refine LeO.bind ?_ (fun _ => ?_)
  ·intro y0 y1 y2 y3
   unfold paronymref01_Compare.j1
   repeat' first
   | (with_reducible exact ih0 _ _ _)
   | (with_reducible exact ih1 _ _ _ _)
   | (with_reducible exact LeO.refl _)
   | (with_reducible exact LeO.none _)
   | (with_reducible refine LeO.ite ?_ ?_)
   | (with_reducible refine LeO.bind ?_ (fun _ => ?_))
   | exact ih0 _ _ _
   | exact ih1 _ _ _ _
   | exact LeO.none _
   | refine LeO.ite ?_ ?_
   | refine LeO.bind ?_ (fun _ => ?_)
theorem paronymref01_Compare.mono : ∀ a0 a1 k, LeO (paronymref01_Compare.f k a0 a1) (paronymref01_Compare.f (k + 1) a0 a1) := by
 intro a0 a1 k
 obtain ⟨ih0, ih1⟩ := paronymref01_Compare.mono_l k
 unfold paronymref01_Compare.f
 repeat' first
   | (with_reducible exact ih0 _ _ _)
   | (with_reducible exact ih1 _ _ _ _)
   | (with_reducible exact LeO.refl _)
   | (with_reducible exact LeO.none _)
   | (with_reducible refine LeO.ite ?_ ?_)
   | (with_reducible refine LeO.bind ?_ (fun _ => ?_))
   | exact ih0 _ _ _
   | exact ih1 _ _ _ _
   | exact LeO.none _
   | refine LeO.ite ?_ ?_
   | refine LeO.bind ?_ (fun _ => ?_)
set_option maxHeartbeats 8000000 in
set_option maxRecDepth 100000 in
theorem paronymref01_Compare.calls (k : Nat) (A0 : Option Addr) (c0 : Nat) (l0 : List Int) (A1 : Option Addr) (c1 : Nat) (l1 : List Int) (r : Int) (w : World) (hr0 : Kd.C (Kd.int .i64) w A0 l0.length l0) (hc0 : l0.length ≤ c0) (hr1 : Kd.C (Kd.int .i64) w A1 l1.length l1) (hc1 : l1.length ≤ c1) (h : paronymref01_Compare.f k l0 l1 = some r) :
  Calls Tryz.prog 53 #[.slice A0 l0.length c0, .slice A1 l1.length c1] w fun e w' => e = .returned (.int .i64 r) ∧ Drawn0 w w' := by
 have HR0 := Aside0.mk hr0
 have HC0 := Aside0.mk hc0
 clear hr0 hc0
 have HR1 := Aside0.mk hr1
 have HC1 := Aside0.mk hc1
 clear hr1 hc1
 have H : (paronymref01_Compare.l0 k l0 l1 0) = some r := h
 clear h
 have H' := Aside0.mk H
 clear H
 go_enter Tryz.func53, Tryz.ntmps53
 go_wp2
 repeat (go_quiet (fail); try go_wp2)
 go_loopg [5] k (fun kq v5 w' => ∃ (x5_1 : Int), v5 = .int .i64 x5_1 ∧ Aside0 (paronymref01_Compare.l0 kq l0 l1 x5_1 = some r) ∧ Aside0 (kq ≤ k) ∧ Drawn0 w w')
 case atStart => exact ⟨(0), (by first | rfl | (simp; done) | (simp [*]; done)), H', ⟨Nat.le_refl _⟩, by repeat (first | exact Drawn0.refl _ | apply Drawn0.step)⟩
 case round =>
  clear H'
  try clear c1
  try clear p2
  obtain ⟨x5_1, rfl, HA, HK1, ⟨m1, rfl⟩⟩ := hrel
  cases gk with
  | zero => exact absurd HA.out (by simp [paronymref01_Compare.l0])
  | succ k1 =>
   have H := HA.out
   clear HA
   simp only [paronymref01_Compare.l0] at H
   have HC3 := Aside0.mk H
   clear H
   go_upto_region 2 with (fail)
   repeat (go_quiet (fail); go_upto_region 2 with (fail))
   go_cut [15] (fun v15 wc => ∃ (kq : Nat) (x15_2 : Bool), v15 = .bool x15_2 ∧ Aside0 (paronymref01_Compare.j1 kq l0 l1 x5_1 x15_2 = some r) ∧ Aside0 (kq ≤ k1) ∧ Drawn0 w wc)
   case first =>
    have H := HC3.out
    clear HC3
    by_cases c4 : x5_1 < (l0.length : Int)
    ·rw [if_pos c4] at H
     have c4b0 : decide (x5_1 < (l0.length : Int)) = true := decide_eq_true c4
     clear c4
     (first | rw [c4b0] | (simp only [i64_w, i32_w]; rw [c4b0]) | rw [c4b1] | (simp only [i64_w, i32_w]; rw [c4b1]) | skip)
     have H' := Aside0.mk H
     clear H
     go_wp2
     repeat (go_quiet (fail); try go_wp2)
     go_meet
     case rel => exact ⟨_, (decide (x5_1 < (l1.length : Int))), (by first | rfl | (simp; done) | (simp [*]; done)), H', ⟨by have := HK1.out; first | omega | exact Nat.le_refl _⟩, by repeat (first | exact Drawn0.refl _ | apply Drawn0.step)⟩
    ·rw [if_neg c4] at H
     have c4b0 : decide (x5_1 < (l0.length : Int)) = false := decide_eq_false c4
     clear c4
     (first | rw [c4b0] | (simp only [i64_w, i32_w]; rw [c4b0]) | rw [c4b1] | (simp only [i64_w, i32_w]; rw [c4b1]) | skip)
     have H' := Aside0.mk H
     clear H
     go_wp2
     repeat (go_quiet (fail); try go_wp2)
     go_meet
     case rel => exact ⟨_, (false), (by first | rfl | (simp; done) | (simp [*]; done)), H', ⟨by have := HK1.out; first | omega | exact Nat.le_refl _⟩, by repeat (first | exact Drawn0.refl _ | apply Drawn0.step)⟩
   case rest =>
    clear HC3
    try clear c1
    try clear p2
    try clear c4
    try clear c4b0
    try clear c4b1
    try clear p2
    obtain ⟨kq, x15_2, rfl, HA, HJ2, ⟨mc2, rfl⟩⟩ := hcut
    cases kq with
    | zero => exact absurd HA.out (by simp [paronymref01_Compare.j1])
    | succ kj2 =>
     have H := HA.out
     clear HA
     simp only [paronymref01_Compare.j1] at H
     by_cases c5 : x15_2 = true
     ·subst c5
      have H1 : (if 0 ≤ x5_1 then (if x5_1 < (l0.length : Int) then (if x5_1 < (l1.length : Int) then (if (rd l0 x5_1) < (rd l1 x5_1) then (some (-1)) else (if (rd l0 x5_1) > (rd l1 x5_1) then (some 1) else (paronymref01_Compare.l0 kj2 l0 l1 (wrap64 (x5_1 + 1))))) else (none)) else (none)) else (none)) = some r := by rw [if_pos rfl] at H; exact H
      clear H
      have H := H1
      clear H1
      by_cases c6 : 0 ≤ x5_1
      ·rw [if_pos c6] at H
       have c6b0 : decide (0 ≤ x5_1) = true := decide_eq_true c6
       clear c6
       by_cases c7 : x5_1 < (l0.length : Int)
       ·rw [if_pos c7] at H
        have c7b0 : decide (x5_1 < (l0.length : Int)) = true := decide_eq_true c7
        clear c7
        by_cases c8 : x5_1 < (l1.length : Int)
        ·rw [if_pos c8] at H
         have c8b0 : decide (x5_1 < (l1.length : Int)) = true := decide_eq_true c8
         clear c8
         by_cases c9 : (rd l0 x5_1) < (rd l1 x5_1)
         ·rw [if_pos c9] at H
          have c9b0 : decide ((rd l0 x5_1) < (rd l1 x5_1)) = true := decide_eq_true c9
          clear c9
          obtain rfl := Option.some.inj H
          have p101 : 0 ≤ (x5_1 : Int) := of_decide_eq_true (by first | (with_reducible assumption) | assumption)
          have q101 : x5_1 < (l0.length : Int) := of_decide_eq_true (by first | (with_reducible assumption) | assumption)
          obtain ⟨ad101, e101, hx101_0⟩ := Kd.at_int HR0.out x5_1 p101 q101
          cases e101
          replace p101 := eq_true p101
          replace q101 := eq_true q101
          have p102 : 0 ≤ (x5_1 : Int) := of_decide_eq_true (by first | (with_reducible assumption) | assumption)
          have q102 : x5_1 < (l1.length : Int) := of_decide_eq_true (by first | (with_reducible assumption) | assumption)
          obtain ⟨ad102, e102, hx102_0⟩ := Kd.at_int HR1.out x5_1 p102 q102
          cases e102
          replace p102 := eq_true p102
          replace q102 := eq_true q102
          go_wp2
          repeat (go_quiet (fail); try go_wp2)
          go_ret
          exact ⟨by first | rfl | (simp; done) | (simp [*]; done), by repeat (first | exact Drawn0.refl _ | apply Drawn0.step)⟩
         ·rw [if_neg c9] at H
          have c9b0 : decide ((rd l0 x5_1) < (rd l1 x5_1)) = false := decide_eq_false c9
          clear c9
          by_cases c10 : (rd l0 x5_1) > (rd l1 x5_1)
          ·rw [if_pos c10] at H
           have c10b0 : decide ((rd l1 x5_1) < (rd l0 x5_1)) = true := decide_eq_true c10
           clear c10
           obtain rfl := Option.some.inj H
           have p101 : 0 ≤ (x5_1 : Int) := of_decide_eq_true (by first | (with_reducible assumption) | assumption)
           have q101 : x5_1 < (l0.length : Int) := of_decide_eq_true (by first | (with_reducible assumption) | assumption)
           obtain ⟨ad101, e101, hx101_0⟩ := Kd.at_int HR0.out x5_1 p101 q101
           cases e101
           replace p101 := eq_true p101
           replace q101 := eq_true q101
           have p102 : 0 ≤ (x5_1 : Int) := of_decide_eq_true (by first | (with_reducible assumption) | assumption)
           have q102 : x5_1 < (l1.length : Int) := of_decide_eq_true (by first | (with_reducible assumption) | assumption)
           obtain ⟨ad102, e102, hx102_0⟩ := Kd.at_int HR1.out x5_1 p102 q102
           cases e102
           replace p102 := eq_true p102
           replace q102 := eq_true q102
           have p103 : 0 ≤ (x5_1 : Int) := of_decide_eq_true (by first | (with_reducible assumption) | assumption)
           have q103 : x5_1 < (l0.length : Int) := of_decide_eq_true (by first | (with_reducible assumption) | assumption)
           obtain ⟨ad103, e103, hx103_0⟩ := Kd.at_int HR0.out x5_1 p103 q103
           obtain rfl : ad101 = ad103 := (by injection e103)
           replace p103 := eq_true p103
           replace q103 := eq_true q103
           have p104 : 0 ≤ (x5_1 : Int) := of_decide_eq_true (by first | (with_reducible assumption) | assumption)
           have q104 : x5_1 < (l1.length : Int) := of_decide_eq_true (by first | (with_reducible assumption) | assumption)
           obtain ⟨ad104, e104, hx104_0⟩ := Kd.at_int HR1.out x5_1 p104 q104
           obtain rfl : ad102 = ad104 := (by injection e104)
           replace p104 := eq_true p104
           replace q104 := eq_true q104
           go_wp2
           repeat (go_quiet (fail); try go_wp2)
           go_ret
           exact ⟨by first | rfl | (simp; done) | (simp [*]; done), by repeat (first | exact Drawn0.refl _ | apply Drawn0.step)⟩
          ·rw [if_neg c10] at H
           have c10b0 : decide ((rd l1 x5_1) < (rd l0 x5_1)) = false := decide_eq_false c10
           clear c10
           have H' := Aside0.mk H
           clear H
           have p101 : 0 ≤ (x5_1 : Int) := of_decide_eq_true (by first | (with_reducible assumption) | assumption)
           have q101 : x5_1 < (l0.length : Int) := of_decide_eq_true (by first | (with_reducible assumption) | assumption)
           obtain ⟨ad101, e101, hx101_0⟩ := Kd.at_int HR0.out x5_1 p101 q101
           cases e101
           replace p101 := eq_true p101
           replace q101 := eq_true q101
           have p102 : 0 ≤ (x5_1 : Int) := of_decide_eq_true (by first | (with_reducible assumption) | assumption)
           have q102 : x5_1 < (l1.length : Int) := of_decide_eq_true (by first | (with_reducible assumption) | assumption)
           obtain ⟨ad102, e102, hx102_0⟩ := Kd.at_int HR1.out x5_1 p102 q102
           cases e102
           replace p102 := eq_true p102
           replace q102 := eq_true q102
           have p103 : 0 ≤ (x5_1 : Int) := of_decide_eq_true (by first | (with_reducible assumption) | assumption)
           have q103 : x5_1 < (l0.length : Int) := of_decide_eq_true (by first | (with_reducible assumption) | assumption)
           obtain ⟨ad103, e103, hx103_0⟩ := Kd.at_int HR0.out x5_1 p103 q103
           obtain rfl : ad101 = ad103 := (by injection e103)
           replace p103 := eq_true p103
           replace q103 := eq_true q103
           have p104 : 0 ≤ (x5_1 : Int) := of_decide_eq_true (by first | (with_reducible assumption) | assumption)
           have q104 : x5_1 < (l1.length : Int) := of_decide_eq_true (by first | (with_reducible assumption) | assumption)
           obtain ⟨ad104, e104, hx104_0⟩ := Kd.at_int HR1.out x5_1 p104 q104
           obtain rfl : ad102 = ad104 := (by injection e104)
           replace p104 := eq_true p104
           replace q104 := eq_true q104
           go_wp2
           repeat (go_quiet (fail); try go_wp2)
           go_roundg kj2
           case measure => have := HK1.out; have := HJ2.out; omega
           case rel => exact ⟨(wrap64 (x5_1 + 1)), (by first | rfl | (simp; done) | (simp [*]; done)), H', ⟨by have := HK1.out; have := HJ2.out; omega⟩, by repeat (first | exact Drawn0.refl _ | apply Drawn0.step)⟩
        ·rw [if_neg c8] at H
         exact absurd H (by simp)
       ·rw [if_neg c7] at H
        exact absurd H (by simp)
      ·rw [if_neg c6] at H
       exact absurd H (by simp)
     ·replace c5 := Bool.eq_false_iff.mpr c5
      subst c5
      have H1 : (if (l0.length : Int) < (l1.length : Int) then (some (-1)) else (if (l0.length : Int) > (l1.length : Int) then (some 1) else (some 0))) = some r := by rw [if_neg (show ¬ (false = true) by decide)] at H; exact H
      clear H
      have H := H1
      clear H1
      by_cases c11 : (l0.length : Int) < (l1.length : Int)
      ·rw [if_pos c11] at H
       have c11b0 : decide ((l0.length : Int) < (l1.length : Int)) = true := decide_eq_true c11
       have c11b1 : decide (l0.length < l1.length) = true := decide_eq_true (Int.ofNat_lt.mp c11)
       clear c11
       obtain rfl := Option.some.inj H
       go_wp2
       repeat (go_quiet (fail); try go_wp2)
       go_ret
       exact ⟨by first | rfl | (simp; done) | (simp [*]; done), by repeat (first | exact Drawn0.refl _ | apply Drawn0.step)⟩
      ·rw [if_neg c11] at H
       have c11b0 : decide ((l0.length : Int) < (l1.length : Int)) = false := decide_eq_false c11
       have c11b1 : decide (l0.length < l1.length) = false := decide_eq_false (fun h => c11 (Int.ofNat_lt.mpr h))
       clear c11
       by_cases c12 : (l0.length : Int) > (l1.length : Int)
       ·rw [if_pos c12] at H
        have c12b0 : decide ((l1.length : Int) < (l0.length : Int)) = true := decide_eq_true c12
        have c12b1 : decide (l1.length < l0.length) = true := decide_eq_true (Int.ofNat_lt.mp c12)
        clear c12
        obtain rfl := Option.some.inj H
        go_wp2
        repeat (go_quiet (fail); try go_wp2)
        go_ret
        exact ⟨by first | rfl | (simp; done) | (simp [*]; done), by repeat (first | exact Drawn0.refl _ | apply Drawn0.step)⟩
       ·rw [if_neg c12] at H
        have c12b0 : decide ((l1.length : Int) < (l0.length : Int)) = false := decide_eq_false c12
        have c12b1 : decide (l1.length < l0.length) = false := decide_eq_false (fun h => c12 (Int.ofNat_lt.mpr h))
        clear c12
        obtain rfl := Option.some.inj H
        go_wp2
        repeat (go_quiet (fail); try go_wp2)
        go_ret
        exact ⟨by first | rfl | (simp; done) | (simp [*]; done), by repeat (first | exact Drawn0.refl _ | apply Drawn0.step)⟩
end Go.Proofs.YtbpdcbibooiimaaGreatDoor.Q
namespace Go.Proofs.YtbpdcbibooiimaaGreatDoor.Q
open Go.RowKit Go.Proofs.YtbpdcbibooiimaaGreatDoorW.PrintWords Go.Proofs.YtbpdcbibooiimaaGreatDoorW.PrintLast Go.Proofs.YtbpdcbibooiimaaGreatDoorW.PrintMore
attribute [local go_sem] max2_int min2_int max_two min_two max_three min_three max_four min_four   -- for this text's walks alone
/-! ### paronymref01_Same: function 20 -/
def paronymref01_Same.f (k : Nat) (l0 : List Int) (l1 : List Int) : Option (Bool) := (paronymref01_Compare.f k l0 l1).bind fun t101 => (some (t101 == 0))
theorem paronymref01_Same.mono : ∀ a0 a1 k, LeO (paronymref01_Same.f k a0 a1) (paronymref01_Same.f (k + 1) a0 a1) := by
 intro a0 a1 k
 unfold paronymref01_Same.f
 repeat' first
   | (with_reducible exact paronymref01_Compare.mono _ _ _)
   | (with_reducible exact LeO.refl _)
   | (with_reducible exact LeO.none _)
   | (with_reducible refine LeO.ite ?_ ?_)
   | (with_reducible refine LeO.bind ?_ (fun _ => ?_))
   | exact paronymref01_Compare.mono _ _ _
   | exact LeO.none _
   | refine LeO.ite ?_ ?_
   | refine LeO.bind ?_ (fun _ => ?_)
set_option maxHeartbeats 8000000 in
set_option maxRecDepth 100000 in
theorem paronymref01_Same.calls (k : Nat) (A0 : Option Addr) (c0 : Nat) (l0 : List Int) (A1 : Option Addr) (c1 : Nat) (l1 : List Int) (r : Bool) (w : World) (hr0 : Kd.C (Kd.int .i64) w A0 l0.length l0) (hc0 : l0.length ≤ c0) (hr1 : Kd.C (Kd.int .i64) w A1 l1.length l1) (hc1 : l1.length ≤ c1) (h : paronymref01_Same.f k l0 l1 = some r) :
  Calls Tryz.prog 20 #[.slice A0 l0.length c0, .slice A1 l1.length c1] w fun e w' => e = .returned (.bool r) ∧ Drawn0 w w' := by
 have HR0 := Aside0.mk hr0
 have HC0 := Aside0.mk hc0
 clear hr0 hc0
 have HR1 := Aside0.mk hr1
 have HC1 := Aside0.mk hc1
 clear hr1 hc1
 have H : ((paronymref01_Compare.f k l0 l1).bind fun t101 => (some (t101 == 0))) = some r := h
 clear h
 replace H := Option.bind_eq_some_iff.mp H
 obtain ⟨t101, A30, H⟩ := H
 replace H : (some (t101 == 0)) = some r := H
 have A3 := Aside0.mk A30
 clear A30
 obtain rfl := Option.some.inj H
 go_enter Tryz.func20, Tryz.ntmps20
 go_wp2_with (first | ((with_reducible refine gate_callee (f := 53) rfl ?_); refine goesL_ (some 7) rfl rfl Tryz.func53 (by kernel_rfl) rfl #[.slice A0 l0.length c0, .slice A1 l1.length c1] rfl (by (try simp only [List.map_toArray, List.map_cons, List.map_nil]); first | done | rfl | (simp only [List.length_drop, List.length_take]; rfl)) ?_; (with_reducible refine (paronymref01_Compare.calls k _ _ l0 _ _ l1 t101 _ ?side1 ?side2 ?side3 ?side4 A3.out).mono ?_); (case side1 => repeat (first | exact HR0.out | (with_reducible refine Kd.C_alloc ?_ _) | (with_reducible refine Kd.C_drewN ?_ _) | (with_reducible refine Kd.C_drew ?_))); (case side2 => exact HC0.out); (case side3 => repeat (first | exact HR1.out | (with_reducible refine Kd.C_alloc ?_ _) | (with_reducible refine Kd.C_drewN ?_ _) | (with_reducible refine Kd.C_drew ?_))); (case side4 => exact HC1.out); rintro e w' ⟨rfl, ⟨nd, rfl⟩⟩; refine ⟨_, rfl, ?_⟩))
 go_ret
 exact ⟨by first | rfl | (simp; done) | (simp [*]; done), by repeat (first | exact Drawn0.refl _ | apply Drawn0.step)⟩
end Go.Proofs.YtbpdcbibooiimaaGreatDoor.Q
/- Texts compared: the reference's Compare and Same on lists. -/
namespace Go.Proofs.YtbpdcbibooiimaaGreatDoor.K
open Go.RowKit Go.Proofs.YtbpdcbibooiimaaGreatDoorW.PrintWords Go.Proofs.YtbpdcbibooiimaaGreatDoorW.PrintMore Go.Proofs.YtbpdcbibooiimaaGreatDoor.Q
def cmpL : List Int → List Int → Int
  | [], [] => 0
  | [], _ :: _ => -1
  | _ :: _, [] => 1
  | x :: l, y :: m => if x < y then -1 else if x > y then 1 else cmpL l m
theorem cmpL_zero : ∀ (l m : List Int), cmpL l m = 0 ↔ l = m
  | [], [] => by simp [cmpL]
  | [], _ :: _ => by simp [cmpL]
  | _ :: _, [] => by simp [cmpL]
  | x :: l, y :: m => by
    unfold cmpL
    by_cases a : x < y
    · rw [if_pos a]; simp; omega
    · rw [if_neg a]
      by_cases b : x > y
      · rw [if_pos b]; simp; omega
      · rw [if_neg b, cmpL_zero l m]
        have : x = y := by omega
        simp [this]
theorem refCompare_ev (l m : List Int) (hl : l.length ≤ 1099511627776) (hm : m.length ≤ 1099511627776) : Ev (fun k => paronymref01_Compare.f k l m) (cmpL l m) := by
  have key : ∀ (d i : Nat), l.length - i = d → i ≤ l.length → i ≤ m.length → Ev (fun k => paronymref01_Compare.l0 k l m i) (cmpL (l.drop i) (m.drop i)) := by
    have hend : ∀ i : Nat, i ≤ l.length → i ≤ m.length → (i = l.length ∨ i = m.length) → ∀ b : Bool, b = false → Ev (fun k => paronymref01_Compare.j1 k l m i b) (cmpL (l.drop i) (m.drop i)) := by
      intro i h1 h2 h3 b hb
      refine Ev.step (fun k => rfl) (Ev.neg (by simp [hb]) ?_)
      by_cases a : l.length < m.length
      · have e : i = l.length := by omega
        subst e
        rw [List.drop_length, drop_cons m l.length a]
        exact Ev.pos (by omega) (Ev.ret (by simp [cmpL]))
      · by_cases b : m.length < l.length
        · have e : i = m.length := by omega
          subst e
          rw [List.drop_length, drop_cons l m.length b]
          exact Ev.neg (by omega) (Ev.pos (by omega) (Ev.ret (by simp [cmpL])))
        · have e : i = l.length := by omega
          have e2 : i = m.length := by omega
          rw [List.drop_of_length_le (by omega), List.drop_of_length_le (by omega)]
          exact Ev.neg (by omega) (Ev.neg (by omega) (Ev.ret (by simp [cmpL])))
    intro d
    induction d with
    | zero =>
      intro i h1 h2 h3
      exact Ev.step (fun k => rfl) (Ev.neg (by omega) (hend i h2 h3 (.inl (by omega)) false rfl))
    | succ d ih =>
      intro i h1 h2 h3
      have hi : i < l.length := by omega
      refine Ev.step (fun k => rfl) (Ev.pos (by omega) ?_)
      by_cases a : i < m.length
      · have e : decide ((i : Int) < (m.length : Int)) = true := by simpa using a
        refine Ev.step (fun k => rfl) (Ev.pos e (Ev.pos (by omega) (Ev.pos (by omega) (Ev.pos (by omega) ?_))))
        rw [drop_cons l i hi, drop_cons m i a]
        unfold cmpL
        by_cases b : rd l i < rd m i
        · exact Ev.pos b (Ev.ret (if_pos b).symm)
        · refine Ev.neg b ?_
          rw [show (if rd l i < rd m i then (-1 : Int) else if rd l i > rd m i then 1 else cmpL (l.drop (i + 1)) (m.drop (i + 1))) = (if rd l i > rd m i then 1 else cmpL (l.drop (i + 1)) (m.drop (i + 1))) from if_neg b]
          by_cases c : rd l i > rd m i
          · exact Ev.pos c (Ev.ret (if_pos c).symm)
          · rw [show (if rd l i > rd m i then (1 : Int) else cmpL (l.drop (i + 1)) (m.drop (i + 1))) = cmpL (l.drop (i + 1)) (m.drop (i + 1)) from if_neg c]
            refine Ev.neg c ?_
            rw [w64 (by omega) (by omega)]
            exact ih (i + 1) (by omega) (by omega) (by omega)
      · have e : decide ((i : Int) < (m.length : Int)) = false := by simpa using a
        exact hend i h2 h3 (.inr (by omega)) _ e
  have := key l.length 0 (by omega) (by omega) (by omega)
  unfold paronymref01_Compare.f
  simpa using this
theorem refSame_ev (l m : List Int) (hl : l.length ≤ 1099511627776) (hm : m.length ≤ 1099511627776) : Ev (fun k => paronymref01_Same.f k l m) (decide (l = m)) := by
  unfold paronymref01_Same.f
  refine Ev.bind (refCompare_ev l m hl hm) (Ev.ret ?_)
  rw [Bool.eq_iff_iff]
  simp [cmpL_zero]
end Go.Proofs.YtbpdcbibooiimaaGreatDoor.K
namespace Go.Proofs.YtbpdcbibooiimaaGreatDoor.Q
open Go.RowKit Go.Proofs.YtbpdcbibooiimaaGreatDoorW.PrintWords Go.Proofs.YtbpdcbibooiimaaGreatDoorW.PrintLast Go.Proofs.YtbpdcbibooiimaaGreatDoorW.PrintMore
attribute [local go_sem] max2_int min2_int max_two min_two max_three min_three max_four min_four   -- for this text's walks alone
/-! ### paronymref03_Points: function 22 -/
mutual
def paronymref03_Points.l0 : Nat → List (S93) → ByteArray → Int → List Int → Int → Option (List Int)
 | 0, _, _, _, _, _ => none
 | k + 1, x0, x1, x2, x7, x8 => if x8 < (x0.length : Int) then (if 0 ≤ x8 then (paronymref03_Points.l1 k x0 x1 x2 x7 x8 ((rd_T93 x0 x8).f0)) else (none)) else (some x7)
def paronymref03_Points.l1 : Nat → List (S93) → ByteArray → Int → List Int → Int → Int → Option (List Int)
 | 0, _, _, _, _, _, _ => none
 | k + 1, x0, x1, x2, x7, x8, x9 => if 0 ≤ x8 then (if x8 < (x0.length : Int) then (if x9 ≤ ((rd_T93 x0 x8).f1) then (if (x7.length : Int) < x2 then (if ((rd_T93 x0 x8).f2).toList = x1.toList then (if x1.toList = ([] : List UInt8) then (paronymref03_Points.l0 k x0 x1 x2 x7 (wrap64 (x8 + 1))) else (if x7.length < 17592186044416 then (paronymref03_Points.l1 k x0 x1 x2 (x7 ++ [x9]) x8 (wrap64 (x9 + 1))) else (none))) else (paronymref03_Points.l0 k x0 x1 x2 x7 (wrap64 (x8 + 1)))) else (paronymref03_Points.l0 k x0 x1 x2 x7 (wrap64 (x8 + 1)))) else (paronymref03_Points.l0 k x0 x1 x2 x7 (wrap64 (x8 + 1)))) else (none)) else (none)
end
def paronymref03_Points.f (k : Nat) (l0 : List (S93)) (a1 : ByteArray) (a2 : Int) : Option (List Int) := paronymref03_Points.l0 k l0 a1 a2 ([] : List Int) 0
theorem paronymref03_Points.mono_l : ∀ k, (∀ y0 y1 y2 y3 y4, LeO (paronymref03_Points.l0 k y0 y1 y2 y3 y4) (paronymref03_Points.l0 (k + 1) y0 y1 y2 y3 y4)) ∧ (∀ y0 y1 y2 y3 y4 y5, LeO (paronymref03_Points.l1 k y0 y1 y2 y3 y4 y5) (paronymref03_Points.l1 (k + 1) y0 y1 y2 y3 y4 y5))
 | 0 => ⟨fun _ _ _ _ _ r h => by simp [paronymref03_Points.l0] at h, fun _ _ _ _ _ _ r h => by simp [paronymref03_Points.l1] at h⟩
 | k + 1 => by
  obtain ⟨ih0, ih1⟩ := paronymref03_Points.mono_l k
  refine ⟨?_, ?_⟩
  ·intro y0 y1 y2 y3 y4
   unfold paronymref03_Points.l0
   repeat' first
   | (with_reducible exact ih0 _ _ _ _ _)
   | (with_reducible exact ih1 _ _ _ _ _ _)
   | (with_reducible exact LeO.refl _)
   | (with_reducible exact LeO.none _)
   | (with_reducible refine LeO.ite ?_ ?_)
   | (with_reducible refine LeO.bind ?_ (fun _ => ?_))
   | exact ih0 _ _ _ _ _
   | exact ih1 _ _ _ _ _ _
   | exact LeO.none _
   | refine LeO.ite ?_ ?_
   | refine LeO.bind ?_ (fun _ => ?_)
  ·intro y0 y1 y2 y3 y4 y5
   unfold paronymref03_Points.l1
   repeat' first
   | (with_reducible exact ih0 _ _ _ _ _)
   | (with_reducible exact ih1 _ _ _ _ _ _)
   | (with_reducible exact LeO.refl _)
   | (with_reducible exact LeO.none _)
   | (with_reducible refine LeO.ite ?_ ?_)
   | (with_reducible refine LeO.bind ?_ (fun _ => ?_))
   | exact ih0 _ _ _ _ _
   | exact ih1 _ _ _ _ _ _
   | exact LeO.none _
   | refine LeO.ite ?_ ?_
   | refine LeO.bind ?_ (fun _ => ?_)
theorem paronymref03_Points.mono : ∀ a0 a1 a2 k, LeO (paronymref03_Points.f k a0 a1 a2) (paronymref03_Points.f (k + 1) a0 a1 a2) := by
 intro a0 a1 a2 k
 obtain ⟨ih0, ih1⟩ := paronymref03_Points.mono_l k
 unfold paronymref03_Points.f
 repeat' first
   | (with_reducible exact ih0 _ _ _ _ _)
   | (with_reducible exact ih1 _ _ _ _ _ _)
   | (with_reducible exact LeO.refl _)
   | (with_reducible exact LeO.none _)
   | (with_reducible refine LeO.ite ?_ ?_)
   | (with_reducible refine LeO.bind ?_ (fun _ => ?_))
   | exact ih0 _ _ _ _ _
   | exact ih1 _ _ _ _ _ _
   | exact LeO.none _
   | refine LeO.ite ?_ ?_
   | refine LeO.bind ?_ (fun _ => ?_)
set_option maxHeartbeats 8000000 in
set_option maxRecDepth 100000 in
theorem paronymref03_Points.calls (k : Nat) (A0 : Option Addr) (c0 : Nat) (l0 : List (S93)) (a1 : ByteArray) (a2 : Int) (r : List Int) (w : World) (hr0 : Kd.C k93 w A0 l0.length l0) (hc0 : l0.length ≤ c0) (h : paronymref03_Points.f k l0 a1 a2 = some r) :
  Calls Tryz.prog 22 #[.slice A0 l0.length c0, .string a1, .int .i64 a2] w fun e w' => ∃ v0_ : Value, e = .returned (v0_) ∧ Kd.R (Kd.int .i64) 3 w' w.heap.size (fun _ => True) v0_ r ∧ Below w.heap.size w w' := by
 have HR0 := Aside0.mk hr0
 have HC0 := Aside0.mk hc0
 clear hr0 hc0
 have HB := Aside0.mk (Below.refl w.heap.size w)
 have H : (paronymref03_Points.l0 k l0 a1 a2 ([] : List Int) 0) = some r := h
 clear h
 have H' := Aside0.mk H
 clear H
 go_enter Tryz.func22, Tryz.ntmps22
 go_wp2
 go_loopg [7, 8] k (fun kq v7 v8 w' => ∃ (x7_1 : List Int) (x8_1 : Int), v8 = .int .i64 x8_1 ∧ Aside0 (paronymref03_Points.l0 kq l0 a1 a2 x7_1 x8_1 = some r) ∧ Aside0 (kq ≤ k) ∧ Aside0 (Kd.R (Kd.int .i64) 3 w' w.heap.size (fun _ => True) v7 x7_1) ∧ Aside0 (Below w.heap.size w w'))
 case atStart => exact ⟨(([] : List Int)), (0), (by first | rfl | (simp; done) | (simp [*]; done)), H', ⟨Nat.le_refl _⟩, ⟨by first | exact Kd.R_nil _ _ _ _ _ | exact Kd.N_nil _ _ _ _ _ | exact Kd.V_nil _ _ _ _ _ | exact Kd.Q_nil _ _ _ _ _ | exact Kd.S_nil _ _ _ _ _⟩, ⟨by repeat (first | (with_reducible first | exact HB.out | apply below_alloc | apply pw_below_drewN | apply below_drew1) | exact HB.out)⟩⟩
 case round =>
  clear H'
  try clear c2
  try clear p2
  obtain ⟨x7_1, x8_1, rfl, HA, HK1, HO_7, HB⟩ := hrel
  cases gk with
  | zero => exact absurd HA.out (by simp [paronymref03_Points.l0])
  | succ k1 =>
   have H := HA.out
   clear HA
   simp only [paronymref03_Points.l0] at H
   by_cases c4 : x8_1 < (l0.length : Int)
   ·rw [if_pos c4] at H
    have c4b0 : decide (x8_1 < (l0.length : Int)) = true := decide_eq_true c4
    clear c4
    by_cases c5 : 0 ≤ x8_1
    ·rw [if_pos c5] at H
     have c5b0 : decide (0 ≤ x8_1) = true := decide_eq_true c5
     clear c5
     have H' := Aside0.mk H
     clear H
     have p101 : 0 ≤ (x8_1 : Int) := of_decide_eq_true (by first | (with_reducible assumption) | assumption)
     have q101 : x8_1 < (l0.length : Int) := of_decide_eq_true (by first | (with_reducible assumption) | assumption)
     obtain ⟨ad101, e101, hx101_0, hx101_1, hx101_2⟩ := at_T93 HR0.out x8_1 p101 q101
     cases e101
     replace hx101_0 := (HB.out.cell (World.block_lt_of_cell? w _ hx101_0)).trans hx101_0
     replace hx101_1 := (HB.out.cell (World.block_lt_of_cell? w _ hx101_1)).trans hx101_1
     replace hx101_2 := (HB.out.cell (World.block_lt_of_cell? w _ hx101_2)).trans hx101_2
     replace p101 := eq_true p101
     replace q101 := eq_true q101
     go_wp2
     go_loopg [7, 9] k1 (fun kq v7 v9 w' => ∃ (x7_2 : List Int) (x9_2 : Int), v9 = .int .i64 x9_2 ∧ Aside0 (paronymref03_Points.l1 kq l0 a1 a2 x7_2 x8_1 x9_2 = some r) ∧ Aside0 (kq ≤ k1) ∧ Aside0 (Kd.R (Kd.int .i64) 3 w' w.heap.size (fun _ => True) v7 x7_2) ∧ Aside0 (Below w.heap.size w w'))
     case atStart => exact ⟨(x7_1), ((rd_T93 l0 x8_1).f0), (by first | rfl | (simp; done) | (simp [*]; done)), H', ⟨Nat.le_refl _⟩, ⟨by (with_reducible repeat (first | apply Kd.R_alloc | apply Kd.R_drewN | apply Kd.R_drew)); exact HO_7.out⟩, ⟨by repeat (first | (with_reducible first | exact HB.out | apply below_alloc | apply pw_below_drewN | apply below_drew1) | exact HB.out)⟩⟩
     case round =>
      clear H'
      try clear p1
      try clear q1
      try clear hx1
      try clear c2
      try clear p2
      try clear c4
      try clear c4b0
      try clear c5
      try clear c5b0
      try clear hx101_0
      try clear hx101_1
      try clear hx101_2
      try clear p101
      try clear p2
      try clear q101
      obtain ⟨x7_2, x9_2, rfl, HA, HK2, HO_7, HB⟩ := hrel
      cases gk with
      | zero => exact absurd HA.out (by simp [paronymref03_Points.l1])
      | succ k2 =>
       have H := HA.out
       clear HA
       simp only [paronymref03_Points.l1] at H
       by_cases c6 : 0 ≤ x8_1
       ·rw [if_pos c6] at H
        have c6b0 : decide (0 ≤ x8_1) = true := decide_eq_true c6
        clear c6
        by_cases c7 : x8_1 < (l0.length : Int)
        ·rw [if_pos c7] at H
         have c7b0 : decide (x8_1 < (l0.length : Int)) = true := decide_eq_true c7
         clear c7
         by_cases c8 : x9_2 ≤ ((rd_T93 l0 x8_1).f1)
         ·rw [if_pos c8] at H
          have c8b0 : decide (x9_2 ≤ ((rd_T93 l0 x8_1).f1)) = true := decide_eq_true c8
          clear c8
          by_cases c9 : (x7_2.length : Int) < a2
          ·rw [if_pos c9] at H
           have c9b0 : decide ((x7_2.length : Int) < a2) = true := decide_eq_true c9
           clear c9
           by_cases c10 : ((rd_T93 l0 x8_1).f2).toList = a1.toList
           ·rw [if_pos c10] at H
            have c10b0 : (((rd_T93 l0 x8_1).f2).toList == a1.toList) = true := beq_iff_eq.mpr c10
            have c10b1 : (((rd_T93 l0 x8_1).f2).toList != a1.toList) = false := bne_eq_false_iff_eq.mpr c10
            clear c10
            by_cases c11 : a1.toList = ([] : List UInt8)
            ·rw [if_pos c11] at H
             have c11b0 : (a1.toList == ([] : List UInt8)) = true := beq_iff_eq.mpr c11
             have c11b1 : (a1.toList != ([] : List UInt8)) = false := bne_eq_false_iff_eq.mpr c11
             clear c11
             have H' := Aside0.mk H
             clear H
             have p102 : 0 ≤ (x8_1 : Int) := of_decide_eq_true (by first | (with_reducible assumption) | assumption)
             have q102 : x8_1 < (l0.length : Int) := of_decide_eq_true (by first | (with_reducible assumption) | assumption)
             obtain ⟨ad102, e102, hx102_0, hx102_1, hx102_2⟩ := at_T93 HR0.out x8_1 p102 q102
             obtain rfl : ad101 = ad102 := (by injection e102)
             replace hx102_0 := (HB.out.cell (World.block_lt_of_cell? w _ hx102_0)).trans hx102_0
             replace hx102_1 := (HB.out.cell (World.block_lt_of_cell? w _ hx102_1)).trans hx102_1
             replace hx102_2 := (HB.out.cell (World.block_lt_of_cell? w _ hx102_2)).trans hx102_2
             replace p102 := eq_true p102
             replace q102 := eq_true q102
             obtain ⟨Ao12, co12, eo12⟩ := Kd.R_slice HO_7.out
             subst eo12
             have p103 : 0 ≤ (x8_1 : Int) := of_decide_eq_true (by first | (with_reducible assumption) | assumption)
             have q103 : x8_1 < (l0.length : Int) := of_decide_eq_true (by first | (with_reducible assumption) | assumption)
             obtain ⟨ad103, e103, hx103_0, hx103_1, hx103_2⟩ := at_T93 HR0.out x8_1 p103 q103
             obtain rfl : ad101 = ad103 := (by injection e103)
             replace hx103_0 := (HB.out.cell (World.block_lt_of_cell? w _ hx103_0)).trans hx103_0
             replace hx103_1 := (HB.out.cell (World.block_lt_of_cell? w _ hx103_1)).trans hx103_1
             replace hx103_2 := (HB.out.cell (World.block_lt_of_cell? w _ hx103_2)).trans hx103_2
             replace p103 := eq_true p103
             replace q103 := eq_true q103
             go_wp2
             go_roundg k2
             case measure => have := HK1.out; have := HK2.out; omega
             case rel => exact ⟨(x7_2), (wrap64 (x8_1 + 1)), (by first | rfl | (simp; done) | (simp [*]; done)), H', ⟨by have := HK1.out; have := HK2.out; omega⟩, ⟨by (with_reducible repeat (first | apply Kd.R_alloc | apply Kd.R_drewN | apply Kd.R_drew)); exact HO_7.out⟩, ⟨by repeat (first | (with_reducible first | exact HB.out | apply below_alloc | apply pw_below_drewN | apply below_drew1) | exact HB.out)⟩⟩
            ·rw [if_neg c11] at H
             have c11b0 : (a1.toList == ([] : List UInt8)) = false := beq_eq_false_iff_ne.mpr c11
             have c11b1 : (a1.toList != ([] : List UInt8)) = true := bne_iff_ne.mpr c11
             by_cases c13 : x7_2.length < 17592186044416
             ·rw [if_pos c13] at H
              have LMc13 := Aside0.mk c13
              clear c13
              obtain ⟨y104, hy104⟩ : ∃ y_ : List Int, y_ = (x7_2 ++ [x9_2]) := ⟨_, rfl⟩
              replace H : (paronymref03_Points.l1 k2 l0 a1 a2 y104 x8_1 (wrap64 (x9_2 + 1))) = some r := by first | (rw [hy104]; with_reducible exact H) | (have H2_ := (Option.bind_some _ _).symm.trans H; rw [hy104]; with_reducible exact H2_) | (have H2_ := (Option.bind_some _ _).symm.trans H; with_reducible exact H2_) | with_reducible exact H | (rw [hy104]; exact H) | exact H
              have Ny104 := Aside0.mk hy104
              clear hy104
              have H' := Aside0.mk H
              clear H
              have p102 : 0 ≤ (x8_1 : Int) := of_decide_eq_true (by first | (with_reducible assumption) | assumption)
              have q102 : x8_1 < (l0.length : Int) := of_decide_eq_true (by first | (with_reducible assumption) | assumption)
              obtain ⟨ad102, e102, hx102_0, hx102_1, hx102_2⟩ := at_T93 HR0.out x8_1 p102 q102
              obtain rfl : ad101 = ad102 := (by injection e102)
              replace hx102_0 := (HB.out.cell (World.block_lt_of_cell? w _ hx102_0)).trans hx102_0
              replace hx102_1 := (HB.out.cell (World.block_lt_of_cell? w _ hx102_1)).trans hx102_1
              replace hx102_2 := (HB.out.cell (World.block_lt_of_cell? w _ hx102_2)).trans hx102_2
              replace p102 := eq_true p102
              replace q102 := eq_true q102
              obtain ⟨Ao14, co14, eo14⟩ := Kd.R_slice HO_7.out
              subst eo14
              have p103 : 0 ≤ (x8_1 : Int) := of_decide_eq_true (by first | (with_reducible assumption) | assumption)
              have q103 : x8_1 < (l0.length : Int) := of_decide_eq_true (by first | (with_reducible assumption) | assumption)
              obtain ⟨ad103, e103, hx103_0, hx103_1, hx103_2⟩ := at_T93 HR0.out x8_1 p103 q103
              obtain rfl : ad101 = ad103 := (by injection e103)
              replace hx103_0 := (HB.out.cell (World.block_lt_of_cell? w _ hx103_0)).trans hx103_0
              replace hx103_1 := (HB.out.cell (World.block_lt_of_cell? w _ hx103_1)).trans hx103_1
              replace hx103_2 := (HB.out.cell (World.block_lt_of_cell? w _ hx103_2)).trans hx103_2
              replace p103 := eq_true p103
              replace q103 := eq_true q103
              go_wp2_with (first | ((with_reducible refine gate_builtin (b := .append) (xs := #[.tmp 49, .tmp 51]) rfl ?_); (try (refine gate_guard (by rfl) ?_; dsimp only)); at_builtin; refine Kd.R_append (Kd.int .i64) (w0 := w) w.heap.size rfl (.tmp 49) (.tmp 51) 39 3 (.int .i64 0) 8 rfl Tryz.underlying39 info3 rfl (by decide) (by omega) (.slice Ao14 x7_2.length co14) x7_2 x9_2 [.int .i64 x9_2] (fun _ => True) (fun _ => False) rfl rfl ?aP (fun _ hk => hk.elim) ?aF ?aO ?aB ?aS ?aL ?_; (case aP => exact rfl); (case aB => exact (by repeat (first | (with_reducible first | exact HB.out | apply below_alloc | apply pw_below_drewN | apply below_drew1) | exact HB.out))); (case aF => exact (fun _ _ => trivial)); (case aO => exact (by (with_reducible repeat (first | apply Kd.R_alloc | apply Kd.R_drewN | apply Kd.R_drew)); exact HO_7.out)); (case aS => exact (below_size (by repeat (first | (with_reducible first | exact HB.out | apply below_alloc | apply pw_below_drewN | apply below_drew1) | exact HB.out)))); (case aL => have := LMc13.out; omega); intro v105 w15 ho hb hg hat; rw [← Ny104.out] at ho; have n0_ := Aside0.mk (hb); have n1_ := Aside0.mk (ho); clear HB; clear HO_7; have HB := n0_; have HO106 := n1_; clear n0_ n1_; clear ho hb hg hat))
              go_roundg k2
              case measure => have := HK1.out; have := HK2.out; omega
              case rel => exact ⟨(y104), (wrap64 (x9_2 + 1)), (by first | rfl | (simp; done) | (simp [*]; done)), H', ⟨by have := HK1.out; have := HK2.out; omega⟩, ⟨by (with_reducible repeat (first | apply Kd.R_alloc | apply Kd.R_drewN | apply Kd.R_drew)); exact HO106.out⟩, ⟨by repeat (first | (with_reducible first | exact HB.out | apply below_alloc | apply pw_below_drewN | apply below_drew1) | exact HB.out)⟩⟩
             ·rw [if_neg c13] at H
              exact absurd H (by simp)
           ·rw [if_neg c10] at H
            have c10b0 : (((rd_T93 l0 x8_1).f2).toList == a1.toList) = false := beq_eq_false_iff_ne.mpr c10
            have c10b1 : (((rd_T93 l0 x8_1).f2).toList != a1.toList) = true := bne_iff_ne.mpr c10
            have H' := Aside0.mk H
            clear H
            have p102 : 0 ≤ (x8_1 : Int) := of_decide_eq_true (by first | (with_reducible assumption) | assumption)
            have q102 : x8_1 < (l0.length : Int) := of_decide_eq_true (by first | (with_reducible assumption) | assumption)
            obtain ⟨ad102, e102, hx102_0, hx102_1, hx102_2⟩ := at_T93 HR0.out x8_1 p102 q102
            obtain rfl : ad101 = ad102 := (by injection e102)
            replace hx102_0 := (HB.out.cell (World.block_lt_of_cell? w _ hx102_0)).trans hx102_0
            replace hx102_1 := (HB.out.cell (World.block_lt_of_cell? w _ hx102_1)).trans hx102_1
            replace hx102_2 := (HB.out.cell (World.block_lt_of_cell? w _ hx102_2)).trans hx102_2
            replace p102 := eq_true p102
            replace q102 := eq_true q102
            obtain ⟨Ao16, co16, eo16⟩ := Kd.R_slice HO_7.out
            subst eo16
            have p103 : 0 ≤ (x8_1 : Int) := of_decide_eq_true (by first | (with_reducible assumption) | assumption)
            have q103 : x8_1 < (l0.length : Int) := of_decide_eq_true (by first | (with_reducible assumption) | assumption)
            obtain ⟨ad103, e103, hx103_0, hx103_1, hx103_2⟩ := at_T93 HR0.out x8_1 p103 q103
            obtain rfl : ad101 = ad103 := (by injection e103)
            replace hx103_0 := (HB.out.cell (World.block_lt_of_cell? w _ hx103_0)).trans hx103_0
            replace hx103_1 := (HB.out.cell (World.block_lt_of_cell? w _ hx103_1)).trans hx103_1
            replace hx103_2 := (HB.out.cell (World.block_lt_of_cell? w _ hx103_2)).trans hx103_2
            replace p103 := eq_true p103
            replace q103 := eq_true q103
            go_wp2
            go_roundg k2
            case measure => have := HK1.out; have := HK2.out; omega
            case rel => exact ⟨(x7_2), (wrap64 (x8_1 + 1)), (by first | rfl | (simp; done) | (simp [*]; done)), H', ⟨by have := HK1.out; have := HK2.out; omega⟩, ⟨by (with_reducible repeat (first | apply Kd.R_alloc | apply Kd.R_drewN | apply Kd.R_drew)); exact HO_7.out⟩, ⟨by repeat (first | (with_reducible first | exact HB.out | apply below_alloc | apply pw_below_drewN | apply below_drew1) | exact HB.out)⟩⟩
          ·rw [if_neg c9] at H
           have c9b0 : decide ((x7_2.length : Int) < a2) = false := decide_eq_false c9
           clear c9
           have H' := Aside0.mk H
           clear H
           have p102 : 0 ≤ (x8_1 : Int) := of_decide_eq_true (by first | (with_reducible assumption) | assumption)
           have q102 : x8_1 < (l0.length : Int) := of_decide_eq_true (by first | (with_reducible assumption) | assumption)
           obtain ⟨ad102, e102, hx102_0, hx102_1, hx102_2⟩ := at_T93 HR0.out x8_1 p102 q102
           obtain rfl : ad101 = ad102 := (by injection e102)
           replace hx102_0 := (HB.out.cell (World.block_lt_of_cell? w _ hx102_0)).trans hx102_0
           replace hx102_1 := (HB.out.cell (World.block_lt_of_cell? w _ hx102_1)).trans hx102_1
           replace hx102_2 := (HB.out.cell (World.block_lt_of_cell? w _ hx102_2)).trans hx102_2
           replace p102 := eq_true p102
           replace q102 := eq_true q102
           obtain ⟨Ao17, co17, eo17⟩ := Kd.R_slice HO_7.out
           subst eo17
           go_wp2
           go_roundg k2
           case measure => have := HK1.out; have := HK2.out; omega
           case rel => exact ⟨(x7_2), (wrap64 (x8_1 + 1)), (by first | rfl | (simp; done) | (simp [*]; done)), H', ⟨by have := HK1.out; have := HK2.out; omega⟩, ⟨by (with_reducible repeat (first | apply Kd.R_alloc | apply Kd.R_drewN | apply Kd.R_drew)); exact HO_7.out⟩, ⟨by repeat (first | (with_reducible first | exact HB.out | apply below_alloc | apply pw_below_drewN | apply below_drew1) | exact HB.out)⟩⟩
         ·rw [if_neg c8] at H
          have c8b0 : decide (x9_2 ≤ ((rd_T93 l0 x8_1).f1)) = false := decide_eq_false c8
          clear c8
          have H' := Aside0.mk H
          clear H
          have p102 : 0 ≤ (x8_1 : Int) := of_decide_eq_true (by first | (with_reducible assumption) | assumption)
          have q102 : x8_1 < (l0.length : Int) := of_decide_eq_true (by first | (with_reducible assumption) | assumption)
          obtain ⟨ad102, e102, hx102_0, hx102_1, hx102_2⟩ := at_T93 HR0.out x8_1 p102 q102
          obtain rfl : ad101 = ad102 := (by injection e102)
          replace hx102_0 := (HB.out.cell (World.block_lt_of_cell? w _ hx102_0)).trans hx102_0
          replace hx102_1 := (HB.out.cell (World.block_lt_of_cell? w _ hx102_1)).trans hx102_1
          replace hx102_2 := (HB.out.cell (World.block_lt_of_cell? w _ hx102_2)).trans hx102_2
          replace p102 := eq_true p102
          replace q102 := eq_true q102
          go_wp2
          go_roundg k2
          case measure => have := HK1.out; have := HK2.out; omega
          case rel => exact ⟨(x7_2), (wrap64 (x8_1 + 1)), (by first | rfl | (simp; done) | (simp [*]; done)), H', ⟨by have := HK1.out; have := HK2.out; omega⟩, ⟨by (with_reducible repeat (first | apply Kd.R_alloc | apply Kd.R_drewN | apply Kd.R_drew)); exact HO_7.out⟩, ⟨by repeat (first | (with_reducible first | exact HB.out | apply below_alloc | apply pw_below_drewN | apply below_drew1) | exact HB.out)⟩⟩
        ·rw [if_neg c7] at H
         exact absurd H (by simp)
       ·rw [if_neg c6] at H
        exact absurd H (by simp)
    ·rw [if_neg c5] at H
     exact absurd H (by simp)
   ·rw [if_neg c4] at H
    have c4b0 : decide (x8_1 < (l0.length : Int)) = false := decide_eq_false c4
    clear c4
    obtain rfl := Option.some.inj H
    go_wp2
    go_ret
    exact ⟨_, by first | rfl | (simp [errW_none, errW_some] <;> rfl) | (simp [*, errW_none, errW_some] <;> rfl), by (with_reducible repeat (first | apply Kd.R_alloc | apply Kd.R_drewN | apply Kd.R_drew)); exact HO_7.out, by repeat (first | (with_reducible first | exact HB.out | apply below_alloc | apply pw_below_drewN | apply below_drew1) | exact HB.out)⟩
end Go.Proofs.YtbpdcbibooiimaaGreatDoor.Q
/- span: Points' function value; the reference's Points on lists. -/
namespace Go.Proofs.YtbpdcbibooiimaaGreatDoor.Q
open Go.RowKit Go.Shelf Go.Proofs.YtbpdcbibooiimaaGreatDoorW.PrintWords Go.Proofs.YtbpdcbibooiimaaGreatDoorW.PrintLast Go.Proofs.YtbpdcbibooiimaaGreatDoorW.PrintMore Go.Proofs.YtbpdcbibooiimaaGreatDoor.K
set_option maxHeartbeats 1000000 in
set_option maxRecDepth 100000 in
theorem span_Points.calls (p : Option Addr) (v : ByteArray) (w : World) :
    Calls Tryz.prog 54 #[.pointer p, .string v] w fun e w' => e = .returned (.func (.func 78) #[] #[.pointer (some ⟨w.heap.size + 1, 0, none⟩), .pointer (some ⟨w.heap.size, 0, none⟩)]) ∧ w' = (w.alloc (.cells #[.pointer p] 26)).alloc (.cells #[.string v] 9) := by
  go_enter Tryz.func54, Tryz.ntmps54
  go_wp2
  go_ret
  exact ⟨rfl, rfl⟩
theorem ptsOf_in {L : List S83} (h : SpOK L) (v : ByteArray) : ptsOf L v = ptsIn v L := by
  unfold ptsOf
  split
  · rename_i hv
    unfold ptsIn
    symm
    rw [List.flatMap_eq_nil_iff]
    intro s hs
    rw [if_neg (fun e => (h.2 s hs).2.2.2 (by rw [e, hv]))]
  · rfl
theorem spanPts_drop (s : S83) (j : Nat) (h : s.f0 + (j : Int) ≤ s.f1) : (spanPts s).drop j = (s.f0 + (j : Int)) :: (spanPts s).drop (j + 1) := by
  have hl : j < (spanPts s).length := by rw [spanPts_len]; omega
  rw [List.drop_eq_getElem_cons hl]
  simp [spanPts]
theorem refPoints_ev {L : List S83} (hl : L.length ≤ 1000) (hL : SpOK L) (v : ByteArray) (m : Nat) (hm : m ≤ 100000) : Ev (fun k => paronymref03_Points.f k (L.map c53) v (m : Int)) ((ptsOf L v).take m) := by
  rw [ptsOf_in hL]
  have key : ∀ (d i : Nat) (acc : List Int), L.length - i = d → i ≤ L.length → acc.length ≤ m → Ev (fun k => paronymref03_Points.l0 k (L.map c53) v (m : Int) acc (i : Int)) ((acc ++ ptsIn v (L.drop i)).take m) := by
    intro d
    induction d with
    | zero =>
      intro i acc h1 h2 h3
      refine Ev.step (fun k => rfl) (Ev.neg (by rw [List.length_map]; omega) ?_)
      rw [List.drop_eq_nil_of_le (by omega)]
      unfold ptsIn
      rw [List.flatMap_nil, List.append_nil, List.take_of_length_le h3]
      exact Ev.now _
    | succ d ih =>
      intro i acc h1 h2 h3
      have hi : i < L.length := by omega
      have hval := hL.at hi
      rw [List.drop_eq_getElem_cons hi]
      obtain ⟨s, hs⟩ : ∃ s, s = L[i] := ⟨_, rfl⟩
      rw [← hs] at hval ⊢
      have hrd : rd_T93 (L.map c53) (i : Int) = c53 s := by rw [rdc i hi, hs]
      obtain ⟨hv0, hv1, hv2, hv3⟩ := hval
      have hstep : ∀ (q j : Nat) (acc : List Int), (s.f1 + 1 - s.f0).toNat - j = q → j ≤ (s.f1 + 1 - s.f0).toNat → acc.length ≤ m →
          Ev (fun k => paronymref03_Points.l1 k (L.map c53) v (m : Int) acc (i : Int) (s.f0 + (j : Int))) ((acc ++ (if s.f2.toList = v.toList then (spanPts s).drop j else []) ++ ptsIn v (L.drop (i + 1))).take m) := by
        intro q
        induction q with
        | zero =>
          intro j acc g1 g2 g3
          have hn := ih (i + 1) acc (by omega) (by omega) g3
          refine Ev.step (fun k => rfl) (Ev.pos (by omega) (Ev.pos (by rw [List.length_map]; omega) ?_))
          rw [hrd, w64 (n := (i : Int) + 1) (by omega) (by omega)]
          refine Ev.neg (show ¬ s.f0 + (j : Int) ≤ s.f1 by omega) ?_
          have : (if s.f2.toList = v.toList then (spanPts s).drop j else []) = [] := by
            split
            · exact List.drop_eq_nil_of_le (by rw [spanPts_len]; omega)
            · rfl
          rw [this, List.append_nil]
          exact hn
        | succ q ihq =>
          intro j acc g1 g2 g3
          have hn := ih (i + 1) acc (by omega) (by omega) g3
          have hle : s.f0 + (j : Int) ≤ s.f1 := by omega
          refine Ev.step (fun k => rfl) (Ev.pos (by omega) (Ev.pos (by rw [List.length_map]; omega) ?_))
          rw [hrd, w64 (n := (i : Int) + 1) (by omega) (by omega)]
          refine Ev.pos (show s.f0 + (j : Int) ≤ s.f1 from hle) ?_
          by_cases c1 : acc.length < m
          · refine Ev.pos (show (acc.length : Int) < (m : Int) by omega) ?_
            by_cases c2 : s.f2.toList = v.toList
            · refine Ev.pos (show (c53 s).f2.toList = v.toList from c2) (Ev.neg (fun e => hv3 (by rw [c2, e])) (Ev.pos (show acc.length < 17592186044416 by omega) ?_))
              have h := ihq (j + 1) (acc ++ [s.f0 + (j : Int)]) (by omega) (by omega) (by rw [List.length_append]; simp; omega)
              rw [if_pos c2] at h ⊢
              rw [spanPts_drop s j hle]
              rw [w64 (n := s.f0 + (j : Int) + 1) (by omega) (by omega), show s.f0 + (j : Int) + 1 = s.f0 + ((j + 1 : Nat) : Int) by omega]
              simpa using h
            · refine Ev.neg (show ¬ (c53 s).f2.toList = v.toList from c2) ?_
              rw [if_neg c2, List.append_nil]
              exact hn
          · refine Ev.neg (show ¬ (acc.length : Int) < (m : Int) by omega) ?_
            have e : acc.length = m := by omega
            rw [List.take_append_of_le_length (by omega)] at hn
            rw [List.append_assoc, List.take_append_of_le_length (by omega)]
            exact hn
      refine Ev.step (fun k => rfl) (Ev.pos (by rw [List.length_map]; omega) (Ev.pos (by omega) ?_))
      rw [hrd]
      have h := hstep (s.f1 + 1 - s.f0).toNat 0 acc (by omega) (by omega) h3
      rw [List.drop_zero] at h
      have e1 : ptsIn v (s :: L.drop (i + 1)) = (if s.f2.toList = v.toList then spanPts s else []) ++ ptsIn v (L.drop (i + 1)) := by unfold ptsIn; rw [List.flatMap_cons]
      rw [e1, ← List.append_assoc]
      have e2 : (c53 s).f0 = s.f0 + ((0 : Nat) : Int) := by show s.f0 = _; omega
      rw [e2]
      exact h
  have := key L.length 0 [] (by omega) (by omega) (by simp)
  rw [List.nil_append, List.drop_zero] at this
  unfold paronymref03_Points.f
  exact this
theorem refPoints_calls (A : Option Addr) (n : Nat) (L : List S83) (M : List S93) (v : ByteArray) (m : Nat) (X : List Int) (w : World) (hX : X = (ptsOf L v).take m) (hm : m ≤ 100000) (hM : M = L.map c53) (hr : Kd.C k93 w A M.length M) (hc : M.length ≤ n) (hl : L.length ≤ 1000) (hL : SpOK L) :
    Calls Tryz.prog 22 #[.slice A M.length n, .string v, .int .i64 (m : Int)] w fun e w' => ∃ u, e = .returned u ∧ Kd.R (Kd.int .i64) 3 w' w.heap.size (fun _ => True) u X ∧ Below w.heap.size w w' := by
  subst hX hM
  obtain ⟨k, hk⟩ := (refPoints_ev hl hL v m hm).rounds
  exact paronymref03_Points.calls k A n _ v _ _ w hr hc hk
theorem sameI_calls (A A' : Option Addr) (c c' : Nat) (l : List Int) (w : World) (hr : Kd.C (Kd.int .i64) w A l.length l) (hc : l.length ≤ c) (hr' : Kd.C (Kd.int .i64) w A' l.length l) (hc' : l.length ≤ c') (hl : l.length ≤ 1000000) :
    Calls Tryz.prog 20 #[.slice A l.length c, .slice A' l.length c'] w fun e w' => e = .returned (.bool true) ∧ Below w.heap.size w w' := by
  obtain ⟨k, hk⟩ := (refSame_ev l l (by omega) (by omega)).rounds
  rw [decide_eq_true rfl] at hk
  exact (paronymref01_Same.calls k A c l A' c' l true w hr hc hr' hc' hk).mono fun e w' h => ⟨h.1, h.2.below⟩
end Go.Proofs.YtbpdcbibooiimaaGreatDoor.Q
/- prop.Points: the walk. -/
namespace Go.Proofs.YtbpdcbibooiimaaGreatDoor.Q
open Go.RowKit Go.Shelf Go.Proofs.YtbpdcbibooiimaaGreatDoorW.PrintWords Go.Proofs.YtbpdcbibooiimaaGreatDoorW.PrintLast Go.Proofs.YtbpdcbibooiimaaGreatDoorW.PrintMore Go.Proofs.YtbpdcbibooiimaaGreatDoor.K
attribute [local go_sem] Oper.semAt_some
theorem info_int3 : (Tryz.prog.info? 3).map (fun i => (i.zero, i.size, i.bytes)) = some (some (.int .i64 0), 1, 8) := by kernel_rfl
theorem row_putD {α : Type} {d : Kd α} {e B D : Nat} {W : World} {v : Value} {xs : List α} {o : Obj} (h : Kd.R d e W B (fun _ => True) v xs) (hD : W.heap[D]? = some (.deferred (some []))) : Kd.R d e (W.putObj D o) B (fun _ => True) v xs :=
  Kd.R_mono (Kd.R_step (Kd.R_bound h) (fun k hk _ => World.putObj_heap_other (fun e => by
    subst e
    obtain ⟨_, _, _, q, _, cells, hc⟩ := hk
    rw [hD] at hc
    cases hc))) (fun k hk => hk.1)
def poI (w : World) (B : Nat) (pre : List Int) (W : World) : Prop := (∃ u, Boxed W w.heap.size 39 u ∧ Kd.R (Kd.int .i64) 3 W B (fun _ => True) u pre) ∧ (Below w.heap.size w W ∧ B ≤ W.heap.size) ∧ pre.length ≤ 4096
theorem poI_own (w : World) (B B' : Nat) (hB : w.heap.size ≤ B') : OwnFrom B' (poI w B) := fun s W W' row hs hg hr => by
  obtain ⟨⟨u, h1, h2⟩, ⟨h4, h5⟩, h6⟩ := hs
  exact ⟨⟨u, boxed_own w.heap.size 39 (fun _ : Unit => u) () W W' row h1 hg (fun r e => (hr r e).2), rowK_own (B := B') () W W' row h2 hg hr⟩, ⟨ownFrom_below (β := Unit) (Nat.le_refl _) hB () W W' row h4 hg hr, Nat.le_trans h5 hg.size⟩, h6⟩
theorem poI_step {w W W2 : World} {B B' : Nat} {pre : List Int} {x : Int} {u v2 : Value} (hB : w.heap.size < B) (hb : Boxed W w.heap.size 39 u) (hbel : Below w.heap.size w W) (hsz : B ≤ W.heap.size)
    (hR : Kd.R (Kd.int .i64) 3 W B (fun _ => True) u pre) (hR2 : Kd.R (Kd.int .i64) 3 W2 B (fun _ => True) v2 (pre ++ [x])) (hg : W.grownBy W2 u.ownBlock) (hl : pre.length < 4096) :
    KeepsFrom B' W (W2.setCell ⟨w.heap.size, 0, none⟩ v2) ∧ KeepO (QT [3, 39]) W (W2.setCell ⟨w.heap.size, 0, none⟩ v2) ∧ poI w B (pre ++ [x]) (W2.setCell ⟨w.heap.size, 0, none⟩ v2) := by
  obtain ⟨inner, ho⟩ := Kd.R_own hR
  obtain ⟨inner2, ho2⟩ := Kd.R_own hR2
  have hne : some w.heap.size ≠ u.ownBlock := fun e => by have := own_base ho _ e.symm; omega
  have hb2 : Boxed W2 w.heap.size 39 u := hb.kept hg hne
  have k2 : KeepsOthers W W2 := KeepsOthers.of_grownBy hg (fun j ob hj hob => by
    obtain ⟨cells, hc⟩ := own_typed ho j hj
    rw [hc] at hob
    injection hob with hob
    rw [← hob]; rfl)
  refine ⟨(k2.trans (KeepsOthers.setCell _ _ _)).from B', ?_, ⟨v2, Boxed.set _ hb2, ?_⟩, ⟨?_, ?_⟩, ?_⟩
  · refine KeepO.trans (KeepO.grown hg (fun k o hk hoo hc hq => ?_)) (KeepO.of_set (fun o hoo hq => ?_))
    · obtain ⟨cells, hc2⟩ := own_typed ho k hk
      rw [hc2] at hoo
      cases hoo
      obtain ⟨cs, t, f, e, hn⟩ := hq
      cases e
      exact hn (by decide)
    · have hbb : W2.heap[w.heap.size]? = some (.cells #[u] 39 (0, 0)) := hb2
      rw [hbb] at hoo
      cases hoo
      obtain ⟨cs, t, f, e, hn⟩ := hq
      cases e
      exact hn (by decide)
  · exact Kd.R_mono (Kd.R_far (p := ⟨w.heap.size, 0, none⟩) (Kd.R_bound hR2) (fun k hk e => by have := hk.2.1; simp only at e; omega) _) (fun _ _ => trivial)
  · exact (hbel.grown hg hbel.size (fun k e => by have := own_base ho k e; omega)).setCell (p := ⟨w.heap.size, 0, none⟩) (Nat.le_refl _) _
  · have := hg.size
    show B ≤ (W2.setCell _ _).heap.size
    simp; omega
  · rw [List.length_append]; simp; omega
set_option maxHeartbeats 8000000 in
set_option maxRecDepth 100000 in
theorem prop_Points.calls (p : Option Addr) (L : List S83) (v : ByteArray) (w : World) (hT : Tab w p L) (hl : L.length ≤ 1000) (hL : SpOK L) :
    Calls Tryz.prog 21 #[.pointer p, .string v] w fun e w' => ∃ u, e = .returned u ∧ Kd.R (Kd.int .i64) 3 w' w.heap.size (fun _ => True) u ((ptsOf L v).take 4096) ∧ Below w.heap.size w w' := by
  have HT := Aside0.mk hT
  have HLL := Aside0.mk hl
  have HOK := Aside0.mk hL
  clear hT hl hL
  refine (callsIn_wide (n := 20)).1 ?_
  refine callsIn_of_wp_marks Tryz.func21 rfl trivial ?_ rfl
  simp only [Tryz.ntmps21, List.size_toArray, List.length_cons, List.length_nil, Nat.reduceAdd, Nat.reduceSub, Array.replicate_succ, Array.replicate_zero, List.push_toArray, List.append_toArray, List.nil_append, List.cons_append]
  gi_wp2_with (refine ⟨trivial, ?_⟩; gi_at_call 54; refine (callsIn_wide.2 (span_Points.calls _ v _)).mono ?_; rintro e w7 ⟨rfl, rfl⟩)
  have hbA : Below w.heap.size w (((w.alloc (.cells #[.slice none 0 0] 39)).alloc (.cells #[.pointer p] 26)).alloc (.cells #[.string v] 9)) := (((Below.refl _ w).alloc (Nat.le_refl _) _).alloc (by simp) _).alloc (by simp; omega) _
  have hsz : (((w.alloc (.cells #[.slice none 0 0] 39)).alloc (.cells #[.pointer p] 26)).alloc (.cells #[.string v] 9)).heap.size = w.heap.size + 3 := by simp
  have hg7 : Boxed (((w.alloc (.cells #[.slice none 0 0] 39)).alloc (.cells #[.pointer p] 26)).alloc (.cells #[.string v] 9)) w.heap.size 39 (.slice none 0 0) := ((Boxed.new w _ _).alloc _).alloc _
  have ht7 : Boxed (((w.alloc (.cells #[.slice none 0 0] 39)).alloc (.cells #[.pointer p] 26)).alloc (.cells #[.string v] 9)) (w.heap.size + 1) 26 (.pointer p) := by
    have := (Boxed.new (w.alloc (.cells #[.slice none 0 0] 39)) 26 (.pointer p)).alloc (.cells #[.string v] 9)
    rwa [World.size_alloc] at this
  have hv7 : Boxed (((w.alloc (.cells #[.slice none 0 0] 39)).alloc (.cells #[.pointer p] 26)).alloc (.cells #[.string v] 9)) (w.heap.size + 2) 9 (.string v) := by
    have := Boxed.new ((w.alloc (.cells #[.slice none 0 0] 39)).alloc (.cells #[.pointer p] 26)) 9 (.string v)
    rwa [World.size_alloc, World.size_alloc] at this
  generalize hw7 : (((w.alloc (.cells #[.slice none 0 0] 39)).alloc (.cells #[.pointer p] 26)).alloc (.cells #[.string v] 9)) = w7 at *
  clear hw7
  have HST := Aside0.mk (span_Points.stops L HLL.out HOK.out v p (w.heap.size + 2) (w.heap.size + 1) w7 hv7 ht7 (HT.out.below hbA) 19 (by omega))
  have HI0 : Aside0 (poI w w7.heap.size [] w7) := ⟨⟨_, hg7, Kd.R_nil _ _ _ _ _⟩, ⟨hbA, Nat.le_refl _⟩, Nat.zero_le _⟩
  have HSZ := Aside0.mk hsz
  clear hbA hsz hg7 ht7 hv7
  refine wpIn_range_w rfl (by omega) (gf := 78) (lb := #[Value.pointer (some { block := w.heap.size + 2, off := 0 }), Value.pointer (some { block := w.heap.size + 1, off := 0 })]) rfl trivial (enters_of Tryz.func78 (by kernel_rfl) rfl)
    HST.out KeepO.trans keepO_put (Below.refl _ _) (fun _ => rfl)
    (poI w w7.heap.size) (fun c xs W => c = .exit 0 ∧ ∃ pre x, xs = pre ++ [x] ∧ pre.length = 4096 ∧ poI w w7.heap.size pre W) (poI_own w _ _ (by have := HSZ.out; omega))
    (fun c s W W' row hs hg hr => by
      obtain ⟨h1, pre, x, h2, h3, h4⟩ := hs
      exact ⟨h1, pre, x, h2, h3, poI_own w _ _ (by have := HSZ.out; omega) pre W W' row h4 hg hr⟩) HI0.out
    (fun pre x a1 W => a1 = { tmps := #[Value.pointer p, Value.string v, undef, undef, Value.slice none 0 0, Value.pointer (some ⟨w.heap.size, 0, none⟩), Value.int IntKind.i64 x, Value.pointer p, Value.string v, Value.func (Fn.func 78) #[] #[Value.pointer (some ⟨w.heap.size + 1 + 1, 0, none⟩), Value.pointer (some ⟨w.heap.size + 1, 0, none⟩)], Value.int IntKind.i64 x, undef, undef, undef, undef, undef, undef, undef, undef], defers := [] } ∧ poI w w7.heap.size pre W)
    (fun pre x a1 s W W' row hs hg hr => ⟨hs.1, poI_own w _ _ (by have := HSZ.out; omega) pre W W' row hs.2 hg hr⟩) ?assign ?body ?done ?stop
  case assign =>
    rintro l' pre x W K hI - hK
    have HI := Aside0.mk hI
    have HK := Aside0.mk hK
    clear hI hK
    gi_wp2
    exact HK.out _ _ (KeepsFrom.refl _ _) (KeepO.refl _ _) ⟨rfl, HI.out⟩
  case body =>
    rintro l' pre x a1 W ⟨rfl, ⟨u, hu, hR⟩, ⟨hbel, hsz⟩, hlen⟩ hsp
    obtain ⟨A5, c5, hv5⟩ := Kd.R_slice hR
    subst hv5
    have hcu := hu.cell
    have hfu := hu.frozen
    have HU := Aside0.mk hu
    have HR5 := Aside0.mk hR
    have HBL := Aside0.mk hbel
    have HSW := Aside0.mk hsz
    have HLEN := Aside0.mk hlen
    clear hu hR hbel hsz hlen hsp
    by_cases c1 : pre.length < 4096
    · have d1 : ((pre.length : Int) == 4096) = false := beq_eq_false_iff_ne.mpr (by omega)
      have d2 : decide (pre.length = 4096) = false := decide_eq_false (by omega)
      have d3 : (pre.length == 4096) = false := beq_eq_false_iff_ne.mpr (by omega)
      have HC1 := Aside0.mk c1
      obtain ⟨i0, hi0, hii⟩ := Option.map_eq_some_iff.1 info_int3
      simp only [Prod.mk.injEq] at hii
      have hown := Kd.own_of_R HR5.out
      have hown1 : (W.alloc (.cells #[.int .i64 x] 3)).ownsRow w7.heap.size 3 1 (.slice A5 pre.length c5) pre.length (encs (Value.int .i64) pre) := own_move hown (fun k hk => Below.heap_alloc W _ k (own_lt hown k hk))
      have hnc : ∀ j u, ([.int .i64 x] : List Value)[j]? = some u → (W.alloc (.cells #[.int .i64 x] 3)).cell? ((⟨W.heap.size, 0, none⟩ : Addr).add j) = some u := fun j u hj => by
        rw [Addr.add_lit]; simp only [World.cell?]; rw [World.alloc_heap_new]; simpa using hj
      have HOWN := Aside0.mk hown1
      clear c1 hown hown1
      gi_wp2_with (gi_at_builtin; refine wpListIn_append_own _ rfl _ _ 39 rfl w7.heap.size 3 i0 _ 1 8 Tryz.underlying39 hi0 hii.1 hii.2.1 hii.2.2 rfl (by omega) _ pre.length (encs (Value.int .i64) pre) rfl HOWN.out ⟨W.heap.size, 0, none⟩ 1 1 [.int .i64 x] rfl rfl hnc (by simp [Value.oneCell']) (by simp only [maxLen]; have := HLEN.out; omega) (by have := HLEN.out; omega) (by simp; have := HSW.out; omega) ?_; (intro v2 W2 ho2 hg2 _; have hb2 := (HU.out.alloc (.cells #[.int .i64 x] 3)).kept hg2 (fun e => by have := own_base HOWN.out _ e.symm; have := HSZ.out; omega); have hc2 := hb2.cell; have hf2 := hb2.frozen; obtain ⟨A7, c7, rfl⟩ := own_some ho2; have HO2 := Aside0.mk ho2; have HG2 := Aside0.mk hg2; clear ho2 hg2 hb2 hcu hfu hnc hii hi0))
      refine poI_step (by have := HSZ.out; omega) HU.out HBL.out HSW.out HR5.out ?_ (World.grownBy.trans (World.grownBy_alloc W _ _) HG2.out) HC1.out
      exact Kd.R_of_own (by have := HO2.out; rw [List.length_append]; simpa [encs] using this) (fun _ _ => trivial)
    · have he : pre.length = 4096 := by have := HLEN.out; omega
      have d1 : ((pre.length : Int) == 4096) = true := beq_iff_eq.mpr (by omega)
      have d2 : decide (pre.length = 4096) = true := decide_eq_true he
      have d3 : (pre.length == 4096) = true := beq_iff_eq.mpr he
      have HE := Aside0.mk he
      clear c1 he
      gi_wp2
      exact ⟨KeepsFrom.refl _ _, rfl, pre, x, rfl, HE.out, ⟨_, HU.out, HR5.out⟩, ⟨HBL.out, HSW.out⟩, HLEN.out⟩
  case done =>
    rintro D ys W hD hys hI hK
    subst hys
    obtain ⟨⟨u, hu, hR⟩, ⟨hbel, hsz⟩, hlen⟩ := hI
    have hX : (ptsOf L v).take 4096 = ptsOf L v := List.take_of_length_le hlen
    have hcu := hu.cell
    have HX := Aside0.mk hX
    have HR8 := Aside0.mk hR
    have HK := Aside0.mk hK
    have HBW := Aside0.mk hbel
    have HD := Aside0.mk hD
    clear hu hR hbel hsz hlen hX hK hD
    gi_wp2
    have hDw : w.heap.size ≤ D := by have := HSZ.out; have := HD.out; omega
    refine ⟨by simp, .inl ⟨_, _, rfl, run_takeDeferred (w := W) HK.out, ?_⟩⟩
    refine ⟨_, by simp [results, Tryz.results21, go_sem], u, rfl, ?_, HBW.out.trans (belowK_b (w := w) (Nat.le_refl _) W D _ _ hDw HK.out rfl rfl)⟩
    rw [HX.out]
    exact row_putD (Kd.R_lower HR8.out (by have := HSZ.out; omega)) HK.out
  case stop =>
    rintro D c xs W hD hSp ⟨rfl, pre, x, rfl, hl, hI⟩ hK
    obtain ⟨⟨u, hu, hR⟩, ⟨hbel, hsz⟩, hlen⟩ := hI
    have hX : (ptsOf L v).take 4096 = pre := by
      obtain ⟨r, hr⟩ := hSp
      rw [← hr, List.append_assoc, List.take_append_of_le_length (by omega), List.take_of_length_le (by omega)]
    have hcu := hu.cell
    have HX := Aside0.mk hX
    have HR8 := Aside0.mk hR
    have HK := Aside0.mk hK
    have HBW := Aside0.mk hbel
    have HD := Aside0.mk hD
    clear hu hR hbel hsz hlen hX hK hD
    gi_wp2
    have hDw : w.heap.size ≤ D := by have := HSZ.out; have := HD.out; omega
    refine ⟨by simp, .inl ⟨_, _, rfl, run_takeDeferred (w := W) HK.out, ?_⟩⟩
    refine ⟨_, by simp [results, Tryz.results21, go_sem], u, rfl, ?_, HBW.out.trans (belowK_b (w := w) (Nat.le_refl _) W D _ _ hDw HK.out rfl rfl)⟩
    rw [HX.out]
    exact row_putD (Kd.R_lower HR8.out (by have := HSZ.out; omega)) HK.out
end Go.Proofs.YtbpdcbibooiimaaGreatDoor.Q
/- PropPoints: the walk. -/
namespace Go.Proofs.YtbpdcbibooiimaaGreatDoor.Q
open Go.RowKit Go.Shelf Go.Proofs.YtbpdcbibooiimaaGreatDoorW.PrintWords Go.Proofs.YtbpdcbibooiimaaGreatDoorW.PrintLast Go.Proofs.YtbpdcbibooiimaaGreatDoorW.PrintMore Go.Proofs.YtbpdcbibooiimaaGreatDoor.K
theorem p5_points (p : Option Addr) (L : List S83) (v : ByteArray) (X : List Int) (hX : X = (ptsOf L v).take 4096) (w : World) (hT : Tab w p L) (hl : L.length ≤ 1000) (hL : SpOK L) :
    Calls Tryz.prog 21 #[.pointer p, .string v] w fun e w' => ∃ A c, e = .returned (.slice A X.length c) ∧ X.length ≤ c ∧ Kd.C (Kd.int .i64) w' A X.length X ∧ Below w.heap.size w w' := by
  subst hX
  refine (prop_Points.calls p L v w hT hl hL).mono fun e w' ⟨u, he, hR, hb⟩ => ?_
  obtain ⟨A, c, rfl, h1, h2⟩ := Kd.R_reads hR
  exact ⟨A, c, he, h1, h2, hb⟩
theorem p5_refpts (A : Option Addr) (n : Nat) (L : List S83) (M : List S93) (v : ByteArray) (X : List Int) (w : World) (hX : X = (ptsOf L v).take 4096) (hM : M = L.map c53) (hr : Kd.C k93 w A M.length M) (hc : M.length ≤ n) (hl : L.length ≤ 1000) (hL : SpOK L) :
    Calls Tryz.prog 22 #[.slice A M.length n, .string v, .int .i64 4096] w fun e w' => ∃ A' c', e = .returned (.slice A' X.length c') ∧ X.length ≤ c' ∧ Kd.C (Kd.int .i64) w' A' X.length X ∧ Below w.heap.size w w' :=
  (refPoints_calls A n L M v 4096 X w hX (by omega) hM hr hc hl hL).mono fun e w' ⟨u, he, hR, hb⟩ => by
    obtain ⟨A', c', rfl, h1, h2⟩ := Kd.R_reads hR
    exact ⟨A', c', he, h1, h2, hb⟩
set_option maxHeartbeats 4000000 in
set_option maxRecDepth 100000 in
theorem paronymlaw05_PropPoints.out (A : Option Addr) (c : Nat) (L : List Int) (s : ByteArray) (w : World) (hE : EnvF w) (h : 800 < L.length ∨ 30 < s.size) :
    Calls Tryz.prog 5 #[.slice A L.length c, .string s] w fun e w' => e = .returned (.bool true) ∧ Below w.heap.size w w' := by
  have HE := Aside0.mk hE
  clear hE
  have HB := Aside0.mk (Below.refl w.heap.size w)
  by_cases hl : 800 < L.length
  · have e0 : ((800 : Int) < (L.length : Int)) = True := eq_true (by omega)
    have e1 : decide ((800 : Int) < (L.length : Int)) = true := decide_eq_true (by omega)
    clear hl h
    go_enter Tryz.func5, Tryz.ntmps5
    go_wp2_with (go_at_call 13; (with_reducible refine (paronymlaw05_awake.calls0 _ (HE.out.below HB.out)).mono ?_); rintro e w1 ⟨rfl, hb⟩; have HB := Aside0.mk (HB.out.trans (hb.mono HB.out.size)); clear hb)
    go_ret
    exact ⟨rfl, HB.out⟩
  · have e0 : ((800 : Int) < (L.length : Int)) = False := eq_false (by omega)
    have e1 : decide ((800 : Int) < (L.length : Int)) = false := decide_eq_false (by omega)
    have e2 : ((30 : Int) < (s.size : Int)) = True := eq_true (by omega)
    have e3 : decide ((30 : Int) < (s.size : Int)) = true := decide_eq_true (by omega)
    clear hl h
    go_enter Tryz.func5, Tryz.ntmps5
    go_wp2_with (go_at_call 13; (with_reducible refine (paronymlaw05_awake.calls0 _ (HE.out.below HB.out)).mono ?_); rintro e w1 ⟨rfl, hb⟩; have HB := Aside0.mk (HB.out.trans (hb.mono HB.out.size)); clear hb)
    go_ret
    exact ⟨rfl, HB.out⟩
set_option maxHeartbeats 4000000 in
set_option maxRecDepth 100000 in
theorem paronymlaw05_PropPoints.main (A : Option Addr) (c : Nat) (L : List Int) (ho : Oct L) (s : ByteArray) (w : World) (hE : EnvF w) (hl : L.length ≤ 800) (hs : ¬ 30 < s.size) (hr : Kd.C (Kd.int .u8) w A L.length L) (hc : L.length ≤ c) :
    Calls Tryz.prog 5 #[.slice A L.length c, .string s] w fun e w' => e = .returned (.bool true) ∧ Below w.heap.size w w' := by
  have HE := Aside0.mk hE
  have HR := Aside0.mk hr
  have HC := Aside0.mk hc
  have HO := Aside0.mk ho
  obtain ⟨M, hM⟩ : ∃ M, M = (tabL (ppA [] L).1).map c53 := ⟨_, rfl⟩
  obtain ⟨X, hX⟩ : ∃ X, X = (ptsOf (tabL (ppA [] L).1) s).take 4096 := ⟨_, rfl⟩
  have HM := Aside0.mk hM
  have HX := Aside0.mk hX
  have HXL : Aside0 (X.length ≤ 1000000) := ⟨by rw [hX, List.length_take]; omega⟩
  have HTL : Aside0 ((tabL (ppA [] L).1).length ≤ 1000) := ⟨ppA_len (by omega)⟩
  have HL : Aside0 (L.length ≤ 50000) := ⟨by omega⟩
  have HL2 : Aside0 (L.length ≤ 100000) := ⟨by omega⟩
  have e0 : ((800 : Int) < (L.length : Int)) = False := eq_false (by omega)
  have e1 : decide ((800 : Int) < (L.length : Int)) = false := decide_eq_false (by omega)
  have e2 : ((30 : Int) < (s.size : Int)) = False := eq_false (by omega)
  have e3 : decide ((30 : Int) < (s.size : Int)) = false := decide_eq_false (by omega)
  clear hE hl hr hc ho hs hM hX
  have HB := Aside0.mk (Below.refl w.heap.size w)
  go_enter Tryz.func5, Tryz.ntmps5
  go_wp2_with (first
    | (go_at_call 13; (with_reducible refine (paronymlaw05_awake.calls0 _ (HE.out.below HB.out)).mono ?_); rintro e w1 ⟨rfl, hb⟩; have HB := Aside0.mk (HB.out.trans (hb.mono HB.out.size)); clear hb)
    | (go_at_call 15; (with_reducible refine (p5_parse0 A c HO.out HL2.out _ (HE.out.below HB.out) (Kd.C_below HR.out HB.out) HC.out).mono ?_); rintro e w3 ⟨q, rfl, hT, hq, hb⟩; have HT := Aside0.mk hT; have HB := Aside0.mk (HB.out.trans (hb.mono HB.out.size)); clear hb hT hq
       have hcx := Kd.C_string (P := Tryz.prog) (c := c) Tryz.underlying22 Tryz.underlying5 Tryz.underlying9 (Kd.C_below HR.out HB.out))
    | (go_at_call 16; (with_reducible refine (p5_ref0 HO.out HL.out _ HM.out).mono ?_); rintro e w4 ⟨A4, c4, rfl, hc4, hC4, hb⟩; have HC4 := Aside0.mk hC4; have Hc4 := Aside0.mk hc4; have HT4 := Aside0.mk (HT.out.below hb); have HB := Aside0.mk (HB.out.trans (hb.mono HB.out.size)); clear hb hC4 hc4 hcx)
    | (go_at_call 21; (with_reducible refine (p5_points _ _ s X HX.out _ HT4.out HTL.out ppA_ok).mono ?_); rintro e w5 ⟨A5, c5, rfl, hc5, hC5, hb⟩; have HC5 := Aside0.mk hC5; have Hc5 := Aside0.mk hc5; have HC45 := Aside0.mk (Kd.C_below HC4.out hb); have HB := Aside0.mk (HB.out.trans (hb.mono HB.out.size)); clear hb hC5 hc5)
    | (go_at_call 22; (with_reducible refine (p5_refpts A4 c4 _ M s X _ HX.out HM.out HC45.out Hc4.out HTL.out ppA_ok).mono ?_); rintro e w6 ⟨A6, c6, rfl, hc6, hC6, hb⟩; have HC6 := Aside0.mk hC6; have Hc6 := Aside0.mk hc6; have HC56 := Aside0.mk (Kd.C_below HC5.out hb); have HB := Aside0.mk (HB.out.trans (hb.mono HB.out.size)); clear hb hC6 hc6)
    | (go_at_call 20; (with_reducible refine (sameI_calls A5 A6 c5 c6 X _ HC56.out Hc5.out HC6.out Hc6.out HXL.out).mono ?_); rintro e w7 ⟨rfl, hb⟩; have HB := Aside0.mk (HB.out.trans (hb.mono HB.out.size)); clear hb))
  go_ret
  exact ⟨rfl, HB.out⟩
theorem paronymlaw05_PropPoints.walk (a0 : Option Addr) (cap0 : Nat) (l0 : List Int) (a1 : ByteArray) (w : World) (hE : EnvF w) (hC0 : Kd.C (Kd.int .u8) w a0 l0.length l0) (hcap0 : l0.length ≤ cap0) (ho : Oct l0) :
    Calls Tryz.prog 5 #[.slice a0 l0.length cap0, .string a1] w fun e w' => e = .returned (.bool true) ∧ Below w.heap.size w w' := by
  by_cases h : 800 < l0.length ∨ 30 < a1.size
  · exact paronymlaw05_PropPoints.out a0 cap0 l0 a1 w hE h
  · exact paronymlaw05_PropPoints.main a0 cap0 l0 ho a1 w hE (by omega) (by omega) hC0 hcap0
end Go.Proofs.YtbpdcbibooiimaaGreatDoor.Q
/- PropOthers: the walk. -/
namespace Go.Proofs.YtbpdcbibooiimaaGreatDoor.Q
open Go.RowKit Go.Shelf Go.Proofs.YtbpdcbibooiimaaGreatDoorW.PrintWords Go.Proofs.YtbpdcbibooiimaaGreatDoorW.PrintLast Go.Proofs.YtbpdcbibooiimaaGreatDoorW.PrintMore Go.Proofs.YtbpdcbibooiimaaGreatDoor.K
theorem ptsIn_filter (v : ByteArray) : ∀ (M : List S83), ptsIn v (M.filter (fun s => v.toList == s.f2.toList)) = ptsIn v M
  | [] => rfl
  | s :: M => by
    have ih := ptsIn_filter v M
    rw [List.filter_cons]
    unfold ptsIn at ih ⊢
    rw [List.flatMap_cons]
    cases h : (v.toList == s.f2.toList) with
    | true => rw [if_pos rfl, List.flatMap_cons, ih]
    | false =>
      have hn : ¬ s.f2.toList = v.toList := fun e => by rw [e, beq_self_eq_true] at h; cases h
      rw [if_neg (by decide), if_neg hn, ih, List.nil_append]
theorem ptsOf_filter (v : ByteArray) (M : List S83) : ptsOf (M.filter (fun s => v.toList == s.f2.toList)) v = ptsOf M v := by
  unfold ptsOf; rw [ptsIn_filter]
theorem p5_parse1 {L : List Int} (s : ByteArray) (A : Option Addr) (c : Nat) (ho : Oct L) (hl : L.length ≤ 100000) (Av : Option Addr) (w : World) (hE : EnvF w) (hr : Kd.C (Kd.int .u8) w A L.length L) (hc : L.length ≤ c) (hrv : Kd.C Kd.string w Av 1 [s]) :
    Calls Tryz.prog 15 #[.slice A L.length c, .slice Av 1 1] w fun e w' => ∃ q, e = .returned (.tuple #[.pointer q, .int .i64 (ppA [s] L).2.1, .int .i64 (ppA [s] L).2.2]) ∧ Tab w' q (tabL (ppA [s] L).1) ∧ Below w.heap.size w w' :=
  (p5_parse (vs := [s]) A c ho hl Av 1 1 rfl (by decide) w hE hr hc hrv (Nat.le_refl _)).mono fun e w' ⟨q, h1, h2, _, h4⟩ => ⟨q, h1, h2, h4⟩
theorem p5_parse2 {L : List Int} (s o : ByteArray) (A : Option Addr) (c : Nat) (ho : Oct L) (hl : L.length ≤ 100000) (Av : Option Addr) (w : World) (hE : EnvF w) (hr : Kd.C (Kd.int .u8) w A L.length L) (hc : L.length ≤ c) (hrv : Kd.C Kd.string w Av 2 [s, o]) :
    Calls Tryz.prog 15 #[.slice A L.length c, .slice Av 2 2] w fun e w' => ∃ q, e = .returned (.tuple #[.pointer q, .int .i64 (ppA [s, o] L).2.1, .int .i64 (ppA [s, o] L).2.2]) ∧ Tab w' q (tabL (ppA [s, o] L).1) ∧ Below w.heap.size w w' :=
  (p5_parse (vs := [s, o]) A c ho hl Av 2 2 rfl (by decide) w hE hr hc hrv (Nat.le_refl _)).mono fun e w' ⟨q, h1, h2, _, h4⟩ => ⟨q, h1, h2, h4⟩
theorem others_two (v o : ByteArray) (L : List Int) (h : (ppA [v, o] L).2.1 = 0) : (ppA [v] L).2.1 = 0 ∧ ptsOf (tabL (ppA [v] L).1) v = ptsOf (tabL (ppA [v, o] L).1) v := by
  obtain ⟨l, M, h1, h2, h3, _⟩ := ppGo_two v o _ h
  unfold ppA
  rw [h1, h2]
  refine ⟨rfl, ?_⟩
  show ptsOf l v = ptsOf M v
  rw [h3, ptsOf_filter]
set_option maxHeartbeats 4000000 in
set_option maxRecDepth 100000 in
theorem paronymlaw05_PropOthers.out (A : Option Addr) (c : Nat) (L : List Int) (s o : ByteArray) (w : World) (hE : EnvF w) (h : 800 < L.length ∨ 30 < s.size ∨ 30 < o.size ∨ s.toList = []) :
    Calls Tryz.prog 6 #[.slice A L.length c, .string s, .string o] w fun e w' => e = .returned (.bool true) ∧ Below w.heap.size w w' := by
  have HE := Aside0.mk hE
  clear hE
  have HB := Aside0.mk (Below.refl w.heap.size w)
  by_cases hl : 800 < L.length
  · have e0 : ((800 : Int) < (L.length : Int)) = True := eq_true (by omega)
    have e1 : decide ((800 : Int) < (L.length : Int)) = true := decide_eq_true (by omega)
    clear hl h
    go_enter Tryz.func6, Tryz.ntmps6
    go_wp2_with (go_at_call 13; (with_reducible refine (paronymlaw05_awake.calls0 _ (HE.out.below HB.out)).mono ?_); rintro e w1 ⟨rfl, hb⟩; have HB := Aside0.mk (HB.out.trans (hb.mono HB.out.size)); clear hb)
    go_ret
    exact ⟨rfl, HB.out⟩
  · have e0 : ((800 : Int) < (L.length : Int)) = False := eq_false (by omega)
    have e1 : decide ((800 : Int) < (L.length : Int)) = false := decide_eq_false (by omega)
    by_cases h1 : 30 < s.size
    · have e2 : ((30 : Int) < (s.size : Int)) = True := eq_true (by omega)
      have e3 : decide ((30 : Int) < (s.size : Int)) = true := decide_eq_true (by omega)
      clear hl h h1
      go_enter Tryz.func6, Tryz.ntmps6
      go_wp2_with (go_at_call 13; (with_reducible refine (paronymlaw05_awake.calls0 _ (HE.out.below HB.out)).mono ?_); rintro e w1 ⟨rfl, hb⟩; have HB := Aside0.mk (HB.out.trans (hb.mono HB.out.size)); clear hb)
      go_ret
      exact ⟨rfl, HB.out⟩
    · have e2 : ((30 : Int) < (s.size : Int)) = False := eq_false (by omega)
      have e3 : decide ((30 : Int) < (s.size : Int)) = false := decide_eq_false (by omega)
      by_cases h2 : 30 < o.size
      · have e4 : ((30 : Int) < (o.size : Int)) = True := eq_true (by omega)
        have e5 : decide ((30 : Int) < (o.size : Int)) = true := decide_eq_true (by omega)
        clear hl h h1 h2
        go_enter Tryz.func6, Tryz.ntmps6
        go_wp2_with (go_at_call 13; (with_reducible refine (paronymlaw05_awake.calls0 _ (HE.out.below HB.out)).mono ?_); rintro e w1 ⟨rfl, hb⟩; have HB := Aside0.mk (HB.out.trans (hb.mono HB.out.size)); clear hb)
        go_ret
        exact ⟨rfl, HB.out⟩
      · have e4 : ((30 : Int) < (o.size : Int)) = False := eq_false (by omega)
        have e5 : decide ((30 : Int) < (o.size : Int)) = false := decide_eq_false (by omega)
        have h3 : s.toList = ([] : List UInt8) := by rcases h with h | h | h | h <;> first | omega | exact h
        have e6 : (s.toList == ([] : List UInt8)) = true := beq_iff_eq.mpr h3
        have e7 : s.toList.isEmpty = true := by rw [h3]; rfl
        clear hl h h1 h2
        go_enter Tryz.func6, Tryz.ntmps6
        go_wp2_with (go_at_call 13; (with_reducible refine (paronymlaw05_awake.calls0 _ (HE.out.below HB.out)).mono ?_); rintro e w1 ⟨rfl, hb⟩; have HB := Aside0.mk (HB.out.trans (hb.mono HB.out.size)); clear hb)
        go_ret
        exact ⟨rfl, HB.out⟩
set_option maxHeartbeats 4000000 in
set_option maxRecDepth 100000 in
theorem paronymlaw05_PropOthers.main (A : Option Addr) (c : Nat) (L : List Int) (ho : Oct L) (s o : ByteArray) (w : World) (hE : EnvF w) (hl : L.length ≤ 800) (hs : ¬ 30 < s.size) (hs2 : ¬ 30 < o.size) (hs3 : ¬ s.toList = ([] : List UInt8)) (hr : Kd.C (Kd.int .u8) w A L.length L) (hc : L.length ≤ c) :
    Calls Tryz.prog 6 #[.slice A L.length c, .string s, .string o] w fun e w' => e = .returned (.bool true) ∧ Below w.heap.size w w' := by
  have HE := Aside0.mk hE
  have HR := Aside0.mk hr
  have HC := Aside0.mk hc
  have HO := Aside0.mk ho
  obtain ⟨f1, hf1⟩ : ∃ f1, f1 = (ppA [s] L).2.1 := ⟨_, rfl⟩
  obtain ⟨f2, hf2⟩ : ∃ f2, f2 = (ppA [s, o] L).2.1 := ⟨_, rfl⟩
  have htw : f2 = 0 → f1 = 0 ∧ ptsOf (tabL (ppA [s] L).1) s = ptsOf (tabL (ppA [s, o] L).1) s := fun h => by
    have := others_two s o L (by rw [← hf2]; exact h)
    rw [← hf1] at this
    exact this
  have HF1 := Aside0.mk hf1
  have HF2 := Aside0.mk hf2
  have HTW := Aside0.mk htw
  obtain ⟨X, hX⟩ : ∃ X, X = (ptsOf (tabL (ppA [s] L).1) s).take 4096 := ⟨_, rfl⟩
  have HX := Aside0.mk hX
  have HXL : Aside0 (X.length ≤ 1000000) := ⟨by rw [hX, List.length_take]; omega⟩
  have HT1L : Aside0 ((tabL (ppA [s] L).1).length ≤ 1000) := ⟨ppA_len (by omega)⟩
  have HT2L : Aside0 ((tabL (ppA [s, o] L).1).length ≤ 1000) := ⟨ppA_len (by omega)⟩
  have HL2 : Aside0 (L.length ≤ 100000) := ⟨by omega⟩
  have e0 : ((800 : Int) < (L.length : Int)) = False := eq_false (by omega)
  have e1 : decide ((800 : Int) < (L.length : Int)) = false := decide_eq_false (by omega)
  have e2 : ((30 : Int) < (s.size : Int)) = False := eq_false (by omega)
  have e3 : decide ((30 : Int) < (s.size : Int)) = false := decide_eq_false (by omega)
  have e4 : ((30 : Int) < (o.size : Int)) = False := eq_false (by omega)
  have e5 : decide ((30 : Int) < (o.size : Int)) = false := decide_eq_false (by omega)
  have e6 : (s.toList == ([] : List UInt8)) = false := beq_eq_false_iff_ne.mpr hs3
  have e7 : s.toList.isEmpty = false := by
    cases hh : s.toList with
    | nil => exact absurd hh hs3
    | cons _ _ => rfl
  clear hE hl hr hc ho hs hs2 hf1 hf2 htw hX
  have HB := Aside0.mk (Below.refl w.heap.size w)
  by_cases c2 : f2 = 0
  · obtain ⟨c1, hpt⟩ := HTW.out c2
    have HX2 : Aside0 (X = (ptsOf (tabL (ppA [s, o] L).1) s).take 4096) := ⟨by rw [HX.out, hpt]⟩
    subst c1 c2
    clear hpt
    go_enter Tryz.func6, Tryz.ntmps6
    go_wp2_with (first
      | (go_at_call 13; (with_reducible refine (paronymlaw05_awake.calls0 _ (HE.out.below HB.out)).mono ?_); rintro e w1 ⟨rfl, hb⟩; have HB := Aside0.mk (HB.out.trans (hb.mono HB.out.size)); clear hb)
      | (go_at_call 15
         have hb1 := HB.out.alloc HB.out.size (.cells #[.string s] 9)
         have hrw : Kd.C Kd.string (w1.alloc (.cells #[.string s] 9)) (some ⟨w1.heap.size, 0, none⟩) 1 [s] := strsB_row (X := [s]) (heap_alloc_new w1 _) (by simp)
         (with_reducible refine (p5_parse1 s A c HO.out HL2.out (some ⟨w1.heap.size, 0, none⟩) _ (HE.out.below hb1) (Kd.C_below HR.out hb1) HC.out hrw).mono ?_)
         rintro e w3 ⟨q, rfl, hT, hb⟩
         rw [← HF1.out]
         have HT := Aside0.mk hT
         have HB3 := Aside0.mk (hb1.trans (hb.mono hb1.size))
         clear hb hT hrw hb1)
      | (go_at_call 15
         have hb1 := HB3.out.alloc HB3.out.size (.cells #[.string s, .string o] 9)
         have hrw : Kd.C Kd.string (w3.alloc (.cells #[.string s, .string o] 9)) (some ⟨w3.heap.size, 0, none⟩) 2 [s, o] := strsB_row (X := [s, o]) (heap_alloc_new w3 _) (by simp)
         (with_reducible refine (p5_parse2 s o A c HO.out HL2.out (some ⟨w3.heap.size, 0, none⟩) _ (HE.out.below hb1) (Kd.C_below HR.out hb1) HC.out hrw).mono ?_)
         rintro e w4 ⟨q2, rfl, hT, hb⟩
         rw [← HF2.out]
         have HT2 := Aside0.mk hT
         have HT1 := Aside0.mk (HT.out.below (((Below.refl _ w3).alloc (Nat.le_refl _) (.cells #[.string s, .string o] 9)).trans (hb.mono (by simp))))
         have HB4 := Aside0.mk (hb1.trans (hb.mono hb1.size))
         clear hb hT hrw hb1)
      | (go_at_call 21; (with_reducible refine (p5_points q _ s X HX.out _ HT1.out HT1L.out ppA_ok).mono ?_); rintro e w5 ⟨A5, c5, rfl, hc5, hC5, hb⟩; have HC5 := Aside0.mk hC5; have Hc5 := Aside0.mk hc5; have HT25 := Aside0.mk (HT2.out.below hb); have HB5 := Aside0.mk (HB4.out.trans (hb.mono HB4.out.size)); clear hb hC5 hc5)
      | (go_at_call 21; (with_reducible refine (p5_points q2 _ s X HX2.out _ HT25.out HT2L.out ppA_ok).mono ?_); rintro e w6 ⟨A6, c6, rfl, hc6, hC6, hb⟩; have HC6 := Aside0.mk hC6; have Hc6 := Aside0.mk hc6; have HC56 := Aside0.mk (Kd.C_below HC5.out hb); have HB6 := Aside0.mk (HB5.out.trans (hb.mono HB5.out.size)); clear hb hC6 hc6)
      | (go_at_call 20; (with_reducible refine (sameI_calls A5 A6 c5 c6 X _ HC56.out Hc5.out HC6.out Hc6.out HXL.out).mono ?_); rintro e w7 ⟨rfl, hb⟩; have HB7 := Aside0.mk (HB6.out.trans (hb.mono HB6.out.size)); clear hb))
    go_ret
    exact ⟨rfl, HB7.out⟩
  · have g2 : (f2 == 0) = false := beq_eq_false_iff_ne.mpr c2
    have g3 : (f2 != 0) = true := bne_iff_ne.mpr c2
    clear c2
    by_cases c1 : f1 = 0
    · subst c1
      go_enter Tryz.func6, Tryz.ntmps6
      go_wp2_with (first
      | (go_at_call 13; (with_reducible refine (paronymlaw05_awake.calls0 _ (HE.out.below HB.out)).mono ?_); rintro e w1 ⟨rfl, hb⟩; have HB := Aside0.mk (HB.out.trans (hb.mono HB.out.size)); clear hb)
      | (go_at_call 15
         have hb1 := HB.out.alloc HB.out.size (.cells #[.string s] 9)
         have hrw : Kd.C Kd.string (w1.alloc (.cells #[.string s] 9)) (some ⟨w1.heap.size, 0, none⟩) 1 [s] := strsB_row (X := [s]) (heap_alloc_new w1 _) (by simp)
         (with_reducible refine (p5_parse1 s A c HO.out HL2.out (some ⟨w1.heap.size, 0, none⟩) _ (HE.out.below hb1) (Kd.C_below HR.out hb1) HC.out hrw).mono ?_)
         rintro e w3 ⟨q, rfl, hT, hb⟩
         rw [← HF1.out]
         have HB3 := Aside0.mk (hb1.trans (hb.mono hb1.size))
         clear hb hT hrw hb1)
      | (go_at_call 15
         have hb1 := HB3.out.alloc HB3.out.size (.cells #[.string s, .string o] 9)
         have hrw : Kd.C Kd.string (w3.alloc (.cells #[.string s, .string o] 9)) (some ⟨w3.heap.size, 0, none⟩) 2 [s, o] := strsB_row (X := [s, o]) (heap_alloc_new w3 _) (by simp)
         (with_reducible refine (p5_parse2 s o A c HO.out HL2.out (some ⟨w3.heap.size, 0, none⟩) _ (HE.out.below hb1) (Kd.C_below HR.out hb1) HC.out hrw).mono ?_)
         rintro e w4 ⟨q2, rfl, hT, hb⟩
         rw [← HF2.out]
         have HB4 := Aside0.mk (hb1.trans (hb.mono hb1.size))
         clear hb hT hrw hb1))
      go_ret
      exact ⟨rfl, HB4.out⟩
    · have g4 : (f1 == 0) = false := beq_eq_false_iff_ne.mpr c1
      have g5 : (f1 != 0) = true := bne_iff_ne.mpr c1
      clear c1
      go_enter Tryz.func6, Tryz.ntmps6
      go_wp2_with (first
      | (go_at_call 13; (with_reducible refine (paronymlaw05_awake.calls0 _ (HE.out.below HB.out)).mono ?_); rintro e w1 ⟨rfl, hb⟩; have HB := Aside0.mk (HB.out.trans (hb.mono HB.out.size)); clear hb)
      | (go_at_call 15
         have hb1 := HB.out.alloc HB.out.size (.cells #[.string s] 9)
         have hrw : Kd.C Kd.string (w1.alloc (.cells #[.string s] 9)) (some ⟨w1.heap.size, 0, none⟩) 1 [s] := strsB_row (X := [s]) (heap_alloc_new w1 _) (by simp)
         (with_reducible refine (p5_parse1 s A c HO.out HL2.out (some ⟨w1.heap.size, 0, none⟩) _ (HE.out.below hb1) (Kd.C_below HR.out hb1) HC.out hrw).mono ?_)
         rintro e w3 ⟨q, rfl, hT, hb⟩
         rw [← HF1.out]
         have HB3 := Aside0.mk (hb1.trans (hb.mono hb1.size))
         clear hb hT hrw hb1)
      | (go_at_call 15
         have hb1 := HB3.out.alloc HB3.out.size (.cells #[.string s, .string o] 9)
         have hrw : Kd.C Kd.string (w3.alloc (.cells #[.string s, .string o] 9)) (some ⟨w3.heap.size, 0, none⟩) 2 [s, o] := strsB_row (X := [s, o]) (heap_alloc_new w3 _) (by simp)
         (with_reducible refine (p5_parse2 s o A c HO.out HL2.out (some ⟨w3.heap.size, 0, none⟩) _ (HE.out.below hb1) (Kd.C_below HR.out hb1) HC.out hrw).mono ?_)
         rintro e w4 ⟨q2, rfl, hT, hb⟩
         rw [← HF2.out]
         have HB4 := Aside0.mk (hb1.trans (hb.mono hb1.size))
         clear hb hT hrw hb1))
      go_ret
      exact ⟨rfl, HB4.out⟩
theorem paronymlaw05_PropOthers.walk (a0 : Option Addr) (cap0 : Nat) (l0 : List Int) (a1 : ByteArray) (a2 : ByteArray) (w : World) (hE : EnvF w) (hC0 : Kd.C (Kd.int .u8) w a0 l0.length l0) (hcap0 : l0.length ≤ cap0) (ho : Oct l0) :
    Calls Tryz.prog 6 #[.slice a0 l0.length cap0, .string a1, .string a2] w fun e w' => e = .returned (.bool true) ∧ Below w.heap.size w w' := by
  by_cases h : 800 < l0.length ∨ 30 < a1.size ∨ 30 < a2.size ∨ a1.toList = ([] : List UInt8)
  · exact paronymlaw05_PropOthers.out a0 cap0 l0 a1 a2 w hE h
  · exact paronymlaw05_PropOthers.main a0 cap0 l0 ho a1 a2 w hE (by omega) (by omega) (by omega) (fun e => h (.inr (.inr (.inr e)))) hC0 hcap0
end Go.Proofs.YtbpdcbibooiimaaGreatDoor.Q
namespace Go.Proofs.YtbpdcbibooiimaaGreatDoor.propOthers
open Go.ChangeShapes Go.WideShapes Go.ChangeAt Go.RowKit
open Go.ChangeMaps (open_string shut_string)
theorem own : ownKnob Tryz.prog.godebug = none := by kernel_rfl
theorem laidOut : laidOutB Tryz.prog = true := by kernel_rfl
set_option maxRecDepth 100000 in
theorem lifted (os : Os) (started : os.Started) (H : Type) (enc : TypeId × Value → H) :
    ReturnsInHanded {} Tryz.checked os 6 .any (fun w args => (Rows.propOthersSpec.pre enc Tryz.prog Tryz.f6 Rows.propOthersRow.domain false w args ∧ laidMetH Tryz.prog Rows.propOthersRow.laid w) ∧ sizedMet enc Tryz.prog Tryz.f6 (OpenSpec.ofChange Rows.propOthersSpec) false w args) (Rows.propOthersSpec.post enc Tryz.prog Tryz.f6 false true false false) := by
  refine Q.returns_shaped_and (C := Tryz.checked) (X := fun w => laidMetH Tryz.prog Rows.propOthersRow.laid w) (fun _ _ hh h => h.of_heap hh) own started (by kernel_rfl) Tryz.func6
    (ChangeSpec.witness_shaped (enc := enc) (C := Tryz.checked) (os := os) (X := fun w _ => laidMetH Tryz.prog Rows.propOthersRow.laid w) false (World.laidAll Tryz.prog os Rows.propOthersRow.laid) #[.slice none 0 0, .string ByteArray.empty, .string ByteArray.empty] 8 (World.laidAll_os _ _ _)
      (World.shaped_of_ZipB (by kernel_rfl) (by kernel_rfl)) (by kernel_rfl) (by kernel_rfl) (by kernel_rfl)
      (by rw [MakeChecks.laidMetH_plain _ _ _ (by kernel_rfl)]; exact laidMet_laidAll _ (by kernel_rfl) (by kernel_rfl))) ?_
  intro W base args ds gs before hsh hL hval0 hW hsz0
  have hsz : (DataW.weightsEach Tryz.prog (Tryz.f6.params.toList ++ Rows.propOthersSpec.plain.varTypes Tryz.prog) (ds ++ gs)).all (· ≤ reachBytes) = true := hsz0
  have hval : ∀ (j : Nat) t v, Tryz.f6.params[j]? = some t → args[j]? = some v → Value.okWide Tryz.prog W .any base t v := hval0
  have hW' := hW
  obtain ⟨p, q, hA0, hV, rfl, hfz, hnd⟩ := hW
  have hA : DataW.TrodAll enc Tryz.prog W 0 (fun _ => true) true Tryz.f6.params.toList args.toList ds p := hA0
  rw [Tryz.params6] at hA hval hsz
  obtain ⟨v0, vs0, d0, ds0, p0, q0, hargs, rfl, rfl, h0, r0⟩ := trodAll_cons hA
  obtain ⟨v1, vs1, d1, ds1, p1, q1, rfl, rfl, rfl, h1, r1⟩ := trodAll_cons r0
  obtain ⟨v2, vs2, d2, ds2, p2, q2, rfl, rfl, rfl, h2, r2⟩ := trodAll_cons r1
  obtain ⟨rfl, rfl, rfl⟩ := trodAll_nil r2
  obtain rfl : args = #[v0, v1, v2] := by cases args; simp_all
  obtain ⟨rfl, rfl⟩ := trodVars_none hV
  obtain ⟨a0, len0, cap0, rfl⟩ := okWide_slice Tryz.underlying22 (hval 0 22 v0 rfl rfl)
  have k0 := h0
  have lt0 : ∀ x ∈ p0, x.block < W.heap.size := by obtain ⟨m, hm⟩ := k0; exact DataW.trod_lt m _ _ _ hm
  obtain ⟨l0, hn0, hcap0, hC0, hwf0⟩ : ∃ l : List Int, l.length = len0 ∧ len0 ≤ cap0 ∧ Go.Proofs.YtbpdcbibooiimaaGreatDoorW.PrintWords.Kd.C (Go.Proofs.YtbpdcbibooiimaaGreatDoorW.PrintWords.Kd.int .u8) W a0 len0 l ∧ ∀ z ∈ l, (Lit.int .u8 z).wf = true := by
    obtain ⟨fuel, hf⟩ := h0
    have hf' : DataW.trod enc Tryz.prog W 0 (fun _ => true) true fuel 22 [.slice a0 len0 cap0] = some (d0, p0) := hf
    obtain ⟨A, c, l, e, q1, q2, q3⟩ := Q.ints_of_trod1 Tryz.underlying22 Tryz.underlying5 (by kernel_rfl) hf'
    simp only [List.cons.injEq, Value.slice.injEq, and_true] at e
    obtain ⟨rfl, rfl, rfl⟩ := e
    exact ⟨l, rfl, q1, q2, q3⟩
  subst hn0
  obtain ⟨a1, rfl, rfl, rfl, w1⟩ := open_string Tryz.underlying9 (hval 1 9 v1 rfl rfl) h1
  obtain ⟨a2, rfl, rfl, rfl, w2⟩ := open_string Tryz.underlying9 (hval 2 9 v2 rfl rfl) h2
  clear hA0 hval0 hsz0 hsz
  refine (Q.paronymlaw05_PropOthers.walk a0 cap0 l0 a1 a2 W (Q.env_of_laid (List.mem_filter.2 ⟨List.mem_cons_of_mem _ (List.mem_cons_self ..), by kernel_rfl⟩) hsh hL) hC0 hcap0 (K.oct_of_wf hwf0)).mono fun e W' ⟨he, bel⟩ => ?_
  subst he
  exact ⟨_, rfl, _, _, _, [], _, [], hW', trodAll_mk1 (shut_bool Tryz.underlying4 _), (trodAll_cons_mk (Below.trod laidOut (by kernel_rfl) (of_decide_eq_true (by kernel_rfl)) k0 bel lt0) (trodAll_cons_mk (shut_string Tryz.underlying9 w1) (trodAll_cons_mk (shut_string Tryz.underlying9 w2) trodAll_mk0))), rfl, bel.frame _, fun h => by cases h⟩
theorem over : Rows.propOthersRow.holds Tryz.pinned (OpenSpec.ofChange Rows.propOthersSpec) :=
  OpenClaim.holds_of_wide 6 Tryz.f6 rfl rfl rfl rfl rfl rfl rfl ⟨rfl, rfl, rfl, rfl, rfl⟩ rfl rfl rfl rfl rfl (by kernel_rfl) Tryz.func6 (by kernel_rfl)
    (of_decide_eq_true (by kernel_rfl)) (by unfold Func.isWrapper; first | (rw [if_pos (by decide +kernel)]; kernel_rfl) | (rw [if_neg (by decide +kernel)]; exact ⟨rfl, rfl⟩))
    (fun os started H enc _ => lifted os started H enc)
theorem card : Rows.PropOthersCardSaid :=
  Claim7.holds_tied_plain_at .later [] [.data, .data, .data, .data, .pinned, .pinned] true (true, "ea15d2eb81024d9e71850c30cd30141e77aebce7e40ec8c40f847e40fd417039") true over (fun _ h => by cases h) (by kernel_rfl) (fun _ h => by cases h) propOthers_row_tie rfl ⟨rfl, rfl⟩ (by kernel_rfl) rfl
    (fun f fn hf hfn => by
      obtain rfl : f = 6 := Option.some.inj ((show Tryz.prog.funcNamed "paronym/paronymlaw05.PropOthers" = some 6 by kernel_rfl).symm.trans hf) |>.symm
      obtain rfl : fn = Tryz.f6 := (Option.some.inj (Tryz.func6.symm.trans hfn)).symm
      exact ⟨by kernel_rfl, fun j t ht => by
        rw [Tryz.params6] at ht
        have hm : t ∈ ([22, 9, 9] : List Nat) := by have := Array.mem_of_getElem? ht; simp at this ⊢; omega
        have hall : (([22, 9, 9] : List Nat).all fun u => !Tryz.prog.wantsStandIn u) = true := by kernel_rfl
        exact (show Tryz.prog.wantsStandIn t = false by simpa using List.all_eq_true.1 hall t hm)⟩)
    (by kernel_rfl)
#print axioms card
end Go.Proofs.YtbpdcbibooiimaaGreatDoor.propOthers
namespace Go.Proofs.YtbpdcbibooiimaaGreatDoor
theorem propOthers_holds : Rows.PropOthersCardSaid := propOthers.card
end Go.Proofs.YtbpdcbibooiimaaGreatDoor
