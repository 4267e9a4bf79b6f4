/- Part 2 of 3 of the proof of UtfJoins: the form of a joined text is the forms joined. For every input; no condition. -/
import Derived.Test.YtooiajkbpkfplaaCUtfJoins1
import Derived.Lib.Bytes

-- from K
/- Small lemmas on lists, octets and rounds, for the plain laws of this seat. No condition. -/
namespace Go.Proofs.Ytooiajkbpkfplaa.K
set_option linter.unusedVariables false
set_option linter.unusedSimpArgs false
open Go.RowKit Go.Proofs.YtooiajkbpkfplaaW.PrintWords

theorem w64 {n : Int} (h0 : -9223372036854775808 ≤ n) (h1 : n ≤ 9223372036854775807) : wrap64 n = n := by unfold wrap64; omega
theorem rd_nat (l : List Int) (i : Nat) (h : i < l.length) : rd l (i : Int) = l[i] := by
  unfold rd; simp [List.getD_eq_getElem?_getD, List.getElem?_eq_getElem h]
theorem rd_mem {l : List Int} {i : Int} (h0 : 0 ≤ i) (h1 : i < (l.length : Int)) : rd l i ∈ l := by
  obtain ⟨n, rfl⟩ := Int.eq_ofNat_of_zero_le h0
  rw [rd_nat l n (by omega)]
  exact List.getElem_mem _
theorem rd_append_left {l m : List Int} {i : Int} (h0 : 0 ≤ i) (h1 : i < (l.length : Int)) : rd (l ++ m) i = rd l i := by
  unfold rd
  simp only [List.getD_eq_getElem?_getD]
  rw [List.getElem?_append_left (by omega)]
theorem rd_append_right {l m : List Int} {i : Int} (h0 : (l.length : Int) ≤ i) : rd (l ++ m) i = rd m (i - l.length) := by
  unfold rd
  simp only [List.getD_eq_getElem?_getD]
  rw [List.getElem?_append_right (by omega)]
  congr 2
  omega
theorem rd_map {f : Int → Int} {l : List Int} {i : Int} (h0 : 0 ≤ i) (h1 : i < (l.length : Int)) : rd (l.map f) i = f (rd l i) := by
  obtain ⟨n, rfl⟩ := Int.eq_ofNat_of_zero_le h0
  rw [rd_nat _ n (by simpa using h1), rd_nat l n (by omega)]
  simp
theorem rd_cons_zero (x : Int) (l : List Int) : rd (x :: l) 0 = x := rfl
theorem rd_drop {l : List Int} {n : Nat} {i : Int} (h0 : 0 ≤ i) : rd (l.drop n) i = rd l (n + i) := by
  unfold rd
  simp only [List.getD_eq_getElem?_getD, List.getElem?_drop]
  congr 2
  omega
theorem rd_take {l : List Int} {n : Nat} {i : Int} (h0 : 0 ≤ i) (h1 : i < (n : Int)) : rd (l.take n) i = rd l i := by
  unfold rd
  simp only [List.getD_eq_getElem?_getD]
  rw [List.getElem?_take_of_lt (by omega)]
theorem take_snoc (l : List Int) (i : Nat) (h : i < l.length) : l.take (i + 1) = l.take i ++ [rd l (i : Int)] := by
  rw [rd_nat l i h, List.take_succ_eq_append_getElem h]
theorem drop_cons (l : List Int) (i : Nat) (h : i < l.length) : l.drop i = rd l (i : Int) :: l.drop (i + 1) := by
  rw [rd_nat l i h, List.drop_eq_getElem_cons h]

/-! octets -/
def Oct (l : List Int) : Prop := ∀ x ∈ l, 0 ≤ x ∧ x ≤ 255
theorem oct_of_wf {l : List Int} (h : ∀ x ∈ l, (Lit.int .u8 x).wf = true) : Oct l := fun x hx => by
  have := h x hx
  simp only [Lit.wf, Bool.and_eq_true, decide_eq_true_eq] at this
  have e1 : IntKind.u8.min = 0 := rfl
  have e2 : IntKind.u8.max = 255 := rfl
  omega
theorem i64_of_wf {x : Int} (h : (Lit.int .i64 x).wf = true) : -9223372036854775808 ≤ x ∧ x ≤ 9223372036854775807 := by
  simp only [Lit.wf, Bool.and_eq_true, decide_eq_true_eq] at h
  have e1 : IntKind.i64.min = -9223372036854775808 := rfl
  have e2 : IntKind.i64.max = 9223372036854775807 := rfl
  omega
theorem u8_of_wf {x : Int} (h : (Lit.int .u8 x).wf = true) : 0 ≤ x ∧ x ≤ 255 := by
  simp only [Lit.wf, Bool.and_eq_true, decide_eq_true_eq] at h
  have e1 : IntKind.u8.min = 0 := rfl
  have e2 : IntKind.u8.max = 255 := rfl
  omega
theorem Oct.map {l : List Int} {f : Int → Int} (h : ∀ x, 0 ≤ x → x ≤ 255 → 0 ≤ f x ∧ f x ≤ 255) (hl : Oct l) : Oct (l.map f) := fun y hy => by
  obtain ⟨x, hx, rfl⟩ := List.mem_map.1 hy
  exact h x (hl x hx).1 (hl x hx).2
theorem Oct.append {l m : List Int} (h : Oct l) (k : Oct m) : Oct (l ++ m) := fun x hx => by
  rcases List.mem_append.1 hx with hx | hx
  · exact h x hx
  · exact k x hx
theorem Oct.take {l : List Int} (h : Oct l) (n : Nat) : Oct (l.take n) := fun x hx => h x (List.mem_of_mem_take hx)
theorem Oct.drop {l : List Int} (h : Oct l) (n : Nat) : Oct (l.drop n) := fun x hx => h x (List.mem_of_mem_drop hx)
theorem Oct.rd {l : List Int} (h : Oct l) {i : Int} (h0 : 0 ≤ i) (h1 : i < (l.length : Int)) : 0 ≤ rd l i ∧ rd l i ≤ 255 := h _ (rd_mem h0 h1)
theorem u8_back {x : Int} (h : 0 ≤ x ∧ x ≤ 255) : ((UInt8.ofNat x.toNat).toNat : Int) = x := by
  simp only [UInt8.toNat_ofNat']
  omega
theorem bt_str {l : List Int} (h : Oct l) {i : Int} (h0 : 0 ≤ i) (h1 : i < (l.length : Int)) : bt (strOfNums l) i = rd l i := by
  obtain ⟨n, rfl⟩ := Int.eq_ofNat_of_zero_le h0
  have hn : n < l.length := by omega
  have hs : n < (strOfNums l).size := by rw [strOfNums_size]; exact hn
  have hb := h.rd h0 h1
  rw [rd_nat l n hn] at hb ⊢
  unfold bt
  simp only [Int.toNat_natCast, hs, dif_pos]
  have : (strOfNums l)[n] = UInt8.ofNat (l[n]).toNat := by
    show (strOfNums l).data[n] = _
    simp [strOfNums]
  rw [this]
  exact u8_back hb
theorem size_str (l : List Int) : (strOfNums l).size = l.length := strOfNums_size l
theorem str_inj {l m : List Int} (hl : Oct l) (hm : Oct m) (h : strOfNums l = strOfNums m) : l = m := by
  have hlen : l.length = m.length := by rw [← size_str l, ← size_str m, h]
  apply List.ext_getElem hlen
  intro i h1 h2
  have a := bt_str hl (i := (i : Int)) (by omega) (by omega)
  have b := bt_str hm (i := (i : Int)) (by omega) (by omega)
  rw [rd_nat l i h1] at a
  rw [rd_nat m i h2] at b
  rw [← a, ← b, h]
theorem ba_toList (s : ByteArray) : s.toList = s.data.toList := ByteArray.toList_eq s
theorem toList_inj {s t : ByteArray} (h : s.toList = t.toList) : s = t := by
  rw [ba_toList, ba_toList] at h
  cases s; cases t
  simp at h
  exact congrArg _ h
theorem toList_eq_iff {s t : ByteArray} : s.toList = t.toList ↔ s = t := ⟨toList_inj, fun h => by rw [h]⟩
theorem str_append (l m : List Int) : strOfNums l ++ strOfNums m = strOfNums (l ++ m) := by
  apply toList_inj
  rw [ba_toList, ba_toList]
  simp [strOfNums]
theorem bytesOf_str {l : List Int} (h : Oct l) : Go.Proofs.YtooiajkbpkfplaaW.PrintWords.bytesOf (strOfNums l) = l := by
  unfold Go.Proofs.YtooiajkbpkfplaaW.PrintWords.bytesOf
  rw [strOfNums_data, List.map_map]
  conv => rhs; rw [← List.map_id l]
  apply List.map_congr_left
  intro x hx
  exact u8_back (h x hx)
theorem oct_bytesOf (s : ByteArray) : Oct (Go.Proofs.YtooiajkbpkfplaaW.PrintWords.bytesOf s) := fun x hx => by
  unfold Go.Proofs.YtooiajkbpkfplaaW.PrintWords.bytesOf at hx
  obtain ⟨b, _, rfl⟩ := List.mem_map.1 hx
  have := b.toNat_lt
  omega
theorem str_bytesOf (s : ByteArray) : strOfNums (Go.Proofs.YtooiajkbpkfplaaW.PrintWords.bytesOf s) = s := by
  unfold Go.Proofs.YtooiajkbpkfplaaW.PrintWords.bytesOf strOfNums
  cases s with
  | mk a =>
    congr 1
    apply Array.ext'
    simp [Function.comp_def]
theorem extract_str {l : List Int} {a b : Nat} : (strOfNums l).extract a b = strOfNums ((l.take b).drop a) := by
  apply toList_inj
  rw [ba_toList, ba_toList]
  rw [ByteArray.data_extract]
  simp [strOfNums, List.map_drop, List.map_take, List.drop_take]

/-! rounds -/
theorem Ev.pos {α : Type} {c : Prop} [Decidable c] {f g : Nat → Option α} {r : α} (h : c) (k : Ev f r) : Ev (fun n => if c then f n else g n) r := Ev.congr (fun _ => if_pos h) k
theorem Ev.neg {α : Type} {c : Prop} [Decidable c] {f g : Nat → Option α} {r : α} (h : ¬ c) (k : Ev g r) : Ev (fun n => if c then f n else g n) r := Ev.congr (fun _ => if_neg h) k
theorem Ev.bindS {α β : Type} {o : Option α} {f : Nat → α → Option β} {a : α} {r : β} (h : o = some a) (k : Ev (fun n => f n a) r) : Ev (fun n => o.bind (f n)) r := by
  subst h; exact k
theorem Ev.ret {α : Type} {a r : α} (h : a = r) : Ev (fun _ => some a) r := by subst h; exact Ev.now _
theorem Ev.val {α : Type} {o : Option α} {r : α} (h : o = some r) : Ev (fun _ => o) r := ⟨0, fun _ _ => h⟩

/-- 'slices.IndexFunc', as it is printed at a function value: the place of the first element that the predicate takes, or -1. -/
def firstAt (q : Int → Bool) : List Int → Int → Int
  | [], _ => -1
  | x :: l, i => if q x = true then i else firstAt q l (i + 1)
theorem index_loop {p : Int → Option Bool} {q : Int → Bool} {l : Nat → List Int → Int → Int → Option Int}
    (hl : ∀ k x n i, l (k + 1) x n i = if i < n then (if 0 ≤ i then (if i < (x.length : Int) then ((p (rd x i)).bind fun t => (if t = true then (some i) else (l k x n (wrap64 (i + 1))))) else none) else none) else some (-1))
    (x : List Int) (hx : x.length ≤ 9223372036854775806) (hp : ∀ y ∈ x, p y = some (q y)) : ∀ (d i : Nat), x.length - i = d → i ≤ x.length → Ev (fun k => l k x (x.length : Int) (i : Int)) (firstAt q (x.drop i) i) := by
  intro d
  induction d with
  | zero =>
    intro i h1 h2
    have : i = x.length := by omega
    subst this
    refine Ev.step (fun k => hl k _ _ _) (Ev.neg (by omega) ?_)
    simp only [List.drop_length, firstAt]
    exact Ev.now _
  | succ d ih =>
    intro i h1 h2
    have hi : i < x.length := by omega
    refine Ev.step (fun k => hl k _ _ _) (Ev.pos (by omega) (Ev.pos (by omega) (Ev.pos (by omega) (Ev.bindS (hp _ (rd_mem (by omega) (by omega))) ?_))))
    rw [drop_cons x i hi]
    simp only [firstAt]
    by_cases hq : q (rd x i) = true
    · rw [if_pos hq]
      exact Ev.pos hq (Ev.now _)
    · rw [if_neg hq]
      refine Ev.neg hq ?_
      have := ih (i + 1) (by omega) (by omega)
      rw [w64 (by omega) (by omega)]
      exact this
theorem firstAt_any (q : Int → Bool) : ∀ (l : List Int) (i : Int), 0 ≤ i → decide (firstAt q l i ≥ 0) = l.any q
  | [], _, _ => by simp [firstAt]
  | x :: l, i, h => by
    by_cases hq : q x = true
    · simp [firstAt, hq, h]
    · have ih := firstAt_any q l (i + 1) (by omega)
      simp only [Bool.not_eq_true] at hq
      simp [firstAt, hq]
      simpa using ih
/-- 'slices.ContainsFunc' at a function value. -/
theorem contains_ev {p : Int → Option Bool} {q : Int → Bool} {l : Nat → List Int → Int → Int → Option Int}
    (hl : ∀ k x n i, l (k + 1) x n i = if i < n then (if 0 ≤ i then (if i < (x.length : Int) then ((p (rd x i)).bind fun t => (if t = true then (some i) else (l k x n (wrap64 (i + 1))))) else none) else none) else some (-1))
    (x : List Int) (hx : x.length ≤ 9223372036854775806) (hp : ∀ y ∈ x, p y = some (q y)) : Ev (fun k => (l k x (x.length : Int) 0).bind fun t => some (decide (t ≥ 0))) (x.any q) := by
  have h := index_loop hl x hx hp x.length 0 (by omega) (by omega)
  refine Ev.bind h (Ev.ret ?_)
  rw [firstAt_any q _ _ (by simp)]
  simp

end Go.Proofs.Ytooiajkbpkfplaa.K

-- from Qf51
-- Made by hp.py, a program of this session, with the kit's printer. Not trusted: Lean checks it.
namespace Go.Proofs.Ytooiajkbpkfplaa.Q
open Go.RowKit Go.Proofs.YtooiajkbpkfplaaW.PrintWords Go.Proofs.YtooiajkbpkfplaaW.PrintLast Go.Proofs.YtooiajkbpkfplaaW.PrintMore
attribute [local go_sem] max2_int min2_int max_two min_two max_three min_three max_four min_four   -- for this text's walks alone
set_option linter.unusedVariables false
set_option linter.unusedSimpArgs false

/-! ### puny_least: function 51 -/
def puny_least.l0 : Nat → Int → Int → List Int → Int → Int → Option (Int)
  | 0, _, _, _, _, _ => none
  | k + 1, x1, x5, x8, x9, x10 => if x10 < x9 then (if 0 ≤ x10 then (if x10 < (x8.length : Int) then (if (rd x8 x10) ≥ x1 then (puny_least.l0 k x1 (mn x5 (rd x8 x10)) x8 x9 (wrap64 (x10 + 1))) else (puny_least.l0 k x1 x5 x8 x9 (wrap64 (x10 + 1)))) else (none)) else (none)) else (some x5)
def puny_least.f (k : Nat) (l0 : List Int) (a1 : Int) : Option (Int) := puny_least.l0 k a1 9223372036854775807 l0 (l0.length : Int) 0
theorem puny_least.mono_l : ∀ k, (∀ y0 y1 y2 y3 y4, LeO (puny_least.l0 k y0 y1 y2 y3 y4) (puny_least.l0 (k + 1) y0 y1 y2 y3 y4))
  | 0 => fun _ _ _ _ _ r h => by simp [puny_least.l0] at h
  | k + 1 => by
    have ih0 := puny_least.mono_l k
    · intro y0 y1 y2 y3 y4
      unfold puny_least.l0
      repeat' first
      | (with_reducible exact ih0 _ _ _ _ _)
      | (with_reducible exact LeO.refl _)
      | (with_reducible exact LeO.none _)
      | (with_reducible refine LeO.ite ?_ ?_)
      | (with_reducible refine LeO.bind ?_ (fun _ => ?_))
      | exact ih0 _ _ _ _ _
      | exact LeO.none _
      | refine LeO.ite ?_ ?_
      | refine LeO.bind ?_ (fun _ => ?_)
theorem puny_least.mono : ∀ a0 a1 k, LeO (puny_least.f k a0 a1) (puny_least.f (k + 1) a0 a1) := by
  intro a0 a1 k
  have ih0 := puny_least.mono_l k
  unfold puny_least.f
  repeat' first
      | (with_reducible exact ih0 _ _ _ _ _)
      | (with_reducible exact LeO.refl _)
      | (with_reducible exact LeO.none _)
      | (with_reducible refine LeO.ite ?_ ?_)
      | (with_reducible refine LeO.bind ?_ (fun _ => ?_))
      | exact ih0 _ _ _ _ _
      | exact LeO.none _
      | refine LeO.ite ?_ ?_
      | refine LeO.bind ?_ (fun _ => ?_)
set_option maxHeartbeats 8000000 in
set_option maxRecDepth 100000 in
theorem puny_least.calls (k : Nat) (A0 : Option Addr) (c0 : Nat) (l0 : List Int) (a1 : Int) (r : Int) (w : World) (hr0 : Kd.C (Kd.int .i64) w A0 l0.length l0) (hc0 : l0.length ≤ c0) (h : puny_least.f k l0 a1 = some r) :
    Calls Try.prog 51 #[.slice A0 l0.length c0, .int .i64 a1] w fun e w' => e = .returned (.int .i64 r) ∧ Below w.heap.size w w' := by
  have HR0 := Aside0.mk hr0
  have HC0 := Aside0.mk hc0
  clear hr0 hc0
  have HB := Aside0.mk (Below.refl w.heap.size w)
  have H : (puny_least.l0 k a1 9223372036854775807 l0 (l0.length : Int) 0) = some r := h
  clear h
  have H' := Aside0.mk H
  clear H
  go_enter Try.func51, Try.ntmps51
  go_wp2
  go_loopg [5, 10] k (fun kq v5 v10 w' => ∃ (x5_1 : Int) (x10_1 : Int), v5 = .int .i64 x5_1 ∧ v10 = .int .i64 x10_1 ∧ Aside0 (puny_least.l0 kq a1 x5_1 l0 (l0.length : Int) x10_1 = some r) ∧ Aside0 (kq ≤ k) ∧ Aside0 (Below w.heap.size w w'))
  case atStart => exact ⟨(9223372036854775807), (0), (by first | rfl | (simp; done) | (simp [*]; done)), (by first | rfl | (simp; done) | (simp [*]; done)), H', ⟨Nat.le_refl _⟩, ⟨by repeat (first | (with_reducible first | exact HB.out | apply below_alloc | apply pw_below_drewN | apply below_drew1) | exact HB.out)⟩⟩
  case round =>
    clear H'
    try clear p2
    obtain ⟨x5_1, x10_1, rfl, rfl, HA, HK1, HB⟩ := hrel
    cases gk with
    | zero => exact absurd HA.out (by simp [puny_least.l0])
    | succ k1 =>
      have H := HA.out
      clear HA
      simp only [puny_least.l0] at H
      by_cases c3 : x10_1 < (l0.length : Int)
      · rw [if_pos c3] at H
        have c3b0 : decide (x10_1 < (l0.length : Int)) = true := decide_eq_true c3
        clear c3
        by_cases c4 : 0 ≤ x10_1
        · rw [if_pos c4] at H
          have c4b0 : decide (0 ≤ x10_1) = true := decide_eq_true c4
          clear c4
          by_cases c5 : x10_1 < (l0.length : Int)
          · rw [if_pos c5] at H
            have c5b0 : decide (x10_1 < (l0.length : Int)) = true := decide_eq_true c5
            clear c5
            by_cases c6 : (rd l0 x10_1) ≥ a1
            · rw [if_pos c6] at H
              have c6b0 : decide (a1 ≤ (rd l0 x10_1)) = true := decide_eq_true c6
              clear c6
              obtain ⟨ji7, hji7⟩ : ∃ j_ : Int, (mn x5_1 (rd l0 x10_1)) = j_ := ⟨_, rfl⟩
              replace H : (puny_least.l0 k1 a1 ji7 l0 (l0.length : Int) (wrap64 (x10_1 + 1))) = some r := by first | (rw [hji7] at H; exact H) | (simp only [hji7] at H ⊢; exact H)
              have hji7_ : (if (rd l0 x10_1) < x5_1 then (rd l0 x10_1) else x5_1) = ji7 := hji7
              have H' := Aside0.mk H
              clear H
              have p101 : 0 ≤ (x10_1 : Int) := of_decide_eq_true (by first | (with_reducible assumption) | assumption)
              have q101 : x10_1 < (l0.length : Int) := of_decide_eq_true (by first | (with_reducible assumption) | assumption)
              obtain ⟨ad101, e101, hx101_0⟩ := Kd.at_int HR0.out x10_1 p101 q101
              cases e101
              replace hx101_0 := (HB.out.cell (World.block_lt_of_cell? w _ hx101_0)).trans hx101_0
              replace p101 := eq_true p101
              replace q101 := eq_true q101
              go_wp2
              go_roundg k1
              case measure => have := HK1.out; omega
              case rel => exact ⟨(ji7), (wrap64 (x10_1 + 1)), (by first | rfl | (simp; done) | (simp only [← hji7] <;> (first | rfl | simp)) | (simp [*]; done)), (by first | rfl | (simp; done) | (simp [*]; done)), H', ⟨by have := HK1.out; omega⟩, ⟨by repeat (first | (with_reducible first | exact HB.out | apply below_alloc | apply pw_below_drewN | apply below_drew1) | exact HB.out)⟩⟩
            · rw [if_neg c6] at H
              have c6b0 : decide (a1 ≤ (rd l0 x10_1)) = false := decide_eq_false c6
              clear c6
              have H' := Aside0.mk H
              clear H
              have p101 : 0 ≤ (x10_1 : Int) := of_decide_eq_true (by first | (with_reducible assumption) | assumption)
              have q101 : x10_1 < (l0.length : Int) := of_decide_eq_true (by first | (with_reducible assumption) | assumption)
              obtain ⟨ad101, e101, hx101_0⟩ := Kd.at_int HR0.out x10_1 p101 q101
              cases e101
              replace hx101_0 := (HB.out.cell (World.block_lt_of_cell? w _ hx101_0)).trans hx101_0
              replace p101 := eq_true p101
              replace q101 := eq_true q101
              go_wp2
              go_roundg k1
              case measure => have := HK1.out; omega
              case rel => exact ⟨(x5_1), (wrap64 (x10_1 + 1)), (by first | rfl | (simp; done) | (simp [*]; done)), (by first | rfl | (simp; done) | (simp [*]; done)), H', ⟨by have := HK1.out; omega⟩, ⟨by repeat (first | (with_reducible first | exact HB.out | apply below_alloc | apply pw_below_drewN | apply below_drew1) | exact HB.out)⟩⟩
          · rw [if_neg c5] at H
            exact absurd H (by simp)
        · rw [if_neg c4] at H
          exact absurd H (by simp)
      · rw [if_neg c3] at H
        have c3b0 : decide (x10_1 < (l0.length : Int)) = false := decide_eq_false c3
        clear c3
        obtain rfl := Option.some.inj H
        go_wp2
        go_ret
        exact ⟨by first | rfl | (simp [errW_none, errW_some] <;> rfl) | (simp [*, errW_none, errW_some] <;> rfl), by repeat (first | (with_reducible first | exact HB.out | apply below_alloc | apply pw_below_drewN | apply below_drew1) | exact HB.out)⟩

end Go.Proofs.Ytooiajkbpkfplaa.Q

-- from Qf72
-- Made by hp.py, a program of this session, with the kit's printer. Not trusted: Lean checks it.
namespace Go.Proofs.Ytooiajkbpkfplaa.Q
open Go.RowKit Go.Proofs.YtooiajkbpkfplaaW.PrintWords Go.Proofs.YtooiajkbpkfplaaW.PrintLast Go.Proofs.YtooiajkbpkfplaaW.PrintMore
attribute [local go_sem] max2_int min2_int max_two min_two max_three min_three max_four min_four   -- for this text's walks alone
set_option linter.unusedVariables false
set_option linter.unusedSimpArgs false

/-! ### puny_threshold: function 72 -/
def puny_threshold.f (a0 : Int) (a1 : Int) : Option (Int) := some (mn (mx (wrap64 (a0 - a1)) 1) 26)
set_option maxHeartbeats 8000000 in
set_option maxRecDepth 100000 in
theorem puny_threshold.calls (a0 : Int) (a1 : Int) (r : Int) (w : World) (h : puny_threshold.f a0 a1 = some r) :
    Calls Try.prog 72 #[.int .i64 a0, .int .i64 a1] w fun e w' => e = .returned (.int .i64 r) ∧ Below w.heap.size w w' := by
  have HB := Aside0.mk (Below.refl w.heap.size w)
  have H : (some (mn (mx (wrap64 (a0 - a1)) 1) 26)) = some r := h
  clear h
  obtain ⟨ji3, hji3⟩ : ∃ j_ : Int, (mx (wrap64 (a0 - a1)) 1) = j_ := ⟨_, rfl⟩
  replace H : (some (mn (ji3) 26)) = some r := by first | (rw [hji3] at H; exact H) | (simp only [hji3] at H ⊢; exact H)
  (try (have hji3l : 1 ≤ ji3 := by (rw [← hji3]; unfold mx; (repeat' split) <;> omega)))
  (try (have hji3m : 0 ≤ ji3 := by omega))
  have hji3_ : (if (wrap64 (a0 - a1)) < 1 then 1 else (wrap64 (a0 - a1))) = ji3 := hji3
  obtain ⟨ji4, hji4⟩ : ∃ j_ : Int, (mn (ji3) 26) = j_ := ⟨_, rfl⟩
  replace H : (some ji4) = some r := by first | (rw [hji4] at H; exact H) | (simp only [hji4] at H ⊢; exact H)
  have hji4_ : (if 26 < (ji3) then 26 else (ji3)) = ji4 := hji4
  obtain rfl := Option.some.inj H
  go_enter Try.func72, Try.ntmps72
  go_wp2
  go_ret
  exact ⟨by first | rfl | (simp [errW_none, errW_some] <;> rfl) | (simp only [← hji3, ← hji4]; first | rfl | (simp [errW_none, errW_some] <;> rfl)) | (simp [*, errW_none, errW_some] <;> rfl), by repeat (first | (with_reducible first | exact HB.out | apply below_alloc | apply pw_below_drewN | apply below_drew1) | exact HB.out)⟩

end Go.Proofs.Ytooiajkbpkfplaa.Q

-- from Qf52
-- Made by hp.py, a program of this session, with the kit's printer. Not trusted: Lean checks it.
namespace Go.Proofs.Ytooiajkbpkfplaa.Q
open Go.RowKit Go.Proofs.YtooiajkbpkfplaaW.PrintWords Go.Proofs.YtooiajkbpkfplaaW.PrintLast Go.Proofs.YtooiajkbpkfplaaW.PrintMore
attribute [local go_sem] max2_int min2_int max_two min_two max_three min_three max_four min_four   -- for this text's walks alone
set_option linter.unusedVariables false
set_option linter.unusedSimpArgs false

/-! ### puny_number: function 52 -/
def puny_number.l0 : Nat → Int → Int → List Int → Int → Option (List Int)
  | 0, _, _, _, _ => none
  | k + 1, x0, x1, x5, x6 => (puny_threshold.f x6 x1).bind fun t101 => (if x0 < t101 then (if 0 ≤ x0 then (if x0 < 36 then (if x5.length < 140737488355328 then (some (x5 ++ [bt (⟨#[97, 98, 99, 100, 101, 102, 103, 104, 105, 106, 107, 108, 109, 110, 111, 112, 113, 114, 115, 116, 117, 118, 119, 120, 121, 122, 48, 49, 50, 51, 52, 53, 54, 55, 56, 57]⟩ : ByteArray) x0])) else (none)) else (none)) else (none)) else (if (wrap64 (36 - t101)) = 0 then (none) else (if 0 ≤ (wrap64 (t101 + (Int.tmod (wrap64 (x0 - t101)) (wrap64 (36 - t101))))) then (if (wrap64 (t101 + (Int.tmod (wrap64 (x0 - t101)) (wrap64 (36 - t101))))) < 36 then (if x5.length < 140737488355328 then (puny_number.l0 k (wrap64 (Int.tdiv (wrap64 (x0 - t101)) (wrap64 (36 - t101)))) x1 (x5 ++ [bt (⟨#[97, 98, 99, 100, 101, 102, 103, 104, 105, 106, 107, 108, 109, 110, 111, 112, 113, 114, 115, 116, 117, 118, 119, 120, 121, 122, 48, 49, 50, 51, 52, 53, 54, 55, 56, 57]⟩ : ByteArray) (wrap64 (t101 + (Int.tmod (wrap64 (x0 - t101)) (wrap64 (36 - t101)))))]) (wrap64 (x6 + 36))) else (none)) else (none)) else (none))))
def puny_number.f (k : Nat) (a0 : Int) (a1 : Int) : Option (List Int) := puny_number.l0 k a0 a1 ([] : List Int) 36
theorem puny_number.mono_l : ∀ k, (∀ y0 y1 y2 y3, LeO (puny_number.l0 k y0 y1 y2 y3) (puny_number.l0 (k + 1) y0 y1 y2 y3))
  | 0 => fun _ _ _ _ r h => by simp [puny_number.l0] at h
  | k + 1 => by
    have ih0 := puny_number.mono_l k
    · intro y0 y1 y2 y3
      unfold puny_number.l0
      repeat' first
      | (with_reducible exact ih0 _ _ _ _)
      | (with_reducible exact LeO.refl _)
      | (with_reducible exact LeO.none _)
      | (with_reducible refine LeO.ite ?_ ?_)
      | (with_reducible refine LeO.bind ?_ (fun _ => ?_))
      | exact ih0 _ _ _ _
      | exact LeO.none _
      | refine LeO.ite ?_ ?_
      | refine LeO.bind ?_ (fun _ => ?_)
theorem puny_number.mono : ∀ a0 a1 k, LeO (puny_number.f k a0 a1) (puny_number.f (k + 1) a0 a1) := by
  intro a0 a1 k
  have ih0 := puny_number.mono_l k
  unfold puny_number.f
  repeat' first
      | (with_reducible exact ih0 _ _ _ _)
      | (with_reducible exact LeO.refl _)
      | (with_reducible exact LeO.none _)
      | (with_reducible refine LeO.ite ?_ ?_)
      | (with_reducible refine LeO.bind ?_ (fun _ => ?_))
      | exact ih0 _ _ _ _
      | exact LeO.none _
      | refine LeO.ite ?_ ?_
      | refine LeO.bind ?_ (fun _ => ?_)
set_option maxHeartbeats 8000000 in
set_option maxRecDepth 100000 in
theorem puny_number.calls (k : Nat) (a0 : Int) (a1 : Int) (r : List Int) (w : World) (h : puny_number.f k a0 a1 = some r) :
    Calls Try.prog 52 #[.int .i64 a0, .int .i64 a1] w fun e w' => ∃ v0_ : Value, e = .returned (v0_) ∧ Kd.R (Kd.int .u8) 5 w' w.heap.size (fun _ => True) v0_ r ∧ Below w.heap.size w w' := by
  have HB := Aside0.mk (Below.refl w.heap.size w)
  have H : (puny_number.l0 k a0 a1 ([] : List Int) 36) = some r := h
  clear h
  have H' := Aside0.mk H
  clear H
  go_enter Try.func52, Try.ntmps52
  go_wp2
  go_loopg [0, 5, 6] k (fun kq v0 v5 v6 w' => ∃ (x0_1 : Int) (x5_1 : List Int) (x6_1 : Int), v0 = .int .i64 x0_1 ∧ v6 = .int .i64 x6_1 ∧ Aside0 (puny_number.l0 kq x0_1 a1 x5_1 x6_1 = some r) ∧ Aside0 (kq ≤ k) ∧ Aside0 (Kd.R (Kd.int .u8) 5 w' w.heap.size (fun _ => True) v5 x5_1) ∧ Aside0 (Below w.heap.size w w'))
  case atStart => exact ⟨(a0), (([] : List Int)), (36), (by first | rfl | (simp; done) | (simp [*]; done)), (by first | rfl | (simp; done) | (simp [*]; done)), H', ⟨Nat.le_refl _⟩, ⟨by first | exact Kd.R_nil _ _ _ _ _ | exact Kd.N_nil _ _ _ _ _ | exact Kd.V_nil _ _ _ _ _ | exact Kd.Q_nil _ _ _ _ _ | exact Kd.S_nil _ _ _ _ _⟩, ⟨by repeat (first | (with_reducible first | exact HB.out | apply below_alloc | apply pw_below_drewN | apply below_drew1) | exact HB.out)⟩⟩
  case round =>
    clear H'
    try clear p2
    obtain ⟨x0_1, x5_1, x6_1, rfl, rfl, HA, HK1, HO_5, HB⟩ := hrel
    cases gk with
    | zero => exact absurd HA.out (by simp [puny_number.l0])
    | succ k1 =>
      have H := HA.out
      clear HA
      simp only [puny_number.l0] at H
      replace H := Option.bind_eq_some_iff.mp H
      obtain ⟨t101, A30, H⟩ := H
      replace H : (if x0_1 < t101 then (if 0 ≤ x0_1 then (if x0_1 < 36 then (if x5_1.length < 140737488355328 then (some (x5_1 ++ [bt (⟨#[97, 98, 99, 100, 101, 102, 103, 104, 105, 106, 107, 108, 109, 110, 111, 112, 113, 114, 115, 116, 117, 118, 119, 120, 121, 122, 48, 49, 50, 51, 52, 53, 54, 55, 56, 57]⟩ : ByteArray) x0_1])) else (none)) else (none)) else (none)) else (if (wrap64 (36 - t101)) = 0 then (none) else (if 0 ≤ (wrap64 (t101 + (Int.tmod (wrap64 (x0_1 - t101)) (wrap64 (36 - t101))))) then (if (wrap64 (t101 + (Int.tmod (wrap64 (x0_1 - t101)) (wrap64 (36 - t101))))) < 36 then (if x5_1.length < 140737488355328 then (puny_number.l0 k1 (wrap64 (Int.tdiv (wrap64 (x0_1 - t101)) (wrap64 (36 - t101)))) a1 (x5_1 ++ [bt (⟨#[97, 98, 99, 100, 101, 102, 103, 104, 105, 106, 107, 108, 109, 110, 111, 112, 113, 114, 115, 116, 117, 118, 119, 120, 121, 122, 48, 49, 50, 51, 52, 53, 54, 55, 56, 57]⟩ : ByteArray) (wrap64 (t101 + (Int.tmod (wrap64 (x0_1 - t101)) (wrap64 (36 - t101)))))]) (wrap64 (x6_1 + 36))) else (none)) else (none)) else (none)))) = some r := H
      have A3 := Aside0.mk A30
      clear A30
      by_cases c4 : x0_1 < t101
      · rw [if_pos c4] at H
        have c4b0 : decide (x0_1 < t101) = true := decide_eq_true c4
        clear c4
        by_cases c5 : 0 ≤ x0_1
        · rw [if_pos c5] at H
          have c5b0 : decide (0 ≤ x0_1) = true := decide_eq_true c5
          clear c5
          by_cases c6 : x0_1 < 36
          · rw [if_pos c6] at H
            have c6b0 : decide (x0_1 < 36) = true := decide_eq_true c6
            clear c6
            by_cases c8 : x5_1.length < 140737488355328
            · rw [if_pos c8] at H
              have LMc8 := Aside0.mk c8
              clear c8
              obtain ⟨y102, hy102⟩ : ∃ y_ : List Int, y_ = (x5_1 ++ [bt (⟨#[97, 98, 99, 100, 101, 102, 103, 104, 105, 106, 107, 108, 109, 110, 111, 112, 113, 114, 115, 116, 117, 118, 119, 120, 121, 122, 48, 49, 50, 51, 52, 53, 54, 55, 56, 57]⟩ : ByteArray) x0_1]) := ⟨_, rfl⟩
              replace H : (some y102) = some r := by first | (rw [hy102]; with_reducible exact H) | (have H2_ := (Option.bind_some _ _).symm.trans H; rw [hy102]; with_reducible exact H2_) | (have H2_ := (Option.bind_some _ _).symm.trans H; with_reducible exact H2_) | with_reducible exact H | (rw [hy102]; exact H) | exact H
              have Ny102 := Aside0.mk hy102
              clear hy102
              obtain rfl := Option.some.inj H
              go_wp2_with (first | ((with_reducible refine gate_callee (f := 72) rfl ?_); refine goesL_ (some 12) rfl rfl Try.func72 (by kernel_rfl) rfl #[.int .i64 x6_1, .int .i64 a1] rfl (by (try simp only [List.map_toArray, List.map_cons, List.map_nil]); first | done | rfl | (simp only [List.length_drop, List.length_take]; rfl)) ?_; (with_reducible refine (puny_threshold.calls x6_1 a1 t101 _ A3.out).mono ?_); rintro e w9 ⟨rfl, hb⟩; refine ⟨_, rfl, ?_⟩; have n0_ := Aside0.mk (Kd.R_below (by (with_reducible repeat (first | apply Kd.R_alloc | apply Kd.R_drewN | apply Kd.R_drew)); exact HO_5.out) hb); have n1_ := Aside0.mk (below_step (by repeat (first | (with_reducible first | exact HB.out | apply below_alloc | apply pw_below_drewN | apply below_drew1) | exact HB.out)) hb); clear HO_5; clear HB; have HO_5 := n0_; have HB := n1_; clear n0_ n1_; (try clear hb); (try clear hb2); (try clear hk); (try clear hi); have p7 : 0 ≤ (x0_1 : Int) := of_decide_eq_true (by first | (with_reducible assumption) | assumption); have q7 : x0_1 < (36 : Int) := of_decide_eq_true (by first | (with_reducible assumption) | assumption); have hx7 := bt_at (⟨#[97, 98, 99, 100, 101, 102, 103, 104, 105, 106, 107, 108, 109, 110, 111, 112, 113, 114, 115, 116, 117, 118, 119, 120, 121, 122, 48, 49, 50, 51, 52, 53, 54, 55, 56, 57]⟩ : ByteArray) x0_1; replace p7 := eq_true p7; replace q7 := eq_true q7) | ((with_reducible refine gate_builtin (b := .append) (xs := #[.tmp 16, .tmp 19]) rfl ?_); at_builtin; refine Kd.R_append (Kd.int .u8) (w0 := w) w.heap.size rfl (.tmp 16) (.tmp 19) 22 5 (.int .u8 0) 1 rfl Try.underlying22 info5 rfl (by decide) (by omega) u5 x5_1 (bt (⟨#[97, 98, 99, 100, 101, 102, 103, 104, 105, 106, 107, 108, 109, 110, 111, 112, 113, 114, 115, 116, 117, 118, 119, 120, 121, 122, 48, 49, 50, 51, 52, 53, 54, 55, 56, 57]⟩ : ByteArray) x0_1) [.int .u8 (bt (⟨#[97, 98, 99, 100, 101, 102, 103, 104, 105, 106, 107, 108, 109, 110, 111, 112, 113, 114, 115, 116, 117, 118, 119, 120, 121, 122, 48, 49, 50, 51, 52, 53, 54, 55, 56, 57]⟩ : ByteArray) x0_1)] (fun _ => True) (fun _ => False) rfl rfl ?aP (fun _ hk => hk.elim) ?aF ?aO ?aB ?aS ?aL ?_; (case aP => exact rfl); (case aB => exact (by repeat (first | (with_reducible first | exact HB.out | apply below_alloc | apply pw_below_drewN | apply below_drew1) | exact HB.out))); (case aF => exact (fun _ _ => trivial)); (case aO => exact (by (with_reducible repeat (first | apply Kd.R_alloc | apply Kd.R_drewN | apply Kd.R_drew)); exact HO_5.out)); (case aS => exact (below_size (by repeat (first | (with_reducible first | exact HB.out | apply below_alloc | apply pw_below_drewN | apply below_drew1) | exact HB.out)))); (case aL => have := LMc8.out; omega); intro v103 w10 ho hb hg hat; rw [← Ny102.out] at ho; have n0_ := Aside0.mk (hb); have n1_ := Aside0.mk (ho); clear HB; clear HO_5; have HB := n0_; have HO104 := n1_; clear n0_ n1_; clear ho hb hg hat))
              go_ret
              exact ⟨_, by first | rfl | (simp [errW_none, errW_some] <;> rfl) | (simp [*, errW_none, errW_some] <;> rfl), by (with_reducible repeat (first | apply Kd.R_alloc | apply Kd.R_drewN | apply Kd.R_drew)); exact HO104.out, by repeat (first | (with_reducible first | exact HB.out | apply below_alloc | apply pw_below_drewN | apply below_drew1) | exact HB.out)⟩
            · rw [if_neg c8] at H
              exact absurd H (by simp)
          · rw [if_neg c6] at H
            exact absurd H (by simp)
        · rw [if_neg c5] at H
          exact absurd H (by simp)
      · rw [if_neg c4] at H
        have c4b0 : decide (x0_1 < t101) = false := decide_eq_false c4
        clear c4
        by_cases c11 : (wrap64 (36 - t101)) = 0
        · rw [if_pos c11] at H
          exact absurd H (by simp)
        · rw [if_neg c11] at H
          have c11b0 : ((wrap64 (36 - t101)) == 0) = false := beq_eq_false_iff_ne.mpr c11
          have c11b1 : ((wrap64 (36 - t101)) != 0) = true := bne_iff_ne.mpr c11
          obtain ⟨ji12, hji12⟩ : ∃ j_ : Int, (wrap64 (t101 + (Int.tmod (wrap64 (x0_1 - t101)) (wrap64 (36 - t101))))) = j_ := ⟨_, rfl⟩
          replace H : (if 0 ≤ (ji12) then (if (ji12) < 36 then (if x5_1.length < 140737488355328 then (puny_number.l0 k1 (wrap64 (Int.tdiv (wrap64 (x0_1 - t101)) (wrap64 (36 - t101)))) a1 (x5_1 ++ [bt (⟨#[97, 98, 99, 100, 101, 102, 103, 104, 105, 106, 107, 108, 109, 110, 111, 112, 113, 114, 115, 116, 117, 118, 119, 120, 121, 122, 48, 49, 50, 51, 52, 53, 54, 55, 56, 57]⟩ : ByteArray) (ji12)]) (wrap64 (x6_1 + 36))) else (none)) else (none)) else (none)) = some r := by first | (rw [hji12] at H; exact H) | (simp only [hji12] at H ⊢; exact H)
          (try rw [hji12] at A3)
          have hji12w : (IntKind.i64.wrap (t101 + (Int.tmod (wrap64 (x0_1 - t101)) (wrap64 (36 - t101))))) = ji12 := (i64_w _).trans hji12
          by_cases c13 : 0 ≤ (ji12)
          · rw [if_pos c13] at H
            have c13b0 : decide (0 ≤ (ji12)) = true := decide_eq_true c13
            clear c13
            by_cases c14 : (ji12) < 36
            · rw [if_pos c14] at H
              have c14b0 : decide ((ji12) < 36) = true := decide_eq_true c14
              clear c14
              by_cases c16 : x5_1.length < 140737488355328
              · rw [if_pos c16] at H
                have LMc16 := Aside0.mk c16
                clear c16
                obtain ⟨y105, hy105⟩ : ∃ y_ : List Int, y_ = (x5_1 ++ [bt (⟨#[97, 98, 99, 100, 101, 102, 103, 104, 105, 106, 107, 108, 109, 110, 111, 112, 113, 114, 115, 116, 117, 118, 119, 120, 121, 122, 48, 49, 50, 51, 52, 53, 54, 55, 56, 57]⟩ : ByteArray) (ji12)]) := ⟨_, rfl⟩
                replace H : (puny_number.l0 k1 (wrap64 (Int.tdiv (wrap64 (x0_1 - t101)) (wrap64 (36 - t101)))) a1 y105 (wrap64 (x6_1 + 36))) = some r := by first | (rw [hy105]; with_reducible exact H) | (have H2_ := (Option.bind_some _ _).symm.trans H; rw [hy105]; with_reducible exact H2_) | (have H2_ := (Option.bind_some _ _).symm.trans H; with_reducible exact H2_) | with_reducible exact H | (rw [hy105]; exact H) | exact H
                have Ny105 := Aside0.mk hy105
                clear hy105
                have H' := Aside0.mk H
                clear H
                go_wp2_with (first | ((with_reducible refine gate_callee (f := 72) rfl ?_); refine goesL_ (some 12) rfl rfl Try.func72 (by kernel_rfl) rfl #[.int .i64 x6_1, .int .i64 a1] rfl (by (try simp only [List.map_toArray, List.map_cons, List.map_nil]); first | done | rfl | (simp only [List.length_drop, List.length_take]; rfl)) ?_; (with_reducible refine (puny_threshold.calls x6_1 a1 t101 _ A3.out).mono ?_); rintro e w17 ⟨rfl, hb⟩; refine ⟨_, rfl, ?_⟩; have n0_ := Aside0.mk (Kd.R_below (by (with_reducible repeat (first | apply Kd.R_alloc | apply Kd.R_drewN | apply Kd.R_drew)); exact HO_5.out) hb); have n1_ := Aside0.mk (below_step (by repeat (first | (with_reducible first | exact HB.out | apply below_alloc | apply pw_below_drewN | apply below_drew1) | exact HB.out)) hb); clear HO_5; clear HB; have HO_5 := n0_; have HB := n1_; clear n0_ n1_; (try clear hb); (try clear hb2); (try clear hk); (try clear hi); have p15 : 0 ≤ ((ji12) : Int) := of_decide_eq_true (by first | (with_reducible assumption) | assumption); have q15 : (ji12) < (36 : Int) := of_decide_eq_true (by first | (with_reducible assumption) | assumption); have hx15 := bt_at (⟨#[97, 98, 99, 100, 101, 102, 103, 104, 105, 106, 107, 108, 109, 110, 111, 112, 113, 114, 115, 116, 117, 118, 119, 120, 121, 122, 48, 49, 50, 51, 52, 53, 54, 55, 56, 57]⟩ : ByteArray) (ji12); replace p15 := eq_true p15; replace q15 := eq_true q15) | ((with_reducible refine gate_builtin (b := .append) (xs := #[.tmp 21, .tmp 31]) rfl ?_); at_builtin; refine Kd.R_append (Kd.int .u8) (w0 := w) w.heap.size rfl (.tmp 21) (.tmp 31) 22 5 (.int .u8 0) 1 rfl Try.underlying22 info5 rfl (by decide) (by omega) u5 x5_1 (bt (⟨#[97, 98, 99, 100, 101, 102, 103, 104, 105, 106, 107, 108, 109, 110, 111, 112, 113, 114, 115, 116, 117, 118, 119, 120, 121, 122, 48, 49, 50, 51, 52, 53, 54, 55, 56, 57]⟩ : ByteArray) (ji12)) [.int .u8 (bt (⟨#[97, 98, 99, 100, 101, 102, 103, 104, 105, 106, 107, 108, 109, 110, 111, 112, 113, 114, 115, 116, 117, 118, 119, 120, 121, 122, 48, 49, 50, 51, 52, 53, 54, 55, 56, 57]⟩ : ByteArray) (ji12))] (fun _ => True) (fun _ => False) rfl rfl ?aP (fun _ hk => hk.elim) ?aF ?aO ?aB ?aS ?aL ?_; (case aP => exact rfl); (case aB => exact (by repeat (first | (with_reducible first | exact HB.out | apply below_alloc | apply pw_below_drewN | apply below_drew1) | exact HB.out))); (case aF => exact (fun _ _ => trivial)); (case aO => exact (by (with_reducible repeat (first | apply Kd.R_alloc | apply Kd.R_drewN | apply Kd.R_drew)); exact HO_5.out)); (case aS => exact (below_size (by repeat (first | (with_reducible first | exact HB.out | apply below_alloc | apply pw_below_drewN | apply below_drew1) | exact HB.out)))); (case aL => have := LMc16.out; omega); intro v106 w18 ho hb hg hat; rw [← Ny105.out] at ho; have n0_ := Aside0.mk (hb); have n1_ := Aside0.mk (ho); clear HB; clear HO_5; have HB := n0_; have HO107 := n1_; clear n0_ n1_; clear ho hb hg hat))
                go_roundg k1
                case measure => have := HK1.out; omega
                case rel => exact ⟨(wrap64 (Int.tdiv (wrap64 (x0_1 - t101)) (wrap64 (36 - t101)))), (y105), (wrap64 (x6_1 + 36)), (by first | rfl | (simp; done) | (simp [*]; done)), (by first | rfl | (simp; done) | (simp [*]; done)), H', ⟨by have := HK1.out; omega⟩, ⟨by (with_reducible repeat (first | apply Kd.R_alloc | apply Kd.R_drewN | apply Kd.R_drew)); exact HO107.out⟩, ⟨by repeat (first | (with_reducible first | exact HB.out | apply below_alloc | apply pw_below_drewN | apply below_drew1) | exact HB.out)⟩⟩
              · rw [if_neg c16] at H
                exact absurd H (by simp)
            · rw [if_neg c14] at H
              exact absurd H (by simp)
          · rw [if_neg c13] at H
            exact absurd H (by simp)

end Go.Proofs.Ytooiajkbpkfplaa.Q

-- from Qf53
-- Made by hp.py, a program of this session, with the kit's printer. Not trusted: Lean checks it.
namespace Go.Proofs.Ytooiajkbpkfplaa.Q
open Go.RowKit Go.Proofs.YtooiajkbpkfplaaW.PrintWords Go.Proofs.YtooiajkbpkfplaaW.PrintLast Go.Proofs.YtooiajkbpkfplaaW.PrintMore
attribute [local go_sem] max2_int min2_int max_two min_two max_three min_three max_four min_four   -- for this text's walks alone
set_option linter.unusedVariables false
set_option linter.unusedSimpArgs false

/-! ### puny_adapt: function 53 -/
mutual
def puny_adapt.j0 : Nat → Int → Int → Option (Int)
  | 0, _, _ => none
  | k + 1, x0, x1 => if x1 = 0 then (none) else (puny_adapt.l0 k (wrap64 (x0 + (wrap64 (Int.tdiv x0 x1)))) 0)
def puny_adapt.l0 : Nat → Int → Int → Option (Int)
  | 0, _, _ => none
  | k + 1, x0, x7 => if x0 > 455 then (puny_adapt.l0 k (wrap64 (Int.tdiv x0 35)) (wrap64 (x7 + 36))) else (if (wrap64 (x0 + 38)) = 0 then (none) else (some (wrap64 (x7 + (wrap64 (Int.tdiv (wrap64 (36 * x0)) (wrap64 (x0 + 38))))))))
end
def puny_adapt.f (k : Nat) (a0 : Int) (a1 : Int) (a2 : Bool) : Option (Int) := if a2 = true then (puny_adapt.j0 k (wrap64 (Int.tdiv a0 700)) a1) else (puny_adapt.j0 k (wrap64 (Int.tdiv a0 2)) a1)
theorem puny_adapt.mono_l : ∀ k, (∀ y0 y1, LeO (puny_adapt.j0 k y0 y1) (puny_adapt.j0 (k + 1) y0 y1)) ∧ (∀ y0 y1, LeO (puny_adapt.l0 k y0 y1) (puny_adapt.l0 (k + 1) y0 y1))
  | 0 => ⟨fun _ _ r h => by simp [puny_adapt.j0] at h, fun _ _ r h => by simp [puny_adapt.l0] at h⟩
  | k + 1 => by
    obtain ⟨ih0, ih1⟩ := puny_adapt.mono_l k
    refine ⟨?_, ?_⟩
    · intro y0 y1
      unfold puny_adapt.j0
      repeat' first
      | (with_reducible exact ih0 _ _)
      | (with_reducible exact ih1 _ _)
      | (with_reducible exact LeO.refl _)
      | (with_reducible exact LeO.none _)
      | (with_reducible refine LeO.ite ?_ ?_)
      | (with_reducible refine LeO.bind ?_ (fun _ => ?_))
      | exact ih0 _ _
      | exact ih1 _ _
      | exact LeO.none _
      | refine LeO.ite ?_ ?_
      | refine LeO.bind ?_ (fun _ => ?_)
    · intro y0 y1
      unfold puny_adapt.l0
      repeat' first
      | (with_reducible exact ih0 _ _)
      | (with_reducible exact ih1 _ _)
      | (with_reducible exact LeO.refl _)
      | (with_reducible exact LeO.none _)
      | (with_reducible refine LeO.ite ?_ ?_)
      | (with_reducible refine LeO.bind ?_ (fun _ => ?_))
      | exact ih0 _ _
      | exact ih1 _ _
      | exact LeO.none _
      | refine LeO.ite ?_ ?_
      | refine LeO.bind ?_ (fun _ => ?_)
theorem puny_adapt.mono : ∀ a0 a1 a2 k, LeO (puny_adapt.f k a0 a1 a2) (puny_adapt.f (k + 1) a0 a1 a2) := by
  intro a0 a1 a2 k
  obtain ⟨ih0, ih1⟩ := puny_adapt.mono_l k
  unfold puny_adapt.f
  repeat' first
      | (with_reducible exact ih0 _ _)
      | (with_reducible exact ih1 _ _)
      | (with_reducible exact LeO.refl _)
      | (with_reducible exact LeO.none _)
      | (with_reducible refine LeO.ite ?_ ?_)
      | (with_reducible refine LeO.bind ?_ (fun _ => ?_))
      | exact ih0 _ _
      | exact ih1 _ _
      | exact LeO.none _
      | refine LeO.ite ?_ ?_
      | refine LeO.bind ?_ (fun _ => ?_)
set_option maxHeartbeats 8000000 in
set_option maxRecDepth 100000 in
theorem puny_adapt.calls (k : Nat) (a0 : Int) (a1 : Int) (a2 : Bool) (r : Int) (w : World) (h : puny_adapt.f k a0 a1 a2 = some r) :
    Calls Try.prog 53 #[.int .i64 a0, .int .i64 a1, .bool a2] w fun e w' => e = .returned (.int .i64 r) ∧ Drawn0 w w' := by
  have H : (if a2 = true then (puny_adapt.j0 k (wrap64 (Int.tdiv a0 700)) a1) else (puny_adapt.j0 k (wrap64 (Int.tdiv a0 2)) a1)) = some r := h
  clear h
  have HC4 := Aside0.mk H
  clear H
  go_enter Try.func53, Try.ntmps53
  go_upto_if 8 with (fail)
  go_cut [0] (fun v0 wc => ∃ (kq : Nat) (x0_3 : Int), v0 = .int .i64 x0_3 ∧ Aside0 (puny_adapt.j0 kq x0_3 a1 = some r) ∧ Aside0 (kq ≤ k) ∧ Drawn0 w wc)
  case first =>
    have H := HC4.out
    clear HC4
    by_cases c5 : a2 = true
    · subst c5
      have H1 : (puny_adapt.j0 k (wrap64 (Int.tdiv a0 700)) a1) = some r := by rw [if_pos rfl] at H; exact H
      clear H
      have H := H1
      clear H1
      have H' := Aside0.mk H
      clear H
      go_wp2
      go_meet
      case rel => exact ⟨_, (wrap64 (Int.tdiv a0 700)), (by first | rfl | (simp; done) | (simp [*]; done)), H', ⟨by first | omega | exact Nat.le_refl _⟩, by repeat (first | exact Drawn0.refl _ | apply Drawn0.step)⟩
    · replace c5 := Bool.eq_false_iff.mpr c5
      subst c5
      have H1 : (puny_adapt.j0 k (wrap64 (Int.tdiv a0 2)) a1) = some r := by rw [if_neg (show ¬ (false = true) by decide)] at H; exact H
      clear H
      have H := H1
      clear H1
      have H' := Aside0.mk H
      clear H
      go_wp2
      go_meet
      case rel => exact ⟨_, (wrap64 (Int.tdiv a0 2)), (by first | rfl | (simp; done) | (simp [*]; done)), H', ⟨by first | omega | exact Nat.le_refl _⟩, by repeat (first | exact Drawn0.refl _ | apply Drawn0.step)⟩
  case rest =>
    clear HC4
    try clear p2
    try clear c5
    obtain ⟨kq, x0_3, rfl, HA, HJ3, ⟨mc3, rfl⟩⟩ := hcut
    cases kq with
    | zero => exact absurd HA.out (by simp [puny_adapt.j0])
    | succ kj3 =>
      have H := HA.out
      clear HA
      simp only [puny_adapt.j0] at H
      by_cases c6 : a1 = 0
      · rw [if_pos c6] at H
        exact absurd H (by simp)
      · rw [if_neg c6] at H
        have c6b0 : (a1 == 0) = false := beq_eq_false_iff_ne.mpr c6
        have c6b1 : (a1 != 0) = true := bne_iff_ne.mpr c6
        have H' := Aside0.mk H
        clear H
        go_wp2
        go_loopg [0, 7] kj3 (fun kq v0 v7 w' => ∃ (x0_2 : Int) (x7_2 : Int), v0 = .int .i64 x0_2 ∧ v7 = .int .i64 x7_2 ∧ Aside0 (puny_adapt.l0 kq x0_2 x7_2 = some r) ∧ Aside0 (kq ≤ kj3) ∧ Drawn0 w w')
        case atStart => exact ⟨(wrap64 (x0_3 + (wrap64 (Int.tdiv x0_3 a1)))), (0), (by first | rfl | (simp; done) | (simp [*]; done)), (by first | rfl | (simp; done) | (simp [*]; done)), H', ⟨Nat.le_refl _⟩, by repeat (first | exact Drawn0.refl _ | apply Drawn0.step)⟩
        case round =>
          clear H'
          try clear p2
          try clear c3
          try clear c5
          try clear c6
          try clear c6b0
          try clear c6b1
          try clear p6
          try clear p2
          obtain ⟨x0_2, x7_2, rfl, rfl, HA, HK2, ⟨m2, rfl⟩⟩ := hrel
          cases gk with
          | zero => exact absurd HA.out (by simp [puny_adapt.l0])
          | succ k2 =>
            have H := HA.out
            clear HA
            simp only [puny_adapt.l0] at H
            by_cases c7 : x0_2 > 455
            · rw [if_pos c7] at H
              have c7b0 : decide (455 < x0_2) = true := decide_eq_true c7
              clear c7
              have H' := Aside0.mk H
              clear H
              go_wp2
              go_roundg k2
              case measure => have := HJ3.out; have := HK2.out; omega
              case rel => exact ⟨(wrap64 (Int.tdiv x0_2 35)), (wrap64 (x7_2 + 36)), (by first | rfl | (simp; done) | (simp [*]; done)), (by first | rfl | (simp; done) | (simp [*]; done)), H', ⟨by have := HJ3.out; have := HK2.out; omega⟩, by repeat (first | exact Drawn0.refl _ | apply Drawn0.step)⟩
            · rw [if_neg c7] at H
              have c7b0 : decide (455 < x0_2) = false := decide_eq_false c7
              clear c7
              by_cases c8 : (wrap64 (x0_2 + 38)) = 0
              · rw [if_pos c8] at H
                exact absurd H (by simp)
              · rw [if_neg c8] at H
                have c8b0 : ((wrap64 (x0_2 + 38)) == 0) = false := beq_eq_false_iff_ne.mpr c8
                have c8b1 : ((wrap64 (x0_2 + 38)) != 0) = true := bne_iff_ne.mpr c8
                obtain rfl := Option.some.inj H
                go_wp2
                go_ret
                exact ⟨by first | rfl | (simp; done) | (simp [*]; done), by repeat (first | exact Drawn0.refl _ | apply Drawn0.step)⟩

end Go.Proofs.Ytooiajkbpkfplaa.Q

-- from Qf50
-- Made by hp.py, a program of this session, with the kit's printer. Not trusted: Lean checks it.
namespace Go.Proofs.Ytooiajkbpkfplaa.Q
open Go.RowKit Go.Proofs.YtooiajkbpkfplaaW.PrintWords Go.Proofs.YtooiajkbpkfplaaW.PrintLast Go.Proofs.YtooiajkbpkfplaaW.PrintMore
attribute [local go_sem] max2_int min2_int max_two min_two max_three min_three max_four min_four   -- for this text's walks alone
set_option linter.unusedVariables false
set_option linter.unusedSimpArgs false

/-! ### puny_Encode_1: function 50 -/
def puny_Encode_1.f (a0 : Int) : Option (Bool) := (utf_Scalar.f a0).bind fun t101 => (some (!t101))
set_option maxHeartbeats 8000000 in
set_option maxRecDepth 100000 in
theorem puny_Encode_1.calls (a0 : Int) (r : Bool) (w : World) (h : puny_Encode_1.f a0 = some r) :
    Calls Try.prog 50 #[.int .i64 a0] w fun e w' => e = .returned (.bool r) ∧ Drawn0 w w' := by
  have H : ((utf_Scalar.f a0).bind fun t101 => (some (!t101))) = some r := h
  clear h
  replace H := Option.bind_eq_some_iff.mp H
  obtain ⟨t101, A20, H⟩ := H
  replace H : (some (!t101)) = some r := H
  have A2 := Aside0.mk A20
  clear A20
  obtain rfl := Option.some.inj H
  go_enter Try.func50, Try.ntmps50
  go_wp2_with (first | ((with_reducible refine gate_callee (f := 39) rfl ?_); refine goesL_ (some 4) rfl rfl Try.func39 (by kernel_rfl) rfl #[.int .i64 a0] rfl (by (try simp only [List.map_toArray, List.map_cons, List.map_nil]); first | done | rfl | (simp only [List.length_drop, List.length_take]; rfl)) ?_; (with_reducible refine (utf_Scalar.calls a0 t101 _ A2.out).mono ?_); rintro e w' ⟨rfl, ⟨nd, rfl⟩⟩; refine ⟨_, rfl, ?_⟩))
  go_ret
  exact ⟨by first | rfl | (simp; done) | (simp [*]; done), by repeat (first | exact Drawn0.refl _ | apply Drawn0.step)⟩

end Go.Proofs.Ytooiajkbpkfplaa.Q

-- from Qf71at50
-- Made by hp.py, a program of this session, with the kit's printer. Not trusted: Lean checks it.
namespace Go.Proofs.Ytooiajkbpkfplaa.Q
open Go.RowKit Go.Proofs.YtooiajkbpkfplaaW.PrintWords Go.Proofs.YtooiajkbpkfplaaW.PrintLast Go.Proofs.YtooiajkbpkfplaaW.PrintMore
attribute [local go_sem] max2_int min2_int max_two min_two max_three min_three max_four min_four   -- for this text's walks alone
set_option linter.unusedVariables false
set_option linter.unusedSimpArgs false

/-! ### slices_IndexFunc_int_int_at_puny_Encode_1: function 71 -/
def slices_IndexFunc_int_int_at_puny_Encode_1.l0 : Nat → List Int → Int → Int → Option (Int)
  | 0, _, _, _ => none
  | k + 1, x0, x7, x8 => if x8 < x7 then (if 0 ≤ x8 then (if x8 < (x0.length : Int) then ((puny_Encode_1.f (rd x0 x8)).bind fun t102 => (if t102 = true then (some x8) else (slices_IndexFunc_int_int_at_puny_Encode_1.l0 k x0 x7 (wrap64 (x8 + 1))))) else (none)) else (none)) else (some (-1))
def slices_IndexFunc_int_int_at_puny_Encode_1.f (k : Nat) (l0 : List Int)  : Option (Int) := slices_IndexFunc_int_int_at_puny_Encode_1.l0 k l0 (l0.length : Int) 0
theorem slices_IndexFunc_int_int_at_puny_Encode_1.mono_l : ∀ k, (∀ y0 y1 y2, LeO (slices_IndexFunc_int_int_at_puny_Encode_1.l0 k y0 y1 y2) (slices_IndexFunc_int_int_at_puny_Encode_1.l0 (k + 1) y0 y1 y2))
  | 0 => fun _ _ _ r h => by simp [slices_IndexFunc_int_int_at_puny_Encode_1.l0] at h
  | k + 1 => by
    have ih0 := slices_IndexFunc_int_int_at_puny_Encode_1.mono_l k
    · intro y0 y1 y2
      unfold slices_IndexFunc_int_int_at_puny_Encode_1.l0
      repeat' first
      | (with_reducible exact ih0 _ _ _)
      | (with_reducible exact LeO.refl _)
      | (with_reducible exact LeO.none _)
      | (with_reducible refine LeO.ite ?_ ?_)
      | (with_reducible refine LeO.bind ?_ (fun _ => ?_))
      | exact ih0 _ _ _
      | exact LeO.none _
      | refine LeO.ite ?_ ?_
      | refine LeO.bind ?_ (fun _ => ?_)
theorem slices_IndexFunc_int_int_at_puny_Encode_1.mono : ∀ a0 k, LeO (slices_IndexFunc_int_int_at_puny_Encode_1.f k a0) (slices_IndexFunc_int_int_at_puny_Encode_1.f (k + 1) a0) := by
  intro a0 k
  have ih0 := slices_IndexFunc_int_int_at_puny_Encode_1.mono_l k
  unfold slices_IndexFunc_int_int_at_puny_Encode_1.f
  repeat' first
      | (with_reducible exact ih0 _ _ _)
      | (with_reducible exact LeO.refl _)
      | (with_reducible exact LeO.none _)
      | (with_reducible refine LeO.ite ?_ ?_)
      | (with_reducible refine LeO.bind ?_ (fun _ => ?_))
      | exact ih0 _ _ _
      | exact LeO.none _
      | refine LeO.ite ?_ ?_
      | refine LeO.bind ?_ (fun _ => ?_)
set_option maxHeartbeats 8000000 in
set_option maxRecDepth 100000 in
theorem slices_IndexFunc_int_int_at_puny_Encode_1.calls (k : Nat) (A0 : Option Addr) (c0 : Nat) (l0 : List Int)  (r : Int) (w : World) (hr0 : Kd.C (Kd.int .i64) w A0 l0.length l0) (hc0 : l0.length ≤ c0) (h : slices_IndexFunc_int_int_at_puny_Encode_1.f k l0 = some r) :
    Calls Try.prog 71 #[.slice A0 l0.length c0, .func (.func 50) #[] #[]] w fun e w' => e = .returned (.int .i64 r) ∧ Drawn0 w w' := by
  have HR0 := Aside0.mk hr0
  have HC0 := Aside0.mk hc0
  clear hr0 hc0
  have H : (slices_IndexFunc_int_int_at_puny_Encode_1.l0 k l0 (l0.length : Int) 0) = some r := h
  clear h
  have H' := Aside0.mk H
  clear H
  go_enter Try.func71, Try.ntmps71
  go_wp2
  go_loopg [8] k (fun kq v8 w' => ∃ (x8_1 : Int), v8 = .int .i64 x8_1 ∧ Aside0 (slices_IndexFunc_int_int_at_puny_Encode_1.l0 kq l0 (l0.length : Int) x8_1 = some r) ∧ Aside0 (kq ≤ k) ∧ Drawn0 w w')
  case atStart => exact ⟨(0), (by first | rfl | (simp; done) | (simp [*]; done)), H', ⟨Nat.le_refl _⟩, by repeat (first | exact Drawn0.refl _ | apply Drawn0.step)⟩
  case round =>
    clear H'
    try clear p2
    obtain ⟨x8_1, rfl, HA, HK1, ⟨m1, rfl⟩⟩ := hrel
    cases gk with
    | zero => exact absurd HA.out (by simp [slices_IndexFunc_int_int_at_puny_Encode_1.l0])
    | succ k1 =>
      have H := HA.out
      clear HA
      simp only [slices_IndexFunc_int_int_at_puny_Encode_1.l0] at H
      by_cases c3 : x8_1 < (l0.length : Int)
      · rw [if_pos c3] at H
        have c3b0 : decide (x8_1 < (l0.length : Int)) = true := decide_eq_true c3
        clear c3
        by_cases c4 : 0 ≤ x8_1
        · rw [if_pos c4] at H
          have c4b0 : decide (0 ≤ x8_1) = true := decide_eq_true c4
          clear c4
          by_cases c5 : x8_1 < (l0.length : Int)
          · rw [if_pos c5] at H
            have c5b0 : decide (x8_1 < (l0.length : Int)) = true := decide_eq_true c5
            clear c5
            replace H := Option.bind_eq_some_iff.mp H
            obtain ⟨t102, A60, H⟩ := H
            replace H : (if t102 = true then (some x8_1) else (slices_IndexFunc_int_int_at_puny_Encode_1.l0 k1 l0 (l0.length : Int) (wrap64 (x8_1 + 1)))) = some r := H
            have A6 := Aside0.mk A60
            clear A60
            by_cases c7 : t102 = true
            · subst c7
              have H1 : (some x8_1) = some r := by rw [if_pos rfl] at H; exact H
              clear H
              have H := H1
              clear H1
              obtain rfl := Option.some.inj H
              have p101 : 0 ≤ (x8_1 : Int) := of_decide_eq_true (by first | (with_reducible assumption) | assumption)
              have q101 : x8_1 < (l0.length : Int) := of_decide_eq_true (by first | (with_reducible assumption) | assumption)
              obtain ⟨ad101, e101, hx101_0⟩ := Kd.at_int HR0.out x8_1 p101 q101
              cases e101
              replace p101 := eq_true p101
              replace q101 := eq_true q101
              go_wp2_with (first | (go_at_call 50; (with_reducible refine (puny_Encode_1.calls (rd l0 x8_1) true _ A6.out).mono ?_); rintro e w' ⟨rfl, ⟨nd, rfl⟩⟩))
              go_ret
              exact ⟨by first | rfl | (simp; done) | (simp [*]; done), by repeat (first | exact Drawn0.refl _ | apply Drawn0.step)⟩
            · replace c7 := Bool.eq_false_iff.mpr c7
              subst c7
              have H1 : (slices_IndexFunc_int_int_at_puny_Encode_1.l0 k1 l0 (l0.length : Int) (wrap64 (x8_1 + 1))) = some r := by rw [if_neg (show ¬ (false = true) by decide)] at H; exact H
              clear H
              have H := H1
              clear H1
              have H' := Aside0.mk H
              clear H
              have p101 : 0 ≤ (x8_1 : Int) := of_decide_eq_true (by first | (with_reducible assumption) | assumption)
              have q101 : x8_1 < (l0.length : Int) := of_decide_eq_true (by first | (with_reducible assumption) | assumption)
              obtain ⟨ad101, e101, hx101_0⟩ := Kd.at_int HR0.out x8_1 p101 q101
              cases e101
              replace p101 := eq_true p101
              replace q101 := eq_true q101
              go_wp2_with (first | (go_at_call 50; (with_reducible refine (puny_Encode_1.calls (rd l0 x8_1) false _ A6.out).mono ?_); rintro e w' ⟨rfl, ⟨nd, rfl⟩⟩))
              go_roundg k1
              case measure => have := HK1.out; omega
              case rel => exact ⟨(wrap64 (x8_1 + 1)), (by first | rfl | (simp; done) | (simp [*]; done)), H', ⟨by have := HK1.out; omega⟩, by repeat (first | exact Drawn0.refl _ | apply Drawn0.step)⟩
          · rw [if_neg c5] at H
            exact absurd H (by simp)
        · rw [if_neg c4] at H
          exact absurd H (by simp)
      · rw [if_neg c3] at H
        have c3b0 : decide (x8_1 < (l0.length : Int)) = false := decide_eq_false c3
        clear c3
        obtain rfl := Option.some.inj H
        go_wp2
        go_ret
        exact ⟨by first | rfl | (simp; done) | (simp [*]; done), by repeat (first | exact Drawn0.refl _ | apply Drawn0.step)⟩

end Go.Proofs.Ytooiajkbpkfplaa.Q

-- from Qf49at50
-- Made by hp.py, a program of this session, with the kit's printer. Not trusted: Lean checks it.
namespace Go.Proofs.Ytooiajkbpkfplaa.Q
open Go.RowKit Go.Proofs.YtooiajkbpkfplaaW.PrintWords Go.Proofs.YtooiajkbpkfplaaW.PrintLast Go.Proofs.YtooiajkbpkfplaaW.PrintMore
attribute [local go_sem] max2_int min2_int max_two min_two max_three min_three max_four min_four   -- for this text's walks alone
set_option linter.unusedVariables false
set_option linter.unusedSimpArgs false

/-! ### slices_ContainsFunc_int_int_at_puny_Encode_1: function 49 -/
def slices_ContainsFunc_int_int_at_puny_Encode_1.f (k : Nat) (l0 : List Int)  : Option (Bool) := (slices_IndexFunc_int_int_at_puny_Encode_1.f k l0).bind fun t103 => (some (decide (t103 ≥ 0)))
theorem slices_ContainsFunc_int_int_at_puny_Encode_1.mono : ∀ a0 k, LeO (slices_ContainsFunc_int_int_at_puny_Encode_1.f k a0) (slices_ContainsFunc_int_int_at_puny_Encode_1.f (k + 1) a0) := by
  intro a0 k
  unfold slices_ContainsFunc_int_int_at_puny_Encode_1.f
  repeat' first
      | (with_reducible exact slices_IndexFunc_int_int_at_puny_Encode_1.mono _ _)
      | (with_reducible exact LeO.refl _)
      | (with_reducible exact LeO.none _)
      | (with_reducible refine LeO.ite ?_ ?_)
      | (with_reducible refine LeO.bind ?_ (fun _ => ?_))
      | exact slices_IndexFunc_int_int_at_puny_Encode_1.mono _ _
      | exact LeO.none _
      | refine LeO.ite ?_ ?_
      | refine LeO.bind ?_ (fun _ => ?_)
set_option maxHeartbeats 8000000 in
set_option maxRecDepth 100000 in
theorem slices_ContainsFunc_int_int_at_puny_Encode_1.calls (k : Nat) (A0 : Option Addr) (c0 : Nat) (l0 : List Int)  (r : Bool) (w : World) (hr0 : Kd.C (Kd.int .i64) w A0 l0.length l0) (hc0 : l0.length ≤ c0) (h : slices_ContainsFunc_int_int_at_puny_Encode_1.f k l0 = some r) :
    Calls Try.prog 49 #[.slice A0 l0.length c0, .func (.func 50) #[] #[]] w fun e w' => e = .returned (.bool r) ∧ Drawn0 w w' := by
  have HR0 := Aside0.mk hr0
  have HC0 := Aside0.mk hc0
  clear hr0 hc0
  have H : ((slices_IndexFunc_int_int_at_puny_Encode_1.f k l0).bind fun t103 => (some (decide (t103 ≥ 0)))) = some r := h
  clear h
  replace H := Option.bind_eq_some_iff.mp H
  obtain ⟨t103, A30, H⟩ := H
  replace H : (some (decide (t103 ≥ 0))) = some r := H
  have A3 := Aside0.mk A30
  clear A30
  obtain rfl := Option.some.inj H
  go_enter Try.func49, Try.ntmps49
  go_wp2_with (first | (go_at_call 71; (with_reducible refine (slices_IndexFunc_int_int_at_puny_Encode_1.calls k _ _ l0 t103 _ ?side1 ?side2 A3.out).mono ?_); (case side1 => repeat (first | exact HR0.out | (with_reducible refine Kd.C_alloc ?_ _) | (with_reducible refine Kd.C_drewN ?_ _) | (with_reducible refine Kd.C_drew ?_))); (case side2 => exact HC0.out); rintro e w' ⟨rfl, ⟨nd, rfl⟩⟩))
  go_ret
  exact ⟨by first | rfl | (simp; done) | (simp [*]; done), by repeat (first | exact Drawn0.refl _ | apply Drawn0.step)⟩

end Go.Proofs.Ytooiajkbpkfplaa.Q

-- from Qf26
-- Made by hp.py, a program of this session, with the kit's printer. Not trusted: Lean checks it.
namespace Go.Proofs.Ytooiajkbpkfplaa.Q
open Go.RowKit Go.Proofs.YtooiajkbpkfplaaW.PrintWords Go.Proofs.YtooiajkbpkfplaaW.PrintLast Go.Proofs.YtooiajkbpkfplaaW.PrintMore
attribute [local go_sem] max2_int min2_int max_two min_two max_three min_three max_four min_four   -- for this text's walks alone
set_option linter.unusedVariables false
set_option linter.unusedSimpArgs false

/-! ### puny_Encode: function 26 -/
mutual
def puny_Encode.l0 : Nat → List Int → List Int → List Int → Int → Int → Option (List Int × Int)
  | 0, _, _, _, _, _ => none
  | k + 1, x0, x4, x22, x23, x24 => if x24 < x23 then (if 0 ≤ x24 then (if x24 < (x22.length : Int) then (if (rd x22 x24) < 128 then (if x4.length < 140737488355328 then (puny_Encode.l0 k x0 (x4 ++ [(rd x22 x24) % 256]) x22 x23 (wrap64 (x24 + 1))) else (none)) else (puny_Encode.l0 k x0 x4 x22 x23 (wrap64 (x24 + 1)))) else (none)) else (none)) else (if (x4.length : Int) > 0 then (if x4.length < 140737488355328 then (puny_Encode.j1 k x0 (x4 ++ [45]) (x4.length : Int)) else (none)) else (puny_Encode.j1 k x0 x4 (x4.length : Int)))
def puny_Encode.j1 : Nat → List Int → List Int → Int → Option (List Int × Int)
  | 0, _, _, _ => none
  | k + 1, x0, x4, x7 => puny_Encode.l1 k x0 x4 x7 128 72 0 x7
def puny_Encode.l1 : Nat → List Int → List Int → Int → Int → Int → Int → Int → Option (List Int × Int)
  | 0, _, _, _, _, _, _, _ => none
  | k + 1, x0, x4, x7, x8, x9, x10, x11 => if x11 < (x0.length : Int) then ((puny_least.f k x0 x8).bind fun t112 => (puny_Encode.l2 k x0 x4 x7 t112 x9 (wrap64 (x10 + (wrap64 ((wrap64 (t112 - x8)) * (wrap64 (x11 + 1)))))) x11 x0 (x0.length : Int) 0)) else (some (x4, 0))
def puny_Encode.l2 : Nat → List Int → List Int → Int → Int → Int → Int → Int → List Int → Int → Int → Option (List Int × Int)
  | 0, _, _, _, _, _, _, _, _, _, _ => none
  | k + 1, x0, x4, x7, x8, x9, x10, x11, x60, x61, x62 => if x62 < x61 then (if 0 ≤ x62 then (if x62 < (x60.length : Int) then (if (rd x60 x62) < x8 then (puny_Encode.l2 k x0 x4 x7 x8 x9 (wrap64 (x10 + 1)) x11 x60 x61 (wrap64 (x62 + 1))) else (if (rd x60 x62) = x8 then ((puny_number.f k x10 x9).bind fun t114 => (if x4.length + t114.length < 140737488355328 then ((puny_adapt.f k x10 (wrap64 (x11 + 1)) (x11 == x7)).bind fun t120 => (puny_Encode.l2 k x0 (x4 ++ t114) x7 x8 t120 0 (wrap64 (x11 + 1)) x60 x61 (wrap64 (x62 + 1)))) else (none))) else (puny_Encode.l2 k x0 x4 x7 x8 x9 x10 x11 x60 x61 (wrap64 (x62 + 1))))) else (none)) else (none)) else (puny_Encode.l1 k x0 x4 x7 (wrap64 (x8 + 1)) x9 (wrap64 (x10 + 1)) x11)
end
def puny_Encode.f (k : Nat) (l0 : List Int) : Option (List Int × Int) := (slices_ContainsFunc_int_int_at_puny_Encode_1.f k l0).bind fun t104 => (if t104 = true then (some (([] : List Int), 10)) else (if (l0.length : Int) > 1000 then (some (([] : List Int), 36)) else (puny_Encode.l0 k l0 ([] : List Int) l0 (l0.length : Int) 0)))
theorem puny_Encode.mono_l : ∀ k, (∀ y0 y1 y2 y3 y4, LeO (puny_Encode.l0 k y0 y1 y2 y3 y4) (puny_Encode.l0 (k + 1) y0 y1 y2 y3 y4)) ∧ (∀ y0 y1 y2, LeO (puny_Encode.j1 k y0 y1 y2) (puny_Encode.j1 (k + 1) y0 y1 y2)) ∧ (∀ y0 y1 y2 y3 y4 y5 y6, LeO (puny_Encode.l1 k y0 y1 y2 y3 y4 y5 y6) (puny_Encode.l1 (k + 1) y0 y1 y2 y3 y4 y5 y6)) ∧ (∀ y0 y1 y2 y3 y4 y5 y6 y7 y8 y9, LeO (puny_Encode.l2 k y0 y1 y2 y3 y4 y5 y6 y7 y8 y9) (puny_Encode.l2 (k + 1) y0 y1 y2 y3 y4 y5 y6 y7 y8 y9))
  | 0 => ⟨fun _ _ _ _ _ r h => by simp [puny_Encode.l0] at h, fun _ _ _ r h => by simp [puny_Encode.j1] at h, fun _ _ _ _ _ _ _ r h => by simp [puny_Encode.l1] at h, fun _ _ _ _ _ _ _ _ _ _ r h => by simp [puny_Encode.l2] at h⟩
  | k + 1 => by
    obtain ⟨ih0, ih1, ih2, ih3⟩ := puny_Encode.mono_l k
    refine ⟨?_, ?_, ?_, ?_⟩
    · intro y0 y1 y2 y3 y4
      unfold puny_Encode.l0
      repeat' first
      | (with_reducible exact ih0 _ _ _ _ _)
      | (with_reducible exact ih1 _ _ _)
      | (with_reducible exact ih2 _ _ _ _ _ _ _)
      | (with_reducible exact ih3 _ _ _ _ _ _ _ _ _ _)
      | (with_reducible exact puny_adapt.mono _ _ _ _)
      | (with_reducible exact puny_least.mono _ _ _)
      | (with_reducible exact puny_number.mono _ _ _)
      | (with_reducible exact slices_ContainsFunc_int_int_at_puny_Encode_1.mono _ _)
      | (with_reducible exact LeO.refl _)
      | (with_reducible exact LeO.none _)
      | (with_reducible refine LeO.ite ?_ ?_)
      | (with_reducible refine LeO.bind ?_ (fun _ => ?_))
      | exact ih0 _ _ _ _ _
      | exact ih1 _ _ _
      | exact ih2 _ _ _ _ _ _ _
      | exact ih3 _ _ _ _ _ _ _ _ _ _
      | exact puny_adapt.mono _ _ _ _
      | exact puny_least.mono _ _ _
      | exact puny_number.mono _ _ _
      | exact slices_ContainsFunc_int_int_at_puny_Encode_1.mono _ _
      | exact LeO.none _
      | refine LeO.ite ?_ ?_
      | refine LeO.bind ?_ (fun _ => ?_)
    · intro y0 y1 y2
      unfold puny_Encode.j1
      repeat' first
      | (with_reducible exact ih0 _ _ _ _ _)
      | (with_reducible exact ih1 _ _ _)
      | (with_reducible exact ih2 _ _ _ _ _ _ _)
      | (with_reducible exact ih3 _ _ _ _ _ _ _ _ _ _)
      | (with_reducible exact puny_adapt.mono _ _ _ _)
      | (with_reducible exact puny_least.mono _ _ _)
      | (with_reducible exact puny_number.mono _ _ _)
      | (with_reducible exact slices_ContainsFunc_int_int_at_puny_Encode_1.mono _ _)
      | (with_reducible exact LeO.refl _)
      | (with_reducible exact LeO.none _)
      | (with_reducible refine LeO.ite ?_ ?_)
      | (with_reducible refine LeO.bind ?_ (fun _ => ?_))
      | exact ih0 _ _ _ _ _
      | exact ih1 _ _ _
      | exact ih2 _ _ _ _ _ _ _
      | exact ih3 _ _ _ _ _ _ _ _ _ _
      | exact puny_adapt.mono _ _ _ _
      | exact puny_least.mono _ _ _
      | exact puny_number.mono _ _ _
      | exact slices_ContainsFunc_int_int_at_puny_Encode_1.mono _ _
      | exact LeO.none _
      | refine LeO.ite ?_ ?_
      | refine LeO.bind ?_ (fun _ => ?_)
    · intro y0 y1 y2 y3 y4 y5 y6
      unfold puny_Encode.l1
      repeat' first
      | (with_reducible exact ih0 _ _ _ _ _)
      | (with_reducible exact ih1 _ _ _)
      | (with_reducible exact ih2 _ _ _ _ _ _ _)
      | (with_reducible exact ih3 _ _ _ _ _ _ _ _ _ _)
      | (with_reducible exact puny_adapt.mono _ _ _ _)
      | (with_reducible exact puny_least.mono _ _ _)
      | (with_reducible exact puny_number.mono _ _ _)
      | (with_reducible exact slices_ContainsFunc_int_int_at_puny_Encode_1.mono _ _)
      | (with_reducible exact LeO.refl _)
      | (with_reducible exact LeO.none _)
      | (with_reducible refine LeO.ite ?_ ?_)
      | (with_reducible refine LeO.bind ?_ (fun _ => ?_))
      | exact ih0 _ _ _ _ _
      | exact ih1 _ _ _
      | exact ih2 _ _ _ _ _ _ _
      | exact ih3 _ _ _ _ _ _ _ _ _ _
      | exact puny_adapt.mono _ _ _ _
      | exact puny_least.mono _ _ _
      | exact puny_number.mono _ _ _
      | exact slices_ContainsFunc_int_int_at_puny_Encode_1.mono _ _
      | exact LeO.none _
      | refine LeO.ite ?_ ?_
      | refine LeO.bind ?_ (fun _ => ?_)
    · intro y0 y1 y2 y3 y4 y5 y6 y7 y8 y9
      unfold puny_Encode.l2
      repeat' first
      | (with_reducible exact ih0 _ _ _ _ _)
      | (with_reducible exact ih1 _ _ _)
      | (with_reducible exact ih2 _ _ _ _ _ _ _)
      | (with_reducible exact ih3 _ _ _ _ _ _ _ _ _ _)
      | (with_reducible exact puny_adapt.mono _ _ _ _)
      | (with_reducible exact puny_least.mono _ _ _)
      | (with_reducible exact puny_number.mono _ _ _)
      | (with_reducible exact slices_ContainsFunc_int_int_at_puny_Encode_1.mono _ _)
      | (with_reducible exact LeO.refl _)
      | (with_reducible exact LeO.none _)
      | (with_reducible refine LeO.ite ?_ ?_)
      | (with_reducible refine LeO.bind ?_ (fun _ => ?_))
      | exact ih0 _ _ _ _ _
      | exact ih1 _ _ _
      | exact ih2 _ _ _ _ _ _ _
      | exact ih3 _ _ _ _ _ _ _ _ _ _
      | exact puny_adapt.mono _ _ _ _
      | exact puny_least.mono _ _ _
      | exact puny_number.mono _ _ _
      | exact slices_ContainsFunc_int_int_at_puny_Encode_1.mono _ _
      | exact LeO.none _
      | refine LeO.ite ?_ ?_
      | refine LeO.bind ?_ (fun _ => ?_)
theorem puny_Encode.mono : ∀ a0 k, LeO (puny_Encode.f k a0) (puny_Encode.f (k + 1) a0) := by
  intro a0 k
  obtain ⟨ih0, ih1, ih2, ih3⟩ := puny_Encode.mono_l k
  unfold puny_Encode.f
  repeat' first
      | (with_reducible exact ih0 _ _ _ _ _)
      | (with_reducible exact ih1 _ _ _)
      | (with_reducible exact ih2 _ _ _ _ _ _ _)
      | (with_reducible exact ih3 _ _ _ _ _ _ _ _ _ _)
      | (with_reducible exact puny_adapt.mono _ _ _ _)
      | (with_reducible exact puny_least.mono _ _ _)
      | (with_reducible exact puny_number.mono _ _ _)
      | (with_reducible exact slices_ContainsFunc_int_int_at_puny_Encode_1.mono _ _)
      | (with_reducible exact LeO.refl _)
      | (with_reducible exact LeO.none _)
      | (with_reducible refine LeO.ite ?_ ?_)
      | (with_reducible refine LeO.bind ?_ (fun _ => ?_))
      | exact ih0 _ _ _ _ _
      | exact ih1 _ _ _
      | exact ih2 _ _ _ _ _ _ _
      | exact ih3 _ _ _ _ _ _ _ _ _ _
      | exact puny_adapt.mono _ _ _ _
      | exact puny_least.mono _ _ _
      | exact puny_number.mono _ _ _
      | exact slices_ContainsFunc_int_int_at_puny_Encode_1.mono _ _
      | exact LeO.none _
      | refine LeO.ite ?_ ?_
      | refine LeO.bind ?_ (fun _ => ?_)
set_option maxHeartbeats 8000000 in
set_option maxRecDepth 100000 in
theorem puny_Encode.calls (k : Nat) (A0 : Option Addr) (c0 : Nat) (l0 : List Int) (r1 : List Int) (r2 : Int) (w : World) (hr0 : Kd.C (Kd.int .i64) w A0 l0.length l0) (hc0 : l0.length ≤ c0) (h : puny_Encode.f k l0 = some (r1, r2)) :
    Calls Try.prog 26 #[.slice A0 l0.length c0] w fun e w' => ∃ v0_ : Value, e = .returned (.tuple #[v0_, .int .i64 r2]) ∧ Kd.R (Kd.int .u8) 5 w' w.heap.size (fun _ => True) v0_ r1 ∧ Below w.heap.size w w' := by
  have HR0 := Aside0.mk hr0
  have HC0 := Aside0.mk hc0
  clear hr0 hc0
  have HB := Aside0.mk (Below.refl w.heap.size w)
  have H : ((slices_ContainsFunc_int_int_at_puny_Encode_1.f k l0).bind fun t104 => (if t104 = true then (some (([] : List Int), 10)) else (if (l0.length : Int) > 1000 then (some (([] : List Int), 36)) else (puny_Encode.l0 k l0 ([] : List Int) l0 (l0.length : Int) 0)))) = some (r1, r2) := h
  clear h
  replace H := Option.bind_eq_some_iff.mp H
  obtain ⟨t104, A20, H⟩ := H
  replace H : (if t104 = true then (some (([] : List Int), 10)) else (if (l0.length : Int) > 1000 then (some (([] : List Int), 36)) else (puny_Encode.l0 k l0 ([] : List Int) l0 (l0.length : Int) 0))) = some (r1, r2) := H
  have A2 := Aside0.mk A20
  clear A20
  by_cases c3 : t104 = true
  · subst c3
    have H1 : (some (([] : List Int), 10)) = some (r1, r2) := by rw [if_pos rfl] at H; exact H
    clear H
    have H := H1
    clear H1
    simp only [Option.some.injEq, Prod.mk.injEq] at H
    obtain ⟨rfl, rfl⟩ := H
    go_enter Try.func26, Try.ntmps26
    go_wp2_with (first | (go_at_call 49; (with_reducible refine (slices_ContainsFunc_int_int_at_puny_Encode_1.calls k _ _ l0 true _ ?side1 ?side2 A2.out).mono ?_); (case side1 => repeat (first | exact HR0.out | (with_reducible refine Kd.C_alloc ?_ _) | (with_reducible refine Kd.C_drewN ?_ _) | (with_reducible refine Kd.C_drew ?_))); (case side2 => exact HC0.out); rintro e w' ⟨rfl, ⟨nd, rfl⟩⟩))
    go_ret2
    exact ⟨_, by first | rfl | (simp [errW_none, errW_some] <;> rfl) | (simp [*, errW_none, errW_some] <;> rfl), by first | exact Kd.R_nil _ _ _ _ _ | exact Kd.N_nil _ _ _ _ _ | exact Kd.V_nil _ _ _ _ _ | exact Kd.Q_nil _ _ _ _ _ | exact Kd.S_nil _ _ _ _ _, by repeat (first | (with_reducible first | exact HB.out | apply below_alloc | apply pw_below_drewN | apply below_drew1) | exact HB.out)⟩
  · replace c3 := Bool.eq_false_iff.mpr c3
    subst c3
    have H1 : (if (l0.length : Int) > 1000 then (some (([] : List Int), 36)) else (puny_Encode.l0 k l0 ([] : List Int) l0 (l0.length : Int) 0)) = some (r1, r2) := by rw [if_neg (show ¬ (false = true) by decide)] at H; exact H
    clear H
    have H := H1
    clear H1
    by_cases c4 : (l0.length : Int) > 1000
    · rw [if_pos c4] at H
      have c4b0 : decide (1000 < (l0.length : Int)) = true := decide_eq_true c4
      have c4b1 : decide (1000 < l0.length) = true := decide_eq_true (by omega)
      clear c4
      simp only [Option.some.injEq, Prod.mk.injEq] at H
      obtain ⟨rfl, rfl⟩ := H
      go_enter Try.func26, Try.ntmps26
      go_wp2_with (first | (go_at_call 49; (with_reducible refine (slices_ContainsFunc_int_int_at_puny_Encode_1.calls k _ _ l0 false _ ?side1 ?side2 A2.out).mono ?_); (case side1 => repeat (first | exact HR0.out | (with_reducible refine Kd.C_alloc ?_ _) | (with_reducible refine Kd.C_drewN ?_ _) | (with_reducible refine Kd.C_drew ?_))); (case side2 => exact HC0.out); rintro e w' ⟨rfl, ⟨nd, rfl⟩⟩))
      go_ret2
      exact ⟨_, by first | rfl | (simp [errW_none, errW_some] <;> rfl) | (simp [*, errW_none, errW_some] <;> rfl), by first | exact Kd.R_nil _ _ _ _ _ | exact Kd.N_nil _ _ _ _ _ | exact Kd.V_nil _ _ _ _ _ | exact Kd.Q_nil _ _ _ _ _ | exact Kd.S_nil _ _ _ _ _, by repeat (first | (with_reducible first | exact HB.out | apply below_alloc | apply pw_below_drewN | apply below_drew1) | exact HB.out)⟩
    · rw [if_neg c4] at H
      have c4b0 : decide (1000 < (l0.length : Int)) = false := decide_eq_false c4
      have c4b1 : decide (1000 < l0.length) = false := decide_eq_false (by omega)
      clear c4
      have H' := Aside0.mk H
      clear H
      go_enter Try.func26, Try.ntmps26
      go_wp2_with (first | (go_at_call 49; (with_reducible refine (slices_ContainsFunc_int_int_at_puny_Encode_1.calls k _ _ l0 false _ ?side1 ?side2 A2.out).mono ?_); (case side1 => repeat (first | exact HR0.out | (with_reducible refine Kd.C_alloc ?_ _) | (with_reducible refine Kd.C_drewN ?_ _) | (with_reducible refine Kd.C_drew ?_))); (case side2 => exact HC0.out); rintro e w' ⟨rfl, ⟨nd, rfl⟩⟩))
      go_loopg [4, 24] k (fun kq v4 v24 w' => ∃ (x4_1 : List Int) (x24_1 : Int), v24 = .int .i64 x24_1 ∧ Aside0 (puny_Encode.l0 kq l0 x4_1 l0 (l0.length : Int) x24_1 = some (r1, r2)) ∧ Aside0 (kq ≤ k) ∧ Aside0 (Kd.R (Kd.int .u8) 5 w' w.heap.size (fun _ => True) v4 x4_1) ∧ Aside0 (Below w.heap.size w w'))
      case atStart => exact ⟨(([] : List Int)), (0), (by first | rfl | (simp; done) | (simp [*]; done)), H', ⟨Nat.le_refl _⟩, ⟨by first | exact Kd.R_nil _ _ _ _ _ | exact Kd.N_nil _ _ _ _ _ | exact Kd.V_nil _ _ _ _ _ | exact Kd.Q_nil _ _ _ _ _ | exact Kd.S_nil _ _ _ _ _⟩, ⟨by repeat (first | (with_reducible first | exact HB.out | apply below_alloc | apply pw_below_drewN | apply below_drew1) | exact HB.out)⟩⟩
      case round =>
        clear H'
        try clear c2
        try clear p2
        try clear c3
        try clear c4
        try clear c4b0
        try clear c4b1
        obtain ⟨x4_1, x24_1, rfl, HA, HK1, HO_4, HB⟩ := hrel
        cases gk with
        | zero => exact absurd HA.out (by simp [puny_Encode.l0])
        | succ k1 =>
          have H := HA.out
          clear HA
          simp only [puny_Encode.l0] at H
          by_cases c5 : x24_1 < (l0.length : Int)
          · rw [if_pos c5] at H
            have c5b0 : decide (x24_1 < (l0.length : Int)) = true := decide_eq_true c5
            clear c5
            by_cases c6 : 0 ≤ x24_1
            · rw [if_pos c6] at H
              have c6b0 : decide (0 ≤ x24_1) = true := decide_eq_true c6
              clear c6
              by_cases c7 : x24_1 < (l0.length : Int)
              · rw [if_pos c7] at H
                have c7b0 : decide (x24_1 < (l0.length : Int)) = true := decide_eq_true c7
                clear c7
                by_cases c8 : (rd l0 x24_1) < 128
                · rw [if_pos c8] at H
                  have c8b0 : decide ((rd l0 x24_1) < 128) = true := decide_eq_true c8
                  clear c8
                  by_cases c9 : x4_1.length < 140737488355328
                  · rw [if_pos c9] at H
                    have LMc9 := Aside0.mk c9
                    clear c9
                    obtain ⟨y106, hy106⟩ : ∃ y_ : List Int, y_ = (x4_1 ++ [(rd l0 x24_1) % 256]) := ⟨_, rfl⟩
                    replace H : (puny_Encode.l0 k1 l0 y106 l0 (l0.length : Int) (wrap64 (x24_1 + 1))) = some (r1, r2) := by first | (rw [hy106]; with_reducible exact H) | (have H2_ := (Option.bind_some _ _).symm.trans H; rw [hy106]; with_reducible exact H2_) | (have H2_ := (Option.bind_some _ _).symm.trans H; with_reducible exact H2_) | with_reducible exact H | (rw [hy106]; exact H) | exact H
                    have Ny106 := Aside0.mk hy106
                    clear hy106
                    have H' := Aside0.mk H
                    clear H
                    have p105 : 0 ≤ (x24_1 : Int) := of_decide_eq_true (by first | (with_reducible assumption) | assumption)
                    have q105 : x24_1 < (l0.length : Int) := of_decide_eq_true (by first | (with_reducible assumption) | assumption)
                    obtain ⟨ad105, e105, hx105_0⟩ := Kd.at_int HR0.out x24_1 p105 q105
                    cases e105
                    replace hx105_0 := (HB.out.cell (World.block_lt_of_cell? w _ hx105_0)).trans hx105_0
                    replace p105 := eq_true p105
                    replace q105 := eq_true q105
                    go_wp2_with (first | ((with_reducible refine gate_builtin (b := .append) (xs := #[.tmp 30, .tmp 33]) rfl ?_); at_builtin; refine Kd.R_append (Kd.int .u8) (w0 := w) w.heap.size rfl (.tmp 30) (.tmp 33) 22 5 (.int .u8 0) 1 rfl Try.underlying22 info5 rfl (by decide) (by omega) u4 x4_1 ((rd l0 x24_1) % 256) [.int .u8 ((rd l0 x24_1) % 256)] (fun _ => True) (fun _ => False) rfl rfl ?aP (fun _ hk => hk.elim) ?aF ?aO ?aB ?aS ?aL ?_; (case aP => exact rfl); (case aB => exact (by repeat (first | (with_reducible first | exact HB.out | apply below_alloc | apply pw_below_drewN | apply below_drew1) | exact HB.out))); (case aF => exact (fun _ _ => trivial)); (case aO => exact (by (with_reducible repeat (first | apply Kd.R_alloc | apply Kd.R_drewN | apply Kd.R_drew)); exact HO_4.out)); (case aS => exact (below_size (by repeat (first | (with_reducible first | exact HB.out | apply below_alloc | apply pw_below_drewN | apply below_drew1) | exact HB.out)))); (case aL => have := LMc9.out; omega); intro v107 w10 ho hb hg hat; rw [← Ny106.out] at ho; have n0_ := Aside0.mk (hb); have n1_ := Aside0.mk (ho); clear HB; clear HO_4; have HB := n0_; have HO108 := n1_; clear n0_ n1_; clear ho hb hg hat))
                    go_roundg k1
                    case measure => have := HK1.out; omega
                    case rel => exact ⟨(y106), (wrap64 (x24_1 + 1)), (by first | rfl | (simp; done) | (simp [*]; done)), H', ⟨by have := HK1.out; omega⟩, ⟨by (with_reducible repeat (first | apply Kd.R_alloc | apply Kd.R_drewN | apply Kd.R_drew)); exact HO108.out⟩, ⟨by repeat (first | (with_reducible first | exact HB.out | apply below_alloc | apply pw_below_drewN | apply below_drew1) | exact HB.out)⟩⟩
                  · rw [if_neg c9] at H
                    exact absurd H (by simp)
                · rw [if_neg c8] at H
                  have c8b0 : decide ((rd l0 x24_1) < 128) = false := decide_eq_false c8
                  clear c8
                  have H' := Aside0.mk H
                  clear H
                  have p105 : 0 ≤ (x24_1 : Int) := of_decide_eq_true (by first | (with_reducible assumption) | assumption)
                  have q105 : x24_1 < (l0.length : Int) := of_decide_eq_true (by first | (with_reducible assumption) | assumption)
                  obtain ⟨ad105, e105, hx105_0⟩ := Kd.at_int HR0.out x24_1 p105 q105
                  cases e105
                  replace hx105_0 := (HB.out.cell (World.block_lt_of_cell? w _ hx105_0)).trans hx105_0
                  replace p105 := eq_true p105
                  replace q105 := eq_true q105
                  go_wp2
                  go_roundg k1
                  case measure => have := HK1.out; omega
                  case rel => exact ⟨(x4_1), (wrap64 (x24_1 + 1)), (by first | rfl | (simp; done) | (simp [*]; done)), H', ⟨by have := HK1.out; omega⟩, ⟨by (with_reducible repeat (first | apply Kd.R_alloc | apply Kd.R_drewN | apply Kd.R_drew)); exact HO_4.out⟩, ⟨by repeat (first | (with_reducible first | exact HB.out | apply below_alloc | apply pw_below_drewN | apply below_drew1) | exact HB.out)⟩⟩
              · rw [if_neg c7] at H
                exact absurd H (by simp)
            · rw [if_neg c6] at H
              exact absurd H (by simp)
          · rw [if_neg c5] at H
            have c5b0 : decide (x24_1 < (l0.length : Int)) = false := decide_eq_false c5
            clear c5
            have HC11 := Aside0.mk H
            clear H
            obtain ⟨Ao12, co12, eo12⟩ := Kd.R_slice HO_4.out
            subst eo12
            go_upto_if 39 with (fail)
            go_cut [4] (fun v4 wc => ∃ (kq : Nat) (x4_10 : List Int), Aside0 (puny_Encode.j1 kq l0 x4_10 (x4_1.length : Int) = some (r1, r2)) ∧ Aside0 (kq ≤ k1) ∧ Aside0 (Kd.R (Kd.int .u8) 5 wc w.heap.size (fun _ => True) v4 x4_10) ∧ Aside0 (Below w.heap.size w wc))
            case first =>
              have H := HC11.out
              clear HC11
              by_cases c13 : (x4_1.length : Int) > 0
              · rw [if_pos c13] at H
                have c13b0 : decide (0 < (x4_1.length : Int)) = true := decide_eq_true c13
                have c13b1 : decide (0 < x4_1.length) = true := decide_eq_true (by omega)
                clear c13
                (first | rw [c13b0] | (simp only [i64_w, i32_w]; rw [c13b0]) | rw [c13b1] | (simp only [i64_w, i32_w]; rw [c13b1]) | skip)
                by_cases c14 : x4_1.length < 140737488355328
                · rw [if_pos c14] at H
                  have LMc14 := Aside0.mk c14
                  clear c14
                  obtain ⟨y109, hy109⟩ : ∃ y_ : List Int, y_ = (x4_1 ++ [45]) := ⟨_, rfl⟩
                  replace H : (puny_Encode.j1 k1 l0 y109 (x4_1.length : Int)) = some (r1, r2) := by first | (rw [hy109]; with_reducible exact H) | (have H2_ := (Option.bind_some _ _).symm.trans H; rw [hy109]; with_reducible exact H2_) | (have H2_ := (Option.bind_some _ _).symm.trans H; with_reducible exact H2_) | with_reducible exact H | (rw [hy109]; exact H) | exact H
                  have Ny109 := Aside0.mk hy109
                  clear hy109
                  have H' := Aside0.mk H
                  clear H
                  go_wp2_with (first | ((with_reducible refine gate_builtin (b := .append) (xs := #[.tmp 40, .tmp 41]) rfl ?_); at_builtin; refine Kd.R_append (Kd.int .u8) (w0 := w) w.heap.size rfl (.tmp 40) (.tmp 41) 22 5 (.int .u8 0) 1 rfl Try.underlying22 info5 rfl (by decide) (by omega) (.slice Ao12 x4_1.length co12) x4_1 45 [.int .u8 45] (fun _ => True) (fun _ => False) rfl rfl ?aP (fun _ hk => hk.elim) ?aF ?aO ?aB ?aS ?aL ?_; (case aP => exact rfl); (case aB => exact (by repeat (first | (with_reducible first | exact HB.out | apply below_alloc | apply pw_below_drewN | apply below_drew1) | exact HB.out))); (case aF => exact (fun _ _ => trivial)); (case aO => exact (by (with_reducible repeat (first | apply Kd.R_alloc | apply Kd.R_drewN | apply Kd.R_drew)); exact HO_4.out)); (case aS => exact (below_size (by repeat (first | (with_reducible first | exact HB.out | apply below_alloc | apply pw_below_drewN | apply below_drew1) | exact HB.out)))); (case aL => have := LMc14.out; omega); intro v110 w15 ho hb hg hat; rw [← Ny109.out] at ho; have n0_ := Aside0.mk (hb); have n1_ := Aside0.mk (ho); clear HB; clear HO_4; have HB := n0_; have HO111 := n1_; clear n0_ n1_; clear ho hb hg hat))
                  go_meet
                  case rel => exact ⟨_, (y109), H', ⟨by have := HK1.out; first | omega | exact Nat.le_refl _⟩, ⟨by (with_reducible repeat (first | apply Kd.R_alloc | apply Kd.R_drewN | apply Kd.R_drew)); exact HO111.out⟩, ⟨by repeat (first | (with_reducible first | exact HB.out | apply below_alloc | apply pw_below_drewN | apply below_drew1) | exact HB.out)⟩⟩
                · rw [if_neg c14] at H
                  exact absurd H (by simp)
              · rw [if_neg c13] at H
                have c13b0 : decide (0 < (x4_1.length : Int)) = false := decide_eq_false c13
                have c13b1 : decide (0 < x4_1.length) = false := decide_eq_false (by omega)
                clear c13
                (first | rw [c13b0] | (simp only [i64_w, i32_w]; rw [c13b0]) | rw [c13b1] | (simp only [i64_w, i32_w]; rw [c13b1]) | skip)
                have H' := Aside0.mk H
                clear H
                go_wp2
                go_meet
                case rel => exact ⟨_, (x4_1), H', ⟨by have := HK1.out; first | omega | exact Nat.le_refl _⟩, ⟨by (with_reducible repeat (first | apply Kd.R_alloc | apply Kd.R_drewN | apply Kd.R_drew)); exact HO_4.out⟩, ⟨by repeat (first | (with_reducible first | exact HB.out | apply below_alloc | apply pw_below_drewN | apply below_drew1) | exact HB.out)⟩⟩
            case rest =>
              clear HC11
              try clear c1
              try clear p1
              try clear q1
              try clear hx1
              try clear c2
              try clear p2
              try clear c3
              try clear c4
              try clear c4b0
              try clear c4b1
              try clear c5
              try clear c5b0
              try clear c6
              try clear c6b0
              try clear p6
              try clear c7
              try clear c7b0
              try clear c8
              try clear c8b0
              try clear c9
              try clear p10
              try clear q10
              try clear hx10
              try clear c13
              try clear c13b0
              try clear c13b1
              try clear c14
              try clear hx105_0
              try clear p105
              try clear p2
              try clear q105
              obtain ⟨kq, x4_10, HA, HJ10, HO_4, HB⟩ := hcut
              cases kq with
              | zero => exact absurd HA.out (by simp [puny_Encode.j1])
              | succ kj10 =>
                have H := HA.out
                clear HA
                simp only [puny_Encode.j1] at H
                have H' := Aside0.mk H
                clear H
                go_wp2
                go_loopg [4, 8, 9, 10, 11] kj10 (fun kq v4 v8 v9 v10 v11 w' => ∃ (x4_3 : List Int) (x8_3 : Int) (x9_3 : Int) (x10_3 : Int) (x11_3 : Int), v8 = .int .i64 x8_3 ∧ v9 = .int .i64 x9_3 ∧ v10 = .int .i64 x10_3 ∧ v11 = .int .i64 x11_3 ∧ Aside0 (puny_Encode.l1 kq l0 x4_3 (x4_1.length : Int) x8_3 x9_3 x10_3 x11_3 = some (r1, r2)) ∧ Aside0 (kq ≤ kj10) ∧ Aside0 (Kd.R (Kd.int .u8) 5 w' w.heap.size (fun _ => True) v4 x4_3) ∧ Aside0 (Below w.heap.size w w'))
                case atStart => exact ⟨(x4_10), (128), (72), (0), ((x4_1.length : Int)), (by first | rfl | (simp; done) | (simp [*]; done)), (by first | rfl | (simp; done) | (simp [*]; done)), (by first | rfl | (simp; done) | (simp [*]; done)), (by first | rfl | (simp; done) | (simp [*]; done)), H', ⟨Nat.le_refl _⟩, ⟨by (with_reducible repeat (first | apply Kd.R_alloc | apply Kd.R_drewN | apply Kd.R_drew)); exact HO_4.out⟩, ⟨by repeat (first | (with_reducible first | exact HB.out | apply below_alloc | apply pw_below_drewN | apply below_drew1) | exact HB.out)⟩⟩
                case round =>
                  clear H'
                  try clear c1
                  try clear p1
                  try clear q1
                  try clear hx1
                  try clear c2
                  try clear p2
                  try clear c3
                  try clear c4
                  try clear c4b0
                  try clear c4b1
                  try clear c5
                  try clear c5b0
                  try clear c6
                  try clear c6b0
                  try clear p6
                  try clear c7
                  try clear c7b0
                  try clear c8
                  try clear c8b0
                  try clear c9
                  try clear p10
                  try clear q10
                  try clear hx10
                  try clear c13
                  try clear c13b0
                  try clear c13b1
                  try clear c14
                  try clear hx105_0
                  try clear p1
                  try clear p10
                  try clear p105
                  try clear p2
                  try clear p6
                  try clear q1
                  try clear q10
                  try clear q105
                  obtain ⟨x4_3, x8_3, x9_3, x10_3, x11_3, rfl, rfl, rfl, rfl, HA, HK3, HO_4, HB⟩ := hrel
                  cases gk with
                  | zero => exact absurd HA.out (by simp [puny_Encode.l1])
                  | succ k3 =>
                    have H := HA.out
                    clear HA
                    simp only [puny_Encode.l1] at H
                    by_cases c16 : x11_3 < (l0.length : Int)
                    · rw [if_pos c16] at H
                      have c16b0 : decide (x11_3 < (l0.length : Int)) = true := decide_eq_true c16
                      clear c16
                      replace H := Option.bind_eq_some_iff.mp H
                      obtain ⟨t112, A170, H⟩ := H
                      replace H : (puny_Encode.l2 k3 l0 x4_3 (x4_1.length : Int) t112 x9_3 (wrap64 (x10_3 + (wrap64 ((wrap64 (t112 - x8_3)) * (wrap64 (x11_3 + 1)))))) x11_3 l0 (l0.length : Int) 0) = some (r1, r2) := H
                      have A17 := Aside0.mk A170
                      clear A170
                      have H' := Aside0.mk H
                      clear H
                      go_wp2_with (first | ((with_reducible refine gate_callee (f := 51) rfl ?_); refine goesL_ (some 50) rfl rfl Try.func51 (by kernel_rfl) rfl #[.slice A0 l0.length c0, .int .i64 x8_3] rfl (by (try simp only [List.map_toArray, List.map_cons, List.map_nil]); first | done | rfl | (simp only [List.length_drop, List.length_take]; rfl)) ?_; (with_reducible refine (puny_least.calls k3 _ _ l0 x8_3 t112 _ ?side1 ?side2 A17.out).mono ?_); (case side1 => repeat (first | exact (Kd.C_below HR0.out HB.out) | (with_reducible refine Kd.C_alloc ?_ _) | (with_reducible refine Kd.C_drewN ?_ _) | (with_reducible refine Kd.C_drew ?_))); (case side2 => exact HC0.out); rintro e w18 ⟨rfl, hb⟩; refine ⟨_, rfl, ?_⟩; have n0_ := Aside0.mk (Kd.R_below (by (with_reducible repeat (first | apply Kd.R_alloc | apply Kd.R_drewN | apply Kd.R_drew)); exact HO_4.out) hb); have n1_ := Aside0.mk (below_step (by repeat (first | (with_reducible first | exact HB.out | apply below_alloc | apply pw_below_drewN | apply below_drew1) | exact HB.out)) hb); clear HO_4; clear HB; have HO_4 := n0_; have HB := n1_; clear n0_ n1_; (try clear hb); (try clear hb2); (try clear hk); (try clear hi)))
                      go_loopg [4, 9, 10, 11, 62] k3 (fun kq v4 v9 v10 v11 v62 w' => ∃ (x4_4 : List Int) (x9_4 : Int) (x10_4 : Int) (x11_4 : Int) (x62_4 : Int), v9 = .int .i64 x9_4 ∧ v10 = .int .i64 x10_4 ∧ v11 = .int .i64 x11_4 ∧ v62 = .int .i64 x62_4 ∧ Aside0 (puny_Encode.l2 kq l0 x4_4 (x4_1.length : Int) t112 x9_4 x10_4 x11_4 l0 (l0.length : Int) x62_4 = some (r1, r2)) ∧ Aside0 (kq ≤ k3) ∧ Aside0 (Kd.R (Kd.int .u8) 5 w' w.heap.size (fun _ => True) v4 x4_4) ∧ Aside0 (Below w.heap.size w w'))
                      case atStart => exact ⟨(x4_3), (x9_3), (wrap64 (x10_3 + (wrap64 ((wrap64 (t112 - x8_3)) * (wrap64 (x11_3 + 1)))))), (x11_3), (0), (by first | rfl | (simp; done) | (simp [*]; done)), (by first | rfl | (simp; done) | (simp [*]; done)), (by first | rfl | (simp; done) | (simp [*]; done)), (by first | rfl | (simp; done) | (simp [*]; done)), H', ⟨Nat.le_refl _⟩, ⟨by (with_reducible repeat (first | apply Kd.R_alloc | apply Kd.R_drewN | apply Kd.R_drew)); exact HO_4.out⟩, ⟨by repeat (first | (with_reducible first | exact HB.out | apply below_alloc | apply pw_below_drewN | apply below_drew1) | exact HB.out)⟩⟩
                      case round =>
                        clear H'
                        try clear c1
                        try clear p1
                        try clear q1
                        try clear hx1
                        try clear c2
                        try clear p2
                        try clear c3
                        try clear c4
                        try clear c4b0
                        try clear c4b1
                        try clear c5
                        try clear c5b0
                        try clear c6
                        try clear c6b0
                        try clear p6
                        try clear c7
                        try clear c7b0
                        try clear c8
                        try clear c8b0
                        try clear c9
                        try clear p10
                        try clear q10
                        try clear hx10
                        try clear c13
                        try clear c13b0
                        try clear c13b1
                        try clear c14
                        try clear c16
                        try clear c16b0
                        try clear hx105_0
                        try clear p1
                        try clear p10
                        try clear p105
                        try clear p2
                        try clear p6
                        try clear q1
                        try clear q10
                        try clear q105
                        obtain ⟨x4_4, x9_4, x10_4, x11_4, x62_4, rfl, rfl, rfl, rfl, HA, HK4, HO_4, HB⟩ := hrel
                        cases gk with
                        | zero => exact absurd HA.out (by simp [puny_Encode.l2])
                        | succ k4 =>
                          have H := HA.out
                          clear HA
                          simp only [puny_Encode.l2] at H
                          by_cases c19 : x62_4 < (l0.length : Int)
                          · rw [if_pos c19] at H
                            have c19b0 : decide (x62_4 < (l0.length : Int)) = true := decide_eq_true c19
                            clear c19
                            by_cases c20 : 0 ≤ x62_4
                            · rw [if_pos c20] at H
                              have c20b0 : decide (0 ≤ x62_4) = true := decide_eq_true c20
                              clear c20
                              by_cases c21 : x62_4 < (l0.length : Int)
                              · rw [if_pos c21] at H
                                have c21b0 : decide (x62_4 < (l0.length : Int)) = true := decide_eq_true c21
                                clear c21
                                by_cases c22 : (rd l0 x62_4) < t112
                                · rw [if_pos c22] at H
                                  have c22b0 : decide ((rd l0 x62_4) < t112) = true := decide_eq_true c22
                                  clear c22
                                  have H' := Aside0.mk H
                                  clear H
                                  have p113 : 0 ≤ (x62_4 : Int) := of_decide_eq_true (by first | (with_reducible assumption) | assumption)
                                  have q113 : x62_4 < (l0.length : Int) := of_decide_eq_true (by first | (with_reducible assumption) | assumption)
                                  obtain ⟨ad113, e113, hx113_0⟩ := Kd.at_int HR0.out x62_4 p113 q113
                                  cases e113
                                  replace hx113_0 := (HB.out.cell (World.block_lt_of_cell? w _ hx113_0)).trans hx113_0
                                  replace p113 := eq_true p113
                                  replace q113 := eq_true q113
                                  go_wp2
                                  go_roundg k4
                                  case measure => have := HK1.out; have := HJ10.out; have := HK3.out; have := HK4.out; omega
                                  case rel => exact ⟨(x4_4), (x9_4), (wrap64 (x10_4 + 1)), (x11_4), (wrap64 (x62_4 + 1)), (by first | rfl | (simp; done) | (simp [*]; done)), (by first | rfl | (simp; done) | (simp [*]; done)), (by first | rfl | (simp; done) | (simp [*]; done)), (by first | rfl | (simp; done) | (simp [*]; done)), H', ⟨by have := HK1.out; have := HJ10.out; have := HK3.out; have := HK4.out; omega⟩, ⟨by (with_reducible repeat (first | apply Kd.R_alloc | apply Kd.R_drewN | apply Kd.R_drew)); exact HO_4.out⟩, ⟨by repeat (first | (with_reducible first | exact HB.out | apply below_alloc | apply pw_below_drewN | apply below_drew1) | exact HB.out)⟩⟩
                                · rw [if_neg c22] at H
                                  have c22b0 : decide ((rd l0 x62_4) < t112) = false := decide_eq_false c22
                                  clear c22
                                  by_cases c23 : (rd l0 x62_4) = t112
                                  · rw [if_pos c23] at H
                                    have c23b0 : ((rd l0 x62_4) == t112) = true := beq_iff_eq.mpr c23
                                    have c23b1 : ((rd l0 x62_4) != t112) = false := bne_eq_false_iff_eq.mpr c23
                                    clear c23
                                    replace H := Option.bind_eq_some_iff.mp H
                                    obtain ⟨t114, A240, H⟩ := H
                                    replace H : (if x4_4.length + t114.length < 140737488355328 then ((puny_adapt.f k4 x10_4 (wrap64 (x11_4 + 1)) (x11_4 == (x4_1.length : Int))).bind fun t120 => (puny_Encode.l2 k4 l0 (x4_4 ++ t114) (x4_1.length : Int) t112 t120 0 (wrap64 (x11_4 + 1)) l0 (l0.length : Int) (wrap64 (x62_4 + 1)))) else (none)) = some (r1, r2) := H
                                    have A24 := Aside0.mk A240
                                    clear A240
                                    by_cases c25 : x4_4.length + t114.length < 140737488355328
                                    · rw [if_pos c25] at H
                                      have LMc25 := Aside0.mk c25
                                      clear c25
                                      obtain ⟨y117, hy117⟩ : ∃ y_ : List Int, y_ = (x4_4 ++ t114) := ⟨_, rfl⟩
                                      replace H : ((puny_adapt.f k4 x10_4 (wrap64 (x11_4 + 1)) (x11_4 == (x4_1.length : Int))).bind fun t120 => (puny_Encode.l2 k4 l0 y117 (x4_1.length : Int) t112 t120 0 (wrap64 (x11_4 + 1)) l0 (l0.length : Int) (wrap64 (x62_4 + 1)))) = some (r1, r2) := by first | (rw [hy117]; with_reducible exact H) | (have H2_ := (Option.bind_some _ _).symm.trans H; rw [hy117]; with_reducible exact H2_) | (have H2_ := (Option.bind_some _ _).symm.trans H; with_reducible exact H2_) | with_reducible exact H | (rw [hy117]; exact H) | exact H
                                      have Ny117 := Aside0.mk hy117
                                      clear hy117
                                      replace H := Option.bind_eq_some_iff.mp H
                                      obtain ⟨t120, A260, H⟩ := H
                                      replace H : (puny_Encode.l2 k4 l0 y117 (x4_1.length : Int) t112 t120 0 (wrap64 (x11_4 + 1)) l0 (l0.length : Int) (wrap64 (x62_4 + 1))) = some (r1, r2) := H
                                      have A26 := Aside0.mk A260
                                      clear A260
                                      have H' := Aside0.mk H
                                      clear H
                                      have p113 : 0 ≤ (x62_4 : Int) := of_decide_eq_true (by first | (with_reducible assumption) | assumption)
                                      have q113 : x62_4 < (l0.length : Int) := of_decide_eq_true (by first | (with_reducible assumption) | assumption)
                                      obtain ⟨ad113, e113, hx113_0⟩ := Kd.at_int HR0.out x62_4 p113 q113
                                      cases e113
                                      replace hx113_0 := (HB.out.cell (World.block_lt_of_cell? w _ hx113_0)).trans hx113_0
                                      replace p113 := eq_true p113
                                      replace q113 := eq_true q113
                                      go_wp2_with (first | ((with_reducible refine gate_callee (f := 52) rfl ?_); refine goesL_ (some 79) rfl rfl Try.func52 (by kernel_rfl) rfl #[.int .i64 x10_4, .int .i64 x9_4] rfl (by (try simp only [List.map_toArray, List.map_cons, List.map_nil]); first | done | rfl | (simp only [List.length_drop, List.length_take]; rfl)) ?_; (with_reducible refine (puny_number.calls k4 x10_4 x9_4 t114 _ A24.out).mono ?_); rintro e w27 ⟨v115, rfl, ho0, hb⟩; refine ⟨_, rfl, ?_⟩; have n0_ := Aside0.mk (Kd.R_elder' (by (with_reducible repeat (first | apply Kd.R_alloc | apply Kd.R_drewN | apply Kd.R_drew)); exact HO_4.out) (Kd.R_base ho0) hb); have n1_ := Aside0.mk (Kd.R_lower (Kd.R_new' ho0 (Kd.R_lt (by (with_reducible repeat (first | apply Kd.R_alloc | apply Kd.R_drewN | apply Kd.R_drew)); exact HO_4.out))) (below_size (by repeat (first | (with_reducible first | exact HB.out | apply below_alloc | apply pw_below_drewN | apply below_drew1) | exact HB.out)))); have n2_ := Aside0.mk (below_step (by repeat (first | (with_reducible first | exact HB.out | apply below_alloc | apply pw_below_drewN | apply below_drew1) | exact HB.out)) hb); clear HO_4; clear HB; have HO_4 := n0_; have HO116 := n1_; have HB := n2_; clear n0_ n1_ n2_; (try clear hb); (try clear hb2); (try clear hk); (try clear hi); (try clear ho0); obtain ⟨Ao29, co29, eo29⟩ := Kd.R_slice HO116.out; subst eo29) | ((with_reducible refine gate_builtin (b := .append) (xs := #[.tmp 76, .tmp 79]) rfl ?_); at_builtin; refine Kd.R_append_rows (Kd.int .u8) (w0 := w) w.heap.size rfl (.tmp 76) (.tmp 79) 22 5 (.int .u8 0) 1 rfl Try.underlying22 info5 rfl (by decide) (by omega) u4 x4_4 t114 _ _ _ (fun k_ => some k_ ≠ (.slice Ao29 t114.length co29 : Value).ownBlock) (fun _ => False) rfl rfl ?aO ?aR (fun _ _ h => h) (fun _ h => h.elim) ?aF ?aB ?aS ?aL ?_; (case aR => repeat (first | exact (Kd.R_reads' HO116.out).2.2 | (with_reducible refine Kd.C_alloc ?_ _) | (with_reducible refine Kd.C_drewN ?_ _) | (with_reducible refine Kd.C_drew ?_))); (case aB => exact (by repeat (first | (with_reducible first | exact HB.out | apply below_alloc | apply pw_below_drewN | apply below_drew1) | exact HB.out))); (case aF => exact (fun k_ hk => Kd.fresh' (Kd.R_lt (by (with_reducible repeat (first | apply Kd.R_alloc | apply Kd.R_drewN | apply Kd.R_drew)); exact HO116.out)) k_ hk)); (case aO => exact (by (with_reducible repeat (first | apply Kd.R_alloc | apply Kd.R_drewN | apply Kd.R_drew)); exact Kd.R_mono HO_4.out (fun _ hk => hk.2))); (case aS => exact (below_size (by repeat (first | (with_reducible first | exact HB.out | apply below_alloc | apply pw_below_drewN | apply below_drew1) | exact HB.out)))); (case aL => have := LMc25.out; omega); intro v118 w28 ho hb hg hat; rw [← Ny117.out] at ho; have n0_ := Aside0.mk (Kd.R_after (ok := (fun _ => True)) (by (with_reducible repeat (first | apply Kd.R_alloc | apply Kd.R_drewN | apply Kd.R_drew)); exact HO116.out) hg hat); have n1_ := Aside0.mk (hb); have n2_ := Aside0.mk (ho); clear HO116; clear HB; clear HO_4; have HO116 := n0_; have HB := n1_; have HO119 := n2_; clear n0_ n1_ n2_; clear ho hb hg hat) | ((with_reducible refine gate_callee (f := 53) rfl ?_); refine goesL_ (some 87) rfl rfl Try.func53 (by kernel_rfl) rfl #[.int .i64 x10_4, .int .i64 (wrap64 (x11_4 + 1)), .bool (x11_4 == (x4_1.length : Int))] rfl (by (try simp only [List.map_toArray, List.map_cons, List.map_nil]); first | done | rfl | (simp only [List.length_drop, List.length_take]; rfl)) ?_; (with_reducible refine (puny_adapt.calls k4 x10_4 (wrap64 (x11_4 + 1)) (x11_4 == (x4_1.length : Int)) t120 _ A26.out).mono ?_); rintro e w' ⟨rfl, ⟨nd, rfl⟩⟩; refine ⟨_, rfl, ?_⟩))
                                      go_roundg k4
                                      case measure => have := HK1.out; have := HJ10.out; have := HK3.out; have := HK4.out; omega
                                      case rel => exact ⟨(y117), (t120), (0), (wrap64 (x11_4 + 1)), (wrap64 (x62_4 + 1)), (by first | rfl | (simp; done) | (simp [*]; done)), (by first | rfl | (simp; done) | (simp [*]; done)), (by first | rfl | (simp; done) | (simp [*]; done)), (by first | rfl | (simp; done) | (simp [*]; done)), H', ⟨by have := HK1.out; have := HJ10.out; have := HK3.out; have := HK4.out; omega⟩, ⟨by (with_reducible repeat (first | apply Kd.R_alloc | apply Kd.R_drewN | apply Kd.R_drew)); exact Kd.R_mono HO119.out (fun _ hk => trivial)⟩, ⟨by repeat (first | (with_reducible first | exact HB.out | apply below_alloc | apply pw_below_drewN | apply below_drew1) | exact HB.out)⟩⟩
                                    · rw [if_neg c25] at H
                                      exact absurd H (by simp)
                                  · rw [if_neg c23] at H
                                    have c23b0 : ((rd l0 x62_4) == t112) = false := beq_eq_false_iff_ne.mpr c23
                                    have c23b1 : ((rd l0 x62_4) != t112) = true := bne_iff_ne.mpr c23
                                    have H' := Aside0.mk H
                                    clear H
                                    have p113 : 0 ≤ (x62_4 : Int) := of_decide_eq_true (by first | (with_reducible assumption) | assumption)
                                    have q113 : x62_4 < (l0.length : Int) := of_decide_eq_true (by first | (with_reducible assumption) | assumption)
                                    obtain ⟨ad113, e113, hx113_0⟩ := Kd.at_int HR0.out x62_4 p113 q113
                                    cases e113
                                    replace hx113_0 := (HB.out.cell (World.block_lt_of_cell? w _ hx113_0)).trans hx113_0
                                    replace p113 := eq_true p113
                                    replace q113 := eq_true q113
                                    go_wp2
                                    go_roundg k4
                                    case measure => have := HK1.out; have := HJ10.out; have := HK3.out; have := HK4.out; omega
                                    case rel => exact ⟨(x4_4), (x9_4), (x10_4), (x11_4), (wrap64 (x62_4 + 1)), (by first | rfl | (simp; done) | (simp [*]; done)), (by first | rfl | (simp; done) | (simp [*]; done)), (by first | rfl | (simp; done) | (simp [*]; done)), (by first | rfl | (simp; done) | (simp [*]; done)), H', ⟨by have := HK1.out; have := HJ10.out; have := HK3.out; have := HK4.out; omega⟩, ⟨by (with_reducible repeat (first | apply Kd.R_alloc | apply Kd.R_drewN | apply Kd.R_drew)); exact HO_4.out⟩, ⟨by repeat (first | (with_reducible first | exact HB.out | apply below_alloc | apply pw_below_drewN | apply below_drew1) | exact HB.out)⟩⟩
                              · rw [if_neg c21] at H
                                exact absurd H (by simp)
                            · rw [if_neg c20] at H
                              exact absurd H (by simp)
                          · rw [if_neg c19] at H
                            have c19b0 : decide (x62_4 < (l0.length : Int)) = false := decide_eq_false c19
                            clear c19
                            have H' := Aside0.mk H
                            clear H
                            go_wp2
                            go_roundg k4
                            case measure => have := HK1.out; have := HJ10.out; have := HK3.out; have := HK4.out; omega
                            case rel => exact ⟨(x4_4), (wrap64 (t112 + 1)), (x9_4), (wrap64 (x10_4 + 1)), (x11_4), (by first | rfl | (simp; done) | (simp [*]; done)), (by first | rfl | (simp; done) | (simp [*]; done)), (by first | rfl | (simp; done) | (simp [*]; done)), (by first | rfl | (simp; done) | (simp [*]; done)), H', ⟨by have := HK1.out; have := HJ10.out; have := HK3.out; have := HK4.out; omega⟩, ⟨by (with_reducible repeat (first | apply Kd.R_alloc | apply Kd.R_drewN | apply Kd.R_drew)); exact HO_4.out⟩, ⟨by repeat (first | (with_reducible first | exact HB.out | apply below_alloc | apply pw_below_drewN | apply below_drew1) | exact HB.out)⟩⟩
                    · rw [if_neg c16] at H
                      have c16b0 : decide (x11_3 < (l0.length : Int)) = false := decide_eq_false c16
                      clear c16
                      simp only [Option.some.injEq, Prod.mk.injEq] at H
                      obtain ⟨rfl, rfl⟩ := H
                      go_wp2
                      go_ret2
                      exact ⟨_, by first | rfl | (simp [errW_none, errW_some] <;> rfl) | (simp [*, errW_none, errW_some] <;> rfl), by (with_reducible repeat (first | apply Kd.R_alloc | apply Kd.R_drewN | apply Kd.R_drew)); exact HO_4.out, by repeat (first | (with_reducible first | exact HB.out | apply below_alloc | apply pw_below_drewN | apply below_drew1) | exact HB.out)⟩

end Go.Proofs.Ytooiajkbpkfplaa.Q

-- from Qf25
-- Made by hp.py, a program of this session, with the kit's printer. Not trusted: Lean checks it.
namespace Go.Proofs.Ytooiajkbpkfplaa.Q
open Go.RowKit Go.Proofs.YtooiajkbpkfplaaW.PrintWords Go.Proofs.YtooiajkbpkfplaaW.PrintLast Go.Proofs.YtooiajkbpkfplaaW.PrintMore
attribute [local go_sem] max2_int min2_int max_two min_two max_three min_three max_four min_four   -- for this text's walks alone
set_option linter.unusedVariables false
set_option linter.unusedSimpArgs false

/-! ### paronymlaw12_awake: function 25 -/
def paronymlaw12_awake.f (k : Nat)  : Option (Bool) := (puny_Encode.f k (([98, 252, 99, 104, 101, 114] : List Int))).bind fun bt104 => (if bt104.2 = 0 then (some ((strOfNums bt104.1).toList == ([98, 99, 104, 101, 114, 45, 107, 118, 97] : List UInt8))) else (some false))
theorem paronymlaw12_awake.mono : ∀ k, LeO (paronymlaw12_awake.f k ) (paronymlaw12_awake.f (k + 1) ) := by
  intro  k
  unfold paronymlaw12_awake.f
  repeat' first
      | (with_reducible exact puny_Encode.mono _ _)
      | (with_reducible exact LeO.refl _)
      | (with_reducible exact LeO.none _)
      | (with_reducible refine LeO.ite ?_ ?_)
      | (with_reducible refine LeO.bind ?_ (fun _ => ?_))
      | exact puny_Encode.mono _ _
      | exact LeO.none _
      | refine LeO.ite ?_ ?_
      | refine LeO.bind ?_ (fun _ => ?_)
set_option maxHeartbeats 8000000 in
set_option maxRecDepth 100000 in
theorem paronymlaw12_awake.calls (k : Nat)  (r : Bool) (w : World) (h : paronymlaw12_awake.f k  = some r) :
    Calls Try.prog 25 #[] w fun e w' => e = .returned (.bool r) ∧ Below w.heap.size w w' := by
  have HB := Aside0.mk (Below.refl w.heap.size w)
  have H : ((puny_Encode.f k (([98, 252, 99, 104, 101, 114] : List Int))).bind fun bt104 => (if bt104.2 = 0 then (some ((strOfNums bt104.1).toList == ([98, 99, 104, 101, 114, 45, 107, 118, 97] : List UInt8))) else (some false))) = some r := h
  clear h
  obtain ⟨y101, hy101⟩ : ∃ y_ : List Int, y_ = (([98, 252, 99, 104, 101, 114] : List Int)) := ⟨_, rfl⟩
  replace H : ((puny_Encode.f k y101).bind fun bt104 => (if bt104.2 = 0 then (some ((strOfNums bt104.1).toList == ([98, 99, 104, 101, 114, 45, 107, 118, 97] : List UInt8))) else (some false))) = some r := by first | (rw [hy101]; with_reducible exact H) | (have H2_ := (Option.bind_some _ _).symm.trans H; rw [hy101]; with_reducible exact H2_) | (have H2_ := (Option.bind_some _ _).symm.trans H; with_reducible exact H2_) | with_reducible exact H | (rw [hy101]; exact H) | exact H
  have Ny101 := Aside0.mk hy101
  clear hy101
  replace H := Option.bind_eq_some_iff.mp H
  obtain ⟨⟨t104, t105⟩, A10, H⟩ := H
  replace H : (if t105 = 0 then (some ((strOfNums t104).toList == ([98, 99, 104, 101, 114, 45, 107, 118, 97] : List UInt8))) else (some false)) = some r := H
  have A1 := Aside0.mk A10
  clear A10
  by_cases c2 : t105 = 0
  · rw [if_pos c2] at H
    have c2b0 : (t105 == 0) = true := beq_iff_eq.mpr c2
    have c2b1 : (t105 != 0) = false := bne_eq_false_iff_eq.mpr c2
    clear c2
    obtain rfl := Option.some.inj H
    go_enter Try.func25, Try.ntmps25
    go_wp2_with (first | ((with_reducible refine gate_dst (N := 4) rfl ?_); refine Kd.R_lit (Kd.int .i64) _ 3 ?hg (N := 4) ?hd (xs := ([98, 252, 99, 104, 101, 114] : List Int)) (inner := [.int .i64 98, .int .i64 252, .int .i64 99, .int .i64 104, .int .i64 101, .int .i64 114]) (ok := fun _ => True) (okp := fun _ => True) ?hr ?hp (fun _ hk => hk) trivial (Below.refl _ _) (Nat.le_refl _) (by simp) ?_; (case hd => rfl); (case hg => rfl); (case hr => first | (go_simp; done) | (go_simp; rfl)); (case hp => exact (Reps.one (show Kd.M (Kd.int .i64) _ _ _ 98 [.int .i64 98] from rfl) (Reps.one (show Kd.M (Kd.int .i64) _ _ _ 252 [.int .i64 252] from rfl) (Reps.one (show Kd.M (Kd.int .i64) _ _ _ 99 [.int .i64 99] from rfl) (Reps.one (show Kd.M (Kd.int .i64) _ _ _ 104 [.int .i64 104] from rfl) (Reps.one (show Kd.M (Kd.int .i64) _ _ _ 101 [.int .i64 101] from rfl) (Reps.one (show Kd.M (Kd.int .i64) _ _ _ 114 [.int .i64 114] from rfl) (Reps.none _ _)))))))); intro v102 w3 ho4 hb hg_ hnew_; clear hg_ hnew_; (first | rw [← Ny101.out] at ho4 | (simp only [Int.reduceToNat] at ho4; rw [← Ny101.out] at ho4)); have n0_ := Aside0.mk (Kd.R_lower ho4 (below_size (by repeat (first | (with_reducible first | exact HB.out | apply below_alloc | apply pw_below_drewN | apply below_drew1) | exact HB.out)))); have n1_ := Aside0.mk (below_step (by repeat (first | (with_reducible first | exact HB.out | apply below_alloc | apply pw_below_drewN | apply below_drew1) | exact HB.out)) hb); clear HB; have HO103 := n0_; have HB := n1_; clear n0_ n1_; clear hb ho4; obtain ⟨Ao5, co5, eo5⟩ := Kd.R_slice HO103.out; subst eo5) | ((with_reducible refine gate_callee (f := 26) rfl ?_); refine goesL_ (some 5) rfl rfl Try.func26 (by kernel_rfl) rfl #[.slice Ao5 y101.length co5] rfl (by (try simp only [List.map_toArray, List.map_cons, List.map_nil]); first | done | rfl | (simp only [List.length_drop, List.length_take]; rfl)) ?_; (with_reducible refine (puny_Encode.calls k _ _ y101 t104 t105 _ ?side1 ?side2 A1.out).mono ?_); (case side1 => repeat (first | exact (Kd.R_reads' HO103.out).2.2 | (with_reducible refine Kd.C_alloc ?_ _) | (with_reducible refine Kd.C_drewN ?_ _) | (with_reducible refine Kd.C_drew ?_))); (case side2 => exact (Kd.R_reads' HO103.out).2.1); rintro e w6 ⟨v106, rfl, ho0, hb⟩; refine ⟨_, rfl, ?_⟩; have n0_ := Aside0.mk (Kd.R_below (by (with_reducible repeat (first | apply Kd.R_alloc | apply Kd.R_drewN | apply Kd.R_drew)); exact HO103.out) hb); have n1_ := Aside0.mk (Kd.R_lower ho0 (below_size (by repeat (first | (with_reducible first | exact HB.out | apply below_alloc | apply pw_below_drewN | apply below_drew1) | exact HB.out)))); have n2_ := Aside0.mk (below_step (by repeat (first | (with_reducible first | exact HB.out | apply below_alloc | apply pw_below_drewN | apply below_drew1) | exact HB.out)) hb); clear HO103; clear HB; have HO103 := n0_; have HO107 := n1_; have HB := n2_; clear n0_ n1_ n2_; (try clear hb); (try clear hb2); (try clear hk); (try clear hi); (try clear ho0); have hcv7 := own_string (P := Try.prog) Try.underlying22 Try.underlying5 Try.underlying9 (Kd.own_of_R HO107.out); have hcv8 := fun (nd_ : Nat) => own_string (P := Try.prog) Try.underlying22 Try.underlying5 Try.underlying9 (Kd.own_of_R (Kd.R_drewN HO107.out nd_))))
    go_ret
    exact ⟨by first | rfl | (simp [errW_none, errW_some] <;> rfl) | (simp [*, errW_none, errW_some] <;> rfl), by repeat (first | (with_reducible first | exact HB.out | apply below_alloc | apply pw_below_drewN | apply below_drew1) | exact HB.out)⟩
  · rw [if_neg c2] at H
    have c2b0 : (t105 == 0) = false := beq_eq_false_iff_ne.mpr c2
    have c2b1 : (t105 != 0) = true := bne_iff_ne.mpr c2
    obtain rfl := Option.some.inj H
    go_enter Try.func25, Try.ntmps25
    go_wp2_with (first | ((with_reducible refine gate_dst (N := 4) rfl ?_); refine Kd.R_lit (Kd.int .i64) _ 3 ?hg (N := 4) ?hd (xs := ([98, 252, 99, 104, 101, 114] : List Int)) (inner := [.int .i64 98, .int .i64 252, .int .i64 99, .int .i64 104, .int .i64 101, .int .i64 114]) (ok := fun _ => True) (okp := fun _ => True) ?hr ?hp (fun _ hk => hk) trivial (Below.refl _ _) (Nat.le_refl _) (by simp) ?_; (case hd => rfl); (case hg => rfl); (case hr => first | (go_simp; done) | (go_simp; rfl)); (case hp => exact (Reps.one (show Kd.M (Kd.int .i64) _ _ _ 98 [.int .i64 98] from rfl) (Reps.one (show Kd.M (Kd.int .i64) _ _ _ 252 [.int .i64 252] from rfl) (Reps.one (show Kd.M (Kd.int .i64) _ _ _ 99 [.int .i64 99] from rfl) (Reps.one (show Kd.M (Kd.int .i64) _ _ _ 104 [.int .i64 104] from rfl) (Reps.one (show Kd.M (Kd.int .i64) _ _ _ 101 [.int .i64 101] from rfl) (Reps.one (show Kd.M (Kd.int .i64) _ _ _ 114 [.int .i64 114] from rfl) (Reps.none _ _)))))))); intro v102 w9 ho10 hb hg_ hnew_; clear hg_ hnew_; (first | rw [← Ny101.out] at ho10 | (simp only [Int.reduceToNat] at ho10; rw [← Ny101.out] at ho10)); have n0_ := Aside0.mk (Kd.R_lower ho10 (below_size (by repeat (first | (with_reducible first | exact HB.out | apply below_alloc | apply pw_below_drewN | apply below_drew1) | exact HB.out)))); have n1_ := Aside0.mk (below_step (by repeat (first | (with_reducible first | exact HB.out | apply below_alloc | apply pw_below_drewN | apply below_drew1) | exact HB.out)) hb); clear HB; have HO103 := n0_; have HB := n1_; clear n0_ n1_; clear hb ho10; obtain ⟨Ao11, co11, eo11⟩ := Kd.R_slice HO103.out; subst eo11) | ((with_reducible refine gate_callee (f := 26) rfl ?_); refine goesL_ (some 5) rfl rfl Try.func26 (by kernel_rfl) rfl #[.slice Ao11 y101.length co11] rfl (by (try simp only [List.map_toArray, List.map_cons, List.map_nil]); first | done | rfl | (simp only [List.length_drop, List.length_take]; rfl)) ?_; (with_reducible refine (puny_Encode.calls k _ _ y101 t104 t105 _ ?side1 ?side2 A1.out).mono ?_); (case side1 => repeat (first | exact (Kd.R_reads' HO103.out).2.2 | (with_reducible refine Kd.C_alloc ?_ _) | (with_reducible refine Kd.C_drewN ?_ _) | (with_reducible refine Kd.C_drew ?_))); (case side2 => exact (Kd.R_reads' HO103.out).2.1); rintro e w12 ⟨v106, rfl, ho0, hb⟩; refine ⟨_, rfl, ?_⟩; have n0_ := Aside0.mk (Kd.R_below (by (with_reducible repeat (first | apply Kd.R_alloc | apply Kd.R_drewN | apply Kd.R_drew)); exact HO103.out) hb); have n1_ := Aside0.mk (Kd.R_lower ho0 (below_size (by repeat (first | (with_reducible first | exact HB.out | apply below_alloc | apply pw_below_drewN | apply below_drew1) | exact HB.out)))); have n2_ := Aside0.mk (below_step (by repeat (first | (with_reducible first | exact HB.out | apply below_alloc | apply pw_below_drewN | apply below_drew1) | exact HB.out)) hb); clear HO103; clear HB; have HO103 := n0_; have HO107 := n1_; have HB := n2_; clear n0_ n1_ n2_; (try clear hb); (try clear hb2); (try clear hk); (try clear hi); (try clear ho0)))
    go_ret
    exact ⟨by first | rfl | (simp [errW_none, errW_some] <;> rfl) | (simp [*, errW_none, errW_some] <;> rfl), by repeat (first | (with_reducible first | exact HB.out | apply below_alloc | apply pw_below_drewN | apply below_drew1) | exact HB.out)⟩

end Go.Proofs.Ytooiajkbpkfplaa.Q

-- from Ppuny0
/- PunyPlain's part: the document's example of layer 12, scalars. -/
namespace Go.Proofs.Ytooiajkbpkfplaa.K
set_option linter.unusedVariables false
set_option linter.unusedSimpArgs false
open Go.RowKit Go.Proofs.YtooiajkbpkfplaaW.PrintWords Go.Proofs.Ytooiajkbpkfplaa.Q

theorem awake12 : paronymlaw12_awake.f 60 = some true := by decide +kernel
theorem awake12_ev : Ev (fun k => paronymlaw12_awake.f k) true := Ev.of (fun k => paronymlaw12_awake.mono k) awake12
def scalar (c : Int) : Bool := decide (0 ≤ c) && (decide (c ≤ 1114111) && (decide (c < 55296) || decide (c > 57343)))
theorem utf_Scalar_is (c : Int) : utf_Scalar.f c = some (scalar c) := by
  unfold utf_Scalar.f scalar
  by_cases a : c ≥ 0
  · have a' : 0 ≤ c := a
    rw [if_pos a]
    by_cases b : c ≤ 1114111
    · rw [if_pos b]
      by_cases d : c < 55296
      · rw [if_pos d]; simp [a', b, d]
      · rw [if_neg d]; simp [a', b, d]
    · rw [if_neg b]; simp [b]
  · have a' : ¬ 0 ≤ c := a
    rw [if_neg a]; simp [a']
theorem unscalar_is (c : Int) : puny_Encode_1.f c = some (!scalar c) := by unfold puny_Encode_1.f; rw [utf_Scalar_is]; rfl
theorem any_unscalar_ev (l : List Int) (hl : l.length ≤ 1099511627776) : Ev (fun k => slices_ContainsFunc_int_int_at_puny_Encode_1.f k l) (l.any fun c => !scalar c) := by
  unfold slices_ContainsFunc_int_int_at_puny_Encode_1.f slices_IndexFunc_int_int_at_puny_Encode_1.f
  exact contains_ev (p := puny_Encode_1.f) (q := fun c => !scalar c) (fun k x n i => rfl) l (by omega) (fun y _ => unscalar_is y)

end Go.Proofs.Ytooiajkbpkfplaa.K

-- from Qf34
-- Made by hp.py, a program of this session, with the kit's printer. Not trusted: Lean checks it.
namespace Go.Proofs.Ytooiajkbpkfplaa.Q
open Go.RowKit Go.Proofs.YtooiajkbpkfplaaW.PrintWords Go.Proofs.YtooiajkbpkfplaaW.PrintLast Go.Proofs.YtooiajkbpkfplaaW.PrintMore
attribute [local go_sem] max2_int min2_int max_two min_two max_three min_three max_four min_four   -- for this text's walks alone
set_option linter.unusedVariables false
set_option linter.unusedSimpArgs false

/-! ### paronymref01_Octets: function 34 -/
def paronymref01_Octets.l0 : Nat → Int → ByteArray → Int → Int → Option (ByteArray)
  | 0, _, _, _, _ => none
  | k + 1, x0, x3, x4, x5 => if x0 ≥ x4 then ((some (([(wrap64 (128 + (Int.tmod x0 64))) % 256] : List Int) : List Int)).bind fun y104 => (if (strOfNums y104).size + x3.size ≤ 9223372036854775807 then (if x4 = 64 then (paronymref01_Octets.l0 k (wrap64 (Int.tdiv x0 64)) ((strOfNums y104) ++ x3) 32 x5) else (paronymref01_Octets.l0 k (wrap64 (Int.tdiv x0 64)) ((strOfNums y104) ++ x3) (wrap64 (Int.tdiv x4 2)) (wrap64 (x5 + x4)))) else (none))) else ((some (([(wrap64 (x5 + x0)) % 256] : List Int) : List Int)).bind fun y107 => (if (strOfNums y107).size + x3.size ≤ 9223372036854775807 then (some ((strOfNums y107) ++ x3)) else (none)))
def paronymref01_Octets.f (k : Nat) (a0 : Int) : Option (ByteArray) := if a0 < 128 then (some (strOfNums (([(a0) % 256] : List Int)))) else (paronymref01_Octets.l0 k a0 (⟨#[]⟩ : ByteArray) 64 192)
theorem paronymref01_Octets.mono_l : ∀ k, (∀ y0 y1 y2 y3, LeO (paronymref01_Octets.l0 k y0 y1 y2 y3) (paronymref01_Octets.l0 (k + 1) y0 y1 y2 y3))
  | 0 => fun _ _ _ _ r h => by simp [paronymref01_Octets.l0] at h
  | k + 1 => by
    have ih0 := paronymref01_Octets.mono_l k
    · intro y0 y1 y2 y3
      unfold paronymref01_Octets.l0
      repeat' first
      | (with_reducible exact ih0 _ _ _ _)
      | (with_reducible exact LeO.refl _)
      | (with_reducible exact LeO.none _)
      | (with_reducible refine LeO.ite ?_ ?_)
      | (with_reducible refine LeO.bind ?_ (fun _ => ?_))
      | exact ih0 _ _ _ _
      | exact LeO.none _
      | refine LeO.ite ?_ ?_
      | refine LeO.bind ?_ (fun _ => ?_)
theorem paronymref01_Octets.mono : ∀ a0 k, LeO (paronymref01_Octets.f k a0) (paronymref01_Octets.f (k + 1) a0) := by
  intro a0 k
  have ih0 := paronymref01_Octets.mono_l k
  unfold paronymref01_Octets.f
  repeat' first
      | (with_reducible exact ih0 _ _ _ _)
      | (with_reducible exact LeO.refl _)
      | (with_reducible exact LeO.none _)
      | (with_reducible refine LeO.ite ?_ ?_)
      | (with_reducible refine LeO.bind ?_ (fun _ => ?_))
      | exact ih0 _ _ _ _
      | exact LeO.none _
      | refine LeO.ite ?_ ?_
      | refine LeO.bind ?_ (fun _ => ?_)
set_option maxHeartbeats 8000000 in
set_option maxRecDepth 100000 in
theorem paronymref01_Octets.calls (k : Nat) (a0 : Int) (r : ByteArray) (w : World) (h : paronymref01_Octets.f k a0 = some r) :
    Calls Try.prog 34 #[.int .i64 a0] w fun e w' => e = .returned (.string r) ∧ Below w.heap.size w w' := by
  have HB := Aside0.mk (Below.refl w.heap.size w)
  have H : (if a0 < 128 then (some (strOfNums (([(a0) % 256] : List Int)))) else (paronymref01_Octets.l0 k a0 (⟨#[]⟩ : ByteArray) 64 192)) = some r := h
  clear h
  by_cases c2 : a0 < 128
  · rw [if_pos c2] at H
    have c2b0 : decide (a0 < 128) = true := decide_eq_true c2
    clear c2
    obtain ⟨y101, hy101⟩ : ∃ y_ : List Int, y_ = (([(a0) % 256] : List Int)) := ⟨_, rfl⟩
    replace H : (some (strOfNums y101)) = some r := by first | (rw [hy101]; with_reducible exact H) | (have H2_ := (Option.bind_some _ _).symm.trans H; rw [hy101]; with_reducible exact H2_) | (have H2_ := (Option.bind_some _ _).symm.trans H; with_reducible exact H2_) | with_reducible exact H | (rw [hy101]; exact H) | exact H
    have Ny101 := Aside0.mk hy101
    clear hy101
    obtain rfl := Option.some.inj H
    go_enter Try.func34, Try.ntmps34
    go_wp2_with (first | ((with_reducible refine gate_dst (N := 10) rfl ?_); refine Kd.R_lit (Kd.int .u8) _ 5 ?hg (N := 10) ?hd (xs := ([(a0) % 256] : List Int)) (inner := [.int .u8 ((a0) % 256)]) (ok := fun _ => True) (okp := fun _ => True) ?hr ?hp (fun _ hk => hk) trivial (Below.refl _ _) (Nat.le_refl _) (by simp) ?_; (case hd => rfl); (case hg => rfl); (case hr => first | (go_simp; done) | (go_simp; rfl)); (case hp => exact (Reps.one (show Kd.M (Kd.int .u8) _ _ _ ((a0) % 256) [.int .u8 ((a0) % 256)] from rfl) (Reps.none _ _))); intro v102 w3 ho4 hb hg_ hnew_; clear hg_ hnew_; (first | rw [← Ny101.out] at ho4 | (simp only [Int.reduceToNat] at ho4; rw [← Ny101.out] at ho4)); have n0_ := Aside0.mk (Kd.R_lower ho4 (below_size (by repeat (first | (with_reducible first | exact HB.out | apply below_alloc | apply pw_below_drewN | apply below_drew1) | exact HB.out)))); have n1_ := Aside0.mk (below_step (by repeat (first | (with_reducible first | exact HB.out | apply below_alloc | apply pw_below_drewN | apply below_drew1) | exact HB.out)) hb); clear HB; have HO103 := n0_; have HB := n1_; clear n0_ n1_; clear hb ho4; have hcv5 := own_string (P := Try.prog) Try.underlying22 Try.underlying5 Try.underlying9 (Kd.own_of_R HO103.out); have hcv6 := fun (nd_ : Nat) => own_string (P := Try.prog) Try.underlying22 Try.underlying5 Try.underlying9 (Kd.own_of_R (Kd.R_drewN HO103.out nd_))))
    go_ret
    exact ⟨by first | rfl | (simp [errW_none, errW_some] <;> rfl) | (simp [*, errW_none, errW_some] <;> rfl), by repeat (first | (with_reducible first | exact HB.out | apply below_alloc | apply pw_below_drewN | apply below_drew1) | exact HB.out)⟩
  · rw [if_neg c2] at H
    have c2b0 : decide (a0 < 128) = false := decide_eq_false c2
    clear c2
    have H' := Aside0.mk H
    clear H
    go_enter Try.func34, Try.ntmps34
    go_wp2
    go_loopg [0, 3, 4, 5] k (fun kq v0 v3 v4 v5 w' => ∃ (x0_1 : Int) (x3_1 : ByteArray) (x4_1 : Int) (x5_1 : Int), v0 = .int .i64 x0_1 ∧ v3 = .string x3_1 ∧ v4 = .int .i64 x4_1 ∧ v5 = .int .i64 x5_1 ∧ Aside0 (paronymref01_Octets.l0 kq x0_1 x3_1 x4_1 x5_1 = some r) ∧ Aside0 (kq ≤ k) ∧ Aside0 (Below w.heap.size w w'))
    case atStart => exact ⟨(a0), ((⟨#[]⟩ : ByteArray)), (64), (192), (by first | rfl | (simp; done) | (simp [*]; done)), (by first | rfl | (simp; done) | (simp [*]; done)), (by first | rfl | (simp; done) | (simp [*]; done)), (by first | rfl | (simp; done) | (simp [*]; done)), H', ⟨Nat.le_refl _⟩, ⟨by repeat (first | (with_reducible first | exact HB.out | apply below_alloc | apply pw_below_drewN | apply below_drew1) | exact HB.out)⟩⟩
    case round =>
      clear H'
      try clear c2
      try clear c2b0
      try clear p2
      try clear c3
      try clear hcv5
      try clear hcv6
      obtain ⟨x0_1, x3_1, x4_1, x5_1, rfl, rfl, rfl, rfl, HA, HK1, HB⟩ := hrel
      cases gk with
      | zero => exact absurd HA.out (by simp [paronymref01_Octets.l0])
      | succ k1 =>
        have H := HA.out
        clear HA
        simp only [paronymref01_Octets.l0] at H
        by_cases c7 : x0_1 ≥ x4_1
        · rw [if_pos c7] at H
          have c7b0 : decide (x4_1 ≤ x0_1) = true := decide_eq_true c7
          clear c7
          obtain ⟨y104, hy104⟩ : ∃ y_ : List Int, y_ = (([(wrap64 (128 + (Int.tmod x0_1 64))) % 256] : List Int)) := ⟨_, rfl⟩
          replace H : (if (strOfNums y104).size + x3_1.size ≤ 9223372036854775807 then (if x4_1 = 64 then (paronymref01_Octets.l0 k1 (wrap64 (Int.tdiv x0_1 64)) ((strOfNums y104) ++ x3_1) 32 x5_1) else (paronymref01_Octets.l0 k1 (wrap64 (Int.tdiv x0_1 64)) ((strOfNums y104) ++ x3_1) (wrap64 (Int.tdiv x4_1 2)) (wrap64 (x5_1 + x4_1)))) else (none)) = some r := by first | (rw [hy104]; with_reducible exact H) | (have H2_ := (Option.bind_some _ _).symm.trans H; rw [hy104]; with_reducible exact H2_) | (have H2_ := (Option.bind_some _ _).symm.trans H; with_reducible exact H2_) | with_reducible exact H | (rw [hy104]; exact H) | exact H
          have Ny104 := Aside0.mk hy104
          clear hy104
          by_cases c8 : (strOfNums y104).size + x3_1.size ≤ 9223372036854775807
          · rw [if_pos c8] at H
            have c8b0 := eq_true c8
            have c8b1 : decide ((strOfNums y104).size + x3_1.size ≤ 9223372036854775807) = true := decide_eq_true c8
            try have c8b2 : (9223372036854775807 < (strOfNums y104).size + x3_1.size) = False := eq_false (Nat.not_lt.2 c8)
            by_cases c9 : x4_1 = 64
            · rw [if_pos c9] at H
              have c9b0 : (x4_1 == 64) = true := beq_iff_eq.mpr c9
              have c9b1 : (x4_1 != 64) = false := bne_eq_false_iff_eq.mpr c9
              clear c9
              have H' := Aside0.mk H
              clear H
              go_wp2_with (first | ((with_reducible refine gate_dst (N := 19) rfl ?_); refine Kd.R_lit (Kd.int .u8) _ 5 ?hg (N := 19) ?hd (xs := ([(wrap64 (128 + (Int.tmod x0_1 64))) % 256] : List Int)) (inner := [.int .u8 ((wrap64 (128 + (Int.tmod x0_1 64))) % 256)]) (ok := fun _ => True) (okp := fun _ => True) ?hr ?hp (fun _ hk => hk) trivial (Below.refl _ _) (Nat.le_refl _) (by simp) ?_; (case hd => rfl); (case hg => rfl); (case hr => first | (go_simp; done) | (go_simp; rfl)); (case hp => exact (Reps.one (show Kd.M (Kd.int .u8) _ _ _ ((wrap64 (128 + (Int.tmod x0_1 64))) % 256) [.int .u8 ((wrap64 (128 + (Int.tmod x0_1 64))) % 256)] from rfl) (Reps.none _ _))); intro v105 w10 ho11 hb hg_ hnew_; clear hg_ hnew_; (first | rw [← Ny104.out] at ho11 | (simp only [Int.reduceToNat] at ho11; rw [← Ny104.out] at ho11)); have n0_ := Aside0.mk (Kd.R_lower ho11 (below_size (by repeat (first | (with_reducible first | exact HB.out | apply below_alloc | apply pw_below_drewN | apply below_drew1) | exact HB.out)))); have n1_ := Aside0.mk (below_step (by repeat (first | (with_reducible first | exact HB.out | apply below_alloc | apply pw_below_drewN | apply below_drew1) | exact HB.out)) hb); clear HB; have HO106 := n0_; have HB := n1_; clear n0_ n1_; clear hb ho11; have hcv12 := own_string (P := Try.prog) Try.underlying22 Try.underlying5 Try.underlying9 (Kd.own_of_R HO106.out); have hcv13 := fun (nd_ : Nat) => own_string (P := Try.prog) Try.underlying22 Try.underlying5 Try.underlying9 (Kd.own_of_R (Kd.R_drewN HO106.out nd_))))
              go_roundg k1
              case measure => have := HK1.out; omega
              case rel => exact ⟨(wrap64 (Int.tdiv x0_1 64)), ((strOfNums y104) ++ x3_1), (32), (x5_1), (by first | rfl | (simp; done) | (simp [*]; done)), (by first | rfl | (simp; done) | (simp [*]; done)), (by first | rfl | (simp; done) | (simp [*]; done)), (by first | rfl | (simp; done) | (simp [*]; done)), H', ⟨by have := HK1.out; omega⟩, ⟨by repeat (first | (with_reducible first | exact HB.out | apply below_alloc | apply pw_below_drewN | apply below_drew1) | exact HB.out)⟩⟩
            · rw [if_neg c9] at H
              have c9b0 : (x4_1 == 64) = false := beq_eq_false_iff_ne.mpr c9
              have c9b1 : (x4_1 != 64) = true := bne_iff_ne.mpr c9
              have H' := Aside0.mk H
              clear H
              go_wp2_with (first | ((with_reducible refine gate_dst (N := 19) rfl ?_); refine Kd.R_lit (Kd.int .u8) _ 5 ?hg (N := 19) ?hd (xs := ([(wrap64 (128 + (Int.tmod x0_1 64))) % 256] : List Int)) (inner := [.int .u8 ((wrap64 (128 + (Int.tmod x0_1 64))) % 256)]) (ok := fun _ => True) (okp := fun _ => True) ?hr ?hp (fun _ hk => hk) trivial (Below.refl _ _) (Nat.le_refl _) (by simp) ?_; (case hd => rfl); (case hg => rfl); (case hr => first | (go_simp; done) | (go_simp; rfl)); (case hp => exact (Reps.one (show Kd.M (Kd.int .u8) _ _ _ ((wrap64 (128 + (Int.tmod x0_1 64))) % 256) [.int .u8 ((wrap64 (128 + (Int.tmod x0_1 64))) % 256)] from rfl) (Reps.none _ _))); intro v105 w14 ho15 hb hg_ hnew_; clear hg_ hnew_; (first | rw [← Ny104.out] at ho15 | (simp only [Int.reduceToNat] at ho15; rw [← Ny104.out] at ho15)); have n0_ := Aside0.mk (Kd.R_lower ho15 (below_size (by repeat (first | (with_reducible first | exact HB.out | apply below_alloc | apply pw_below_drewN | apply below_drew1) | exact HB.out)))); have n1_ := Aside0.mk (below_step (by repeat (first | (with_reducible first | exact HB.out | apply below_alloc | apply pw_below_drewN | apply below_drew1) | exact HB.out)) hb); clear HB; have HO106 := n0_; have HB := n1_; clear n0_ n1_; clear hb ho15; have hcv16 := own_string (P := Try.prog) Try.underlying22 Try.underlying5 Try.underlying9 (Kd.own_of_R HO106.out); have hcv17 := fun (nd_ : Nat) => own_string (P := Try.prog) Try.underlying22 Try.underlying5 Try.underlying9 (Kd.own_of_R (Kd.R_drewN HO106.out nd_))))
              go_roundg k1
              case measure => have := HK1.out; omega
              case rel => exact ⟨(wrap64 (Int.tdiv x0_1 64)), ((strOfNums y104) ++ x3_1), (wrap64 (Int.tdiv x4_1 2)), (wrap64 (x5_1 + x4_1)), (by first | rfl | (simp; done) | (simp [*]; done)), (by first | rfl | (simp; done) | (simp [*]; done)), (by first | rfl | (simp; done) | (simp [*]; done)), (by first | rfl | (simp; done) | (simp [*]; done)), H', ⟨by have := HK1.out; omega⟩, ⟨by repeat (first | (with_reducible first | exact HB.out | apply below_alloc | apply pw_below_drewN | apply below_drew1) | exact HB.out)⟩⟩
          · rw [if_neg c8] at H
            exact absurd H (by simp)
        · rw [if_neg c7] at H
          have c7b0 : decide (x4_1 ≤ x0_1) = false := decide_eq_false c7
          clear c7
          obtain ⟨y107, hy107⟩ : ∃ y_ : List Int, y_ = (([(wrap64 (x5_1 + x0_1)) % 256] : List Int)) := ⟨_, rfl⟩
          replace H : (if (strOfNums y107).size + x3_1.size ≤ 9223372036854775807 then (some ((strOfNums y107) ++ x3_1)) else (none)) = some r := by first | (rw [hy107]; with_reducible exact H) | (have H2_ := (Option.bind_some _ _).symm.trans H; rw [hy107]; with_reducible exact H2_) | (have H2_ := (Option.bind_some _ _).symm.trans H; with_reducible exact H2_) | with_reducible exact H | (rw [hy107]; exact H) | exact H
          have Ny107 := Aside0.mk hy107
          clear hy107
          by_cases c18 : (strOfNums y107).size + x3_1.size ≤ 9223372036854775807
          · rw [if_pos c18] at H
            have c18b0 := eq_true c18
            have c18b1 : decide ((strOfNums y107).size + x3_1.size ≤ 9223372036854775807) = true := decide_eq_true c18
            try have c18b2 : (9223372036854775807 < (strOfNums y107).size + x3_1.size) = False := eq_false (Nat.not_lt.2 c18)
            obtain rfl := Option.some.inj H
            go_wp2_with (first | ((with_reducible refine gate_dst (N := 36) rfl ?_); refine Kd.R_lit (Kd.int .u8) _ 5 ?hg (N := 36) ?hd (xs := ([(wrap64 (x5_1 + x0_1)) % 256] : List Int)) (inner := [.int .u8 ((wrap64 (x5_1 + x0_1)) % 256)]) (ok := fun _ => True) (okp := fun _ => True) ?hr ?hp (fun _ hk => hk) trivial (Below.refl _ _) (Nat.le_refl _) (by simp) ?_; (case hd => rfl); (case hg => rfl); (case hr => first | (go_simp; done) | (go_simp; rfl)); (case hp => exact (Reps.one (show Kd.M (Kd.int .u8) _ _ _ ((wrap64 (x5_1 + x0_1)) % 256) [.int .u8 ((wrap64 (x5_1 + x0_1)) % 256)] from rfl) (Reps.none _ _))); intro v108 w19 ho20 hb hg_ hnew_; clear hg_ hnew_; (first | rw [← Ny107.out] at ho20 | (simp only [Int.reduceToNat] at ho20; rw [← Ny107.out] at ho20)); have n0_ := Aside0.mk (Kd.R_lower ho20 (below_size (by repeat (first | (with_reducible first | exact HB.out | apply below_alloc | apply pw_below_drewN | apply below_drew1) | exact HB.out)))); have n1_ := Aside0.mk (below_step (by repeat (first | (with_reducible first | exact HB.out | apply below_alloc | apply pw_below_drewN | apply below_drew1) | exact HB.out)) hb); clear HB; have HO109 := n0_; have HB := n1_; clear n0_ n1_; clear hb ho20; have hcv21 := own_string (P := Try.prog) Try.underlying22 Try.underlying5 Try.underlying9 (Kd.own_of_R HO109.out); have hcv22 := fun (nd_ : Nat) => own_string (P := Try.prog) Try.underlying22 Try.underlying5 Try.underlying9 (Kd.own_of_R (Kd.R_drewN HO109.out nd_))))
            go_ret
            exact ⟨by first | rfl | (simp [errW_none, errW_some] <;> rfl) | (simp [*, errW_none, errW_some] <;> rfl), by repeat (first | (with_reducible first | exact HB.out | apply below_alloc | apply pw_below_drewN | apply below_drew1) | exact HB.out)⟩
          · rw [if_neg c18] at H
            exact absurd H (by simp)

end Go.Proofs.Ytooiajkbpkfplaa.Q

-- from Qf40
-- Made by hp.py, a program of this session, with the kit's printer. Not trusted: Lean checks it.
namespace Go.Proofs.Ytooiajkbpkfplaa.Q
open Go.RowKit Go.Proofs.YtooiajkbpkfplaaW.PrintWords Go.Proofs.YtooiajkbpkfplaaW.PrintLast Go.Proofs.YtooiajkbpkfplaaW.PrintMore
attribute [local go_sem] max2_int min2_int max_two min_two max_three min_three max_four min_four   -- for this text's walks alone
set_option linter.unusedVariables false
set_option linter.unusedSimpArgs false

/-! ### paronymref01_Scalar: function 40 -/
def paronymref01_Scalar.f (a0 : Int) : Option (Bool) := if a0 ≥ 0 then (if a0 ≤ 1114111 then (if a0 < 55296 then (some true) else (some (decide (a0 > 57343)))) else (some false)) else (some false)
set_option maxHeartbeats 8000000 in
set_option maxRecDepth 100000 in
theorem paronymref01_Scalar.calls (a0 : Int) (r : Bool) (w : World) (h : paronymref01_Scalar.f a0 = some r) :
    Calls Try.prog 40 #[.int .i64 a0] w fun e w' => e = .returned (.bool r) ∧ Drawn0 w w' := by
  have H : (if a0 ≥ 0 then (if a0 ≤ 1114111 then (if a0 < 55296 then (some true) else (some (decide (a0 > 57343)))) else (some false)) else (some false)) = some r := h
  clear h
  by_cases c2 : a0 ≥ 0
  · rw [if_pos c2] at H
    have c2b0 : decide (0 ≤ a0) = true := decide_eq_true c2
    clear c2
    by_cases c3 : a0 ≤ 1114111
    · rw [if_pos c3] at H
      have c3b0 : decide (a0 ≤ 1114111) = true := decide_eq_true c3
      clear c3
      by_cases c4 : a0 < 55296
      · rw [if_pos c4] at H
        have c4b0 : decide (a0 < 55296) = true := decide_eq_true c4
        clear c4
        obtain rfl := Option.some.inj H
        go_enter Try.func40, Try.ntmps40
        go_wp2
        go_ret
        exact ⟨by first | rfl | (simp; done) | (simp [*]; done), by repeat (first | exact Drawn0.refl _ | apply Drawn0.step)⟩
      · rw [if_neg c4] at H
        have c4b0 : decide (a0 < 55296) = false := decide_eq_false c4
        clear c4
        obtain rfl := Option.some.inj H
        go_enter Try.func40, Try.ntmps40
        go_wp2
        go_ret
        exact ⟨by first | rfl | (simp; done) | (simp [*]; done), by repeat (first | exact Drawn0.refl _ | apply Drawn0.step)⟩
    · rw [if_neg c3] at H
      have c3b0 : decide (a0 ≤ 1114111) = false := decide_eq_false c3
      clear c3
      obtain rfl := Option.some.inj H
      go_enter Try.func40, Try.ntmps40
      go_wp2
      go_ret
      exact ⟨by first | rfl | (simp; done) | (simp [*]; done), by repeat (first | exact Drawn0.refl _ | apply Drawn0.step)⟩
  · rw [if_neg c2] at H
    have c2b0 : decide (0 ≤ a0) = false := decide_eq_false c2
    clear c2
    obtain rfl := Option.some.inj H
    go_enter Try.func40, Try.ntmps40
    go_wp2
    go_ret
    exact ⟨by first | rfl | (simp; done) | (simp [*]; done), by repeat (first | exact Drawn0.refl _ | apply Drawn0.step)⟩

end Go.Proofs.Ytooiajkbpkfplaa.Q

-- from Qf29
-- Made by hp.py, a program of this session, with the kit's printer. Not trusted: Lean checks it.
namespace Go.Proofs.Ytooiajkbpkfplaa.Q
open Go.RowKit Go.Proofs.YtooiajkbpkfplaaW.PrintWords Go.Proofs.YtooiajkbpkfplaaW.PrintLast Go.Proofs.YtooiajkbpkfplaaW.PrintMore
attribute [local go_sem] max2_int min2_int max_two min_two max_three min_three max_four min_four   -- for this text's walks alone
set_option linter.unusedVariables false
set_option linter.unusedSimpArgs false

/-! ### paronymref01_Encode: function 29 -/
def paronymref01_Encode.l0 : Nat → List Int → ByteArray → Int → Option (ByteArray × Bool)
  | 0, _, _, _ => none
  | k + 1, x0, x4, x5 => if x5 < (x0.length : Int) then (if 0 ≤ x5 then ((paronymref01_Scalar.f (rd x0 x5)).bind fun t102 => (if t102 = true then ((paronymref01_Octets.f k (rd x0 x5)).bind fun t104 => (if x4.size + t104.size ≤ 9223372036854775807 then (paronymref01_Encode.l0 k x0 (x4 ++ t104) (wrap64 (x5 + 1))) else (none))) else (some ((⟨#[]⟩ : ByteArray), false)))) else (none)) else (some (x4, true))
def paronymref01_Encode.f (k : Nat) (l0 : List Int) : Option (ByteArray × Bool) := paronymref01_Encode.l0 k l0 (⟨#[]⟩ : ByteArray) 0
theorem paronymref01_Encode.mono_l : ∀ k, (∀ y0 y1 y2, LeO (paronymref01_Encode.l0 k y0 y1 y2) (paronymref01_Encode.l0 (k + 1) y0 y1 y2))
  | 0 => fun _ _ _ r h => by simp [paronymref01_Encode.l0] at h
  | k + 1 => by
    have ih0 := paronymref01_Encode.mono_l k
    · intro y0 y1 y2
      unfold paronymref01_Encode.l0
      repeat' first
      | (with_reducible exact ih0 _ _ _)
      | (with_reducible exact paronymref01_Octets.mono _ _)
      | (with_reducible exact LeO.refl _)
      | (with_reducible exact LeO.none _)
      | (with_reducible refine LeO.ite ?_ ?_)
      | (with_reducible refine LeO.bind ?_ (fun _ => ?_))
      | exact ih0 _ _ _
      | exact paronymref01_Octets.mono _ _
      | exact LeO.none _
      | refine LeO.ite ?_ ?_
      | refine LeO.bind ?_ (fun _ => ?_)
theorem paronymref01_Encode.mono : ∀ a0 k, LeO (paronymref01_Encode.f k a0) (paronymref01_Encode.f (k + 1) a0) := by
  intro a0 k
  have ih0 := paronymref01_Encode.mono_l k
  unfold paronymref01_Encode.f
  repeat' first
      | (with_reducible exact ih0 _ _ _)
      | (with_reducible exact paronymref01_Octets.mono _ _)
      | (with_reducible exact LeO.refl _)
      | (with_reducible exact LeO.none _)
      | (with_reducible refine LeO.ite ?_ ?_)
      | (with_reducible refine LeO.bind ?_ (fun _ => ?_))
      | exact ih0 _ _ _
      | exact paronymref01_Octets.mono _ _
      | exact LeO.none _
      | refine LeO.ite ?_ ?_
      | refine LeO.bind ?_ (fun _ => ?_)
set_option maxHeartbeats 8000000 in
set_option maxRecDepth 100000 in
theorem paronymref01_Encode.calls (k : Nat) (A0 : Option Addr) (c0 : Nat) (l0 : List Int) (r1 : ByteArray) (r2 : Bool) (w : World) (hr0 : Kd.C (Kd.int .i64) w A0 l0.length l0) (hc0 : l0.length ≤ c0) (h : paronymref01_Encode.f k l0 = some (r1, r2)) :
    Calls Try.prog 29 #[.slice A0 l0.length c0] w fun e w' => e = .returned (.tuple #[.string r1, .bool r2]) ∧ Below w.heap.size w w' := by
  have HR0 := Aside0.mk hr0
  have HC0 := Aside0.mk hc0
  clear hr0 hc0
  have HB := Aside0.mk (Below.refl w.heap.size w)
  have H : (paronymref01_Encode.l0 k l0 (⟨#[]⟩ : ByteArray) 0) = some (r1, r2) := h
  clear h
  have H' := Aside0.mk H
  clear H
  go_enter Try.func29, Try.ntmps29
  go_wp2
  go_loopg [4, 5] k (fun kq v4 v5 w' => ∃ (x4_1 : ByteArray) (x5_1 : Int), v4 = .string x4_1 ∧ v5 = .int .i64 x5_1 ∧ Aside0 (paronymref01_Encode.l0 kq l0 x4_1 x5_1 = some (r1, r2)) ∧ Aside0 (kq ≤ k) ∧ Aside0 (Below w.heap.size w w'))
  case atStart => exact ⟨((⟨#[]⟩ : ByteArray)), (0), (by first | rfl | (simp; done) | (simp [*]; done)), (by first | rfl | (simp; done) | (simp [*]; done)), H', ⟨Nat.le_refl _⟩, ⟨by repeat (first | (with_reducible first | exact HB.out | apply below_alloc | apply pw_below_drewN | apply below_drew1) | exact HB.out)⟩⟩
  case round =>
    clear H'
    obtain ⟨x4_1, x5_1, rfl, rfl, HA, HK1, HB⟩ := hrel
    cases gk with
    | zero => exact absurd HA.out (by simp [paronymref01_Encode.l0])
    | succ k1 =>
      have H := HA.out
      clear HA
      simp only [paronymref01_Encode.l0] at H
      by_cases c2 : x5_1 < (l0.length : Int)
      · rw [if_pos c2] at H
        have c2b0 : decide (x5_1 < (l0.length : Int)) = true := decide_eq_true c2
        clear c2
        by_cases c3 : 0 ≤ x5_1
        · rw [if_pos c3] at H
          have c3b0 : decide (0 ≤ x5_1) = true := decide_eq_true c3
          clear c3
          replace H := Option.bind_eq_some_iff.mp H
          obtain ⟨t102, A40, H⟩ := H
          replace H : (if t102 = true then ((paronymref01_Octets.f k1 (rd l0 x5_1)).bind fun t104 => (if x4_1.size + t104.size ≤ 9223372036854775807 then (paronymref01_Encode.l0 k1 l0 (x4_1 ++ t104) (wrap64 (x5_1 + 1))) else (none))) else (some ((⟨#[]⟩ : ByteArray), false))) = some (r1, r2) := H
          have A4 := Aside0.mk A40
          clear A40
          by_cases c5 : t102 = true
          · subst c5
            have H1 : ((paronymref01_Octets.f k1 (rd l0 x5_1)).bind fun t104 => (if x4_1.size + t104.size ≤ 9223372036854775807 then (paronymref01_Encode.l0 k1 l0 (x4_1 ++ t104) (wrap64 (x5_1 + 1))) else (none))) = some (r1, r2) := by rw [if_pos rfl] at H; exact H
            clear H
            have H := H1
            clear H1
            replace H := Option.bind_eq_some_iff.mp H
            obtain ⟨t104, A60, H⟩ := H
            replace H : (if x4_1.size + t104.size ≤ 9223372036854775807 then (paronymref01_Encode.l0 k1 l0 (x4_1 ++ t104) (wrap64 (x5_1 + 1))) else (none)) = some (r1, r2) := H
            have A6 := Aside0.mk A60
            clear A60
            by_cases c7 : x4_1.size + t104.size ≤ 9223372036854775807
            · rw [if_pos c7] at H
              have c7b0 := eq_true c7
              have c7b1 : decide (x4_1.size + t104.size ≤ 9223372036854775807) = true := decide_eq_true c7
              try have c7b2 : (9223372036854775807 < x4_1.size + t104.size) = False := eq_false (Nat.not_lt.2 c7)
              have H' := Aside0.mk H
              clear H
              have p101 : 0 ≤ (x5_1 : Int) := of_decide_eq_true (by first | (with_reducible assumption) | assumption)
              have q101 : x5_1 < (l0.length : Int) := of_decide_eq_true (by first | (with_reducible assumption) | assumption)
              obtain ⟨ad101, e101, hx101_0⟩ := Kd.at_int HR0.out x5_1 p101 q101
              cases e101
              replace hx101_0 := (HB.out.cell (World.block_lt_of_cell? w _ hx101_0)).trans hx101_0
              replace p101 := eq_true p101
              replace q101 := eq_true q101
              go_wp2_with (first | ((with_reducible refine gate_callee (f := 40) rfl ?_); refine goesL_ (some 16) rfl rfl Try.func40 (by kernel_rfl) rfl #[.int .i64 (rd l0 x5_1)] rfl (by (try simp only [List.map_toArray, List.map_cons, List.map_nil]); first | done | rfl | (simp only [List.length_drop, List.length_take]; rfl)) ?_; (with_reducible refine (paronymref01_Scalar.calls (rd l0 x5_1) true _ A4.out).mono ?_); rintro e w' ⟨rfl, ⟨nd, rfl⟩⟩; refine ⟨_, rfl, ?_⟩; have p103 : 0 ≤ (x5_1 : Int) := of_decide_eq_true (by first | (with_reducible assumption) | assumption); have q103 : x5_1 < (l0.length : Int) := of_decide_eq_true (by first | (with_reducible assumption) | assumption); obtain ⟨ad103, e103, hx103_0⟩ := Kd.at_int HR0.out x5_1 p103 q103; obtain rfl : ad101 = ad103 := (by injection e103); replace hx103_0 := (HB.out.cell (World.block_lt_of_cell? w _ hx103_0)).trans hx103_0; replace p103 := eq_true p103; replace q103 := eq_true q103) | ((with_reducible refine gate_callee (f := 34) rfl ?_); refine goesL_ (some 23) rfl rfl Try.func34 (by kernel_rfl) rfl #[.int .i64 (rd l0 x5_1)] rfl (by (try simp only [List.map_toArray, List.map_cons, List.map_nil]); first | done | rfl | (simp only [List.length_drop, List.length_take]; rfl)) ?_; (with_reducible refine (paronymref01_Octets.calls k1 (rd l0 x5_1) t104 _ A6.out).mono ?_); rintro e w8 ⟨rfl, hb⟩; refine ⟨_, rfl, ?_⟩; have n0_ := Aside0.mk (below_step (by repeat (first | (with_reducible first | exact HB.out | apply below_alloc | apply pw_below_drewN | apply below_drew1) | exact HB.out)) hb); clear HB; have HB := n0_; clear n0_; (try clear hb); (try clear hb2); (try clear hk); (try clear hi)))
              go_roundg k1
              case measure => have := HK1.out; omega
              case rel => exact ⟨(x4_1 ++ t104), (wrap64 (x5_1 + 1)), (by first | rfl | (simp; done) | (simp [*]; done)), (by first | rfl | (simp; done) | (simp [*]; done)), H', ⟨by have := HK1.out; omega⟩, ⟨by repeat (first | (with_reducible first | exact HB.out | apply below_alloc | apply pw_below_drewN | apply below_drew1) | exact HB.out)⟩⟩
            · rw [if_neg c7] at H
              exact absurd H (by simp)
          · replace c5 := Bool.eq_false_iff.mpr c5
            subst c5
            have H1 : (some ((⟨#[]⟩ : ByteArray), false)) = some (r1, r2) := by rw [if_neg (show ¬ (false = true) by decide)] at H; exact H
            clear H
            have H := H1
            clear H1
            simp only [Option.some.injEq, Prod.mk.injEq] at H
            obtain ⟨rfl, rfl⟩ := H
            have p101 : 0 ≤ (x5_1 : Int) := of_decide_eq_true (by first | (with_reducible assumption) | assumption)
            have q101 : x5_1 < (l0.length : Int) := of_decide_eq_true (by first | (with_reducible assumption) | assumption)
            obtain ⟨ad101, e101, hx101_0⟩ := Kd.at_int HR0.out x5_1 p101 q101
            cases e101
            replace hx101_0 := (HB.out.cell (World.block_lt_of_cell? w _ hx101_0)).trans hx101_0
            replace p101 := eq_true p101
            replace q101 := eq_true q101
            go_wp2_with (first | ((with_reducible refine gate_callee (f := 40) rfl ?_); refine goesL_ (some 16) rfl rfl Try.func40 (by kernel_rfl) rfl #[.int .i64 (rd l0 x5_1)] rfl (by (try simp only [List.map_toArray, List.map_cons, List.map_nil]); first | done | rfl | (simp only [List.length_drop, List.length_take]; rfl)) ?_; (with_reducible refine (paronymref01_Scalar.calls (rd l0 x5_1) false _ A4.out).mono ?_); rintro e w' ⟨rfl, ⟨nd, rfl⟩⟩; refine ⟨_, rfl, ?_⟩))
            go_ret2
            exact ⟨by first | rfl | (simp [errW_none, errW_some] <;> rfl) | (simp [*, errW_none, errW_some] <;> rfl), by repeat (first | (with_reducible first | exact HB.out | apply below_alloc | apply pw_below_drewN | apply below_drew1) | exact HB.out)⟩
        · rw [if_neg c3] at H
          exact absurd H (by simp)
      · rw [if_neg c2] at H
        have c2b0 : decide (x5_1 < (l0.length : Int)) = false := decide_eq_false c2
        clear c2
        simp only [Option.some.injEq, Prod.mk.injEq] at H
        obtain ⟨rfl, rfl⟩ := H
        go_wp2
        go_ret2
        exact ⟨by first | rfl | (simp [errW_none, errW_some] <;> rfl) | (simp [*, errW_none, errW_some] <;> rfl), by repeat (first | (with_reducible first | exact HB.out | apply below_alloc | apply pw_below_drewN | apply below_drew1) | exact HB.out)⟩

end Go.Proofs.Ytooiajkbpkfplaa.Q

-- from Qf55
-- Made by hp.py, a program of this session, with the kit's printer. Not trusted: Lean checks it.
namespace Go.Proofs.Ytooiajkbpkfplaa.Q
open Go.RowKit Go.Proofs.YtooiajkbpkfplaaW.PrintWords Go.Proofs.YtooiajkbpkfplaaW.PrintLast Go.Proofs.YtooiajkbpkfplaaW.PrintMore
attribute [local go_sem] max2_int min2_int max_two min_two max_three min_three max_four min_four   -- for this text's walks alone
set_option linter.unusedVariables false
set_option linter.unusedSimpArgs false

/-! ### paronymref01_Next: function 55 -/
mutual
def paronymref01_Next.l0 : Nat → ByteArray → Int → Option (Int × Int)
  | 0, _, _ => none
  | k + 1, x0, x4 => if x4 ≤ 4 then (paronymref01_Next.j1 k x0 x4 (decide (x4 ≤ (x0.size : Int)))) else (paronymref01_Next.j1 k x0 x4 false)
def paronymref01_Next.j1 : Nat → ByteArray → Int → Bool → Option (Int × Int)
  | 0, _, _, _ => none
  | k + 1, x0, x4, x14 => if x14 = true then (if 0 < (x0.size : Int) then (if x4 = 2 then (paronymref01_Next.j2 k x0 x4 (Int.tmod (wrap64 (bt x0 0)) 32)) else (paronymref01_Next.j2 k x0 x4 (wrap64 (bt x0 0)))) else (none)) else (some (0, 0))
def paronymref01_Next.j2 : Nat → ByteArray → Int → Int → Option (Int × Int)
  | 0, _, _, _ => none
  | k + 1, x0, x4, x5 => if x4 = 3 then (paronymref01_Next.j3 k x0 x4 (Int.tmod x5 16)) else (paronymref01_Next.j3 k x0 x4 x5)
def paronymref01_Next.j3 : Nat → ByteArray → Int → Int → Option (Int × Int)
  | 0, _, _, _ => none
  | k + 1, x0, x4, x5 => if x4 = 4 then (paronymref01_Next.j4 k x0 x4 (Int.tmod x5 8)) else (paronymref01_Next.j4 k x0 x4 x5)
def paronymref01_Next.j4 : Nat → ByteArray → Int → Int → Option (Int × Int)
  | 0, _, _, _ => none
  | k + 1, x0, x4, x5 => paronymref01_Next.l1 k x0 x4 x5 1
def paronymref01_Next.l1 : Nat → ByteArray → Int → Int → Int → Option (Int × Int)
  | 0, _, _, _, _ => none
  | k + 1, x0, x4, x5, x6 => if x6 < x4 then (if 0 ≤ x6 then (if x6 < (x0.size : Int) then (paronymref01_Next.l1 k x0 x4 (wrap64 ((wrap64 (x5 * 64)) + (Int.tmod (wrap64 (bt x0 x6)) 64))) (wrap64 (x6 + 1))) else (none)) else (none)) else ((paronymref01_Scalar.f x5).bind fun t101 => (if t101 = true then ((paronymref01_Octets.f k x5).bind fun t102 => (if 0 ≤ x4 then (if x4 ≤ (x0.size : Int) then (if t102.toList = (x0.extract 0 (x4 : Int).toNat).toList then (some (x5, x4)) else (paronymref01_Next.l0 k x0 (wrap64 (x4 + 1)))) else (none)) else (none))) else (paronymref01_Next.l0 k x0 (wrap64 (x4 + 1)))))
end
def paronymref01_Next.f (k : Nat) (a0 : ByteArray) : Option (Int × Int) := paronymref01_Next.l0 k a0 1
theorem paronymref01_Next.mono_l : ∀ k, (∀ y0 y1, LeO (paronymref01_Next.l0 k y0 y1) (paronymref01_Next.l0 (k + 1) y0 y1)) ∧ (∀ y0 y1 y2, LeO (paronymref01_Next.j1 k y0 y1 y2) (paronymref01_Next.j1 (k + 1) y0 y1 y2)) ∧ (∀ y0 y1 y2, LeO (paronymref01_Next.j2 k y0 y1 y2) (paronymref01_Next.j2 (k + 1) y0 y1 y2)) ∧ (∀ y0 y1 y2, LeO (paronymref01_Next.j3 k y0 y1 y2) (paronymref01_Next.j3 (k + 1) y0 y1 y2)) ∧ (∀ y0 y1 y2, LeO (paronymref01_Next.j4 k y0 y1 y2) (paronymref01_Next.j4 (k + 1) y0 y1 y2)) ∧ (∀ y0 y1 y2 y3, LeO (paronymref01_Next.l1 k y0 y1 y2 y3) (paronymref01_Next.l1 (k + 1) y0 y1 y2 y3))
  | 0 => ⟨fun _ _ r h => by simp [paronymref01_Next.l0] at h, fun _ _ _ r h => by simp [paronymref01_Next.j1] at h, fun _ _ _ r h => by simp [paronymref01_Next.j2] at h, fun _ _ _ r h => by simp [paronymref01_Next.j3] at h, fun _ _ _ r h => by simp [paronymref01_Next.j4] at h, fun _ _ _ _ r h => by simp [paronymref01_Next.l1] at h⟩
  | k + 1 => by
    obtain ⟨ih0, ih1, ih2, ih3, ih4, ih5⟩ := paronymref01_Next.mono_l k
    refine ⟨?_, ?_, ?_, ?_, ?_, ?_⟩
    · intro y0 y1
      unfold paronymref01_Next.l0
      repeat' first
      | (with_reducible exact ih0 _ _)
      | (with_reducible exact ih1 _ _ _)
      | (with_reducible exact ih2 _ _ _)
      | (with_reducible exact ih3 _ _ _)
      | (with_reducible exact ih4 _ _ _)
      | (with_reducible exact ih5 _ _ _ _)
      | (with_reducible exact paronymref01_Octets.mono _ _)
      | (with_reducible exact LeO.refl _)
      | (with_reducible exact LeO.none _)
      | (with_reducible refine LeO.ite ?_ ?_)
      | (with_reducible refine LeO.bind ?_ (fun _ => ?_))
      | exact ih0 _ _
      | exact ih1 _ _ _
      | exact ih2 _ _ _
      | exact ih3 _ _ _
      | exact ih4 _ _ _
      | exact ih5 _ _ _ _
      | exact paronymref01_Octets.mono _ _
      | exact LeO.none _
      | refine LeO.ite ?_ ?_
      | refine LeO.bind ?_ (fun _ => ?_)
    · intro y0 y1 y2
      unfold paronymref01_Next.j1
      repeat' first
      | (with_reducible exact ih0 _ _)
      | (with_reducible exact ih1 _ _ _)
      | (with_reducible exact ih2 _ _ _)
      | (with_reducible exact ih3 _ _ _)
      | (with_reducible exact ih4 _ _ _)
      | (with_reducible exact ih5 _ _ _ _)
      | (with_reducible exact paronymref01_Octets.mono _ _)
      | (with_reducible exact LeO.refl _)
      | (with_reducible exact LeO.none _)
      | (with_reducible refine LeO.ite ?_ ?_)
      | (with_reducible refine LeO.bind ?_ (fun _ => ?_))
      | exact ih0 _ _
      | exact ih1 _ _ _
      | exact ih2 _ _ _
      | exact ih3 _ _ _
      | exact ih4 _ _ _
      | exact ih5 _ _ _ _
      | exact paronymref01_Octets.mono _ _
      | exact LeO.none _
      | refine LeO.ite ?_ ?_
      | refine LeO.bind ?_ (fun _ => ?_)
    · intro y0 y1 y2
      unfold paronymref01_Next.j2
      repeat' first
      | (with_reducible exact ih0 _ _)
      | (with_reducible exact ih1 _ _ _)
      | (with_reducible exact ih2 _ _ _)
      | (with_reducible exact ih3 _ _ _)
      | (with_reducible exact ih4 _ _ _)
      | (with_reducible exact ih5 _ _ _ _)
      | (with_reducible exact paronymref01_Octets.mono _ _)
      | (with_reducible exact LeO.refl _)
      | (with_reducible exact LeO.none _)
      | (with_reducible refine LeO.ite ?_ ?_)
      | (with_reducible refine LeO.bind ?_ (fun _ => ?_))
      | exact ih0 _ _
      | exact ih1 _ _ _
      | exact ih2 _ _ _
      | exact ih3 _ _ _
      | exact ih4 _ _ _
      | exact ih5 _ _ _ _
      | exact paronymref01_Octets.mono _ _
      | exact LeO.none _
      | refine LeO.ite ?_ ?_
      | refine LeO.bind ?_ (fun _ => ?_)
    · intro y0 y1 y2
      unfold paronymref01_Next.j3
      repeat' first
      | (with_reducible exact ih0 _ _)
      | (with_reducible exact ih1 _ _ _)
      | (with_reducible exact ih2 _ _ _)
      | (with_reducible exact ih3 _ _ _)
      | (with_reducible exact ih4 _ _ _)
      | (with_reducible exact ih5 _ _ _ _)
      | (with_reducible exact paronymref01_Octets.mono _ _)
      | (with_reducible exact LeO.refl _)
      | (with_reducible exact LeO.none _)
      | (with_reducible refine LeO.ite ?_ ?_)
      | (with_reducible refine LeO.bind ?_ (fun _ => ?_))
      | exact ih0 _ _
      | exact ih1 _ _ _
      | exact ih2 _ _ _
      | exact ih3 _ _ _
      | exact ih4 _ _ _
      | exact ih5 _ _ _ _
      | exact paronymref01_Octets.mono _ _
      | exact LeO.none _
      | refine LeO.ite ?_ ?_
      | refine LeO.bind ?_ (fun _ => ?_)
    · intro y0 y1 y2
      unfold paronymref01_Next.j4
      repeat' first
      | (with_reducible exact ih0 _ _)
      | (with_reducible exact ih1 _ _ _)
      | (with_reducible exact ih2 _ _ _)
      | (with_reducible exact ih3 _ _ _)
      | (with_reducible exact ih4 _ _ _)
      | (with_reducible exact ih5 _ _ _ _)
      | (with_reducible exact paronymref01_Octets.mono _ _)
      | (with_reducible exact LeO.refl _)
      | (with_reducible exact LeO.none _)
      | (with_reducible refine LeO.ite ?_ ?_)
      | (with_reducible refine LeO.bind ?_ (fun _ => ?_))
      | exact ih0 _ _
      | exact ih1 _ _ _
      | exact ih2 _ _ _
      | exact ih3 _ _ _
      | exact ih4 _ _ _
      | exact ih5 _ _ _ _
      | exact paronymref01_Octets.mono _ _
      | exact LeO.none _
      | refine LeO.ite ?_ ?_
      | refine LeO.bind ?_ (fun _ => ?_)
    · intro y0 y1 y2 y3
      unfold paronymref01_Next.l1
      repeat' first
      | (with_reducible exact ih0 _ _)
      | (with_reducible exact ih1 _ _ _)
      | (with_reducible exact ih2 _ _ _)
      | (with_reducible exact ih3 _ _ _)
      | (with_reducible exact ih4 _ _ _)
      | (with_reducible exact ih5 _ _ _ _)
      | (with_reducible exact paronymref01_Octets.mono _ _)
      | (with_reducible exact LeO.refl _)
      | (with_reducible exact LeO.none _)
      | (with_reducible refine LeO.ite ?_ ?_)
      | (with_reducible refine LeO.bind ?_ (fun _ => ?_))
      | exact ih0 _ _
      | exact ih1 _ _ _
      | exact ih2 _ _ _
      | exact ih3 _ _ _
      | exact ih4 _ _ _
      | exact ih5 _ _ _ _
      | exact paronymref01_Octets.mono _ _
      | exact LeO.none _
      | refine LeO.ite ?_ ?_
      | refine LeO.bind ?_ (fun _ => ?_)
theorem paronymref01_Next.mono : ∀ a0 k, LeO (paronymref01_Next.f k a0) (paronymref01_Next.f (k + 1) a0) := by
  intro a0 k
  obtain ⟨ih0, ih1, ih2, ih3, ih4, ih5⟩ := paronymref01_Next.mono_l k
  unfold paronymref01_Next.f
  repeat' first
      | (with_reducible exact ih0 _ _)
      | (with_reducible exact ih1 _ _ _)
      | (with_reducible exact ih2 _ _ _)
      | (with_reducible exact ih3 _ _ _)
      | (with_reducible exact ih4 _ _ _)
      | (with_reducible exact ih5 _ _ _ _)
      | (with_reducible exact paronymref01_Octets.mono _ _)
      | (with_reducible exact LeO.refl _)
      | (with_reducible exact LeO.none _)
      | (with_reducible refine LeO.ite ?_ ?_)
      | (with_reducible refine LeO.bind ?_ (fun _ => ?_))
      | exact ih0 _ _
      | exact ih1 _ _ _
      | exact ih2 _ _ _
      | exact ih3 _ _ _
      | exact ih4 _ _ _
      | exact ih5 _ _ _ _
      | exact paronymref01_Octets.mono _ _
      | exact LeO.none _
      | refine LeO.ite ?_ ?_
      | refine LeO.bind ?_ (fun _ => ?_)
def paronymref01_Next.T15 : Bool × List (List Nat × List Nat) := (true, [([], []), ([0], [0]), ([1, 1], [1]), ([2], [2]), ([3, 2, 2], [2, 3]), ([2], [2]), ([2], [2]), ([5, 6, 2], [2, 5, 6]), ([4, 7, 2], [2, 4, 7]), ([2, 8], [2, 8])])
def paronymref01_Next.B15 : List Nat := [0, 1, 3, 7, 15, 7, 7, 103, 255, 511]
theorem paronymref01_Next.tab15 : rtab .any (opsOf Try.f55 15) = paronymref01_Next.T15 := by kernel_rfl
theorem paronymref01_Next.bits15 : waitsOk paronymref01_Next.T15.2 paronymref01_Next.B15 = true := by kernel_rfl
set_option maxHeartbeats 8000000 in
set_option maxRecDepth 100000 in
theorem paronymref01_Next.calls (k : Nat) (a0 : ByteArray) (r1 : Int) (r2 : Int) (w : World) (h : paronymref01_Next.f k a0 = some (r1, r2)) :
    Calls Try.prog 55 #[.string a0] w fun e w' => e = .returned (.tuple #[.int .i64 r1, .int .i64 r2]) ∧ Below w.heap.size w w' := by
  have HB := Aside0.mk (Below.refl w.heap.size w)
  have H : (paronymref01_Next.l0 k a0 1) = some (r1, r2) := h
  clear h
  have H' := Aside0.mk H
  clear H
  go_enter Try.func55, Try.ntmps55
  go_wp2
  go_loopg [4] k (fun kq v4 w' => ∃ (x4_1 : Int), v4 = .int .i64 x4_1 ∧ Aside0 (paronymref01_Next.l0 kq a0 x4_1 = some (r1, r2)) ∧ Aside0 (kq ≤ k) ∧ Aside0 (Below w.heap.size w w'))
  case atStart => exact ⟨(1), (by first | rfl | (simp; done) | (simp [*]; done)), H', ⟨Nat.le_refl _⟩, ⟨by repeat (first | (with_reducible first | exact HB.out | apply below_alloc | apply pw_below_drewN | apply below_drew1) | exact HB.out)⟩⟩
  case round =>
    clear H'
    obtain ⟨x4_1, rfl, HA, HK1, HB⟩ := hrel
    cases gk with
    | zero => exact absurd HA.out (by simp [paronymref01_Next.l0])
    | succ k1 =>
      have H := HA.out
      clear HA
      simp only [paronymref01_Next.l0] at H
      have HC2 := Aside0.mk H
      clear H
      go_upto_region 2 with (fail)
      go_cut [14] (fun v14 wc => ∃ (kq : Nat) (x14_1 : Bool), v14 = .bool x14_1 ∧ Aside0 (paronymref01_Next.j1 kq a0 x4_1 x14_1 = some (r1, r2)) ∧ Aside0 (kq ≤ k1) ∧ Aside0 (Below w.heap.size w wc))
      case first =>
        have H := HC2.out
        clear HC2
        by_cases c3 : x4_1 ≤ 4
        · rw [if_pos c3] at H
          have c3b0 : decide (x4_1 ≤ 4) = true := decide_eq_true c3
          clear c3
          (first | rw [c3b0] | (simp only [i64_w, i32_w]; rw [c3b0]) | rw [c3b1] | (simp only [i64_w, i32_w]; rw [c3b1]) | skip)
          have H' := Aside0.mk H
          clear H
          go_wp2
          go_meet
          case rel => exact ⟨_, (decide (x4_1 ≤ (a0.size : Int))), (by first | rfl | (simp; done) | (simp [*]; done)), H', ⟨by have := HK1.out; first | omega | exact Nat.le_refl _⟩, ⟨by repeat (first | (with_reducible first | exact HB.out | apply below_alloc | apply pw_below_drewN | apply below_drew1) | exact HB.out)⟩⟩
        · rw [if_neg c3] at H
          have c3b0 : decide (x4_1 ≤ 4) = false := decide_eq_false c3
          clear c3
          (first | rw [c3b0] | (simp only [i64_w, i32_w]; rw [c3b0]) | rw [c3b1] | (simp only [i64_w, i32_w]; rw [c3b1]) | skip)
          have H' := Aside0.mk H
          clear H
          go_wp2
          go_meet
          case rel => exact ⟨_, (false), (by first | rfl | (simp; done) | (simp [*]; done)), H', ⟨by have := HK1.out; first | omega | exact Nat.le_refl _⟩, ⟨by repeat (first | (with_reducible first | exact HB.out | apply below_alloc | apply pw_below_drewN | apply below_drew1) | exact HB.out)⟩⟩
      case rest =>
        clear HC2
        try clear p2
        try clear c3
        try clear c3b0
        try clear c3b1
        obtain ⟨kq, x14_1, rfl, HA, HJ1, HB⟩ := hcut
        cases kq with
        | zero => exact absurd HA.out (by simp [paronymref01_Next.j1])
        | succ kj1 =>
          have H := HA.out
          clear HA
          simp only [paronymref01_Next.j1] at H
          by_cases c4 : x14_1 = true
          · subst c4
            have H1 : (if 0 < (a0.size : Int) then (if x4_1 = 2 then (paronymref01_Next.j2 kj1 a0 x4_1 (Int.tmod (wrap64 (bt a0 0)) 32)) else (paronymref01_Next.j2 kj1 a0 x4_1 (wrap64 (bt a0 0)))) else (none)) = some (r1, r2) := by rw [if_pos rfl] at H; exact H
            clear H
            have H := H1
            clear H1
            by_cases c5 : 0 < (a0.size : Int)
            · rw [if_pos c5] at H
              have c5b0 : decide (0 < (a0.size : Int)) = true := decide_eq_true c5
              have c5b1 : decide (0 < a0.size) = true := decide_eq_true (by omega)
              clear c5
              have HC7 := Aside0.mk H
              clear H
              have p6 : 0 ≤ (0 : Int) := (by omega)
              have q6 : 0 < a0.size := (by have : (0 : Int) < (a0.size : Int) := of_decide_eq_true (by first | (with_reducible assumption) | assumption); omega)
              have hx6 : ∀ h : 0 < a0.size, ((a0[0]'h).toNat : Int) = bt a0 0 := bt_at a0 0
              clear p6
              have qi6 : (0 < (a0.size : Int)) = True := eq_true (of_decide_eq_true (by first | (with_reducible assumption) | assumption))
              replace q6 := eq_true q6
              go_upto_if 21 with (fail)
              go_cut [5] (fun v5 wc => ∃ (kq : Nat) (x5_6 : Int), v5 = .int .i64 x5_6 ∧ Aside0 (paronymref01_Next.j2 kq a0 x4_1 x5_6 = some (r1, r2)) ∧ Aside0 (kq ≤ kj1) ∧ Aside0 (Below w.heap.size w wc))
              case first =>
                have H := HC7.out
                clear HC7
                by_cases c8 : x4_1 = 2
                · rw [if_pos c8] at H
                  have c8b0 : (x4_1 == 2) = true := beq_iff_eq.mpr c8
                  have c8b1 : (x4_1 != 2) = false := bne_eq_false_iff_eq.mpr c8
                  clear c8
                  (first | rw [c8b0] | (simp only [i64_w, i32_w]; rw [c8b0]) | rw [c8b1] | (simp only [i64_w, i32_w]; rw [c8b1]) | skip)
                  have H' := Aside0.mk H
                  clear H
                  go_wp2
                  go_meet
                  case rel => exact ⟨_, (Int.tmod (wrap64 (bt a0 0)) 32), (by first | rfl | (simp; done) | (simp [*]; done)), H', ⟨by have := HK1.out; have := HJ1.out; first | omega | exact Nat.le_refl _⟩, ⟨by repeat (first | (with_reducible first | exact HB.out | apply below_alloc | apply pw_below_drewN | apply below_drew1) | exact HB.out)⟩⟩
                · rw [if_neg c8] at H
                  have c8b0 : (x4_1 == 2) = false := beq_eq_false_iff_ne.mpr c8
                  have c8b1 : (x4_1 != 2) = true := bne_iff_ne.mpr c8
                  (first | rw [c8b0] | (simp only [i64_w, i32_w]; rw [c8b0]) | rw [c8b1] | (simp only [i64_w, i32_w]; rw [c8b1]) | skip)
                  have H' := Aside0.mk H
                  clear H
                  go_wp2
                  go_meet
                  case rel => exact ⟨_, (wrap64 (bt a0 0)), (by first | rfl | (simp; done) | (simp [*]; done)), H', ⟨by have := HK1.out; have := HJ1.out; first | omega | exact Nat.le_refl _⟩, ⟨by repeat (first | (with_reducible first | exact HB.out | apply below_alloc | apply pw_below_drewN | apply below_drew1) | exact HB.out)⟩⟩
              case rest =>
                clear HC7
                try clear p2
                try clear c3
                try clear c3b0
                try clear c3b1
                try clear c4
                try clear c5
                try clear c5b0
                try clear c5b1
                try clear p6
                try clear q6
                try clear hx6
                try clear qi6
                try clear c8
                try clear c8b0
                try clear c8b1
                try clear p2
                try clear p6
                try clear q6
                obtain ⟨kq, x5_6, rfl, HA, HJ6, HB⟩ := hcut
                cases kq with
                | zero => exact absurd HA.out (by simp [paronymref01_Next.j2])
                | succ kj6 =>
                  have H := HA.out
                  clear HA
                  simp only [paronymref01_Next.j2] at H
                  have HC9 := Aside0.mk H
                  clear H
                  go_upto_if 25 with (fail)
                  go_cut [5] (fun v5 wc => ∃ (kq : Nat) (x5_8 : Int), v5 = .int .i64 x5_8 ∧ Aside0 (paronymref01_Next.j3 kq a0 x4_1 x5_8 = some (r1, r2)) ∧ Aside0 (kq ≤ kj6) ∧ Aside0 (Below w.heap.size w wc))
                  case first =>
                    have H := HC9.out
                    clear HC9
                    by_cases c10 : x4_1 = 3
                    · rw [if_pos c10] at H
                      have c10b0 : (x4_1 == 3) = true := beq_iff_eq.mpr c10
                      have c10b1 : (x4_1 != 3) = false := bne_eq_false_iff_eq.mpr c10
                      clear c10
                      (first | rw [c10b0] | (simp only [i64_w, i32_w]; rw [c10b0]) | rw [c10b1] | (simp only [i64_w, i32_w]; rw [c10b1]) | skip)
                      have H' := Aside0.mk H
                      clear H
                      go_wp2
                      go_meet
                      case rel => exact ⟨_, (Int.tmod x5_6 16), (by first | rfl | (simp; done) | (simp [*]; done)), H', ⟨by have := HK1.out; have := HJ1.out; have := HJ6.out; first | omega | exact Nat.le_refl _⟩, ⟨by repeat (first | (with_reducible first | exact HB.out | apply below_alloc | apply pw_below_drewN | apply below_drew1) | exact HB.out)⟩⟩
                    · rw [if_neg c10] at H
                      have c10b0 : (x4_1 == 3) = false := beq_eq_false_iff_ne.mpr c10
                      have c10b1 : (x4_1 != 3) = true := bne_iff_ne.mpr c10
                      (first | rw [c10b0] | (simp only [i64_w, i32_w]; rw [c10b0]) | rw [c10b1] | (simp only [i64_w, i32_w]; rw [c10b1]) | skip)
                      have H' := Aside0.mk H
                      clear H
                      go_wp2
                      go_meet
                      case rel => exact ⟨_, (x5_6), (by first | rfl | (simp; done) | (simp [*]; done)), H', ⟨by have := HK1.out; have := HJ1.out; have := HJ6.out; first | omega | exact Nat.le_refl _⟩, ⟨by repeat (first | (with_reducible first | exact HB.out | apply below_alloc | apply pw_below_drewN | apply below_drew1) | exact HB.out)⟩⟩
                  case rest =>
                    clear HC9
                    try clear c1
                    try clear p2
                    try clear c3
                    try clear c3b0
                    try clear c3b1
                    try clear c4
                    try clear c5
                    try clear c5b0
                    try clear c5b1
                    try clear p6
                    try clear q6
                    try clear hx6
                    try clear qi6
                    try clear c8
                    try clear c8b0
                    try clear c8b1
                    try clear c10
                    try clear c10b0
                    try clear c10b1
                    try clear p2
                    try clear p6
                    try clear q6
                    obtain ⟨kq, x5_8, rfl, HA, HJ8, HB⟩ := hcut
                    cases kq with
                    | zero => exact absurd HA.out (by simp [paronymref01_Next.j3])
                    | succ kj8 =>
                      have H := HA.out
                      clear HA
                      simp only [paronymref01_Next.j3] at H
                      have HC11 := Aside0.mk H
                      clear H
                      go_upto_if 29 with (fail)
                      go_cut [5] (fun v5 wc => ∃ (kq : Nat) (x5_10 : Int), v5 = .int .i64 x5_10 ∧ Aside0 (paronymref01_Next.j4 kq a0 x4_1 x5_10 = some (r1, r2)) ∧ Aside0 (kq ≤ kj8) ∧ Aside0 (Below w.heap.size w wc))
                      case first =>
                        have H := HC11.out
                        clear HC11
                        by_cases c12 : x4_1 = 4
                        · rw [if_pos c12] at H
                          have c12b0 : (x4_1 == 4) = true := beq_iff_eq.mpr c12
                          have c12b1 : (x4_1 != 4) = false := bne_eq_false_iff_eq.mpr c12
                          clear c12
                          (first | rw [c12b0] | (simp only [i64_w, i32_w]; rw [c12b0]) | rw [c12b1] | (simp only [i64_w, i32_w]; rw [c12b1]) | skip)
                          have H' := Aside0.mk H
                          clear H
                          go_wp2
                          go_meet
                          case rel => exact ⟨_, (Int.tmod x5_8 8), (by first | rfl | (simp; done) | (simp [*]; done)), H', ⟨by have := HK1.out; have := HJ1.out; have := HJ6.out; have := HJ8.out; first | omega | exact Nat.le_refl _⟩, ⟨by repeat (first | (with_reducible first | exact HB.out | apply below_alloc | apply pw_below_drewN | apply below_drew1) | exact HB.out)⟩⟩
                        · rw [if_neg c12] at H
                          have c12b0 : (x4_1 == 4) = false := beq_eq_false_iff_ne.mpr c12
                          have c12b1 : (x4_1 != 4) = true := bne_iff_ne.mpr c12
                          (first | rw [c12b0] | (simp only [i64_w, i32_w]; rw [c12b0]) | rw [c12b1] | (simp only [i64_w, i32_w]; rw [c12b1]) | skip)
                          have H' := Aside0.mk H
                          clear H
                          go_wp2
                          go_meet
                          case rel => exact ⟨_, (x5_8), (by first | rfl | (simp; done) | (simp [*]; done)), H', ⟨by have := HK1.out; have := HJ1.out; have := HJ6.out; have := HJ8.out; first | omega | exact Nat.le_refl _⟩, ⟨by repeat (first | (with_reducible first | exact HB.out | apply below_alloc | apply pw_below_drewN | apply below_drew1) | exact HB.out)⟩⟩
                      case rest =>
                        clear HC11
                        try clear c1
                        try clear p2
                        try clear c3
                        try clear c3b0
                        try clear c3b1
                        try clear c4
                        try clear c5
                        try clear c5b0
                        try clear c5b1
                        try clear p6
                        try clear q6
                        try clear hx6
                        try clear qi6
                        try clear c8
                        try clear c8b0
                        try clear c8b1
                        try clear c10
                        try clear c10b0
                        try clear c10b1
                        try clear c12
                        try clear c12b0
                        try clear c12b1
                        try clear p2
                        try clear p6
                        try clear q6
                        obtain ⟨kq, x5_10, rfl, HA, HJ10, HB⟩ := hcut
                        cases kq with
                        | zero => exact absurd HA.out (by simp [paronymref01_Next.j4])
                        | succ kj10 =>
                          have H := HA.out
                          clear HA
                          simp only [paronymref01_Next.j4] at H
                          have H' := Aside0.mk H
                          clear H
                          go_wp2
                          go_loopg [5, 6] kj10 (fun kq v5 v6 w' => ∃ (x5_6 : Int) (x6_6 : Int), v5 = .int .i64 x5_6 ∧ v6 = .int .i64 x6_6 ∧ Aside0 (paronymref01_Next.l1 kq a0 x4_1 x5_6 x6_6 = some (r1, r2)) ∧ Aside0 (kq ≤ kj10) ∧ Aside0 (Below w.heap.size w w'))
                          case atStart => exact ⟨(x5_10), (1), (by first | rfl | (simp; done) | (simp [*]; done)), (by first | rfl | (simp; done) | (simp [*]; done)), H', ⟨Nat.le_refl _⟩, ⟨by repeat (first | (with_reducible first | exact HB.out | apply below_alloc | apply pw_below_drewN | apply below_drew1) | exact HB.out)⟩⟩
                          case round =>
                            clear H'
                            try clear c1
                            try clear p2
                            try clear c3
                            try clear c3b0
                            try clear c3b1
                            try clear c4
                            try clear c5
                            try clear c5b0
                            try clear c5b1
                            try clear p6
                            try clear q6
                            try clear hx6
                            try clear qi6
                            try clear c8
                            try clear c8b0
                            try clear c8b1
                            try clear c10
                            try clear c10b0
                            try clear c10b1
                            try clear c12
                            try clear c12b0
                            try clear c12b1
                            try clear p2
                            try clear p6
                            try clear q6
                            obtain ⟨x5_6, x6_6, rfl, rfl, HA, HK6, HB⟩ := hrel
                            cases gk with
                            | zero => exact absurd HA.out (by simp [paronymref01_Next.l1])
                            | succ k6 =>
                              have H := HA.out
                              clear HA
                              simp only [paronymref01_Next.l1] at H
                              by_cases c13 : x6_6 < x4_1
                              · rw [if_pos c13] at H
                                have c13b0 : decide (x6_6 < x4_1) = true := decide_eq_true c13
                                clear c13
                                by_cases c14 : 0 ≤ x6_6
                                · rw [if_pos c14] at H
                                  have c14b0 : decide (0 ≤ x6_6) = true := decide_eq_true c14
                                  clear c14
                                  by_cases c15 : x6_6 < (a0.size : Int)
                                  · rw [if_pos c15] at H
                                    have c15b0 : decide (x6_6 < (a0.size : Int)) = true := decide_eq_true c15
                                    clear c15
                                    have H' := Aside0.mk H
                                    clear H
                                    have p16 : 0 ≤ (x6_6 : Int) := of_decide_eq_true (by first | (with_reducible assumption) | assumption)
                                    have q16 : x6_6 < (a0.size : Int) := of_decide_eq_true (by first | (with_reducible assumption) | assumption)
                                    have hx16 := bt_at a0 x6_6
                                    replace p16 := eq_true p16
                                    replace q16 := eq_true q16
                                    go_wp2
                                    go_roundg k6
                                    case measure => have := HK1.out; have := HJ1.out; have := HJ6.out; have := HJ8.out; have := HJ10.out; have := HK6.out; omega
                                    case rel => exact ⟨(wrap64 ((wrap64 (x5_6 * 64)) + (Int.tmod (wrap64 (bt a0 x6_6)) 64))), (wrap64 (x6_6 + 1)), (by first | rfl | (simp; done) | (simp [*]; done)), (by first | rfl | (simp; done) | (simp [*]; done)), H', ⟨by have := HK1.out; have := HJ1.out; have := HJ6.out; have := HJ8.out; have := HJ10.out; have := HK6.out; omega⟩, ⟨by repeat (first | (with_reducible first | exact HB.out | apply below_alloc | apply pw_below_drewN | apply below_drew1) | exact HB.out)⟩⟩
                                  · rw [if_neg c15] at H
                                    exact absurd H (by simp)
                                · rw [if_neg c14] at H
                                  exact absurd H (by simp)
                              · rw [if_neg c13] at H
                                have c13b0 : decide (x6_6 < x4_1) = false := decide_eq_false c13
                                clear c13
                                replace H := Option.bind_eq_some_iff.mp H
                                obtain ⟨t101, A170, H⟩ := H
                                replace H : (if t101 = true then ((paronymref01_Octets.f k6 x5_6).bind fun t102 => (if 0 ≤ x4_1 then (if x4_1 ≤ (a0.size : Int) then (if t102.toList = (a0.extract 0 (x4_1 : Int).toNat).toList then (some (x5_6, x4_1)) else (paronymref01_Next.l0 k6 a0 (wrap64 (x4_1 + 1)))) else (none)) else (none))) else (paronymref01_Next.l0 k6 a0 (wrap64 (x4_1 + 1)))) = some (r1, r2) := H
                                have A17 := Aside0.mk A170
                                clear A170
                                by_cases c18 : t101 = true
                                · subst c18
                                  have H1 : ((paronymref01_Octets.f k6 x5_6).bind fun t102 => (if 0 ≤ x4_1 then (if x4_1 ≤ (a0.size : Int) then (if t102.toList = (a0.extract 0 (x4_1 : Int).toNat).toList then (some (x5_6, x4_1)) else (paronymref01_Next.l0 k6 a0 (wrap64 (x4_1 + 1)))) else (none)) else (none))) = some (r1, r2) := by rw [if_pos rfl] at H; exact H
                                  clear H
                                  have H := H1
                                  clear H1
                                  replace H := Option.bind_eq_some_iff.mp H
                                  obtain ⟨t102, A190, H⟩ := H
                                  replace H : (if 0 ≤ x4_1 then (if x4_1 ≤ (a0.size : Int) then (if t102.toList = (a0.extract 0 (x4_1 : Int).toNat).toList then (some (x5_6, x4_1)) else (paronymref01_Next.l0 k6 a0 (wrap64 (x4_1 + 1)))) else (none)) else (none)) = some (r1, r2) := H
                                  have A19 := Aside0.mk A190
                                  clear A190
                                  by_cases c20 : 0 ≤ x4_1
                                  · rw [if_pos c20] at H
                                    have c20b0 := eq_true c20
                                    have c20b1 : decide (0 ≤ x4_1) = true := decide_eq_true c20
                                    clear c20
                                    by_cases c21 : x4_1 ≤ (a0.size : Int)
                                    · rw [if_pos c21] at H
                                      have c21b0 := eq_true c21
                                      have c21b1 : decide (x4_1 ≤ (a0.size : Int)) = true := decide_eq_true c21
                                      clear c21
                                      by_cases c22 : t102.toList = (a0.extract 0 (x4_1 : Int).toNat).toList
                                      · rw [if_pos c22] at H
                                        have c22b0 : (t102.toList == (a0.extract 0 (x4_1 : Int).toNat).toList) = true := beq_iff_eq.mpr c22
                                        have c22b1 : (t102.toList != (a0.extract 0 (x4_1 : Int).toNat).toList) = false := bne_eq_false_iff_eq.mpr c22
                                        clear c22
                                        simp only [Option.some.injEq, Prod.mk.injEq] at H
                                        obtain ⟨rfl, rfl⟩ := H
                                        try go_wp2
                                        have n0_ := Aside0.mk (below_drew1 HB.out)
                                        clear HB
                                        have HB := n0_
                                        clear n0_
                                        refine start_ (n := 10) (S := fun w' => True) (ds := []) #[false, false, false, false, false, false, false, false, false, false] (by kernel_rfl) rfl rfl trivial (fun hHeld => ?_); refine with_tabW paronymref01_Next.tab15 paronymref01_Next.bits15 (fun HT_ HW_ => ?_)
                                        generalize wr.drew = w23 at HB hHeld ⊢
                                        refine pure_ (i := 0) (N := some 45) (v := ?_) (a' := ?_) #[true, false, false, false, false, false, false, false, false, false] rfl rfl (any_of HT_.out (by kernel_rfl)) (fun _ _ _ h => h) (Or.inl ⟨by rfl, ?_⟩) ?_ ?_
                                        rotate_left
                                        · intro w'
                                          go_simp
                                          with_reducible rfl
                                        rotate_left
                                        · simp only [Act.put, List.setIfInBounds_toArray, List.set_cons_zero, List.set_cons_succ, i64_w, i32_w]
                                          rfl
                                        refine one_ (i := 1) (N := some 46) #[true, true, false, false, false, false, false, false, false, false] rfl rfl (one_of HT_.out (by kernel_rfl)) (by decide) (fun K hK => ?_)
                                        refine goes_ Try.func40 (by kernel_rfl) rfl #[.int .i64 x5_6] (by rfl) rfl rfl (by (try simp only [List.map_toArray, List.map_cons, List.map_nil]); first | done | rfl | (simp only [List.length_drop, List.length_take]; rfl)) ?_
                                        with_reducible refine (paronymref01_Scalar.calls x5_6 true _ A17.out).mono ?_
                                        rintro e w' ⟨rfl, ⟨nd, rfl⟩⟩
                                        refine ⟨_, rfl, ?_⟩
                                        refine hK.out _ _ trivial (fun hHeld => ?_)
                                        clear hK K
                                        refine norm_ (a' := ?_) ?_ ?_
                                        rotate_left
                                        · show Act.put _ (some 46) _ = _
                                          simp only [Act.put, List.setIfInBounds_toArray, List.set_cons_zero, List.set_cons_succ, i64_w, i32_w]
                                          rfl
                                        refine pure_ (i := 2) (N := some 47) (v := ?_) (a' := ?_) #[true, true, true, false, false, false, false, false, false, false] rfl rfl (any_of HT_.out (by kernel_rfl)) (fun _ _ _ h => h) (Or.inl ⟨by rfl, ?_⟩) ?_ ?_
                                        rotate_left
                                        · intro w'
                                          go_simp
                                          with_reducible rfl
                                        rotate_left
                                        · simp only [Act.put, List.setIfInBounds_toArray, List.set_cons_zero, List.set_cons_succ, i64_w, i32_w]
                                          rfl
                                        refine pure_ (i := 3) (N := some 48) (v := ?_) (a' := ?_) #[true, true, true, true, false, false, false, false, false, false] rfl rfl (any_of HT_.out (by kernel_rfl)) (fun _ _ _ h => h) (Or.inl ⟨by rfl, ?_⟩) ?_ ?_
                                        rotate_left
                                        · intro w'
                                          go_simp
                                          with_reducible rfl
                                        rotate_left
                                        · simp only [Act.put, List.setIfInBounds_toArray, List.set_cons_zero, List.set_cons_succ, i64_w, i32_w]
                                          rfl
                                        refine pure_ (i := 5) (N := some 50) (v := ?_) (a' := ?_) #[true, true, true, true, false, true, false, false, false, false] rfl rfl (any_of HT_.out (by kernel_rfl)) (fun _ _ _ h => h) (Or.inl ⟨by rfl, ?_⟩) ?_ ?_
                                        rotate_left
                                        · intro w'
                                          go_simp
                                          with_reducible rfl
                                        rotate_left
                                        · simp only [Act.put, List.setIfInBounds_toArray, List.set_cons_zero, List.set_cons_succ, i64_w, i32_w]
                                          rfl
                                        refine pure_ (i := 6) (N := some 51) (v := ?_) (a' := ?_) #[true, true, true, true, false, true, true, false, false, false] rfl rfl (any_of HT_.out (by kernel_rfl)) (fun _ _ _ h => h) (Or.inl ⟨by rfl, ?_⟩) ?_ ?_
                                        rotate_left
                                        · intro w'
                                          go_simp
                                          with_reducible rfl
                                        rotate_left
                                        · simp only [Act.put, List.setIfInBounds_toArray, List.set_cons_zero, List.set_cons_succ, i64_w, i32_w]
                                          rfl
                                        refine pure_ (i := 7) (N := some 52) (v := ?_) (a' := ?_) #[true, true, true, true, false, true, true, true, false, false] rfl rfl (any_of HT_.out (by kernel_rfl)) (fun _ _ _ h => h) (Or.inl ⟨by rfl, ?_⟩) ?_ ?_
                                        rotate_left
                                        · intro w'
                                          go_simp
                                          with_reducible rfl
                                        rotate_left
                                        · simp only [Act.put, List.setIfInBounds_toArray, List.set_cons_zero, List.set_cons_succ, i64_w, i32_w]
                                          rfl
                                        refine one_ (i := 4) (N := some 49) #[true, true, true, true, true, true, true, true, false, false] rfl rfl (one_of HT_.out (by kernel_rfl)) (by decide) (fun K hK => ?_)
                                        refine goes_ Try.func34 (by kernel_rfl) rfl #[.int .i64 x5_6] (by rfl) rfl rfl (by (try simp only [List.map_toArray, List.map_cons, List.map_nil]); first | done | rfl | (simp only [List.length_drop, List.length_take]; rfl)) ?_
                                        with_reducible refine (paronymref01_Octets.calls k6 x5_6 t102 _ A19.out).mono ?_
                                        rintro e w24 ⟨rfl, hb⟩
                                        refine ⟨_, rfl, ?_⟩
                                        have n0_ := Aside0.mk (below_step (by repeat (first | (with_reducible first | exact HB.out | apply below_alloc | apply pw_below_drewN | apply below_drew1) | exact HB.out)) hb)
                                        clear HB
                                        have HB := n0_
                                        clear n0_
                                        (try clear hb)
                                        (try clear hb2)
                                        (try clear hk)
                                        (try clear hi)
                                        refine hK.out _ _ trivial (fun hHeld => ?_)
                                        clear hK K
                                        refine norm_ (a' := ?_) ?_ ?_
                                        rotate_left
                                        · show Act.put _ (some 49) _ = _
                                          simp only [Act.put, List.setIfInBounds_toArray, List.set_cons_zero, List.set_cons_succ, i64_w, i32_w]
                                          rfl
                                        refine pure_ (i := 8) (N := some 53) (v := ?_) (a' := ?_) #[true, true, true, true, true, true, true, true, true, false] rfl rfl (any_of HT_.out (by kernel_rfl)) (fun _ _ _ h => h) (Or.inl ⟨by rfl, ?_⟩) ?_ ?_
                                        rotate_left
                                        · intro w'
                                          go_simp
                                          with_reducible rfl
                                        rotate_left
                                        · simp only [Act.put, List.setIfInBounds_toArray, List.set_cons_zero, List.set_cons_succ, i64_w, i32_w]
                                          rfl
                                        refine pure_ (i := 9) (N := some 54) (v := ?_) (a' := ?_) #[true, true, true, true, true, true, true, true, true, true] rfl rfl (any_of HT_.out (by kernel_rfl)) (fun _ _ _ h => h) (Or.inl ⟨by rfl, ?_⟩) ?_ ?_
                                        rotate_left
                                        · intro w'
                                          go_simp
                                          with_reducible rfl
                                        rotate_left
                                        · simp only [Act.put, List.setIfInBounds_toArray, List.set_cons_zero, List.set_cons_succ, i64_w, i32_w]
                                          rfl
                                        refine done_ (done_of HT_.out (by kernel_rfl)) ?_
                                        try go_wp2
                                        go_ret2
                                        exact ⟨by first | rfl | (simp [errW_none, errW_some] <;> rfl) | (simp [*, errW_none, errW_some] <;> rfl), by repeat (first | (with_reducible first | exact HB.out | apply below_alloc | apply pw_below_drewN | apply below_drew1) | exact HB.out)⟩
                                      · rw [if_neg c22] at H
                                        have c22b0 : (t102.toList == (a0.extract 0 (x4_1 : Int).toNat).toList) = false := beq_eq_false_iff_ne.mpr c22
                                        have c22b1 : (t102.toList != (a0.extract 0 (x4_1 : Int).toNat).toList) = true := bne_iff_ne.mpr c22
                                        have H' := Aside0.mk H
                                        clear H
                                        try go_wp2
                                        have n0_ := Aside0.mk (below_drew1 HB.out)
                                        clear HB
                                        have HB := n0_
                                        clear n0_
                                        refine start_ (n := 10) (S := fun w' => True) (ds := []) #[false, false, false, false, false, false, false, false, false, false] (by kernel_rfl) rfl rfl trivial (fun hHeld => ?_); refine with_tabW paronymref01_Next.tab15 paronymref01_Next.bits15 (fun HT_ HW_ => ?_)
                                        generalize wr.drew = w25 at HB hHeld ⊢
                                        refine pure_ (i := 0) (N := some 45) (v := ?_) (a' := ?_) #[true, false, false, false, false, false, false, false, false, false] rfl rfl (any_of HT_.out (by kernel_rfl)) (fun _ _ _ h => h) (Or.inl ⟨by rfl, ?_⟩) ?_ ?_
                                        rotate_left
                                        · intro w'
                                          go_simp
                                          with_reducible rfl
                                        rotate_left
                                        · simp only [Act.put, List.setIfInBounds_toArray, List.set_cons_zero, List.set_cons_succ, i64_w, i32_w]
                                          rfl
                                        refine one_ (i := 1) (N := some 46) #[true, true, false, false, false, false, false, false, false, false] rfl rfl (one_of HT_.out (by kernel_rfl)) (by decide) (fun K hK => ?_)
                                        refine goes_ Try.func40 (by kernel_rfl) rfl #[.int .i64 x5_6] (by rfl) rfl rfl (by (try simp only [List.map_toArray, List.map_cons, List.map_nil]); first | done | rfl | (simp only [List.length_drop, List.length_take]; rfl)) ?_
                                        with_reducible refine (paronymref01_Scalar.calls x5_6 true _ A17.out).mono ?_
                                        rintro e w' ⟨rfl, ⟨nd, rfl⟩⟩
                                        refine ⟨_, rfl, ?_⟩
                                        refine hK.out _ _ trivial (fun hHeld => ?_)
                                        clear hK K
                                        refine norm_ (a' := ?_) ?_ ?_
                                        rotate_left
                                        · show Act.put _ (some 46) _ = _
                                          simp only [Act.put, List.setIfInBounds_toArray, List.set_cons_zero, List.set_cons_succ, i64_w, i32_w]
                                          rfl
                                        refine pure_ (i := 2) (N := some 47) (v := ?_) (a' := ?_) #[true, true, true, false, false, false, false, false, false, false] rfl rfl (any_of HT_.out (by kernel_rfl)) (fun _ _ _ h => h) (Or.inl ⟨by rfl, ?_⟩) ?_ ?_
                                        rotate_left
                                        · intro w'
                                          go_simp
                                          with_reducible rfl
                                        rotate_left
                                        · simp only [Act.put, List.setIfInBounds_toArray, List.set_cons_zero, List.set_cons_succ, i64_w, i32_w]
                                          rfl
                                        refine pure_ (i := 3) (N := some 48) (v := ?_) (a' := ?_) #[true, true, true, true, false, false, false, false, false, false] rfl rfl (any_of HT_.out (by kernel_rfl)) (fun _ _ _ h => h) (Or.inl ⟨by rfl, ?_⟩) ?_ ?_
                                        rotate_left
                                        · intro w'
                                          go_simp
                                          with_reducible rfl
                                        rotate_left
                                        · simp only [Act.put, List.setIfInBounds_toArray, List.set_cons_zero, List.set_cons_succ, i64_w, i32_w]
                                          rfl
                                        refine pure_ (i := 5) (N := some 50) (v := ?_) (a' := ?_) #[true, true, true, true, false, true, false, false, false, false] rfl rfl (any_of HT_.out (by kernel_rfl)) (fun _ _ _ h => h) (Or.inl ⟨by rfl, ?_⟩) ?_ ?_
                                        rotate_left
                                        · intro w'
                                          go_simp
                                          with_reducible rfl
                                        rotate_left
                                        · simp only [Act.put, List.setIfInBounds_toArray, List.set_cons_zero, List.set_cons_succ, i64_w, i32_w]
                                          rfl
                                        refine pure_ (i := 6) (N := some 51) (v := ?_) (a' := ?_) #[true, true, true, true, false, true, true, false, false, false] rfl rfl (any_of HT_.out (by kernel_rfl)) (fun _ _ _ h => h) (Or.inl ⟨by rfl, ?_⟩) ?_ ?_
                                        rotate_left
                                        · intro w'
                                          go_simp
                                          with_reducible rfl
                                        rotate_left
                                        · simp only [Act.put, List.setIfInBounds_toArray, List.set_cons_zero, List.set_cons_succ, i64_w, i32_w]
                                          rfl
                                        refine pure_ (i := 7) (N := some 52) (v := ?_) (a' := ?_) #[true, true, true, true, false, true, true, true, false, false] rfl rfl (any_of HT_.out (by kernel_rfl)) (fun _ _ _ h => h) (Or.inl ⟨by rfl, ?_⟩) ?_ ?_
                                        rotate_left
                                        · intro w'
                                          go_simp
                                          with_reducible rfl
                                        rotate_left
                                        · simp only [Act.put, List.setIfInBounds_toArray, List.set_cons_zero, List.set_cons_succ, i64_w, i32_w]
                                          rfl
                                        refine one_ (i := 4) (N := some 49) #[true, true, true, true, true, true, true, true, false, false] rfl rfl (one_of HT_.out (by kernel_rfl)) (by decide) (fun K hK => ?_)
                                        refine goes_ Try.func34 (by kernel_rfl) rfl #[.int .i64 x5_6] (by rfl) rfl rfl (by (try simp only [List.map_toArray, List.map_cons, List.map_nil]); first | done | rfl | (simp only [List.length_drop, List.length_take]; rfl)) ?_
                                        with_reducible refine (paronymref01_Octets.calls k6 x5_6 t102 _ A19.out).mono ?_
                                        rintro e w26 ⟨rfl, hb⟩
                                        refine ⟨_, rfl, ?_⟩
                                        have n0_ := Aside0.mk (below_step (by repeat (first | (with_reducible first | exact HB.out | apply below_alloc | apply pw_below_drewN | apply below_drew1) | exact HB.out)) hb)
                                        clear HB
                                        have HB := n0_
                                        clear n0_
                                        (try clear hb)
                                        (try clear hb2)
                                        (try clear hk)
                                        (try clear hi)
                                        refine hK.out _ _ trivial (fun hHeld => ?_)
                                        clear hK K
                                        refine norm_ (a' := ?_) ?_ ?_
                                        rotate_left
                                        · show Act.put _ (some 49) _ = _
                                          simp only [Act.put, List.setIfInBounds_toArray, List.set_cons_zero, List.set_cons_succ, i64_w, i32_w]
                                          rfl
                                        refine pure_ (i := 8) (N := some 53) (v := ?_) (a' := ?_) #[true, true, true, true, true, true, true, true, true, false] rfl rfl (any_of HT_.out (by kernel_rfl)) (fun _ _ _ h => h) (Or.inl ⟨by rfl, ?_⟩) ?_ ?_
                                        rotate_left
                                        · intro w'
                                          go_simp
                                          with_reducible rfl
                                        rotate_left
                                        · simp only [Act.put, List.setIfInBounds_toArray, List.set_cons_zero, List.set_cons_succ, i64_w, i32_w]
                                          rfl
                                        refine pure_ (i := 9) (N := some 54) (v := ?_) (a' := ?_) #[true, true, true, true, true, true, true, true, true, true] rfl rfl (any_of HT_.out (by kernel_rfl)) (fun _ _ _ h => h) (Or.inl ⟨by rfl, ?_⟩) ?_ ?_
                                        rotate_left
                                        · intro w'
                                          go_simp
                                          with_reducible rfl
                                        rotate_left
                                        · simp only [Act.put, List.setIfInBounds_toArray, List.set_cons_zero, List.set_cons_succ, i64_w, i32_w]
                                          rfl
                                        refine done_ (done_of HT_.out (by kernel_rfl)) ?_
                                        try go_wp2
                                        go_roundg k6
                                        case measure => have := HK1.out; have := HJ1.out; have := HJ6.out; have := HJ8.out; have := HJ10.out; have := HK6.out; omega
                                        case rel => exact ⟨(wrap64 (x4_1 + 1)), (by first | rfl | (simp; done) | (simp [*]; done)), H', ⟨by have := HK1.out; have := HJ1.out; have := HJ6.out; have := HJ8.out; have := HJ10.out; have := HK6.out; omega⟩, ⟨by repeat (first | (with_reducible first | exact HB.out | apply below_alloc | apply pw_below_drewN | apply below_drew1) | exact HB.out)⟩⟩
                                    · rw [if_neg c21] at H
                                      exact absurd H (by simp)
                                  · rw [if_neg c20] at H
                                    exact absurd H (by simp)
                                · replace c18 := Bool.eq_false_iff.mpr c18
                                  subst c18
                                  have H1 : (paronymref01_Next.l0 k6 a0 (wrap64 (x4_1 + 1))) = some (r1, r2) := by rw [if_neg (show ¬ (false = true) by decide)] at H; exact H
                                  clear H
                                  have H := H1
                                  clear H1
                                  have H' := Aside0.mk H
                                  clear H
                                  try go_wp2
                                  have n0_ := Aside0.mk (below_drew1 HB.out)
                                  clear HB
                                  have HB := n0_
                                  clear n0_
                                  refine start_ (n := 10) (S := fun w' => True) (ds := []) #[false, false, false, false, false, false, false, false, false, false] (by kernel_rfl) rfl rfl trivial (fun hHeld => ?_); refine with_tabW paronymref01_Next.tab15 paronymref01_Next.bits15 (fun HT_ HW_ => ?_)
                                  generalize wr.drew = w27 at HB hHeld ⊢
                                  refine pure_ (i := 0) (N := some 45) (v := ?_) (a' := ?_) #[true, false, false, false, false, false, false, false, false, false] rfl rfl (any_of HT_.out (by kernel_rfl)) (fun _ _ _ h => h) (Or.inl ⟨by rfl, ?_⟩) ?_ ?_
                                  rotate_left
                                  · intro w'
                                    go_simp
                                    with_reducible rfl
                                  rotate_left
                                  · simp only [Act.put, List.setIfInBounds_toArray, List.set_cons_zero, List.set_cons_succ, i64_w, i32_w]
                                    rfl
                                  refine one_ (i := 1) (N := some 46) #[true, true, false, false, false, false, false, false, false, false] rfl rfl (one_of HT_.out (by kernel_rfl)) (by decide) (fun K hK => ?_)
                                  refine goes_ Try.func40 (by kernel_rfl) rfl #[.int .i64 x5_6] (by rfl) rfl rfl (by (try simp only [List.map_toArray, List.map_cons, List.map_nil]); first | done | rfl | (simp only [List.length_drop, List.length_take]; rfl)) ?_
                                  with_reducible refine (paronymref01_Scalar.calls x5_6 false _ A17.out).mono ?_
                                  rintro e w' ⟨rfl, ⟨nd, rfl⟩⟩
                                  refine ⟨_, rfl, ?_⟩
                                  refine hK.out _ _ trivial (fun hHeld => ?_)
                                  clear hK K
                                  refine norm_ (a' := ?_) ?_ ?_
                                  rotate_left
                                  · show Act.put _ (some 46) _ = _
                                    simp only [Act.put, List.setIfInBounds_toArray, List.set_cons_zero, List.set_cons_succ, i64_w, i32_w]
                                    rfl
                                  refine pure_ (i := 2) (N := some 47) (v := ?_) (a' := ?_) #[true, true, true, false, false, false, false, false, false, false] rfl rfl (any_of HT_.out (by kernel_rfl)) (fun _ _ _ h => h) (Or.inl ⟨by rfl, ?_⟩) ?_ ?_
                                  rotate_left
                                  · intro w'
                                    go_simp
                                    with_reducible rfl
                                  rotate_left
                                  · simp only [Act.put, List.setIfInBounds_toArray, List.set_cons_zero, List.set_cons_succ, i64_w, i32_w]
                                    rfl
                                  refine pure_ (i := 3) (N := some 48) (v := undef) (a' := ?_) #[true, true, true, true, false, false, false, false, false, false] rfl rfl (any_of HT_.out (by kernel_rfl)) (fun _ _ _ h => h) (Or.inr ⟨by rfl, rfl⟩) ?_ ?_
                                  rotate_left
                                  · simp only [Act.put, List.setIfInBounds_toArray, List.set_cons_zero, List.set_cons_succ, i64_w, i32_w]
                                    rfl
                                  refine pure_ (i := 4) (N := some 49) (v := undef) (a' := ?_) #[true, true, true, true, true, false, false, false, false, false] rfl rfl (any_of HT_.out (by kernel_rfl)) (fun _ _ _ h => h) (Or.inr ⟨by rfl, rfl⟩) ?_ ?_
                                  rotate_left
                                  · simp only [Act.put, List.setIfInBounds_toArray, List.set_cons_zero, List.set_cons_succ, i64_w, i32_w]
                                    rfl
                                  refine pure_ (i := 5) (N := some 50) (v := undef) (a' := ?_) #[true, true, true, true, true, true, false, false, false, false] rfl rfl (any_of HT_.out (by kernel_rfl)) (fun _ _ _ h => h) (Or.inr ⟨by rfl, rfl⟩) ?_ ?_
                                  rotate_left
                                  · simp only [Act.put, List.setIfInBounds_toArray, List.set_cons_zero, List.set_cons_succ, i64_w, i32_w]
                                    rfl
                                  refine pure_ (i := 6) (N := some 51) (v := undef) (a' := ?_) #[true, true, true, true, true, true, true, false, false, false] rfl rfl (any_of HT_.out (by kernel_rfl)) (fun _ _ _ h => h) (Or.inr ⟨by rfl, rfl⟩) ?_ ?_
                                  rotate_left
                                  · simp only [Act.put, List.setIfInBounds_toArray, List.set_cons_zero, List.set_cons_succ, i64_w, i32_w]
                                    rfl
                                  refine pure_ (i := 7) (N := some 52) (v := undef) (a' := ?_) #[true, true, true, true, true, true, true, true, false, false] rfl rfl (any_of HT_.out (by kernel_rfl)) (fun _ _ _ h => h) (Or.inr ⟨by rfl, rfl⟩) ?_ ?_
                                  rotate_left
                                  · simp only [Act.put, List.setIfInBounds_toArray, List.set_cons_zero, List.set_cons_succ, i64_w, i32_w]
                                    rfl
                                  refine pure_ (i := 8) (N := some 53) (v := undef) (a' := ?_) #[true, true, true, true, true, true, true, true, true, false] rfl rfl (any_of HT_.out (by kernel_rfl)) (fun _ _ _ h => h) (Or.inr ⟨by rfl, rfl⟩) ?_ ?_
                                  rotate_left
                                  · simp only [Act.put, List.setIfInBounds_toArray, List.set_cons_zero, List.set_cons_succ, i64_w, i32_w]
                                    rfl
                                  refine pure_ (i := 9) (N := some 54) (v := ?_) (a' := ?_) #[true, true, true, true, true, true, true, true, true, true] rfl rfl (any_of HT_.out (by kernel_rfl)) (fun _ _ _ h => h) (Or.inl ⟨by rfl, ?_⟩) ?_ ?_
                                  rotate_left
                                  · intro w'
                                    go_simp
                                    with_reducible rfl
                                  rotate_left
                                  · simp only [Act.put, List.setIfInBounds_toArray, List.set_cons_zero, List.set_cons_succ, i64_w, i32_w]
                                    rfl
                                  refine done_ (done_of HT_.out (by kernel_rfl)) ?_
                                  try go_wp2
                                  go_roundg k6
                                  case measure => have := HK1.out; have := HJ1.out; have := HJ6.out; have := HJ8.out; have := HJ10.out; have := HK6.out; omega
                                  case rel => exact ⟨(wrap64 (x4_1 + 1)), (by first | rfl | (simp; done) | (simp [*]; done)), H', ⟨by have := HK1.out; have := HJ1.out; have := HJ6.out; have := HJ8.out; have := HJ10.out; have := HK6.out; omega⟩, ⟨by repeat (first | (with_reducible first | exact HB.out | apply below_alloc | apply pw_below_drewN | apply below_drew1) | exact HB.out)⟩⟩
            · rw [if_neg c5] at H
              exact absurd H (by simp)
          · replace c4 := Bool.eq_false_iff.mpr c4
            subst c4
            have H1 : (some (0, 0)) = some (r1, r2) := by rw [if_neg (show ¬ (false = true) by decide)] at H; exact H
            clear H
            have H := H1
            clear H1
            simp only [Option.some.injEq, Prod.mk.injEq] at H
            obtain ⟨rfl, rfl⟩ := H
            go_wp2
            go_ret2
            exact ⟨by first | rfl | (simp [errW_none, errW_some] <;> rfl) | (simp [*, errW_none, errW_some] <;> rfl), by repeat (first | (with_reducible first | exact HB.out | apply below_alloc | apply pw_below_drewN | apply below_drew1) | exact HB.out)⟩

end Go.Proofs.Ytooiajkbpkfplaa.Q

-- from Putf
/- UTF-8 on lists of numbers: oct c are a scalar's octets; what the program's and the reference's Octets, Encode, next come to. -/
namespace Go.Proofs.Ytooiajkbpkfplaa.K
set_option linter.unusedVariables false
set_option linter.unusedSimpArgs false
open Go.RowKit Go.Proofs.YtooiajkbpkfplaaW.PrintWords Go.Proofs.YtooiajkbpkfplaaW.PrintMore Go.Proofs.Ytooiajkbpkfplaa.Q

theorem wraps_i64 (n : Int) (h₀ : 0 ≤ n) (h₁ : n < 2 ^ 40) : IntKind.i64.wrap n = n := by rw [IntKind.wrap_i64]; omega
theorem and63 {x : Int} (h0 : 0 ≤ x) (h1 : x < 1099511627776) : Go.bits .and .i64 x 63 = x % 64 := bits_mask .i64 40 (by decide) wraps_i64 6 (by decide) x h0 h1
theorem or_join {x y : Int} (i : Nat) (hx0 : 0 ≤ x) (hx : x % 2 ^ i = 0) (hx1 : x < 1099511627776) (hy0 : 0 ≤ y) (hy : y < 2 ^ i) (hy1 : y < 1099511627776) : Go.bits .or .i64 x y = x + y := bits_join .i64 40 (by decide) wraps_i64 i x y hx0 hx hx1 hy0 hy hy1
theorem or128 {y : Int} (h0 : 0 ≤ y) (h1 : y < 64) : Go.bits .or .i64 128 y = 128 + y := or_join 6 (by decide) (by decide) (by decide) h0 h1 (by omega)
theorem or192 {y : Int} (h0 : 0 ≤ y) (h1 : y < 32) : Go.bits .or .i64 192 y = 192 + y := or_join 5 (by decide) (by decide) (by decide) h0 h1 (by omega)
theorem or224 {y : Int} (h0 : 0 ≤ y) (h1 : y < 16) : Go.bits .or .i64 224 y = 224 + y := or_join 4 (by decide) (by decide) (by decide) h0 h1 (by omega)
theorem or240 {y : Int} (h0 : 0 ≤ y) (h1 : y < 8) : Go.bits .or .i64 240 y = 240 + y := or_join 3 (by decide) (by decide) (by decide) h0 h1 (by omega)
def oct (c : Int) : List Int :=
  if c < 128 then [c] else if c < 2048 then [192 + c / 64, 128 + c % 64] else if c < 65536 then [224 + c / 4096, 128 + c / 64 % 64, 128 + c % 64] else [240 + c / 262144, 128 + c / 4096 % 64, 128 + c / 64 % 64, 128 + c % 64]
theorem scalar_iff (c : Int) : scalar c = true ↔ 0 ≤ c ∧ c ≤ 1114111 ∧ (c < 55296 ∨ 57343 < c) := by
  unfold scalar
  simp [Bool.and_eq_true, Bool.or_eq_true]
theorem oct_is {c : Int} (h0 : 0 ≤ c) (h1 : c ≤ 1114111) : utf_octets.f c = some (oct c) := by
  unfold utf_octets.f oct
  by_cases a : c < 128
  · rw [if_pos a, if_pos a]
    have : c % 256 = c := by omega
    rw [this]
  · rw [if_neg a, if_neg a]
    by_cases b : c < 2048
    · rw [if_pos b, if_pos b, and63 (by omega) (by omega), or192 (by omega) (by omega), or128 (by omega) (by omega)]
      have e1 : (192 + c / 64) % 256 = 192 + c / 64 := by omega
      have e2 : (128 + c % 64) % 256 = 128 + c % 64 := by omega
      rw [e1, e2]
    · rw [if_neg b, if_neg b]
      by_cases d : c < 65536
      · rw [if_pos d, if_pos d, and63 (by omega) (by omega), and63 (by omega) (by omega), or224 (by omega) (by omega), or128 (by omega) (by omega), or128 (by omega) (by omega)]
        have e1 : (224 + c / 4096) % 256 = 224 + c / 4096 := by omega
        have e2 : (128 + c / 64 % 64) % 256 = 128 + c / 64 % 64 := by omega
        have e3 : (128 + c % 64) % 256 = 128 + c % 64 := by omega
        rw [e1, e2, e3]
      · rw [if_neg d, if_neg d, and63 (by omega) (by omega), and63 (by omega) (by omega), and63 (by omega) (by omega), or240 (by omega) (by omega), or128 (by omega) (by omega), or128 (by omega) (by omega), or128 (by omega) (by omega)]
        have e1 : (240 + c / 262144) % 256 = 240 + c / 262144 := by omega
        have e2 : (128 + c / 4096 % 64) % 256 = 128 + c / 4096 % 64 := by omega
        have e3 : (128 + c / 64 % 64) % 256 = 128 + c / 64 % 64 := by omega
        have e4 : (128 + c % 64) % 256 = 128 + c % 64 := by omega
        rw [e1, e2, e3, e4]
theorem oct_oct {c : Int} (h0 : 0 ≤ c) (h1 : c ≤ 1114111) : Oct (oct c) := by
  intro x hx
  unfold oct at hx
  split at hx
  · simp at hx; omega
  · split at hx
    · simp at hx; omega
    · split at hx
      · simp at hx; omega
      · simp at hx; omega
theorem oct_len {c : Int} (h0 : 0 ≤ c) (h1 : c ≤ 1114111) : 1 ≤ (oct c).length ∧ (oct c).length ≤ 4 := by
  unfold oct
  split
  · simp
  · split
    · simp
    · split <;> simp

/-! the reference's Octets -/
theorem refOctets_ev {c : Int} (h0 : 0 ≤ c) (h1 : c ≤ 1114111) : Ev (fun k => paronymref01_Octets.f k c) (strOfNums (oct c)) := by
  unfold paronymref01_Octets.f oct
  have nil : (⟨#[]⟩ : ByteArray) = strOfNums [] := rfl
  have td : ∀ x : Int, 0 ≤ x → Int.tdiv x 64 = x / 64 := fun x hx => Int.tdiv_eq_ediv_of_nonneg hx
  have tm : ∀ x : Int, 0 ≤ x → Int.tmod x 64 = x % 64 := fun x hx => Int.tmod_eq_emod_of_nonneg hx
  have t2 : ∀ x : Int, 0 ≤ x → Int.tdiv x 2 = x / 2 := fun x hx => Int.tdiv_eq_ediv_of_nonneg hx
  by_cases a : c < 128
  · refine Ev.pos a (Ev.ret ?_)
    rw [if_pos a]
    have : c % 256 = c := by omega
    rw [this]
  · refine Ev.neg a ?_
    rw [if_neg a, nil]
    have e0 : wrap64 (128 + Int.tmod c 64) % 256 = 128 + c % 64 := by rw [tm c h0, w64 (by omega) (by omega)]; omega
    have d0 : wrap64 (Int.tdiv c 64) = c / 64 := by rw [td c h0, w64 (by omega) (by omega)]
    refine Ev.step (fun k => rfl) (Ev.pos (by omega) (Ev.bindS rfl (Ev.pos (by simp [size_str]) (Ev.pos rfl ?_))))
    rw [e0, d0, str_append]
    by_cases b : c < 2048
    · rw [if_pos b]
      refine Ev.step (fun k => rfl) (Ev.neg (by omega) (Ev.bindS rfl (Ev.pos (by simp [size_str]) (Ev.ret ?_))))
      have : wrap64 (192 + c / 64) % 256 = 192 + c / 64 := by rw [w64 (by omega) (by omega)]; omega
      rw [this, str_append]; rfl
    · rw [if_neg b]
      have e1 : wrap64 (128 + Int.tmod (c / 64) 64) % 256 = 128 + c / 64 % 64 := by rw [tm _ (by omega), w64 (by omega) (by omega)]; omega
      have d1 : wrap64 (Int.tdiv (c / 64) 64) = c / 4096 := by rw [td _ (by omega), w64 (by omega) (by omega)]; omega
      have l1 : wrap64 (Int.tdiv 32 2) = 16 := by decide +kernel
      have f1 : wrap64 (192 + 32) = 224 := by decide +kernel
      refine Ev.step (fun k => rfl) (Ev.pos (by omega) (Ev.bindS rfl (Ev.pos (by simp [size_str]) (Ev.neg (by decide) ?_))))
      rw [e1, d1, l1, f1, str_append]
      by_cases d : c < 65536
      · rw [if_pos d]
        refine Ev.step (fun k => rfl) (Ev.neg (by omega) (Ev.bindS rfl (Ev.pos (by simp [size_str]) (Ev.ret ?_))))
        have : wrap64 (224 + c / 4096) % 256 = 224 + c / 4096 := by rw [w64 (by omega) (by omega)]; omega
        rw [this, str_append]; rfl
      · rw [if_neg d]
        have e2 : wrap64 (128 + Int.tmod (c / 4096) 64) % 256 = 128 + c / 4096 % 64 := by rw [tm _ (by omega), w64 (by omega) (by omega)]; omega
        have d2 : wrap64 (Int.tdiv (c / 4096) 64) = c / 262144 := by rw [td _ (by omega), w64 (by omega) (by omega)]; omega
        have l2 : wrap64 (Int.tdiv 16 2) = 8 := by decide +kernel
        have f2 : wrap64 (224 + 16) = 240 := by decide +kernel
        refine Ev.step (fun k => rfl) (Ev.pos (by omega) (Ev.bindS rfl (Ev.pos (by simp [size_str]) (Ev.neg (by decide) ?_))))
        rw [e2, d2, l2, f2, str_append]
        refine Ev.step (fun k => rfl) (Ev.neg (by omega) (Ev.bindS rfl (Ev.pos (by simp [size_str]) (Ev.ret ?_))))
        have : wrap64 (240 + c / 262144) % 256 = 240 + c / 262144 := by rw [w64 (by omega) (by omega)]; omega
        rw [this, str_append]; rfl

/-! Encode -/
def enc (s : List Int) : List Int := (s.map oct).flatten
theorem enc_snoc (s : List Int) (c : Int) : enc (s ++ [c]) = enc s ++ oct c := by simp [enc]
theorem enc_append (s t : List Int) : enc (s ++ t) = enc s ++ enc t := by simp [enc]
theorem enc_cons (c : Int) (s : List Int) : enc (c :: s) = oct c ++ enc s := by simp [enc]
theorem enc_oct : ∀ {s : List Int}, s.all scalar = true → Oct (enc s)
  | [], _ => by intro x hx; simp [enc] at hx
  | c :: s, h => by
    rw [List.all_cons, Bool.and_eq_true] at h
    have hc := (scalar_iff c).1 h.1
    rw [enc_cons]
    exact (oct_oct hc.1 hc.2.1).append (enc_oct h.2)
theorem enc_len : ∀ {s : List Int}, s.all scalar = true → s.length ≤ (enc s).length ∧ (enc s).length ≤ 4 * s.length
  | [], _ => by simp [enc]
  | c :: s, h => by
    rw [List.all_cons, Bool.and_eq_true] at h
    have hc := (scalar_iff c).1 h.1
    have hl := oct_len hc.1 hc.2.1
    have ih := enc_len h.2
    rw [enc_cons, List.length_append, List.length_cons]
    omega
theorem take_all {s : List Int} (h : s.all scalar = true) (i : Nat) : (s.take i).all scalar = true := by
  rw [List.all_eq_true] at h ⊢
  exact fun x hx => h x (List.mem_of_mem_take hx)
theorem all_drop {s : List Int} (i : Nat) (hi : i < s.length) : (s.drop i).all scalar = (scalar (rd s i) && (s.drop (i + 1)).all scalar) := by
  rw [drop_cons s i hi, List.all_cons]
theorem Encode_ev (s : List Int) (hl : s.length ≤ 1048576) : Ev (fun k => utf_Encode.f k s) (if s.all scalar = true then (enc s, true) else ([], false)) := by
  have key : ∀ (d i : Nat), s.length - i = d → i ≤ s.length → (s.take i).all scalar = true → Ev (fun k => utf_Encode.l0 k (enc (s.take i)) s (s.length : Int) i) (if (s.drop i).all scalar = true then (enc s, true) else ([], false)) := by
    intro d
    induction d with
    | zero =>
      intro i h1 h2 h3
      have : i = s.length := by omega
      subst this
      refine Ev.step (fun k => rfl) (Ev.neg (by omega) (Ev.ret ?_))
      simp
    | succ d ih =>
      intro i h1 h2 h3
      have hi : i < s.length := by omega
      refine Ev.step (fun k => rfl) (Ev.pos (by omega) (Ev.pos (by omega) (Ev.pos (by omega) (Ev.bindS (utf_Scalar_is _) ?_))))
      rw [all_drop i hi]
      cases hs : scalar (rd s i) with
      | false => exact Ev.neg (by decide) (Ev.ret (by simp))
      | true =>
        have hc := (scalar_iff _).1 hs
        have hlen := (enc_len h3).2
        have htl : (s.take i).length ≤ 1048576 := by rw [List.length_take]; omega
        have hol := (oct_len hc.1 hc.2.1).2
        refine Ev.pos rfl (Ev.bindS (oct_is hc.1 hc.2.1) (Ev.pos (by omega) ?_))
        rw [← enc_snoc, ← take_snoc s i hi, w64 (by omega) (by omega)]
        have ht : (s.take (i + 1)).all scalar = true := by
          rw [take_snoc s i hi, List.all_append, h3]; simp [hs]
        have := ih (i + 1) (by omega) (by omega) ht
        simpa using this
  have := key s.length 0 (by omega) (by omega) (by simp)
  unfold utf_Encode.f
  simpa [enc] using this
theorem refScalar_is (c : Int) : paronymref01_Scalar.f c = some (scalar c) := utf_Scalar_is c
theorem refEncode_ev (s : List Int) (hl : s.length ≤ 1048576) : Ev (fun k => paronymref01_Encode.f k s) (if s.all scalar = true then (strOfNums (enc s), true) else (⟨#[]⟩, false)) := by
  have key : ∀ (d i : Nat), s.length - i = d → i ≤ s.length → (s.take i).all scalar = true → Ev (fun k => paronymref01_Encode.l0 k s (strOfNums (enc (s.take i))) i) (if (s.drop i).all scalar = true then (strOfNums (enc s), true) else (⟨#[]⟩, false)) := by
    intro d
    induction d with
    | zero =>
      intro i h1 h2 h3
      have : i = s.length := by omega
      subst this
      refine Ev.step (fun k => rfl) (Ev.neg (by omega) (Ev.ret ?_))
      simp
    | succ d ih =>
      intro i h1 h2 h3
      have hi : i < s.length := by omega
      refine Ev.step (fun k => rfl) (Ev.pos (by omega) (Ev.pos (by omega) (Ev.bindS (refScalar_is _) ?_)))
      rw [all_drop i hi]
      cases hs : scalar (rd s i) with
      | false => exact Ev.neg (by decide) (Ev.ret (by simp))
      | true =>
        have hc := (scalar_iff _).1 hs
        have hlen := (enc_len h3).2
        have htl : (s.take i).length ≤ 1048576 := by rw [List.length_take]; omega
        have hol := (oct_len hc.1 hc.2.1).2
        refine Ev.pos rfl (Ev.bind (refOctets_ev hc.1 hc.2.1) (Ev.pos (by rw [size_str, size_str]; omega) ?_))
        rw [str_append, ← enc_snoc, ← take_snoc s i hi, w64 (by omega) (by omega)]
        have ht : (s.take (i + 1)).all scalar = true := by
          rw [take_snoc s i hi, List.all_append, h3]; simp [hs]
        have := ih (i + 1) (by omega) (by omega) ht
        simpa using this
  have := key s.length 0 (by omega) (by omega) (by simp)
  unfold paronymref01_Encode.f
  rw [List.take_zero, List.drop_zero] at this
  exact this

/-! Compare, Same -/
def cmpL : List Int → List Int → Int
  | [], [] => 0
  | [], _ :: _ => -1
  | _ :: _, [] => 1
  | x :: l, y :: m => if x < y then -1 else if x > y then 1 else cmpL l m
theorem cmpL_zero : ∀ (l m : List Int), cmpL l m = 0 ↔ l = m
  | [], [] => by simp [cmpL]
  | [], _ :: _ => by simp [cmpL]
  | _ :: _, [] => by simp [cmpL]
  | x :: l, y :: m => by
    unfold cmpL
    by_cases a : x < y
    · rw [if_pos a]; simp; omega
    · rw [if_neg a]
      by_cases b : x > y
      · rw [if_pos b]; simp; omega
      · rw [if_neg b, cmpL_zero l m]
        have : x = y := by omega
        simp [this]
theorem refCompare_ev (l m : List Int) (hl : l.length ≤ 1099511627776) (hm : m.length ≤ 1099511627776) : Ev (fun k => paronymref01_Compare.f k l m) (cmpL l m) := by
  have key : ∀ (d i : Nat), l.length - i = d → i ≤ l.length → i ≤ m.length → Ev (fun k => paronymref01_Compare.l0 k l m i) (cmpL (l.drop i) (m.drop i)) := by
    have hend : ∀ i : Nat, i ≤ l.length → i ≤ m.length → (i = l.length ∨ i = m.length) → ∀ b : Bool, b = false → Ev (fun k => paronymref01_Compare.j1 k l m i b) (cmpL (l.drop i) (m.drop i)) := by
      intro i h1 h2 h3 b hb
      refine Ev.step (fun k => rfl) (Ev.neg (by simp [hb]) ?_)
      by_cases a : l.length < m.length
      · have e : i = l.length := by omega
        subst e
        rw [List.drop_length, drop_cons m l.length a]
        exact Ev.pos (by omega) (Ev.ret (by simp [cmpL]))
      · by_cases b : m.length < l.length
        · have e : i = m.length := by omega
          subst e
          rw [List.drop_length, drop_cons l m.length b]
          exact Ev.neg (by omega) (Ev.pos (by omega) (Ev.ret (by simp [cmpL])))
        · have e : i = l.length := by omega
          have e2 : i = m.length := by omega
          rw [List.drop_of_length_le (by omega), List.drop_of_length_le (by omega)]
          exact Ev.neg (by omega) (Ev.neg (by omega) (Ev.ret (by simp [cmpL])))
    intro d
    induction d with
    | zero =>
      intro i h1 h2 h3
      exact Ev.step (fun k => rfl) (Ev.neg (by omega) (hend i h2 h3 (.inl (by omega)) false rfl))
    | succ d ih =>
      intro i h1 h2 h3
      have hi : i < l.length := by omega
      refine Ev.step (fun k => rfl) (Ev.pos (by omega) ?_)
      by_cases a : i < m.length
      · have e : decide ((i : Int) < (m.length : Int)) = true := by simpa using a
        refine Ev.step (fun k => rfl) (Ev.pos e (Ev.pos (by omega) (Ev.pos (by omega) (Ev.pos (by omega) ?_))))
        rw [drop_cons l i hi, drop_cons m i a]
        unfold cmpL
        by_cases b : rd l i < rd m i
        · exact Ev.pos b (Ev.ret (if_pos b).symm)
        · refine Ev.neg b ?_
          rw [show (if rd l i < rd m i then (-1 : Int) else if rd l i > rd m i then 1 else cmpL (l.drop (i + 1)) (m.drop (i + 1))) = (if rd l i > rd m i then 1 else cmpL (l.drop (i + 1)) (m.drop (i + 1))) from if_neg b]
          by_cases c : rd l i > rd m i
          · exact Ev.pos c (Ev.ret (if_pos c).symm)
          · rw [show (if rd l i > rd m i then (1 : Int) else cmpL (l.drop (i + 1)) (m.drop (i + 1))) = cmpL (l.drop (i + 1)) (m.drop (i + 1)) from if_neg c]
            refine Ev.neg c ?_
            rw [w64 (by omega) (by omega)]
            exact ih (i + 1) (by omega) (by omega) (by omega)
      · have e : decide ((i : Int) < (m.length : Int)) = false := by simpa using a
        exact hend i h2 h3 (.inr (by omega)) _ e
  have := key l.length 0 (by omega) (by omega) (by omega)
  unfold paronymref01_Compare.f
  simpa using this
theorem refSame_ev (l m : List Int) (hl : l.length ≤ 1099511627776) (hm : m.length ≤ 1099511627776) : Ev (fun k => paronymref01_Same.f k l m) (decide (l = m)) := by
  unfold paronymref01_Same.f
  refine Ev.bind (refCompare_ev l m hl hm) (Ev.ret ?_)
  rw [Bool.eq_iff_iff]
  simp [cmpL_zero]

end Go.Proofs.Ytooiajkbpkfplaa.K

-- from Qf32
-- Made by hp.py, a program of this session, with the kit's printer. Not trusted: Lean checks it.
namespace Go.Proofs.Ytooiajkbpkfplaa.Q
open Go.RowKit Go.Proofs.YtooiajkbpkfplaaW.PrintWords Go.Proofs.YtooiajkbpkfplaaW.PrintLast Go.Proofs.YtooiajkbpkfplaaW.PrintMore
attribute [local go_sem] max2_int min2_int max_two min_two max_three min_three max_four min_four   -- for this text's walks alone
set_option linter.unusedVariables false
set_option linter.unusedSimpArgs false

/-! ### paronymref01_Decode: function 32 -/
def paronymref01_Decode.l0 : Nat → ByteArray → List Int → Int → Option (List Int × Int)
  | 0, _, _, _ => none
  | k + 1, x0, x4, x5 => if x5 < (x0.size : Int) then (if 0 ≤ x5 then (if x5 ≤ (x0.size : Int) then ((paronymref01_Next.f k (x0.extract (x5 : Int).toNat x0.size)).bind fun bt101 => (if bt101.2 = 0 then (some (x4, x5)) else (if x4.length < 17592186044416 then (paronymref01_Decode.l0 k x0 (x4 ++ [bt101.1]) (wrap64 (x5 + bt101.2))) else (none)))) else (none)) else (none)) else (some (x4, x5))
def paronymref01_Decode.f (k : Nat) (a0 : ByteArray) : Option (List Int × Int) := paronymref01_Decode.l0 k a0 ([] : List Int) 0
theorem paronymref01_Decode.mono_l : ∀ k, (∀ y0 y1 y2, LeO (paronymref01_Decode.l0 k y0 y1 y2) (paronymref01_Decode.l0 (k + 1) y0 y1 y2))
  | 0 => fun _ _ _ r h => by simp [paronymref01_Decode.l0] at h
  | k + 1 => by
    have ih0 := paronymref01_Decode.mono_l k
    · intro y0 y1 y2
      unfold paronymref01_Decode.l0
      repeat' first
      | (with_reducible exact ih0 _ _ _)
      | (with_reducible exact paronymref01_Next.mono _ _)
      | (with_reducible exact LeO.refl _)
      | (with_reducible exact LeO.none _)
      | (with_reducible refine LeO.ite ?_ ?_)
      | (with_reducible refine LeO.bind ?_ (fun _ => ?_))
      | exact ih0 _ _ _
      | exact paronymref01_Next.mono _ _
      | exact LeO.none _
      | refine LeO.ite ?_ ?_
      | refine LeO.bind ?_ (fun _ => ?_)
theorem paronymref01_Decode.mono : ∀ a0 k, LeO (paronymref01_Decode.f k a0) (paronymref01_Decode.f (k + 1) a0) := by
  intro a0 k
  have ih0 := paronymref01_Decode.mono_l k
  unfold paronymref01_Decode.f
  repeat' first
      | (with_reducible exact ih0 _ _ _)
      | (with_reducible exact paronymref01_Next.mono _ _)
      | (with_reducible exact LeO.refl _)
      | (with_reducible exact LeO.none _)
      | (with_reducible refine LeO.ite ?_ ?_)
      | (with_reducible refine LeO.bind ?_ (fun _ => ?_))
      | exact ih0 _ _ _
      | exact paronymref01_Next.mono _ _
      | exact LeO.none _
      | refine LeO.ite ?_ ?_
      | refine LeO.bind ?_ (fun _ => ?_)
set_option maxHeartbeats 8000000 in
set_option maxRecDepth 100000 in
theorem paronymref01_Decode.calls (k : Nat) (a0 : ByteArray) (r1 : List Int) (r2 : Int) (w : World) (h : paronymref01_Decode.f k a0 = some (r1, r2)) :
    Calls Try.prog 32 #[.string a0] w fun e w' => ∃ v0_ : Value, e = .returned (.tuple #[v0_, .int .i64 r2]) ∧ Kd.R (Kd.int .i64) 3 w' w.heap.size (fun _ => True) v0_ r1 ∧ Below w.heap.size w w' := by
  have HB := Aside0.mk (Below.refl w.heap.size w)
  have H : (paronymref01_Decode.l0 k a0 ([] : List Int) 0) = some (r1, r2) := h
  clear h
  have H' := Aside0.mk H
  clear H
  go_enter Try.func32, Try.ntmps32
  go_wp2
  go_loopg [4, 5] k (fun kq v4 v5 w' => ∃ (x4_1 : List Int) (x5_1 : Int), v5 = .int .i64 x5_1 ∧ Aside0 (paronymref01_Decode.l0 kq a0 x4_1 x5_1 = some (r1, r2)) ∧ Aside0 (kq ≤ k) ∧ Aside0 (Kd.R (Kd.int .i64) 3 w' w.heap.size (fun _ => True) v4 x4_1) ∧ Aside0 (Below w.heap.size w w'))
  case atStart => exact ⟨(([] : List Int)), (0), (by first | rfl | (simp; done) | (simp [*]; done)), H', ⟨Nat.le_refl _⟩, ⟨by first | exact Kd.R_nil _ _ _ _ _ | exact Kd.N_nil _ _ _ _ _ | exact Kd.V_nil _ _ _ _ _ | exact Kd.Q_nil _ _ _ _ _ | exact Kd.S_nil _ _ _ _ _⟩, ⟨by repeat (first | (with_reducible first | exact HB.out | apply below_alloc | apply pw_below_drewN | apply below_drew1) | exact HB.out)⟩⟩
  case round =>
    clear H'
    obtain ⟨x4_1, x5_1, rfl, HA, HK1, HO_4, HB⟩ := hrel
    cases gk with
    | zero => exact absurd HA.out (by simp [paronymref01_Decode.l0])
    | succ k1 =>
      have H := HA.out
      clear HA
      simp only [paronymref01_Decode.l0] at H
      by_cases c2 : x5_1 < (a0.size : Int)
      · rw [if_pos c2] at H
        have c2b0 : decide (x5_1 < (a0.size : Int)) = true := decide_eq_true c2
        clear c2
        by_cases c3 : 0 ≤ x5_1
        · rw [if_pos c3] at H
          have c3b0 := eq_true c3
          have c3b1 : decide (0 ≤ x5_1) = true := decide_eq_true c3
          clear c3
          by_cases c4 : x5_1 ≤ (a0.size : Int)
          · rw [if_pos c4] at H
            have c4b0 := eq_true c4
            have c4b1 : decide (x5_1 ≤ (a0.size : Int)) = true := decide_eq_true c4
            clear c4
            replace H := Option.bind_eq_some_iff.mp H
            obtain ⟨⟨t101, t102⟩, A50, H⟩ := H
            replace H : (if t102 = 0 then (some (x4_1, x5_1)) else (if x4_1.length < 17592186044416 then (paronymref01_Decode.l0 k1 a0 (x4_1 ++ [t101]) (wrap64 (x5_1 + t102))) else (none))) = some (r1, r2) := H
            have A5 := Aside0.mk A50
            clear A50
            by_cases c6 : t102 = 0
            · rw [if_pos c6] at H
              have c6b0 : (t102 == 0) = true := beq_iff_eq.mpr c6
              have c6b1 : (t102 != 0) = false := bne_eq_false_iff_eq.mpr c6
              clear c6
              simp only [Option.some.injEq, Prod.mk.injEq] at H
              obtain ⟨rfl, rfl⟩ := H
              go_wp2_with (first | ((with_reducible refine gate_callee (f := 55) rfl ?_); refine goesL_ (some 16) rfl rfl Try.func55 (by kernel_rfl) rfl #[.string (a0.extract (x5_1 : Int).toNat a0.size)] rfl (by (try simp only [List.map_toArray, List.map_cons, List.map_nil]); first | done | rfl | (simp only [List.length_drop, List.length_take]; rfl)) ?_; (with_reducible refine (paronymref01_Next.calls k1 (a0.extract (x5_1 : Int).toNat a0.size) t101 t102 _ A5.out).mono ?_); rintro e w7 ⟨rfl, hb⟩; refine ⟨_, rfl, ?_⟩; have n0_ := Aside0.mk (Kd.R_below (by (with_reducible repeat (first | apply Kd.R_alloc | apply Kd.R_drewN | apply Kd.R_drew)); exact HO_4.out) hb); have n1_ := Aside0.mk (below_step (by repeat (first | (with_reducible first | exact HB.out | apply below_alloc | apply pw_below_drewN | apply below_drew1) | exact HB.out)) hb); clear HO_4; clear HB; have HO_4 := n0_; have HB := n1_; clear n0_ n1_; (try clear hb); (try clear hb2); (try clear hk); (try clear hi)))
              go_ret2
              exact ⟨_, by first | rfl | (simp [errW_none, errW_some] <;> rfl) | (simp [*, errW_none, errW_some] <;> rfl), by (with_reducible repeat (first | apply Kd.R_alloc | apply Kd.R_drewN | apply Kd.R_drew)); exact HO_4.out, by repeat (first | (with_reducible first | exact HB.out | apply below_alloc | apply pw_below_drewN | apply below_drew1) | exact HB.out)⟩
            · rw [if_neg c6] at H
              have c6b0 : (t102 == 0) = false := beq_eq_false_iff_ne.mpr c6
              have c6b1 : (t102 != 0) = true := bne_iff_ne.mpr c6
              by_cases c8 : x4_1.length < 17592186044416
              · rw [if_pos c8] at H
                have LMc8 := Aside0.mk c8
                clear c8
                obtain ⟨y103, hy103⟩ : ∃ y_ : List Int, y_ = (x4_1 ++ [t101]) := ⟨_, rfl⟩
                replace H : (paronymref01_Decode.l0 k1 a0 y103 (wrap64 (x5_1 + t102))) = some (r1, r2) := by first | (rw [hy103]; with_reducible exact H) | (have H2_ := (Option.bind_some _ _).symm.trans H; rw [hy103]; with_reducible exact H2_) | (have H2_ := (Option.bind_some _ _).symm.trans H; with_reducible exact H2_) | with_reducible exact H | (rw [hy103]; exact H) | exact H
                have Ny103 := Aside0.mk hy103
                clear hy103
                have H' := Aside0.mk H
                clear H
                go_wp2_with (first | ((with_reducible refine gate_callee (f := 55) rfl ?_); refine goesL_ (some 16) rfl rfl Try.func55 (by kernel_rfl) rfl #[.string (a0.extract (x5_1 : Int).toNat a0.size)] rfl (by (try simp only [List.map_toArray, List.map_cons, List.map_nil]); first | done | rfl | (simp only [List.length_drop, List.length_take]; rfl)) ?_; (with_reducible refine (paronymref01_Next.calls k1 (a0.extract (x5_1 : Int).toNat a0.size) t101 t102 _ A5.out).mono ?_); rintro e w9 ⟨rfl, hb⟩; refine ⟨_, rfl, ?_⟩; have n0_ := Aside0.mk (Kd.R_below (by (with_reducible repeat (first | apply Kd.R_alloc | apply Kd.R_drewN | apply Kd.R_drew)); exact HO_4.out) hb); have n1_ := Aside0.mk (below_step (by repeat (first | (with_reducible first | exact HB.out | apply below_alloc | apply pw_below_drewN | apply below_drew1) | exact HB.out)) hb); clear HO_4; clear HB; have HO_4 := n0_; have HB := n1_; clear n0_ n1_; (try clear hb); (try clear hb2); (try clear hk); (try clear hi)) | ((with_reducible refine gate_builtin (b := .append) (xs := #[.tmp 23, .tmp 25]) rfl ?_); at_builtin; refine Kd.R_append (Kd.int .i64) (w0 := w) w.heap.size rfl (.tmp 23) (.tmp 25) 31 3 (.int .i64 0) 8 rfl Try.underlying31 info3 rfl (by decide) (by omega) u4 x4_1 t101 [.int .i64 t101] (fun _ => True) (fun _ => False) rfl rfl ?aP (fun _ hk => hk.elim) ?aF ?aO ?aB ?aS ?aL ?_; (case aP => exact rfl); (case aB => exact (by repeat (first | (with_reducible first | exact HB.out | apply below_alloc | apply pw_below_drewN | apply below_drew1) | exact HB.out))); (case aF => exact (fun _ _ => trivial)); (case aO => exact (by (with_reducible repeat (first | apply Kd.R_alloc | apply Kd.R_drewN | apply Kd.R_drew)); exact HO_4.out)); (case aS => exact (below_size (by repeat (first | (with_reducible first | exact HB.out | apply below_alloc | apply pw_below_drewN | apply below_drew1) | exact HB.out)))); (case aL => have := LMc8.out; omega); intro v104 w10 ho hb hg hat; rw [← Ny103.out] at ho; have n0_ := Aside0.mk (hb); have n1_ := Aside0.mk (ho); clear HB; clear HO_4; have HB := n0_; have HO105 := n1_; clear n0_ n1_; clear ho hb hg hat))
                go_roundg k1
                case measure => have := HK1.out; omega
                case rel => exact ⟨(y103), (wrap64 (x5_1 + t102)), (by first | rfl | (simp; done) | (simp [*]; done)), H', ⟨by have := HK1.out; omega⟩, ⟨by (with_reducible repeat (first | apply Kd.R_alloc | apply Kd.R_drewN | apply Kd.R_drew)); exact HO105.out⟩, ⟨by repeat (first | (with_reducible first | exact HB.out | apply below_alloc | apply pw_below_drewN | apply below_drew1) | exact HB.out)⟩⟩
              · rw [if_neg c8] at H
                exact absurd H (by simp)
          · rw [if_neg c4] at H
            exact absurd H (by simp)
        · rw [if_neg c3] at H
          exact absurd H (by simp)
      · rw [if_neg c2] at H
        have c2b0 : decide (x5_1 < (a0.size : Int)) = false := decide_eq_false c2
        clear c2
        simp only [Option.some.injEq, Prod.mk.injEq] at H
        obtain ⟨rfl, rfl⟩ := H
        go_wp2
        go_ret2
        exact ⟨_, by first | rfl | (simp [errW_none, errW_some] <;> rfl) | (simp [*, errW_none, errW_some] <;> rfl), by (with_reducible repeat (first | apply Kd.R_alloc | apply Kd.R_drewN | apply Kd.R_drew)); exact HO_4.out, by repeat (first | (with_reducible first | exact HB.out | apply below_alloc | apply pw_below_drewN | apply below_drew1) | exact HB.out)⟩

end Go.Proofs.Ytooiajkbpkfplaa.Q

-- from Pdec
/- UTF-8 read back: what next, Points, Decode and the reference's Next, Decode come to. -/
namespace Go.Proofs.Ytooiajkbpkfplaa.K
set_option linter.unusedVariables false
set_option linter.unusedSimpArgs false
open Go.RowKit Go.Proofs.YtooiajkbpkfplaaW.PrintWords Go.Proofs.YtooiajkbpkfplaaW.PrintMore Go.Proofs.Ytooiajkbpkfplaa.Q

theorem awake01 : paronymlaw01_awake.f 60 = some true := by decide +kernel
theorem awake01_ev : Ev (fun k => paronymlaw01_awake.f k) true := Ev.of (fun k => paronymlaw01_awake.mono k) awake01

theorem u8_all {P : Int → Prop} (h : ∀ i : Fin 256, P (i.val : Int)) {b : Int} (h0 : 0 ≤ b) (h1 : b ≤ 255) : P b := by
  have := h ⟨b.toNat, by omega⟩
  simpa [Int.toNat_of_nonneg h0] using this
def cont (b : Int) : Prop := 128 ≤ b ∧ b < 192
instance : DecidablePred cont := fun b => inferInstanceAs (Decidable (128 ≤ b ∧ b < 192))
theorem and192 {b : Int} (h0 : 0 ≤ b) (h1 : b ≤ 255) : Go.bits .and .u8 b 192 = 128 ↔ cont b := by
  have h : ∀ i : Fin 256, (Go.bits .and .u8 (i.val : Int) 192 = 128 ↔ cont (i.val : Int)) := by decide +kernel
  exact u8_all (P := fun b => (Go.bits .and .u8 b 192 = 128 ↔ cont b)) h h0 h1
theorem and63u {b : Int} (h0 : 0 ≤ b) (h1 : b ≤ 255) : Go.bits .and .u8 b 63 = b % 64 := by
  have h : ∀ i : Fin 256, Go.bits .and .u8 (i.val : Int) 63 = (i.val : Int) % 64 := by decide +kernel
  exact u8_all (P := fun b => Go.bits .and .u8 b 63 = b % 64) h h0 h1
theorem lead2 {b : Int} (h0 : 0 ≤ b) (h1 : b ≤ 255) : Go.bits .and .i64 (wrap64 b) (shr .i64 127 2) = b % 32 := by
  have h : ∀ i : Fin 256, Go.bits .and .i64 (wrap64 (i.val : Int)) (shr .i64 127 2) = (i.val : Int) % 32 := by decide +kernel
  exact u8_all (P := fun b => Go.bits .and .i64 (wrap64 b) (shr .i64 127 2) = b % 32) h h0 h1
theorem lead3 {b : Int} (h0 : 0 ≤ b) (h1 : b ≤ 255) : Go.bits .and .i64 (wrap64 b) (shr .i64 127 3) = b % 16 := by
  have h : ∀ i : Fin 256, Go.bits .and .i64 (wrap64 (i.val : Int)) (shr .i64 127 3) = (i.val : Int) % 16 := by decide +kernel
  exact u8_all (P := fun b => Go.bits .and .i64 (wrap64 b) (shr .i64 127 3) = b % 16) h h0 h1
theorem lead4 {b : Int} (h0 : 0 ≤ b) (h1 : b ≤ 255) : Go.bits .and .i64 (wrap64 b) (shr .i64 127 4) = b % 8 := by
  have h : ∀ i : Fin 256, Go.bits .and .i64 (wrap64 (i.val : Int)) (shr .i64 127 4) = (i.val : Int) % 8 := by decide +kernel
  exact u8_all (P := fun b => Go.bits .and .i64 (wrap64 b) (shr .i64 127 4) = b % 8) h h0 h1

def width (a : Int) : Int := if a < 128 then 1 else if a < 194 then 0 else if a < 224 then 2 else if a < 240 then 3 else if a < 245 then 4 else 0
theorem size_ev (a : Int) : Ev (fun k => utf_size.f k a) (width a) := by
  unfold utf_size.f width
  by_cases h1 : a < 128
  · rw [if_pos h1]; exact Ev.pos h1 (Ev.now _)
  · rw [if_neg h1]; refine Ev.neg h1 ?_
    by_cases h2 : a < 194
    · rw [if_pos h2]
      exact Ev.neg (by omega) (Ev.step (fun k => rfl) (Ev.neg (by omega) (Ev.step (fun k => rfl) (Ev.neg (by omega) (Ev.now _)))))
    · rw [if_neg h2]; refine Ev.pos (by omega) (Ev.step (fun k => rfl) ?_)
      by_cases h3 : a < 224
      · rw [if_pos h3]; exact Ev.pos (by simpa using h3) (Ev.now _)
      · rw [if_neg h3]; refine Ev.neg (by simpa using h3) (Ev.pos (by omega) (Ev.step (fun k => rfl) ?_))
        by_cases h4 : a < 240
        · rw [if_pos h4]; exact Ev.pos (by simpa using h4) (Ev.now _)
        · rw [if_neg h4]; refine Ev.neg (by simpa using h4) (Ev.pos (by omega) ?_)
          by_cases h5 : a < 245
          · exact Ev.pos h5 (Ev.ret (if_pos h5).symm)
          · exact Ev.neg h5 (Ev.ret (if_neg h5).symm)

/-! the loop of next, a step at a time -/
theorem nx_step {n x : Int} {y : List Int} {i : Nat} {r : Int × Int} (hi : i < y.length) (hl : y.length ≤ 1000) (ho : Oct y) (hc : cont (rd y i)) (hx0 : 0 ≤ x) (hx1 : x < 65536) (h : Ev (fun k => utf_next.l0 k n (x * 64 + (rd y i - 128)) y y.length ((i + 1 : Nat) : Int)) r) : Ev (fun k => utf_next.l0 k n x y y.length i) r := by
  have hb := ho.rd (i := (i : Int)) (by omega) (by omega)
  unfold cont at hc
  refine Ev.step (fun k => rfl) (Ev.pos (by omega) (Ev.pos (by omega) (Ev.pos (by omega) (Ev.pos ((and192 hb.1 hb.2).2 hc) ?_))))
  have e : Go.bits .or .i64 (wrap64 (x * 64)) (wrap64 (Go.bits .and .u8 (rd y i) 63)) = x * 64 + (rd y i - 128) := by
    rw [and63u hb.1 hb.2, w64 (by omega) (by omega), w64 (by omega) (by omega), or_join 6 (by omega) (by omega) (by omega) (by omega) (by omega) (by omega)]
    omega
  rw [e, w64 (n := (i : Int) + 1) (by omega) (by omega)]
  exact h
theorem nx_stop {n x : Int} {y : List Int} {i : Nat} (hi : i < y.length) (ho : Oct y) (hc : ¬ cont (rd y i)) : Ev (fun k => utf_next.l0 k n x y y.length i) (0, 0) := by
  have hb := ho.rd (i := (i : Int)) (by omega) (by omega)
  refine Ev.step (fun k => rfl) (Ev.pos (by omega) (Ev.pos (by omega) (Ev.pos (by omega) (Ev.neg (fun h => hc ((and192 hb.1 hb.2).1 h)) (Ev.now _)))))
theorem nx_hit {n x : Int} {y : List Int} {i : Nat} (hi : y.length ≤ i) (hs : scalar x = true) (hn : ((oct x).length : Int) = n) : Ev (fun k => utf_next.l0 k n x y y.length i) (x, n) := by
  have hc := (scalar_iff _).1 hs
  exact Ev.step (fun k => rfl) (Ev.neg (by omega) (Ev.bindS (utf_Scalar_is x) (Ev.pos hs (Ev.bindS (oct_is hc.1 hc.2.1) (Ev.pos hn (Ev.now _))))))
theorem nx_miss {n x : Int} {y : List Int} {i : Nat} (hi : y.length ≤ i) (hs : scalar x = true → ((oct x).length : Int) ≠ n) : Ev (fun k => utf_next.l0 k n x y y.length i) (0, 0) := by
  refine Ev.step (fun k => rfl) (Ev.neg (by omega) (Ev.bindS (utf_Scalar_is x) ?_))
  by_cases h : scalar x = true
  · have hc := (scalar_iff _).1 h
    exact Ev.pos h (Ev.bindS (oct_is hc.1 hc.2.1) (Ev.neg (hs h) (Ev.now _)))
  · exact Ev.neg h (Ev.now _)

/-! next's start -/
theorem nx_none {l : List Int} (h : 0 < l.length) (hw : width (rd l 0) = 0 ∨ width (rd l 0) > (l.length : Int)) : Ev (fun k => utf_next.f k l) (0, 0) := by
  unfold utf_next.f
  refine Ev.pos (by omega) (Ev.bind (size_ev _) ?_)
  by_cases z : width (rd l 0) = 0
  · exact Ev.pos z (Ev.step (fun k => rfl) (Ev.now _))
  · exact Ev.neg z (Ev.step (fun k => rfl) (Ev.pos (by simp; omega) (Ev.now _)))
theorem nx_one {l : List Int} {r : Int × Int} (h : 0 < l.length) (h0 : 0 ≤ rd l 0) (hw : rd l 0 < 128) (k : Ev (fun k => utf_next.l0 k 1 (rd l 0) [] (([] : List Int).length : Int) ((0 : Nat) : Int)) r) : Ev (fun k => utf_next.f k l) r := by
  have w : width (rd l 0) = 1 := if_pos hw
  unfold utf_next.f
  refine Ev.pos (by omega) (Ev.bind (size_ev _) ?_)
  rw [w]
  refine Ev.neg (by decide) (Ev.step (fun k => rfl) (Ev.neg (by simp; omega) (Ev.pos (by omega) (Ev.neg (by decide) (Ev.step (fun k => rfl) (Ev.pos (by omega) (Ev.bindS rfl ?_)))))))
  rw [w64 (by omega) (by omega)]
  have e : (l.take (1 : Int).toNat).drop 1 = [] := by simp
  rw [e]
  exact k
theorem nx_many {l : List Int} {r : Int × Int} {n : Nat} {x : Int} (h : n ≤ l.length) (hn : 2 ≤ n) (hw : width (rd l 0) = n) (hx : Go.bits .and .i64 (wrap64 (rd l 0)) (shr .i64 127 (n : Int)) = x) (k : Ev (fun k => utf_next.l0 k n x ((l.take n).drop 1) (((l.take n).drop 1).length : Int) ((0 : Nat) : Int)) r) : Ev (fun k => utf_next.f k l) r := by
  unfold utf_next.f
  refine Ev.pos (by omega) (Ev.bind (size_ev _) ?_)
  rw [hw]
  refine Ev.neg (by omega) (Ev.step (fun k => rfl) (Ev.neg (by simp; omega) (Ev.pos (by omega) (Ev.pos (by omega) (Ev.pos (by omega) (Ev.step (fun k => rfl) (Ev.pos (by omega) (Ev.pos (by omega) (Ev.bindS rfl ?_)))))))))
  rw [hx, Int.toNat_natCast]
  exact k

/-! what next tells -/
theorem scalar_of {c : Int} (h0 : 0 ≤ c) (h1 : c ≤ 1114111) (h2 : c < 55296 ∨ 57343 < c) : scalar c = true := (scalar_iff c).2 ⟨h0, h1, h2⟩
theorem next_hit {c : Int} {m : List Int} (hs : scalar c = true) (ho : Oct (oct c ++ m)) : Ev (fun k => utf_next.f k (oct c ++ m)) (c, (oct c).length) := by
  have hc := (scalar_iff c).1 hs
  have hoc := oct_oct hc.1 hc.2.1
  have hlen : ∀ n : Int, ((oct c).length : Int) = n → Ev (fun k => utf_next.f k (oct c ++ m)) (c, n) → Ev (fun k => utf_next.f k (oct c ++ m)) (c, (oct c).length) := by
    intro n e h; rw [e]; exact h
  by_cases a : c < 128
  · have e : oct c = [c] := if_pos a
    refine hlen 1 (by rw [e]; rfl) ?_
    rw [e]
    exact nx_one (by simp) hc.1 a (nx_hit (by simp) hs (by show ((oct c).length : Int) = 1; rw [e]; rfl))
  · by_cases b : c < 2048
    · have e : oct c = [192 + c / 64, 128 + c % 64] := by unfold oct; rw [if_neg a, if_pos b]
      have hl : ((oct c).length : Int) = 2 := by rw [e]; rfl
      refine hlen 2 hl ?_
      rw [e] at hoc
      rw [e]
      have w : width (rd ([192 + c / 64, 128 + c % 64] ++ m) 0) = (2 : Nat) := by
        show width (192 + c / 64) = 2
        unfold width; rw [if_neg (by omega), if_neg (by omega), if_pos (by omega)]
      refine nx_many (n := 2) (x := c / 64) (by simp) (by decide) w ?_ ?_
      · show Go.bits .and .i64 (wrap64 (192 + c / 64)) (shr .i64 127 2) = _
        rw [lead2 (by omega) (by omega)]; omega
      · show Ev (fun k => utf_next.l0 k 2 (c / 64) [128 + c % 64] (([128 + c % 64] : List Int).length : Int) ((0 : Nat) : Int)) (c, 2)
        refine nx_step (by simp) (by simp) (fun x hx => hoc x (by simp at hx ⊢; omega)) (by show cont (128 + c % 64); unfold cont; omega) (by omega) (by omega) ?_
        have e2 : c / 64 * 64 + (rd [128 + c % 64] ((0 : Nat) : Int) - 128) = c := by show c / 64 * 64 + (128 + c % 64 - 128) = c; omega
        rw [e2]
        exact nx_hit (by simp) hs hl
    · by_cases d : c < 65536
      · have e : oct c = [224 + c / 4096, 128 + c / 64 % 64, 128 + c % 64] := by unfold oct; rw [if_neg a, if_neg b, if_pos d]
        have hl : ((oct c).length : Int) = 3 := by rw [e]; rfl
        refine hlen 3 hl ?_
        rw [e] at hoc
        rw [e]
        have w : width (rd ([224 + c / 4096, 128 + c / 64 % 64, 128 + c % 64] ++ m) 0) = (3 : Nat) := by
          show width (224 + c / 4096) = 3
          unfold width; rw [if_neg (by omega), if_neg (by omega), if_neg (by omega), if_pos (by omega)]
        refine nx_many (n := 3) (x := c / 4096) (by simp) (by decide) w ?_ ?_
        · show Go.bits .and .i64 (wrap64 (224 + c / 4096)) (shr .i64 127 3) = _
          rw [lead3 (by omega) (by omega)]; omega
        · show Ev (fun k => utf_next.l0 k 3 (c / 4096) [128 + c / 64 % 64, 128 + c % 64] (([128 + c / 64 % 64, 128 + c % 64] : List Int).length : Int) ((0 : Nat) : Int)) (c, 3)
          have ho2 : Oct [128 + c / 64 % 64, 128 + c % 64] := fun x hx => hoc x (by simp at hx ⊢; omega)
          refine nx_step (by simp) (by simp) ho2 (by show cont (128 + c / 64 % 64); unfold cont; omega) (by omega) (by omega) ?_
          have e2 : c / 4096 * 64 + (rd [128 + c / 64 % 64, 128 + c % 64] ((0 : Nat) : Int) - 128) = c / 64 := by show c / 4096 * 64 + (128 + c / 64 % 64 - 128) = c / 64; omega
          rw [e2]
          refine nx_step (by simp) (by simp) ho2 (by show cont (128 + c % 64); unfold cont; omega) (by omega) (by omega) ?_
          have e3 : c / 64 * 64 + (rd [128 + c / 64 % 64, 128 + c % 64] ((0 + 1 : Nat) : Int) - 128) = c := by show c / 64 * 64 + (128 + c % 64 - 128) = c; omega
          rw [e3]
          exact nx_hit (by simp) hs hl
      · have e : oct c = [240 + c / 262144, 128 + c / 4096 % 64, 128 + c / 64 % 64, 128 + c % 64] := by unfold oct; rw [if_neg a, if_neg b, if_neg d]
        have hl : ((oct c).length : Int) = 4 := by rw [e]; rfl
        refine hlen 4 hl ?_
        rw [e] at hoc
        rw [e]
        have w : width (rd ([240 + c / 262144, 128 + c / 4096 % 64, 128 + c / 64 % 64, 128 + c % 64] ++ m) 0) = (4 : Nat) := by
          show width (240 + c / 262144) = 4
          unfold width; rw [if_neg (by omega), if_neg (by omega), if_neg (by omega), if_neg (by omega), if_pos (by omega)]
        refine nx_many (n := 4) (x := c / 262144) (by simp) (by decide) w ?_ ?_
        · show Go.bits .and .i64 (wrap64 (240 + c / 262144)) (shr .i64 127 4) = _
          rw [lead4 (by omega) (by omega)]; omega
        · show Ev (fun k => utf_next.l0 k 4 (c / 262144) [128 + c / 4096 % 64, 128 + c / 64 % 64, 128 + c % 64] (([128 + c / 4096 % 64, 128 + c / 64 % 64, 128 + c % 64] : List Int).length : Int) ((0 : Nat) : Int)) (c, 4)
          have ho2 : Oct [128 + c / 4096 % 64, 128 + c / 64 % 64, 128 + c % 64] := fun x hx => hoc x (by simp at hx ⊢; omega)
          refine nx_step (by simp) (by simp) ho2 (by show cont (128 + c / 4096 % 64); unfold cont; omega) (by omega) (by omega) ?_
          have e2 : c / 262144 * 64 + (rd [128 + c / 4096 % 64, 128 + c / 64 % 64, 128 + c % 64] ((0 : Nat) : Int) - 128) = c / 4096 := by show c / 262144 * 64 + (128 + c / 4096 % 64 - 128) = c / 4096; omega
          rw [e2]
          refine nx_step (by simp) (by simp) ho2 (by show cont (128 + c / 64 % 64); unfold cont; omega) (by omega) (by omega) ?_
          have e3 : c / 4096 * 64 + (rd [128 + c / 4096 % 64, 128 + c / 64 % 64, 128 + c % 64] ((0 + 1 : Nat) : Int) - 128) = c / 64 := by show c / 4096 * 64 + (128 + c / 64 % 64 - 128) = c / 64; omega
          rw [e3]
          refine nx_step (by simp) (by simp) ho2 (by show cont (128 + c % 64); unfold cont; omega) (by omega) (by omega) ?_
          have e4 : c / 64 * 64 + (rd [128 + c / 4096 % 64, 128 + c / 64 % 64, 128 + c % 64] ((0 + 1 + 1 : Nat) : Int) - 128) = c := by show c / 64 * 64 + (128 + c % 64 - 128) = c; omega
          rw [e4]
          exact nx_hit (by simp) hs hl
theorem len3 {z : Int} (h : ((oct z).length : Int) = 3) : ¬ z < 2048 := fun q => by
  by_cases p : z < 128 <;> simp [oct, p, q] at h
theorem len4 {z : Int} (h : ((oct z).length : Int) = 4) : ¬ z < 65536 := fun q => by
  by_cases p : z < 128
  · simp [oct, p] at h
  · by_cases r : z < 2048 <;> simp [oct, p, q, r] at h
/-- No scalar's octets stand ahead. -/
def Stuck (l : List Int) : Prop := ∀ c m, scalar c = true → l ≠ oct c ++ m
theorem next_miss {l : List Int} (ho : Oct l) (hl : 0 < l.length) (hs : Stuck l) : Ev (fun k => utf_next.f k l) (0, 0) := by
  cases l with
  | nil => simp at hl
  | cons a l =>
    have ha := ho a (by simp)
    by_cases a1 : a < 128
    · exact absurd rfl (by have := hs a l (scalar_of ha.1 (by omega) (.inl (by omega))); rwa [show oct a = [a] from if_pos a1] at this)
    · by_cases a2 : a < 194
      · exact nx_none hl (.inl (by show width a = 0; unfold width; rw [if_neg a1, if_pos a2]))
      · by_cases a3 : a < 224
        · have w : width a = 2 := by unfold width; rw [if_neg a1, if_neg a2, if_pos a3]
          cases l with
          | nil => exact nx_none hl (.inr (by show width a > _; rw [w]; simp))
          | cons b l =>
            have hb := ho b (by simp)
            refine nx_many (n := 2) (x := a - 192) (by simp) (by decide) w ?_ ?_
            · show Go.bits .and .i64 (wrap64 a) (shr .i64 127 2) = _
              rw [lead2 (by omega) (by omega)]; omega
            · show Ev (fun k => utf_next.l0 k 2 (a - 192) [b] (([b] : List Int).length : Int) ((0 : Nat) : Int)) _
              have ho2 : Oct [b] := fun x hx => ho x (by simp at hx ⊢; omega)
              by_cases cb : cont b
              · refine nx_step (by simp) (by simp) ho2 cb (by omega) (by omega) ?_
                refine nx_miss (by simp) ?_
                show scalar ((a - 192) * 64 + (b - 128)) = true → _
                intro h _
                unfold cont at cb
                refine hs ((a - 192) * 64 + (b - 128)) l h ?_
                unfold oct
                rw [if_neg (by omega), if_pos (by omega)]
                simp only [List.cons_append, List.nil_append, List.cons.injEq, and_true]
                omega
              · exact nx_stop (by simp) ho2 cb
        · by_cases a4 : a < 240
          · have w : width a = 3 := by unfold width; rw [if_neg a1, if_neg a2, if_neg a3, if_pos a4]
            match l, ho, hl, hs with
            | [], _, hl, _ => exact nx_none hl (.inr (by show width a > _; rw [w]; simp))
            | [_], _, hl, _ => exact nx_none hl (.inr (by show width a > _; rw [w]; simp))
            | b :: c :: l, ho, hl, hs =>
              refine nx_many (n := 3) (x := a - 224) (by simp) (by decide) w ?_ ?_
              · show Go.bits .and .i64 (wrap64 a) (shr .i64 127 3) = _
                rw [lead3 (by omega) (by omega)]; omega
              · show Ev (fun k => utf_next.l0 k 3 (a - 224) [b, c] (([b, c] : List Int).length : Int) ((0 : Nat) : Int)) _
                have ho2 : Oct [b, c] := fun x hx => ho x (by simp at hx ⊢; omega)
                by_cases cb : cont b
                · refine nx_step (by simp) (by simp) ho2 cb (by omega) (by omega) ?_
                  by_cases cc : cont c
                  · refine nx_step (by simp) (by simp) ho2 cc (by show 0 ≤ (a - 224) * 64 + (b - 128); unfold cont at cb; omega) (by show (a - 224) * 64 + (b - 128) < 65536; unfold cont at cb; omega) ?_
                    refine nx_miss (by simp) ?_
                    show scalar (((a - 224) * 64 + (b - 128)) * 64 + (c - 128)) = true → _
                    intro h hn
                    unfold cont at cb cc
                    have hge : ¬ ((a - 224) * 64 + (b - 128)) * 64 + (c - 128) < 2048 := len3 hn
                    refine hs (((a - 224) * 64 + (b - 128)) * 64 + (c - 128)) l h ?_
                    unfold oct
                    rw [if_neg (by omega), if_neg (by omega), if_pos (by omega)]
                    simp only [List.cons_append, List.nil_append, List.cons.injEq, and_true]
                    omega
                  · exact nx_stop (by simp) ho2 cc
                · exact nx_stop (by simp) ho2 cb
          · by_cases a5 : a < 245
            · have w : width a = 4 := by unfold width; rw [if_neg a1, if_neg a2, if_neg a3, if_neg a4, if_pos a5]
              match l, ho, hl, hs with
              | [], _, hl, _ => exact nx_none hl (.inr (by show width a > _; rw [w]; simp))
              | [_], _, hl, _ => exact nx_none hl (.inr (by show width a > _; rw [w]; simp))
              | [_, _], _, hl, _ => exact nx_none hl (.inr (by show width a > _; rw [w]; simp))
              | b :: c :: d :: l, ho, hl, hs =>
                refine nx_many (n := 4) (x := a - 240) (by simp) (by decide) w ?_ ?_
                · show Go.bits .and .i64 (wrap64 a) (shr .i64 127 4) = _
                  rw [lead4 (by omega) (by omega)]; omega
                · show Ev (fun k => utf_next.l0 k 4 (a - 240) [b, c, d] (([b, c, d] : List Int).length : Int) ((0 : Nat) : Int)) _
                  have ho2 : Oct [b, c, d] := fun x hx => ho x (by simp at hx ⊢; omega)
                  by_cases cb : cont b
                  · refine nx_step (by simp) (by simp) ho2 cb (by omega) (by omega) ?_
                    by_cases cc : cont c
                    · refine nx_step (by simp) (by simp) ho2 cc (by show 0 ≤ (a - 240) * 64 + (b - 128); unfold cont at cb; omega) (by show (a - 240) * 64 + (b - 128) < 65536; unfold cont at cb; omega) ?_
                      by_cases cd : cont d
                      · refine nx_step (by simp) (by simp) ho2 cd (by show 0 ≤ ((a - 240) * 64 + (b - 128)) * 64 + (c - 128); unfold cont at cb cc; omega) (by show ((a - 240) * 64 + (b - 128)) * 64 + (c - 128) < 65536; unfold cont at cb cc; omega) ?_
                        refine nx_miss (by simp) ?_
                        show scalar ((((a - 240) * 64 + (b - 128)) * 64 + (c - 128)) * 64 + (d - 128)) = true → _
                        intro h hn
                        unfold cont at cb cc cd
                        have hge : ¬ (((a - 240) * 64 + (b - 128)) * 64 + (c - 128)) * 64 + (d - 128) < 65536 := len4 hn
                        refine hs ((((a - 240) * 64 + (b - 128)) * 64 + (c - 128)) * 64 + (d - 128)) l h ?_
                        unfold oct
                        rw [if_neg (by omega), if_neg (by omega), if_neg (by omega)]
                        simp only [List.cons_append, List.nil_append, List.cons.injEq, and_true]
                        omega
                      · exact nx_stop (by simp) ho2 cd
                    · exact nx_stop (by simp) ho2 cc
                  · exact nx_stop (by simp) ho2 cb
            · exact nx_none hl (.inl (by show width a = 0; unfold width; rw [if_neg a1, if_neg a2, if_neg a3, if_neg a4, if_neg a5]))

end Go.Proofs.Ytooiajkbpkfplaa.K
