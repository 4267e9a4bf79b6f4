/- Part 2 of 2 of the proof of OrderCounts: OrderCounts: how many texts there are For every input; no condition. -/
import Derived.Test.YtlipbiihemhieaaCOrderCounts1
import Derived.Test.YtlipbiihemhieaaRows
import Derived.WalkKit
import Derived.ProofKit
import Derived.OpenShut
import Derived.ShutString
import Derived.ChangeOld
import Derived.Below
import Derived.SizedLaws
import Derived.Test.YtlipbiihemhieaaWSized

-- from PureOrderCounts
/- OrderCounts: for every input. -/
namespace Go.Proofs.Ytlipbiihemhieaa.Pure
set_option linter.unusedVariables false
set_option linter.unusedSimpArgs false
open Go.RowKit Go.Proofs.Ytlipbiihemhieaa.Q Go.Proofs.YtlipbiihemhieaaW.PrintWords Go.Proofs.YtlipbiihemhieaaW.PrintLast Go.Proofs.Ytlipbiihemhieaa.K

/-- What Count tells from a round on. -/
def cl (L most : Int) : Nat → Int → Int → Int
  | 0, s, _ => s
  | d + 1, s, o => if s < most then (if o * L > most then most else cl L most d (s + (if most - s < o * L then most - s else o * L)) (o * L)) else s
theorem cl_top (L most : Int) : ∀ (d : Nat) (o : Int), cl L most d most o = most
  | 0, _ => rfl
  | d + 1, o => by rw [cl, if_neg (by omega)]
theorem count_ev {l : List Int} {n most : Int} (h0 : 1 ≤ l.length) (h1 : l.length ≤ 60) (hn : n ≤ 200) (hn0 : -9223372036854775808 ≤ n) (hm : most ≤ 1000000) : ∀ (d : Nat) (i : Int) (s o : Int), (n - i).toNat = d → 0 ≤ i → i ≤ 201 → 0 ≤ s → (s ≤ most ∨ s = 0) → 1 ≤ o → o ≤ 1000000 →
    Ev (fun k => order_Count.l0 k l n most s o i) (cl l.length most d s o) := by
  intro d
  induction d with
  | zero =>
    intro i s o hd hi0 hi1 hs0 hs1 ho0 ho1
    refine Ev.step (fun k => rfl) (Ev.neg (by omega) (Ev.step (fun k => rfl) ?_))
    exact Ev.now _
  | succ d ih =>
    intro i s o hd hi0 hi1 hs0 hs1 ho0 ho1
    have hin : i < n := by omega
    refine Ev.step (fun k => rfl) (Ev.pos hin ?_)
    rw [cl]
    by_cases c : s < most
    · rw [if_pos c, decide_eq_true c]
      have hL : (1 : Int) ≤ (l.length : Int) := by omega
      have hL2 : (l.length : Int) ≤ 60 := by omega
      have hp0 : 1 * 1 ≤ o * (l.length : Int) := Int.mul_le_mul ho0 hL (by omega) (by omega)
      have hp1 : o * (l.length : Int) ≤ 1000000 * 60 := Int.mul_le_mul ho1 hL2 (by omega) (by omega)
      have hq0 : 0 ≤ most / (l.length : Int) := Int.ediv_nonneg (by omega) (by omega)
      have hq1 : most / (l.length : Int) ≤ most := Int.ediv_le_self _ (by omega)
      have ed : wrap64 (Int.tdiv most (l.length : Int)) = most / (l.length : Int) := by rw [Int.tdiv_eq_ediv_of_nonneg (by omega), w64 (by omega) (by omega)]
      have hcmp : o > most / (l.length : Int) ↔ o * (l.length : Int) > most := Int.ediv_lt_iff_lt_mul (by omega)
      refine Ev.step (fun k => rfl) (Ev.neg (by omega) ?_)
      rw [ed]
      generalize o * (l.length : Int) = p at *
      by_cases c2 : p > most
      · rw [if_pos c2]
        exact Ev.pos (hcmp.2 c2) (Ev.now _)
      · rw [if_neg c2]
        refine Ev.neg (fun h => c2 (hcmp.1 h)) ?_
        have e1 : wrap64 (s + mn (wrap64 p) (wrap64 (most - s))) = s + (if most - s < p then most - s else p) := by
          rw [w64 (n := p) (by omega) (by omega), w64 (n := most - s) (by omega) (by omega)]
          unfold mn
          split <;> exact w64 (by omega) (by omega)
        rw [e1, w64 (n := p) (by omega) (by omega), w64 (n := i + 1) (by omega) (by omega)]
        exact ih (i + 1) _ p (by omega) (by omega) (by omega) (by split <;> omega) (by split <;> omega) (by omega) (by omega)
    · rw [if_neg c, decide_eq_false c]
      exact Ev.step (fun k => rfl) (Ev.now _)

theorem OrderCounts : paronymlaw19_OrderCounts.Pure := by
  intro l n most _ hl8 _ hnw hmw
  have hn := i64_of_wf hnw
  have hmo := i64_of_wf hmw
  apply Ev.rounds
  unfold paronymlaw19_OrderCounts.f
  refine Ev.bind (Ev.now true) (Ev.pos rfl ?_)
  have yes : Ev (fun k => paronymlaw19_OrderCounts.j0 k l n most true) true := Ev.step (fun k => rfl) (Ev.bind (Ev.now true) (Ev.now _))
  by_cases c1 : (l.length : Int) > 60
  · exact Ev.pos c1 yes
  refine Ev.neg c1 ?_
  by_cases c2 : n > 200
  · exact Ev.pos c2 yes
  refine Ev.neg c2 ?_
  by_cases c3 : most > 1000000
  · rw [decide_eq_true c3]; exact yes
  rw [decide_eq_false c3]
  refine Ev.step (fun k => rfl) ?_
  obtain ⟨al, _, ha, hra⟩ := alphabets_ev (l := l) (by omega)
  -- the end of the law's loop
  have fin : ∀ (C W : Int), Ev (fun k => order_Count.f k l n most) C → C = mx 0 (mn W most) → Ev (fun k => (order_Count.f k l n most).bind fun t => some (t == mx 0 (mn W most))) true := fun C W hC he => Ev.bind hC (Ev.ret (by rw [he]; simp))
  by_cases z : (l.length : Int) = 0
  · have hC : Ev (fun k => order_Count.f k l n most) 0 := by
      unfold order_Count.f
      exact Ev.pos z (Ev.step (fun k => rfl) (Ev.now _))
    have h0 : (0 : Int) = mx 0 (mn 0 most) := by unfold mx mn; split <;> split <;> omega
    refine Ev.step (fun k => rfl) ?_
    by_cases g1 : (0 : Int) < n
    · refine Ev.pos g1 ?_
      by_cases g2 : (0 : Int) < most
      · exact Ev.pos g2 (Ev.neg (by omega) (fin 0 0 hC h0))
      · exact Ev.neg g2 (fin 0 0 hC h0)
    · exact Ev.neg g1 (fin 0 0 hC h0)
  cases al with
  | false =>
    have hC : Ev (fun k => order_Count.f k l n most) 0 := by
      unfold order_Count.f
      exact Ev.neg z (Ev.bind ha (Ev.step (fun k => rfl) (Ev.now _)))
    have h0 : (0 : Int) = mx 0 (mn 0 most) := by unfold mx mn; split <;> split <;> omega
    refine Ev.step (fun k => rfl) ?_
    by_cases g1 : (0 : Int) < n
    · refine Ev.pos g1 ?_
      by_cases g2 : (0 : Int) < most
      · exact Ev.pos g2 (Ev.pos (by omega) (Ev.bind hra (Ev.neg (by simp) (fin 0 0 hC h0))))
      · exact Ev.neg g2 (fin 0 0 hC h0)
    · exact Ev.neg g1 (fin 0 0 hC h0)
  | true =>
    have hC : Ev (fun k => order_Count.f k l n most) (cl l.length most (n - 0).toNat 0 1) := by
      unfold order_Count.f
      refine Ev.neg z (Ev.bind ha (Ev.step (fun k => rfl) ?_))
      exact count_ev (by omega) (by omega) (by omega) (by omega) (by omega) _ 0 0 1 rfl (by omega) (by omega) (by omega) (by omega) (by omega) (by omega)
    obtain ⟨C, hCe⟩ : ∃ C, cl l.length most (n - 0).toNat 0 1 = C := ⟨_, rfl⟩
    rw [hCe] at hC
    have key : ∀ (d : Nat) (i : Int) (s o : Int), (n - i).toNat = d → 0 ≤ i → i ≤ 201 → 0 ≤ s → (s ≤ most ∨ s = 0) → 1 ≤ o → o ≤ 1000000 → cl l.length most d s o = C →
        Ev (fun k => paronymlaw19_OrderCounts.l0 k l n most s o i) true := by
      -- where the law's number is beyond the most
      have over : ∀ (i W o : Int), 0 ≤ most → most ≤ W → C = most → Ev (fun k => paronymlaw19_OrderCounts.l0 k l n most W o i) true := by
        intro i W o h0 h1 h2
        have he : C = mx 0 (mn W most) := by rw [h2]; unfold mx mn; split <;> split <;> omega
        refine Ev.step (fun k => rfl) ?_
        by_cases g1 : i < n
        · exact Ev.pos g1 (Ev.neg (by omega) (fin C W hC he))
        · exact Ev.neg g1 (fin C W hC he)
      intro d
      induction d with
      | zero =>
        intro i s o hd hi0 hi1 hs0 hs1 ho0 ho1 hcl
        rw [cl] at hcl
        refine Ev.step (fun k => rfl) (Ev.neg (by omega) (fin C s hC ?_))
        rw [← hcl]; unfold mx mn; split <;> split <;> omega
      | succ d ih =>
        intro i s o hd hi0 hi1 hs0 hs1 ho0 ho1 hcl
        have hin : i < n := by omega
        rw [cl] at hcl
        refine Ev.step (fun k => rfl) (Ev.pos hin ?_)
        by_cases c : s < most
        · rw [if_pos c] at hcl
          have hL : (1 : Int) ≤ (l.length : Int) := by omega
          have hL2 : (l.length : Int) ≤ 60 := by omega
          have hp0 : 1 * 1 ≤ o * (l.length : Int) := Int.mul_le_mul ho0 hL (by omega) (by omega)
          have hp1 : o * (l.length : Int) ≤ 1000000 * 60 := Int.mul_le_mul ho1 hL2 (by omega) (by omega)
          refine Ev.pos c (Ev.pos (by omega) (Ev.bind hra (Ev.pos rfl ?_)))
          generalize o * (l.length : Int) = p at *
          have em : mn (wrap64 p) 2000000 = if 2000000 < p then 2000000 else p := by
            rw [w64 (n := p) (by omega) (by omega)]; rfl
          rw [em, w64 (n := i + 1) (by omega) (by omega)]
          by_cases c4 : p > most
          · rw [if_pos c4] at hcl
            refine over _ _ _ (by omega) ?_ hcl.symm
            rw [w64 (by split <;> omega) (by split <;> omega)]
            split <;> omega
          · rw [if_neg c4] at hcl
            rw [if_neg (by omega), w64 (by omega) (by omega)]
            by_cases c5 : most - s < p
            · rw [if_pos c5] at hcl
              have e : s + (most - s) = most := by omega
              rw [e, cl_top] at hcl
              exact over _ _ _ (by omega) (by omega) hcl.symm
            · rw [if_neg c5] at hcl
              exact ih (i + 1) (s + p) p (by omega) (by omega) (by omega) (by omega) (by omega) (by omega) (by omega) hcl
        · rw [if_neg c] at hcl
          refine Ev.neg c (fin C s hC ?_)
          rw [← hcl]; unfold mx mn; split <;> split <;> omega
    exact key _ 0 0 1 rfl (by omega) (by omega) (by omega) (Or.inr rfl) (by omega) (by omega) hCe

end Go.Proofs.Ytlipbiihemhieaa.Pure

-- from LawOrderCounts
-- Made by hp.py, a program of this session, with the kit's printer. Not trusted: Lean checks it.
namespace Go.Proofs.Ytlipbiihemhieaa.orderCounts
open Go.ChangeShapes Go.WideShapes Go.ChangeAt Go.RowKit
open Go.ChangeMaps (open_string shut_string)
set_option linter.unusedVariables false
theorem own : ownKnob Try.prog.godebug = none := by kernel_rfl
theorem laidOut : laidOutB Try.prog = true := by kernel_rfl
def IsRow (k : IntKind) (w : World) (a : Option Addr) (len cap : Nat) (zs : List Int) : Prop :=
  (a = none ∧ len = 0 ∧ cap = 0 ∧ zs = []) ∨
  ∃ x, a = some x ∧ len ≤ cap ∧ cap ≤ maxLen ∧ zs.length = cap ∧ (∀ i, i < zs.length → w.cell? (x.add i) = some (.int k (zs.getD i 0))) ∧ ∀ n ∈ zs, (Lit.int k n).wf = true
set_option maxRecDepth 100000 in
theorem lifted (os : Os) (started : os.Started) (H : Type) (enc : TypeId × Value → H) :
    ReturnsInHanded {} Try.checked os 5 .any (Rows.orderCountsSpec.pre6 enc Try.prog Try.f5 Rows.orderCountsRow.domain false) (Rows.orderCountsSpec.post enc Try.prog Try.f5 false true false false) := by
  refine returnsInHanded_of_change_sized (C := Try.checked) own started (by kernel_rfl) Try.func5
    (ChangeSpec.witness6 (enc := enc) (C := Try.checked) false ⟨#[], #[.slice none 0 0, .int .i64 0, .int .i64 0], []⟩ 8 (by kernel_rfl) (by kernel_rfl) (by kernel_rfl) (by kernel_rfl)) ?_
  intro W base args ds gs before hval0 hW hcnd hsz0 _
  have hsz : (DataW.weightsEach Try.prog (Try.f5.params.toList ++ Rows.orderCountsSpec.plain.varTypes Try.prog) (ds ++ gs)).all (· ≤ reachBytes) = true := hsz0
  have hval : ∀ (j : Nat) t v, Try.f5.params[j]? = some t → args[j]? = some v → Value.okWide Try.prog W .any base t v := hval0
  have hW' := hW
  obtain ⟨p, q, hA0, hV, rfl, hfz, hnd⟩ := hW
  have hA : DataW.TrodAll enc Try.prog W 0 (fun _ => true) true Try.f5.params.toList args.toList ds p := hA0
  rw [Try.params5] at hA hval hsz
  obtain ⟨v0, vs0, d0, ds0, p0, q0, hargs, rfl, rfl, h0, r0⟩ := trodAll_cons hA
  obtain ⟨v1, vs1, d1, ds1, p1, q1, rfl, rfl, rfl, h1, r1⟩ := trodAll_cons r0
  obtain ⟨v2, vs2, d2, ds2, p2, q2, rfl, rfl, rfl, h2, r2⟩ := trodAll_cons r1
  obtain ⟨rfl, rfl, rfl⟩ := trodAll_nil r2
  obtain rfl : args = #[v0, v1, v2] := by cases args; simp_all
  obtain ⟨rfl, rfl⟩ := trodVars_none hV
  obtain ⟨a0, len0, cap0, rfl⟩ := okWide_slice Try.underlying22 (hval 0 22 v0 rfl rfl)
  have k0 := h0
  have lt0 : ∀ x ∈ p0, x.block < W.heap.size := by obtain ⟨m, hm⟩ := k0; exact DataW.trod_lt m _ _ _ hm
  obtain ⟨z0, w0⟩ : ∃ zs, IsRow .i64 W a0 len0 cap0 zs := by
    obtain ⟨fuel, hf⟩ := h0
    rcases open_ints Try.underlying22 Try.underlying3 (by kernel_rfl) hf with ⟨hcs, _⟩ | ⟨x, l, c, zs, hcs, _, hl, hm, hz, _, hcell, hwz⟩
    · simp [Value.cells] at hcs
      obtain ⟨rfl, rfl, rfl⟩ := hcs
      exact ⟨[], .inl ⟨rfl, rfl, rfl, rfl⟩⟩
    · simp [Value.cells] at hcs
      obtain ⟨rfl, rfl, rfl⟩ := hcs
      exact ⟨zs, .inr ⟨_, rfl, hl, hm, by simpa using hz, hcell, hwz⟩⟩
  have y0 : len0 * 8 ≤ 140737488351232 := Go.Proofs.YtlipbiihemhieaaW.PrintWords.sized_ints hsz (j := 0) (t := 22) rfl rfl Try.underlying22 Try.underlying3 (by kernel_rfl) (by kernel_rfl) h0
  obtain ⟨a1, rfl, rfl, rfl, w1⟩ := open_int Try.underlying3 (hval 1 3 v1 rfl rfl) h1
  obtain ⟨a2, rfl, rfl, rfl, w2⟩ := open_int Try.underlying3 (hval 2 3 v2 rfl rfl) h2
  clear hA0 hval0 hsz0 hsz
  refine (Q.paronymlaw19_OrderCounts.walk Pure.OrderCounts a0 len0 cap0 z0 a1 a2 W w0 y0 w1 w2).mono fun e W' ⟨he, bel⟩ => ?_
  subst he
  exact ⟨_, rfl, _, _, _, [], _, [], hW', trodAll_mk1 (shut_bool Try.underlying4 _), (trodAll_cons_mk (Below.trod laidOut (by kernel_rfl) (of_decide_eq_true (by kernel_rfl)) k0 bel lt0) (trodAll_cons_mk (shut_int Try.underlying3 w1) (trodAll_cons_mk (shut_int Try.underlying3 w2) trodAll_mk0))), rfl, bel.frame _, fun h => by cases h⟩
theorem over : Rows.orderCountsRow.holds Try.pinned (OpenSpec.ofChange Rows.orderCountsSpec) :=
  OpenClaim.holds_of_wide 5 Try.f5 rfl rfl rfl rfl rfl rfl rfl ⟨rfl, rfl, rfl, rfl, rfl⟩ rfl rfl rfl rfl rfl (by kernel_rfl) Try.func5 (by kernel_rfl)
    (of_decide_eq_true (by kernel_rfl)) (by unfold Func.isWrapper; first | (rw [if_pos (by decide +kernel)]; kernel_rfl) | (rw [if_neg (by decide +kernel)]; exact ⟨rfl, rfl⟩))
    (fun os started H enc _ => lifted os started H enc)
theorem proved : Rows.OrderCountsSaid := over
#print axioms proved
end Go.Proofs.Ytlipbiihemhieaa.orderCounts
namespace Go.Proofs.Ytlipbiihemhieaa
/-- The row, under a short name, for the claim. -/
theorem orderCounts_holds : Rows.OrderCountsSaid := orderCounts.proved
end Go.Proofs.Ytlipbiihemhieaa
