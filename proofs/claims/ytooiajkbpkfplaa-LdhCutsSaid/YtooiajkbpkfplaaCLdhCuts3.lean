/- Part 3 of 3 of the proof of LdhCuts: what begins an LDH label, and does not end with a hyphen, is one, and so is what ends it, and does not begin with one. For every input; no condition. -/
import Derived.Test.YtooiajkbpkfplaaCLdhCuts2
import Derived.Test.YtooiajkbpkfplaaRows
import Derived.WalkKit
import Derived.ProofKit
import Derived.OpenShut
import Derived.ShutString
import Derived.ChangeOld
import Derived.Below
import Derived.SizedLaws
import Derived.Test.YtooiajkbpkfplaaWSized

-- from PureLdhCuts
/- LdhCuts: what begins an LDH label, and doesn't end with a hyphen, is one, and so is what ends it, and doesn't begin with one. For every input. -/
namespace Go.Proofs.Ytooiajkbpkfplaa.Pure
set_option linter.unusedVariables false
set_option linter.unusedSimpArgs false
open Go.RowKit Go.Proofs.Ytooiajkbpkfplaa.Q Go.Proofs.YtooiajkbpkfplaaW.PrintWords Go.Proofs.YtooiajkbpkfplaaW.PrintLast Go.Proofs.Ytooiajkbpkfplaa.K

theorem rest_is (a : Int) (n : Nat) (hn : n ≤ 1000) : ∃ r : Nat, r ≤ n ∧ paronymref01_Rest.f a (wrap64 ((n : Int) + 1)) = some (r : Int) := by
  have e : wrap64 ((n : Int) + 1) = (n : Int) + 1 := w64 (by omega) (by omega)
  rw [e]
  unfold paronymref01_Rest.f
  rw [if_neg (by omega)]
  have h1 : Int.tmod a ((n : Int) + 1) < (n : Int) + 1 := Int.tmod_lt_of_pos a (by omega)
  have h2 : -((n : Int) + 1) < Int.tmod a ((n : Int) + 1) := Int.lt_tmod_of_pos a (by omega)
  have e2 : wrap64 (Int.tmod a ((n : Int) + 1) + ((n : Int) + 1)) = Int.tmod a ((n : Int) + 1) + ((n : Int) + 1) := w64 (by omega) (by omega)
  rw [e2]
  have h3 : 0 ≤ Int.tmod (Int.tmod a ((n : Int) + 1) + ((n : Int) + 1)) ((n : Int) + 1) := Int.tmod_nonneg _ (by omega)
  have h4 : Int.tmod (Int.tmod a ((n : Int) + 1) + ((n : Int) + 1)) ((n : Int) + 1) < (n : Int) + 1 := Int.tmod_lt_of_pos _ (by omega)
  exact ⟨(Int.tmod (Int.tmod a ((n : Int) + 1) + ((n : Int) + 1)) ((n : Int) + 1)).toNat, by omega, by rw [Int.toNat_of_nonneg h3]⟩
theorem parts (l : List Int) (h : isLdh l = true) : 1 ≤ l.length ∧ l.length ≤ 63 ∧ (∀ x ∈ l, letter x = true) ∧ rd l 0 ≠ 45 ∧ rd l ((l.length : Int) - 1) ≠ 45 := by
  unfold isLdh at h
  simp only [Bool.and_eq_true, decide_eq_true_eq, bne_iff_ne, ne_eq, Bool.not_eq_true', List.any_eq_false, Bool.not_eq_true] at h
  obtain ⟨h1, h2, h3, h4, h5⟩ := h
  exact ⟨h1, h2, fun x hx => by have := h3 x hx; simpa using this, h4, h5⟩
theorem made {l : List Int} (h1 : 1 ≤ l.length) (h2 : l.length ≤ 63) (h3 : ∀ x ∈ l, letter x = true) : isLdh l = ((rd l 0 != 45) && (rd l ((l.length : Int) - 1) != 45)) := by
  unfold isLdh
  have : (l.any fun c => !letter c) = false := by
    rw [List.any_eq_false]
    intro x hx
    simp [h3 x hx]
  simp [h1, h2, this]
theorem take_ldh (l : List Int) (h : isLdh l = true) (r : Nat) (hr : r ≤ l.length) (hp : 0 < r) : isLdh (l.take r) = (rd (l.take r) (((l.take r).length : Int) - 1) != 45) := by
  obtain ⟨h1, h2, h3, h4, h5⟩ := parts l h
  have hlen : (l.take r).length = r := by rw [List.length_take]; omega
  rw [made (by omega) (by omega) (fun x hx => h3 x (List.mem_of_mem_take hx)), rd_take (by omega) (by omega)]
  have : (rd l 0 != 45) = true := by simpa using h4
  rw [this, Bool.true_and]
theorem drop_ldh (l : List Int) (h : isLdh l = true) (r : Nat) (hr : r < l.length) : isLdh (l.drop r) = (rd (l.drop r) 0 != 45) := by
  obtain ⟨h1, h2, h3, h4, h5⟩ := parts l h
  have hlen : (l.drop r).length = l.length - r := List.length_drop
  rw [made (by omega) (by omega) (fun x hx => h3 x (List.mem_of_mem_drop hx))]
  have e : rd (l.drop r) (((l.drop r).length : Int) - 1) = rd l ((l.length : Int) - 1) := by
    rw [rd_drop (by omega)]
    congr 1
    omega
  rw [e]
  have : (rd l ((l.length : Int) - 1) != 45) = true := by simpa using h5
  rw [this, Bool.and_true]

theorem LdhCuts : paronymlaw11_LdhCuts.Pure := by
  intro b at_ _ hb hbw _
  have ho := oct_of_wf hbw
  apply Ev.rounds
  unfold paronymlaw11_LdhCuts.f
  refine Ev.bind awake_ev (Ev.pos rfl ?_)
  by_cases c : (b.length : Int) > 200
  · simp only [c, decide_true]
    exact Ev.step (fun k => rfl) (Ev.bind awake_ev (Ev.now _))
  · simp only [c, decide_false]
    refine Ev.step (fun k => rfl) (Ev.bind (ldh_Is_ev b (by omega)) ?_)
    by_cases hi : isLdh b = true
    · refine Ev.pos hi ?_
      obtain ⟨r, hr, e⟩ := rest_is at_ b.length (by omega)
      refine Ev.bindS e (Ev.pos (by omega) (Ev.pos (by omega) (Ev.bindS rfl (Ev.bindS rfl ?_))))
      rw [Int.toNat_natCast]
      have hlx : (b.take r).length = r := by rw [List.length_take]; omega
      have hly : (b.drop r).length = b.length - r := List.length_drop
      by_cases z : r = 0
      · have hx := drop_ldh b hi r (by have := (parts b hi).1; omega)
        refine Ev.pos (by omega) ?_
        by_cases y : b.length - r = 0
        · exact Ev.pos (by omega) (Ev.now _)
        · refine Ev.neg (by omega) (Ev.bind (ldh_Is_ev _ (by omega)) (Ev.pos (by omega) (Ev.ret ?_)))
          rw [hx]; simp
      · refine Ev.neg (by omega) (Ev.bind (ldh_Is_ev _ (by omega)) ?_)
        have e2 : wrap64 (((b.take r).length : Int) - 1) = ((b.take r).length : Int) - 1 := w64 (by omega) (by omega)
        rw [e2, take_ldh b hi r hr (by omega)]
        refine Ev.pos (by omega) (Ev.pos (by omega) (Ev.pos (by simp) ?_))
        by_cases y : b.length - r = 0
        · exact Ev.pos (by omega) (Ev.now _)
        · refine Ev.neg (by omega) (Ev.bind (ldh_Is_ev _ (by omega)) (Ev.pos (by omega) (Ev.ret ?_)))
          rw [drop_ldh b hi r (by omega)]; simp
    · refine Ev.neg hi (Ev.bind (ldh_Kind_ev b ho (by omega)) (Ev.ret ?_))
      have : kind b = 0 := by unfold kind; rw [if_neg hi]
      rw [this]; rfl

end Go.Proofs.Ytooiajkbpkfplaa.Pure

-- from LawLdhCuts
-- Made by hp.py, a program of this session, with the kit's printer. Not trusted: Lean checks it.
namespace Go.Proofs.Ytooiajkbpkfplaa.ldhCuts
open Go.ChangeShapes Go.WideShapes Go.ChangeAt Go.RowKit
open Go.ChangeMaps (open_string shut_string)
set_option linter.unusedVariables false
theorem own : ownKnob Try.prog.godebug = none := by kernel_rfl
theorem laidOut : laidOutB Try.prog = true := by kernel_rfl
def IsRow (k : IntKind) (w : World) (a : Option Addr) (len cap : Nat) (zs : List Int) : Prop :=
  (a = none ∧ len = 0 ∧ cap = 0 ∧ zs = []) ∨
  ∃ x, a = some x ∧ len ≤ cap ∧ cap ≤ maxLen ∧ zs.length = cap ∧ (∀ i, i < zs.length → w.cell? (x.add i) = some (.int k (zs.getD i 0))) ∧ ∀ n ∈ zs, (Lit.int k n).wf = true
set_option maxRecDepth 100000 in
theorem lifted (os : Os) (started : os.Started) (H : Type) (enc : TypeId × Value → H) :
    ReturnsInHanded {} Try.checked os 4 .any (Rows.ldhCutsSpec.pre6 enc Try.prog Try.f4 Rows.ldhCutsRow.domain false) (Rows.ldhCutsSpec.post enc Try.prog Try.f4 false true false false) := by
  refine returnsInHanded_of_change_sized (C := Try.checked) own started (by kernel_rfl) Try.func4
    (ChangeSpec.witness6 (enc := enc) (C := Try.checked) false ⟨#[], #[.slice none 0 0, .int .i64 0], []⟩ 8 (by kernel_rfl) (by kernel_rfl) (by kernel_rfl) (by kernel_rfl)) ?_
  intro W base args ds gs before hval0 hW hcnd hsz0 _
  have hsz : (DataW.weightsEach Try.prog (Try.f4.params.toList ++ Rows.ldhCutsSpec.plain.varTypes Try.prog) (ds ++ gs)).all (· ≤ reachBytes) = true := hsz0
  have hval : ∀ (j : Nat) t v, Try.f4.params[j]? = some t → args[j]? = some v → Value.okWide Try.prog W .any base t v := hval0
  have hW' := hW
  obtain ⟨p, q, hA0, hV, rfl, hfz, hnd⟩ := hW
  have hA : DataW.TrodAll enc Try.prog W 0 (fun _ => true) true Try.f4.params.toList args.toList ds p := hA0
  rw [Try.params4] at hA hval hsz
  obtain ⟨v0, vs0, d0, ds0, p0, q0, hargs, rfl, rfl, h0, r0⟩ := trodAll_cons hA
  obtain ⟨v1, vs1, d1, ds1, p1, q1, rfl, rfl, rfl, h1, r1⟩ := trodAll_cons r0
  obtain ⟨rfl, rfl, rfl⟩ := trodAll_nil r1
  obtain rfl : args = #[v0, v1] := by cases args; simp_all
  obtain ⟨rfl, rfl⟩ := trodVars_none hV
  obtain ⟨a0, len0, cap0, rfl⟩ := okWide_slice Try.underlying22 (hval 0 22 v0 rfl rfl)
  have k0 := h0
  have lt0 : ∀ x ∈ p0, x.block < W.heap.size := by obtain ⟨m, hm⟩ := k0; exact DataW.trod_lt m _ _ _ hm
  obtain ⟨z0, w0⟩ : ∃ zs, IsRow .u8 W a0 len0 cap0 zs := by
    obtain ⟨fuel, hf⟩ := h0
    rcases open_ints Try.underlying22 Try.underlying5 (by kernel_rfl) hf with ⟨hcs, _⟩ | ⟨x, l, c, zs, hcs, _, hl, hm, hz, _, hcell, hwz⟩
    · simp [Value.cells] at hcs
      obtain ⟨rfl, rfl, rfl⟩ := hcs
      exact ⟨[], .inl ⟨rfl, rfl, rfl, rfl⟩⟩
    · simp [Value.cells] at hcs
      obtain ⟨rfl, rfl, rfl⟩ := hcs
      exact ⟨zs, .inr ⟨_, rfl, hl, hm, by simpa using hz, hcell, hwz⟩⟩
  have y0 : len0 * 1 ≤ 140737488351232 := Go.Proofs.YtooiajkbpkfplaaW.PrintWords.sized_ints hsz (j := 0) (t := 22) rfl rfl Try.underlying22 Try.underlying5 (by kernel_rfl) (by kernel_rfl) h0
  obtain ⟨a1, rfl, rfl, rfl, w1⟩ := open_int Try.underlying3 (hval 1 3 v1 rfl rfl) h1
  clear hA0 hval0 hsz0 hsz
  refine (Q.paronymlaw11_LdhCuts.walk Pure.LdhCuts a0 len0 cap0 z0 a1 W w0 y0 w1).mono fun e W' ⟨he, bel⟩ => ?_
  subst he
  exact ⟨_, rfl, _, _, _, [], _, [], hW', trodAll_mk1 (shut_bool Try.underlying4 _), (trodAll_cons_mk (Below.trod laidOut (by kernel_rfl) (of_decide_eq_true (by kernel_rfl)) k0 bel lt0) (trodAll_cons_mk (shut_int Try.underlying3 w1) trodAll_mk0)), rfl, bel.frame _, fun h => by cases h⟩
theorem over : Rows.ldhCutsRow.holds Try.pinned (OpenSpec.ofChange Rows.ldhCutsSpec) :=
  OpenClaim.holds_of_wide 4 Try.f4 rfl rfl rfl rfl rfl rfl rfl ⟨rfl, rfl, rfl, rfl, rfl⟩ rfl rfl rfl rfl rfl (by kernel_rfl) Try.func4 (by kernel_rfl)
    (of_decide_eq_true (by kernel_rfl)) (by unfold Func.isWrapper; first | (rw [if_pos (by decide +kernel)]; kernel_rfl) | (rw [if_neg (by decide +kernel)]; exact ⟨rfl, rfl⟩))
    (fun os started H enc _ => lifted os started H enc)
theorem proved : Rows.LdhCutsSaid := over
#print axioms proved
end Go.Proofs.Ytooiajkbpkfplaa.ldhCuts
namespace Go.Proofs.Ytooiajkbpkfplaa
/-- The row, under a short name, for the claim. -/
theorem ldhCuts_holds : Rows.LdhCutsSaid := ldhCuts.proved
end Go.Proofs.Ytooiajkbpkfplaa
