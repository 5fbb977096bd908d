/- The law ResidueRules holds for every input: products go through sums and hang on no order, and what a difference takes a sum gives back; without any condition. -/
import Derived.Test.YtgghopmlcpcpkaaFrame
import Derived.Test.YtgghopmlcpcpkaaRules
namespace Go.Proofs.Ytgghopmlcpcpkaa
open Go.ChangeShapes Go.WideShapes Go.ChangeAt Go.RowKit PlainK
set_option linter.unusedVariables false
set_option linter.unusedSimpArgs false
set_option maxHeartbeats 1000000 in
set_option maxRecDepth 100000 in
theorem residueRules_lifted (os : Os) (started : os.Started) (H : Type) (enc : TypeId × Value → H) :
    ReturnsInHanded {} Try.checked os 5 .any (Rows.residueRulesSpec.pre6 enc Try.prog Try.f5 Rows.residueRulesRow.domain false) (Rows.residueRulesSpec.post enc Try.prog Try.f5 false true false false) := by
  refine returnsInHanded_of_change (C := Try.checked) Try.own started (by kernel_rfl) Try.func5
    (ChangeSpec.witness6 (enc := enc) (C := Try.checked) false ⟨#[], #[.agg #[.int .u64 0, .int .u64 0, .int .u64 0, .int .u64 0], .agg #[.int .u64 0, .int .u64 0, .int .u64 0, .int .u64 0], .agg #[.int .u64 0, .int .u64 0, .int .u64 0, .int .u64 0], .agg #[.int .u64 0, .int .u64 0, .int .u64 0, .int .u64 0]], []⟩ 8 (by kernel_rfl) (by kernel_rfl) (by kernel_rfl) (by kernel_rfl)) ?_
  intro W base args ds gs before hval0 hW hcnd _
  have hval : ∀ (j : Nat) t v, Try.f5.params[j]? = some t → args[j]? = some v → Value.okWide Try.prog W .any base t v := hval0
  have hW' := hW
  obtain ⟨p, q, hA0, hV, rfl, hfz, hnd⟩ := hW
  have hA : DataW.TrodAll enc Try.prog W 0 (fun _ => true) true Try.f5.params.toList args.toList ds p := hA0
  rw [Try.params5] at hA hval
  obtain ⟨v0, vs0, d0, ds0, p0, q0, hargs, rfl, rfl, h0, r0⟩ := trodAll_cons hA
  obtain ⟨v1, vs1, d1, ds1, p1, q1, rfl, rfl, rfl, h1, r1⟩ := trodAll_cons r0
  obtain ⟨v2, vs2, d2, ds2, p2, q2, rfl, rfl, rfl, h2, r2⟩ := trodAll_cons r1
  obtain ⟨v3, vs3, d3, ds3, p3, q3, rfl, rfl, rfl, h3, r3⟩ := trodAll_cons r2
  obtain ⟨rfl, rfl, rfl⟩ := trodAll_nil r3
  obtain rfl : args = #[v0, v1, v2, v3] := by cases args; simp_all
  obtain ⟨rfl, rfl⟩ := trodVars_none hV
  obtain ⟨x00, x01, x02, x03, rfl, rfl, rfl, y00, y01, y02, y03⟩ := open_arr4 (hval 0 24 v0 rfl rfl) h0
  obtain ⟨n0, hn0⟩ := W4.of_wf y00 y01 y02 y03
  obtain ⟨x10, x11, x12, x13, rfl, rfl, rfl, y10, y11, y12, y13⟩ := open_arr4 (hval 1 24 v1 rfl rfl) h1
  obtain ⟨n1, hn1⟩ := W4.of_wf y10 y11 y12 y13
  obtain ⟨x20, x21, x22, x23, rfl, rfl, rfl, y20, y21, y22, y23⟩ := open_arr4 (hval 2 24 v2 rfl rfl) h2
  obtain ⟨n2, hn2⟩ := W4.of_wf y20 y21 y22 y23
  obtain ⟨x30, x31, x32, x33, rfl, rfl, rfl, y30, y31, y32, y33⟩ := open_arr4 (hval 3 24 v3 rfl rfl) h3
  obtain ⟨n3, hn3⟩ := W4.of_wf y30 y31 y32 y33
  clear hA0 hval0
  simp only [List.append_nil] at hW'
  refine (rules_any hn0 hn1 hn2 hn3 W).mono fun e W' ⟨he, hg⟩ => ?_
  subst he
  exact ⟨_, rfl, post_law (pa := []) (pv := []) hW' (fun _ _ _ => (trodAll_cons_mk (shut_bool Try.underlying4 _) trodAll_mk0)) (fun sp _ => (trodAll_cons_mk (shut_arr4 y00 y01 y02 y03) (trodAll_cons_mk (shut_arr4 y10 y11 y12 y13) (trodAll_cons_mk (shut_arr4 y20 y21 y22 y23) (trodAll_cons_mk (shut_arr4 y30 y31 y32 y33) trodAll_mk0))))) (fun _ _ => rfl) rfl (hg.frame _)⟩

theorem residueRules_proved : Rows.ResidueRulesSaid :=
  OpenClaim.holds_of_wide 5 Try.f5 rfl rfl rfl rfl rfl rfl rfl ⟨rfl, rfl, rfl, rfl, rfl⟩ rfl rfl rfl rfl rfl (by kernel_rfl) Try.func5 (by kernel_rfl)
    (of_decide_eq_true (by kernel_rfl)) (by unfold Func.isWrapper; first | (rw [if_pos (by decide +kernel)]; kernel_rfl) | (rw [if_neg (by decide +kernel)]; exact ⟨rfl, rfl⟩))
    (fun os started H enc _ => residueRules_lifted os started H enc)
#print axioms residueRules_proved
end Go.Proofs.Ytgghopmlcpcpkaa
