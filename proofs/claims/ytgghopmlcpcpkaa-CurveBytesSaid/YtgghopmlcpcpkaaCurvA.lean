/- A step of the proof: what a function of the program computes, or a plain law of numbers. -/
import Derived.Test.YtgghopmlcpcpkaaCurvN
import Derived.Test.YtgghopmlcpcpkaaEqPt
import Derived.Test.YtgghopmlcpcpkaaRayM
import Derived.Test.YtgghopmlcpcpkaaRowLib
import Derived.Test.YtgghopmlcpcpkaaSecp
import Derived.Test.YtgghopmlcpcpkaaInvLaw
namespace Go.Proofs.Ytgghopmlcpcpkaa
open Go.RowKit PlainK
set_option linter.unusedVariables false
set_option linter.unusedSimpArgs false
theorem W4_PP : W4 18446744069414583343 18446744073709551615 18446744073709551615 18446744073709551615 PP := ⟨by decide +kernel, by decide +kernel, by decide +kernel, by decide +kernel, PP_lt⟩
theorem W4_NN : W4 13822214165235122497 13451932020343611451 18446744073709551614 18446744073709551615 NN := ⟨by decide +kernel, by decide +kernel, by decide +kernel, by decide +kernel, NN_lt⟩
theorem prime_any (w : World) : Calls Try.prog 73 #[] w fun e w' => ∃ g, w.heap.size ≤ g ∧ e = .returned (.pointer (some ⟨g, 0, none⟩)) ∧ IsF w' g PP ∧ Below w.heap.size w w' := by
  go_enter Try.func73, Try.ntmps73
  go_wp2_with fail
  refine (newF_any W4_PP _ PP_odd (by decide +kernel)).mono ?_
  rintro e V1 ⟨g, hg, rfl, hF, hb⟩
  go_wp2_with fail
  refine bodyPost_ret (v := _) (by simp [results, Try.results73, go_sem]; rfl) rfl ?_
  exact ⟨g, hg, rfl, hF, hb⟩
theorem order_any (w : World) : Calls Try.prog 41 #[] w fun e w' => ∃ g, w.heap.size ≤ g ∧ e = .returned (.pointer (some ⟨g, 0, none⟩)) ∧ IsF w' g NN ∧ Below w.heap.size w w' := by
  go_enter Try.func41, Try.ntmps41
  go_wp2_with fail
  refine (newF_any W4_NN _ NN_odd (by decide +kernel)).mono ?_
  rintro e V1 ⟨g, hg, rfl, hF, hb⟩
  go_wp2_with fail
  refine bodyPost_ret (v := _) (by simp [results, Try.results41, go_sem]; rfl) rfl ?_
  exact ⟨g, hg, rfl, hF, hb⟩
/-- what Y times Y must be -/
def rightN (m x : Nat) : Nat := addf m (mulm m (mulm m x x) x) 7
set_option maxHeartbeats 4000000 in
theorem right_any {a0 a1 a2 a3 : Int} {x m g : Nat} (ha : W4 a0 a1 a2 a3 x) (w : World) (hF : IsF w g m) :
   Calls Try.prog 78 #[.pointer (some ⟨g, 0, none⟩), .agg #[.int .u64 a0, .int .u64 a1, .int .u64 a2, .int .u64 a3]] w fun e w' => e = .returned (.agg #[.int .u64 (w0 (rightN m x) : Nat), .int .u64 (w1 (rightN m x) : Nat), .int .u64 (w2 (rightN m x) : Nat), .int .u64 (w3 (rightN m x) : Nat)]) ∧ Below w.heap.size w w' := by
  obtain ⟨rfl, rfl, rfl, rfl, la⟩ := ha
  have hla := Lib.hid la
  have HF := Lib.hid hF
  have HM := Lib.hid hF.lt
  have hpos : 0 < m := by have := hF.three; omega
  have hgl := hF.lt'
  clear la hF
  go_enter Try.func78, Try.ntmps78
  go_upto_region 1 with fail
  obtain ⟨V0, hW⟩ : ∃ V, (w.alloc (.cells #[.int .u64 (w0 (x) : Nat), .int .u64 (w1 (x) : Nat), .int .u64 (w2 (x) : Nat), .int .u64 (w3 (x) : Nat)] 24)).alloc (.cells #[.int .u64 0, .int .u64 0, .int .u64 0, .int .u64 0] 24 (0, 0)) = V := ⟨_, rfl⟩
  rw [hW]
  have hA : V0.heap[w.heap.size]? = some (.cells #[.int .u64 (w0 (x) : Nat), .int .u64 (w1 (x) : Nat), .int .u64 (w2 (x) : Nat), .int .u64 (w3 (x) : Nat)] 24 (0, 0)) := by
    rw [← hW]; simp only [alloc_at, World.size_alloc]; repeat (first | rw [if_pos trivial] | rw [if_pos (by omega)] | rw [if_neg (by omega)])
  have hR : V0.heap[w.heap.size + 1]? = some (.cells #[.int .u64 0, .int .u64 0, .int .u64 0, .int .u64 0] 24 (0, 0)) := by
    rw [← hW]; simp only [alloc_at, World.size_alloc]; repeat (first | rw [if_pos trivial] | rw [if_pos (by omega)] | rw [if_neg (by omega)])
  have kk : Below w.heap.size w V0 := by
    rw [← hW]
    repeat (first | exact Below.refl _ _ | refine Below.drew ?_ | refine bal ?_ _)
  have fF := HF.out.keep kk
  clear hW
  have hQ := fF.blk
  try clear cA0 cA1 cA2 cA3
  obtain ⟨cA0, cA1, cA2, cA3⟩ := row4c hA
  have neRA : w.heap.size ≠ w.heap.size + 1 := by omega
  have nfRA := neRA.symm
  go_region_held3 (fun w' => w'.cell? ⟨w.heap.size, 0, none⟩ = some (.int .u64 (w0 (x) : Nat)) ∧ w'.cell? ⟨w.heap.size, 1, none⟩ = some (.int .u64 (w1 (x) : Nat)) ∧ w'.cell? ⟨w.heap.size, 2, none⟩ = some (.int .u64 (w2 (x) : Nat)) ∧ w'.cell? ⟨w.heap.size, 3, none⟩ = some (.int .u64 (w3 (x) : Nat))) (first | (with_reducible exact ⟨cA0, cA1, cA2, cA3⟩) | go_keep) (first | (go_at_call 26; refine (mulG_any (by first | exact W4.mk' hla.out | exact W4.mk' HM.out | exact W4.mk' (Nat.lt_trans (Nat.mod_lt _ hpos) HM.out) | exact W4.small (n := 1) rfl (by decide) | exact W4.small (n := 2) rfl (by decide) | exact W4.small (n := 3) rfl (by decide) | exact W4.small (n := 4) rfl (by decide) | exact W4.small (n := 5) rfl (by decide) | exact W4.small (n := 7) rfl (by decide)) (by first | exact W4.mk' hla.out | exact W4.mk' HM.out | exact W4.mk' (Nat.lt_trans (Nat.mod_lt _ hpos) HM.out) | exact W4.small (n := 1) rfl (by decide) | exact W4.small (n := 2) rfl (by decide) | exact W4.small (n := 3) rfl (by decide) | exact W4.small (n := 4) rfl (by decide) | exact W4.small (n := 5) rfl (by decide) | exact W4.small (n := 7) rfl (by decide)) _ (show IsF _ (g) (m) from (by first | exact fF | exact ⟨fF.blk, fF.odd, fF.three, fF.lt⟩ | exact ⟨ak fF.blk, fF.odd, fF.three, fF.lt⟩ | exact ⟨ak (ak fF.blk), fF.odd, fF.three, fF.lt⟩))).mono ?_; rintro e W ⟨rfl, hb⟩; (first | replace hA := below_get hb hA | replace hA := below_get hb (ak hA)); (first | replace hR := below_get hb hR | replace hR := below_get hb (ak hR)); (replace kk := bcl (by first | exact kk | exact kk.drew | exact bal kk _ | exact (bal kk _).drew) hb); (replace fF := HF.out.keep kk); (replace hQ := fF.blk); (try clear cA0 cA1 cA2 cA3); (obtain ⟨cA0, cA1, cA2, cA3⟩ := row4c hA); (try clear cR0 cR1 cR2 cR3); (obtain ⟨cR0, cR1, cR2, cR3⟩ := row4c hR); (obtain ⟨zR0, zR1, zR2, zR3⟩ := row4z hR); clear hb) | (go_at_call 17; refine (of_any _ _).mono ?_; rintro e W ⟨rfl, hb⟩; (first | replace hA := below_get hb hA | replace hA := below_get hb (ak hA)); (first | replace hR := below_get hb hR | replace hR := below_get hb (ak hR)); (replace kk := bcl (by first | exact kk | exact kk.drew | exact bal kk _ | exact (bal kk _).drew) hb); (replace fF := HF.out.keep kk); (replace hQ := fF.blk); (try clear cA0 cA1 cA2 cA3); (obtain ⟨cA0, cA1, cA2, cA3⟩ := row4c hA); (try clear cR0 cR1 cR2 cR3); (obtain ⟨cR0, cR1, cR2, cR3⟩ := row4c hR); (obtain ⟨zR0, zR1, zR2, zR3⟩ := row4z hR); clear hb) | (go_at_call 32; refine (addG_any (by first | exact W4.mk' hla.out | exact W4.mk' HM.out | exact W4.mk' (Nat.lt_trans (Nat.mod_lt _ hpos) HM.out) | exact W4.small (n := 1) rfl (by decide) | exact W4.small (n := 2) rfl (by decide) | exact W4.small (n := 3) rfl (by decide) | exact W4.small (n := 4) rfl (by decide) | exact W4.small (n := 5) rfl (by decide) | exact W4.small (n := 7) rfl (by decide)) (by first | exact W4.mk' hla.out | exact W4.mk' HM.out | exact W4.mk' (Nat.lt_trans (Nat.mod_lt _ hpos) HM.out) | exact W4.small (n := 1) rfl (by decide) | exact W4.small (n := 2) rfl (by decide) | exact W4.small (n := 3) rfl (by decide) | exact W4.small (n := 4) rfl (by decide) | exact W4.small (n := 5) rfl (by decide) | exact W4.small (n := 7) rfl (by decide)) _ (show IsF _ (g) (m) from (by first | exact fF | exact ⟨fF.blk, fF.odd, fF.three, fF.lt⟩ | exact ⟨ak fF.blk, fF.odd, fF.three, fF.lt⟩ | exact ⟨ak (ak fF.blk), fF.odd, fF.three, fF.lt⟩))).mono ?_; rintro e W ⟨rfl, hb⟩; (first | replace hA := below_get hb hA | replace hA := below_get hb (ak hA)); (first | replace hR := below_get hb hR | replace hR := below_get hb (ak hR)); (replace kk := bcl (by first | exact kk | exact kk.drew | exact bal kk _ | exact (bal kk _).drew) hb); (replace fF := HF.out.keep kk); (replace hQ := fF.blk); (try clear cA0 cA1 cA2 cA3); (obtain ⟨cA0, cA1, cA2, cA3⟩ := row4c hA); (try clear cR0 cR1 cR2 cR3); (obtain ⟨cR0, cR1, cR2, cR3⟩ := row4c hR); (obtain ⟨zR0, zR1, zR2, zR3⟩ := row4z hR); clear hb))
  go_simp
  go_wp2_with fail
  have P := put4 (.int .u64 (w0 (addf m (mulm m (mulm m x x) x) 7) : Nat)) (.int .u64 (w1 (addf m (mulm m (mulm m x x) x) 7) : Nat)) (.int .u64 (w2 (addf m (mulm m (mulm m x x) x) 7) : Nat)) (.int .u64 (w3 (addf m (mulm m (mulm m x x) x) 7) : Nat)) hR
  replace P := put_hid P
  obtain ⟨V9, hV9, P⟩ := P
  rw [hV9]
  have k9 := P.below (by omega) kk
  have P9 := P.here
  obtain ⟨v0, v1, v2, v3⟩ := row4c P9
  refine bodyPost_ret (v := _) (by simp [results, Try.results78, go_sem, v0, v1, v2, v3]; rfl) rfl ?_
  exact ⟨rfl, k9⟩
/-- a ray's point -/
def nptx (m : Nat) (t : T3) : Nat := mulm m t.x (mulm m (invN t.z m) (invN t.z m))
def npty (m : Nat) (t : T3) : Nat := mulm m t.y (mulm m (mulm m (invN t.z m) (invN t.z m)) (invN t.z m))
set_option maxHeartbeats 4000000 in
theorem point_none {a0 a1 a2 a3 b0 b1 b2 b3 c0 c1 c2 c3 : Int} {t : T3} {m g : Nat} (ha : W4 a0 a1 a2 a3 t.x) (hb : W4 b0 b1 b2 b3 t.y) (hc : W4 c0 c1 c2 c3 t.z) (w : World) (hF : IsF w g m) (hz : t.z % m = 0) :
   Calls Try.prog 77 #[.agg #[.int .u64 a0, .int .u64 a1, .int .u64 a2, .int .u64 a3, .int .u64 b0, .int .u64 b1, .int .u64 b2, .int .u64 b3, .int .u64 c0, .int .u64 c1, .int .u64 c2, .int .u64 c3], .pointer (some ⟨g, 0, none⟩)] w fun e w' => e = .returned (.agg #[.int .u64 0, .int .u64 0, .int .u64 0, .int .u64 0, .int .u64 0, .int .u64 0, .int .u64 0, .int .u64 0, .bool true]) ∧ Below w.heap.size w w' := by
  obtain ⟨x, y, z⟩ := t
  obtain ⟨rfl, rfl, rfl, rfl, la⟩ := ha
  obtain ⟨rfl, rfl, rfl, rfl, lb⟩ := hb
  obtain ⟨rfl, rfl, rfl, rfl, lc⟩ := hc
  dsimp only at la lb lc hz ⊢
  have hlc := Lib.hid lc
  have HF := Lib.hid hF
  have hgl := hF.lt'
  have HE := Lib.hid (invE_zero z m hz)
  clear la lb lc hF hz
  go_enter Try.func77, Try.ntmps77
  go_upto_region 1 with fail
  obtain ⟨V0, hW⟩ : ∃ V, (w.alloc (.cells #[.int .u64 (w0 (x) : Nat), .int .u64 (w1 (x) : Nat), .int .u64 (w2 (x) : Nat), .int .u64 (w3 (x) : Nat), .int .u64 (w0 (y) : Nat), .int .u64 (w1 (y) : Nat), .int .u64 (w2 (y) : Nat), .int .u64 (w3 (y) : Nat), .int .u64 (w0 (z) : Nat), .int .u64 (w1 (z) : Nat), .int .u64 (w2 (z) : Nat), .int .u64 (w3 (z) : Nat)] 103)).alloc (.cells #[.int .u64 0, .int .u64 0, .int .u64 0, .int .u64 0, .int .u64 0, .int .u64 0, .int .u64 0, .int .u64 0, .bool false] 52) = V := ⟨_, rfl⟩
  rw [hW]
  have hA : V0.heap[w.heap.size]? = some (.cells #[.int .u64 (w0 (x) : Nat), .int .u64 (w1 (x) : Nat), .int .u64 (w2 (x) : Nat), .int .u64 (w3 (x) : Nat), .int .u64 (w0 (y) : Nat), .int .u64 (w1 (y) : Nat), .int .u64 (w2 (y) : Nat), .int .u64 (w3 (y) : Nat), .int .u64 (w0 (z) : Nat), .int .u64 (w1 (z) : Nat), .int .u64 (w2 (z) : Nat), .int .u64 (w3 (z) : Nat)] 103 (0, 0)) := by
    rw [← hW]; simp only [alloc_at, World.size_alloc]; repeat (first | rw [if_pos trivial] | rw [if_pos (by omega)] | rw [if_neg (by omega)])
  have hR : V0.heap[w.heap.size + 1]? = some (.cells #[.int .u64 0, .int .u64 0, .int .u64 0, .int .u64 0, .int .u64 0, .int .u64 0, .int .u64 0, .int .u64 0, .bool false] 52 (0, 0)) := by
    rw [← hW]; simp only [alloc_at, World.size_alloc]; repeat (first | rw [if_pos trivial] | rw [if_pos (by omega)] | rw [if_neg (by omega)])
  have kk : Below w.heap.size w V0 := by
    rw [← hW]
    repeat (first | exact Below.refl _ _ | refine Below.drew ?_ | refine bal ?_ _)
  have fF := HF.out.keep kk
  clear hW
  obtain ⟨cA0, cA1, cA2, cA3, cA4, cA5, cA6, cA7, cA8, cA9, cA10, cA11⟩ := row12c hA
  obtain ⟨zA0, zA1, zA2, zA3, zA4, zA5, zA6, zA7, zA8, zA9, zA10, zA11⟩ := row12z hA
  go_wp2_with fail
  refine (inv_any (W4.mk' hlc.out) _ fF).mono ?_
  rintro e V1 ⟨rfl, hb⟩
  replace hA := below_get hb hA
  replace hR := below_get hb hR
  replace kk := bcl (by first | exact kk | exact kk.drew | exact below_drewN kk _) hb
  replace fF := HF.out.keep kk
  clear cA0 zA0 cA1 zA1 cA2 zA2 cA3 zA3 cA4 zA4 cA5 zA5 cA6 zA6 cA7 zA7 cA8 zA8 cA9 zA9 cA10 zA10 cA11 zA11
  clear hb
  rw [HE.out]
  go_upto_region 2 with fail
  obtain ⟨V2, hW⟩ : ∃ V, V1.alloc (.cells #[.int .u64 (w0 (invN z m) : Nat), .int .u64 (w1 (invN z m) : Nat), .int .u64 (w2 (invN z m) : Nat), .int .u64 (w3 (invN z m) : Nat)] 24 (0, 0)) = V := ⟨_, rfl⟩
  rw [hW]
  obtain ⟨d5, hbx⟩ : ∃ n, V1.heap.size = n := ⟨_, rfl⟩
  rw [hbx]
  have hNEW : V2.heap[d5]? = some (.cells #[.int .u64 (w0 (invN z m) : Nat), .int .u64 (w1 (invN z m) : Nat), .int .u64 (w2 (invN z m) : Nat), .int .u64 (w3 (invN z m) : Nat)] 24 (0, 0)) := by rw [← hW, ← hbx]; exact heap_alloc_new _ _
  have lD5A : w.heap.size < d5 := by rw [← hbx]; exact lt_of_heap hA
  replace hA : V2.heap[w.heap.size]? = some (.cells #[.int .u64 (w0 (x) : Nat), .int .u64 (w1 (x) : Nat), .int .u64 (w2 (x) : Nat), .int .u64 (w3 (x) : Nat), .int .u64 (w0 (y) : Nat), .int .u64 (w1 (y) : Nat), .int .u64 (w2 (y) : Nat), .int .u64 (w3 (y) : Nat), .int .u64 (w0 (z) : Nat), .int .u64 (w1 (z) : Nat), .int .u64 (w2 (z) : Nat), .int .u64 (w3 (z) : Nat)] 103 (0, 0)) := by rw [← hW]; exact ak hA
  have lD5R : w.heap.size + 1 < d5 := by rw [← hbx]; exact lt_of_heap hR
  replace hR : V2.heap[w.heap.size + 1]? = some (.cells #[.int .u64 0, .int .u64 0, .int .u64 0, .int .u64 0, .int .u64 0, .int .u64 0, .int .u64 0, .int .u64 0, .bool false] 52 (0, 0)) := by rw [← hW]; exact ak hR
  have lD5 : w.heap.size ≤ d5 := by rw [← hbx]; exact kk.size
  replace kk : Below w.heap.size w V2 := by rw [← hW]; exact bal kk _
  have hD5 := hNEW
  replace fF := HF.out.keep kk
  clear hNEW hW hbx
  obtain ⟨cR0, cR1, cR2, cR3, cR4, cR5, cR6, cR7, cR8⟩ := row9c hR
  obtain ⟨zR0, zR1, zR2, zR3, zR4, zR5, zR6, zR7, zR8⟩ := row9z hR
  go_wp2_with fail
  have P := put9 (.int .u64 0) (.int .u64 0) (.int .u64 0) (.int .u64 0) (.int .u64 0) (.int .u64 0) (.int .u64 0) (.int .u64 0) (.bool true) hR
  replace P := put_hid P
  obtain ⟨V9, hV9, P⟩ := P
  rw [hV9]
  have P9 := P.here
  have k9 := P.below (by omega) (show Below w.heap.size w V2 from by first | exact kk | exact kk.drew | exact below_drewN kk _)
  obtain ⟨v0, v1, v2, v3, v4, v5, v6, v7, v8⟩ := row9c P9
  refine bodyPost_ret (v := _) (by simp [results, Try.results77, go_sem, v0, v1, v2, v3, v4, v5, v6, v7, v8]; rfl) rfl ?_
  exact ⟨rfl, k9⟩
set_option maxHeartbeats 4000000 in
theorem point_pt {a0 a1 a2 a3 b0 b1 b2 b3 c0 c1 c2 c3 : Int} {t : T3} {m g : Nat} (ha : W4 a0 a1 a2 a3 t.x) (hb : W4 b0 b1 b2 b3 t.y) (hc : W4 c0 c1 c2 c3 t.z) (w : World) (hF : IsF w g m) (hz : ¬ t.z % m = 0) :
   Calls Try.prog 77 #[.agg #[.int .u64 a0, .int .u64 a1, .int .u64 a2, .int .u64 a3, .int .u64 b0, .int .u64 b1, .int .u64 b2, .int .u64 b3, .int .u64 c0, .int .u64 c1, .int .u64 c2, .int .u64 c3], .pointer (some ⟨g, 0, none⟩)] w fun e w' => e = .returned (.agg #[.int .u64 (w0 (nptx m t) : Nat), .int .u64 (w1 (nptx m t) : Nat), .int .u64 (w2 (nptx m t) : Nat), .int .u64 (w3 (nptx m t) : Nat), .int .u64 (w0 (npty m t) : Nat), .int .u64 (w1 (npty m t) : Nat), .int .u64 (w2 (npty m t) : Nat), .int .u64 (w3 (npty m t) : Nat), .bool false]) ∧ Below w.heap.size w w' := by
  obtain ⟨x, y, z⟩ := t
  obtain ⟨rfl, rfl, rfl, rfl, la⟩ := ha
  obtain ⟨rfl, rfl, rfl, rfl, lb⟩ := hb
  obtain ⟨rfl, rfl, rfl, rfl, lc⟩ := hc
  dsimp only at la lb lc hz ⊢
  have hla := Lib.hid la
  have hlb := Lib.hid lb
  have hlc := Lib.hid lc
  have HF := Lib.hid hF
  have HM := Lib.hid hF.lt
  have hpos : 0 < m := by have := hF.three; omega
  have hgl := hF.lt'
  have HE := Lib.hid (invE_not z m hz)
  have Gi := Lib.hid (invN_lt (a := z) HM.out hpos)
  clear la lb lc hF hz
  go_enter Try.func77, Try.ntmps77
  go_upto_region 1 with fail
  obtain ⟨V0, hW⟩ : ∃ V, (w.alloc (.cells #[.int .u64 (w0 (x) : Nat), .int .u64 (w1 (x) : Nat), .int .u64 (w2 (x) : Nat), .int .u64 (w3 (x) : Nat), .int .u64 (w0 (y) : Nat), .int .u64 (w1 (y) : Nat), .int .u64 (w2 (y) : Nat), .int .u64 (w3 (y) : Nat), .int .u64 (w0 (z) : Nat), .int .u64 (w1 (z) : Nat), .int .u64 (w2 (z) : Nat), .int .u64 (w3 (z) : Nat)] 103)).alloc (.cells #[.int .u64 0, .int .u64 0, .int .u64 0, .int .u64 0, .int .u64 0, .int .u64 0, .int .u64 0, .int .u64 0, .bool false] 52) = V := ⟨_, rfl⟩
  rw [hW]
  have hA : V0.heap[w.heap.size]? = some (.cells #[.int .u64 (w0 (x) : Nat), .int .u64 (w1 (x) : Nat), .int .u64 (w2 (x) : Nat), .int .u64 (w3 (x) : Nat), .int .u64 (w0 (y) : Nat), .int .u64 (w1 (y) : Nat), .int .u64 (w2 (y) : Nat), .int .u64 (w3 (y) : Nat), .int .u64 (w0 (z) : Nat), .int .u64 (w1 (z) : Nat), .int .u64 (w2 (z) : Nat), .int .u64 (w3 (z) : Nat)] 103 (0, 0)) := by
    rw [← hW]; simp only [alloc_at, World.size_alloc]; repeat (first | rw [if_pos trivial] | rw [if_pos (by omega)] | rw [if_neg (by omega)])
  have hR : V0.heap[w.heap.size + 1]? = some (.cells #[.int .u64 0, .int .u64 0, .int .u64 0, .int .u64 0, .int .u64 0, .int .u64 0, .int .u64 0, .int .u64 0, .bool false] 52 (0, 0)) := by
    rw [← hW]; simp only [alloc_at, World.size_alloc]; repeat (first | rw [if_pos trivial] | rw [if_pos (by omega)] | rw [if_neg (by omega)])
  have kk : Below w.heap.size w V0 := by
    rw [← hW]
    repeat (first | exact Below.refl _ _ | refine Below.drew ?_ | refine bal ?_ _)
  have fF := HF.out.keep kk
  clear hW
  obtain ⟨cA0, cA1, cA2, cA3, cA4, cA5, cA6, cA7, cA8, cA9, cA10, cA11⟩ := row12c hA
  obtain ⟨zA0, zA1, zA2, zA3, zA4, zA5, zA6, zA7, zA8, zA9, zA10, zA11⟩ := row12z hA
  go_wp2_with fail
  refine (inv_any (W4.mk' hlc.out) _ fF).mono ?_
  rintro e V1 ⟨rfl, hb⟩
  replace hA := below_get hb hA
  replace hR := below_get hb hR
  replace kk := bcl (by first | exact kk | exact kk.drew | exact below_drewN kk _) hb
  replace fF := HF.out.keep kk
  clear cA0 zA0 cA1 zA1 cA2 zA2 cA3 zA3 cA4 zA4 cA5 zA5 cA6 zA6 cA7 zA7 cA8 zA8 cA9 zA9 cA10 zA10 cA11 zA11
  clear hb
  rw [HE.out]
  go_upto_region 2 with fail
  obtain ⟨V2, hW⟩ : ∃ V, V1.alloc (.cells #[.int .u64 (w0 (invN z m) : Nat), .int .u64 (w1 (invN z m) : Nat), .int .u64 (w2 (invN z m) : Nat), .int .u64 (w3 (invN z m) : Nat)] 24 (0, 0)) = V := ⟨_, rfl⟩
  rw [hW]
  obtain ⟨d5, hbx⟩ : ∃ n, V1.heap.size = n := ⟨_, rfl⟩
  rw [hbx]
  have hNEW : V2.heap[d5]? = some (.cells #[.int .u64 (w0 (invN z m) : Nat), .int .u64 (w1 (invN z m) : Nat), .int .u64 (w2 (invN z m) : Nat), .int .u64 (w3 (invN z m) : Nat)] 24 (0, 0)) := by rw [← hW, ← hbx]; exact heap_alloc_new _ _
  have lD5A : w.heap.size < d5 := by rw [← hbx]; exact lt_of_heap hA
  replace hA : V2.heap[w.heap.size]? = some (.cells #[.int .u64 (w0 (x) : Nat), .int .u64 (w1 (x) : Nat), .int .u64 (w2 (x) : Nat), .int .u64 (w3 (x) : Nat), .int .u64 (w0 (y) : Nat), .int .u64 (w1 (y) : Nat), .int .u64 (w2 (y) : Nat), .int .u64 (w3 (y) : Nat), .int .u64 (w0 (z) : Nat), .int .u64 (w1 (z) : Nat), .int .u64 (w2 (z) : Nat), .int .u64 (w3 (z) : Nat)] 103 (0, 0)) := by rw [← hW]; exact ak hA
  have lD5R : w.heap.size + 1 < d5 := by rw [← hbx]; exact lt_of_heap hR
  replace hR : V2.heap[w.heap.size + 1]? = some (.cells #[.int .u64 0, .int .u64 0, .int .u64 0, .int .u64 0, .int .u64 0, .int .u64 0, .int .u64 0, .int .u64 0, .bool false] 52 (0, 0)) := by rw [← hW]; exact ak hR
  have lD5 : w.heap.size ≤ d5 := by rw [← hbx]; exact kk.size
  replace kk : Below w.heap.size w V2 := by rw [← hW]; exact bal kk _
  have hD5 := hNEW
  replace fF := HF.out.keep kk
  clear hNEW hW hbx
  obtain ⟨cD50, cD51, cD52, cD53⟩ := row4c hD5
  obtain ⟨zD50, zD51, zD52, zD53⟩ := row4z hD5
  go_wp2_with fail
  refine (mulG_any (W4.mk' Gi.out) (W4.mk' Gi.out) _ fF).mono ?_
  rintro e V3 ⟨rfl, hb⟩
  replace hA := below_get hb hA
  replace hR := below_get hb hR
  replace hD5 := below_get hb hD5
  replace kk := bcl (by first | exact kk | exact kk.drew | exact below_drewN kk _) hb
  replace fF := HF.out.keep kk
  clear cD50 zD50 cD51 zD51 cD52 zD52 cD53 zD53
  clear hb
  go_upto_region 5 with fail
  obtain ⟨V4, hW⟩ : ∃ V, V3.alloc (.cells #[.int .u64 (w0 (mulm m (invN z m) (invN z m)) : Nat), .int .u64 (w1 (mulm m (invN z m) (invN z m)) : Nat), .int .u64 (w2 (mulm m (invN z m) (invN z m)) : Nat), .int .u64 (w3 (mulm m (invN z m) (invN z m)) : Nat)] 24 (0, 0)) = V := ⟨_, rfl⟩
  rw [hW]
  obtain ⟨d7, hbx⟩ : ∃ n, V3.heap.size = n := ⟨_, rfl⟩
  rw [hbx]
  have hNEW : V4.heap[d7]? = some (.cells #[.int .u64 (w0 (mulm m (invN z m) (invN z m)) : Nat), .int .u64 (w1 (mulm m (invN z m) (invN z m)) : Nat), .int .u64 (w2 (mulm m (invN z m) (invN z m)) : Nat), .int .u64 (w3 (mulm m (invN z m) (invN z m)) : Nat)] 24 (0, 0)) := by rw [← hW, ← hbx]; exact heap_alloc_new _ _
  have lD7A : w.heap.size < d7 := by rw [← hbx]; exact lt_of_heap hA
  replace hA : V4.heap[w.heap.size]? = some (.cells #[.int .u64 (w0 (x) : Nat), .int .u64 (w1 (x) : Nat), .int .u64 (w2 (x) : Nat), .int .u64 (w3 (x) : Nat), .int .u64 (w0 (y) : Nat), .int .u64 (w1 (y) : Nat), .int .u64 (w2 (y) : Nat), .int .u64 (w3 (y) : Nat), .int .u64 (w0 (z) : Nat), .int .u64 (w1 (z) : Nat), .int .u64 (w2 (z) : Nat), .int .u64 (w3 (z) : Nat)] 103 (0, 0)) := by rw [← hW]; exact ak hA
  have lD7R : w.heap.size + 1 < d7 := by rw [← hbx]; exact lt_of_heap hR
  replace hR : V4.heap[w.heap.size + 1]? = some (.cells #[.int .u64 0, .int .u64 0, .int .u64 0, .int .u64 0, .int .u64 0, .int .u64 0, .int .u64 0, .int .u64 0, .bool false] 52 (0, 0)) := by rw [← hW]; exact ak hR
  have lD7D5 : d5 < d7 := by rw [← hbx]; exact lt_of_heap hD5
  replace hD5 : V4.heap[d5]? = some (.cells #[.int .u64 (w0 (invN z m) : Nat), .int .u64 (w1 (invN z m) : Nat), .int .u64 (w2 (invN z m) : Nat), .int .u64 (w3 (invN z m) : Nat)] 24 (0, 0)) := by rw [← hW]; exact ak hD5
  have lD7 : w.heap.size ≤ d7 := by rw [← hbx]; exact kk.size
  replace kk : Below w.heap.size w V4 := by rw [← hW]; exact bal kk _
  have hD7 := hNEW
  replace fF := HF.out.keep kk
  clear hNEW hW hbx
  have hQ := fF.blk
  try clear cA0 cA1 cA2 cA3 cA4 cA5 cA6 cA7
  obtain ⟨cA0, cA1, cA2, cA3, cA4, cA5, cA6, cA7, -, -, -, -⟩ := row12c hA
  try clear cD50 cD51 cD52 cD53
  obtain ⟨cD50, cD51, cD52, cD53⟩ := row4c hD5
  try clear cD70 cD71 cD72 cD73
  obtain ⟨cD70, cD71, cD72, cD73⟩ := row4c hD7
  have neRA : w.heap.size ≠ w.heap.size + 1 := by omega
  have nfRA := neRA.symm
  have neRD5 : d5 ≠ w.heap.size + 1 := by omega
  have nfRD5 := neRD5.symm
  have neRD7 : d7 ≠ w.heap.size + 1 := by omega
  have nfRD7 := neRD7.symm
  go_region_held3 (fun w' => w'.cell? ⟨w.heap.size, 0, none⟩ = some (.int .u64 (w0 (x) : Nat)) ∧ w'.cell? ⟨w.heap.size, 1, none⟩ = some (.int .u64 (w1 (x) : Nat)) ∧ w'.cell? ⟨w.heap.size, 2, none⟩ = some (.int .u64 (w2 (x) : Nat)) ∧ w'.cell? ⟨w.heap.size, 3, none⟩ = some (.int .u64 (w3 (x) : Nat)) ∧ w'.cell? ⟨w.heap.size, 4, none⟩ = some (.int .u64 (w0 (y) : Nat)) ∧ w'.cell? ⟨w.heap.size, 5, none⟩ = some (.int .u64 (w1 (y) : Nat)) ∧ w'.cell? ⟨w.heap.size, 6, none⟩ = some (.int .u64 (w2 (y) : Nat)) ∧ w'.cell? ⟨w.heap.size, 7, none⟩ = some (.int .u64 (w3 (y) : Nat)) ∧ w'.cell? ⟨d5, 0, none⟩ = some (.int .u64 (w0 (invN z m) : Nat)) ∧ w'.cell? ⟨d5, 1, none⟩ = some (.int .u64 (w1 (invN z m) : Nat)) ∧ w'.cell? ⟨d5, 2, none⟩ = some (.int .u64 (w2 (invN z m) : Nat)) ∧ w'.cell? ⟨d5, 3, none⟩ = some (.int .u64 (w3 (invN z m) : Nat)) ∧ w'.cell? ⟨d7, 0, none⟩ = some (.int .u64 (w0 (mulm m (invN z m) (invN z m)) : Nat)) ∧ w'.cell? ⟨d7, 1, none⟩ = some (.int .u64 (w1 (mulm m (invN z m) (invN z m)) : Nat)) ∧ w'.cell? ⟨d7, 2, none⟩ = some (.int .u64 (w2 (mulm m (invN z m) (invN z m)) : Nat)) ∧ w'.cell? ⟨d7, 3, none⟩ = some (.int .u64 (w3 (mulm m (invN z m) (invN z m)) : Nat))) (first | (with_reducible exact ⟨cA0, cA1, cA2, cA3, cA4, cA5, cA6, cA7, cD50, cD51, cD52, cD53, cD70, cD71, cD72, cD73⟩) | go_keep) (first | (go_at_call 26; refine (mulG_any (by first | exact W4.mk' hla.out | exact W4.mk' hlb.out | exact W4.mk' hlc.out | exact W4.mk' Gi.out | exact W4.mk' HM.out | exact W4.mk' (Nat.lt_trans (Nat.mod_lt _ hpos) HM.out) | exact W4.small (n := 1) rfl (by decide) | exact W4.small (n := 2) rfl (by decide) | exact W4.small (n := 3) rfl (by decide) | exact W4.small (n := 4) rfl (by decide) | exact W4.small (n := 5) rfl (by decide) | exact W4.small (n := 7) rfl (by decide)) (by first | exact W4.mk' hla.out | exact W4.mk' hlb.out | exact W4.mk' hlc.out | exact W4.mk' Gi.out | exact W4.mk' HM.out | exact W4.mk' (Nat.lt_trans (Nat.mod_lt _ hpos) HM.out) | exact W4.small (n := 1) rfl (by decide) | exact W4.small (n := 2) rfl (by decide) | exact W4.small (n := 3) rfl (by decide) | exact W4.small (n := 4) rfl (by decide) | exact W4.small (n := 5) rfl (by decide) | exact W4.small (n := 7) rfl (by decide)) _ (show IsF _ (g) (m) from (by first | exact fF | exact ⟨fF.blk, fF.odd, fF.three, fF.lt⟩ | exact ⟨ak fF.blk, fF.odd, fF.three, fF.lt⟩ | exact ⟨ak (ak fF.blk), fF.odd, fF.three, fF.lt⟩))).mono ?_; rintro e W ⟨rfl, hb⟩; (first | replace hA := below_get hb hA | replace hA := below_get hb (ak hA)); (first | replace hR := below_get hb hR | replace hR := below_get hb (ak hR)); (first | replace hD5 := below_get hb hD5 | replace hD5 := below_get hb (ak hD5)); (first | replace hD7 := below_get hb hD7 | replace hD7 := below_get hb (ak hD7)); (replace kk := bcl (by first | exact kk | exact kk.drew | exact bal kk _ | exact (bal kk _).drew) hb); (replace fF := HF.out.keep kk); (replace hQ := fF.blk); (try clear cA0 cA1 cA2 cA3 cA4 cA5 cA6 cA7); (obtain ⟨cA0, cA1, cA2, cA3, cA4, cA5, cA6, cA7, -, -, -, -⟩ := row12c hA); (try clear cD50 cD51 cD52 cD53); (obtain ⟨cD50, cD51, cD52, cD53⟩ := row4c hD5); (try clear cD70 cD71 cD72 cD73); (obtain ⟨cD70, cD71, cD72, cD73⟩ := row4c hD7); (try clear cR0 cR1 cR2 cR3 cR4 cR5 cR6 cR7 cR8); (obtain ⟨cR0, cR1, cR2, cR3, cR4, cR5, cR6, cR7, cR8⟩ := row9c hR); (obtain ⟨zR0, zR1, zR2, zR3, zR4, zR5, zR6, zR7, zR8⟩ := row9z hR); clear hb))
  go_simp
  go_wp2_with fail
  have P := put9 (.int .u64 (w0 (mulm m x (mulm m (invN z m) (invN z m))) : Nat)) (.int .u64 (w1 (mulm m x (mulm m (invN z m) (invN z m))) : Nat)) (.int .u64 (w2 (mulm m x (mulm m (invN z m) (invN z m))) : Nat)) (.int .u64 (w3 (mulm m x (mulm m (invN z m) (invN z m))) : Nat)) (.int .u64 (w0 (mulm m y (mulm m (mulm m (invN z m) (invN z m)) (invN z m))) : Nat)) (.int .u64 (w1 (mulm m y (mulm m (mulm m (invN z m) (invN z m)) (invN z m))) : Nat)) (.int .u64 (w2 (mulm m y (mulm m (mulm m (invN z m) (invN z m)) (invN z m))) : Nat)) (.int .u64 (w3 (mulm m y (mulm m (mulm m (invN z m) (invN z m)) (invN z m))) : Nat)) (.bool false) hR
  replace P := put_hid P
  obtain ⟨V9, hV9, P⟩ := P
  rw [hV9]
  have P9 := P.here
  have k9 := P.below (by omega) (show Below w.heap.size w W from by first | exact kk | exact kk.drew | exact below_drewN kk _)
  obtain ⟨v0, v1, v2, v3, v4, v5, v6, v7, v8⟩ := row9c P9
  refine bodyPost_ret (v := _) (by simp [results, Try.results77, go_sem, v0, v1, v2, v3, v4, v5, v6, v7, v8]; rfl) rfl ?_
  exact ⟨rfl, k9⟩
end Go.Proofs.Ytgghopmlcpcpkaa
