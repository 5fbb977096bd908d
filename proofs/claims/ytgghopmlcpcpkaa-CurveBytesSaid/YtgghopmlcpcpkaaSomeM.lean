/- A step of the proof: what a function of the program computes, or a plain law of numbers. -/
import Derived.Test.YtgghopmlcpcpkaaNegM
import Derived.Test.YtgghopmlcpcpkaaCurvP
namespace Go.Proofs.Ytgghopmlcpcpkaa
open Go.RowKit PlainK
set_option linter.unusedVariables false
set_option linter.unusedSimpArgs false
def liftOk (x : Nat) : Bool := decide (x < PP) && rootB (rightN PP x) PP
def liftY (x : Nat) (odd : Bool) : Nat := if decide (rootN (rightN PP x) PP % 2 = 1) = odd then rootN (rightN PP x) PP else subf PP 0 (rootN (rightN PP x) PP)
set_option maxRecDepth 10000 in
set_option maxHeartbeats 4000000 in
theorem lift_far {a0 a1 a2 a3 : Int} {x : Nat} (odd : Bool) (ha : W4 a0 a1 a2 a3 x) (hx : ¬ x < PP) (w : World) :
   Calls Try.prog 72 #[.agg #[.int .u64 a0, .int .u64 a1, .int .u64 a2, .int .u64 a3], .bool odd] w fun e w' => e = .returned (.tuple #[.agg #[.int .u64 0, .int .u64 0, .int .u64 0, .int .u64 0, .int .u64 0, .int .u64 0, .int .u64 0, .int .u64 0, .bool false], .int .i64 1]) ∧ Below w.heap.size w w' := by
  obtain ⟨rfl, rfl, rfl, rfl, la⟩ := ha
  have hla := Lib.hid la
  clear la
  have hpos : 0 < PP := Nat.lt_trans (by decide) PP_pos
  have HM := Lib.hid PP_lt
  go_enter Try.func72, Try.ntmps72
  go_upto_region 1 with fail
  obtain ⟨V0, hW⟩ : ∃ V, (w.alloc (.cells #[.int .u64 (w0 (x) : Nat), .int .u64 (w1 (x) : Nat), .int .u64 (w2 (x) : Nat), .int .u64 (w3 (x) : Nat)] 24)).alloc (.cells #[.int .u64 0, .int .u64 0, .int .u64 0, .int .u64 0, .int .u64 0, .int .u64 0, .int .u64 0, .int .u64 0, .bool false] 52) = V := ⟨_, rfl⟩
  rw [hW]
  have hA : V0.heap[w.heap.size]? = some (.cells #[.int .u64 (w0 (x) : Nat), .int .u64 (w1 (x) : Nat), .int .u64 (w2 (x) : Nat), .int .u64 (w3 (x) : Nat)] 24 (0, 0)) := by
    rw [← hW]; simp only [alloc_at, World.size_alloc]; repeat (first | rw [if_pos trivial] | rw [if_pos (by omega)] | rw [if_neg (by omega)])
  have hR : V0.heap[w.heap.size + 1]? = some (.cells #[.int .u64 0, .int .u64 0, .int .u64 0, .int .u64 0, .int .u64 0, .int .u64 0, .int .u64 0, .int .u64 0, .bool false] 52 (0, 0)) := by
    rw [← hW]; simp only [alloc_at, World.size_alloc]; repeat (first | rw [if_pos trivial] | rw [if_pos (by omega)] | rw [if_neg (by omega)])
  have kk : Below w.heap.size w V0 := by
    rw [← hW]
    repeat (first | exact Below.refl _ _ | refine Below.drew ?_ | refine bal ?_ _)
  clear hW
  go_wp2_with fail
  refine (prime_any _).mono ?_
  rintro e V1 ⟨g, hg, rfl, hF, hb⟩
  have lR := lt_of_heap hR
  replace hA := below_get hb hA
  replace hR := below_get hb hR
  replace kk := bcl (by first | exact kk | exact kk.drew | exact below_drewN kk _) hb
  clear hb
  have HF := Lib.hid hF
  have hQ := hF.blk
  have fF := hF
  clear hF
  go_upto_region 2 with fail
  rcases cmp_one hx with hcx | hcx
  all_goals
    clear hx
    try clear cA0 cA1 cA2 cA3
    obtain ⟨cA0, cA1, cA2, cA3⟩ := row4c hA
    go_region_held3 (fun w' => w'.cell? ⟨w.heap.size, 0, none⟩ = some (.int .u64 (w0 (x) : Nat)) ∧ w'.cell? ⟨w.heap.size, 1, none⟩ = some (.int .u64 (w1 (x) : Nat)) ∧ w'.cell? ⟨w.heap.size, 2, none⟩ = some (.int .u64 (w2 (x) : Nat)) ∧ w'.cell? ⟨w.heap.size, 3, none⟩ = some (.int .u64 (w3 (x) : Nat))) (first | (with_reducible exact ⟨cA0, cA1, cA2, cA3⟩) | go_keep) (first | (go_at_call 30; refine (modulus_any _ (show IsF _ (g) (PP) from (by first | exact fF | exact ⟨fF.blk, fF.odd, fF.three, fF.lt⟩ | exact ⟨ak fF.blk, fF.odd, fF.three, fF.lt⟩ | exact ⟨ak (ak fF.blk), fF.odd, fF.three, fF.lt⟩))).mono ?_; rintro e W ⟨rfl, hb⟩; (first | replace hA := below_get hb hA | replace hA := below_get hb (ak hA)); (first | replace hR := below_get hb hR | replace hR := below_get hb (ak hR)); (first | replace hQ := below_get hb hQ | replace hQ := below_get hb (ak hQ)); (replace kk := bcl (by first | exact kk | exact kk.drew | exact bal kk _ | exact (bal kk _).drew) hb); (replace fF := IsF.of HF.out hQ); (try clear cA0 cA1 cA2 cA3); (obtain ⟨cA0, cA1, cA2, cA3⟩ := row4c hA); clear hb) | (go_at_call 50; refine (cmp_any (by first | exact W4.mk' hla.out | exact W4.mk' HM.out | exact W4.mk' (Nat.lt_trans (Nat.mod_lt _ hpos) HM.out) | exact W4.zero | exact W4.small (n := 1) rfl (by decide) | exact W4.small (n := 2) rfl (by decide) | exact W4.small (n := 3) rfl (by decide) | exact W4.small (n := 4) rfl (by decide) | exact W4.small (n := 5) rfl (by decide) | exact W4.small (n := 7) rfl (by decide)) (by first | exact W4.mk' hla.out | exact W4.mk' HM.out | exact W4.mk' (Nat.lt_trans (Nat.mod_lt _ hpos) HM.out) | exact W4.zero | exact W4.small (n := 1) rfl (by decide) | exact W4.small (n := 2) rfl (by decide) | exact W4.small (n := 3) rfl (by decide) | exact W4.small (n := 4) rfl (by decide) | exact W4.small (n := 5) rfl (by decide) | exact W4.small (n := 7) rfl (by decide)) _).mono ?_; rintro e W ⟨rfl, hb⟩; (first | replace hA := below_get hb hA | replace hA := below_get hb (ak hA)); (first | replace hR := below_get hb hR | replace hR := below_get hb (ak hR)); (first | replace hQ := below_get hb hQ | replace hQ := below_get hb (ak hQ)); (replace kk := bcl (by first | exact kk | exact kk.drew | exact bal kk _ | exact (bal kk _).drew) hb); (replace fF := IsF.of HF.out hQ); (try clear cA0 cA1 cA2 cA3); (obtain ⟨cA0, cA1, cA2, cA3⟩ := row4c hA); clear hb; rw [hcx]))
    go_simp
    obtain ⟨cR0, cR1, cR2, cR3, cR4, cR5, cR6, cR7, cR8⟩ := row9c hR
    obtain ⟨zR0, zR1, zR2, zR3, zR4, zR5, zR6, zR7, zR8⟩ := row9z hR
    go_wp2_with fail
    have P := put9 (.int .u64 0) (.int .u64 0) (.int .u64 0) (.int .u64 0) (.int .u64 0) (.int .u64 0) (.int .u64 0) (.int .u64 0) (.bool false) hR
    replace P := put_hid P
    obtain ⟨V9, hV9, P⟩ := P
    rw [hV9]
    have P9 := P.here
    have k9 := P.below (by omega) (show Below w.heap.size w W from by first | exact kk | exact kk.drew | exact below_drewN kk _)
    obtain ⟨v0, v1, v2, v3, v4, v5, v6, v7, v8⟩ := row9c P9
    refine bodyPost_ret (v := _) (by simp [results, Try.results72, go_sem, v0, v1, v2, v3, v4, v5, v6, v7, v8]; rfl) rfl ?_
    exact ⟨rfl, k9⟩
set_option maxRecDepth 10000 in
set_option maxHeartbeats 4000000 in
theorem lift_none {a0 a1 a2 a3 : Int} {x : Nat} (odd : Bool) (ha : W4 a0 a1 a2 a3 x) (hx : x < PP) (hB : rootB (rightN PP x) PP = false) (w : World) :
   Calls Try.prog 72 #[.agg #[.int .u64 a0, .int .u64 a1, .int .u64 a2, .int .u64 a3], .bool odd] w fun e w' => e = .returned (.tuple #[.agg #[.int .u64 0, .int .u64 0, .int .u64 0, .int .u64 0, .int .u64 0, .int .u64 0, .int .u64 0, .int .u64 0, .bool false], .int .i64 1]) ∧ Below w.heap.size w w' := by
  obtain ⟨rfl, rfl, rfl, rfl, la⟩ := ha
  have hla := Lib.hid la
  clear la
  have hpos : 0 < PP := Nat.lt_trans (by decide) PP_pos
  have HM := Lib.hid PP_lt
  go_enter Try.func72, Try.ntmps72
  go_upto_region 1 with fail
  obtain ⟨V0, hW⟩ : ∃ V, (w.alloc (.cells #[.int .u64 (w0 (x) : Nat), .int .u64 (w1 (x) : Nat), .int .u64 (w2 (x) : Nat), .int .u64 (w3 (x) : Nat)] 24)).alloc (.cells #[.int .u64 0, .int .u64 0, .int .u64 0, .int .u64 0, .int .u64 0, .int .u64 0, .int .u64 0, .int .u64 0, .bool false] 52) = V := ⟨_, rfl⟩
  rw [hW]
  have hA : V0.heap[w.heap.size]? = some (.cells #[.int .u64 (w0 (x) : Nat), .int .u64 (w1 (x) : Nat), .int .u64 (w2 (x) : Nat), .int .u64 (w3 (x) : Nat)] 24 (0, 0)) := by
    rw [← hW]; simp only [alloc_at, World.size_alloc]; repeat (first | rw [if_pos trivial] | rw [if_pos (by omega)] | rw [if_neg (by omega)])
  have hR : V0.heap[w.heap.size + 1]? = some (.cells #[.int .u64 0, .int .u64 0, .int .u64 0, .int .u64 0, .int .u64 0, .int .u64 0, .int .u64 0, .int .u64 0, .bool false] 52 (0, 0)) := by
    rw [← hW]; simp only [alloc_at, World.size_alloc]; repeat (first | rw [if_pos trivial] | rw [if_pos (by omega)] | rw [if_neg (by omega)])
  have kk : Below w.heap.size w V0 := by
    rw [← hW]
    repeat (first | exact Below.refl _ _ | refine Below.drew ?_ | refine bal ?_ _)
  clear hW
  go_wp2_with fail
  refine (prime_any _).mono ?_
  rintro e V1 ⟨g, hg, rfl, hF, hb⟩
  have lR := lt_of_heap hR
  replace hA := below_get hb hA
  replace hR := below_get hb hR
  replace kk := bcl (by first | exact kk | exact kk.drew | exact below_drewN kk _) hb
  clear hb
  have HF := Lib.hid hF
  have hQ := hF.blk
  have fF := hF
  clear hF
  go_upto_region 2 with fail
  have hcx := cmp_m hx
  clear hx
  try clear cA0 cA1 cA2 cA3
  obtain ⟨cA0, cA1, cA2, cA3⟩ := row4c hA
  go_region_held3 (fun w' => w'.cell? ⟨w.heap.size, 0, none⟩ = some (.int .u64 (w0 (x) : Nat)) ∧ w'.cell? ⟨w.heap.size, 1, none⟩ = some (.int .u64 (w1 (x) : Nat)) ∧ w'.cell? ⟨w.heap.size, 2, none⟩ = some (.int .u64 (w2 (x) : Nat)) ∧ w'.cell? ⟨w.heap.size, 3, none⟩ = some (.int .u64 (w3 (x) : Nat))) (first | (with_reducible exact ⟨cA0, cA1, cA2, cA3⟩) | go_keep) (first | (go_at_call 30; refine (modulus_any _ (show IsF _ (g) (PP) from (by first | exact fF | exact ⟨fF.blk, fF.odd, fF.three, fF.lt⟩ | exact ⟨ak fF.blk, fF.odd, fF.three, fF.lt⟩ | exact ⟨ak (ak fF.blk), fF.odd, fF.three, fF.lt⟩))).mono ?_; rintro e W ⟨rfl, hb⟩; (first | replace hA := below_get hb hA | replace hA := below_get hb (ak hA)); (first | replace hR := below_get hb hR | replace hR := below_get hb (ak hR)); (first | replace hQ := below_get hb hQ | replace hQ := below_get hb (ak hQ)); (replace kk := bcl (by first | exact kk | exact kk.drew | exact bal kk _ | exact (bal kk _).drew) hb); (replace fF := IsF.of HF.out hQ); (try clear cA0 cA1 cA2 cA3); (obtain ⟨cA0, cA1, cA2, cA3⟩ := row4c hA); clear hb) | (go_at_call 50; refine (cmp_any (by first | exact W4.mk' hla.out | exact W4.mk' HM.out | exact W4.mk' (Nat.lt_trans (Nat.mod_lt _ hpos) HM.out) | exact W4.zero | exact W4.small (n := 1) rfl (by decide) | exact W4.small (n := 2) rfl (by decide) | exact W4.small (n := 3) rfl (by decide) | exact W4.small (n := 4) rfl (by decide) | exact W4.small (n := 5) rfl (by decide) | exact W4.small (n := 7) rfl (by decide)) (by first | exact W4.mk' hla.out | exact W4.mk' HM.out | exact W4.mk' (Nat.lt_trans (Nat.mod_lt _ hpos) HM.out) | exact W4.zero | exact W4.small (n := 1) rfl (by decide) | exact W4.small (n := 2) rfl (by decide) | exact W4.small (n := 3) rfl (by decide) | exact W4.small (n := 4) rfl (by decide) | exact W4.small (n := 5) rfl (by decide) | exact W4.small (n := 7) rfl (by decide)) _).mono ?_; rintro e W ⟨rfl, hb⟩; (first | replace hA := below_get hb hA | replace hA := below_get hb (ak hA)); (first | replace hR := below_get hb hR | replace hR := below_get hb (ak hR)); (first | replace hQ := below_get hb hQ | replace hQ := below_get hb (ak hQ)); (replace kk := bcl (by first | exact kk | exact kk.drew | exact bal kk _ | exact (bal kk _).drew) hb); (replace fF := IsF.of HF.out hQ); (try clear cA0 cA1 cA2 cA3); (obtain ⟨cA0, cA1, cA2, cA3⟩ := row4c hA); clear hb; rw [hcx]))
  go_simp
  obtain ⟨cA0, cA1, cA2, cA3⟩ := row4c hA
  obtain ⟨zA0, zA1, zA2, zA3⟩ := row4z hA
  go_wp2_with fail
  refine (right_any (W4.mk' hla.out) _ fF).mono ?_
  rintro e V2 ⟨rfl, hb⟩
  replace hA := below_get hb hA
  replace hR := below_get hb hR
  replace hQ := below_get hb hQ
  replace kk := bcl (by first | exact kk | exact kk.drew | exact below_drewN kk _) hb
  replace fF := IsF.of HF.out hQ
  clear cA0 zA0 cA1 zA1 cA2 zA2 cA3 zA3
  clear hb
  obtain ⟨z, hz⟩ : ∃ z, rightN PP x = z := ⟨_, rfl⟩
  have HZ := Lib.hid hz
  have GZ := Lib.hid (show z < 2 ^ 256 by rw [← hz]; exact Nat.lt_trans (addf_lt hpos _ _) HM.out)
  rw [hz] at hB ⊢
  clear hz
  go_wp2_with fail
  refine (root_any (W4.mk' GZ.out) _ fF).mono ?_
  rintro e V3 ⟨rfl, hb⟩
  replace hA := below_get hb hA
  replace hR := below_get hb hR
  replace hQ := below_get hb hQ
  replace kk := bcl (by first | exact kk | exact kk.drew | exact below_drewN kk _) hb
  replace fF := IsF.of HF.out hQ
  clear hb
  rw [hB]
  clear hB
  obtain ⟨y, hy⟩ : ∃ y, rootN z PP = y := ⟨_, rfl⟩
  rw [hy]
  have HY := Lib.hid hy
  have GY := Lib.hid (show y < 2 ^ 256 by rw [← hy]; exact rootN_lt HM.out hpos)
  clear hy
  go_upto_region 5 with fail
  obtain ⟨V4, hW⟩ : ∃ V, V3.alloc (.cells #[.int .u64 (w0 (y) : Nat), .int .u64 (w1 (y) : Nat), .int .u64 (w2 (y) : Nat), .int .u64 (w3 (y) : Nat)] 24 (0, 0)) = V := ⟨_, rfl⟩
  rw [hW]
  obtain ⟨y7, hbx⟩ : ∃ n, V3.heap.size = n := ⟨_, rfl⟩
  rw [hbx]
  have hNEW : V4.heap[y7]? = some (.cells #[.int .u64 (w0 (y) : Nat), .int .u64 (w1 (y) : Nat), .int .u64 (w2 (y) : Nat), .int .u64 (w3 (y) : Nat)] 24 (0, 0)) := by rw [← hW, ← hbx]; exact heap_alloc_new _ _
  have lY7A : w.heap.size < y7 := by rw [← hbx]; exact lt_of_heap hA
  replace hA : V4.heap[w.heap.size]? = some (.cells #[.int .u64 (w0 (x) : Nat), .int .u64 (w1 (x) : Nat), .int .u64 (w2 (x) : Nat), .int .u64 (w3 (x) : Nat)] 24 (0, 0)) := by rw [← hW]; exact ak hA
  have lY7R : w.heap.size + 1 < y7 := by rw [← hbx]; exact lt_of_heap hR
  replace hR : V4.heap[w.heap.size + 1]? = some (.cells #[.int .u64 0, .int .u64 0, .int .u64 0, .int .u64 0, .int .u64 0, .int .u64 0, .int .u64 0, .int .u64 0, .bool false] 52 (0, 0)) := by rw [← hW]; exact ak hR
  have lY7Q : g < y7 := by rw [← hbx]; exact lt_of_heap hQ
  replace hQ : V4.heap[g]? = some (.cells #[.int .u64 (w0 (PP) : Nat), .int .u64 (w1 (PP) : Nat), .int .u64 (w2 (PP) : Nat), .int .u64 (w3 (PP) : Nat), .int .u64 (finv1 (PP) : Nat), .int .u64 (w0 (fsq (PP)) : Nat), .int .u64 (w1 (fsq (PP)) : Nat), .int .u64 (w2 (fsq (PP)) : Nat), .int .u64 (w3 (fsq (PP)) : Nat)] 90 (0, 0)) := by rw [← hW]; exact ak hQ
  have lY7 : w.heap.size ≤ y7 := by rw [← hbx]; exact kk.size
  replace kk : Below w.heap.size w V4 := by rw [← hW]; exact bal kk _
  have hY7 := hNEW
  replace fF := IsF.of HF.out hQ
  clear hNEW hW hbx
  obtain ⟨cR0, cR1, cR2, cR3, cR4, cR5, cR6, cR7, cR8⟩ := row9c hR
  obtain ⟨zR0, zR1, zR2, zR3, zR4, zR5, zR6, zR7, zR8⟩ := row9z hR
  go_wp2_with fail
  have P := put9 (.int .u64 0) (.int .u64 0) (.int .u64 0) (.int .u64 0) (.int .u64 0) (.int .u64 0) (.int .u64 0) (.int .u64 0) (.bool false) hR
  replace P := put_hid P
  obtain ⟨V9, hV9, P⟩ := P
  rw [hV9]
  have P9 := P.here
  have k9 := P.below (by omega) (show Below w.heap.size w V4 from by first | exact kk | exact kk.drew | exact below_drewN kk _)
  obtain ⟨v0, v1, v2, v3, v4, v5, v6, v7, v8⟩ := row9c P9
  refine bodyPost_ret (v := _) (by simp [results, Try.results72, go_sem, v0, v1, v2, v3, v4, v5, v6, v7, v8]; rfl) rfl ?_
  exact ⟨rfl, k9⟩
set_option maxRecDepth 10000 in
set_option maxHeartbeats 4000000 in
theorem lift_some {a0 a1 a2 a3 : Int} {x : Nat} (odd : Bool) (ha : W4 a0 a1 a2 a3 x) (hx : x < PP) (hB : rootB (rightN PP x) PP = true) (w : World) :
   Calls Try.prog 72 #[.agg #[.int .u64 a0, .int .u64 a1, .int .u64 a2, .int .u64 a3], .bool odd] w fun e w' => e = .returned (.tuple #[.agg #[.int .u64 (w0 (x) : Nat), .int .u64 (w1 (x) : Nat), .int .u64 (w2 (x) : Nat), .int .u64 (w3 (x) : Nat), .int .u64 (w0 (liftY x odd) : Nat), .int .u64 (w1 (liftY x odd) : Nat), .int .u64 (w2 (liftY x odd) : Nat), .int .u64 (w3 (liftY x odd) : Nat), .bool false], .int .i64 0]) ∧ Below w.heap.size w w' := by
  obtain ⟨rfl, rfl, rfl, rfl, la⟩ := ha
  have hla := Lib.hid la
  clear la
  have hpos : 0 < PP := Nat.lt_trans (by decide) PP_pos
  have HM := Lib.hid PP_lt
  go_enter Try.func72, Try.ntmps72
  go_upto_region 1 with fail
  obtain ⟨V0, hW⟩ : ∃ V, (w.alloc (.cells #[.int .u64 (w0 (x) : Nat), .int .u64 (w1 (x) : Nat), .int .u64 (w2 (x) : Nat), .int .u64 (w3 (x) : Nat)] 24)).alloc (.cells #[.int .u64 0, .int .u64 0, .int .u64 0, .int .u64 0, .int .u64 0, .int .u64 0, .int .u64 0, .int .u64 0, .bool false] 52) = V := ⟨_, rfl⟩
  rw [hW]
  have hA : V0.heap[w.heap.size]? = some (.cells #[.int .u64 (w0 (x) : Nat), .int .u64 (w1 (x) : Nat), .int .u64 (w2 (x) : Nat), .int .u64 (w3 (x) : Nat)] 24 (0, 0)) := by
    rw [← hW]; simp only [alloc_at, World.size_alloc]; repeat (first | rw [if_pos trivial] | rw [if_pos (by omega)] | rw [if_neg (by omega)])
  have hR : V0.heap[w.heap.size + 1]? = some (.cells #[.int .u64 0, .int .u64 0, .int .u64 0, .int .u64 0, .int .u64 0, .int .u64 0, .int .u64 0, .int .u64 0, .bool false] 52 (0, 0)) := by
    rw [← hW]; simp only [alloc_at, World.size_alloc]; repeat (first | rw [if_pos trivial] | rw [if_pos (by omega)] | rw [if_neg (by omega)])
  have kk : Below w.heap.size w V0 := by
    rw [← hW]
    repeat (first | exact Below.refl _ _ | refine Below.drew ?_ | refine bal ?_ _)
  clear hW
  go_wp2_with fail
  refine (prime_any _).mono ?_
  rintro e V1 ⟨g, hg, rfl, hF, hb⟩
  have lR := lt_of_heap hR
  replace hA := below_get hb hA
  replace hR := below_get hb hR
  replace kk := bcl (by first | exact kk | exact kk.drew | exact below_drewN kk _) hb
  clear hb
  have HF := Lib.hid hF
  have hQ := hF.blk
  have fF := hF
  clear hF
  go_upto_region 2 with fail
  have hcx := cmp_m hx
  clear hx
  try clear cA0 cA1 cA2 cA3
  obtain ⟨cA0, cA1, cA2, cA3⟩ := row4c hA
  go_region_held3 (fun w' => w'.cell? ⟨w.heap.size, 0, none⟩ = some (.int .u64 (w0 (x) : Nat)) ∧ w'.cell? ⟨w.heap.size, 1, none⟩ = some (.int .u64 (w1 (x) : Nat)) ∧ w'.cell? ⟨w.heap.size, 2, none⟩ = some (.int .u64 (w2 (x) : Nat)) ∧ w'.cell? ⟨w.heap.size, 3, none⟩ = some (.int .u64 (w3 (x) : Nat))) (first | (with_reducible exact ⟨cA0, cA1, cA2, cA3⟩) | go_keep) (first | (go_at_call 30; refine (modulus_any _ (show IsF _ (g) (PP) from (by first | exact fF | exact ⟨fF.blk, fF.odd, fF.three, fF.lt⟩ | exact ⟨ak fF.blk, fF.odd, fF.three, fF.lt⟩ | exact ⟨ak (ak fF.blk), fF.odd, fF.three, fF.lt⟩))).mono ?_; rintro e W ⟨rfl, hb⟩; (first | replace hA := below_get hb hA | replace hA := below_get hb (ak hA)); (first | replace hR := below_get hb hR | replace hR := below_get hb (ak hR)); (first | replace hQ := below_get hb hQ | replace hQ := below_get hb (ak hQ)); (replace kk := bcl (by first | exact kk | exact kk.drew | exact bal kk _ | exact (bal kk _).drew) hb); (replace fF := IsF.of HF.out hQ); (try clear cA0 cA1 cA2 cA3); (obtain ⟨cA0, cA1, cA2, cA3⟩ := row4c hA); clear hb) | (go_at_call 50; refine (cmp_any (by first | exact W4.mk' hla.out | exact W4.mk' HM.out | exact W4.mk' (Nat.lt_trans (Nat.mod_lt _ hpos) HM.out) | exact W4.zero | exact W4.small (n := 1) rfl (by decide) | exact W4.small (n := 2) rfl (by decide) | exact W4.small (n := 3) rfl (by decide) | exact W4.small (n := 4) rfl (by decide) | exact W4.small (n := 5) rfl (by decide) | exact W4.small (n := 7) rfl (by decide)) (by first | exact W4.mk' hla.out | exact W4.mk' HM.out | exact W4.mk' (Nat.lt_trans (Nat.mod_lt _ hpos) HM.out) | exact W4.zero | exact W4.small (n := 1) rfl (by decide) | exact W4.small (n := 2) rfl (by decide) | exact W4.small (n := 3) rfl (by decide) | exact W4.small (n := 4) rfl (by decide) | exact W4.small (n := 5) rfl (by decide) | exact W4.small (n := 7) rfl (by decide)) _).mono ?_; rintro e W ⟨rfl, hb⟩; (first | replace hA := below_get hb hA | replace hA := below_get hb (ak hA)); (first | replace hR := below_get hb hR | replace hR := below_get hb (ak hR)); (first | replace hQ := below_get hb hQ | replace hQ := below_get hb (ak hQ)); (replace kk := bcl (by first | exact kk | exact kk.drew | exact bal kk _ | exact (bal kk _).drew) hb); (replace fF := IsF.of HF.out hQ); (try clear cA0 cA1 cA2 cA3); (obtain ⟨cA0, cA1, cA2, cA3⟩ := row4c hA); clear hb; rw [hcx]))
  go_simp
  obtain ⟨cA0, cA1, cA2, cA3⟩ := row4c hA
  obtain ⟨zA0, zA1, zA2, zA3⟩ := row4z hA
  go_wp2_with fail
  refine (right_any (W4.mk' hla.out) _ fF).mono ?_
  rintro e V2 ⟨rfl, hb⟩
  replace hA := below_get hb hA
  replace hR := below_get hb hR
  replace hQ := below_get hb hQ
  replace kk := bcl (by first | exact kk | exact kk.drew | exact below_drewN kk _) hb
  replace fF := IsF.of HF.out hQ
  clear cA0 zA0 cA1 zA1 cA2 zA2 cA3 zA3
  clear hb
  obtain ⟨z, hz⟩ : ∃ z, rightN PP x = z := ⟨_, rfl⟩
  have HZ := Lib.hid hz
  have GZ := Lib.hid (show z < 2 ^ 256 by rw [← hz]; exact Nat.lt_trans (addf_lt hpos _ _) HM.out)
  rw [hz] at hB ⊢
  clear hz
  go_wp2_with fail
  refine (root_any (W4.mk' GZ.out) _ fF).mono ?_
  rintro e V3 ⟨rfl, hb⟩
  replace hA := below_get hb hA
  replace hR := below_get hb hR
  replace hQ := below_get hb hQ
  replace kk := bcl (by first | exact kk | exact kk.drew | exact below_drewN kk _) hb
  replace fF := IsF.of HF.out hQ
  clear hb
  rw [hB]
  clear hB
  obtain ⟨y, hy⟩ : ∃ y, rootN z PP = y := ⟨_, rfl⟩
  rw [hy]
  have HY := Lib.hid hy
  have GY := Lib.hid (show y < 2 ^ 256 by rw [← hy]; exact rootN_lt HM.out hpos)
  clear hy
  go_upto_region 5 with fail
  obtain ⟨V4, hW⟩ : ∃ V, V3.alloc (.cells #[.int .u64 (w0 (y) : Nat), .int .u64 (w1 (y) : Nat), .int .u64 (w2 (y) : Nat), .int .u64 (w3 (y) : Nat)] 24 (0, 0)) = V := ⟨_, rfl⟩
  rw [hW]
  obtain ⟨y7, hbx⟩ : ∃ n, V3.heap.size = n := ⟨_, rfl⟩
  rw [hbx]
  have hNEW : V4.heap[y7]? = some (.cells #[.int .u64 (w0 (y) : Nat), .int .u64 (w1 (y) : Nat), .int .u64 (w2 (y) : Nat), .int .u64 (w3 (y) : Nat)] 24 (0, 0)) := by rw [← hW, ← hbx]; exact heap_alloc_new _ _
  have lY7A : w.heap.size < y7 := by rw [← hbx]; exact lt_of_heap hA
  replace hA : V4.heap[w.heap.size]? = some (.cells #[.int .u64 (w0 (x) : Nat), .int .u64 (w1 (x) : Nat), .int .u64 (w2 (x) : Nat), .int .u64 (w3 (x) : Nat)] 24 (0, 0)) := by rw [← hW]; exact ak hA
  have lY7R : w.heap.size + 1 < y7 := by rw [← hbx]; exact lt_of_heap hR
  replace hR : V4.heap[w.heap.size + 1]? = some (.cells #[.int .u64 0, .int .u64 0, .int .u64 0, .int .u64 0, .int .u64 0, .int .u64 0, .int .u64 0, .int .u64 0, .bool false] 52 (0, 0)) := by rw [← hW]; exact ak hR
  have lY7Q : g < y7 := by rw [← hbx]; exact lt_of_heap hQ
  replace hQ : V4.heap[g]? = some (.cells #[.int .u64 (w0 (PP) : Nat), .int .u64 (w1 (PP) : Nat), .int .u64 (w2 (PP) : Nat), .int .u64 (w3 (PP) : Nat), .int .u64 (finv1 (PP) : Nat), .int .u64 (w0 (fsq (PP)) : Nat), .int .u64 (w1 (fsq (PP)) : Nat), .int .u64 (w2 (fsq (PP)) : Nat), .int .u64 (w3 (fsq (PP)) : Nat)] 90 (0, 0)) := by rw [← hW]; exact ak hQ
  have lY7 : w.heap.size ≤ y7 := by rw [← hbx]; exact kk.size
  replace kk : Below w.heap.size w V4 := by rw [← hW]; exact bal kk _
  have hY7 := hNEW
  replace fF := IsF.of HF.out hQ
  clear hNEW hW hbx
  have hlb := low_bit y
  by_cases hodd : y % 2 = 1
  · have hb1 : bits .and .u64 (w0 y : Nat) 1 = 1 := by rw [hlb, hodd]; rfl
    clear hlb
    cases odd
    · have HL := Lib.hid (show liftY x false = subf PP 0 y by unfold liftY; rw [HZ.out, HY.out]; rw [decide_eq_true hodd]; rfl)
      clear hodd
      obtain ⟨cY70, cY71, cY72, cY73⟩ := row4c hY7
      obtain ⟨zY70, zY71, zY72, zY73⟩ := row4z hY7
      obtain ⟨cA0, cA1, cA2, cA3⟩ := row4c hA
      obtain ⟨zA0, zA1, zA2, zA3⟩ := row4z hA
      obtain ⟨cR0, cR1, cR2, cR3, cR4, cR5, cR6, cR7, cR8⟩ := row9c hR
      obtain ⟨zR0, zR1, zR2, zR3, zR4, zR5, zR6, zR7, zR8⟩ := row9z hR
      go_wp2_with fail
      refine (subG_any W4.zero (W4.mk' GY.out) _ fF).mono ?_
      rintro e V5 ⟨rfl, hb⟩
      replace hA := below_get hb hA
      replace hR := below_get hb hR
      replace hQ := below_get hb hQ
      replace hY7 := below_get hb hY7
      replace kk := bcl (by first | exact kk | exact kk.drew | exact below_drewN kk _) hb
      replace fF := IsF.of HF.out hQ
      clear cY70 zY70 cY71 zY71 cY72 zY72 cY73 zY73 cA0 zA0 cA1 zA1 cA2 zA2 cA3 zA3 cR0 zR0 cR1 zR1 cR2 zR2 cR3 zR3 cR4 zR4 cR5 zR5 cR6 zR6 cR7 zR7 cR8 zR8
      clear hb
      obtain ⟨cY70, cY71, cY72, cY73⟩ := row4c hY7
      obtain ⟨zY70, zY71, zY72, zY73⟩ := row4z hY7
      go_upto_region 9 with fail
      have P := put4 (.int .u64 (w0 (subf PP 0 y) : Nat)) (.int .u64 (w1 (subf PP 0 y) : Nat)) (.int .u64 (w2 (subf PP 0 y) : Nat)) (.int .u64 (w3 (subf PP 0 y) : Nat)) hY7
      replace P := put_hid P
      obtain ⟨V6, hW, P⟩ := P
      rw [hW]
      replace hY7 := P.here
      replace hA := (P.there (w.heap.size) (by omega)).trans (show _ = some (.cells #[.int .u64 (w0 (x) : Nat), .int .u64 (w1 (x) : Nat), .int .u64 (w2 (x) : Nat), .int .u64 (w3 (x) : Nat)] 24 (0, 0)) from hA)
      replace hR := (P.there (w.heap.size + 1) (by omega)).trans (show _ = some (.cells #[.int .u64 0, .int .u64 0, .int .u64 0, .int .u64 0, .int .u64 0, .int .u64 0, .int .u64 0, .int .u64 0, .bool false] 52 (0, 0)) from hR)
      replace hQ := (P.there (g) (by omega)).trans (show _ = some (.cells #[.int .u64 (w0 (PP) : Nat), .int .u64 (w1 (PP) : Nat), .int .u64 (w2 (PP) : Nat), .int .u64 (w3 (PP) : Nat), .int .u64 (finv1 (PP) : Nat), .int .u64 (w0 (fsq (PP)) : Nat), .int .u64 (w1 (fsq (PP)) : Nat), .int .u64 (w2 (fsq (PP)) : Nat), .int .u64 (w3 (fsq (PP)) : Nat)] 90 (0, 0)) from hQ)
      replace kk := P.below (by omega) (show Below w.heap.size w V5 from by first | exact kk | exact kk.drew | exact below_drewN kk _)
      replace fF := IsF.of HF.out hQ
      clear cY70 zY70 cY71 zY71 cY72 zY72 cY73 zY73
      clear P hW
      obtain ⟨cY70, cY71, cY72, cY73⟩ := row4c hY7
      obtain ⟨zY70, zY71, zY72, zY73⟩ := row4z hY7
      obtain ⟨cA0, cA1, cA2, cA3⟩ := row4c hA
      obtain ⟨zA0, zA1, zA2, zA3⟩ := row4z hA
      obtain ⟨cR0, cR1, cR2, cR3, cR4, cR5, cR6, cR7, cR8⟩ := row9c hR
      obtain ⟨zR0, zR1, zR2, zR3, zR4, zR5, zR6, zR7, zR8⟩ := row9z hR
      go_wp2_with fail
      have P := put9 (.int .u64 (w0 (x) : Nat)) (.int .u64 (w1 (x) : Nat)) (.int .u64 (w2 (x) : Nat)) (.int .u64 (w3 (x) : Nat)) (.int .u64 (w0 (subf PP 0 y) : Nat)) (.int .u64 (w1 (subf PP 0 y) : Nat)) (.int .u64 (w2 (subf PP 0 y) : Nat)) (.int .u64 (w3 (subf PP 0 y) : Nat)) (.bool false) hR
      replace P := put_hid P
      obtain ⟨V9, hV9, P⟩ := P
      rw [hV9]
      have P9 := P.here
      have k9 := P.below (by omega) (show Below w.heap.size w V6 from by first | exact kk | exact kk.drew | exact below_drewN kk _)
      obtain ⟨v0, v1, v2, v3, v4, v5, v6, v7, v8⟩ := row9c P9
      refine bodyPost_ret (v := _) (by simp [results, Try.results72, go_sem, v0, v1, v2, v3, v4, v5, v6, v7, v8]; rfl) rfl ?_
      rw [HL.out]
      exact ⟨rfl, k9⟩
    · have HL := Lib.hid (show liftY x true = y by unfold liftY; rw [HZ.out, HY.out]; rw [decide_eq_true hodd]; rfl)
      clear hodd
      obtain ⟨cY70, cY71, cY72, cY73⟩ := row4c hY7
      obtain ⟨zY70, zY71, zY72, zY73⟩ := row4z hY7
      obtain ⟨cA0, cA1, cA2, cA3⟩ := row4c hA
      obtain ⟨zA0, zA1, zA2, zA3⟩ := row4z hA
      obtain ⟨cR0, cR1, cR2, cR3, cR4, cR5, cR6, cR7, cR8⟩ := row9c hR
      obtain ⟨zR0, zR1, zR2, zR3, zR4, zR5, zR6, zR7, zR8⟩ := row9z hR
      go_wp2_with fail
      have P := put9 (.int .u64 (w0 (x) : Nat)) (.int .u64 (w1 (x) : Nat)) (.int .u64 (w2 (x) : Nat)) (.int .u64 (w3 (x) : Nat)) (.int .u64 (w0 (y) : Nat)) (.int .u64 (w1 (y) : Nat)) (.int .u64 (w2 (y) : Nat)) (.int .u64 (w3 (y) : Nat)) (.bool false) hR
      replace P := put_hid P
      obtain ⟨V9, hV9, P⟩ := P
      rw [hV9]
      have P9 := P.here
      have k9 := P.below (by omega) (show Below w.heap.size w V4 from by first | exact kk | exact kk.drew | exact below_drewN kk _)
      obtain ⟨v0, v1, v2, v3, v4, v5, v6, v7, v8⟩ := row9c P9
      refine bodyPost_ret (v := _) (by simp [results, Try.results72, go_sem, v0, v1, v2, v3, v4, v5, v6, v7, v8]; rfl) rfl ?_
      rw [HL.out]
      exact ⟨rfl, k9⟩
  · have hb1 : bits .and .u64 (w0 y : Nat) 1 = 0 := by rw [hlb, show y % 2 = 0 by omega]; rfl
    clear hlb
    cases odd
    · have HL := Lib.hid (show liftY x false = y by unfold liftY; rw [HZ.out, HY.out]; rw [decide_eq_false hodd]; rfl)
      clear hodd
      obtain ⟨cY70, cY71, cY72, cY73⟩ := row4c hY7
      obtain ⟨zY70, zY71, zY72, zY73⟩ := row4z hY7
      obtain ⟨cA0, cA1, cA2, cA3⟩ := row4c hA
      obtain ⟨zA0, zA1, zA2, zA3⟩ := row4z hA
      obtain ⟨cR0, cR1, cR2, cR3, cR4, cR5, cR6, cR7, cR8⟩ := row9c hR
      obtain ⟨zR0, zR1, zR2, zR3, zR4, zR5, zR6, zR7, zR8⟩ := row9z hR
      go_wp2_with fail
      have P := put9 (.int .u64 (w0 (x) : Nat)) (.int .u64 (w1 (x) : Nat)) (.int .u64 (w2 (x) : Nat)) (.int .u64 (w3 (x) : Nat)) (.int .u64 (w0 (y) : Nat)) (.int .u64 (w1 (y) : Nat)) (.int .u64 (w2 (y) : Nat)) (.int .u64 (w3 (y) : Nat)) (.bool false) hR
      replace P := put_hid P
      obtain ⟨V9, hV9, P⟩ := P
      rw [hV9]
      have P9 := P.here
      have k9 := P.below (by omega) (show Below w.heap.size w V4 from by first | exact kk | exact kk.drew | exact below_drewN kk _)
      obtain ⟨v0, v1, v2, v3, v4, v5, v6, v7, v8⟩ := row9c P9
      refine bodyPost_ret (v := _) (by simp [results, Try.results72, go_sem, v0, v1, v2, v3, v4, v5, v6, v7, v8]; rfl) rfl ?_
      rw [HL.out]
      exact ⟨rfl, k9⟩
    · have HL := Lib.hid (show liftY x true = subf PP 0 y by unfold liftY; rw [HZ.out, HY.out]; rw [decide_eq_false hodd]; rfl)
      clear hodd
      obtain ⟨cY70, cY71, cY72, cY73⟩ := row4c hY7
      obtain ⟨zY70, zY71, zY72, zY73⟩ := row4z hY7
      obtain ⟨cA0, cA1, cA2, cA3⟩ := row4c hA
      obtain ⟨zA0, zA1, zA2, zA3⟩ := row4z hA
      obtain ⟨cR0, cR1, cR2, cR3, cR4, cR5, cR6, cR7, cR8⟩ := row9c hR
      obtain ⟨zR0, zR1, zR2, zR3, zR4, zR5, zR6, zR7, zR8⟩ := row9z hR
      go_wp2_with fail
      refine (subG_any W4.zero (W4.mk' GY.out) _ fF).mono ?_
      rintro e V5 ⟨rfl, hb⟩
      replace hA := below_get hb hA
      replace hR := below_get hb hR
      replace hQ := below_get hb hQ
      replace hY7 := below_get hb hY7
      replace kk := bcl (by first | exact kk | exact kk.drew | exact below_drewN kk _) hb
      replace fF := IsF.of HF.out hQ
      clear cY70 zY70 cY71 zY71 cY72 zY72 cY73 zY73 cA0 zA0 cA1 zA1 cA2 zA2 cA3 zA3 cR0 zR0 cR1 zR1 cR2 zR2 cR3 zR3 cR4 zR4 cR5 zR5 cR6 zR6 cR7 zR7 cR8 zR8
      clear hb
      obtain ⟨cY70, cY71, cY72, cY73⟩ := row4c hY7
      obtain ⟨zY70, zY71, zY72, zY73⟩ := row4z hY7
      go_upto_region 9 with fail
      have P := put4 (.int .u64 (w0 (subf PP 0 y) : Nat)) (.int .u64 (w1 (subf PP 0 y) : Nat)) (.int .u64 (w2 (subf PP 0 y) : Nat)) (.int .u64 (w3 (subf PP 0 y) : Nat)) hY7
      replace P := put_hid P
      obtain ⟨V6, hW, P⟩ := P
      rw [hW]
      replace hY7 := P.here
      replace hA := (P.there (w.heap.size) (by omega)).trans (show _ = some (.cells #[.int .u64 (w0 (x) : Nat), .int .u64 (w1 (x) : Nat), .int .u64 (w2 (x) : Nat), .int .u64 (w3 (x) : Nat)] 24 (0, 0)) from hA)
      replace hR := (P.there (w.heap.size + 1) (by omega)).trans (show _ = some (.cells #[.int .u64 0, .int .u64 0, .int .u64 0, .int .u64 0, .int .u64 0, .int .u64 0, .int .u64 0, .int .u64 0, .bool false] 52 (0, 0)) from hR)
      replace hQ := (P.there (g) (by omega)).trans (show _ = some (.cells #[.int .u64 (w0 (PP) : Nat), .int .u64 (w1 (PP) : Nat), .int .u64 (w2 (PP) : Nat), .int .u64 (w3 (PP) : Nat), .int .u64 (finv1 (PP) : Nat), .int .u64 (w0 (fsq (PP)) : Nat), .int .u64 (w1 (fsq (PP)) : Nat), .int .u64 (w2 (fsq (PP)) : Nat), .int .u64 (w3 (fsq (PP)) : Nat)] 90 (0, 0)) from hQ)
      replace kk := P.below (by omega) (show Below w.heap.size w V5 from by first | exact kk | exact kk.drew | exact below_drewN kk _)
      replace fF := IsF.of HF.out hQ
      clear cY70 zY70 cY71 zY71 cY72 zY72 cY73 zY73
      clear P hW
      obtain ⟨cY70, cY71, cY72, cY73⟩ := row4c hY7
      obtain ⟨zY70, zY71, zY72, zY73⟩ := row4z hY7
      obtain ⟨cA0, cA1, cA2, cA3⟩ := row4c hA
      obtain ⟨zA0, zA1, zA2, zA3⟩ := row4z hA
      obtain ⟨cR0, cR1, cR2, cR3, cR4, cR5, cR6, cR7, cR8⟩ := row9c hR
      obtain ⟨zR0, zR1, zR2, zR3, zR4, zR5, zR6, zR7, zR8⟩ := row9z hR
      go_wp2_with fail
      have P := put9 (.int .u64 (w0 (x) : Nat)) (.int .u64 (w1 (x) : Nat)) (.int .u64 (w2 (x) : Nat)) (.int .u64 (w3 (x) : Nat)) (.int .u64 (w0 (subf PP 0 y) : Nat)) (.int .u64 (w1 (subf PP 0 y) : Nat)) (.int .u64 (w2 (subf PP 0 y) : Nat)) (.int .u64 (w3 (subf PP 0 y) : Nat)) (.bool false) hR
      replace P := put_hid P
      obtain ⟨V9, hV9, P⟩ := P
      rw [hV9]
      have P9 := P.here
      have k9 := P.below (by omega) (show Below w.heap.size w V6 from by first | exact kk | exact kk.drew | exact below_drewN kk _)
      obtain ⟨v0, v1, v2, v3, v4, v5, v6, v7, v8⟩ := row9c P9
      refine bodyPost_ret (v := _) (by simp [results, Try.results72, go_sem, v0, v1, v2, v3, v4, v5, v6, v7, v8]; rfl) rfl ?_
      rw [HL.out]
      exact ⟨rfl, k9⟩
end Go.Proofs.Ytgghopmlcpcpkaa
namespace Go.Proofs.Ytgghopmlcpcpkaa
open Go.RowKit PlainK
set_option linter.unusedVariables false
set_option linter.unusedSimpArgs false
theorem nonep_any (w : World) : Calls Try.prog 38 #[] w fun e w' => e = .returned (.agg #[.int .u64 0, .int .u64 0, .int .u64 0, .int .u64 0, .int .u64 0, .int .u64 0, .int .u64 0, .int .u64 0, .bool true]) ∧ Below w.heap.size w w' := by
  go_enter Try.func38, Try.ntmps38
  go_upto_region 1 with fail
  obtain ⟨V0, hW⟩ : ∃ V, w.alloc (.cells #[.int .u64 0, .int .u64 0, .int .u64 0, .int .u64 0, .int .u64 0, .int .u64 0, .int .u64 0, .int .u64 0, .bool false] 52) = V := ⟨_, rfl⟩
  rw [hW]
  have hR : V0.heap[w.heap.size]? = some (.cells #[.int .u64 0, .int .u64 0, .int .u64 0, .int .u64 0, .int .u64 0, .int .u64 0, .int .u64 0, .int .u64 0, .bool false] 52 (0, 0)) := by
    rw [← hW]; simp only [alloc_at, World.size_alloc]; repeat (first | rw [if_pos trivial] | rw [if_pos (by omega)] | rw [if_neg (by omega)])
  have kk : Below w.heap.size w V0 := by
    rw [← hW]
    repeat (first | exact Below.refl _ _ | refine Below.drew ?_ | refine bal ?_ _)
  clear hW
  obtain ⟨cR0, cR1, cR2, cR3, cR4, cR5, cR6, cR7, cR8⟩ := row9c hR
  obtain ⟨zR0, zR1, zR2, zR3, zR4, zR5, zR6, zR7, zR8⟩ := row9z hR
  go_wp2_with fail
  have P := put9 (.int .u64 0) (.int .u64 0) (.int .u64 0) (.int .u64 0) (.int .u64 0) (.int .u64 0) (.int .u64 0) (.int .u64 0) (.bool true) hR
  replace P := put_hid P
  obtain ⟨V9, hV9, P⟩ := P
  rw [hV9]
  have P9 := P.here
  have k9 := P.below (by omega) (show Below w.heap.size w V0 from by first | exact kk | exact kk.drew | exact below_drewN kk _)
  obtain ⟨v0, v1, v2, v3, v4, v5, v6, v7, v8⟩ := row9c P9
  refine bodyPost_ret (v := _) (by simp [results, Try.results38, go_sem, v0, v1, v2, v3, v4, v5, v6, v7, v8]; rfl) rfl ?_
  exact ⟨rfl, k9⟩
theorem lift_pt {x : Nat} (odd : Bool) (hx : x < PP) (hB : rootB (rightN PP x) PP = true) : ∃ a : Pt PP, a.on ∧ x = px a ∧ liftY x odd = py a ∧ pn a = false := by
  have hp : 0 < PP := Nat.lt_trans (by decide) PP_pos
  have hr := rootN_some hB
  have hrl : rootN (rightN PP x) PP < PP := by
    unfold rootN rootV; split
    · exact Nat.mod_lt _ hp
    · exact hp
  have hlt : rightN PP x < PP := addf_lt hp _ _
  rw [Nat.mod_eq_of_lt hlt] at hr
  have key : ∀ y, y < PP → mulm PP y y = rightN PP x → ∃ a : Pt PP, a.on ∧ x = px a ∧ y = py a ∧ pn a = false := fun y hy h =>
    ⟨.pt (ft x) (ft y), on_num.2 h, (val_ft hx).symm, (val_ft hy).symm, rfl⟩
  unfold liftY
  split
  · exact key _ hrl hr
  · refine key _ (subf_lt hp _ _) ?_
    refine on_num.1 ?_
    have h1 := on_num.2 hr
    rw [neg_num hrl, ← h1]; grind
set_option maxRecDepth 10000 in
set_option maxHeartbeats 8000000 in
theorem some_any {a0 a1 a2 a3 : Int} {x : Nat} (odd : Bool) (ha : W4 a0 a1 a2 a3 x) (w : World) :
   Calls Try.prog 37 #[.agg #[.int .u64 a0, .int .u64 a1, .int .u64 a2, .int .u64 a3], .bool odd] w fun e w' => ∃ a : Pt PP, a.on ∧ e = .returned (.agg #[.int .u64 (w0 (px a) : Nat), .int .u64 (w1 (px a) : Nat), .int .u64 (w2 (px a) : Nat), .int .u64 (w3 (px a) : Nat), .int .u64 (w0 (py a) : Nat), .int .u64 (w1 (py a) : Nat), .int .u64 (w2 (py a) : Nat), .int .u64 (w3 (py a) : Nat), .bool (pn a)]) ∧ Below w.heap.size w w' := by
  obtain ⟨rfl, rfl, rfl, rfl, la⟩ := ha
  have hla := Lib.hid la
  clear la
  go_enter Try.func37, Try.ntmps37
  go_upto_region 1 with fail
  obtain ⟨V0, hW⟩ : ∃ V, (w.alloc (.cells #[.int .u64 (w0 (x) : Nat), .int .u64 (w1 (x) : Nat), .int .u64 (w2 (x) : Nat), .int .u64 (w3 (x) : Nat)] 24)).alloc (.cells #[.int .u64 0, .int .u64 0, .int .u64 0, .int .u64 0, .int .u64 0, .int .u64 0, .int .u64 0, .int .u64 0, .bool false] 52) = V := ⟨_, rfl⟩
  rw [hW]
  have hA : V0.heap[w.heap.size]? = some (.cells #[.int .u64 (w0 (x) : Nat), .int .u64 (w1 (x) : Nat), .int .u64 (w2 (x) : Nat), .int .u64 (w3 (x) : Nat)] 24 (0, 0)) := by
    rw [← hW]; simp only [alloc_at, World.size_alloc]; repeat (first | rw [if_pos trivial] | rw [if_pos (by omega)] | rw [if_neg (by omega)])
  have hR : V0.heap[w.heap.size + 1]? = some (.cells #[.int .u64 0, .int .u64 0, .int .u64 0, .int .u64 0, .int .u64 0, .int .u64 0, .int .u64 0, .int .u64 0, .bool false] 52 (0, 0)) := by
    rw [← hW]; simp only [alloc_at, World.size_alloc]; repeat (first | rw [if_pos trivial] | rw [if_pos (by omega)] | rw [if_neg (by omega)])
  have kk : Below w.heap.size w V0 := by
    rw [← hW]
    repeat (first | exact Below.refl _ _ | refine Below.drew ?_ | refine bal ?_ _)
  clear hW
  obtain ⟨cA0, cA1, cA2, cA3⟩ := row4c hA
  obtain ⟨zA0, zA1, zA2, zA3⟩ := row4z hA
  by_cases hx0 : x = 0
  · have q := eql_t (W4.mk' hla.out) W4.zero hx0
    clear hx0
    go_wp2_with fail
    refine (nonep_any _).mono ?_
    rintro e V1 ⟨rfl, hb⟩
    replace hA := below_get hb hA
    replace hR := below_get hb hR
    replace kk := bcl (by first | exact kk | exact kk.drew | exact below_drewN kk _) hb
    clear cA0 zA0 cA1 zA1 cA2 zA2 cA3 zA3
    clear hb
    obtain ⟨cR0, cR1, cR2, cR3, cR4, cR5, cR6, cR7, cR8⟩ := row9c hR
    obtain ⟨zR0, zR1, zR2, zR3, zR4, zR5, zR6, zR7, zR8⟩ := row9z hR
    go_wp2_with fail
    have P := put9 (.int .u64 0) (.int .u64 0) (.int .u64 0) (.int .u64 0) (.int .u64 0) (.int .u64 0) (.int .u64 0) (.int .u64 0) (.bool true) hR
    replace P := put_hid P
    obtain ⟨V9, hV9, P⟩ := P
    rw [hV9]
    have P9 := P.here
    have k9 := P.below (by omega) (show Below w.heap.size w V1 from by first | exact kk | exact kk.drew | exact below_drewN kk _)
    obtain ⟨v0, v1, v2, v3, v4, v5, v6, v7, v8⟩ := row9c P9
    refine bodyPost_ret (v := _) (by simp [results, Try.results37, go_sem, v0, v1, v2, v3, v4, v5, v6, v7, v8]; rfl) rfl ?_
    exact ⟨.o, trivial, rfl, k9⟩
  · have q := eql_f (W4.mk' hla.out) W4.zero hx0
    clear hx0
    go_wp2_with fail
    clear q
    clear cA0 zA0 cA1 zA1 cA2 zA2 cA3 zA3
    go_loopw [11] (fun i wr => ∃ (k n : Nat), k ≤ 200 ∧ i = .int .i64 k ∧ n < 2 ^ 256 ∧ wr.heap[w.heap.size]? = some (.cells #[.int .u64 (w0 (n) : Nat), .int .u64 (w1 (n) : Nat), .int .u64 (w2 (n) : Nat), .int .u64 (w3 (n) : Nat)] 24 (0, 0)) ∧ wr.heap[w.heap.size + 1]? = some (.cells #[.int .u64 0, .int .u64 0, .int .u64 0, .int .u64 0, .int .u64 0, .int .u64 0, .int .u64 0, .int .u64 0, .bool false] 52 (0, 0)) ∧ Below w.heap.size w wr) (fun i wr => 200 - (intOf i).toNat)
    case atStart => exact ⟨0, x, by omega, rfl, hla.out, hA, hR, kk⟩
    case round =>
      clear hA hR kk V0 hla
      obtain ⟨k, n, hk, rfl, hn, hA, hR, kk⟩ := hrel
      have hln := Lib.hid hn
      clear hn
      by_cases hk2 : k < 200
      · have k2 : (k : Int) < 200 := by omega
        obtain ⟨cA0, cA1, cA2, cA3⟩ := row4c hA
        obtain ⟨zA0, zA1, zA2, zA3⟩ := row4z hA
        go_wp2_with fail
        by_cases hok : n < PP ∧ rootB (rightN PP n) PP = true
        · refine (lift_some odd (W4.mk' hln.out) hok.1 hok.2 _).mono ?_
          rintro e V2 ⟨rfl, hb⟩
          replace hA := below_get hb hA
          replace hR := below_get hb hR
          replace kk := bcl (by first | exact kk | exact kk.drew | exact below_drewN kk _) hb
          clear cA0 zA0 cA1 zA1 cA2 zA2 cA3 zA3
          clear hb
          go_upto_region 6 with fail
          obtain ⟨V3, hW⟩ : ∃ V, V2.alloc (.cells #[.int .u64 (w0 (n) : Nat), .int .u64 (w1 (n) : Nat), .int .u64 (w2 (n) : Nat), .int .u64 (w3 (n) : Nat), .int .u64 (w0 (liftY n odd) : Nat), .int .u64 (w1 (liftY n odd) : Nat), .int .u64 (w2 (liftY n odd) : Nat), .int .u64 (w3 (liftY n odd) : Nat), .bool false] 52 (0, 0)) = V := ⟨_, rfl⟩
          rw [hW]
          obtain ⟨d5, hbx⟩ : ∃ n, V2.heap.size = n := ⟨_, rfl⟩
          rw [hbx]
          have hNEW : V3.heap[d5]? = some (.cells #[.int .u64 (w0 (n) : Nat), .int .u64 (w1 (n) : Nat), .int .u64 (w2 (n) : Nat), .int .u64 (w3 (n) : Nat), .int .u64 (w0 (liftY n odd) : Nat), .int .u64 (w1 (liftY n odd) : Nat), .int .u64 (w2 (liftY n odd) : Nat), .int .u64 (w3 (liftY n odd) : Nat), .bool false] 52 (0, 0)) := by rw [← hW, ← hbx]; exact heap_alloc_new _ _
          have lD5A : w.heap.size < d5 := by rw [← hbx]; exact lt_of_heap hA
          replace hA : V3.heap[w.heap.size]? = some (.cells #[.int .u64 (w0 (n) : Nat), .int .u64 (w1 (n) : Nat), .int .u64 (w2 (n) : Nat), .int .u64 (w3 (n) : Nat)] 24 (0, 0)) := by rw [← hW]; exact ak hA
          have lD5R : w.heap.size + 1 < d5 := by rw [← hbx]; exact lt_of_heap hR
          replace hR : V3.heap[w.heap.size + 1]? = some (.cells #[.int .u64 0, .int .u64 0, .int .u64 0, .int .u64 0, .int .u64 0, .int .u64 0, .int .u64 0, .int .u64 0, .bool false] 52 (0, 0)) := by rw [← hW]; exact ak hR
          have lD5 : w.heap.size ≤ d5 := by rw [← hbx]; exact kk.size
          replace kk : Below w.heap.size w V3 := by rw [← hW]; exact bal kk _
          have hD5 := hNEW
          clear hNEW hW hbx
          obtain ⟨cD50, cD51, cD52, cD53, cD54, cD55, cD56, cD57, cD58⟩ := row9c hD5
          obtain ⟨zD50, zD51, zD52, zD53, zD54, zD55, zD56, zD57, zD58⟩ := row9z hD5
          obtain ⟨cR0, cR1, cR2, cR3, cR4, cR5, cR6, cR7, cR8⟩ := row9c hR
          obtain ⟨zR0, zR1, zR2, zR3, zR4, zR5, zR6, zR7, zR8⟩ := row9z hR
          go_wp2_with fail
          have P := put9 (.int .u64 (w0 (n) : Nat)) (.int .u64 (w1 (n) : Nat)) (.int .u64 (w2 (n) : Nat)) (.int .u64 (w3 (n) : Nat)) (.int .u64 (w0 (liftY n odd) : Nat)) (.int .u64 (w1 (liftY n odd) : Nat)) (.int .u64 (w2 (liftY n odd) : Nat)) (.int .u64 (w3 (liftY n odd) : Nat)) (.bool false) hR
          replace P := put_hid P
          obtain ⟨V9, hV9, P⟩ := P
          rw [hV9]
          have P9 := P.here
          have k9 := P.below (by omega) (show Below w.heap.size w V3 from by first | exact kk | exact kk.drew | exact below_drewN kk _)
          obtain ⟨v0, v1, v2, v3, v4, v5, v6, v7, v8⟩ := row9c P9
          refine bodyPost_ret (v := _) (by simp [results, Try.results37, go_sem, v0, v1, v2, v3, v4, v5, v6, v7, v8]; rfl) rfl ?_
          obtain ⟨a, h1, h2, h3, h4⟩ := lift_pt odd hok.1 hok.2
          refine ⟨a, h1, ?_, k9⟩
          rw [← h2, ← h3, h4]
        · have hno : Calls Try.prog 72 #[.agg #[.int .u64 (w0 (n) : Nat), .int .u64 (w1 (n) : Nat), .int .u64 (w2 (n) : Nat), .int .u64 (w3 (n) : Nat)], .bool odd] wr fun e w' => e = .returned (.tuple #[.agg #[.int .u64 0, .int .u64 0, .int .u64 0, .int .u64 0, .int .u64 0, .int .u64 0, .int .u64 0, .int .u64 0, .bool false], .int .i64 1]) ∧ Below wr.heap.size wr w' := by
            by_cases hx : n < PP
            · exact lift_none odd (W4.mk' hln.out) hx (by cases hh : rootB (rightN PP n) PP; rfl; exact absurd ⟨hx, hh⟩ hok) wr
            · exact lift_far odd (W4.mk' hln.out) hx wr
          clear hok
          refine hno.mono ?_
          rintro e V2 ⟨rfl, hb⟩
          replace hA := below_get hb hA
          replace hR := below_get hb hR
          replace kk := bcl (by first | exact kk | exact kk.drew | exact below_drewN kk _) hb
          clear cA0 zA0 cA1 zA1 cA2 zA2 cA3 zA3
          clear hb
          go_upto_region 6 with fail
          obtain ⟨V3, hW⟩ : ∃ V, V2.alloc (.cells #[.int .u64 0, .int .u64 0, .int .u64 0, .int .u64 0, .int .u64 0, .int .u64 0, .int .u64 0, .int .u64 0, .bool false] 52 (0, 0)) = V := ⟨_, rfl⟩
          rw [hW]
          obtain ⟨d5, hbx⟩ : ∃ n, V2.heap.size = n := ⟨_, rfl⟩
          rw [hbx]
          have hNEW : V3.heap[d5]? = some (.cells #[.int .u64 0, .int .u64 0, .int .u64 0, .int .u64 0, .int .u64 0, .int .u64 0, .int .u64 0, .int .u64 0, .bool false] 52 (0, 0)) := by rw [← hW, ← hbx]; exact heap_alloc_new _ _
          have lD5A : w.heap.size < d5 := by rw [← hbx]; exact lt_of_heap hA
          replace hA : V3.heap[w.heap.size]? = some (.cells #[.int .u64 (w0 (n) : Nat), .int .u64 (w1 (n) : Nat), .int .u64 (w2 (n) : Nat), .int .u64 (w3 (n) : Nat)] 24 (0, 0)) := by rw [← hW]; exact ak hA
          have lD5R : w.heap.size + 1 < d5 := by rw [← hbx]; exact lt_of_heap hR
          replace hR : V3.heap[w.heap.size + 1]? = some (.cells #[.int .u64 0, .int .u64 0, .int .u64 0, .int .u64 0, .int .u64 0, .int .u64 0, .int .u64 0, .int .u64 0, .bool false] 52 (0, 0)) := by rw [← hW]; exact ak hR
          have lD5 : w.heap.size ≤ d5 := by rw [← hbx]; exact kk.size
          replace kk : Below w.heap.size w V3 := by rw [← hW]; exact bal kk _
          have hD5 := hNEW
          clear hNEW hW hbx
          go_upto_region 8 with fail
          try clear cA0 cA1 cA2 cA3
          obtain ⟨cA0, cA1, cA2, cA3⟩ := row4c hA
          refine startT (S := (fun w' => w'.cell? ⟨w.heap.size, 0, none⟩ = some (.int .u64 (w0 (n) : Nat)) ∧ w'.cell? ⟨w.heap.size, 1, none⟩ = some (.int .u64 (w1 (n) : Nat)) ∧ w'.cell? ⟨w.heap.size, 2, none⟩ = some (.int .u64 (w2 (n) : Nat)) ∧ w'.cell? ⟨w.heap.size, 3, none⟩ = some (.int .u64 (w3 (n) : Nat)))) 6 (by kernel_rfl) (by (try dsimp only); first | (with_reducible exact ⟨cA0, cA1, cA2, cA3⟩) | exact ⟨cA0, cA1, cA2, cA3⟩ | go_keep) (fun hHeld => ?_)
          refine takeT (i := 0) (d := some 23) (v := ?_) _ rfl rfl (by rfl) (by kernel_rfl) (by decide) (by kernel_rfl) (by kernel_rfl) (by kernel_rfl) (fun _ _ _ h => h) (by assumption) (by kernel_rfl) ?_ ?_
          rotate_left
          · (first | (intro w' hSw; (try dsimp only at hSw); go_simp; try (with_reducible rfl)) | (intro w'; go_simp; try (with_reducible rfl)))
          try simp only [Act.put, List.setIfInBounds_toArray, List.set_cons_zero, List.set_cons_succ]
          refine callT (i := 1) _ rfl (by rfl) (by kernel_rfl) (fun K hK => ?_)
          go_simp
          first | (go_at_call 17; refine (of_any _ _).mono ?_; rintro e W ⟨rfl, hb⟩; (first | replace hA := below_get hb hA | replace hA := below_get hb (ak hA)); (first | replace hR := below_get hb hR | replace hR := below_get hb (ak hR)); (first | replace hD5 := below_get hb hD5 | replace hD5 := below_get hb (ak hD5)); (replace kk := bcl (by first | exact kk | exact kk.drew | exact bal kk _ | exact (bal kk _).drew) hb); (try clear cA0 cA1 cA2 cA3); (obtain ⟨cA0, cA1, cA2, cA3⟩ := row4c hA); (try clear cA0 cA1 cA2 cA3); (obtain ⟨cA0, cA1, cA2, cA3⟩ := row4c hA); (obtain ⟨zA0, zA1, zA2, zA3⟩ := row4z hA); clear hb) | (go_at_call 24; refine (add_any (by first | exact W4.mk' hln.out | exact W4.mk' (Nat.lt_trans (Nat.mod_lt _ hpos) HM.out) | exact W4.zero | exact W4.small (n := 1) rfl (by decide) | exact W4.small (n := 2) rfl (by decide) | exact W4.small (n := 3) rfl (by decide) | exact W4.small (n := 4) rfl (by decide) | exact W4.small (n := 5) rfl (by decide) | exact W4.small (n := 7) rfl (by decide)) (by first | exact W4.mk' hln.out | exact W4.mk' (Nat.lt_trans (Nat.mod_lt _ hpos) HM.out) | exact W4.zero | exact W4.small (n := 1) rfl (by decide) | exact W4.small (n := 2) rfl (by decide) | exact W4.small (n := 3) rfl (by decide) | exact W4.small (n := 4) rfl (by decide) | exact W4.small (n := 5) rfl (by decide) | exact W4.small (n := 7) rfl (by decide)) _).mono ?_; rintro e W ⟨rfl, hb⟩; (first | replace hA := below_get hb hA | replace hA := below_get hb (ak hA)); (first | replace hR := below_get hb hR | replace hR := below_get hb (ak hR)); (first | replace hD5 := below_get hb hD5 | replace hD5 := below_get hb (ak hD5)); (replace kk := bcl (by first | exact kk | exact kk.drew | exact bal kk _ | exact (bal kk _).drew) hb); (try clear cA0 cA1 cA2 cA3); (obtain ⟨cA0, cA1, cA2, cA3⟩ := row4c hA); (try clear cA0 cA1 cA2 cA3); (obtain ⟨cA0, cA1, cA2, cA3⟩ := row4c hA); (obtain ⟨zA0, zA1, zA2, zA3⟩ := row4z hA); clear hb)
          try go_wp2_with fail
          replace hHeld : (fun w' => w'.cell? ⟨w.heap.size, 0, none⟩ = some (.int .u64 (w0 (n) : Nat)) ∧ w'.cell? ⟨w.heap.size, 1, none⟩ = some (.int .u64 (w1 (n) : Nat)) ∧ w'.cell? ⟨w.heap.size, 2, none⟩ = some (.int .u64 (w2 (n) : Nat)) ∧ w'.cell? ⟨w.heap.size, 3, none⟩ = some (.int .u64 (w3 (n) : Nat))) W := (by (try dsimp only); first | (with_reducible exact ⟨cA0, cA1, cA2, cA3⟩) | exact ⟨cA0, cA1, cA2, cA3⟩ | go_keep)
          refine hK.out _ _ (Or.inr hHeld) ?_
          clear hK K
          try simp only [Act.put, List.setIfInBounds_toArray, List.set_cons_zero, List.set_cons_succ]
          refine callT (i := 2) _ rfl (by rfl) (by kernel_rfl) (fun K hK => ?_)
          go_simp
          first | (go_at_call 17; refine (of_any _ _).mono ?_; rintro e W ⟨rfl, hb⟩; (first | replace hA := below_get hb hA | replace hA := below_get hb (ak hA)); (first | replace hR := below_get hb hR | replace hR := below_get hb (ak hR)); (first | replace hD5 := below_get hb hD5 | replace hD5 := below_get hb (ak hD5)); (replace kk := bcl (by first | exact kk | exact kk.drew | exact bal kk _ | exact (bal kk _).drew) hb); (try clear cA0 cA1 cA2 cA3); (obtain ⟨cA0, cA1, cA2, cA3⟩ := row4c hA); (try clear cA0 cA1 cA2 cA3); (obtain ⟨cA0, cA1, cA2, cA3⟩ := row4c hA); (obtain ⟨zA0, zA1, zA2, zA3⟩ := row4z hA); clear hb) | (go_at_call 24; refine (add_any (by first | exact W4.mk' hln.out | exact W4.mk' (Nat.lt_trans (Nat.mod_lt _ hpos) HM.out) | exact W4.zero | exact W4.small (n := 1) rfl (by decide) | exact W4.small (n := 2) rfl (by decide) | exact W4.small (n := 3) rfl (by decide) | exact W4.small (n := 4) rfl (by decide) | exact W4.small (n := 5) rfl (by decide) | exact W4.small (n := 7) rfl (by decide)) (by first | exact W4.mk' hln.out | exact W4.mk' (Nat.lt_trans (Nat.mod_lt _ hpos) HM.out) | exact W4.zero | exact W4.small (n := 1) rfl (by decide) | exact W4.small (n := 2) rfl (by decide) | exact W4.small (n := 3) rfl (by decide) | exact W4.small (n := 4) rfl (by decide) | exact W4.small (n := 5) rfl (by decide) | exact W4.small (n := 7) rfl (by decide)) _).mono ?_; rintro e W ⟨rfl, hb⟩; (first | replace hA := below_get hb hA | replace hA := below_get hb (ak hA)); (first | replace hR := below_get hb hR | replace hR := below_get hb (ak hR)); (first | replace hD5 := below_get hb hD5 | replace hD5 := below_get hb (ak hD5)); (replace kk := bcl (by first | exact kk | exact kk.drew | exact bal kk _ | exact (bal kk _).drew) hb); (try clear cA0 cA1 cA2 cA3); (obtain ⟨cA0, cA1, cA2, cA3⟩ := row4c hA); (try clear cA0 cA1 cA2 cA3); (obtain ⟨cA0, cA1, cA2, cA3⟩ := row4c hA); (obtain ⟨zA0, zA1, zA2, zA3⟩ := row4z hA); clear hb)
          try go_wp2_with fail
          replace hHeld : (fun w' => w'.cell? ⟨w.heap.size, 0, none⟩ = some (.int .u64 (w0 (n) : Nat)) ∧ w'.cell? ⟨w.heap.size, 1, none⟩ = some (.int .u64 (w1 (n) : Nat)) ∧ w'.cell? ⟨w.heap.size, 2, none⟩ = some (.int .u64 (w2 (n) : Nat)) ∧ w'.cell? ⟨w.heap.size, 3, none⟩ = some (.int .u64 (w3 (n) : Nat))) W := (by (try dsimp only); first | (with_reducible exact ⟨cA0, cA1, cA2, cA3⟩) | exact ⟨cA0, cA1, cA2, cA3⟩ | go_keep)
          refine hK.out _ _ (Or.inr hHeld) ?_
          clear hK K
          try simp only [Act.put, List.setIfInBounds_toArray, List.set_cons_zero, List.set_cons_succ]
          refine takeT (i := 3) (d := some 22) (v := ?_) _ rfl rfl (by rfl) (by kernel_rfl) (by decide) (by kernel_rfl) (by kernel_rfl) (by kernel_rfl) (fun _ _ _ h => h) (by assumption) (by kernel_rfl) ?_ ?_
          rotate_left
          · (first | (intro w' hSw; (try dsimp only at hSw); go_simp; try (with_reducible rfl)) | (intro w'; go_simp; try (with_reducible rfl)))
          try simp only [Act.put, List.setIfInBounds_toArray, List.set_cons_zero, List.set_cons_succ]
          refine takeT (i := 4) (d := some 26) (v := ?_) _ rfl rfl (by rfl) (by kernel_rfl) (by decide) (by kernel_rfl) (by kernel_rfl) (by kernel_rfl) (fun _ _ _ h => h) (by assumption) (by kernel_rfl) ?_ ?_
          rotate_left
          · (first | (intro w' hSw; (try dsimp only at hSw); go_simp; try (with_reducible rfl)) | (intro w'; go_simp; try (with_reducible rfl)))
          try simp only [Act.put, List.setIfInBounds_toArray, List.set_cons_zero, List.set_cons_succ]
          refine takeW (i := 5) (d := some 27) (v := ?_) _ rfl rfl (by rfl) (by kernel_rfl) (by decide) (by kernel_rfl) (by kernel_rfl) (fun _ _ _ h => h) (by assumption) (by kernel_rfl) ?_ ?_
          rotate_left
          · (first | (intro w' hSw; (try dsimp only at hSw); go_simp; try (with_reducible rfl)) | (intro w'; go_simp; try (with_reducible rfl)))
          try simp only [Act.put, List.setIfInBounds_toArray, List.set_cons_zero, List.set_cons_succ]
          refine callT (i := 6) _ rfl (by rfl) (by kernel_rfl) (fun K hK => ?_)
          go_simp
          refine hK.out _ _ (Or.inl (by kernel_rfl)) ?_
          clear hK K
          try simp only [Act.put, List.setIfInBounds_toArray, List.set_cons_zero, List.set_cons_succ]
          refine doneT (by kernel_rfl) ?_ _
          go_simp
          go_wp2_with fail
          refine ⟨⟨k + 1, addm n 1, by omega, congrArg (Value.int .i64) (by omega), addm_lt _ _, (put4 _ _ _ _ hA).here, ((put4 _ _ _ _ hA).there _ (by omega)).trans hR, (put4 _ _ _ _ hA).below (by omega) kk⟩, ?_⟩
          simp only [intOf]; omega
      · have k2 : ¬ (k : Int) < 200 := by omega
        go_wp2_with fail
        refine (nonep_any _).mono ?_
        rintro e V1 ⟨rfl, hb⟩
        replace hA := below_get hb hA
        replace hR := below_get hb hR
        replace kk := bcl (by first | exact kk | exact kk.drew | exact below_drewN kk _) hb
        clear hb
        obtain ⟨cR0, cR1, cR2, cR3, cR4, cR5, cR6, cR7, cR8⟩ := row9c hR
        obtain ⟨zR0, zR1, zR2, zR3, zR4, zR5, zR6, zR7, zR8⟩ := row9z hR
        go_wp2_with fail
        have P := put9 (.int .u64 0) (.int .u64 0) (.int .u64 0) (.int .u64 0) (.int .u64 0) (.int .u64 0) (.int .u64 0) (.int .u64 0) (.bool true) hR
        replace P := put_hid P
        obtain ⟨V9, hV9, P⟩ := P
        rw [hV9]
        have P9 := P.here
        have k9 := P.below (by omega) (show Below w.heap.size w V1 from by first | exact kk | exact kk.drew | exact below_drewN kk _)
        obtain ⟨v0, v1, v2, v3, v4, v5, v6, v7, v8⟩ := row9c P9
        refine bodyPost_ret (v := _) (by simp [results, Try.results37, go_sem, v0, v1, v2, v3, v4, v5, v6, v7, v8]; rfl) rfl ?_
        exact ⟨.o, trivial, rfl, k9⟩
end Go.Proofs.Ytgghopmlcpcpkaa
