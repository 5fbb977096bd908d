/- A step of the proof: what a function of the program computes, or a plain law of numbers. -/
import Derived.Test.YtgghopmlcpcpkaaPowM
namespace Go.Proofs.Ytgghopmlcpcpkaa
open Go.RowKit PlainK
set_option linter.unusedVariables false
set_option linter.unusedSimpArgs false
theorem zero_cells {V : World} {b : Nat} {x0 x1 x2 x3 : Value} {t : TypeId} (h : V.heap[b]? = some (.cells #[x0, x1, x2, x3] t (0, 0))) :
    V.cell? ⟨b, 0, none⟩ = some x0 ∧ V.cell? ⟨b, 1, none⟩ = some x1 ∧ V.cell? ⟨b, 2, none⟩ = some x2 ∧ V.cell? ⟨b, 3, none⟩ = some x3 ∧
    V.frozen? ⟨b, 0, none⟩ = false ∧ V.frozen? ⟨b, 1, none⟩ = false ∧ V.frozen? ⟨b, 2, none⟩ = false ∧ V.frozen? ⟨b, 3, none⟩ = false := by
  refine ⟨?_, ?_, ?_, ?_, frozen_of_row _ _ 0 _ _ h, frozen_of_row _ _ 1 _ _ h, frozen_of_row _ _ 2 _ _ h, frozen_of_row _ _ 3 _ _ h⟩ <;> (rw [cell_of_row _ _ _ _ _ _ h]; rfl)
theorem modulus_any {m g : Nat} (w : World) (hF : IsF w g m) :
   Calls Try.prog 30 #[.pointer (some ⟨g, 0, none⟩)] w fun e w' => e = .returned (.agg #[.int .u64 (w0 (m) : Nat), .int .u64 (w1 (m) : Nat), .int .u64 (w2 (m) : Nat), .int .u64 (w3 (m) : Nat)]) ∧ Below w.heap.size w w' := by
  have HF := Lib.hid hF
  clear hF
  go_enter Try.func30, Try.ntmps30
  go_upto_region 3 with fail
  obtain ⟨V0, hW⟩ : ∃ V, w.alloc (.cells #[.int .u64 0, .int .u64 0, .int .u64 0, .int .u64 0] 24 (0, 0)) = V := ⟨_, rfl⟩
  rw [hW]
  have hR : V0.heap[w.heap.size]? = some (.cells #[.int .u64 0, .int .u64 0, .int .u64 0, .int .u64 0] 24 (0, 0)) := by
    rw [← hW]; simp only [alloc_at, World.size_alloc]; repeat (first | rw [if_pos trivial] | rw [if_pos (by omega)] | rw [if_neg (by omega)])
  have kk : Below w.heap.size w V0 := by
    rw [← hW]
    repeat (first | exact Below.refl _ _ | refine Below.drew ?_ | refine bal ?_ _)
  have fF := HF.out.keep kk
  clear hW
  have hQ := fF.blk
  have m0 : V0.cell? ⟨g, 0, none⟩ = some (.int .u64 (w0 (m) : Nat)) := by rw [cell_of_row _ _ _ _ _ _ hQ]; rfl
  have m1 : V0.cell? ⟨g, 1, none⟩ = some (.int .u64 (w1 (m) : Nat)) := by rw [cell_of_row _ _ _ _ _ _ hQ]; rfl
  have m2 : V0.cell? ⟨g, 2, none⟩ = some (.int .u64 (w2 (m) : Nat)) := by rw [cell_of_row _ _ _ _ _ _ hQ]; rfl
  have m3 : V0.cell? ⟨g, 3, none⟩ = some (.int .u64 (w3 (m) : Nat)) := by rw [cell_of_row _ _ _ _ _ _ hQ]; rfl
  have cR0 : V0.cell? ⟨w.heap.size, 0, none⟩ = some (.int .u64 0) := by rw [cell_of_row _ _ _ _ _ _ hR]; rfl
  have zR0 := frozen_of_row _ _ 0 _ _ hR
  have cR1 : V0.cell? ⟨w.heap.size, 1, none⟩ = some (.int .u64 0) := by rw [cell_of_row _ _ _ _ _ _ hR]; rfl
  have zR1 := frozen_of_row _ _ 1 _ _ hR
  have cR2 : V0.cell? ⟨w.heap.size, 2, none⟩ = some (.int .u64 0) := by rw [cell_of_row _ _ _ _ _ _ hR]; rfl
  have zR2 := frozen_of_row _ _ 2 _ _ hR
  have cR3 : V0.cell? ⟨w.heap.size, 3, none⟩ = some (.int .u64 0) := by rw [cell_of_row _ _ _ _ _ _ hR]; rfl
  have zR3 := frozen_of_row _ _ 3 _ _ hR
  go_wp2_with fail
  have P := put4 (.int .u64 (w0 (m) : Nat)) (.int .u64 (w1 (m) : Nat)) (.int .u64 (w2 (m) : Nat)) (.int .u64 (w3 (m) : Nat)) hR
  replace P := put_hid P
  obtain ⟨V9, hV9, P⟩ := P
  rw [hV9]
  have k9 := P.below (by omega) kk
  have P9 := P.here
  have v0 : V9.cell? ⟨w.heap.size, 0, none⟩ = some (.int .u64 (w0 (m) : Nat)) := by rw [cell_of_row _ _ _ _ _ _ P9]; rfl
  have v1 : V9.cell? ⟨w.heap.size, 1, none⟩ = some (.int .u64 (w1 (m) : Nat)) := by rw [cell_of_row _ _ _ _ _ _ P9]; rfl
  have v2 : V9.cell? ⟨w.heap.size, 2, none⟩ = some (.int .u64 (w2 (m) : Nat)) := by rw [cell_of_row _ _ _ _ _ _ P9]; rfl
  have v3 : V9.cell? ⟨w.heap.size, 3, none⟩ = some (.int .u64 (w3 (m) : Nat)) := by rw [cell_of_row _ _ _ _ _ _ P9]; rfl
  refine bodyPost_ret (v := _) (by simp [results, Try.results30, go_sem, v0, v1, v2, v3]; rfl) rfl ?_
  exact ⟨rfl, k9⟩
def invN (a m : Nat) : Nat := if a % m = 0 then 0 else (a % m) ^ (m - 2) % m
def invE (a m : Nat) : Int := if a % m = 0 then 5 else 0
theorem subm_two {m k : Nat} (h : m < 2 ^ 256) (h3 : k ≤ m) : subm m k = m - k := by unfold subm; omega
set_option maxRecDepth 10000 in
set_option maxHeartbeats 4000000 in
theorem inv_any {a0 a1 a2 a3 : Int} {a m g : Nat} (ha : W4 a0 a1 a2 a3 a) (w : World) (hF : IsF w g m) :
   Calls Try.prog 28 #[.pointer (some ⟨g, 0, none⟩), .agg #[.int .u64 a0, .int .u64 a1, .int .u64 a2, .int .u64 a3]] w fun e w' =>
    e = .returned (.tuple #[.agg #[.int .u64 (w0 (invN a m) : Nat), .int .u64 (w1 (invN a m) : Nat), .int .u64 (w2 (invN a m) : Nat), .int .u64 (w3 (invN a m) : Nat)], .int .i64 (invE a m)]) ∧ Below w.heap.size w w' := by
  obtain ⟨rfl, rfl, rfl, rfl, la⟩ := ha
  have hla := Lib.hid la
  have HF := Lib.hid hF
  clear la hF
  go_enter Try.func28, Try.ntmps28
  go_upto_region 3 with fail
  obtain ⟨V0, hW⟩ : ∃ V, (w.alloc (.cells #[.int .u64 (w0 (a) : Nat), .int .u64 (w1 (a) : Nat), .int .u64 (w2 (a) : Nat), .int .u64 (w3 (a) : Nat)] 24)).alloc (.cells #[.int .u64 0, .int .u64 0, .int .u64 0, .int .u64 0] 24 (0, 0)) = V := ⟨_, rfl⟩
  rw [hW]
  have hA : V0.heap[w.heap.size]? = some (.cells #[.int .u64 (w0 (a) : Nat), .int .u64 (w1 (a) : Nat), .int .u64 (w2 (a) : Nat), .int .u64 (w3 (a) : Nat)] 24 (0, 0)) := by
    rw [← hW]; simp only [alloc_at, World.size_alloc]; repeat (first | rw [if_pos trivial] | rw [if_pos (by omega)] | rw [if_neg (by omega)])
  have hR : V0.heap[w.heap.size + 1]? = some (.cells #[.int .u64 0, .int .u64 0, .int .u64 0, .int .u64 0] 24 (0, 0)) := by
    rw [← hW]; simp only [alloc_at, World.size_alloc]; repeat (first | rw [if_pos trivial] | rw [if_pos (by omega)] | rw [if_neg (by omega)])
  have kk : Below w.heap.size w V0 := by
    rw [← hW]
    repeat (first | exact Below.refl _ _ | refine Below.drew ?_ | refine bal ?_ _)
  have fF := HF.out.keep kk
  clear hW
  have cA0 : V0.cell? ⟨w.heap.size, 0, none⟩ = some (.int .u64 (w0 (a) : Nat)) := by rw [cell_of_row _ _ _ _ _ _ hA]; rfl
  have zA0 := frozen_of_row _ _ 0 _ _ hA
  have cA1 : V0.cell? ⟨w.heap.size, 1, none⟩ = some (.int .u64 (w1 (a) : Nat)) := by rw [cell_of_row _ _ _ _ _ _ hA]; rfl
  have zA1 := frozen_of_row _ _ 1 _ _ hA
  have cA2 : V0.cell? ⟨w.heap.size, 2, none⟩ = some (.int .u64 (w2 (a) : Nat)) := by rw [cell_of_row _ _ _ _ _ _ hA]; rfl
  have zA2 := frozen_of_row _ _ 2 _ _ hA
  have cA3 : V0.cell? ⟨w.heap.size, 3, none⟩ = some (.int .u64 (w3 (a) : Nat)) := by rw [cell_of_row _ _ _ _ _ _ hA]; rfl
  have zA3 := frozen_of_row _ _ 3 _ _ hA
  go_wp2_with fail
  refine (reduce_any (W4.mk' hla.out) _ fF.toM).mono ?_
  rintro e V1 ⟨rfl, hb⟩
  replace hA := below_get hb (show _ = some (.cells #[.int .u64 (w0 (a) : Nat), .int .u64 (w1 (a) : Nat), .int .u64 (w2 (a) : Nat), .int .u64 (w3 (a) : Nat)] 24 (0, 0)) from hA)
  replace hR := below_get hb (show _ = some (.cells #[.int .u64 0, .int .u64 0, .int .u64 0, .int .u64 0] 24 (0, 0)) from hR)
  replace kk := bcl (by first | exact kk | exact kk.drew | exact below_drewN kk _) hb
  replace fF := HF.out.keep kk
  clear cA0 zA0 cA1 zA1 cA2 zA2 cA3 zA3
  clear hb
  have cA0 : V1.cell? ⟨w.heap.size, 0, none⟩ = some (.int .u64 (w0 (a) : Nat)) := by rw [cell_of_row _ _ _ _ _ _ hA]; rfl
  have zA0 := frozen_of_row _ _ 0 _ _ hA
  have cA1 : V1.cell? ⟨w.heap.size, 1, none⟩ = some (.int .u64 (w1 (a) : Nat)) := by rw [cell_of_row _ _ _ _ _ _ hA]; rfl
  have zA1 := frozen_of_row _ _ 1 _ _ hA
  have cA2 : V1.cell? ⟨w.heap.size, 2, none⟩ = some (.int .u64 (w2 (a) : Nat)) := by rw [cell_of_row _ _ _ _ _ _ hA]; rfl
  have zA2 := frozen_of_row _ _ 2 _ _ hA
  have cA3 : V1.cell? ⟨w.heap.size, 3, none⟩ = some (.int .u64 (w3 (a) : Nat)) := by rw [cell_of_row _ _ _ _ _ _ hA]; rfl
  have zA3 := frozen_of_row _ _ 3 _ _ hA
  go_upto_region 4 with fail
  have P := put4 (.int .u64 (w0 (a % m) : Nat)) (.int .u64 (w1 (a % m) : Nat)) (.int .u64 (w2 (a % m) : Nat)) (.int .u64 (w3 (a % m) : Nat)) hA
  replace P := put_hid P
  obtain ⟨V2, hW, P⟩ := P
  rw [hW]
  replace hA := P.here
  replace hR := (P.there (w.heap.size + 1) (by omega)).trans (show _ = some (.cells #[.int .u64 0, .int .u64 0, .int .u64 0, .int .u64 0] 24 (0, 0)) from hR)
  replace kk := P.below (by omega) (show Below w.heap.size w V1 from by first | exact kk | exact kk.drew | exact below_drewN kk _)
  replace fF := HF.out.keep kk
  clear cA0 zA0 cA1 zA1 cA2 zA2 cA3 zA3
  clear P hW
  have hpos : 0 < m := by have := HF.out.three; omega
  have HM := Lib.hid HF.out.lt
  have HR := Lib.hid (Nat.lt_trans (Nat.mod_lt a hpos) HF.out.lt)
  by_cases hz : a % m = 0
  · have hq := eql_t (W4.mk' HR.out) W4.zero hz
    have HZ := Lib.hid hz
    clear hz
    have cA0 : V2.cell? ⟨w.heap.size, 0, none⟩ = some (.int .u64 (w0 (a % m) : Nat)) := by rw [cell_of_row _ _ _ _ _ _ hA]; rfl
    have zA0 := frozen_of_row _ _ 0 _ _ hA
    have cA1 : V2.cell? ⟨w.heap.size, 1, none⟩ = some (.int .u64 (w1 (a % m) : Nat)) := by rw [cell_of_row _ _ _ _ _ _ hA]; rfl
    have zA1 := frozen_of_row _ _ 1 _ _ hA
    have cA2 : V2.cell? ⟨w.heap.size, 2, none⟩ = some (.int .u64 (w2 (a % m) : Nat)) := by rw [cell_of_row _ _ _ _ _ _ hA]; rfl
    have zA2 := frozen_of_row _ _ 2 _ _ hA
    have cA3 : V2.cell? ⟨w.heap.size, 3, none⟩ = some (.int .u64 (w3 (a % m) : Nat)) := by rw [cell_of_row _ _ _ _ _ _ hA]; rfl
    have zA3 := frozen_of_row _ _ 3 _ _ hA
    have cR0 : V2.cell? ⟨w.heap.size + 1, 0, none⟩ = some (.int .u64 0) := by rw [cell_of_row _ _ _ _ _ _ hR]; rfl
    have zR0 := frozen_of_row _ _ 0 _ _ hR
    have cR1 : V2.cell? ⟨w.heap.size + 1, 1, none⟩ = some (.int .u64 0) := by rw [cell_of_row _ _ _ _ _ _ hR]; rfl
    have zR1 := frozen_of_row _ _ 1 _ _ hR
    have cR2 : V2.cell? ⟨w.heap.size + 1, 2, none⟩ = some (.int .u64 0) := by rw [cell_of_row _ _ _ _ _ _ hR]; rfl
    have zR2 := frozen_of_row _ _ 2 _ _ hR
    have cR3 : V2.cell? ⟨w.heap.size + 1, 3, none⟩ = some (.int .u64 0) := by rw [cell_of_row _ _ _ _ _ _ hR]; rfl
    have zR3 := frozen_of_row _ _ 3 _ _ hR
    go_wp2_with fail
    have P := put4 (.int .u64 0) (.int .u64 0) (.int .u64 0) (.int .u64 0) hR
    replace P := put_hid P
    obtain ⟨V9, hV9, P⟩ := P
    rw [hV9]
    have k9 := P.below (by omega) kk
    have P9 := P.here
    have v0 : V9.cell? ⟨w.heap.size + 1, 0, none⟩ = some (.int .u64 0) := by rw [cell_of_row _ _ _ _ _ _ P9]; rfl
    have v1 : V9.cell? ⟨w.heap.size + 1, 1, none⟩ = some (.int .u64 0) := by rw [cell_of_row _ _ _ _ _ _ P9]; rfl
    have v2 : V9.cell? ⟨w.heap.size + 1, 2, none⟩ = some (.int .u64 0) := by rw [cell_of_row _ _ _ _ _ _ P9]; rfl
    have v3 : V9.cell? ⟨w.heap.size + 1, 3, none⟩ = some (.int .u64 0) := by rw [cell_of_row _ _ _ _ _ _ P9]; rfl
    refine bodyPost_ret (v := _) (by simp [results, Try.results28, go_sem, v0, v1, v2, v3]; rfl) rfl ?_
    rw [invN, if_pos HZ.out, invE, if_pos HZ.out]
    exact ⟨rfl, k9⟩
  · have hq := eql_f (W4.mk' HR.out) W4.zero hz
    have HZ := Lib.hid hz
    clear hz
    have cA0 : V2.cell? ⟨w.heap.size, 0, none⟩ = some (.int .u64 (w0 (a % m) : Nat)) := by rw [cell_of_row _ _ _ _ _ _ hA]; rfl
    have zA0 := frozen_of_row _ _ 0 _ _ hA
    have cA1 : V2.cell? ⟨w.heap.size, 1, none⟩ = some (.int .u64 (w1 (a % m) : Nat)) := by rw [cell_of_row _ _ _ _ _ _ hA]; rfl
    have zA1 := frozen_of_row _ _ 1 _ _ hA
    have cA2 : V2.cell? ⟨w.heap.size, 2, none⟩ = some (.int .u64 (w2 (a % m) : Nat)) := by rw [cell_of_row _ _ _ _ _ _ hA]; rfl
    have zA2 := frozen_of_row _ _ 2 _ _ hA
    have cA3 : V2.cell? ⟨w.heap.size, 3, none⟩ = some (.int .u64 (w3 (a % m) : Nat)) := by rw [cell_of_row _ _ _ _ _ _ hA]; rfl
    have zA3 := frozen_of_row _ _ 3 _ _ hA
    have cR0 : V2.cell? ⟨w.heap.size + 1, 0, none⟩ = some (.int .u64 0) := by rw [cell_of_row _ _ _ _ _ _ hR]; rfl
    have zR0 := frozen_of_row _ _ 0 _ _ hR
    have cR1 : V2.cell? ⟨w.heap.size + 1, 1, none⟩ = some (.int .u64 0) := by rw [cell_of_row _ _ _ _ _ _ hR]; rfl
    have zR1 := frozen_of_row _ _ 1 _ _ hR
    have cR2 : V2.cell? ⟨w.heap.size + 1, 2, none⟩ = some (.int .u64 0) := by rw [cell_of_row _ _ _ _ _ _ hR]; rfl
    have zR2 := frozen_of_row _ _ 2 _ _ hR
    have cR3 : V2.cell? ⟨w.heap.size + 1, 3, none⟩ = some (.int .u64 0) := by rw [cell_of_row _ _ _ _ _ _ hR]; rfl
    have zR3 := frozen_of_row _ _ 3 _ _ hR
    go_upto_region 6 with fail
    go_cut [6] (fun s6 wx => ∃ bx : Nat, s6 = .pointer (some ⟨bx, 0, none⟩) ∧ wx.heap[bx]? = some (.cells #[.int .u64 (w0 (m - 2) : Nat), .int .u64 (w1 (m - 2) : Nat), .int .u64 (w2 (m - 2) : Nat), .int .u64 (w3 (m - 2) : Nat)] 24 (0, 0)) ∧ wx.heap[w.heap.size]? = some (.cells #[.int .u64 (w0 (a % m) : Nat), .int .u64 (w1 (a % m) : Nat), .int .u64 (w2 (a % m) : Nat), .int .u64 (w3 (a % m) : Nat)] 24 (0, 0)) ∧ wx.heap[w.heap.size + 1]? = some (.cells #[.int .u64 0, .int .u64 0, .int .u64 0, .int .u64 0] 24 (0, 0)) ∧ bx ≥ w.heap.size ∧ (w.heap.size) ≠ bx ∧ (w.heap.size + 1) ≠ bx ∧ Below w.heap.size w wx)
    case first =>
      have hQ := fF.blk
      have lF := lt_of_heap hQ
      have nF := Nat.ne_of_lt lF
      have mF := nF.symm
      have lK := kk.size
      have lA := lt_of_heap hA
      have nA := Nat.ne_of_lt lA
      have mA := nA.symm
      have lR := lt_of_heap hR
      have nR := Nat.ne_of_lt lR
      have mR := nR.symm
      have cF0 : World.cell? V2 ⟨g, 0, none⟩ = some (.int .u64 (w0 (m) : Nat)) := by rw [cell_of_row _ _ _ _ _ _ hQ]; rfl
      have cF1 : World.cell? V2 ⟨g, 1, none⟩ = some (.int .u64 (w1 (m) : Nat)) := by rw [cell_of_row _ _ _ _ _ _ hQ]; rfl
      have cF2 : World.cell? V2 ⟨g, 2, none⟩ = some (.int .u64 (w2 (m) : Nat)) := by rw [cell_of_row _ _ _ _ _ _ hQ]; rfl
      have cF3 : World.cell? V2 ⟨g, 3, none⟩ = some (.int .u64 (w3 (m) : Nat)) := by rw [cell_of_row _ _ _ _ _ _ hQ]; rfl
      go_region_held3 (fun w' => w'.cell? ⟨g, 0, none⟩ = some (.int .u64 (w0 (m) : Nat)) ∧ w'.cell? ⟨g, 1, none⟩ = some (.int .u64 (w1 (m) : Nat)) ∧ w'.cell? ⟨g, 2, none⟩ = some (.int .u64 (w2 (m) : Nat)) ∧ w'.cell? ⟨g, 3, none⟩ = some (.int .u64 (w3 (m) : Nat))) (first | (with_reducible exact ⟨cF0, cF1, cF2, cF3⟩) | go_keep) (first | (go_at_call 17; refine (of_any _ _).mono ?_; rintro e W ⟨rfl, hb⟩; (replace hA := below_get hb (show _ = some (.cells #[.int .u64 (w0 (a % m) : Nat), .int .u64 (w1 (a % m) : Nat), .int .u64 (w2 (a % m) : Nat), .int .u64 (w3 (a % m) : Nat)] 24 (0, 0)) from by first | exact hA | exact ak hA)); (replace hR := below_get hb (show _ = some (.cells #[.int .u64 0, .int .u64 0, .int .u64 0, .int .u64 0] 24 (0, 0)) from by first | exact hR | exact ak hR)); (replace kk := bcl (by first | exact kk | exact kk.drew | exact bal kk _ | exact (bal kk _).drew) hb); (replace fF := HF.out.keep kk); (replace hQ := fF.blk); (have lA := lt_of_heap hA); (have nA := Nat.ne_of_lt lA); (have mA := nA.symm); (have lR := lt_of_heap hR); (have nR := Nat.ne_of_lt lR); (have mR := nR.symm); (have lF := lt_of_heap hQ); (have nF := Nat.ne_of_lt lF); (have mF := nF.symm); (try (first | (replace hB := below_get hb hB; obtain ⟨cB0, cB1, cB2, cB3, zB0, zB1, zB2, zB3⟩ := zero_cells hB) | (have hB := below_get hb (show _ = some (.cells #[.int .u64 0, .int .u64 0, .int .u64 0, .int .u64 0] 24 (0, 0)) from heap_alloc_new _ _); obtain ⟨cB0, cB1, cB2, cB3, zB0, zB1, zB2, zB3⟩ := zero_cells hB))); (have cF0 : World.cell? W ⟨g, 0, none⟩ = some (.int .u64 (w0 (m) : Nat)) := by rw [cell_of_row _ _ _ _ _ _ hQ]; rfl); (have cF1 : World.cell? W ⟨g, 1, none⟩ = some (.int .u64 (w1 (m) : Nat)) := by rw [cell_of_row _ _ _ _ _ _ hQ]; rfl); (have cF2 : World.cell? W ⟨g, 2, none⟩ = some (.int .u64 (w2 (m) : Nat)) := by rw [cell_of_row _ _ _ _ _ _ hQ]; rfl); (have cF3 : World.cell? W ⟨g, 3, none⟩ = some (.int .u64 (w3 (m) : Nat)) := by rw [cell_of_row _ _ _ _ _ _ hQ]; rfl); clear hb) | (go_at_call 31; refine (sub_any (by first | exact W4.mk' HR.out | exact W4.mk' HM.out | exact W4.mk' (Nat.lt_trans (Nat.mod_lt _ hpos) HM.out) | exact W4.small (n := 1) rfl (by decide) | exact W4.small (n := 2) rfl (by decide) | exact W4.small (n := 3) rfl (by decide) | exact W4.small (n := 4) rfl (by decide) | exact W4.small (n := 5) rfl (by decide) | exact W4.small (n := 7) rfl (by decide)) (by first | exact W4.mk' HR.out | exact W4.mk' HM.out | exact W4.mk' (Nat.lt_trans (Nat.mod_lt _ hpos) HM.out) | exact W4.small (n := 1) rfl (by decide) | exact W4.small (n := 2) rfl (by decide) | exact W4.small (n := 3) rfl (by decide) | exact W4.small (n := 4) rfl (by decide) | exact W4.small (n := 5) rfl (by decide) | exact W4.small (n := 7) rfl (by decide)) _).mono ?_; rintro e W ⟨rfl, hb⟩; (replace hA := below_get hb (show _ = some (.cells #[.int .u64 (w0 (a % m) : Nat), .int .u64 (w1 (a % m) : Nat), .int .u64 (w2 (a % m) : Nat), .int .u64 (w3 (a % m) : Nat)] 24 (0, 0)) from by first | exact hA | exact ak hA)); (replace hR := below_get hb (show _ = some (.cells #[.int .u64 0, .int .u64 0, .int .u64 0, .int .u64 0] 24 (0, 0)) from by first | exact hR | exact ak hR)); (replace kk := bcl (by first | exact kk | exact kk.drew | exact bal kk _ | exact (bal kk _).drew) hb); (replace fF := HF.out.keep kk); (replace hQ := fF.blk); (have lA := lt_of_heap hA); (have nA := Nat.ne_of_lt lA); (have mA := nA.symm); (have lR := lt_of_heap hR); (have nR := Nat.ne_of_lt lR); (have mR := nR.symm); (have lF := lt_of_heap hQ); (have nF := Nat.ne_of_lt lF); (have mF := nF.symm); (try (first | (replace hB := below_get hb hB; obtain ⟨cB0, cB1, cB2, cB3, zB0, zB1, zB2, zB3⟩ := zero_cells hB) | (have hB := below_get hb (show _ = some (.cells #[.int .u64 0, .int .u64 0, .int .u64 0, .int .u64 0] 24 (0, 0)) from heap_alloc_new _ _); obtain ⟨cB0, cB1, cB2, cB3, zB0, zB1, zB2, zB3⟩ := zero_cells hB))); (have cF0 : World.cell? W ⟨g, 0, none⟩ = some (.int .u64 (w0 (m) : Nat)) := by rw [cell_of_row _ _ _ _ _ _ hQ]; rfl); (have cF1 : World.cell? W ⟨g, 1, none⟩ = some (.int .u64 (w1 (m) : Nat)) := by rw [cell_of_row _ _ _ _ _ _ hQ]; rfl); (have cF2 : World.cell? W ⟨g, 2, none⟩ = some (.int .u64 (w2 (m) : Nat)) := by rw [cell_of_row _ _ _ _ _ _ hQ]; rfl); (have cF3 : World.cell? W ⟨g, 3, none⟩ = some (.int .u64 (w3 (m) : Nat)) := by rw [cell_of_row _ _ _ _ _ _ hQ]; rfl); clear hb; rw [subm_two HM.out (by have := HF.out.three; omega)]))
      all_goals go_wp2_with fail
      all_goals go_meet
      all_goals have lK := kk.size
      all_goals first | (have P := put4 (.int .u64 (w0 (m - 2) : Nat)) (.int .u64 (w1 (m - 2) : Nat)) (.int .u64 (w2 (m - 2) : Nat)) (.int .u64 (w3 (m - 2) : Nat)) hB; exact ⟨_, rfl, P.here, (P.there _ (by omega)).trans hA, (P.there _ (by omega)).trans hR, by omega, by omega, by omega, by first | exact P.below (by omega) kk | exact (P.below (by omega) kk).drew⟩) | exact ⟨_, rfl, heap_alloc_new W _, ak (w := W) hA, ak (w := W) hR, by omega, by omega, by omega, by first | exact bal kk _ | exact (bal kk _).drew⟩
    case rest =>
      obtain ⟨bx, rfl, hB, hA, hR, gB, nBA, nBR, kk⟩ := hcut
      replace fF := HF.out.keep kk
      have cA0 : wc.cell? ⟨w.heap.size, 0, none⟩ = some (.int .u64 (w0 (a % m) : Nat)) := by rw [cell_of_row _ _ _ _ _ _ hA]; rfl
      have zA0 := frozen_of_row _ _ 0 _ _ hA
      have cA1 : wc.cell? ⟨w.heap.size, 1, none⟩ = some (.int .u64 (w1 (a % m) : Nat)) := by rw [cell_of_row _ _ _ _ _ _ hA]; rfl
      have zA1 := frozen_of_row _ _ 1 _ _ hA
      have cA2 : wc.cell? ⟨w.heap.size, 2, none⟩ = some (.int .u64 (w2 (a % m) : Nat)) := by rw [cell_of_row _ _ _ _ _ _ hA]; rfl
      have zA2 := frozen_of_row _ _ 2 _ _ hA
      have cA3 : wc.cell? ⟨w.heap.size, 3, none⟩ = some (.int .u64 (w3 (a % m) : Nat)) := by rw [cell_of_row _ _ _ _ _ _ hA]; rfl
      have zA3 := frozen_of_row _ _ 3 _ _ hA
      have cB0 : wc.cell? ⟨bx, 0, none⟩ = some (.int .u64 (w0 (m - 2) : Nat)) := by rw [cell_of_row _ _ _ _ _ _ hB]; rfl
      have zB0 := frozen_of_row _ _ 0 _ _ hB
      have cB1 : wc.cell? ⟨bx, 1, none⟩ = some (.int .u64 (w1 (m - 2) : Nat)) := by rw [cell_of_row _ _ _ _ _ _ hB]; rfl
      have zB1 := frozen_of_row _ _ 1 _ _ hB
      have cB2 : wc.cell? ⟨bx, 2, none⟩ = some (.int .u64 (w2 (m - 2) : Nat)) := by rw [cell_of_row _ _ _ _ _ _ hB]; rfl
      have zB2 := frozen_of_row _ _ 2 _ _ hB
      have cB3 : wc.cell? ⟨bx, 3, none⟩ = some (.int .u64 (w3 (m - 2) : Nat)) := by rw [cell_of_row _ _ _ _ _ _ hB]; rfl
      have zB3 := frozen_of_row _ _ 3 _ _ hB
      have cR0 : wc.cell? ⟨w.heap.size + 1, 0, none⟩ = some (.int .u64 0) := by rw [cell_of_row _ _ _ _ _ _ hR]; rfl
      have zR0 := frozen_of_row _ _ 0 _ _ hR
      have cR1 : wc.cell? ⟨w.heap.size + 1, 1, none⟩ = some (.int .u64 0) := by rw [cell_of_row _ _ _ _ _ _ hR]; rfl
      have zR1 := frozen_of_row _ _ 1 _ _ hR
      have cR2 : wc.cell? ⟨w.heap.size + 1, 2, none⟩ = some (.int .u64 0) := by rw [cell_of_row _ _ _ _ _ _ hR]; rfl
      have zR2 := frozen_of_row _ _ 2 _ _ hR
      have cR3 : wc.cell? ⟨w.heap.size + 1, 3, none⟩ = some (.int .u64 0) := by rw [cell_of_row _ _ _ _ _ _ hR]; rfl
      have zR3 := frozen_of_row _ _ 3 _ _ hR
      go_wp2_with fail
      refine (pow_any (W4.mk' HR.out) (W4.mk' (Nat.lt_of_le_of_lt (Nat.sub_le _ _) HM.out)) _ fF).mono ?_
      rintro e V6 ⟨rfl, hb⟩
      replace hA := below_get hb (show _ = some (.cells #[.int .u64 (w0 (a % m) : Nat), .int .u64 (w1 (a % m) : Nat), .int .u64 (w2 (a % m) : Nat), .int .u64 (w3 (a % m) : Nat)] 24 (0, 0)) from hA)
      replace hR := below_get hb (show _ = some (.cells #[.int .u64 0, .int .u64 0, .int .u64 0, .int .u64 0] 24 (0, 0)) from hR)
      replace hB := below_get hb (show _ = some (.cells #[.int .u64 (w0 (m - 2) : Nat), .int .u64 (w1 (m - 2) : Nat), .int .u64 (w2 (m - 2) : Nat), .int .u64 (w3 (m - 2) : Nat)] 24 (0, 0)) from hB)
      replace kk := bcl (by first | exact kk | exact kk.drew | exact below_drewN kk _) hb
      replace fF := HF.out.keep kk
      clear cA0 zA0 cA1 zA1 cA2 zA2 cA3 zA3 cB0 zB0 cB1 zB1 cB2 zB2 cB3 zB3 cR0 zR0 cR1 zR1 cR2 zR2 cR3 zR3
      clear hb
      have cR0 : V6.cell? ⟨w.heap.size + 1, 0, none⟩ = some (.int .u64 0) := by rw [cell_of_row _ _ _ _ _ _ hR]; rfl
      have zR0 := frozen_of_row _ _ 0 _ _ hR
      have cR1 : V6.cell? ⟨w.heap.size + 1, 1, none⟩ = some (.int .u64 0) := by rw [cell_of_row _ _ _ _ _ _ hR]; rfl
      have zR1 := frozen_of_row _ _ 1 _ _ hR
      have cR2 : V6.cell? ⟨w.heap.size + 1, 2, none⟩ = some (.int .u64 0) := by rw [cell_of_row _ _ _ _ _ _ hR]; rfl
      have zR2 := frozen_of_row _ _ 2 _ _ hR
      have cR3 : V6.cell? ⟨w.heap.size + 1, 3, none⟩ = some (.int .u64 0) := by rw [cell_of_row _ _ _ _ _ _ hR]; rfl
      have zR3 := frozen_of_row _ _ 3 _ _ hR
      go_wp2_with fail
      have P := put4 (.int .u64 (w0 ((a % m) ^ (m - 2) % m) : Nat)) (.int .u64 (w1 ((a % m) ^ (m - 2) % m) : Nat)) (.int .u64 (w2 ((a % m) ^ (m - 2) % m) : Nat)) (.int .u64 (w3 ((a % m) ^ (m - 2) % m) : Nat)) hR
      replace P := put_hid P
      obtain ⟨V9, hV9, P⟩ := P
      rw [hV9]
      have k9 := P.below (by omega) kk
      have P9 := P.here
      have v0 : V9.cell? ⟨w.heap.size + 1, 0, none⟩ = some (.int .u64 (w0 ((a % m) ^ (m - 2) % m) : Nat)) := by rw [cell_of_row _ _ _ _ _ _ P9]; rfl
      have v1 : V9.cell? ⟨w.heap.size + 1, 1, none⟩ = some (.int .u64 (w1 ((a % m) ^ (m - 2) % m) : Nat)) := by rw [cell_of_row _ _ _ _ _ _ P9]; rfl
      have v2 : V9.cell? ⟨w.heap.size + 1, 2, none⟩ = some (.int .u64 (w2 ((a % m) ^ (m - 2) % m) : Nat)) := by rw [cell_of_row _ _ _ _ _ _ P9]; rfl
      have v3 : V9.cell? ⟨w.heap.size + 1, 3, none⟩ = some (.int .u64 (w3 ((a % m) ^ (m - 2) % m) : Nat)) := by rw [cell_of_row _ _ _ _ _ _ P9]; rfl
      refine bodyPost_ret (v := _) (by simp [results, Try.results28, go_sem, v0, v1, v2, v3]; rfl) rfl ?_
      rw [invN, if_neg HZ.out, invE, if_neg HZ.out]
      exact ⟨rfl, k9⟩
end Go.Proofs.Ytgghopmlcpcpkaa
