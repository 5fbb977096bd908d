/- A step of the proof: what a function of the program computes, or a plain law of numbers. -/
import Derived.Test.YtgghopmlcpcpkaaRayM
import Derived.Test.YtgghopmlcpcpkaaRowLib
import Derived.Test.YtgghopmlcpcpkaaCurvN
namespace Go.Proofs.Ytgghopmlcpcpkaa
open Go.RowKit PlainK
set_option linter.unusedVariables false
set_option linter.unusedSimpArgs false
set_option maxRecDepth 10000 in
set_option maxHeartbeats 16000000 in
theorem twice_any {a0 a1 a2 a3 b0 b1 b2 b3 c0 c1 c2 c3 : Int} {t : T3} {m g : Nat} (ha : W4 a0 a1 a2 a3 t.x) (hb : W4 b0 b1 b2 b3 t.y) (hc : W4 c0 c1 c2 c3 t.z) (w : World) (hF : IsF w g m) :
   Calls Try.prog 75 #[.agg #[.int .u64 a0, .int .u64 a1, .int .u64 a2, .int .u64 a3, .int .u64 b0, .int .u64 b1, .int .u64 b2, .int .u64 b3, .int .u64 c0, .int .u64 c1, .int .u64 c2, .int .u64 c3], .pointer (some ⟨g, 0, none⟩)] w fun e w' => e = .returned (.agg #[.int .u64 (w0 ((ntwice m t).x) : Nat), .int .u64 (w1 ((ntwice m t).x) : Nat), .int .u64 (w2 ((ntwice m t).x) : Nat), .int .u64 (w3 ((ntwice m t).x) : Nat), .int .u64 (w0 ((ntwice m t).y) : Nat), .int .u64 (w1 ((ntwice m t).y) : Nat), .int .u64 (w2 ((ntwice m t).y) : Nat), .int .u64 (w3 ((ntwice m t).y) : Nat), .int .u64 (w0 ((ntwice m t).z) : Nat), .int .u64 (w1 ((ntwice m t).z) : Nat), .int .u64 (w2 ((ntwice m t).z) : Nat), .int .u64 (w3 ((ntwice m t).z) : Nat)]) ∧ Below w.heap.size w w' := by
  obtain ⟨x, y, z⟩ := t
  obtain ⟨rfl, rfl, rfl, rfl, la⟩ := ha
  obtain ⟨rfl, rfl, rfl, rfl, lb⟩ := hb
  obtain ⟨rfl, rfl, rfl, rfl, lc⟩ := hc
  dsimp only at la lb lc ⊢
  have hla := Lib.hid la
  have hlb := Lib.hid lb
  have hlc := Lib.hid lc
  have HF := Lib.hid hF
  have HM := Lib.hid hF.lt
  have hpos : 0 < m := by have := hF.three; omega
  have hgl := hF.lt'
  clear la lb lc hF
  go_enter Try.func75, Try.ntmps75
  go_upto_region 1 with fail
  obtain ⟨V0, hW⟩ : ∃ V, (w.alloc (.cells #[.int .u64 (w0 (x) : Nat), .int .u64 (w1 (x) : Nat), .int .u64 (w2 (x) : Nat), .int .u64 (w3 (x) : Nat), .int .u64 (w0 (y) : Nat), .int .u64 (w1 (y) : Nat), .int .u64 (w2 (y) : Nat), .int .u64 (w3 (y) : Nat), .int .u64 (w0 (z) : Nat), .int .u64 (w1 (z) : Nat), .int .u64 (w2 (z) : Nat), .int .u64 (w3 (z) : Nat)] 103)).alloc (.cells #[.int .u64 0, .int .u64 0, .int .u64 0, .int .u64 0, .int .u64 0, .int .u64 0, .int .u64 0, .int .u64 0, .int .u64 0, .int .u64 0, .int .u64 0, .int .u64 0] 103) = V := ⟨_, rfl⟩
  rw [hW]
  have hA : V0.heap[w.heap.size]? = some (.cells #[.int .u64 (w0 (x) : Nat), .int .u64 (w1 (x) : Nat), .int .u64 (w2 (x) : Nat), .int .u64 (w3 (x) : Nat), .int .u64 (w0 (y) : Nat), .int .u64 (w1 (y) : Nat), .int .u64 (w2 (y) : Nat), .int .u64 (w3 (y) : Nat), .int .u64 (w0 (z) : Nat), .int .u64 (w1 (z) : Nat), .int .u64 (w2 (z) : Nat), .int .u64 (w3 (z) : Nat)] 103 (0, 0)) := by
    rw [← hW]; simp only [alloc_at, World.size_alloc]; repeat (first | rw [if_pos trivial] | rw [if_pos (by omega)] | rw [if_neg (by omega)])
  have hR : V0.heap[w.heap.size + 1]? = some (.cells #[.int .u64 0, .int .u64 0, .int .u64 0, .int .u64 0, .int .u64 0, .int .u64 0, .int .u64 0, .int .u64 0, .int .u64 0, .int .u64 0, .int .u64 0, .int .u64 0] 103 (0, 0)) := by
    rw [← hW]; simp only [alloc_at, World.size_alloc]; repeat (first | rw [if_pos trivial] | rw [if_pos (by omega)] | rw [if_neg (by omega)])
  have kk : Below w.heap.size w V0 := by
    rw [← hW]
    repeat (first | exact Below.refl _ _ | refine Below.drew ?_ | refine bal ?_ _)
  have fF := HF.out.keep kk
  clear hW
  have cA0 : V0.cell? ⟨w.heap.size, 0, none⟩ = some (.int .u64 (w0 (x) : Nat)) := by rw [cell_of_row _ _ _ _ _ _ hA]; rfl
  have zA0 := frozen_of_row _ _ 0 _ _ hA
  have cA1 : V0.cell? ⟨w.heap.size, 1, none⟩ = some (.int .u64 (w1 (x) : Nat)) := by rw [cell_of_row _ _ _ _ _ _ hA]; rfl
  have zA1 := frozen_of_row _ _ 1 _ _ hA
  have cA2 : V0.cell? ⟨w.heap.size, 2, none⟩ = some (.int .u64 (w2 (x) : Nat)) := by rw [cell_of_row _ _ _ _ _ _ hA]; rfl
  have zA2 := frozen_of_row _ _ 2 _ _ hA
  have cA3 : V0.cell? ⟨w.heap.size, 3, none⟩ = some (.int .u64 (w3 (x) : Nat)) := by rw [cell_of_row _ _ _ _ _ _ hA]; rfl
  have zA3 := frozen_of_row _ _ 3 _ _ hA
  have cA4 : V0.cell? ⟨w.heap.size, 4, none⟩ = some (.int .u64 (w0 (y) : Nat)) := by rw [cell_of_row _ _ _ _ _ _ hA]; rfl
  have zA4 := frozen_of_row _ _ 4 _ _ hA
  have cA5 : V0.cell? ⟨w.heap.size, 5, none⟩ = some (.int .u64 (w1 (y) : Nat)) := by rw [cell_of_row _ _ _ _ _ _ hA]; rfl
  have zA5 := frozen_of_row _ _ 5 _ _ hA
  have cA6 : V0.cell? ⟨w.heap.size, 6, none⟩ = some (.int .u64 (w2 (y) : Nat)) := by rw [cell_of_row _ _ _ _ _ _ hA]; rfl
  have zA6 := frozen_of_row _ _ 6 _ _ hA
  have cA7 : V0.cell? ⟨w.heap.size, 7, none⟩ = some (.int .u64 (w3 (y) : Nat)) := by rw [cell_of_row _ _ _ _ _ _ hA]; rfl
  have zA7 := frozen_of_row _ _ 7 _ _ hA
  have cA8 : V0.cell? ⟨w.heap.size, 8, none⟩ = some (.int .u64 (w0 (z) : Nat)) := by rw [cell_of_row _ _ _ _ _ _ hA]; rfl
  have zA8 := frozen_of_row _ _ 8 _ _ hA
  have cA9 : V0.cell? ⟨w.heap.size, 9, none⟩ = some (.int .u64 (w1 (z) : Nat)) := by rw [cell_of_row _ _ _ _ _ _ hA]; rfl
  have zA9 := frozen_of_row _ _ 9 _ _ hA
  have cA10 : V0.cell? ⟨w.heap.size, 10, none⟩ = some (.int .u64 (w2 (z) : Nat)) := by rw [cell_of_row _ _ _ _ _ _ hA]; rfl
  have zA10 := frozen_of_row _ _ 10 _ _ hA
  have cA11 : V0.cell? ⟨w.heap.size, 11, none⟩ = some (.int .u64 (w3 (z) : Nat)) := by rw [cell_of_row _ _ _ _ _ _ hA]; rfl
  have zA11 := frozen_of_row _ _ 11 _ _ hA
  by_cases hz : z = 0 ∨ y = 0
  · have e : ntwice m ⟨x, y, z⟩ = ⟨1, 1, 0⟩ := by unfold ntwice; rw [if_pos hz]
    have HE := Lib.hid e
    clear e
    have qz : z = 0 ∨ (z ≠ 0 ∧ y = 0) := by omega
    rcases qz with qz | ⟨qz, qy⟩
    · have q1 := eql_t (W4.mk' hlc.out) W4.zero qz
      clear hz qz
      go_wp2_with fail
      refine (ray_none (b0 := 0) (b1 := 0) (b2 := 0) (b3 := 0) (a0 := 0) (a1 := 0) (a2 := 0) (a3 := 0) _).mono ?_
      rintro e V1 ⟨rfl, hb⟩
      replace hA := below_get hb (show _ = some (.cells #[.int .u64 (w0 (x) : Nat), .int .u64 (w1 (x) : Nat), .int .u64 (w2 (x) : Nat), .int .u64 (w3 (x) : Nat), .int .u64 (w0 (y) : Nat), .int .u64 (w1 (y) : Nat), .int .u64 (w2 (y) : Nat), .int .u64 (w3 (y) : Nat), .int .u64 (w0 (z) : Nat), .int .u64 (w1 (z) : Nat), .int .u64 (w2 (z) : Nat), .int .u64 (w3 (z) : Nat)] 103 (0, 0)) from hA)
      replace hR := below_get hb (show _ = some (.cells #[.int .u64 0, .int .u64 0, .int .u64 0, .int .u64 0, .int .u64 0, .int .u64 0, .int .u64 0, .int .u64 0, .int .u64 0, .int .u64 0, .int .u64 0, .int .u64 0] 103 (0, 0)) from hR)
      replace kk := bcl (by first | exact kk | exact kk.drew | exact below_drewN kk _) hb
      replace fF := HF.out.keep kk
      clear cA0 zA0 cA1 zA1 cA2 zA2 cA3 zA3 cA4 zA4 cA5 zA5 cA6 zA6 cA7 zA7 cA8 zA8 cA9 zA9 cA10 zA10 cA11 zA11
      clear hb
      have cR0 : V1.cell? ⟨w.heap.size + 1, 0, none⟩ = some (.int .u64 0) := by rw [cell_of_row _ _ _ _ _ _ hR]; rfl
      have zR0 := frozen_of_row _ _ 0 _ _ hR
      have cR1 : V1.cell? ⟨w.heap.size + 1, 1, none⟩ = some (.int .u64 0) := by rw [cell_of_row _ _ _ _ _ _ hR]; rfl
      have zR1 := frozen_of_row _ _ 1 _ _ hR
      have cR2 : V1.cell? ⟨w.heap.size + 1, 2, none⟩ = some (.int .u64 0) := by rw [cell_of_row _ _ _ _ _ _ hR]; rfl
      have zR2 := frozen_of_row _ _ 2 _ _ hR
      have cR3 : V1.cell? ⟨w.heap.size + 1, 3, none⟩ = some (.int .u64 0) := by rw [cell_of_row _ _ _ _ _ _ hR]; rfl
      have zR3 := frozen_of_row _ _ 3 _ _ hR
      have cR4 : V1.cell? ⟨w.heap.size + 1, 4, none⟩ = some (.int .u64 0) := by rw [cell_of_row _ _ _ _ _ _ hR]; rfl
      have zR4 := frozen_of_row _ _ 4 _ _ hR
      have cR5 : V1.cell? ⟨w.heap.size + 1, 5, none⟩ = some (.int .u64 0) := by rw [cell_of_row _ _ _ _ _ _ hR]; rfl
      have zR5 := frozen_of_row _ _ 5 _ _ hR
      have cR6 : V1.cell? ⟨w.heap.size + 1, 6, none⟩ = some (.int .u64 0) := by rw [cell_of_row _ _ _ _ _ _ hR]; rfl
      have zR6 := frozen_of_row _ _ 6 _ _ hR
      have cR7 : V1.cell? ⟨w.heap.size + 1, 7, none⟩ = some (.int .u64 0) := by rw [cell_of_row _ _ _ _ _ _ hR]; rfl
      have zR7 := frozen_of_row _ _ 7 _ _ hR
      have cR8 : V1.cell? ⟨w.heap.size + 1, 8, none⟩ = some (.int .u64 0) := by rw [cell_of_row _ _ _ _ _ _ hR]; rfl
      have zR8 := frozen_of_row _ _ 8 _ _ hR
      have cR9 : V1.cell? ⟨w.heap.size + 1, 9, none⟩ = some (.int .u64 0) := by rw [cell_of_row _ _ _ _ _ _ hR]; rfl
      have zR9 := frozen_of_row _ _ 9 _ _ hR
      have cR10 : V1.cell? ⟨w.heap.size + 1, 10, none⟩ = some (.int .u64 0) := by rw [cell_of_row _ _ _ _ _ _ hR]; rfl
      have zR10 := frozen_of_row _ _ 10 _ _ hR
      have cR11 : V1.cell? ⟨w.heap.size + 1, 11, none⟩ = some (.int .u64 0) := by rw [cell_of_row _ _ _ _ _ _ hR]; rfl
      have zR11 := frozen_of_row _ _ 11 _ _ hR
      go_wp2_with fail
      have P := put12 (.int .u64 (w0 (1) : Nat)) (.int .u64 (w1 (1) : Nat)) (.int .u64 (w2 (1) : Nat)) (.int .u64 (w3 (1) : Nat)) (.int .u64 (w0 (1) : Nat)) (.int .u64 (w1 (1) : Nat)) (.int .u64 (w2 (1) : Nat)) (.int .u64 (w3 (1) : Nat)) (.int .u64 (w0 (0) : Nat)) (.int .u64 (w1 (0) : Nat)) (.int .u64 (w2 (0) : Nat)) (.int .u64 (w3 (0) : Nat)) hR
      replace P := put_hid P
      obtain ⟨V9, hV9, P⟩ := P
      rw [hV9]
      have P9 := P.here
      have k9 := P.below (by omega) (show Below w.heap.size w V1 from by first | exact kk | exact kk.drew | exact below_drewN kk _)
      obtain ⟨v0, v1, v2, v3, v4, v5, v6, v7, v8, v9, v10, v11⟩ := row12c P9
      refine bodyPost_ret (v := _) (by simp [results, Try.results75, go_sem, v0, v1, v2, v3, v4, v5, v6, v7, v8, v9, v10, v11]; rfl) rfl ?_
      rw [HE.out]
      exact ⟨rfl, k9⟩
    · have q1 := eql_f (W4.mk' hlc.out) W4.zero qz
      have q2 := eql_t (W4.mk' hlb.out) W4.zero qy
      clear hz qz qy
      go_wp2_with fail
      refine (ray_none (b0 := 0) (b1 := 0) (b2 := 0) (b3 := 0) (a0 := 0) (a1 := 0) (a2 := 0) (a3 := 0) _).mono ?_
      rintro e V1 ⟨rfl, hb⟩
      replace hA := below_get hb (show _ = some (.cells #[.int .u64 (w0 (x) : Nat), .int .u64 (w1 (x) : Nat), .int .u64 (w2 (x) : Nat), .int .u64 (w3 (x) : Nat), .int .u64 (w0 (y) : Nat), .int .u64 (w1 (y) : Nat), .int .u64 (w2 (y) : Nat), .int .u64 (w3 (y) : Nat), .int .u64 (w0 (z) : Nat), .int .u64 (w1 (z) : Nat), .int .u64 (w2 (z) : Nat), .int .u64 (w3 (z) : Nat)] 103 (0, 0)) from hA)
      replace hR := below_get hb (show _ = some (.cells #[.int .u64 0, .int .u64 0, .int .u64 0, .int .u64 0, .int .u64 0, .int .u64 0, .int .u64 0, .int .u64 0, .int .u64 0, .int .u64 0, .int .u64 0, .int .u64 0] 103 (0, 0)) from hR)
      replace kk := bcl (by first | exact kk | exact kk.drew | exact below_drewN kk _) hb
      replace fF := HF.out.keep kk
      clear cA0 zA0 cA1 zA1 cA2 zA2 cA3 zA3 cA4 zA4 cA5 zA5 cA6 zA6 cA7 zA7 cA8 zA8 cA9 zA9 cA10 zA10 cA11 zA11
      clear hb
      have cR0 : V1.cell? ⟨w.heap.size + 1, 0, none⟩ = some (.int .u64 0) := by rw [cell_of_row _ _ _ _ _ _ hR]; rfl
      have zR0 := frozen_of_row _ _ 0 _ _ hR
      have cR1 : V1.cell? ⟨w.heap.size + 1, 1, none⟩ = some (.int .u64 0) := by rw [cell_of_row _ _ _ _ _ _ hR]; rfl
      have zR1 := frozen_of_row _ _ 1 _ _ hR
      have cR2 : V1.cell? ⟨w.heap.size + 1, 2, none⟩ = some (.int .u64 0) := by rw [cell_of_row _ _ _ _ _ _ hR]; rfl
      have zR2 := frozen_of_row _ _ 2 _ _ hR
      have cR3 : V1.cell? ⟨w.heap.size + 1, 3, none⟩ = some (.int .u64 0) := by rw [cell_of_row _ _ _ _ _ _ hR]; rfl
      have zR3 := frozen_of_row _ _ 3 _ _ hR
      have cR4 : V1.cell? ⟨w.heap.size + 1, 4, none⟩ = some (.int .u64 0) := by rw [cell_of_row _ _ _ _ _ _ hR]; rfl
      have zR4 := frozen_of_row _ _ 4 _ _ hR
      have cR5 : V1.cell? ⟨w.heap.size + 1, 5, none⟩ = some (.int .u64 0) := by rw [cell_of_row _ _ _ _ _ _ hR]; rfl
      have zR5 := frozen_of_row _ _ 5 _ _ hR
      have cR6 : V1.cell? ⟨w.heap.size + 1, 6, none⟩ = some (.int .u64 0) := by rw [cell_of_row _ _ _ _ _ _ hR]; rfl
      have zR6 := frozen_of_row _ _ 6 _ _ hR
      have cR7 : V1.cell? ⟨w.heap.size + 1, 7, none⟩ = some (.int .u64 0) := by rw [cell_of_row _ _ _ _ _ _ hR]; rfl
      have zR7 := frozen_of_row _ _ 7 _ _ hR
      have cR8 : V1.cell? ⟨w.heap.size + 1, 8, none⟩ = some (.int .u64 0) := by rw [cell_of_row _ _ _ _ _ _ hR]; rfl
      have zR8 := frozen_of_row _ _ 8 _ _ hR
      have cR9 : V1.cell? ⟨w.heap.size + 1, 9, none⟩ = some (.int .u64 0) := by rw [cell_of_row _ _ _ _ _ _ hR]; rfl
      have zR9 := frozen_of_row _ _ 9 _ _ hR
      have cR10 : V1.cell? ⟨w.heap.size + 1, 10, none⟩ = some (.int .u64 0) := by rw [cell_of_row _ _ _ _ _ _ hR]; rfl
      have zR10 := frozen_of_row _ _ 10 _ _ hR
      have cR11 : V1.cell? ⟨w.heap.size + 1, 11, none⟩ = some (.int .u64 0) := by rw [cell_of_row _ _ _ _ _ _ hR]; rfl
      have zR11 := frozen_of_row _ _ 11 _ _ hR
      go_wp2_with fail
      have P := put12 (.int .u64 (w0 (1) : Nat)) (.int .u64 (w1 (1) : Nat)) (.int .u64 (w2 (1) : Nat)) (.int .u64 (w3 (1) : Nat)) (.int .u64 (w0 (1) : Nat)) (.int .u64 (w1 (1) : Nat)) (.int .u64 (w2 (1) : Nat)) (.int .u64 (w3 (1) : Nat)) (.int .u64 (w0 (0) : Nat)) (.int .u64 (w1 (0) : Nat)) (.int .u64 (w2 (0) : Nat)) (.int .u64 (w3 (0) : Nat)) hR
      replace P := put_hid P
      obtain ⟨V9, hV9, P⟩ := P
      rw [hV9]
      have P9 := P.here
      have k9 := P.below (by omega) (show Below w.heap.size w V1 from by first | exact kk | exact kk.drew | exact below_drewN kk _)
      obtain ⟨v0, v1, v2, v3, v4, v5, v6, v7, v8, v9, v10, v11⟩ := row12c P9
      refine bodyPost_ret (v := _) (by simp [results, Try.results75, go_sem, v0, v1, v2, v3, v4, v5, v6, v7, v8, v9, v10, v11]; rfl) rfl ?_
      rw [HE.out]
      exact ⟨rfl, k9⟩
  · have q1 := eql_f (W4.mk' hlc.out) W4.zero (show z ≠ 0 by omega)
    have q2 := eql_f (W4.mk' hlb.out) W4.zero (show y ≠ 0 by omega)
    have HZ := Lib.hid hz
    clear hz
    go_wp2_with fail
    refine (mulG_any (W4.mk' hla.out) (W4.mk' hla.out) _ fF).mono ?_
    rintro e V1 ⟨rfl, hb⟩
    replace hA := below_get hb (show _ = some (.cells #[.int .u64 (w0 (x) : Nat), .int .u64 (w1 (x) : Nat), .int .u64 (w2 (x) : Nat), .int .u64 (w3 (x) : Nat), .int .u64 (w0 (y) : Nat), .int .u64 (w1 (y) : Nat), .int .u64 (w2 (y) : Nat), .int .u64 (w3 (y) : Nat), .int .u64 (w0 (z) : Nat), .int .u64 (w1 (z) : Nat), .int .u64 (w2 (z) : Nat), .int .u64 (w3 (z) : Nat)] 103 (0, 0)) from hA)
    replace hR := below_get hb (show _ = some (.cells #[.int .u64 0, .int .u64 0, .int .u64 0, .int .u64 0, .int .u64 0, .int .u64 0, .int .u64 0, .int .u64 0, .int .u64 0, .int .u64 0, .int .u64 0, .int .u64 0] 103 (0, 0)) from hR)
    replace kk := bcl (by first | exact kk | exact kk.drew | exact below_drewN kk _) hb
    replace fF := HF.out.keep kk
    clear cA0 zA0 cA1 zA1 cA2 zA2 cA3 zA3 cA4 zA4 cA5 zA5 cA6 zA6 cA7 zA7 cA8 zA8 cA9 zA9 cA10 zA10 cA11 zA11
    clear hb
    obtain ⟨a1, eqa1⟩ : ∃ n, mulm m x x = n := ⟨_, rfl⟩
    rw [eqa1]
    have Ha1 := Lib.hid eqa1
    have Ga1 := Lib.hid (show a1 < 2 ^ 256 by rw [← eqa1]; exact Nat.lt_trans (Nat.mod_lt _ hpos) HM.out)
    clear eqa1
    go_upto_region 4 with fail
    obtain ⟨V2, hW⟩ : ∃ V, V1.alloc (.cells #[.int .u64 (w0 (a1) : Nat), .int .u64 (w1 (a1) : Nat), .int .u64 (w2 (a1) : Nat), .int .u64 (w3 (a1) : Nat)] 24 (0, 0)) = V := ⟨_, rfl⟩
    rw [hW]
    obtain ⟨p5, hbx⟩ : ∃ n, V1.heap.size = n := ⟨_, rfl⟩
    rw [hbx]
    have hNEW : V2.heap[p5]? = some (.cells #[.int .u64 (w0 (a1) : Nat), .int .u64 (w1 (a1) : Nat), .int .u64 (w2 (a1) : Nat), .int .u64 (w3 (a1) : Nat)] 24 (0, 0)) := by rw [← hW, ← hbx]; exact heap_alloc_new _ _
    have lD5A : w.heap.size < p5 := by rw [← hbx]; exact lt_of_heap hA
    replace hA : V2.heap[w.heap.size]? = some (.cells #[.int .u64 (w0 (x) : Nat), .int .u64 (w1 (x) : Nat), .int .u64 (w2 (x) : Nat), .int .u64 (w3 (x) : Nat), .int .u64 (w0 (y) : Nat), .int .u64 (w1 (y) : Nat), .int .u64 (w2 (y) : Nat), .int .u64 (w3 (y) : Nat), .int .u64 (w0 (z) : Nat), .int .u64 (w1 (z) : Nat), .int .u64 (w2 (z) : Nat), .int .u64 (w3 (z) : Nat)] 103 (0, 0)) := by rw [← hW]; exact ak hA
    have lD5R : w.heap.size + 1 < p5 := by rw [← hbx]; exact lt_of_heap hR
    replace hR : V2.heap[w.heap.size + 1]? = some (.cells #[.int .u64 0, .int .u64 0, .int .u64 0, .int .u64 0, .int .u64 0, .int .u64 0, .int .u64 0, .int .u64 0, .int .u64 0, .int .u64 0, .int .u64 0, .int .u64 0] 103 (0, 0)) := by rw [← hW]; exact ak hR
    have lD5 : w.heap.size ≤ p5 := by rw [← hbx]; exact kk.size
    replace kk : Below w.heap.size w V2 := by rw [← hW]; exact bal kk _
    have hD5 := hNEW
    replace fF := HF.out.keep kk
    clear hNEW hW hbx
    have cA0 : V2.cell? ⟨w.heap.size, 0, none⟩ = some (.int .u64 (w0 (x) : Nat)) := by rw [cell_of_row _ _ _ _ _ _ hA]; rfl
    have zA0 := frozen_of_row _ _ 0 _ _ hA
    have cA1 : V2.cell? ⟨w.heap.size, 1, none⟩ = some (.int .u64 (w1 (x) : Nat)) := by rw [cell_of_row _ _ _ _ _ _ hA]; rfl
    have zA1 := frozen_of_row _ _ 1 _ _ hA
    have cA2 : V2.cell? ⟨w.heap.size, 2, none⟩ = some (.int .u64 (w2 (x) : Nat)) := by rw [cell_of_row _ _ _ _ _ _ hA]; rfl
    have zA2 := frozen_of_row _ _ 2 _ _ hA
    have cA3 : V2.cell? ⟨w.heap.size, 3, none⟩ = some (.int .u64 (w3 (x) : Nat)) := by rw [cell_of_row _ _ _ _ _ _ hA]; rfl
    have zA3 := frozen_of_row _ _ 3 _ _ hA
    have cA4 : V2.cell? ⟨w.heap.size, 4, none⟩ = some (.int .u64 (w0 (y) : Nat)) := by rw [cell_of_row _ _ _ _ _ _ hA]; rfl
    have zA4 := frozen_of_row _ _ 4 _ _ hA
    have cA5 : V2.cell? ⟨w.heap.size, 5, none⟩ = some (.int .u64 (w1 (y) : Nat)) := by rw [cell_of_row _ _ _ _ _ _ hA]; rfl
    have zA5 := frozen_of_row _ _ 5 _ _ hA
    have cA6 : V2.cell? ⟨w.heap.size, 6, none⟩ = some (.int .u64 (w2 (y) : Nat)) := by rw [cell_of_row _ _ _ _ _ _ hA]; rfl
    have zA6 := frozen_of_row _ _ 6 _ _ hA
    have cA7 : V2.cell? ⟨w.heap.size, 7, none⟩ = some (.int .u64 (w3 (y) : Nat)) := by rw [cell_of_row _ _ _ _ _ _ hA]; rfl
    have zA7 := frozen_of_row _ _ 7 _ _ hA
    have cA8 : V2.cell? ⟨w.heap.size, 8, none⟩ = some (.int .u64 (w0 (z) : Nat)) := by rw [cell_of_row _ _ _ _ _ _ hA]; rfl
    have zA8 := frozen_of_row _ _ 8 _ _ hA
    have cA9 : V2.cell? ⟨w.heap.size, 9, none⟩ = some (.int .u64 (w1 (z) : Nat)) := by rw [cell_of_row _ _ _ _ _ _ hA]; rfl
    have zA9 := frozen_of_row _ _ 9 _ _ hA
    have cA10 : V2.cell? ⟨w.heap.size, 10, none⟩ = some (.int .u64 (w2 (z) : Nat)) := by rw [cell_of_row _ _ _ _ _ _ hA]; rfl
    have zA10 := frozen_of_row _ _ 10 _ _ hA
    have cA11 : V2.cell? ⟨w.heap.size, 11, none⟩ = some (.int .u64 (w3 (z) : Nat)) := by rw [cell_of_row _ _ _ _ _ _ hA]; rfl
    have zA11 := frozen_of_row _ _ 11 _ _ hA
    go_wp2_with fail
    refine (mulG_any (W4.mk' hlb.out) (W4.mk' hlb.out) _ fF).mono ?_
    rintro e V3 ⟨rfl, hb⟩
    replace hA := below_get hb (show _ = some (.cells #[.int .u64 (w0 (x) : Nat), .int .u64 (w1 (x) : Nat), .int .u64 (w2 (x) : Nat), .int .u64 (w3 (x) : Nat), .int .u64 (w0 (y) : Nat), .int .u64 (w1 (y) : Nat), .int .u64 (w2 (y) : Nat), .int .u64 (w3 (y) : Nat), .int .u64 (w0 (z) : Nat), .int .u64 (w1 (z) : Nat), .int .u64 (w2 (z) : Nat), .int .u64 (w3 (z) : Nat)] 103 (0, 0)) from hA)
    replace hR := below_get hb (show _ = some (.cells #[.int .u64 0, .int .u64 0, .int .u64 0, .int .u64 0, .int .u64 0, .int .u64 0, .int .u64 0, .int .u64 0, .int .u64 0, .int .u64 0, .int .u64 0, .int .u64 0] 103 (0, 0)) from hR)
    replace hD5 := below_get hb (show _ = some (.cells #[.int .u64 (w0 (a1) : Nat), .int .u64 (w1 (a1) : Nat), .int .u64 (w2 (a1) : Nat), .int .u64 (w3 (a1) : Nat)] 24 (0, 0)) from hD5)
    replace kk := bcl (by first | exact kk | exact kk.drew | exact below_drewN kk _) hb
    replace fF := HF.out.keep kk
    clear cA0 zA0 cA1 zA1 cA2 zA2 cA3 zA3 cA4 zA4 cA5 zA5 cA6 zA6 cA7 zA7 cA8 zA8 cA9 zA9 cA10 zA10 cA11 zA11
    clear hb
    obtain ⟨b1, eqb1⟩ : ∃ n, mulm m y y = n := ⟨_, rfl⟩
    rw [eqb1]
    have Hb1 := Lib.hid eqb1
    have Gb1 := Lib.hid (show b1 < 2 ^ 256 by rw [← eqb1]; exact Nat.lt_trans (Nat.mod_lt _ hpos) HM.out)
    clear eqb1
    go_upto_region 5 with fail
    obtain ⟨V4, hW⟩ : ∃ V, V3.alloc (.cells #[.int .u64 (w0 (b1) : Nat), .int .u64 (w1 (b1) : Nat), .int .u64 (w2 (b1) : Nat), .int .u64 (w3 (b1) : Nat)] 24 (0, 0)) = V := ⟨_, rfl⟩
    rw [hW]
    obtain ⟨p6, hbx⟩ : ∃ n, V3.heap.size = n := ⟨_, rfl⟩
    rw [hbx]
    have hNEW : V4.heap[p6]? = some (.cells #[.int .u64 (w0 (b1) : Nat), .int .u64 (w1 (b1) : Nat), .int .u64 (w2 (b1) : Nat), .int .u64 (w3 (b1) : Nat)] 24 (0, 0)) := by rw [← hW, ← hbx]; exact heap_alloc_new _ _
    have lD6A : w.heap.size < p6 := by rw [← hbx]; exact lt_of_heap hA
    replace hA : V4.heap[w.heap.size]? = some (.cells #[.int .u64 (w0 (x) : Nat), .int .u64 (w1 (x) : Nat), .int .u64 (w2 (x) : Nat), .int .u64 (w3 (x) : Nat), .int .u64 (w0 (y) : Nat), .int .u64 (w1 (y) : Nat), .int .u64 (w2 (y) : Nat), .int .u64 (w3 (y) : Nat), .int .u64 (w0 (z) : Nat), .int .u64 (w1 (z) : Nat), .int .u64 (w2 (z) : Nat), .int .u64 (w3 (z) : Nat)] 103 (0, 0)) := by rw [← hW]; exact ak hA
    have lD6R : w.heap.size + 1 < p6 := by rw [← hbx]; exact lt_of_heap hR
    replace hR : V4.heap[w.heap.size + 1]? = some (.cells #[.int .u64 0, .int .u64 0, .int .u64 0, .int .u64 0, .int .u64 0, .int .u64 0, .int .u64 0, .int .u64 0, .int .u64 0, .int .u64 0, .int .u64 0, .int .u64 0] 103 (0, 0)) := by rw [← hW]; exact ak hR
    have lD6D5 : p5 < p6 := by rw [← hbx]; exact lt_of_heap hD5
    replace hD5 : V4.heap[p5]? = some (.cells #[.int .u64 (w0 (a1) : Nat), .int .u64 (w1 (a1) : Nat), .int .u64 (w2 (a1) : Nat), .int .u64 (w3 (a1) : Nat)] 24 (0, 0)) := by rw [← hW]; exact ak hD5
    have lD6 : w.heap.size ≤ p6 := by rw [← hbx]; exact kk.size
    replace kk : Below w.heap.size w V4 := by rw [← hW]; exact bal kk _
    have hD6 := hNEW
    replace fF := HF.out.keep kk
    clear hNEW hW hbx
    have cD60 : V4.cell? ⟨p6, 0, none⟩ = some (.int .u64 (w0 (b1) : Nat)) := by rw [cell_of_row _ _ _ _ _ _ hD6]; rfl
    have zD60 := frozen_of_row _ _ 0 _ _ hD6
    have cD61 : V4.cell? ⟨p6, 1, none⟩ = some (.int .u64 (w1 (b1) : Nat)) := by rw [cell_of_row _ _ _ _ _ _ hD6]; rfl
    have zD61 := frozen_of_row _ _ 1 _ _ hD6
    have cD62 : V4.cell? ⟨p6, 2, none⟩ = some (.int .u64 (w2 (b1) : Nat)) := by rw [cell_of_row _ _ _ _ _ _ hD6]; rfl
    have zD62 := frozen_of_row _ _ 2 _ _ hD6
    have cD63 : V4.cell? ⟨p6, 3, none⟩ = some (.int .u64 (w3 (b1) : Nat)) := by rw [cell_of_row _ _ _ _ _ _ hD6]; rfl
    have zD63 := frozen_of_row _ _ 3 _ _ hD6
    go_wp2_with fail
    refine (mulG_any (W4.mk' Gb1.out) (W4.mk' Gb1.out) _ fF).mono ?_
    rintro e V5 ⟨rfl, hb⟩
    replace hA := below_get hb (show _ = some (.cells #[.int .u64 (w0 (x) : Nat), .int .u64 (w1 (x) : Nat), .int .u64 (w2 (x) : Nat), .int .u64 (w3 (x) : Nat), .int .u64 (w0 (y) : Nat), .int .u64 (w1 (y) : Nat), .int .u64 (w2 (y) : Nat), .int .u64 (w3 (y) : Nat), .int .u64 (w0 (z) : Nat), .int .u64 (w1 (z) : Nat), .int .u64 (w2 (z) : Nat), .int .u64 (w3 (z) : Nat)] 103 (0, 0)) from hA)
    replace hR := below_get hb (show _ = some (.cells #[.int .u64 0, .int .u64 0, .int .u64 0, .int .u64 0, .int .u64 0, .int .u64 0, .int .u64 0, .int .u64 0, .int .u64 0, .int .u64 0, .int .u64 0, .int .u64 0] 103 (0, 0)) from hR)
    replace hD5 := below_get hb (show _ = some (.cells #[.int .u64 (w0 (a1) : Nat), .int .u64 (w1 (a1) : Nat), .int .u64 (w2 (a1) : Nat), .int .u64 (w3 (a1) : Nat)] 24 (0, 0)) from hD5)
    replace hD6 := below_get hb (show _ = some (.cells #[.int .u64 (w0 (b1) : Nat), .int .u64 (w1 (b1) : Nat), .int .u64 (w2 (b1) : Nat), .int .u64 (w3 (b1) : Nat)] 24 (0, 0)) from hD6)
    replace kk := bcl (by first | exact kk | exact kk.drew | exact below_drewN kk _) hb
    replace fF := HF.out.keep kk
    clear cD60 zD60 cD61 zD61 cD62 zD62 cD63 zD63
    clear hb
    obtain ⟨c1, eqc1⟩ : ∃ n, mulm m b1 b1 = n := ⟨_, rfl⟩
    rw [eqc1]
    have Hc1 := Lib.hid eqc1
    have Gc1 := Lib.hid (show c1 < 2 ^ 256 by rw [← eqc1]; exact Nat.lt_trans (Nat.mod_lt _ hpos) HM.out)
    clear eqc1
    go_upto_region 6 with fail
    obtain ⟨V6, hW⟩ : ∃ V, V5.alloc (.cells #[.int .u64 (w0 (c1) : Nat), .int .u64 (w1 (c1) : Nat), .int .u64 (w2 (c1) : Nat), .int .u64 (w3 (c1) : Nat)] 24 (0, 0)) = V := ⟨_, rfl⟩
    rw [hW]
    obtain ⟨p7, hbx⟩ : ∃ n, V5.heap.size = n := ⟨_, rfl⟩
    rw [hbx]
    have hNEW : V6.heap[p7]? = some (.cells #[.int .u64 (w0 (c1) : Nat), .int .u64 (w1 (c1) : Nat), .int .u64 (w2 (c1) : Nat), .int .u64 (w3 (c1) : Nat)] 24 (0, 0)) := by rw [← hW, ← hbx]; exact heap_alloc_new _ _
    have lD7A : w.heap.size < p7 := by rw [← hbx]; exact lt_of_heap hA
    replace hA : V6.heap[w.heap.size]? = some (.cells #[.int .u64 (w0 (x) : Nat), .int .u64 (w1 (x) : Nat), .int .u64 (w2 (x) : Nat), .int .u64 (w3 (x) : Nat), .int .u64 (w0 (y) : Nat), .int .u64 (w1 (y) : Nat), .int .u64 (w2 (y) : Nat), .int .u64 (w3 (y) : Nat), .int .u64 (w0 (z) : Nat), .int .u64 (w1 (z) : Nat), .int .u64 (w2 (z) : Nat), .int .u64 (w3 (z) : Nat)] 103 (0, 0)) := by rw [← hW]; exact ak hA
    have lD7R : w.heap.size + 1 < p7 := by rw [← hbx]; exact lt_of_heap hR
    replace hR : V6.heap[w.heap.size + 1]? = some (.cells #[.int .u64 0, .int .u64 0, .int .u64 0, .int .u64 0, .int .u64 0, .int .u64 0, .int .u64 0, .int .u64 0, .int .u64 0, .int .u64 0, .int .u64 0, .int .u64 0] 103 (0, 0)) := by rw [← hW]; exact ak hR
    have lD7D5 : p5 < p7 := by rw [← hbx]; exact lt_of_heap hD5
    replace hD5 : V6.heap[p5]? = some (.cells #[.int .u64 (w0 (a1) : Nat), .int .u64 (w1 (a1) : Nat), .int .u64 (w2 (a1) : Nat), .int .u64 (w3 (a1) : Nat)] 24 (0, 0)) := by rw [← hW]; exact ak hD5
    have lD7D6 : p6 < p7 := by rw [← hbx]; exact lt_of_heap hD6
    replace hD6 : V6.heap[p6]? = some (.cells #[.int .u64 (w0 (b1) : Nat), .int .u64 (w1 (b1) : Nat), .int .u64 (w2 (b1) : Nat), .int .u64 (w3 (b1) : Nat)] 24 (0, 0)) := by rw [← hW]; exact ak hD6
    have lD7 : w.heap.size ≤ p7 := by rw [← hbx]; exact kk.size
    replace kk : Below w.heap.size w V6 := by rw [← hW]; exact bal kk _
    have hD7 := hNEW
    replace fF := HF.out.keep kk
    clear hNEW hW hbx
    have cA0 : V6.cell? ⟨w.heap.size, 0, none⟩ = some (.int .u64 (w0 (x) : Nat)) := by rw [cell_of_row _ _ _ _ _ _ hA]; rfl
    have zA0 := frozen_of_row _ _ 0 _ _ hA
    have cA1 : V6.cell? ⟨w.heap.size, 1, none⟩ = some (.int .u64 (w1 (x) : Nat)) := by rw [cell_of_row _ _ _ _ _ _ hA]; rfl
    have zA1 := frozen_of_row _ _ 1 _ _ hA
    have cA2 : V6.cell? ⟨w.heap.size, 2, none⟩ = some (.int .u64 (w2 (x) : Nat)) := by rw [cell_of_row _ _ _ _ _ _ hA]; rfl
    have zA2 := frozen_of_row _ _ 2 _ _ hA
    have cA3 : V6.cell? ⟨w.heap.size, 3, none⟩ = some (.int .u64 (w3 (x) : Nat)) := by rw [cell_of_row _ _ _ _ _ _ hA]; rfl
    have zA3 := frozen_of_row _ _ 3 _ _ hA
    have cA4 : V6.cell? ⟨w.heap.size, 4, none⟩ = some (.int .u64 (w0 (y) : Nat)) := by rw [cell_of_row _ _ _ _ _ _ hA]; rfl
    have zA4 := frozen_of_row _ _ 4 _ _ hA
    have cA5 : V6.cell? ⟨w.heap.size, 5, none⟩ = some (.int .u64 (w1 (y) : Nat)) := by rw [cell_of_row _ _ _ _ _ _ hA]; rfl
    have zA5 := frozen_of_row _ _ 5 _ _ hA
    have cA6 : V6.cell? ⟨w.heap.size, 6, none⟩ = some (.int .u64 (w2 (y) : Nat)) := by rw [cell_of_row _ _ _ _ _ _ hA]; rfl
    have zA6 := frozen_of_row _ _ 6 _ _ hA
    have cA7 : V6.cell? ⟨w.heap.size, 7, none⟩ = some (.int .u64 (w3 (y) : Nat)) := by rw [cell_of_row _ _ _ _ _ _ hA]; rfl
    have zA7 := frozen_of_row _ _ 7 _ _ hA
    have cA8 : V6.cell? ⟨w.heap.size, 8, none⟩ = some (.int .u64 (w0 (z) : Nat)) := by rw [cell_of_row _ _ _ _ _ _ hA]; rfl
    have zA8 := frozen_of_row _ _ 8 _ _ hA
    have cA9 : V6.cell? ⟨w.heap.size, 9, none⟩ = some (.int .u64 (w1 (z) : Nat)) := by rw [cell_of_row _ _ _ _ _ _ hA]; rfl
    have zA9 := frozen_of_row _ _ 9 _ _ hA
    have cA10 : V6.cell? ⟨w.heap.size, 10, none⟩ = some (.int .u64 (w2 (z) : Nat)) := by rw [cell_of_row _ _ _ _ _ _ hA]; rfl
    have zA10 := frozen_of_row _ _ 10 _ _ hA
    have cA11 : V6.cell? ⟨w.heap.size, 11, none⟩ = some (.int .u64 (w3 (z) : Nat)) := by rw [cell_of_row _ _ _ _ _ _ hA]; rfl
    have zA11 := frozen_of_row _ _ 11 _ _ hA
    have cD60 : V6.cell? ⟨p6, 0, none⟩ = some (.int .u64 (w0 (b1) : Nat)) := by rw [cell_of_row _ _ _ _ _ _ hD6]; rfl
    have zD60 := frozen_of_row _ _ 0 _ _ hD6
    have cD61 : V6.cell? ⟨p6, 1, none⟩ = some (.int .u64 (w1 (b1) : Nat)) := by rw [cell_of_row _ _ _ _ _ _ hD6]; rfl
    have zD61 := frozen_of_row _ _ 1 _ _ hD6
    have cD62 : V6.cell? ⟨p6, 2, none⟩ = some (.int .u64 (w2 (b1) : Nat)) := by rw [cell_of_row _ _ _ _ _ _ hD6]; rfl
    have zD62 := frozen_of_row _ _ 2 _ _ hD6
    have cD63 : V6.cell? ⟨p6, 3, none⟩ = some (.int .u64 (w3 (b1) : Nat)) := by rw [cell_of_row _ _ _ _ _ _ hD6]; rfl
    have zD63 := frozen_of_row _ _ 3 _ _ hD6
    go_wp2_with fail
    refine (mulG_any (W4.mk' hla.out) (W4.mk' Gb1.out) _ fF).mono ?_
    rintro e V7 ⟨rfl, hb⟩
    replace hA := below_get hb (show _ = some (.cells #[.int .u64 (w0 (x) : Nat), .int .u64 (w1 (x) : Nat), .int .u64 (w2 (x) : Nat), .int .u64 (w3 (x) : Nat), .int .u64 (w0 (y) : Nat), .int .u64 (w1 (y) : Nat), .int .u64 (w2 (y) : Nat), .int .u64 (w3 (y) : Nat), .int .u64 (w0 (z) : Nat), .int .u64 (w1 (z) : Nat), .int .u64 (w2 (z) : Nat), .int .u64 (w3 (z) : Nat)] 103 (0, 0)) from hA)
    replace hR := below_get hb (show _ = some (.cells #[.int .u64 0, .int .u64 0, .int .u64 0, .int .u64 0, .int .u64 0, .int .u64 0, .int .u64 0, .int .u64 0, .int .u64 0, .int .u64 0, .int .u64 0, .int .u64 0] 103 (0, 0)) from hR)
    replace hD5 := below_get hb (show _ = some (.cells #[.int .u64 (w0 (a1) : Nat), .int .u64 (w1 (a1) : Nat), .int .u64 (w2 (a1) : Nat), .int .u64 (w3 (a1) : Nat)] 24 (0, 0)) from hD5)
    replace hD6 := below_get hb (show _ = some (.cells #[.int .u64 (w0 (b1) : Nat), .int .u64 (w1 (b1) : Nat), .int .u64 (w2 (b1) : Nat), .int .u64 (w3 (b1) : Nat)] 24 (0, 0)) from hD6)
    replace hD7 := below_get hb (show _ = some (.cells #[.int .u64 (w0 (c1) : Nat), .int .u64 (w1 (c1) : Nat), .int .u64 (w2 (c1) : Nat), .int .u64 (w3 (c1) : Nat)] 24 (0, 0)) from hD7)
    replace kk := bcl (by first | exact kk | exact kk.drew | exact below_drewN kk _) hb
    replace fF := HF.out.keep kk
    clear cA0 zA0 cA1 zA1 cA2 zA2 cA3 zA3 cA4 zA4 cA5 zA5 cA6 zA6 cA7 zA7 cA8 zA8 cA9 zA9 cA10 zA10 cA11 zA11 cD60 zD60 cD61 zD61 cD62 zD62 cD63 zD63
    clear hb
    obtain ⟨d0, eqd0⟩ : ∃ n, mulm m x b1 = n := ⟨_, rfl⟩
    rw [eqd0]
    have Hd0 := Lib.hid eqd0
    have Gd0 := Lib.hid (show d0 < 2 ^ 256 by rw [← eqd0]; exact Nat.lt_trans (Nat.mod_lt _ hpos) HM.out)
    clear eqd0
    go_upto_region 7 with fail
    obtain ⟨V8, hW⟩ : ∃ V, V7.alloc (.cells #[.int .u64 (w0 (d0) : Nat), .int .u64 (w1 (d0) : Nat), .int .u64 (w2 (d0) : Nat), .int .u64 (w3 (d0) : Nat)] 24 (0, 0)) = V := ⟨_, rfl⟩
    rw [hW]
    obtain ⟨p8, hbx⟩ : ∃ n, V7.heap.size = n := ⟨_, rfl⟩
    rw [hbx]
    have hNEW : V8.heap[p8]? = some (.cells #[.int .u64 (w0 (d0) : Nat), .int .u64 (w1 (d0) : Nat), .int .u64 (w2 (d0) : Nat), .int .u64 (w3 (d0) : Nat)] 24 (0, 0)) := by rw [← hW, ← hbx]; exact heap_alloc_new _ _
    have lD8A : w.heap.size < p8 := by rw [← hbx]; exact lt_of_heap hA
    replace hA : V8.heap[w.heap.size]? = some (.cells #[.int .u64 (w0 (x) : Nat), .int .u64 (w1 (x) : Nat), .int .u64 (w2 (x) : Nat), .int .u64 (w3 (x) : Nat), .int .u64 (w0 (y) : Nat), .int .u64 (w1 (y) : Nat), .int .u64 (w2 (y) : Nat), .int .u64 (w3 (y) : Nat), .int .u64 (w0 (z) : Nat), .int .u64 (w1 (z) : Nat), .int .u64 (w2 (z) : Nat), .int .u64 (w3 (z) : Nat)] 103 (0, 0)) := by rw [← hW]; exact ak hA
    have lD8R : w.heap.size + 1 < p8 := by rw [← hbx]; exact lt_of_heap hR
    replace hR : V8.heap[w.heap.size + 1]? = some (.cells #[.int .u64 0, .int .u64 0, .int .u64 0, .int .u64 0, .int .u64 0, .int .u64 0, .int .u64 0, .int .u64 0, .int .u64 0, .int .u64 0, .int .u64 0, .int .u64 0] 103 (0, 0)) := by rw [← hW]; exact ak hR
    have lD8D5 : p5 < p8 := by rw [← hbx]; exact lt_of_heap hD5
    replace hD5 : V8.heap[p5]? = some (.cells #[.int .u64 (w0 (a1) : Nat), .int .u64 (w1 (a1) : Nat), .int .u64 (w2 (a1) : Nat), .int .u64 (w3 (a1) : Nat)] 24 (0, 0)) := by rw [← hW]; exact ak hD5
    have lD8D6 : p6 < p8 := by rw [← hbx]; exact lt_of_heap hD6
    replace hD6 : V8.heap[p6]? = some (.cells #[.int .u64 (w0 (b1) : Nat), .int .u64 (w1 (b1) : Nat), .int .u64 (w2 (b1) : Nat), .int .u64 (w3 (b1) : Nat)] 24 (0, 0)) := by rw [← hW]; exact ak hD6
    have lD8D7 : p7 < p8 := by rw [← hbx]; exact lt_of_heap hD7
    replace hD7 : V8.heap[p7]? = some (.cells #[.int .u64 (w0 (c1) : Nat), .int .u64 (w1 (c1) : Nat), .int .u64 (w2 (c1) : Nat), .int .u64 (w3 (c1) : Nat)] 24 (0, 0)) := by rw [← hW]; exact ak hD7
    have lD8 : w.heap.size ≤ p8 := by rw [← hbx]; exact kk.size
    replace kk : Below w.heap.size w V8 := by rw [← hW]; exact bal kk _
    have hD8 := hNEW
    replace fF := HF.out.keep kk
    clear hNEW hW hbx
    have hQ := fF.blk
    have cD80 : World.cell? V8 ⟨p8, 0, none⟩ = some (.int .u64 (w0 (d0) : Nat)) := by rw [cell_of_row _ _ _ _ _ _ hD8]; rfl
    have cD81 : World.cell? V8 ⟨p8, 1, none⟩ = some (.int .u64 (w1 (d0) : Nat)) := by rw [cell_of_row _ _ _ _ _ _ hD8]; rfl
    have cD82 : World.cell? V8 ⟨p8, 2, none⟩ = some (.int .u64 (w2 (d0) : Nat)) := by rw [cell_of_row _ _ _ _ _ _ hD8]; rfl
    have cD83 : World.cell? V8 ⟨p8, 3, none⟩ = some (.int .u64 (w3 (d0) : Nat)) := by rw [cell_of_row _ _ _ _ _ _ hD8]; rfl
    refine startT (S := (fun w' => w'.cell? ⟨p8, 0, none⟩ = some (.int .u64 (w0 (d0) : Nat)) ∧ w'.cell? ⟨p8, 1, none⟩ = some (.int .u64 (w1 (d0) : Nat)) ∧ w'.cell? ⟨p8, 2, none⟩ = some (.int .u64 (w2 (d0) : Nat)) ∧ w'.cell? ⟨p8, 3, none⟩ = some (.int .u64 (w3 (d0) : Nat)))) 10 (by kernel_rfl) (by (try dsimp only); first | (with_reducible exact ⟨cD80, cD81, cD82, cD83⟩) | exact ⟨cD80, cD81, cD82, cD83⟩ | go_keep) (fun hHeld => ?_)
    refine takeT (i := 0) (d := some 46) (v := ?_) _ rfl rfl (by rfl) (by kernel_rfl) (by decide) (by kernel_rfl) (by kernel_rfl) (by kernel_rfl) (fun _ _ _ h => h) (by assumption) (by kernel_rfl) ?_ ?_
    rotate_left
    · (first | (intro w' hSw; (try dsimp only at hSw); go_simp; try (with_reducible rfl)) | (intro w'; go_simp; try (with_reducible rfl)))
    try simp only [Act.put, List.setIfInBounds_toArray, List.set_cons_zero, List.set_cons_succ]
    refine takeT (i := 1) (d := some 47) (v := ?_) _ rfl rfl (by rfl) (by kernel_rfl) (by decide) (by kernel_rfl) (by kernel_rfl) (by kernel_rfl) (fun _ _ _ h => h) (by assumption) (by kernel_rfl) ?_ ?_
    rotate_left
    · (first | (intro w' hSw; (try dsimp only at hSw); go_simp; try (with_reducible rfl)) | (intro w'; go_simp; try (with_reducible rfl)))
    try simp only [Act.put, List.setIfInBounds_toArray, List.set_cons_zero, List.set_cons_succ]
    refine takeT (i := 2) (d := some 48) (v := ?_) _ rfl rfl (by rfl) (by kernel_rfl) (by decide) (by kernel_rfl) (by kernel_rfl) (by kernel_rfl) (fun _ _ _ h => h) (by assumption) (by kernel_rfl) ?_ ?_
    rotate_left
    · (first | (intro w' hSw; (try dsimp only at hSw); go_simp; try (with_reducible rfl)) | (intro w'; go_simp; try (with_reducible rfl)))
    try simp only [Act.put, List.setIfInBounds_toArray, List.set_cons_zero, List.set_cons_succ]
    refine takeT (i := 3) (d := some 49) (v := ?_) _ rfl rfl (by rfl) (by kernel_rfl) (by decide) (by kernel_rfl) (by kernel_rfl) (by kernel_rfl) (fun _ _ _ h => h) (by assumption) (by kernel_rfl) ?_ ?_
    rotate_left
    · (first | (intro w' hSw; (try dsimp only at hSw); go_simp; try (with_reducible rfl)) | (intro w'; go_simp; try (with_reducible rfl)))
    try simp only [Act.put, List.setIfInBounds_toArray, List.set_cons_zero, List.set_cons_succ]
    refine takeT (i := 5) (d := some 51) (v := ?_) _ rfl rfl (by rfl) (by kernel_rfl) (by decide) (by kernel_rfl) (by kernel_rfl) (by kernel_rfl) (fun _ _ _ h => h) (by assumption) (by kernel_rfl) ?_ ?_
    rotate_left
    · (first | (intro w' hSw; (try dsimp only at hSw); go_simp; try (with_reducible rfl)) | (intro w'; go_simp; try (with_reducible rfl)))
    try simp only [Act.put, List.setIfInBounds_toArray, List.set_cons_zero, List.set_cons_succ]
    refine takeT (i := 6) (d := some 52) (v := ?_) _ rfl rfl (by rfl) (by kernel_rfl) (by decide) (by kernel_rfl) (by kernel_rfl) (by kernel_rfl) (fun _ _ _ h => h) (by assumption) (by kernel_rfl) ?_ ?_
    rotate_left
    · (first | (intro w' hSw; (try dsimp only at hSw); go_simp; try (with_reducible rfl)) | (intro w'; go_simp; try (with_reducible rfl)))
    try simp only [Act.put, List.setIfInBounds_toArray, List.set_cons_zero, List.set_cons_succ]
    refine takeT (i := 7) (d := some 53) (v := ?_) _ rfl rfl (by rfl) (by kernel_rfl) (by decide) (by kernel_rfl) (by kernel_rfl) (by kernel_rfl) (fun _ _ _ h => h) (by assumption) (by kernel_rfl) ?_ ?_
    rotate_left
    · (first | (intro w' hSw; (try dsimp only at hSw); go_simp; try (with_reducible rfl)) | (intro w'; go_simp; try (with_reducible rfl)))
    try simp only [Act.put, List.setIfInBounds_toArray, List.set_cons_zero, List.set_cons_succ]
    refine callT (i := 4) _ rfl (by rfl) (by kernel_rfl) (fun K hK => ?_)
    go_simp
    first | (go_at_call 32; refine (addG_any (by first | exact W4.mk' hla.out | exact W4.mk' hlb.out | exact W4.mk' hlc.out | exact W4.mk' HM.out | exact W4.mk' Ga1.out | exact W4.mk' Gb1.out | exact W4.mk' Gc1.out | exact W4.mk' Gd0.out | exact W4.mk' Gd1.out | exact W4.mk' Ge1.out | exact W4.mk' Gx1.out | exact W4.mk' Gc2.out | exact W4.mk' Gc3.out | exact W4.mk' Gc4.out | exact W4.mk' Gy1.out | exact W4.mk' Gz1.out | exact W4.mk' (Nat.lt_trans (Nat.mod_lt _ hpos) HM.out) | exact W4.small (n := 1) rfl (by decide) | exact W4.small (n := 2) rfl (by decide) | exact W4.small (n := 3) rfl (by decide) | exact W4.small (n := 4) rfl (by decide) | exact W4.small (n := 5) rfl (by decide) | exact W4.small (n := 7) rfl (by decide)) (by first | exact W4.mk' hla.out | exact W4.mk' hlb.out | exact W4.mk' hlc.out | exact W4.mk' HM.out | exact W4.mk' Ga1.out | exact W4.mk' Gb1.out | exact W4.mk' Gc1.out | exact W4.mk' Gd0.out | exact W4.mk' Gd1.out | exact W4.mk' Ge1.out | exact W4.mk' Gx1.out | exact W4.mk' Gc2.out | exact W4.mk' Gc3.out | exact W4.mk' Gc4.out | exact W4.mk' Gy1.out | exact W4.mk' Gz1.out | exact W4.mk' (Nat.lt_trans (Nat.mod_lt _ hpos) HM.out) | exact W4.small (n := 1) rfl (by decide) | exact W4.small (n := 2) rfl (by decide) | exact W4.small (n := 3) rfl (by decide) | exact W4.small (n := 4) rfl (by decide) | exact W4.small (n := 5) rfl (by decide) | exact W4.small (n := 7) rfl (by decide)) _ (show IsF _ (g) (m) from (by first | exact fF | exact ⟨fF.blk, fF.odd, fF.three, fF.lt⟩ | exact ⟨ak fF.blk, fF.odd, fF.three, fF.lt⟩ | exact ⟨ak (ak fF.blk), fF.odd, fF.three, fF.lt⟩))).mono ?_; rintro e W ⟨rfl, hb⟩; (replace hA := below_get hb (show _ = some (.cells #[.int .u64 (w0 (x) : Nat), .int .u64 (w1 (x) : Nat), .int .u64 (w2 (x) : Nat), .int .u64 (w3 (x) : Nat), .int .u64 (w0 (y) : Nat), .int .u64 (w1 (y) : Nat), .int .u64 (w2 (y) : Nat), .int .u64 (w3 (y) : Nat), .int .u64 (w0 (z) : Nat), .int .u64 (w1 (z) : Nat), .int .u64 (w2 (z) : Nat), .int .u64 (w3 (z) : Nat)] 103 (0, 0)) from by first | exact hA | exact ak hA)); (replace hR := below_get hb (show _ = some (.cells #[.int .u64 0, .int .u64 0, .int .u64 0, .int .u64 0, .int .u64 0, .int .u64 0, .int .u64 0, .int .u64 0, .int .u64 0, .int .u64 0, .int .u64 0, .int .u64 0] 103 (0, 0)) from by first | exact hR | exact ak hR)); (replace hD5 := below_get hb (show _ = some (.cells #[.int .u64 (w0 (a1) : Nat), .int .u64 (w1 (a1) : Nat), .int .u64 (w2 (a1) : Nat), .int .u64 (w3 (a1) : Nat)] 24 (0, 0)) from by first | exact hD5 | exact ak hD5)); (replace hD6 := below_get hb (show _ = some (.cells #[.int .u64 (w0 (b1) : Nat), .int .u64 (w1 (b1) : Nat), .int .u64 (w2 (b1) : Nat), .int .u64 (w3 (b1) : Nat)] 24 (0, 0)) from by first | exact hD6 | exact ak hD6)); (replace hD7 := below_get hb (show _ = some (.cells #[.int .u64 (w0 (c1) : Nat), .int .u64 (w1 (c1) : Nat), .int .u64 (w2 (c1) : Nat), .int .u64 (w3 (c1) : Nat)] 24 (0, 0)) from by first | exact hD7 | exact ak hD7)); (replace hD8 := below_get hb (show _ = some (.cells #[.int .u64 (w0 (d0) : Nat), .int .u64 (w1 (d0) : Nat), .int .u64 (w2 (d0) : Nat), .int .u64 (w3 (d0) : Nat)] 24 (0, 0)) from by first | exact hD8 | exact ak hD8)); (replace kk := bcl (by first | exact kk | exact kk.drew | exact bal kk _ | exact (bal kk _).drew) hb); (replace fF := HF.out.keep kk); (replace hQ := fF.blk); (replace cD80 : World.cell? W ⟨p8, 0, none⟩ = some (.int .u64 (w0 (d0) : Nat)) := by rw [cell_of_row _ _ _ _ _ _ hD8]; rfl); (replace cD81 : World.cell? W ⟨p8, 1, none⟩ = some (.int .u64 (w1 (d0) : Nat)) := by rw [cell_of_row _ _ _ _ _ _ hD8]; rfl); (replace cD82 : World.cell? W ⟨p8, 2, none⟩ = some (.int .u64 (w2 (d0) : Nat)) := by rw [cell_of_row _ _ _ _ _ _ hD8]; rfl); (replace cD83 : World.cell? W ⟨p8, 3, none⟩ = some (.int .u64 (w3 (d0) : Nat)) := by rw [cell_of_row _ _ _ _ _ _ hD8]; rfl); (replace cD80 : World.cell? W ⟨p8, 0, none⟩ = some (.int .u64 (w0 (d0) : Nat)) := by rw [cell_of_row _ _ _ _ _ _ hD8]; rfl); (replace cD81 : World.cell? W ⟨p8, 1, none⟩ = some (.int .u64 (w1 (d0) : Nat)) := by rw [cell_of_row _ _ _ _ _ _ hD8]; rfl); (replace cD82 : World.cell? W ⟨p8, 2, none⟩ = some (.int .u64 (w2 (d0) : Nat)) := by rw [cell_of_row _ _ _ _ _ _ hD8]; rfl); (replace cD83 : World.cell? W ⟨p8, 3, none⟩ = some (.int .u64 (w3 (d0) : Nat)) := by rw [cell_of_row _ _ _ _ _ _ hD8]; rfl); (have zD80 := frozen_of_row _ _ 0 _ _ hD8); (have zD81 := frozen_of_row _ _ 1 _ _ hD8); (have zD82 := frozen_of_row _ _ 2 _ _ hD8); (have zD83 := frozen_of_row _ _ 3 _ _ hD8); clear hb)
    try go_wp2_with fail
    replace hHeld : (fun w' => w'.cell? ⟨p8, 0, none⟩ = some (.int .u64 (w0 (d0) : Nat)) ∧ w'.cell? ⟨p8, 1, none⟩ = some (.int .u64 (w1 (d0) : Nat)) ∧ w'.cell? ⟨p8, 2, none⟩ = some (.int .u64 (w2 (d0) : Nat)) ∧ w'.cell? ⟨p8, 3, none⟩ = some (.int .u64 (w3 (d0) : Nat))) W := (by (try dsimp only); first | (with_reducible exact ⟨cD80, cD81, cD82, cD83⟩) | exact ⟨cD80, cD81, cD82, cD83⟩ | go_keep)
    refine hK.out _ _ (Or.inr hHeld) ?_
    clear hK K
    try simp only [Act.put, List.setIfInBounds_toArray, List.set_cons_zero, List.set_cons_succ]
    refine callT (i := 8) _ rfl (by rfl) (by kernel_rfl) (fun K hK => ?_)
    go_simp
    first | (go_at_call 32; refine (addG_any (by first | exact W4.mk' hla.out | exact W4.mk' hlb.out | exact W4.mk' hlc.out | exact W4.mk' HM.out | exact W4.mk' Ga1.out | exact W4.mk' Gb1.out | exact W4.mk' Gc1.out | exact W4.mk' Gd0.out | exact W4.mk' Gd1.out | exact W4.mk' Ge1.out | exact W4.mk' Gx1.out | exact W4.mk' Gc2.out | exact W4.mk' Gc3.out | exact W4.mk' Gc4.out | exact W4.mk' Gy1.out | exact W4.mk' Gz1.out | exact W4.mk' (Nat.lt_trans (Nat.mod_lt _ hpos) HM.out) | exact W4.small (n := 1) rfl (by decide) | exact W4.small (n := 2) rfl (by decide) | exact W4.small (n := 3) rfl (by decide) | exact W4.small (n := 4) rfl (by decide) | exact W4.small (n := 5) rfl (by decide) | exact W4.small (n := 7) rfl (by decide)) (by first | exact W4.mk' hla.out | exact W4.mk' hlb.out | exact W4.mk' hlc.out | exact W4.mk' HM.out | exact W4.mk' Ga1.out | exact W4.mk' Gb1.out | exact W4.mk' Gc1.out | exact W4.mk' Gd0.out | exact W4.mk' Gd1.out | exact W4.mk' Ge1.out | exact W4.mk' Gx1.out | exact W4.mk' Gc2.out | exact W4.mk' Gc3.out | exact W4.mk' Gc4.out | exact W4.mk' Gy1.out | exact W4.mk' Gz1.out | exact W4.mk' (Nat.lt_trans (Nat.mod_lt _ hpos) HM.out) | exact W4.small (n := 1) rfl (by decide) | exact W4.small (n := 2) rfl (by decide) | exact W4.small (n := 3) rfl (by decide) | exact W4.small (n := 4) rfl (by decide) | exact W4.small (n := 5) rfl (by decide) | exact W4.small (n := 7) rfl (by decide)) _ (show IsF _ (g) (m) from (by first | exact fF | exact ⟨fF.blk, fF.odd, fF.three, fF.lt⟩ | exact ⟨ak fF.blk, fF.odd, fF.three, fF.lt⟩ | exact ⟨ak (ak fF.blk), fF.odd, fF.three, fF.lt⟩))).mono ?_; rintro e W ⟨rfl, hb⟩; (replace hA := below_get hb (show _ = some (.cells #[.int .u64 (w0 (x) : Nat), .int .u64 (w1 (x) : Nat), .int .u64 (w2 (x) : Nat), .int .u64 (w3 (x) : Nat), .int .u64 (w0 (y) : Nat), .int .u64 (w1 (y) : Nat), .int .u64 (w2 (y) : Nat), .int .u64 (w3 (y) : Nat), .int .u64 (w0 (z) : Nat), .int .u64 (w1 (z) : Nat), .int .u64 (w2 (z) : Nat), .int .u64 (w3 (z) : Nat)] 103 (0, 0)) from by first | exact hA | exact ak hA)); (replace hR := below_get hb (show _ = some (.cells #[.int .u64 0, .int .u64 0, .int .u64 0, .int .u64 0, .int .u64 0, .int .u64 0, .int .u64 0, .int .u64 0, .int .u64 0, .int .u64 0, .int .u64 0, .int .u64 0] 103 (0, 0)) from by first | exact hR | exact ak hR)); (replace hD5 := below_get hb (show _ = some (.cells #[.int .u64 (w0 (a1) : Nat), .int .u64 (w1 (a1) : Nat), .int .u64 (w2 (a1) : Nat), .int .u64 (w3 (a1) : Nat)] 24 (0, 0)) from by first | exact hD5 | exact ak hD5)); (replace hD6 := below_get hb (show _ = some (.cells #[.int .u64 (w0 (b1) : Nat), .int .u64 (w1 (b1) : Nat), .int .u64 (w2 (b1) : Nat), .int .u64 (w3 (b1) : Nat)] 24 (0, 0)) from by first | exact hD6 | exact ak hD6)); (replace hD7 := below_get hb (show _ = some (.cells #[.int .u64 (w0 (c1) : Nat), .int .u64 (w1 (c1) : Nat), .int .u64 (w2 (c1) : Nat), .int .u64 (w3 (c1) : Nat)] 24 (0, 0)) from by first | exact hD7 | exact ak hD7)); (replace hD8 := below_get hb (show _ = some (.cells #[.int .u64 (w0 (d0) : Nat), .int .u64 (w1 (d0) : Nat), .int .u64 (w2 (d0) : Nat), .int .u64 (w3 (d0) : Nat)] 24 (0, 0)) from by first | exact hD8 | exact ak hD8)); (replace kk := bcl (by first | exact kk | exact kk.drew | exact bal kk _ | exact (bal kk _).drew) hb); (replace fF := HF.out.keep kk); (replace hQ := fF.blk); (replace cD80 : World.cell? W ⟨p8, 0, none⟩ = some (.int .u64 (w0 (d0) : Nat)) := by rw [cell_of_row _ _ _ _ _ _ hD8]; rfl); (replace cD81 : World.cell? W ⟨p8, 1, none⟩ = some (.int .u64 (w1 (d0) : Nat)) := by rw [cell_of_row _ _ _ _ _ _ hD8]; rfl); (replace cD82 : World.cell? W ⟨p8, 2, none⟩ = some (.int .u64 (w2 (d0) : Nat)) := by rw [cell_of_row _ _ _ _ _ _ hD8]; rfl); (replace cD83 : World.cell? W ⟨p8, 3, none⟩ = some (.int .u64 (w3 (d0) : Nat)) := by rw [cell_of_row _ _ _ _ _ _ hD8]; rfl); (replace cD80 : World.cell? W ⟨p8, 0, none⟩ = some (.int .u64 (w0 (d0) : Nat)) := by rw [cell_of_row _ _ _ _ _ _ hD8]; rfl); (replace cD81 : World.cell? W ⟨p8, 1, none⟩ = some (.int .u64 (w1 (d0) : Nat)) := by rw [cell_of_row _ _ _ _ _ _ hD8]; rfl); (replace cD82 : World.cell? W ⟨p8, 2, none⟩ = some (.int .u64 (w2 (d0) : Nat)) := by rw [cell_of_row _ _ _ _ _ _ hD8]; rfl); (replace cD83 : World.cell? W ⟨p8, 3, none⟩ = some (.int .u64 (w3 (d0) : Nat)) := by rw [cell_of_row _ _ _ _ _ _ hD8]; rfl); (have zD80 := frozen_of_row _ _ 0 _ _ hD8); (have zD81 := frozen_of_row _ _ 1 _ _ hD8); (have zD82 := frozen_of_row _ _ 2 _ _ hD8); (have zD83 := frozen_of_row _ _ 3 _ _ hD8); clear hb)
    try go_wp2_with fail
    replace hHeld : (fun w' => w'.cell? ⟨p8, 0, none⟩ = some (.int .u64 (w0 (d0) : Nat)) ∧ w'.cell? ⟨p8, 1, none⟩ = some (.int .u64 (w1 (d0) : Nat)) ∧ w'.cell? ⟨p8, 2, none⟩ = some (.int .u64 (w2 (d0) : Nat)) ∧ w'.cell? ⟨p8, 3, none⟩ = some (.int .u64 (w3 (d0) : Nat))) W := (by (try dsimp only); first | (with_reducible exact ⟨cD80, cD81, cD82, cD83⟩) | exact ⟨cD80, cD81, cD82, cD83⟩ | go_keep)
    refine hK.out _ _ (Or.inr hHeld) ?_
    clear hK K
    try simp only [Act.put, List.setIfInBounds_toArray, List.set_cons_zero, List.set_cons_succ]
    refine callT (i := 9) _ rfl (by rfl) (by kernel_rfl) (fun K hK => ?_)
    go_simp
    first | (go_at_call 32; refine (addG_any (by first | exact W4.mk' hla.out | exact W4.mk' hlb.out | exact W4.mk' hlc.out | exact W4.mk' HM.out | exact W4.mk' Ga1.out | exact W4.mk' Gb1.out | exact W4.mk' Gc1.out | exact W4.mk' Gd0.out | exact W4.mk' Gd1.out | exact W4.mk' Ge1.out | exact W4.mk' Gx1.out | exact W4.mk' Gc2.out | exact W4.mk' Gc3.out | exact W4.mk' Gc4.out | exact W4.mk' Gy1.out | exact W4.mk' Gz1.out | exact W4.mk' (Nat.lt_trans (Nat.mod_lt _ hpos) HM.out) | exact W4.small (n := 1) rfl (by decide) | exact W4.small (n := 2) rfl (by decide) | exact W4.small (n := 3) rfl (by decide) | exact W4.small (n := 4) rfl (by decide) | exact W4.small (n := 5) rfl (by decide) | exact W4.small (n := 7) rfl (by decide)) (by first | exact W4.mk' hla.out | exact W4.mk' hlb.out | exact W4.mk' hlc.out | exact W4.mk' HM.out | exact W4.mk' Ga1.out | exact W4.mk' Gb1.out | exact W4.mk' Gc1.out | exact W4.mk' Gd0.out | exact W4.mk' Gd1.out | exact W4.mk' Ge1.out | exact W4.mk' Gx1.out | exact W4.mk' Gc2.out | exact W4.mk' Gc3.out | exact W4.mk' Gc4.out | exact W4.mk' Gy1.out | exact W4.mk' Gz1.out | exact W4.mk' (Nat.lt_trans (Nat.mod_lt _ hpos) HM.out) | exact W4.small (n := 1) rfl (by decide) | exact W4.small (n := 2) rfl (by decide) | exact W4.small (n := 3) rfl (by decide) | exact W4.small (n := 4) rfl (by decide) | exact W4.small (n := 5) rfl (by decide) | exact W4.small (n := 7) rfl (by decide)) _ (show IsF _ (g) (m) from (by first | exact fF | exact ⟨fF.blk, fF.odd, fF.three, fF.lt⟩ | exact ⟨ak fF.blk, fF.odd, fF.three, fF.lt⟩ | exact ⟨ak (ak fF.blk), fF.odd, fF.three, fF.lt⟩))).mono ?_; rintro e W ⟨rfl, hb⟩; (replace hA := below_get hb (show _ = some (.cells #[.int .u64 (w0 (x) : Nat), .int .u64 (w1 (x) : Nat), .int .u64 (w2 (x) : Nat), .int .u64 (w3 (x) : Nat), .int .u64 (w0 (y) : Nat), .int .u64 (w1 (y) : Nat), .int .u64 (w2 (y) : Nat), .int .u64 (w3 (y) : Nat), .int .u64 (w0 (z) : Nat), .int .u64 (w1 (z) : Nat), .int .u64 (w2 (z) : Nat), .int .u64 (w3 (z) : Nat)] 103 (0, 0)) from by first | exact hA | exact ak hA)); (replace hR := below_get hb (show _ = some (.cells #[.int .u64 0, .int .u64 0, .int .u64 0, .int .u64 0, .int .u64 0, .int .u64 0, .int .u64 0, .int .u64 0, .int .u64 0, .int .u64 0, .int .u64 0, .int .u64 0] 103 (0, 0)) from by first | exact hR | exact ak hR)); (replace hD5 := below_get hb (show _ = some (.cells #[.int .u64 (w0 (a1) : Nat), .int .u64 (w1 (a1) : Nat), .int .u64 (w2 (a1) : Nat), .int .u64 (w3 (a1) : Nat)] 24 (0, 0)) from by first | exact hD5 | exact ak hD5)); (replace hD6 := below_get hb (show _ = some (.cells #[.int .u64 (w0 (b1) : Nat), .int .u64 (w1 (b1) : Nat), .int .u64 (w2 (b1) : Nat), .int .u64 (w3 (b1) : Nat)] 24 (0, 0)) from by first | exact hD6 | exact ak hD6)); (replace hD7 := below_get hb (show _ = some (.cells #[.int .u64 (w0 (c1) : Nat), .int .u64 (w1 (c1) : Nat), .int .u64 (w2 (c1) : Nat), .int .u64 (w3 (c1) : Nat)] 24 (0, 0)) from by first | exact hD7 | exact ak hD7)); (replace hD8 := below_get hb (show _ = some (.cells #[.int .u64 (w0 (d0) : Nat), .int .u64 (w1 (d0) : Nat), .int .u64 (w2 (d0) : Nat), .int .u64 (w3 (d0) : Nat)] 24 (0, 0)) from by first | exact hD8 | exact ak hD8)); (replace kk := bcl (by first | exact kk | exact kk.drew | exact bal kk _ | exact (bal kk _).drew) hb); (replace fF := HF.out.keep kk); (replace hQ := fF.blk); (replace cD80 : World.cell? W ⟨p8, 0, none⟩ = some (.int .u64 (w0 (d0) : Nat)) := by rw [cell_of_row _ _ _ _ _ _ hD8]; rfl); (replace cD81 : World.cell? W ⟨p8, 1, none⟩ = some (.int .u64 (w1 (d0) : Nat)) := by rw [cell_of_row _ _ _ _ _ _ hD8]; rfl); (replace cD82 : World.cell? W ⟨p8, 2, none⟩ = some (.int .u64 (w2 (d0) : Nat)) := by rw [cell_of_row _ _ _ _ _ _ hD8]; rfl); (replace cD83 : World.cell? W ⟨p8, 3, none⟩ = some (.int .u64 (w3 (d0) : Nat)) := by rw [cell_of_row _ _ _ _ _ _ hD8]; rfl); (replace cD80 : World.cell? W ⟨p8, 0, none⟩ = some (.int .u64 (w0 (d0) : Nat)) := by rw [cell_of_row _ _ _ _ _ _ hD8]; rfl); (replace cD81 : World.cell? W ⟨p8, 1, none⟩ = some (.int .u64 (w1 (d0) : Nat)) := by rw [cell_of_row _ _ _ _ _ _ hD8]; rfl); (replace cD82 : World.cell? W ⟨p8, 2, none⟩ = some (.int .u64 (w2 (d0) : Nat)) := by rw [cell_of_row _ _ _ _ _ _ hD8]; rfl); (replace cD83 : World.cell? W ⟨p8, 3, none⟩ = some (.int .u64 (w3 (d0) : Nat)) := by rw [cell_of_row _ _ _ _ _ _ hD8]; rfl); (have zD80 := frozen_of_row _ _ 0 _ _ hD8); (have zD81 := frozen_of_row _ _ 1 _ _ hD8); (have zD82 := frozen_of_row _ _ 2 _ _ hD8); (have zD83 := frozen_of_row _ _ 3 _ _ hD8); clear hb)
    try go_wp2_with fail
    replace hHeld : (fun w' => w'.cell? ⟨p8, 0, none⟩ = some (.int .u64 (w0 (d0) : Nat)) ∧ w'.cell? ⟨p8, 1, none⟩ = some (.int .u64 (w1 (d0) : Nat)) ∧ w'.cell? ⟨p8, 2, none⟩ = some (.int .u64 (w2 (d0) : Nat)) ∧ w'.cell? ⟨p8, 3, none⟩ = some (.int .u64 (w3 (d0) : Nat))) W := (by (try dsimp only); first | (with_reducible exact ⟨cD80, cD81, cD82, cD83⟩) | exact ⟨cD80, cD81, cD82, cD83⟩ | go_keep)
    refine hK.out _ _ (Or.inr hHeld) ?_
    clear hK K
    try simp only [Act.put, List.setIfInBounds_toArray, List.set_cons_zero, List.set_cons_succ]
    refine callT (i := 10) _ rfl (by rfl) (by kernel_rfl) (fun K hK => ?_)
    go_simp
    refine hK.out _ _ (Or.inl (by kernel_rfl)) ?_
    clear hK K
    try simp only [Act.put, List.setIfInBounds_toArray, List.set_cons_zero, List.set_cons_succ]
    refine doneT (by kernel_rfl) ?_ _
    go_simp
    go_wp2_with fail
    have P := put4 (.int .u64 (w0 (addf m (addf m d0 d0) (addf m d0 d0)) : Nat)) (.int .u64 (w1 (addf m (addf m d0 d0) (addf m d0 d0)) : Nat)) (.int .u64 (w2 (addf m (addf m d0 d0) (addf m d0 d0)) : Nat)) (.int .u64 (w3 (addf m (addf m d0 d0) (addf m d0 d0)) : Nat)) hD8
    replace P := put_hid P
    obtain ⟨V9, hW, P⟩ := P
    rw [hW]
    replace hD8 := P.here
    replace hA := (P.there (w.heap.size) (by omega)).trans (show _ = some (.cells #[.int .u64 (w0 (x) : Nat), .int .u64 (w1 (x) : Nat), .int .u64 (w2 (x) : Nat), .int .u64 (w3 (x) : Nat), .int .u64 (w0 (y) : Nat), .int .u64 (w1 (y) : Nat), .int .u64 (w2 (y) : Nat), .int .u64 (w3 (y) : Nat), .int .u64 (w0 (z) : Nat), .int .u64 (w1 (z) : Nat), .int .u64 (w2 (z) : Nat), .int .u64 (w3 (z) : Nat)] 103 (0, 0)) from hA)
    replace hR := (P.there (w.heap.size + 1) (by omega)).trans (show _ = some (.cells #[.int .u64 0, .int .u64 0, .int .u64 0, .int .u64 0, .int .u64 0, .int .u64 0, .int .u64 0, .int .u64 0, .int .u64 0, .int .u64 0, .int .u64 0, .int .u64 0] 103 (0, 0)) from hR)
    replace hD5 := (P.there (p5) (by omega)).trans (show _ = some (.cells #[.int .u64 (w0 (a1) : Nat), .int .u64 (w1 (a1) : Nat), .int .u64 (w2 (a1) : Nat), .int .u64 (w3 (a1) : Nat)] 24 (0, 0)) from hD5)
    replace hD6 := (P.there (p6) (by omega)).trans (show _ = some (.cells #[.int .u64 (w0 (b1) : Nat), .int .u64 (w1 (b1) : Nat), .int .u64 (w2 (b1) : Nat), .int .u64 (w3 (b1) : Nat)] 24 (0, 0)) from hD6)
    replace hD7 := (P.there (p7) (by omega)).trans (show _ = some (.cells #[.int .u64 (w0 (c1) : Nat), .int .u64 (w1 (c1) : Nat), .int .u64 (w2 (c1) : Nat), .int .u64 (w3 (c1) : Nat)] 24 (0, 0)) from hD7)
    replace kk := P.below (by omega) (show Below w.heap.size w W from by first | exact kk | exact kk.drew | exact below_drewN kk _)
    replace fF := HF.out.keep kk
    clear P hW
    obtain ⟨d1, eqd1⟩ : ∃ n, addf m (addf m d0 d0) (addf m d0 d0) = n := ⟨_, rfl⟩
    rw [eqd1] at hD8
    have Hd1 := Lib.hid eqd1
    have Gd1 := Lib.hid (show d1 < 2 ^ 256 by rw [← eqd1]; exact Nat.lt_trans (Nat.mod_lt _ hpos) HM.out)
    clear eqd1
    go_upto_region 8 with fail
    go_cut [9] (fun s9 wx => ∃ bx : Nat, s9 = .pointer (some ⟨bx, 0, none⟩) ∧ wx.heap[bx]? = some (.cells #[.int .u64 (w0 (addf m (addf m a1 a1) a1) : Nat), .int .u64 (w1 (addf m (addf m a1 a1) a1) : Nat), .int .u64 (w2 (addf m (addf m a1 a1) a1) : Nat), .int .u64 (w3 (addf m (addf m a1 a1) a1) : Nat)] 24 (0, 0)) ∧ wx.heap[w.heap.size]? = some (.cells #[.int .u64 (w0 (x) : Nat), .int .u64 (w1 (x) : Nat), .int .u64 (w2 (x) : Nat), .int .u64 (w3 (x) : Nat), .int .u64 (w0 (y) : Nat), .int .u64 (w1 (y) : Nat), .int .u64 (w2 (y) : Nat), .int .u64 (w3 (y) : Nat), .int .u64 (w0 (z) : Nat), .int .u64 (w1 (z) : Nat), .int .u64 (w2 (z) : Nat), .int .u64 (w3 (z) : Nat)] 103 (0, 0)) ∧ wx.heap[w.heap.size + 1]? = some (.cells #[.int .u64 0, .int .u64 0, .int .u64 0, .int .u64 0, .int .u64 0, .int .u64 0, .int .u64 0, .int .u64 0, .int .u64 0, .int .u64 0, .int .u64 0, .int .u64 0] 103 (0, 0)) ∧ wx.heap[p5]? = some (.cells #[.int .u64 (w0 (a1) : Nat), .int .u64 (w1 (a1) : Nat), .int .u64 (w2 (a1) : Nat), .int .u64 (w3 (a1) : Nat)] 24 (0, 0)) ∧ wx.heap[p6]? = some (.cells #[.int .u64 (w0 (b1) : Nat), .int .u64 (w1 (b1) : Nat), .int .u64 (w2 (b1) : Nat), .int .u64 (w3 (b1) : Nat)] 24 (0, 0)) ∧ wx.heap[p7]? = some (.cells #[.int .u64 (w0 (c1) : Nat), .int .u64 (w1 (c1) : Nat), .int .u64 (w2 (c1) : Nat), .int .u64 (w3 (c1) : Nat)] 24 (0, 0)) ∧ wx.heap[p8]? = some (.cells #[.int .u64 (w0 (d1) : Nat), .int .u64 (w1 (d1) : Nat), .int .u64 (w2 (d1) : Nat), .int .u64 (w3 (d1) : Nat)] 24 (0, 0)) ∧ bx ≥ w.heap.size ∧ (w.heap.size) ≠ bx ∧ (w.heap.size + 1) ≠ bx ∧ (p5) ≠ bx ∧ (p6) ≠ bx ∧ (p7) ≠ bx ∧ (p8) ≠ bx ∧ Below w.heap.size w wx)
    case first =>
      have hQ := fF.blk
      have lF := lt_of_heap hQ
      have nF := Nat.ne_of_lt lF
      have mF := nF.symm
      have lK := kk.size
      have lA := lt_of_heap hA
      have nA := Nat.ne_of_lt lA
      have mA := nA.symm
      have lR := lt_of_heap hR
      have nR := Nat.ne_of_lt lR
      have mR := nR.symm
      have lD5 := lt_of_heap hD5
      have nD5 := Nat.ne_of_lt lD5
      have mD5 := nD5.symm
      have lD6 := lt_of_heap hD6
      have nD6 := Nat.ne_of_lt lD6
      have mD6 := nD6.symm
      have lD7 := lt_of_heap hD7
      have nD7 := Nat.ne_of_lt lD7
      have mD7 := nD7.symm
      have lD8 := lt_of_heap hD8
      have nD8 := Nat.ne_of_lt lD8
      have mD8 := nD8.symm
      have cD50 : World.cell? V9 ⟨p5, 0, none⟩ = some (.int .u64 (w0 (a1) : Nat)) := by rw [cell_of_row _ _ _ _ _ _ hD5]; rfl
      have cD51 : World.cell? V9 ⟨p5, 1, none⟩ = some (.int .u64 (w1 (a1) : Nat)) := by rw [cell_of_row _ _ _ _ _ _ hD5]; rfl
      have cD52 : World.cell? V9 ⟨p5, 2, none⟩ = some (.int .u64 (w2 (a1) : Nat)) := by rw [cell_of_row _ _ _ _ _ _ hD5]; rfl
      have cD53 : World.cell? V9 ⟨p5, 3, none⟩ = some (.int .u64 (w3 (a1) : Nat)) := by rw [cell_of_row _ _ _ _ _ _ hD5]; rfl
      go_region_held3 (fun w' => w'.cell? ⟨p5, 0, none⟩ = some (.int .u64 (w0 (a1) : Nat)) ∧ w'.cell? ⟨p5, 1, none⟩ = some (.int .u64 (w1 (a1) : Nat)) ∧ w'.cell? ⟨p5, 2, none⟩ = some (.int .u64 (w2 (a1) : Nat)) ∧ w'.cell? ⟨p5, 3, none⟩ = some (.int .u64 (w3 (a1) : Nat))) (first | (with_reducible exact ⟨cD50, cD51, cD52, cD53⟩) | go_keep) (first | (go_at_call 32; refine (addG_any (by first | exact W4.mk' hla.out | exact W4.mk' hlb.out | exact W4.mk' hlc.out | exact W4.mk' HM.out | exact W4.mk' Ga1.out | exact W4.mk' Gb1.out | exact W4.mk' Gc1.out | exact W4.mk' Gd0.out | exact W4.mk' Gd1.out | exact W4.mk' Ge1.out | exact W4.mk' Gx1.out | exact W4.mk' Gc2.out | exact W4.mk' Gc3.out | exact W4.mk' Gc4.out | exact W4.mk' Gy1.out | exact W4.mk' Gz1.out | exact W4.mk' (Nat.lt_trans (Nat.mod_lt _ hpos) HM.out) | exact W4.small (n := 1) rfl (by decide) | exact W4.small (n := 2) rfl (by decide) | exact W4.small (n := 3) rfl (by decide) | exact W4.small (n := 4) rfl (by decide) | exact W4.small (n := 5) rfl (by decide) | exact W4.small (n := 7) rfl (by decide)) (by first | exact W4.mk' hla.out | exact W4.mk' hlb.out | exact W4.mk' hlc.out | exact W4.mk' HM.out | exact W4.mk' Ga1.out | exact W4.mk' Gb1.out | exact W4.mk' Gc1.out | exact W4.mk' Gd0.out | exact W4.mk' Gd1.out | exact W4.mk' Ge1.out | exact W4.mk' Gx1.out | exact W4.mk' Gc2.out | exact W4.mk' Gc3.out | exact W4.mk' Gc4.out | exact W4.mk' Gy1.out | exact W4.mk' Gz1.out | exact W4.mk' (Nat.lt_trans (Nat.mod_lt _ hpos) HM.out) | exact W4.small (n := 1) rfl (by decide) | exact W4.small (n := 2) rfl (by decide) | exact W4.small (n := 3) rfl (by decide) | exact W4.small (n := 4) rfl (by decide) | exact W4.small (n := 5) rfl (by decide) | exact W4.small (n := 7) rfl (by decide)) _ (show IsF _ (g) (m) from (by first | exact fF | exact ⟨fF.blk, fF.odd, fF.three, fF.lt⟩ | exact ⟨ak fF.blk, fF.odd, fF.three, fF.lt⟩ | exact ⟨ak (ak fF.blk), fF.odd, fF.three, fF.lt⟩))).mono ?_; rintro e W ⟨rfl, hb⟩; (replace hA := below_get hb (show _ = some (.cells #[.int .u64 (w0 (x) : Nat), .int .u64 (w1 (x) : Nat), .int .u64 (w2 (x) : Nat), .int .u64 (w3 (x) : Nat), .int .u64 (w0 (y) : Nat), .int .u64 (w1 (y) : Nat), .int .u64 (w2 (y) : Nat), .int .u64 (w3 (y) : Nat), .int .u64 (w0 (z) : Nat), .int .u64 (w1 (z) : Nat), .int .u64 (w2 (z) : Nat), .int .u64 (w3 (z) : Nat)] 103 (0, 0)) from by first | exact hA | exact ak hA)); (replace hR := below_get hb (show _ = some (.cells #[.int .u64 0, .int .u64 0, .int .u64 0, .int .u64 0, .int .u64 0, .int .u64 0, .int .u64 0, .int .u64 0, .int .u64 0, .int .u64 0, .int .u64 0, .int .u64 0] 103 (0, 0)) from by first | exact hR | exact ak hR)); (replace hD5 := below_get hb (show _ = some (.cells #[.int .u64 (w0 (a1) : Nat), .int .u64 (w1 (a1) : Nat), .int .u64 (w2 (a1) : Nat), .int .u64 (w3 (a1) : Nat)] 24 (0, 0)) from by first | exact hD5 | exact ak hD5)); (replace hD6 := below_get hb (show _ = some (.cells #[.int .u64 (w0 (b1) : Nat), .int .u64 (w1 (b1) : Nat), .int .u64 (w2 (b1) : Nat), .int .u64 (w3 (b1) : Nat)] 24 (0, 0)) from by first | exact hD6 | exact ak hD6)); (replace hD7 := below_get hb (show _ = some (.cells #[.int .u64 (w0 (c1) : Nat), .int .u64 (w1 (c1) : Nat), .int .u64 (w2 (c1) : Nat), .int .u64 (w3 (c1) : Nat)] 24 (0, 0)) from by first | exact hD7 | exact ak hD7)); (replace hD8 := below_get hb (show _ = some (.cells #[.int .u64 (w0 (d1) : Nat), .int .u64 (w1 (d1) : Nat), .int .u64 (w2 (d1) : Nat), .int .u64 (w3 (d1) : Nat)] 24 (0, 0)) from by first | exact hD8 | exact ak hD8)); (replace kk := bcl (by first | exact kk | exact kk.drew | exact bal kk _ | exact (bal kk _).drew) hb); (replace fF := HF.out.keep kk); (replace hQ := fF.blk); (have lA := lt_of_heap hA); (have nA := Nat.ne_of_lt lA); (have mA := nA.symm); (have lR := lt_of_heap hR); (have nR := Nat.ne_of_lt lR); (have mR := nR.symm); (have lD5 := lt_of_heap hD5); (have nD5 := Nat.ne_of_lt lD5); (have mD5 := nD5.symm); (have lD6 := lt_of_heap hD6); (have nD6 := Nat.ne_of_lt lD6); (have mD6 := nD6.symm); (have lD7 := lt_of_heap hD7); (have nD7 := Nat.ne_of_lt lD7); (have mD7 := nD7.symm); (have lD8 := lt_of_heap hD8); (have nD8 := Nat.ne_of_lt lD8); (have mD8 := nD8.symm); (have lF := lt_of_heap hQ); (have nF := Nat.ne_of_lt lF); (have mF := nF.symm); (try (first | (replace hB := below_get hb hB; obtain ⟨cB0, cB1, cB2, cB3, zB0, zB1, zB2, zB3⟩ := zero_cells hB) | (have hB := below_get hb (show _ = some (.cells #[.int .u64 0, .int .u64 0, .int .u64 0, .int .u64 0] 24 (0, 0)) from heap_alloc_new _ _); obtain ⟨cB0, cB1, cB2, cB3, zB0, zB1, zB2, zB3⟩ := zero_cells hB))); (replace cD50 : World.cell? W ⟨p5, 0, none⟩ = some (.int .u64 (w0 (a1) : Nat)) := by rw [cell_of_row _ _ _ _ _ _ hD5]; rfl); (replace cD51 : World.cell? W ⟨p5, 1, none⟩ = some (.int .u64 (w1 (a1) : Nat)) := by rw [cell_of_row _ _ _ _ _ _ hD5]; rfl); (replace cD52 : World.cell? W ⟨p5, 2, none⟩ = some (.int .u64 (w2 (a1) : Nat)) := by rw [cell_of_row _ _ _ _ _ _ hD5]; rfl); (replace cD53 : World.cell? W ⟨p5, 3, none⟩ = some (.int .u64 (w3 (a1) : Nat)) := by rw [cell_of_row _ _ _ _ _ _ hD5]; rfl); clear hb))
      all_goals go_wp2_with fail
      all_goals go_meet
      all_goals have lK := kk.size
      all_goals first | (have P := put4 (.int .u64 (w0 (addf m (addf m a1 a1) a1) : Nat)) (.int .u64 (w1 (addf m (addf m a1 a1) a1) : Nat)) (.int .u64 (w2 (addf m (addf m a1 a1) a1) : Nat)) (.int .u64 (w3 (addf m (addf m a1 a1) a1) : Nat)) hB; exact ⟨_, rfl, P.here, (P.there _ (by omega)).trans hA, (P.there _ (by omega)).trans hR, (P.there _ (by omega)).trans hD5, (P.there _ (by omega)).trans hD6, (P.there _ (by omega)).trans hD7, (P.there _ (by omega)).trans hD8, by omega, by omega, by omega, by omega, by omega, by omega, by omega, by first | exact P.below (by omega) kk | exact (P.below (by omega) kk).drew⟩) | exact ⟨_, rfl, heap_alloc_new W _, ak (w := W) hA, ak (w := W) hR, ak (w := W) hD5, ak (w := W) hD6, ak (w := W) hD7, ak (w := W) hD8, by omega, by omega, by omega, by omega, by omega, by omega, by omega, by first | exact bal kk _ | exact (bal kk _).drew⟩
    case rest =>
      obtain ⟨p9, rfl, hD9, hA, hR, hD5, hD6, hD7, hD8, gD9, nD9A, nD9R, nD9D5, nD9D6, nD9D7, nD9D8, kk⟩ := hcut
      replace fF := HF.out.keep kk
      obtain ⟨e1, eqe1⟩ : ∃ n, addf m (addf m a1 a1) a1 = n := ⟨_, rfl⟩
      rw [eqe1] at hD9
      have He1 := Lib.hid eqe1
      have Ge1 := Lib.hid (show e1 < 2 ^ 256 by rw [← eqe1]; exact Nat.lt_trans (Nat.mod_lt _ hpos) HM.out)
      clear eqe1
      go_upto_region 9 with fail
      go_cut [10] (fun s10 wx => ∃ bx : Nat, s10 = .pointer (some ⟨bx, 0, none⟩) ∧ wx.heap[bx]? = some (.cells #[.int .u64 (w0 (subf m (mulm m e1 e1) (addf m d1 d1)) : Nat), .int .u64 (w1 (subf m (mulm m e1 e1) (addf m d1 d1)) : Nat), .int .u64 (w2 (subf m (mulm m e1 e1) (addf m d1 d1)) : Nat), .int .u64 (w3 (subf m (mulm m e1 e1) (addf m d1 d1)) : Nat)] 24 (0, 0)) ∧ wx.heap[w.heap.size]? = some (.cells #[.int .u64 (w0 (x) : Nat), .int .u64 (w1 (x) : Nat), .int .u64 (w2 (x) : Nat), .int .u64 (w3 (x) : Nat), .int .u64 (w0 (y) : Nat), .int .u64 (w1 (y) : Nat), .int .u64 (w2 (y) : Nat), .int .u64 (w3 (y) : Nat), .int .u64 (w0 (z) : Nat), .int .u64 (w1 (z) : Nat), .int .u64 (w2 (z) : Nat), .int .u64 (w3 (z) : Nat)] 103 (0, 0)) ∧ wx.heap[w.heap.size + 1]? = some (.cells #[.int .u64 0, .int .u64 0, .int .u64 0, .int .u64 0, .int .u64 0, .int .u64 0, .int .u64 0, .int .u64 0, .int .u64 0, .int .u64 0, .int .u64 0, .int .u64 0] 103 (0, 0)) ∧ wx.heap[p5]? = some (.cells #[.int .u64 (w0 (a1) : Nat), .int .u64 (w1 (a1) : Nat), .int .u64 (w2 (a1) : Nat), .int .u64 (w3 (a1) : Nat)] 24 (0, 0)) ∧ wx.heap[p6]? = some (.cells #[.int .u64 (w0 (b1) : Nat), .int .u64 (w1 (b1) : Nat), .int .u64 (w2 (b1) : Nat), .int .u64 (w3 (b1) : Nat)] 24 (0, 0)) ∧ wx.heap[p7]? = some (.cells #[.int .u64 (w0 (c1) : Nat), .int .u64 (w1 (c1) : Nat), .int .u64 (w2 (c1) : Nat), .int .u64 (w3 (c1) : Nat)] 24 (0, 0)) ∧ wx.heap[p8]? = some (.cells #[.int .u64 (w0 (d1) : Nat), .int .u64 (w1 (d1) : Nat), .int .u64 (w2 (d1) : Nat), .int .u64 (w3 (d1) : Nat)] 24 (0, 0)) ∧ wx.heap[p9]? = some (.cells #[.int .u64 (w0 (e1) : Nat), .int .u64 (w1 (e1) : Nat), .int .u64 (w2 (e1) : Nat), .int .u64 (w3 (e1) : Nat)] 24 (0, 0)) ∧ bx ≥ w.heap.size ∧ (w.heap.size) ≠ bx ∧ (w.heap.size + 1) ≠ bx ∧ (p5) ≠ bx ∧ (p6) ≠ bx ∧ (p7) ≠ bx ∧ (p8) ≠ bx ∧ (p9) ≠ bx ∧ Below w.heap.size w wx)
      case first =>
        have hQ := fF.blk
        have lF := lt_of_heap hQ
        have nF := Nat.ne_of_lt lF
        have mF := nF.symm
        have lK := kk.size
        have lA := lt_of_heap hA
        have nA := Nat.ne_of_lt lA
        have mA := nA.symm
        have lR := lt_of_heap hR
        have nR := Nat.ne_of_lt lR
        have mR := nR.symm
        have lD5 := lt_of_heap hD5
        have nD5 := Nat.ne_of_lt lD5
        have mD5 := nD5.symm
        have lD6 := lt_of_heap hD6
        have nD6 := Nat.ne_of_lt lD6
        have mD6 := nD6.symm
        have lD7 := lt_of_heap hD7
        have nD7 := Nat.ne_of_lt lD7
        have mD7 := nD7.symm
        have lD8 := lt_of_heap hD8
        have nD8 := Nat.ne_of_lt lD8
        have mD8 := nD8.symm
        have lD9 := lt_of_heap hD9
        have nD9 := Nat.ne_of_lt lD9
        have mD9 := nD9.symm
        have cD80 : World.cell? wc ⟨p8, 0, none⟩ = some (.int .u64 (w0 (d1) : Nat)) := by rw [cell_of_row _ _ _ _ _ _ hD8]; rfl
        have cD81 : World.cell? wc ⟨p8, 1, none⟩ = some (.int .u64 (w1 (d1) : Nat)) := by rw [cell_of_row _ _ _ _ _ _ hD8]; rfl
        have cD82 : World.cell? wc ⟨p8, 2, none⟩ = some (.int .u64 (w2 (d1) : Nat)) := by rw [cell_of_row _ _ _ _ _ _ hD8]; rfl
        have cD83 : World.cell? wc ⟨p8, 3, none⟩ = some (.int .u64 (w3 (d1) : Nat)) := by rw [cell_of_row _ _ _ _ _ _ hD8]; rfl
        have cD90 : World.cell? wc ⟨p9, 0, none⟩ = some (.int .u64 (w0 (e1) : Nat)) := by rw [cell_of_row _ _ _ _ _ _ hD9]; rfl
        have cD91 : World.cell? wc ⟨p9, 1, none⟩ = some (.int .u64 (w1 (e1) : Nat)) := by rw [cell_of_row _ _ _ _ _ _ hD9]; rfl
        have cD92 : World.cell? wc ⟨p9, 2, none⟩ = some (.int .u64 (w2 (e1) : Nat)) := by rw [cell_of_row _ _ _ _ _ _ hD9]; rfl
        have cD93 : World.cell? wc ⟨p9, 3, none⟩ = some (.int .u64 (w3 (e1) : Nat)) := by rw [cell_of_row _ _ _ _ _ _ hD9]; rfl
        go_region_held3 (fun w' => w'.cell? ⟨p8, 0, none⟩ = some (.int .u64 (w0 (d1) : Nat)) ∧ w'.cell? ⟨p8, 1, none⟩ = some (.int .u64 (w1 (d1) : Nat)) ∧ w'.cell? ⟨p8, 2, none⟩ = some (.int .u64 (w2 (d1) : Nat)) ∧ w'.cell? ⟨p8, 3, none⟩ = some (.int .u64 (w3 (d1) : Nat)) ∧ w'.cell? ⟨p9, 0, none⟩ = some (.int .u64 (w0 (e1) : Nat)) ∧ w'.cell? ⟨p9, 1, none⟩ = some (.int .u64 (w1 (e1) : Nat)) ∧ w'.cell? ⟨p9, 2, none⟩ = some (.int .u64 (w2 (e1) : Nat)) ∧ w'.cell? ⟨p9, 3, none⟩ = some (.int .u64 (w3 (e1) : Nat))) (first | (with_reducible exact ⟨cD80, cD81, cD82, cD83, cD90, cD91, cD92, cD93⟩) | go_keep) (first | (go_at_call 26; refine (mulG_any (by first | exact W4.mk' hla.out | exact W4.mk' hlb.out | exact W4.mk' hlc.out | exact W4.mk' HM.out | exact W4.mk' Ga1.out | exact W4.mk' Gb1.out | exact W4.mk' Gc1.out | exact W4.mk' Gd0.out | exact W4.mk' Gd1.out | exact W4.mk' Ge1.out | exact W4.mk' Gx1.out | exact W4.mk' Gc2.out | exact W4.mk' Gc3.out | exact W4.mk' Gc4.out | exact W4.mk' Gy1.out | exact W4.mk' Gz1.out | exact W4.mk' (Nat.lt_trans (Nat.mod_lt _ hpos) HM.out) | exact W4.small (n := 1) rfl (by decide) | exact W4.small (n := 2) rfl (by decide) | exact W4.small (n := 3) rfl (by decide) | exact W4.small (n := 4) rfl (by decide) | exact W4.small (n := 5) rfl (by decide) | exact W4.small (n := 7) rfl (by decide)) (by first | exact W4.mk' hla.out | exact W4.mk' hlb.out | exact W4.mk' hlc.out | exact W4.mk' HM.out | exact W4.mk' Ga1.out | exact W4.mk' Gb1.out | exact W4.mk' Gc1.out | exact W4.mk' Gd0.out | exact W4.mk' Gd1.out | exact W4.mk' Ge1.out | exact W4.mk' Gx1.out | exact W4.mk' Gc2.out | exact W4.mk' Gc3.out | exact W4.mk' Gc4.out | exact W4.mk' Gy1.out | exact W4.mk' Gz1.out | exact W4.mk' (Nat.lt_trans (Nat.mod_lt _ hpos) HM.out) | exact W4.small (n := 1) rfl (by decide) | exact W4.small (n := 2) rfl (by decide) | exact W4.small (n := 3) rfl (by decide) | exact W4.small (n := 4) rfl (by decide) | exact W4.small (n := 5) rfl (by decide) | exact W4.small (n := 7) rfl (by decide)) _ (show IsF _ (g) (m) from (by first | exact fF | exact ⟨fF.blk, fF.odd, fF.three, fF.lt⟩ | exact ⟨ak fF.blk, fF.odd, fF.three, fF.lt⟩ | exact ⟨ak (ak fF.blk), fF.odd, fF.three, fF.lt⟩))).mono ?_; rintro e W ⟨rfl, hb⟩; (replace hA := below_get hb (show _ = some (.cells #[.int .u64 (w0 (x) : Nat), .int .u64 (w1 (x) : Nat), .int .u64 (w2 (x) : Nat), .int .u64 (w3 (x) : Nat), .int .u64 (w0 (y) : Nat), .int .u64 (w1 (y) : Nat), .int .u64 (w2 (y) : Nat), .int .u64 (w3 (y) : Nat), .int .u64 (w0 (z) : Nat), .int .u64 (w1 (z) : Nat), .int .u64 (w2 (z) : Nat), .int .u64 (w3 (z) : Nat)] 103 (0, 0)) from by first | exact hA | exact ak hA)); (replace hR := below_get hb (show _ = some (.cells #[.int .u64 0, .int .u64 0, .int .u64 0, .int .u64 0, .int .u64 0, .int .u64 0, .int .u64 0, .int .u64 0, .int .u64 0, .int .u64 0, .int .u64 0, .int .u64 0] 103 (0, 0)) from by first | exact hR | exact ak hR)); (replace hD5 := below_get hb (show _ = some (.cells #[.int .u64 (w0 (a1) : Nat), .int .u64 (w1 (a1) : Nat), .int .u64 (w2 (a1) : Nat), .int .u64 (w3 (a1) : Nat)] 24 (0, 0)) from by first | exact hD5 | exact ak hD5)); (replace hD6 := below_get hb (show _ = some (.cells #[.int .u64 (w0 (b1) : Nat), .int .u64 (w1 (b1) : Nat), .int .u64 (w2 (b1) : Nat), .int .u64 (w3 (b1) : Nat)] 24 (0, 0)) from by first | exact hD6 | exact ak hD6)); (replace hD7 := below_get hb (show _ = some (.cells #[.int .u64 (w0 (c1) : Nat), .int .u64 (w1 (c1) : Nat), .int .u64 (w2 (c1) : Nat), .int .u64 (w3 (c1) : Nat)] 24 (0, 0)) from by first | exact hD7 | exact ak hD7)); (replace hD8 := below_get hb (show _ = some (.cells #[.int .u64 (w0 (d1) : Nat), .int .u64 (w1 (d1) : Nat), .int .u64 (w2 (d1) : Nat), .int .u64 (w3 (d1) : Nat)] 24 (0, 0)) from by first | exact hD8 | exact ak hD8)); (replace hD9 := below_get hb (show _ = some (.cells #[.int .u64 (w0 (e1) : Nat), .int .u64 (w1 (e1) : Nat), .int .u64 (w2 (e1) : Nat), .int .u64 (w3 (e1) : Nat)] 24 (0, 0)) from by first | exact hD9 | exact ak hD9)); (replace kk := bcl (by first | exact kk | exact kk.drew | exact bal kk _ | exact (bal kk _).drew) hb); (replace fF := HF.out.keep kk); (replace hQ := fF.blk); (have lA := lt_of_heap hA); (have nA := Nat.ne_of_lt lA); (have mA := nA.symm); (have lR := lt_of_heap hR); (have nR := Nat.ne_of_lt lR); (have mR := nR.symm); (have lD5 := lt_of_heap hD5); (have nD5 := Nat.ne_of_lt lD5); (have mD5 := nD5.symm); (have lD6 := lt_of_heap hD6); (have nD6 := Nat.ne_of_lt lD6); (have mD6 := nD6.symm); (have lD7 := lt_of_heap hD7); (have nD7 := Nat.ne_of_lt lD7); (have mD7 := nD7.symm); (have lD8 := lt_of_heap hD8); (have nD8 := Nat.ne_of_lt lD8); (have mD8 := nD8.symm); (have lD9 := lt_of_heap hD9); (have nD9 := Nat.ne_of_lt lD9); (have mD9 := nD9.symm); (have lF := lt_of_heap hQ); (have nF := Nat.ne_of_lt lF); (have mF := nF.symm); (try (first | (replace hB := below_get hb hB; obtain ⟨cB0, cB1, cB2, cB3, zB0, zB1, zB2, zB3⟩ := zero_cells hB) | (have hB := below_get hb (show _ = some (.cells #[.int .u64 0, .int .u64 0, .int .u64 0, .int .u64 0] 24 (0, 0)) from heap_alloc_new _ _); obtain ⟨cB0, cB1, cB2, cB3, zB0, zB1, zB2, zB3⟩ := zero_cells hB))); (replace cD80 : World.cell? W ⟨p8, 0, none⟩ = some (.int .u64 (w0 (d1) : Nat)) := by rw [cell_of_row _ _ _ _ _ _ hD8]; rfl); (replace cD81 : World.cell? W ⟨p8, 1, none⟩ = some (.int .u64 (w1 (d1) : Nat)) := by rw [cell_of_row _ _ _ _ _ _ hD8]; rfl); (replace cD82 : World.cell? W ⟨p8, 2, none⟩ = some (.int .u64 (w2 (d1) : Nat)) := by rw [cell_of_row _ _ _ _ _ _ hD8]; rfl); (replace cD83 : World.cell? W ⟨p8, 3, none⟩ = some (.int .u64 (w3 (d1) : Nat)) := by rw [cell_of_row _ _ _ _ _ _ hD8]; rfl); (replace cD90 : World.cell? W ⟨p9, 0, none⟩ = some (.int .u64 (w0 (e1) : Nat)) := by rw [cell_of_row _ _ _ _ _ _ hD9]; rfl); (replace cD91 : World.cell? W ⟨p9, 1, none⟩ = some (.int .u64 (w1 (e1) : Nat)) := by rw [cell_of_row _ _ _ _ _ _ hD9]; rfl); (replace cD92 : World.cell? W ⟨p9, 2, none⟩ = some (.int .u64 (w2 (e1) : Nat)) := by rw [cell_of_row _ _ _ _ _ _ hD9]; rfl); (replace cD93 : World.cell? W ⟨p9, 3, none⟩ = some (.int .u64 (w3 (e1) : Nat)) := by rw [cell_of_row _ _ _ _ _ _ hD9]; rfl); clear hb) | (go_at_call 32; refine (addG_any (by first | exact W4.mk' hla.out | exact W4.mk' hlb.out | exact W4.mk' hlc.out | exact W4.mk' HM.out | exact W4.mk' Ga1.out | exact W4.mk' Gb1.out | exact W4.mk' Gc1.out | exact W4.mk' Gd0.out | exact W4.mk' Gd1.out | exact W4.mk' Ge1.out | exact W4.mk' Gx1.out | exact W4.mk' Gc2.out | exact W4.mk' Gc3.out | exact W4.mk' Gc4.out | exact W4.mk' Gy1.out | exact W4.mk' Gz1.out | exact W4.mk' (Nat.lt_trans (Nat.mod_lt _ hpos) HM.out) | exact W4.small (n := 1) rfl (by decide) | exact W4.small (n := 2) rfl (by decide) | exact W4.small (n := 3) rfl (by decide) | exact W4.small (n := 4) rfl (by decide) | exact W4.small (n := 5) rfl (by decide) | exact W4.small (n := 7) rfl (by decide)) (by first | exact W4.mk' hla.out | exact W4.mk' hlb.out | exact W4.mk' hlc.out | exact W4.mk' HM.out | exact W4.mk' Ga1.out | exact W4.mk' Gb1.out | exact W4.mk' Gc1.out | exact W4.mk' Gd0.out | exact W4.mk' Gd1.out | exact W4.mk' Ge1.out | exact W4.mk' Gx1.out | exact W4.mk' Gc2.out | exact W4.mk' Gc3.out | exact W4.mk' Gc4.out | exact W4.mk' Gy1.out | exact W4.mk' Gz1.out | exact W4.mk' (Nat.lt_trans (Nat.mod_lt _ hpos) HM.out) | exact W4.small (n := 1) rfl (by decide) | exact W4.small (n := 2) rfl (by decide) | exact W4.small (n := 3) rfl (by decide) | exact W4.small (n := 4) rfl (by decide) | exact W4.small (n := 5) rfl (by decide) | exact W4.small (n := 7) rfl (by decide)) _ (show IsF _ (g) (m) from (by first | exact fF | exact ⟨fF.blk, fF.odd, fF.three, fF.lt⟩ | exact ⟨ak fF.blk, fF.odd, fF.three, fF.lt⟩ | exact ⟨ak (ak fF.blk), fF.odd, fF.three, fF.lt⟩))).mono ?_; rintro e W ⟨rfl, hb⟩; (replace hA := below_get hb (show _ = some (.cells #[.int .u64 (w0 (x) : Nat), .int .u64 (w1 (x) : Nat), .int .u64 (w2 (x) : Nat), .int .u64 (w3 (x) : Nat), .int .u64 (w0 (y) : Nat), .int .u64 (w1 (y) : Nat), .int .u64 (w2 (y) : Nat), .int .u64 (w3 (y) : Nat), .int .u64 (w0 (z) : Nat), .int .u64 (w1 (z) : Nat), .int .u64 (w2 (z) : Nat), .int .u64 (w3 (z) : Nat)] 103 (0, 0)) from by first | exact hA | exact ak hA)); (replace hR := below_get hb (show _ = some (.cells #[.int .u64 0, .int .u64 0, .int .u64 0, .int .u64 0, .int .u64 0, .int .u64 0, .int .u64 0, .int .u64 0, .int .u64 0, .int .u64 0, .int .u64 0, .int .u64 0] 103 (0, 0)) from by first | exact hR | exact ak hR)); (replace hD5 := below_get hb (show _ = some (.cells #[.int .u64 (w0 (a1) : Nat), .int .u64 (w1 (a1) : Nat), .int .u64 (w2 (a1) : Nat), .int .u64 (w3 (a1) : Nat)] 24 (0, 0)) from by first | exact hD5 | exact ak hD5)); (replace hD6 := below_get hb (show _ = some (.cells #[.int .u64 (w0 (b1) : Nat), .int .u64 (w1 (b1) : Nat), .int .u64 (w2 (b1) : Nat), .int .u64 (w3 (b1) : Nat)] 24 (0, 0)) from by first | exact hD6 | exact ak hD6)); (replace hD7 := below_get hb (show _ = some (.cells #[.int .u64 (w0 (c1) : Nat), .int .u64 (w1 (c1) : Nat), .int .u64 (w2 (c1) : Nat), .int .u64 (w3 (c1) : Nat)] 24 (0, 0)) from by first | exact hD7 | exact ak hD7)); (replace hD8 := below_get hb (show _ = some (.cells #[.int .u64 (w0 (d1) : Nat), .int .u64 (w1 (d1) : Nat), .int .u64 (w2 (d1) : Nat), .int .u64 (w3 (d1) : Nat)] 24 (0, 0)) from by first | exact hD8 | exact ak hD8)); (replace hD9 := below_get hb (show _ = some (.cells #[.int .u64 (w0 (e1) : Nat), .int .u64 (w1 (e1) : Nat), .int .u64 (w2 (e1) : Nat), .int .u64 (w3 (e1) : Nat)] 24 (0, 0)) from by first | exact hD9 | exact ak hD9)); (replace kk := bcl (by first | exact kk | exact kk.drew | exact bal kk _ | exact (bal kk _).drew) hb); (replace fF := HF.out.keep kk); (replace hQ := fF.blk); (have lA := lt_of_heap hA); (have nA := Nat.ne_of_lt lA); (have mA := nA.symm); (have lR := lt_of_heap hR); (have nR := Nat.ne_of_lt lR); (have mR := nR.symm); (have lD5 := lt_of_heap hD5); (have nD5 := Nat.ne_of_lt lD5); (have mD5 := nD5.symm); (have lD6 := lt_of_heap hD6); (have nD6 := Nat.ne_of_lt lD6); (have mD6 := nD6.symm); (have lD7 := lt_of_heap hD7); (have nD7 := Nat.ne_of_lt lD7); (have mD7 := nD7.symm); (have lD8 := lt_of_heap hD8); (have nD8 := Nat.ne_of_lt lD8); (have mD8 := nD8.symm); (have lD9 := lt_of_heap hD9); (have nD9 := Nat.ne_of_lt lD9); (have mD9 := nD9.symm); (have lF := lt_of_heap hQ); (have nF := Nat.ne_of_lt lF); (have mF := nF.symm); (try (first | (replace hB := below_get hb hB; obtain ⟨cB0, cB1, cB2, cB3, zB0, zB1, zB2, zB3⟩ := zero_cells hB) | (have hB := below_get hb (show _ = some (.cells #[.int .u64 0, .int .u64 0, .int .u64 0, .int .u64 0] 24 (0, 0)) from heap_alloc_new _ _); obtain ⟨cB0, cB1, cB2, cB3, zB0, zB1, zB2, zB3⟩ := zero_cells hB))); (replace cD80 : World.cell? W ⟨p8, 0, none⟩ = some (.int .u64 (w0 (d1) : Nat)) := by rw [cell_of_row _ _ _ _ _ _ hD8]; rfl); (replace cD81 : World.cell? W ⟨p8, 1, none⟩ = some (.int .u64 (w1 (d1) : Nat)) := by rw [cell_of_row _ _ _ _ _ _ hD8]; rfl); (replace cD82 : World.cell? W ⟨p8, 2, none⟩ = some (.int .u64 (w2 (d1) : Nat)) := by rw [cell_of_row _ _ _ _ _ _ hD8]; rfl); (replace cD83 : World.cell? W ⟨p8, 3, none⟩ = some (.int .u64 (w3 (d1) : Nat)) := by rw [cell_of_row _ _ _ _ _ _ hD8]; rfl); (replace cD90 : World.cell? W ⟨p9, 0, none⟩ = some (.int .u64 (w0 (e1) : Nat)) := by rw [cell_of_row _ _ _ _ _ _ hD9]; rfl); (replace cD91 : World.cell? W ⟨p9, 1, none⟩ = some (.int .u64 (w1 (e1) : Nat)) := by rw [cell_of_row _ _ _ _ _ _ hD9]; rfl); (replace cD92 : World.cell? W ⟨p9, 2, none⟩ = some (.int .u64 (w2 (e1) : Nat)) := by rw [cell_of_row _ _ _ _ _ _ hD9]; rfl); (replace cD93 : World.cell? W ⟨p9, 3, none⟩ = some (.int .u64 (w3 (e1) : Nat)) := by rw [cell_of_row _ _ _ _ _ _ hD9]; rfl); clear hb) | (go_at_call 33; refine (subG_any (by first | exact W4.mk' hla.out | exact W4.mk' hlb.out | exact W4.mk' hlc.out | exact W4.mk' HM.out | exact W4.mk' Ga1.out | exact W4.mk' Gb1.out | exact W4.mk' Gc1.out | exact W4.mk' Gd0.out | exact W4.mk' Gd1.out | exact W4.mk' Ge1.out | exact W4.mk' Gx1.out | exact W4.mk' Gc2.out | exact W4.mk' Gc3.out | exact W4.mk' Gc4.out | exact W4.mk' Gy1.out | exact W4.mk' Gz1.out | exact W4.mk' (Nat.lt_trans (Nat.mod_lt _ hpos) HM.out) | exact W4.small (n := 1) rfl (by decide) | exact W4.small (n := 2) rfl (by decide) | exact W4.small (n := 3) rfl (by decide) | exact W4.small (n := 4) rfl (by decide) | exact W4.small (n := 5) rfl (by decide) | exact W4.small (n := 7) rfl (by decide)) (by first | exact W4.mk' hla.out | exact W4.mk' hlb.out | exact W4.mk' hlc.out | exact W4.mk' HM.out | exact W4.mk' Ga1.out | exact W4.mk' Gb1.out | exact W4.mk' Gc1.out | exact W4.mk' Gd0.out | exact W4.mk' Gd1.out | exact W4.mk' Ge1.out | exact W4.mk' Gx1.out | exact W4.mk' Gc2.out | exact W4.mk' Gc3.out | exact W4.mk' Gc4.out | exact W4.mk' Gy1.out | exact W4.mk' Gz1.out | exact W4.mk' (Nat.lt_trans (Nat.mod_lt _ hpos) HM.out) | exact W4.small (n := 1) rfl (by decide) | exact W4.small (n := 2) rfl (by decide) | exact W4.small (n := 3) rfl (by decide) | exact W4.small (n := 4) rfl (by decide) | exact W4.small (n := 5) rfl (by decide) | exact W4.small (n := 7) rfl (by decide)) _ (show IsF _ (g) (m) from (by first | exact fF | exact ⟨fF.blk, fF.odd, fF.three, fF.lt⟩ | exact ⟨ak fF.blk, fF.odd, fF.three, fF.lt⟩ | exact ⟨ak (ak fF.blk), fF.odd, fF.three, fF.lt⟩))).mono ?_; rintro e W ⟨rfl, hb⟩; (replace hA := below_get hb (show _ = some (.cells #[.int .u64 (w0 (x) : Nat), .int .u64 (w1 (x) : Nat), .int .u64 (w2 (x) : Nat), .int .u64 (w3 (x) : Nat), .int .u64 (w0 (y) : Nat), .int .u64 (w1 (y) : Nat), .int .u64 (w2 (y) : Nat), .int .u64 (w3 (y) : Nat), .int .u64 (w0 (z) : Nat), .int .u64 (w1 (z) : Nat), .int .u64 (w2 (z) : Nat), .int .u64 (w3 (z) : Nat)] 103 (0, 0)) from by first | exact hA | exact ak hA)); (replace hR := below_get hb (show _ = some (.cells #[.int .u64 0, .int .u64 0, .int .u64 0, .int .u64 0, .int .u64 0, .int .u64 0, .int .u64 0, .int .u64 0, .int .u64 0, .int .u64 0, .int .u64 0, .int .u64 0] 103 (0, 0)) from by first | exact hR | exact ak hR)); (replace hD5 := below_get hb (show _ = some (.cells #[.int .u64 (w0 (a1) : Nat), .int .u64 (w1 (a1) : Nat), .int .u64 (w2 (a1) : Nat), .int .u64 (w3 (a1) : Nat)] 24 (0, 0)) from by first | exact hD5 | exact ak hD5)); (replace hD6 := below_get hb (show _ = some (.cells #[.int .u64 (w0 (b1) : Nat), .int .u64 (w1 (b1) : Nat), .int .u64 (w2 (b1) : Nat), .int .u64 (w3 (b1) : Nat)] 24 (0, 0)) from by first | exact hD6 | exact ak hD6)); (replace hD7 := below_get hb (show _ = some (.cells #[.int .u64 (w0 (c1) : Nat), .int .u64 (w1 (c1) : Nat), .int .u64 (w2 (c1) : Nat), .int .u64 (w3 (c1) : Nat)] 24 (0, 0)) from by first | exact hD7 | exact ak hD7)); (replace hD8 := below_get hb (show _ = some (.cells #[.int .u64 (w0 (d1) : Nat), .int .u64 (w1 (d1) : Nat), .int .u64 (w2 (d1) : Nat), .int .u64 (w3 (d1) : Nat)] 24 (0, 0)) from by first | exact hD8 | exact ak hD8)); (replace hD9 := below_get hb (show _ = some (.cells #[.int .u64 (w0 (e1) : Nat), .int .u64 (w1 (e1) : Nat), .int .u64 (w2 (e1) : Nat), .int .u64 (w3 (e1) : Nat)] 24 (0, 0)) from by first | exact hD9 | exact ak hD9)); (replace kk := bcl (by first | exact kk | exact kk.drew | exact bal kk _ | exact (bal kk _).drew) hb); (replace fF := HF.out.keep kk); (replace hQ := fF.blk); (have lA := lt_of_heap hA); (have nA := Nat.ne_of_lt lA); (have mA := nA.symm); (have lR := lt_of_heap hR); (have nR := Nat.ne_of_lt lR); (have mR := nR.symm); (have lD5 := lt_of_heap hD5); (have nD5 := Nat.ne_of_lt lD5); (have mD5 := nD5.symm); (have lD6 := lt_of_heap hD6); (have nD6 := Nat.ne_of_lt lD6); (have mD6 := nD6.symm); (have lD7 := lt_of_heap hD7); (have nD7 := Nat.ne_of_lt lD7); (have mD7 := nD7.symm); (have lD8 := lt_of_heap hD8); (have nD8 := Nat.ne_of_lt lD8); (have mD8 := nD8.symm); (have lD9 := lt_of_heap hD9); (have nD9 := Nat.ne_of_lt lD9); (have mD9 := nD9.symm); (have lF := lt_of_heap hQ); (have nF := Nat.ne_of_lt lF); (have mF := nF.symm); (try (first | (replace hB := below_get hb hB; obtain ⟨cB0, cB1, cB2, cB3, zB0, zB1, zB2, zB3⟩ := zero_cells hB) | (have hB := below_get hb (show _ = some (.cells #[.int .u64 0, .int .u64 0, .int .u64 0, .int .u64 0] 24 (0, 0)) from heap_alloc_new _ _); obtain ⟨cB0, cB1, cB2, cB3, zB0, zB1, zB2, zB3⟩ := zero_cells hB))); (replace cD80 : World.cell? W ⟨p8, 0, none⟩ = some (.int .u64 (w0 (d1) : Nat)) := by rw [cell_of_row _ _ _ _ _ _ hD8]; rfl); (replace cD81 : World.cell? W ⟨p8, 1, none⟩ = some (.int .u64 (w1 (d1) : Nat)) := by rw [cell_of_row _ _ _ _ _ _ hD8]; rfl); (replace cD82 : World.cell? W ⟨p8, 2, none⟩ = some (.int .u64 (w2 (d1) : Nat)) := by rw [cell_of_row _ _ _ _ _ _ hD8]; rfl); (replace cD83 : World.cell? W ⟨p8, 3, none⟩ = some (.int .u64 (w3 (d1) : Nat)) := by rw [cell_of_row _ _ _ _ _ _ hD8]; rfl); (replace cD90 : World.cell? W ⟨p9, 0, none⟩ = some (.int .u64 (w0 (e1) : Nat)) := by rw [cell_of_row _ _ _ _ _ _ hD9]; rfl); (replace cD91 : World.cell? W ⟨p9, 1, none⟩ = some (.int .u64 (w1 (e1) : Nat)) := by rw [cell_of_row _ _ _ _ _ _ hD9]; rfl); (replace cD92 : World.cell? W ⟨p9, 2, none⟩ = some (.int .u64 (w2 (e1) : Nat)) := by rw [cell_of_row _ _ _ _ _ _ hD9]; rfl); (replace cD93 : World.cell? W ⟨p9, 3, none⟩ = some (.int .u64 (w3 (e1) : Nat)) := by rw [cell_of_row _ _ _ _ _ _ hD9]; rfl); clear hb))
        all_goals go_wp2_with fail
        all_goals go_meet
        all_goals have lK := kk.size
        all_goals first | (have P := put4 (.int .u64 (w0 (subf m (mulm m e1 e1) (addf m d1 d1)) : Nat)) (.int .u64 (w1 (subf m (mulm m e1 e1) (addf m d1 d1)) : Nat)) (.int .u64 (w2 (subf m (mulm m e1 e1) (addf m d1 d1)) : Nat)) (.int .u64 (w3 (subf m (mulm m e1 e1) (addf m d1 d1)) : Nat)) hB; exact ⟨_, rfl, P.here, (P.there _ (by omega)).trans hA, (P.there _ (by omega)).trans hR, (P.there _ (by omega)).trans hD5, (P.there _ (by omega)).trans hD6, (P.there _ (by omega)).trans hD7, (P.there _ (by omega)).trans hD8, (P.there _ (by omega)).trans hD9, by omega, by omega, by omega, by omega, by omega, by omega, by omega, by omega, by first | exact P.below (by omega) kk | exact (P.below (by omega) kk).drew⟩) | exact ⟨_, rfl, heap_alloc_new W _, ak (w := W) hA, ak (w := W) hR, ak (w := W) hD5, ak (w := W) hD6, ak (w := W) hD7, ak (w := W) hD8, ak (w := W) hD9, by omega, by omega, by omega, by omega, by omega, by omega, by omega, by omega, by first | exact bal kk _ | exact (bal kk _).drew⟩
      case rest =>
        obtain ⟨p10, rfl, hD10, hA, hR, hD5, hD6, hD7, hD8, hD9, gD10, nD10A, nD10R, nD10D5, nD10D6, nD10D7, nD10D8, nD10D9, kk⟩ := hcut
        replace fF := HF.out.keep kk
        obtain ⟨x1, eqx1⟩ : ∃ n, subf m (mulm m e1 e1) (addf m d1 d1) = n := ⟨_, rfl⟩
        rw [eqx1] at hD10
        have Hx1 := Lib.hid eqx1
        have Gx1 := Lib.hid (show x1 < 2 ^ 256 by rw [← eqx1]; exact Nat.lt_trans (Nat.mod_lt _ hpos) HM.out)
        clear eqx1
        have cD70 : wc.cell? ⟨p7, 0, none⟩ = some (.int .u64 (w0 (c1) : Nat)) := by rw [cell_of_row _ _ _ _ _ _ hD7]; rfl
        have zD70 := frozen_of_row _ _ 0 _ _ hD7
        have cD71 : wc.cell? ⟨p7, 1, none⟩ = some (.int .u64 (w1 (c1) : Nat)) := by rw [cell_of_row _ _ _ _ _ _ hD7]; rfl
        have zD71 := frozen_of_row _ _ 1 _ _ hD7
        have cD72 : wc.cell? ⟨p7, 2, none⟩ = some (.int .u64 (w2 (c1) : Nat)) := by rw [cell_of_row _ _ _ _ _ _ hD7]; rfl
        have zD72 := frozen_of_row _ _ 2 _ _ hD7
        have cD73 : wc.cell? ⟨p7, 3, none⟩ = some (.int .u64 (w3 (c1) : Nat)) := by rw [cell_of_row _ _ _ _ _ _ hD7]; rfl
        have zD73 := frozen_of_row _ _ 3 _ _ hD7
        go_wp2_with fail
        refine (addG_any (W4.mk' Gc1.out) (W4.mk' Gc1.out) _ fF).mono ?_
        rintro e U0 ⟨rfl, hb⟩
        replace hA := below_get hb (show _ = some (.cells #[.int .u64 (w0 (x) : Nat), .int .u64 (w1 (x) : Nat), .int .u64 (w2 (x) : Nat), .int .u64 (w3 (x) : Nat), .int .u64 (w0 (y) : Nat), .int .u64 (w1 (y) : Nat), .int .u64 (w2 (y) : Nat), .int .u64 (w3 (y) : Nat), .int .u64 (w0 (z) : Nat), .int .u64 (w1 (z) : Nat), .int .u64 (w2 (z) : Nat), .int .u64 (w3 (z) : Nat)] 103 (0, 0)) from hA)
        replace hR := below_get hb (show _ = some (.cells #[.int .u64 0, .int .u64 0, .int .u64 0, .int .u64 0, .int .u64 0, .int .u64 0, .int .u64 0, .int .u64 0, .int .u64 0, .int .u64 0, .int .u64 0, .int .u64 0] 103 (0, 0)) from hR)
        replace hD5 := below_get hb (show _ = some (.cells #[.int .u64 (w0 (a1) : Nat), .int .u64 (w1 (a1) : Nat), .int .u64 (w2 (a1) : Nat), .int .u64 (w3 (a1) : Nat)] 24 (0, 0)) from hD5)
        replace hD6 := below_get hb (show _ = some (.cells #[.int .u64 (w0 (b1) : Nat), .int .u64 (w1 (b1) : Nat), .int .u64 (w2 (b1) : Nat), .int .u64 (w3 (b1) : Nat)] 24 (0, 0)) from hD6)
        replace hD7 := below_get hb (show _ = some (.cells #[.int .u64 (w0 (c1) : Nat), .int .u64 (w1 (c1) : Nat), .int .u64 (w2 (c1) : Nat), .int .u64 (w3 (c1) : Nat)] 24 (0, 0)) from hD7)
        replace hD8 := below_get hb (show _ = some (.cells #[.int .u64 (w0 (d1) : Nat), .int .u64 (w1 (d1) : Nat), .int .u64 (w2 (d1) : Nat), .int .u64 (w3 (d1) : Nat)] 24 (0, 0)) from hD8)
        replace hD9 := below_get hb (show _ = some (.cells #[.int .u64 (w0 (e1) : Nat), .int .u64 (w1 (e1) : Nat), .int .u64 (w2 (e1) : Nat), .int .u64 (w3 (e1) : Nat)] 24 (0, 0)) from hD9)
        replace hD10 := below_get hb (show _ = some (.cells #[.int .u64 (w0 (x1) : Nat), .int .u64 (w1 (x1) : Nat), .int .u64 (w2 (x1) : Nat), .int .u64 (w3 (x1) : Nat)] 24 (0, 0)) from hD10)
        replace kk := bcl (by first | exact kk | exact kk.drew | exact below_drewN kk _) hb
        replace fF := HF.out.keep kk
        clear cD70 zD70 cD71 zD71 cD72 zD72 cD73 zD73
        clear hb
        obtain ⟨c2, eqc2⟩ : ∃ n, addf m c1 c1 = n := ⟨_, rfl⟩
        rw [eqc2]
        have Hc2 := Lib.hid eqc2
        have Gc2 := Lib.hid (show c2 < 2 ^ 256 by rw [← eqc2]; exact Nat.lt_trans (Nat.mod_lt _ hpos) HM.out)
        clear eqc2
        have cD70 : U0.cell? ⟨p7, 0, none⟩ = some (.int .u64 (w0 (c1) : Nat)) := by rw [cell_of_row _ _ _ _ _ _ hD7]; rfl
        have zD70 := frozen_of_row _ _ 0 _ _ hD7
        have cD71 : U0.cell? ⟨p7, 1, none⟩ = some (.int .u64 (w1 (c1) : Nat)) := by rw [cell_of_row _ _ _ _ _ _ hD7]; rfl
        have zD71 := frozen_of_row _ _ 1 _ _ hD7
        have cD72 : U0.cell? ⟨p7, 2, none⟩ = some (.int .u64 (w2 (c1) : Nat)) := by rw [cell_of_row _ _ _ _ _ _ hD7]; rfl
        have zD72 := frozen_of_row _ _ 2 _ _ hD7
        have cD73 : U0.cell? ⟨p7, 3, none⟩ = some (.int .u64 (w3 (c1) : Nat)) := by rw [cell_of_row _ _ _ _ _ _ hD7]; rfl
        have zD73 := frozen_of_row _ _ 3 _ _ hD7
        go_upto_region 11 with fail
        have P := put4 (.int .u64 (w0 (c2) : Nat)) (.int .u64 (w1 (c2) : Nat)) (.int .u64 (w2 (c2) : Nat)) (.int .u64 (w3 (c2) : Nat)) hD7
        replace P := put_hid P
        obtain ⟨T0, hW, P⟩ := P
        rw [hW]
        replace hD7 := P.here
        replace hA := (P.there (w.heap.size) (by omega)).trans (show _ = some (.cells #[.int .u64 (w0 (x) : Nat), .int .u64 (w1 (x) : Nat), .int .u64 (w2 (x) : Nat), .int .u64 (w3 (x) : Nat), .int .u64 (w0 (y) : Nat), .int .u64 (w1 (y) : Nat), .int .u64 (w2 (y) : Nat), .int .u64 (w3 (y) : Nat), .int .u64 (w0 (z) : Nat), .int .u64 (w1 (z) : Nat), .int .u64 (w2 (z) : Nat), .int .u64 (w3 (z) : Nat)] 103 (0, 0)) from hA)
        replace hR := (P.there (w.heap.size + 1) (by omega)).trans (show _ = some (.cells #[.int .u64 0, .int .u64 0, .int .u64 0, .int .u64 0, .int .u64 0, .int .u64 0, .int .u64 0, .int .u64 0, .int .u64 0, .int .u64 0, .int .u64 0, .int .u64 0] 103 (0, 0)) from hR)
        replace hD5 := (P.there (p5) (by omega)).trans (show _ = some (.cells #[.int .u64 (w0 (a1) : Nat), .int .u64 (w1 (a1) : Nat), .int .u64 (w2 (a1) : Nat), .int .u64 (w3 (a1) : Nat)] 24 (0, 0)) from hD5)
        replace hD6 := (P.there (p6) (by omega)).trans (show _ = some (.cells #[.int .u64 (w0 (b1) : Nat), .int .u64 (w1 (b1) : Nat), .int .u64 (w2 (b1) : Nat), .int .u64 (w3 (b1) : Nat)] 24 (0, 0)) from hD6)
        replace hD8 := (P.there (p8) (by omega)).trans (show _ = some (.cells #[.int .u64 (w0 (d1) : Nat), .int .u64 (w1 (d1) : Nat), .int .u64 (w2 (d1) : Nat), .int .u64 (w3 (d1) : Nat)] 24 (0, 0)) from hD8)
        replace hD9 := (P.there (p9) (by omega)).trans (show _ = some (.cells #[.int .u64 (w0 (e1) : Nat), .int .u64 (w1 (e1) : Nat), .int .u64 (w2 (e1) : Nat), .int .u64 (w3 (e1) : Nat)] 24 (0, 0)) from hD9)
        replace hD10 := (P.there (p10) (by omega)).trans (show _ = some (.cells #[.int .u64 (w0 (x1) : Nat), .int .u64 (w1 (x1) : Nat), .int .u64 (w2 (x1) : Nat), .int .u64 (w3 (x1) : Nat)] 24 (0, 0)) from hD10)
        replace kk := P.below (by omega) (show Below w.heap.size w U0 from by first | exact kk | exact kk.drew | exact below_drewN kk _)
        replace fF := HF.out.keep kk
        clear cD70 zD70 cD71 zD71 cD72 zD72 cD73 zD73
        clear P hW
        have cD70 : T0.cell? ⟨p7, 0, none⟩ = some (.int .u64 (w0 (c2) : Nat)) := by rw [cell_of_row _ _ _ _ _ _ hD7]; rfl
        have zD70 := frozen_of_row _ _ 0 _ _ hD7
        have cD71 : T0.cell? ⟨p7, 1, none⟩ = some (.int .u64 (w1 (c2) : Nat)) := by rw [cell_of_row _ _ _ _ _ _ hD7]; rfl
        have zD71 := frozen_of_row _ _ 1 _ _ hD7
        have cD72 : T0.cell? ⟨p7, 2, none⟩ = some (.int .u64 (w2 (c2) : Nat)) := by rw [cell_of_row _ _ _ _ _ _ hD7]; rfl
        have zD72 := frozen_of_row _ _ 2 _ _ hD7
        have cD73 : T0.cell? ⟨p7, 3, none⟩ = some (.int .u64 (w3 (c2) : Nat)) := by rw [cell_of_row _ _ _ _ _ _ hD7]; rfl
        have zD73 := frozen_of_row _ _ 3 _ _ hD7
        go_wp2_with fail
        refine (addG_any (W4.mk' Gc2.out) (W4.mk' Gc2.out) _ fF).mono ?_
        rintro e U1 ⟨rfl, hb⟩
        replace hA := below_get hb (show _ = some (.cells #[.int .u64 (w0 (x) : Nat), .int .u64 (w1 (x) : Nat), .int .u64 (w2 (x) : Nat), .int .u64 (w3 (x) : Nat), .int .u64 (w0 (y) : Nat), .int .u64 (w1 (y) : Nat), .int .u64 (w2 (y) : Nat), .int .u64 (w3 (y) : Nat), .int .u64 (w0 (z) : Nat), .int .u64 (w1 (z) : Nat), .int .u64 (w2 (z) : Nat), .int .u64 (w3 (z) : Nat)] 103 (0, 0)) from hA)
        replace hR := below_get hb (show _ = some (.cells #[.int .u64 0, .int .u64 0, .int .u64 0, .int .u64 0, .int .u64 0, .int .u64 0, .int .u64 0, .int .u64 0, .int .u64 0, .int .u64 0, .int .u64 0, .int .u64 0] 103 (0, 0)) from hR)
        replace hD5 := below_get hb (show _ = some (.cells #[.int .u64 (w0 (a1) : Nat), .int .u64 (w1 (a1) : Nat), .int .u64 (w2 (a1) : Nat), .int .u64 (w3 (a1) : Nat)] 24 (0, 0)) from hD5)
        replace hD6 := below_get hb (show _ = some (.cells #[.int .u64 (w0 (b1) : Nat), .int .u64 (w1 (b1) : Nat), .int .u64 (w2 (b1) : Nat), .int .u64 (w3 (b1) : Nat)] 24 (0, 0)) from hD6)
        replace hD7 := below_get hb (show _ = some (.cells #[.int .u64 (w0 (c2) : Nat), .int .u64 (w1 (c2) : Nat), .int .u64 (w2 (c2) : Nat), .int .u64 (w3 (c2) : Nat)] 24 (0, 0)) from hD7)
        replace hD8 := below_get hb (show _ = some (.cells #[.int .u64 (w0 (d1) : Nat), .int .u64 (w1 (d1) : Nat), .int .u64 (w2 (d1) : Nat), .int .u64 (w3 (d1) : Nat)] 24 (0, 0)) from hD8)
        replace hD9 := below_get hb (show _ = some (.cells #[.int .u64 (w0 (e1) : Nat), .int .u64 (w1 (e1) : Nat), .int .u64 (w2 (e1) : Nat), .int .u64 (w3 (e1) : Nat)] 24 (0, 0)) from hD9)
        replace hD10 := below_get hb (show _ = some (.cells #[.int .u64 (w0 (x1) : Nat), .int .u64 (w1 (x1) : Nat), .int .u64 (w2 (x1) : Nat), .int .u64 (w3 (x1) : Nat)] 24 (0, 0)) from hD10)
        replace kk := bcl (by first | exact kk | exact kk.drew | exact below_drewN kk _) hb
        replace fF := HF.out.keep kk
        clear cD70 zD70 cD71 zD71 cD72 zD72 cD73 zD73
        clear hb
        obtain ⟨c3, eqc3⟩ : ∃ n, addf m c2 c2 = n := ⟨_, rfl⟩
        rw [eqc3]
        have Hc3 := Lib.hid eqc3
        have Gc3 := Lib.hid (show c3 < 2 ^ 256 by rw [← eqc3]; exact Nat.lt_trans (Nat.mod_lt _ hpos) HM.out)
        clear eqc3
        have cD70 : U1.cell? ⟨p7, 0, none⟩ = some (.int .u64 (w0 (c2) : Nat)) := by rw [cell_of_row _ _ _ _ _ _ hD7]; rfl
        have zD70 := frozen_of_row _ _ 0 _ _ hD7
        have cD71 : U1.cell? ⟨p7, 1, none⟩ = some (.int .u64 (w1 (c2) : Nat)) := by rw [cell_of_row _ _ _ _ _ _ hD7]; rfl
        have zD71 := frozen_of_row _ _ 1 _ _ hD7
        have cD72 : U1.cell? ⟨p7, 2, none⟩ = some (.int .u64 (w2 (c2) : Nat)) := by rw [cell_of_row _ _ _ _ _ _ hD7]; rfl
        have zD72 := frozen_of_row _ _ 2 _ _ hD7
        have cD73 : U1.cell? ⟨p7, 3, none⟩ = some (.int .u64 (w3 (c2) : Nat)) := by rw [cell_of_row _ _ _ _ _ _ hD7]; rfl
        have zD73 := frozen_of_row _ _ 3 _ _ hD7
        go_upto_region 12 with fail
        have P := put4 (.int .u64 (w0 (c3) : Nat)) (.int .u64 (w1 (c3) : Nat)) (.int .u64 (w2 (c3) : Nat)) (.int .u64 (w3 (c3) : Nat)) hD7
        replace P := put_hid P
        obtain ⟨T1, hW, P⟩ := P
        rw [hW]
        replace hD7 := P.here
        replace hA := (P.there (w.heap.size) (by omega)).trans (show _ = some (.cells #[.int .u64 (w0 (x) : Nat), .int .u64 (w1 (x) : Nat), .int .u64 (w2 (x) : Nat), .int .u64 (w3 (x) : Nat), .int .u64 (w0 (y) : Nat), .int .u64 (w1 (y) : Nat), .int .u64 (w2 (y) : Nat), .int .u64 (w3 (y) : Nat), .int .u64 (w0 (z) : Nat), .int .u64 (w1 (z) : Nat), .int .u64 (w2 (z) : Nat), .int .u64 (w3 (z) : Nat)] 103 (0, 0)) from hA)
        replace hR := (P.there (w.heap.size + 1) (by omega)).trans (show _ = some (.cells #[.int .u64 0, .int .u64 0, .int .u64 0, .int .u64 0, .int .u64 0, .int .u64 0, .int .u64 0, .int .u64 0, .int .u64 0, .int .u64 0, .int .u64 0, .int .u64 0] 103 (0, 0)) from hR)
        replace hD5 := (P.there (p5) (by omega)).trans (show _ = some (.cells #[.int .u64 (w0 (a1) : Nat), .int .u64 (w1 (a1) : Nat), .int .u64 (w2 (a1) : Nat), .int .u64 (w3 (a1) : Nat)] 24 (0, 0)) from hD5)
        replace hD6 := (P.there (p6) (by omega)).trans (show _ = some (.cells #[.int .u64 (w0 (b1) : Nat), .int .u64 (w1 (b1) : Nat), .int .u64 (w2 (b1) : Nat), .int .u64 (w3 (b1) : Nat)] 24 (0, 0)) from hD6)
        replace hD8 := (P.there (p8) (by omega)).trans (show _ = some (.cells #[.int .u64 (w0 (d1) : Nat), .int .u64 (w1 (d1) : Nat), .int .u64 (w2 (d1) : Nat), .int .u64 (w3 (d1) : Nat)] 24 (0, 0)) from hD8)
        replace hD9 := (P.there (p9) (by omega)).trans (show _ = some (.cells #[.int .u64 (w0 (e1) : Nat), .int .u64 (w1 (e1) : Nat), .int .u64 (w2 (e1) : Nat), .int .u64 (w3 (e1) : Nat)] 24 (0, 0)) from hD9)
        replace hD10 := (P.there (p10) (by omega)).trans (show _ = some (.cells #[.int .u64 (w0 (x1) : Nat), .int .u64 (w1 (x1) : Nat), .int .u64 (w2 (x1) : Nat), .int .u64 (w3 (x1) : Nat)] 24 (0, 0)) from hD10)
        replace kk := P.below (by omega) (show Below w.heap.size w U1 from by first | exact kk | exact kk.drew | exact below_drewN kk _)
        replace fF := HF.out.keep kk
        clear cD70 zD70 cD71 zD71 cD72 zD72 cD73 zD73
        clear P hW
        have cD70 : T1.cell? ⟨p7, 0, none⟩ = some (.int .u64 (w0 (c3) : Nat)) := by rw [cell_of_row _ _ _ _ _ _ hD7]; rfl
        have zD70 := frozen_of_row _ _ 0 _ _ hD7
        have cD71 : T1.cell? ⟨p7, 1, none⟩ = some (.int .u64 (w1 (c3) : Nat)) := by rw [cell_of_row _ _ _ _ _ _ hD7]; rfl
        have zD71 := frozen_of_row _ _ 1 _ _ hD7
        have cD72 : T1.cell? ⟨p7, 2, none⟩ = some (.int .u64 (w2 (c3) : Nat)) := by rw [cell_of_row _ _ _ _ _ _ hD7]; rfl
        have zD72 := frozen_of_row _ _ 2 _ _ hD7
        have cD73 : T1.cell? ⟨p7, 3, none⟩ = some (.int .u64 (w3 (c3) : Nat)) := by rw [cell_of_row _ _ _ _ _ _ hD7]; rfl
        have zD73 := frozen_of_row _ _ 3 _ _ hD7
        go_wp2_with fail
        refine (addG_any (W4.mk' Gc3.out) (W4.mk' Gc3.out) _ fF).mono ?_
        rintro e U2 ⟨rfl, hb⟩
        replace hA := below_get hb (show _ = some (.cells #[.int .u64 (w0 (x) : Nat), .int .u64 (w1 (x) : Nat), .int .u64 (w2 (x) : Nat), .int .u64 (w3 (x) : Nat), .int .u64 (w0 (y) : Nat), .int .u64 (w1 (y) : Nat), .int .u64 (w2 (y) : Nat), .int .u64 (w3 (y) : Nat), .int .u64 (w0 (z) : Nat), .int .u64 (w1 (z) : Nat), .int .u64 (w2 (z) : Nat), .int .u64 (w3 (z) : Nat)] 103 (0, 0)) from hA)
        replace hR := below_get hb (show _ = some (.cells #[.int .u64 0, .int .u64 0, .int .u64 0, .int .u64 0, .int .u64 0, .int .u64 0, .int .u64 0, .int .u64 0, .int .u64 0, .int .u64 0, .int .u64 0, .int .u64 0] 103 (0, 0)) from hR)
        replace hD5 := below_get hb (show _ = some (.cells #[.int .u64 (w0 (a1) : Nat), .int .u64 (w1 (a1) : Nat), .int .u64 (w2 (a1) : Nat), .int .u64 (w3 (a1) : Nat)] 24 (0, 0)) from hD5)
        replace hD6 := below_get hb (show _ = some (.cells #[.int .u64 (w0 (b1) : Nat), .int .u64 (w1 (b1) : Nat), .int .u64 (w2 (b1) : Nat), .int .u64 (w3 (b1) : Nat)] 24 (0, 0)) from hD6)
        replace hD7 := below_get hb (show _ = some (.cells #[.int .u64 (w0 (c3) : Nat), .int .u64 (w1 (c3) : Nat), .int .u64 (w2 (c3) : Nat), .int .u64 (w3 (c3) : Nat)] 24 (0, 0)) from hD7)
        replace hD8 := below_get hb (show _ = some (.cells #[.int .u64 (w0 (d1) : Nat), .int .u64 (w1 (d1) : Nat), .int .u64 (w2 (d1) : Nat), .int .u64 (w3 (d1) : Nat)] 24 (0, 0)) from hD8)
        replace hD9 := below_get hb (show _ = some (.cells #[.int .u64 (w0 (e1) : Nat), .int .u64 (w1 (e1) : Nat), .int .u64 (w2 (e1) : Nat), .int .u64 (w3 (e1) : Nat)] 24 (0, 0)) from hD9)
        replace hD10 := below_get hb (show _ = some (.cells #[.int .u64 (w0 (x1) : Nat), .int .u64 (w1 (x1) : Nat), .int .u64 (w2 (x1) : Nat), .int .u64 (w3 (x1) : Nat)] 24 (0, 0)) from hD10)
        replace kk := bcl (by first | exact kk | exact kk.drew | exact below_drewN kk _) hb
        replace fF := HF.out.keep kk
        clear cD70 zD70 cD71 zD71 cD72 zD72 cD73 zD73
        clear hb
        obtain ⟨c4, eqc4⟩ : ∃ n, addf m c3 c3 = n := ⟨_, rfl⟩
        rw [eqc4]
        have Hc4 := Lib.hid eqc4
        have Gc4 := Lib.hid (show c4 < 2 ^ 256 by rw [← eqc4]; exact Nat.lt_trans (Nat.mod_lt _ hpos) HM.out)
        clear eqc4
        have cD70 : U2.cell? ⟨p7, 0, none⟩ = some (.int .u64 (w0 (c3) : Nat)) := by rw [cell_of_row _ _ _ _ _ _ hD7]; rfl
        have zD70 := frozen_of_row _ _ 0 _ _ hD7
        have cD71 : U2.cell? ⟨p7, 1, none⟩ = some (.int .u64 (w1 (c3) : Nat)) := by rw [cell_of_row _ _ _ _ _ _ hD7]; rfl
        have zD71 := frozen_of_row _ _ 1 _ _ hD7
        have cD72 : U2.cell? ⟨p7, 2, none⟩ = some (.int .u64 (w2 (c3) : Nat)) := by rw [cell_of_row _ _ _ _ _ _ hD7]; rfl
        have zD72 := frozen_of_row _ _ 2 _ _ hD7
        have cD73 : U2.cell? ⟨p7, 3, none⟩ = some (.int .u64 (w3 (c3) : Nat)) := by rw [cell_of_row _ _ _ _ _ _ hD7]; rfl
        have zD73 := frozen_of_row _ _ 3 _ _ hD7
        go_upto_region 13 with fail
        have P := put4 (.int .u64 (w0 (c4) : Nat)) (.int .u64 (w1 (c4) : Nat)) (.int .u64 (w2 (c4) : Nat)) (.int .u64 (w3 (c4) : Nat)) hD7
        replace P := put_hid P
        obtain ⟨T2, hW, P⟩ := P
        rw [hW]
        replace hD7 := P.here
        replace hA := (P.there (w.heap.size) (by omega)).trans (show _ = some (.cells #[.int .u64 (w0 (x) : Nat), .int .u64 (w1 (x) : Nat), .int .u64 (w2 (x) : Nat), .int .u64 (w3 (x) : Nat), .int .u64 (w0 (y) : Nat), .int .u64 (w1 (y) : Nat), .int .u64 (w2 (y) : Nat), .int .u64 (w3 (y) : Nat), .int .u64 (w0 (z) : Nat), .int .u64 (w1 (z) : Nat), .int .u64 (w2 (z) : Nat), .int .u64 (w3 (z) : Nat)] 103 (0, 0)) from hA)
        replace hR := (P.there (w.heap.size + 1) (by omega)).trans (show _ = some (.cells #[.int .u64 0, .int .u64 0, .int .u64 0, .int .u64 0, .int .u64 0, .int .u64 0, .int .u64 0, .int .u64 0, .int .u64 0, .int .u64 0, .int .u64 0, .int .u64 0] 103 (0, 0)) from hR)
        replace hD5 := (P.there (p5) (by omega)).trans (show _ = some (.cells #[.int .u64 (w0 (a1) : Nat), .int .u64 (w1 (a1) : Nat), .int .u64 (w2 (a1) : Nat), .int .u64 (w3 (a1) : Nat)] 24 (0, 0)) from hD5)
        replace hD6 := (P.there (p6) (by omega)).trans (show _ = some (.cells #[.int .u64 (w0 (b1) : Nat), .int .u64 (w1 (b1) : Nat), .int .u64 (w2 (b1) : Nat), .int .u64 (w3 (b1) : Nat)] 24 (0, 0)) from hD6)
        replace hD8 := (P.there (p8) (by omega)).trans (show _ = some (.cells #[.int .u64 (w0 (d1) : Nat), .int .u64 (w1 (d1) : Nat), .int .u64 (w2 (d1) : Nat), .int .u64 (w3 (d1) : Nat)] 24 (0, 0)) from hD8)
        replace hD9 := (P.there (p9) (by omega)).trans (show _ = some (.cells #[.int .u64 (w0 (e1) : Nat), .int .u64 (w1 (e1) : Nat), .int .u64 (w2 (e1) : Nat), .int .u64 (w3 (e1) : Nat)] 24 (0, 0)) from hD9)
        replace hD10 := (P.there (p10) (by omega)).trans (show _ = some (.cells #[.int .u64 (w0 (x1) : Nat), .int .u64 (w1 (x1) : Nat), .int .u64 (w2 (x1) : Nat), .int .u64 (w3 (x1) : Nat)] 24 (0, 0)) from hD10)
        replace kk := P.below (by omega) (show Below w.heap.size w U2 from by first | exact kk | exact kk.drew | exact below_drewN kk _)
        replace fF := HF.out.keep kk
        clear cD70 zD70 cD71 zD71 cD72 zD72 cD73 zD73
        clear P hW
        go_upto_region 13 with fail
        go_cut [11] (fun s11 wx => ∃ bx : Nat, s11 = .pointer (some ⟨bx, 0, none⟩) ∧ wx.heap[bx]? = some (.cells #[.int .u64 (w0 (subf m (mulm m e1 (subf m d1 x1)) c4) : Nat), .int .u64 (w1 (subf m (mulm m e1 (subf m d1 x1)) c4) : Nat), .int .u64 (w2 (subf m (mulm m e1 (subf m d1 x1)) c4) : Nat), .int .u64 (w3 (subf m (mulm m e1 (subf m d1 x1)) c4) : Nat)] 24 (0, 0)) ∧ wx.heap[w.heap.size]? = some (.cells #[.int .u64 (w0 (x) : Nat), .int .u64 (w1 (x) : Nat), .int .u64 (w2 (x) : Nat), .int .u64 (w3 (x) : Nat), .int .u64 (w0 (y) : Nat), .int .u64 (w1 (y) : Nat), .int .u64 (w2 (y) : Nat), .int .u64 (w3 (y) : Nat), .int .u64 (w0 (z) : Nat), .int .u64 (w1 (z) : Nat), .int .u64 (w2 (z) : Nat), .int .u64 (w3 (z) : Nat)] 103 (0, 0)) ∧ wx.heap[w.heap.size + 1]? = some (.cells #[.int .u64 0, .int .u64 0, .int .u64 0, .int .u64 0, .int .u64 0, .int .u64 0, .int .u64 0, .int .u64 0, .int .u64 0, .int .u64 0, .int .u64 0, .int .u64 0] 103 (0, 0)) ∧ wx.heap[p5]? = some (.cells #[.int .u64 (w0 (a1) : Nat), .int .u64 (w1 (a1) : Nat), .int .u64 (w2 (a1) : Nat), .int .u64 (w3 (a1) : Nat)] 24 (0, 0)) ∧ wx.heap[p6]? = some (.cells #[.int .u64 (w0 (b1) : Nat), .int .u64 (w1 (b1) : Nat), .int .u64 (w2 (b1) : Nat), .int .u64 (w3 (b1) : Nat)] 24 (0, 0)) ∧ wx.heap[p7]? = some (.cells #[.int .u64 (w0 (c4) : Nat), .int .u64 (w1 (c4) : Nat), .int .u64 (w2 (c4) : Nat), .int .u64 (w3 (c4) : Nat)] 24 (0, 0)) ∧ wx.heap[p8]? = some (.cells #[.int .u64 (w0 (d1) : Nat), .int .u64 (w1 (d1) : Nat), .int .u64 (w2 (d1) : Nat), .int .u64 (w3 (d1) : Nat)] 24 (0, 0)) ∧ wx.heap[p9]? = some (.cells #[.int .u64 (w0 (e1) : Nat), .int .u64 (w1 (e1) : Nat), .int .u64 (w2 (e1) : Nat), .int .u64 (w3 (e1) : Nat)] 24 (0, 0)) ∧ wx.heap[p10]? = some (.cells #[.int .u64 (w0 (x1) : Nat), .int .u64 (w1 (x1) : Nat), .int .u64 (w2 (x1) : Nat), .int .u64 (w3 (x1) : Nat)] 24 (0, 0)) ∧ bx ≥ w.heap.size ∧ (w.heap.size) ≠ bx ∧ (w.heap.size + 1) ≠ bx ∧ (p5) ≠ bx ∧ (p6) ≠ bx ∧ (p7) ≠ bx ∧ (p8) ≠ bx ∧ (p9) ≠ bx ∧ (p10) ≠ bx ∧ Below w.heap.size w wx)
        case first =>
          have hQ := fF.blk
          have lF := lt_of_heap hQ
          have nF := Nat.ne_of_lt lF
          have mF := nF.symm
          have lK := kk.size
          have lA := lt_of_heap hA
          have nA := Nat.ne_of_lt lA
          have mA := nA.symm
          have lR := lt_of_heap hR
          have nR := Nat.ne_of_lt lR
          have mR := nR.symm
          have lD5 := lt_of_heap hD5
          have nD5 := Nat.ne_of_lt lD5
          have mD5 := nD5.symm
          have lD6 := lt_of_heap hD6
          have nD6 := Nat.ne_of_lt lD6
          have mD6 := nD6.symm
          have lD7 := lt_of_heap hD7
          have nD7 := Nat.ne_of_lt lD7
          have mD7 := nD7.symm
          have lD8 := lt_of_heap hD8
          have nD8 := Nat.ne_of_lt lD8
          have mD8 := nD8.symm
          have lD9 := lt_of_heap hD9
          have nD9 := Nat.ne_of_lt lD9
          have mD9 := nD9.symm
          have lD10 := lt_of_heap hD10
          have nD10 := Nat.ne_of_lt lD10
          have mD10 := nD10.symm
          have cD70 : World.cell? T2 ⟨p7, 0, none⟩ = some (.int .u64 (w0 (c4) : Nat)) := by rw [cell_of_row _ _ _ _ _ _ hD7]; rfl
          have cD71 : World.cell? T2 ⟨p7, 1, none⟩ = some (.int .u64 (w1 (c4) : Nat)) := by rw [cell_of_row _ _ _ _ _ _ hD7]; rfl
          have cD72 : World.cell? T2 ⟨p7, 2, none⟩ = some (.int .u64 (w2 (c4) : Nat)) := by rw [cell_of_row _ _ _ _ _ _ hD7]; rfl
          have cD73 : World.cell? T2 ⟨p7, 3, none⟩ = some (.int .u64 (w3 (c4) : Nat)) := by rw [cell_of_row _ _ _ _ _ _ hD7]; rfl
          have cD80 : World.cell? T2 ⟨p8, 0, none⟩ = some (.int .u64 (w0 (d1) : Nat)) := by rw [cell_of_row _ _ _ _ _ _ hD8]; rfl
          have cD81 : World.cell? T2 ⟨p8, 1, none⟩ = some (.int .u64 (w1 (d1) : Nat)) := by rw [cell_of_row _ _ _ _ _ _ hD8]; rfl
          have cD82 : World.cell? T2 ⟨p8, 2, none⟩ = some (.int .u64 (w2 (d1) : Nat)) := by rw [cell_of_row _ _ _ _ _ _ hD8]; rfl
          have cD83 : World.cell? T2 ⟨p8, 3, none⟩ = some (.int .u64 (w3 (d1) : Nat)) := by rw [cell_of_row _ _ _ _ _ _ hD8]; rfl
          have cD90 : World.cell? T2 ⟨p9, 0, none⟩ = some (.int .u64 (w0 (e1) : Nat)) := by rw [cell_of_row _ _ _ _ _ _ hD9]; rfl
          have cD91 : World.cell? T2 ⟨p9, 1, none⟩ = some (.int .u64 (w1 (e1) : Nat)) := by rw [cell_of_row _ _ _ _ _ _ hD9]; rfl
          have cD92 : World.cell? T2 ⟨p9, 2, none⟩ = some (.int .u64 (w2 (e1) : Nat)) := by rw [cell_of_row _ _ _ _ _ _ hD9]; rfl
          have cD93 : World.cell? T2 ⟨p9, 3, none⟩ = some (.int .u64 (w3 (e1) : Nat)) := by rw [cell_of_row _ _ _ _ _ _ hD9]; rfl
          have cD100 : World.cell? T2 ⟨p10, 0, none⟩ = some (.int .u64 (w0 (x1) : Nat)) := by rw [cell_of_row _ _ _ _ _ _ hD10]; rfl
          have cD101 : World.cell? T2 ⟨p10, 1, none⟩ = some (.int .u64 (w1 (x1) : Nat)) := by rw [cell_of_row _ _ _ _ _ _ hD10]; rfl
          have cD102 : World.cell? T2 ⟨p10, 2, none⟩ = some (.int .u64 (w2 (x1) : Nat)) := by rw [cell_of_row _ _ _ _ _ _ hD10]; rfl
          have cD103 : World.cell? T2 ⟨p10, 3, none⟩ = some (.int .u64 (w3 (x1) : Nat)) := by rw [cell_of_row _ _ _ _ _ _ hD10]; rfl
          go_region_held3 (fun w' => w'.cell? ⟨p7, 0, none⟩ = some (.int .u64 (w0 (c4) : Nat)) ∧ w'.cell? ⟨p7, 1, none⟩ = some (.int .u64 (w1 (c4) : Nat)) ∧ w'.cell? ⟨p7, 2, none⟩ = some (.int .u64 (w2 (c4) : Nat)) ∧ w'.cell? ⟨p7, 3, none⟩ = some (.int .u64 (w3 (c4) : Nat)) ∧ w'.cell? ⟨p8, 0, none⟩ = some (.int .u64 (w0 (d1) : Nat)) ∧ w'.cell? ⟨p8, 1, none⟩ = some (.int .u64 (w1 (d1) : Nat)) ∧ w'.cell? ⟨p8, 2, none⟩ = some (.int .u64 (w2 (d1) : Nat)) ∧ w'.cell? ⟨p8, 3, none⟩ = some (.int .u64 (w3 (d1) : Nat)) ∧ w'.cell? ⟨p9, 0, none⟩ = some (.int .u64 (w0 (e1) : Nat)) ∧ w'.cell? ⟨p9, 1, none⟩ = some (.int .u64 (w1 (e1) : Nat)) ∧ w'.cell? ⟨p9, 2, none⟩ = some (.int .u64 (w2 (e1) : Nat)) ∧ w'.cell? ⟨p9, 3, none⟩ = some (.int .u64 (w3 (e1) : Nat)) ∧ w'.cell? ⟨p10, 0, none⟩ = some (.int .u64 (w0 (x1) : Nat)) ∧ w'.cell? ⟨p10, 1, none⟩ = some (.int .u64 (w1 (x1) : Nat)) ∧ w'.cell? ⟨p10, 2, none⟩ = some (.int .u64 (w2 (x1) : Nat)) ∧ w'.cell? ⟨p10, 3, none⟩ = some (.int .u64 (w3 (x1) : Nat))) (first | (with_reducible exact ⟨cD70, cD71, cD72, cD73, cD80, cD81, cD82, cD83, cD90, cD91, cD92, cD93, cD100, cD101, cD102, cD103⟩) | go_keep) (first | (go_at_call 26; refine (mulG_any (by first | exact W4.mk' hla.out | exact W4.mk' hlb.out | exact W4.mk' hlc.out | exact W4.mk' HM.out | exact W4.mk' Ga1.out | exact W4.mk' Gb1.out | exact W4.mk' Gc1.out | exact W4.mk' Gd0.out | exact W4.mk' Gd1.out | exact W4.mk' Ge1.out | exact W4.mk' Gx1.out | exact W4.mk' Gc2.out | exact W4.mk' Gc3.out | exact W4.mk' Gc4.out | exact W4.mk' Gy1.out | exact W4.mk' Gz1.out | exact W4.mk' (Nat.lt_trans (Nat.mod_lt _ hpos) HM.out) | exact W4.small (n := 1) rfl (by decide) | exact W4.small (n := 2) rfl (by decide) | exact W4.small (n := 3) rfl (by decide) | exact W4.small (n := 4) rfl (by decide) | exact W4.small (n := 5) rfl (by decide) | exact W4.small (n := 7) rfl (by decide)) (by first | exact W4.mk' hla.out | exact W4.mk' hlb.out | exact W4.mk' hlc.out | exact W4.mk' HM.out | exact W4.mk' Ga1.out | exact W4.mk' Gb1.out | exact W4.mk' Gc1.out | exact W4.mk' Gd0.out | exact W4.mk' Gd1.out | exact W4.mk' Ge1.out | exact W4.mk' Gx1.out | exact W4.mk' Gc2.out | exact W4.mk' Gc3.out | exact W4.mk' Gc4.out | exact W4.mk' Gy1.out | exact W4.mk' Gz1.out | exact W4.mk' (Nat.lt_trans (Nat.mod_lt _ hpos) HM.out) | exact W4.small (n := 1) rfl (by decide) | exact W4.small (n := 2) rfl (by decide) | exact W4.small (n := 3) rfl (by decide) | exact W4.small (n := 4) rfl (by decide) | exact W4.small (n := 5) rfl (by decide) | exact W4.small (n := 7) rfl (by decide)) _ (show IsF _ (g) (m) from (by first | exact fF | exact ⟨fF.blk, fF.odd, fF.three, fF.lt⟩ | exact ⟨ak fF.blk, fF.odd, fF.three, fF.lt⟩ | exact ⟨ak (ak fF.blk), fF.odd, fF.three, fF.lt⟩))).mono ?_; rintro e W ⟨rfl, hb⟩; (replace hA := below_get hb (show _ = some (.cells #[.int .u64 (w0 (x) : Nat), .int .u64 (w1 (x) : Nat), .int .u64 (w2 (x) : Nat), .int .u64 (w3 (x) : Nat), .int .u64 (w0 (y) : Nat), .int .u64 (w1 (y) : Nat), .int .u64 (w2 (y) : Nat), .int .u64 (w3 (y) : Nat), .int .u64 (w0 (z) : Nat), .int .u64 (w1 (z) : Nat), .int .u64 (w2 (z) : Nat), .int .u64 (w3 (z) : Nat)] 103 (0, 0)) from by first | exact hA | exact ak hA)); (replace hR := below_get hb (show _ = some (.cells #[.int .u64 0, .int .u64 0, .int .u64 0, .int .u64 0, .int .u64 0, .int .u64 0, .int .u64 0, .int .u64 0, .int .u64 0, .int .u64 0, .int .u64 0, .int .u64 0] 103 (0, 0)) from by first | exact hR | exact ak hR)); (replace hD5 := below_get hb (show _ = some (.cells #[.int .u64 (w0 (a1) : Nat), .int .u64 (w1 (a1) : Nat), .int .u64 (w2 (a1) : Nat), .int .u64 (w3 (a1) : Nat)] 24 (0, 0)) from by first | exact hD5 | exact ak hD5)); (replace hD6 := below_get hb (show _ = some (.cells #[.int .u64 (w0 (b1) : Nat), .int .u64 (w1 (b1) : Nat), .int .u64 (w2 (b1) : Nat), .int .u64 (w3 (b1) : Nat)] 24 (0, 0)) from by first | exact hD6 | exact ak hD6)); (replace hD7 := below_get hb (show _ = some (.cells #[.int .u64 (w0 (c4) : Nat), .int .u64 (w1 (c4) : Nat), .int .u64 (w2 (c4) : Nat), .int .u64 (w3 (c4) : Nat)] 24 (0, 0)) from by first | exact hD7 | exact ak hD7)); (replace hD8 := below_get hb (show _ = some (.cells #[.int .u64 (w0 (d1) : Nat), .int .u64 (w1 (d1) : Nat), .int .u64 (w2 (d1) : Nat), .int .u64 (w3 (d1) : Nat)] 24 (0, 0)) from by first | exact hD8 | exact ak hD8)); (replace hD9 := below_get hb (show _ = some (.cells #[.int .u64 (w0 (e1) : Nat), .int .u64 (w1 (e1) : Nat), .int .u64 (w2 (e1) : Nat), .int .u64 (w3 (e1) : Nat)] 24 (0, 0)) from by first | exact hD9 | exact ak hD9)); (replace hD10 := below_get hb (show _ = some (.cells #[.int .u64 (w0 (x1) : Nat), .int .u64 (w1 (x1) : Nat), .int .u64 (w2 (x1) : Nat), .int .u64 (w3 (x1) : Nat)] 24 (0, 0)) from by first | exact hD10 | exact ak hD10)); (replace kk := bcl (by first | exact kk | exact kk.drew | exact bal kk _ | exact (bal kk _).drew) hb); (replace fF := HF.out.keep kk); (replace hQ := fF.blk); (have lA := lt_of_heap hA); (have nA := Nat.ne_of_lt lA); (have mA := nA.symm); (have lR := lt_of_heap hR); (have nR := Nat.ne_of_lt lR); (have mR := nR.symm); (have lD5 := lt_of_heap hD5); (have nD5 := Nat.ne_of_lt lD5); (have mD5 := nD5.symm); (have lD6 := lt_of_heap hD6); (have nD6 := Nat.ne_of_lt lD6); (have mD6 := nD6.symm); (have lD7 := lt_of_heap hD7); (have nD7 := Nat.ne_of_lt lD7); (have mD7 := nD7.symm); (have lD8 := lt_of_heap hD8); (have nD8 := Nat.ne_of_lt lD8); (have mD8 := nD8.symm); (have lD9 := lt_of_heap hD9); (have nD9 := Nat.ne_of_lt lD9); (have mD9 := nD9.symm); (have lD10 := lt_of_heap hD10); (have nD10 := Nat.ne_of_lt lD10); (have mD10 := nD10.symm); (have lF := lt_of_heap hQ); (have nF := Nat.ne_of_lt lF); (have mF := nF.symm); (try (first | (replace hB := below_get hb hB; obtain ⟨cB0, cB1, cB2, cB3, zB0, zB1, zB2, zB3⟩ := zero_cells hB) | (have hB := below_get hb (show _ = some (.cells #[.int .u64 0, .int .u64 0, .int .u64 0, .int .u64 0] 24 (0, 0)) from heap_alloc_new _ _); obtain ⟨cB0, cB1, cB2, cB3, zB0, zB1, zB2, zB3⟩ := zero_cells hB))); (replace cD70 : World.cell? W ⟨p7, 0, none⟩ = some (.int .u64 (w0 (c4) : Nat)) := by rw [cell_of_row _ _ _ _ _ _ hD7]; rfl); (replace cD71 : World.cell? W ⟨p7, 1, none⟩ = some (.int .u64 (w1 (c4) : Nat)) := by rw [cell_of_row _ _ _ _ _ _ hD7]; rfl); (replace cD72 : World.cell? W ⟨p7, 2, none⟩ = some (.int .u64 (w2 (c4) : Nat)) := by rw [cell_of_row _ _ _ _ _ _ hD7]; rfl); (replace cD73 : World.cell? W ⟨p7, 3, none⟩ = some (.int .u64 (w3 (c4) : Nat)) := by rw [cell_of_row _ _ _ _ _ _ hD7]; rfl); (replace cD80 : World.cell? W ⟨p8, 0, none⟩ = some (.int .u64 (w0 (d1) : Nat)) := by rw [cell_of_row _ _ _ _ _ _ hD8]; rfl); (replace cD81 : World.cell? W ⟨p8, 1, none⟩ = some (.int .u64 (w1 (d1) : Nat)) := by rw [cell_of_row _ _ _ _ _ _ hD8]; rfl); (replace cD82 : World.cell? W ⟨p8, 2, none⟩ = some (.int .u64 (w2 (d1) : Nat)) := by rw [cell_of_row _ _ _ _ _ _ hD8]; rfl); (replace cD83 : World.cell? W ⟨p8, 3, none⟩ = some (.int .u64 (w3 (d1) : Nat)) := by rw [cell_of_row _ _ _ _ _ _ hD8]; rfl); (replace cD90 : World.cell? W ⟨p9, 0, none⟩ = some (.int .u64 (w0 (e1) : Nat)) := by rw [cell_of_row _ _ _ _ _ _ hD9]; rfl); (replace cD91 : World.cell? W ⟨p9, 1, none⟩ = some (.int .u64 (w1 (e1) : Nat)) := by rw [cell_of_row _ _ _ _ _ _ hD9]; rfl); (replace cD92 : World.cell? W ⟨p9, 2, none⟩ = some (.int .u64 (w2 (e1) : Nat)) := by rw [cell_of_row _ _ _ _ _ _ hD9]; rfl); (replace cD93 : World.cell? W ⟨p9, 3, none⟩ = some (.int .u64 (w3 (e1) : Nat)) := by rw [cell_of_row _ _ _ _ _ _ hD9]; rfl); (replace cD100 : World.cell? W ⟨p10, 0, none⟩ = some (.int .u64 (w0 (x1) : Nat)) := by rw [cell_of_row _ _ _ _ _ _ hD10]; rfl); (replace cD101 : World.cell? W ⟨p10, 1, none⟩ = some (.int .u64 (w1 (x1) : Nat)) := by rw [cell_of_row _ _ _ _ _ _ hD10]; rfl); (replace cD102 : World.cell? W ⟨p10, 2, none⟩ = some (.int .u64 (w2 (x1) : Nat)) := by rw [cell_of_row _ _ _ _ _ _ hD10]; rfl); (replace cD103 : World.cell? W ⟨p10, 3, none⟩ = some (.int .u64 (w3 (x1) : Nat)) := by rw [cell_of_row _ _ _ _ _ _ hD10]; rfl); clear hb) | (go_at_call 32; refine (addG_any (by first | exact W4.mk' hla.out | exact W4.mk' hlb.out | exact W4.mk' hlc.out | exact W4.mk' HM.out | exact W4.mk' Ga1.out | exact W4.mk' Gb1.out | exact W4.mk' Gc1.out | exact W4.mk' Gd0.out | exact W4.mk' Gd1.out | exact W4.mk' Ge1.out | exact W4.mk' Gx1.out | exact W4.mk' Gc2.out | exact W4.mk' Gc3.out | exact W4.mk' Gc4.out | exact W4.mk' Gy1.out | exact W4.mk' Gz1.out | exact W4.mk' (Nat.lt_trans (Nat.mod_lt _ hpos) HM.out) | exact W4.small (n := 1) rfl (by decide) | exact W4.small (n := 2) rfl (by decide) | exact W4.small (n := 3) rfl (by decide) | exact W4.small (n := 4) rfl (by decide) | exact W4.small (n := 5) rfl (by decide) | exact W4.small (n := 7) rfl (by decide)) (by first | exact W4.mk' hla.out | exact W4.mk' hlb.out | exact W4.mk' hlc.out | exact W4.mk' HM.out | exact W4.mk' Ga1.out | exact W4.mk' Gb1.out | exact W4.mk' Gc1.out | exact W4.mk' Gd0.out | exact W4.mk' Gd1.out | exact W4.mk' Ge1.out | exact W4.mk' Gx1.out | exact W4.mk' Gc2.out | exact W4.mk' Gc3.out | exact W4.mk' Gc4.out | exact W4.mk' Gy1.out | exact W4.mk' Gz1.out | exact W4.mk' (Nat.lt_trans (Nat.mod_lt _ hpos) HM.out) | exact W4.small (n := 1) rfl (by decide) | exact W4.small (n := 2) rfl (by decide) | exact W4.small (n := 3) rfl (by decide) | exact W4.small (n := 4) rfl (by decide) | exact W4.small (n := 5) rfl (by decide) | exact W4.small (n := 7) rfl (by decide)) _ (show IsF _ (g) (m) from (by first | exact fF | exact ⟨fF.blk, fF.odd, fF.three, fF.lt⟩ | exact ⟨ak fF.blk, fF.odd, fF.three, fF.lt⟩ | exact ⟨ak (ak fF.blk), fF.odd, fF.three, fF.lt⟩))).mono ?_; rintro e W ⟨rfl, hb⟩; (replace hA := below_get hb (show _ = some (.cells #[.int .u64 (w0 (x) : Nat), .int .u64 (w1 (x) : Nat), .int .u64 (w2 (x) : Nat), .int .u64 (w3 (x) : Nat), .int .u64 (w0 (y) : Nat), .int .u64 (w1 (y) : Nat), .int .u64 (w2 (y) : Nat), .int .u64 (w3 (y) : Nat), .int .u64 (w0 (z) : Nat), .int .u64 (w1 (z) : Nat), .int .u64 (w2 (z) : Nat), .int .u64 (w3 (z) : Nat)] 103 (0, 0)) from by first | exact hA | exact ak hA)); (replace hR := below_get hb (show _ = some (.cells #[.int .u64 0, .int .u64 0, .int .u64 0, .int .u64 0, .int .u64 0, .int .u64 0, .int .u64 0, .int .u64 0, .int .u64 0, .int .u64 0, .int .u64 0, .int .u64 0] 103 (0, 0)) from by first | exact hR | exact ak hR)); (replace hD5 := below_get hb (show _ = some (.cells #[.int .u64 (w0 (a1) : Nat), .int .u64 (w1 (a1) : Nat), .int .u64 (w2 (a1) : Nat), .int .u64 (w3 (a1) : Nat)] 24 (0, 0)) from by first | exact hD5 | exact ak hD5)); (replace hD6 := below_get hb (show _ = some (.cells #[.int .u64 (w0 (b1) : Nat), .int .u64 (w1 (b1) : Nat), .int .u64 (w2 (b1) : Nat), .int .u64 (w3 (b1) : Nat)] 24 (0, 0)) from by first | exact hD6 | exact ak hD6)); (replace hD7 := below_get hb (show _ = some (.cells #[.int .u64 (w0 (c4) : Nat), .int .u64 (w1 (c4) : Nat), .int .u64 (w2 (c4) : Nat), .int .u64 (w3 (c4) : Nat)] 24 (0, 0)) from by first | exact hD7 | exact ak hD7)); (replace hD8 := below_get hb (show _ = some (.cells #[.int .u64 (w0 (d1) : Nat), .int .u64 (w1 (d1) : Nat), .int .u64 (w2 (d1) : Nat), .int .u64 (w3 (d1) : Nat)] 24 (0, 0)) from by first | exact hD8 | exact ak hD8)); (replace hD9 := below_get hb (show _ = some (.cells #[.int .u64 (w0 (e1) : Nat), .int .u64 (w1 (e1) : Nat), .int .u64 (w2 (e1) : Nat), .int .u64 (w3 (e1) : Nat)] 24 (0, 0)) from by first | exact hD9 | exact ak hD9)); (replace hD10 := below_get hb (show _ = some (.cells #[.int .u64 (w0 (x1) : Nat), .int .u64 (w1 (x1) : Nat), .int .u64 (w2 (x1) : Nat), .int .u64 (w3 (x1) : Nat)] 24 (0, 0)) from by first | exact hD10 | exact ak hD10)); (replace kk := bcl (by first | exact kk | exact kk.drew | exact bal kk _ | exact (bal kk _).drew) hb); (replace fF := HF.out.keep kk); (replace hQ := fF.blk); (have lA := lt_of_heap hA); (have nA := Nat.ne_of_lt lA); (have mA := nA.symm); (have lR := lt_of_heap hR); (have nR := Nat.ne_of_lt lR); (have mR := nR.symm); (have lD5 := lt_of_heap hD5); (have nD5 := Nat.ne_of_lt lD5); (have mD5 := nD5.symm); (have lD6 := lt_of_heap hD6); (have nD6 := Nat.ne_of_lt lD6); (have mD6 := nD6.symm); (have lD7 := lt_of_heap hD7); (have nD7 := Nat.ne_of_lt lD7); (have mD7 := nD7.symm); (have lD8 := lt_of_heap hD8); (have nD8 := Nat.ne_of_lt lD8); (have mD8 := nD8.symm); (have lD9 := lt_of_heap hD9); (have nD9 := Nat.ne_of_lt lD9); (have mD9 := nD9.symm); (have lD10 := lt_of_heap hD10); (have nD10 := Nat.ne_of_lt lD10); (have mD10 := nD10.symm); (have lF := lt_of_heap hQ); (have nF := Nat.ne_of_lt lF); (have mF := nF.symm); (try (first | (replace hB := below_get hb hB; obtain ⟨cB0, cB1, cB2, cB3, zB0, zB1, zB2, zB3⟩ := zero_cells hB) | (have hB := below_get hb (show _ = some (.cells #[.int .u64 0, .int .u64 0, .int .u64 0, .int .u64 0] 24 (0, 0)) from heap_alloc_new _ _); obtain ⟨cB0, cB1, cB2, cB3, zB0, zB1, zB2, zB3⟩ := zero_cells hB))); (replace cD70 : World.cell? W ⟨p7, 0, none⟩ = some (.int .u64 (w0 (c4) : Nat)) := by rw [cell_of_row _ _ _ _ _ _ hD7]; rfl); (replace cD71 : World.cell? W ⟨p7, 1, none⟩ = some (.int .u64 (w1 (c4) : Nat)) := by rw [cell_of_row _ _ _ _ _ _ hD7]; rfl); (replace cD72 : World.cell? W ⟨p7, 2, none⟩ = some (.int .u64 (w2 (c4) : Nat)) := by rw [cell_of_row _ _ _ _ _ _ hD7]; rfl); (replace cD73 : World.cell? W ⟨p7, 3, none⟩ = some (.int .u64 (w3 (c4) : Nat)) := by rw [cell_of_row _ _ _ _ _ _ hD7]; rfl); (replace cD80 : World.cell? W ⟨p8, 0, none⟩ = some (.int .u64 (w0 (d1) : Nat)) := by rw [cell_of_row _ _ _ _ _ _ hD8]; rfl); (replace cD81 : World.cell? W ⟨p8, 1, none⟩ = some (.int .u64 (w1 (d1) : Nat)) := by rw [cell_of_row _ _ _ _ _ _ hD8]; rfl); (replace cD82 : World.cell? W ⟨p8, 2, none⟩ = some (.int .u64 (w2 (d1) : Nat)) := by rw [cell_of_row _ _ _ _ _ _ hD8]; rfl); (replace cD83 : World.cell? W ⟨p8, 3, none⟩ = some (.int .u64 (w3 (d1) : Nat)) := by rw [cell_of_row _ _ _ _ _ _ hD8]; rfl); (replace cD90 : World.cell? W ⟨p9, 0, none⟩ = some (.int .u64 (w0 (e1) : Nat)) := by rw [cell_of_row _ _ _ _ _ _ hD9]; rfl); (replace cD91 : World.cell? W ⟨p9, 1, none⟩ = some (.int .u64 (w1 (e1) : Nat)) := by rw [cell_of_row _ _ _ _ _ _ hD9]; rfl); (replace cD92 : World.cell? W ⟨p9, 2, none⟩ = some (.int .u64 (w2 (e1) : Nat)) := by rw [cell_of_row _ _ _ _ _ _ hD9]; rfl); (replace cD93 : World.cell? W ⟨p9, 3, none⟩ = some (.int .u64 (w3 (e1) : Nat)) := by rw [cell_of_row _ _ _ _ _ _ hD9]; rfl); (replace cD100 : World.cell? W ⟨p10, 0, none⟩ = some (.int .u64 (w0 (x1) : Nat)) := by rw [cell_of_row _ _ _ _ _ _ hD10]; rfl); (replace cD101 : World.cell? W ⟨p10, 1, none⟩ = some (.int .u64 (w1 (x1) : Nat)) := by rw [cell_of_row _ _ _ _ _ _ hD10]; rfl); (replace cD102 : World.cell? W ⟨p10, 2, none⟩ = some (.int .u64 (w2 (x1) : Nat)) := by rw [cell_of_row _ _ _ _ _ _ hD10]; rfl); (replace cD103 : World.cell? W ⟨p10, 3, none⟩ = some (.int .u64 (w3 (x1) : Nat)) := by rw [cell_of_row _ _ _ _ _ _ hD10]; rfl); clear hb) | (go_at_call 33; refine (subG_any (by first | exact W4.mk' hla.out | exact W4.mk' hlb.out | exact W4.mk' hlc.out | exact W4.mk' HM.out | exact W4.mk' Ga1.out | exact W4.mk' Gb1.out | exact W4.mk' Gc1.out | exact W4.mk' Gd0.out | exact W4.mk' Gd1.out | exact W4.mk' Ge1.out | exact W4.mk' Gx1.out | exact W4.mk' Gc2.out | exact W4.mk' Gc3.out | exact W4.mk' Gc4.out | exact W4.mk' Gy1.out | exact W4.mk' Gz1.out | exact W4.mk' (Nat.lt_trans (Nat.mod_lt _ hpos) HM.out) | exact W4.small (n := 1) rfl (by decide) | exact W4.small (n := 2) rfl (by decide) | exact W4.small (n := 3) rfl (by decide) | exact W4.small (n := 4) rfl (by decide) | exact W4.small (n := 5) rfl (by decide) | exact W4.small (n := 7) rfl (by decide)) (by first | exact W4.mk' hla.out | exact W4.mk' hlb.out | exact W4.mk' hlc.out | exact W4.mk' HM.out | exact W4.mk' Ga1.out | exact W4.mk' Gb1.out | exact W4.mk' Gc1.out | exact W4.mk' Gd0.out | exact W4.mk' Gd1.out | exact W4.mk' Ge1.out | exact W4.mk' Gx1.out | exact W4.mk' Gc2.out | exact W4.mk' Gc3.out | exact W4.mk' Gc4.out | exact W4.mk' Gy1.out | exact W4.mk' Gz1.out | exact W4.mk' (Nat.lt_trans (Nat.mod_lt _ hpos) HM.out) | exact W4.small (n := 1) rfl (by decide) | exact W4.small (n := 2) rfl (by decide) | exact W4.small (n := 3) rfl (by decide) | exact W4.small (n := 4) rfl (by decide) | exact W4.small (n := 5) rfl (by decide) | exact W4.small (n := 7) rfl (by decide)) _ (show IsF _ (g) (m) from (by first | exact fF | exact ⟨fF.blk, fF.odd, fF.three, fF.lt⟩ | exact ⟨ak fF.blk, fF.odd, fF.three, fF.lt⟩ | exact ⟨ak (ak fF.blk), fF.odd, fF.three, fF.lt⟩))).mono ?_; rintro e W ⟨rfl, hb⟩; (replace hA := below_get hb (show _ = some (.cells #[.int .u64 (w0 (x) : Nat), .int .u64 (w1 (x) : Nat), .int .u64 (w2 (x) : Nat), .int .u64 (w3 (x) : Nat), .int .u64 (w0 (y) : Nat), .int .u64 (w1 (y) : Nat), .int .u64 (w2 (y) : Nat), .int .u64 (w3 (y) : Nat), .int .u64 (w0 (z) : Nat), .int .u64 (w1 (z) : Nat), .int .u64 (w2 (z) : Nat), .int .u64 (w3 (z) : Nat)] 103 (0, 0)) from by first | exact hA | exact ak hA)); (replace hR := below_get hb (show _ = some (.cells #[.int .u64 0, .int .u64 0, .int .u64 0, .int .u64 0, .int .u64 0, .int .u64 0, .int .u64 0, .int .u64 0, .int .u64 0, .int .u64 0, .int .u64 0, .int .u64 0] 103 (0, 0)) from by first | exact hR | exact ak hR)); (replace hD5 := below_get hb (show _ = some (.cells #[.int .u64 (w0 (a1) : Nat), .int .u64 (w1 (a1) : Nat), .int .u64 (w2 (a1) : Nat), .int .u64 (w3 (a1) : Nat)] 24 (0, 0)) from by first | exact hD5 | exact ak hD5)); (replace hD6 := below_get hb (show _ = some (.cells #[.int .u64 (w0 (b1) : Nat), .int .u64 (w1 (b1) : Nat), .int .u64 (w2 (b1) : Nat), .int .u64 (w3 (b1) : Nat)] 24 (0, 0)) from by first | exact hD6 | exact ak hD6)); (replace hD7 := below_get hb (show _ = some (.cells #[.int .u64 (w0 (c4) : Nat), .int .u64 (w1 (c4) : Nat), .int .u64 (w2 (c4) : Nat), .int .u64 (w3 (c4) : Nat)] 24 (0, 0)) from by first | exact hD7 | exact ak hD7)); (replace hD8 := below_get hb (show _ = some (.cells #[.int .u64 (w0 (d1) : Nat), .int .u64 (w1 (d1) : Nat), .int .u64 (w2 (d1) : Nat), .int .u64 (w3 (d1) : Nat)] 24 (0, 0)) from by first | exact hD8 | exact ak hD8)); (replace hD9 := below_get hb (show _ = some (.cells #[.int .u64 (w0 (e1) : Nat), .int .u64 (w1 (e1) : Nat), .int .u64 (w2 (e1) : Nat), .int .u64 (w3 (e1) : Nat)] 24 (0, 0)) from by first | exact hD9 | exact ak hD9)); (replace hD10 := below_get hb (show _ = some (.cells #[.int .u64 (w0 (x1) : Nat), .int .u64 (w1 (x1) : Nat), .int .u64 (w2 (x1) : Nat), .int .u64 (w3 (x1) : Nat)] 24 (0, 0)) from by first | exact hD10 | exact ak hD10)); (replace kk := bcl (by first | exact kk | exact kk.drew | exact bal kk _ | exact (bal kk _).drew) hb); (replace fF := HF.out.keep kk); (replace hQ := fF.blk); (have lA := lt_of_heap hA); (have nA := Nat.ne_of_lt lA); (have mA := nA.symm); (have lR := lt_of_heap hR); (have nR := Nat.ne_of_lt lR); (have mR := nR.symm); (have lD5 := lt_of_heap hD5); (have nD5 := Nat.ne_of_lt lD5); (have mD5 := nD5.symm); (have lD6 := lt_of_heap hD6); (have nD6 := Nat.ne_of_lt lD6); (have mD6 := nD6.symm); (have lD7 := lt_of_heap hD7); (have nD7 := Nat.ne_of_lt lD7); (have mD7 := nD7.symm); (have lD8 := lt_of_heap hD8); (have nD8 := Nat.ne_of_lt lD8); (have mD8 := nD8.symm); (have lD9 := lt_of_heap hD9); (have nD9 := Nat.ne_of_lt lD9); (have mD9 := nD9.symm); (have lD10 := lt_of_heap hD10); (have nD10 := Nat.ne_of_lt lD10); (have mD10 := nD10.symm); (have lF := lt_of_heap hQ); (have nF := Nat.ne_of_lt lF); (have mF := nF.symm); (try (first | (replace hB := below_get hb hB; obtain ⟨cB0, cB1, cB2, cB3, zB0, zB1, zB2, zB3⟩ := zero_cells hB) | (have hB := below_get hb (show _ = some (.cells #[.int .u64 0, .int .u64 0, .int .u64 0, .int .u64 0] 24 (0, 0)) from heap_alloc_new _ _); obtain ⟨cB0, cB1, cB2, cB3, zB0, zB1, zB2, zB3⟩ := zero_cells hB))); (replace cD70 : World.cell? W ⟨p7, 0, none⟩ = some (.int .u64 (w0 (c4) : Nat)) := by rw [cell_of_row _ _ _ _ _ _ hD7]; rfl); (replace cD71 : World.cell? W ⟨p7, 1, none⟩ = some (.int .u64 (w1 (c4) : Nat)) := by rw [cell_of_row _ _ _ _ _ _ hD7]; rfl); (replace cD72 : World.cell? W ⟨p7, 2, none⟩ = some (.int .u64 (w2 (c4) : Nat)) := by rw [cell_of_row _ _ _ _ _ _ hD7]; rfl); (replace cD73 : World.cell? W ⟨p7, 3, none⟩ = some (.int .u64 (w3 (c4) : Nat)) := by rw [cell_of_row _ _ _ _ _ _ hD7]; rfl); (replace cD80 : World.cell? W ⟨p8, 0, none⟩ = some (.int .u64 (w0 (d1) : Nat)) := by rw [cell_of_row _ _ _ _ _ _ hD8]; rfl); (replace cD81 : World.cell? W ⟨p8, 1, none⟩ = some (.int .u64 (w1 (d1) : Nat)) := by rw [cell_of_row _ _ _ _ _ _ hD8]; rfl); (replace cD82 : World.cell? W ⟨p8, 2, none⟩ = some (.int .u64 (w2 (d1) : Nat)) := by rw [cell_of_row _ _ _ _ _ _ hD8]; rfl); (replace cD83 : World.cell? W ⟨p8, 3, none⟩ = some (.int .u64 (w3 (d1) : Nat)) := by rw [cell_of_row _ _ _ _ _ _ hD8]; rfl); (replace cD90 : World.cell? W ⟨p9, 0, none⟩ = some (.int .u64 (w0 (e1) : Nat)) := by rw [cell_of_row _ _ _ _ _ _ hD9]; rfl); (replace cD91 : World.cell? W ⟨p9, 1, none⟩ = some (.int .u64 (w1 (e1) : Nat)) := by rw [cell_of_row _ _ _ _ _ _ hD9]; rfl); (replace cD92 : World.cell? W ⟨p9, 2, none⟩ = some (.int .u64 (w2 (e1) : Nat)) := by rw [cell_of_row _ _ _ _ _ _ hD9]; rfl); (replace cD93 : World.cell? W ⟨p9, 3, none⟩ = some (.int .u64 (w3 (e1) : Nat)) := by rw [cell_of_row _ _ _ _ _ _ hD9]; rfl); (replace cD100 : World.cell? W ⟨p10, 0, none⟩ = some (.int .u64 (w0 (x1) : Nat)) := by rw [cell_of_row _ _ _ _ _ _ hD10]; rfl); (replace cD101 : World.cell? W ⟨p10, 1, none⟩ = some (.int .u64 (w1 (x1) : Nat)) := by rw [cell_of_row _ _ _ _ _ _ hD10]; rfl); (replace cD102 : World.cell? W ⟨p10, 2, none⟩ = some (.int .u64 (w2 (x1) : Nat)) := by rw [cell_of_row _ _ _ _ _ _ hD10]; rfl); (replace cD103 : World.cell? W ⟨p10, 3, none⟩ = some (.int .u64 (w3 (x1) : Nat)) := by rw [cell_of_row _ _ _ _ _ _ hD10]; rfl); clear hb))
          all_goals go_wp2_with fail
          all_goals go_meet
          all_goals have lK := kk.size
          all_goals first | (have P := put4 (.int .u64 (w0 (subf m (mulm m e1 (subf m d1 x1)) c4) : Nat)) (.int .u64 (w1 (subf m (mulm m e1 (subf m d1 x1)) c4) : Nat)) (.int .u64 (w2 (subf m (mulm m e1 (subf m d1 x1)) c4) : Nat)) (.int .u64 (w3 (subf m (mulm m e1 (subf m d1 x1)) c4) : Nat)) hB; exact ⟨_, rfl, P.here, (P.there _ (by omega)).trans hA, (P.there _ (by omega)).trans hR, (P.there _ (by omega)).trans hD5, (P.there _ (by omega)).trans hD6, (P.there _ (by omega)).trans hD7, (P.there _ (by omega)).trans hD8, (P.there _ (by omega)).trans hD9, (P.there _ (by omega)).trans hD10, by omega, by omega, by omega, by omega, by omega, by omega, by omega, by omega, by omega, by first | exact P.below (by omega) kk | exact (P.below (by omega) kk).drew⟩) | exact ⟨_, rfl, heap_alloc_new W _, ak (w := W) hA, ak (w := W) hR, ak (w := W) hD5, ak (w := W) hD6, ak (w := W) hD7, ak (w := W) hD8, ak (w := W) hD9, ak (w := W) hD10, by omega, by omega, by omega, by omega, by omega, by omega, by omega, by omega, by omega, by first | exact bal kk _ | exact (bal kk _).drew⟩
        case rest =>
          obtain ⟨p11, rfl, hD11, hA, hR, hD5, hD6, hD7, hD8, hD9, hD10, gD11, nD11A, nD11R, nD11D5, nD11D6, nD11D7, nD11D8, nD11D9, nD11D10, kk⟩ := hcut
          replace fF := HF.out.keep kk
          obtain ⟨y1, eqy1⟩ : ∃ n, subf m (mulm m e1 (subf m d1 x1)) c4 = n := ⟨_, rfl⟩
          rw [eqy1] at hD11
          have Hy1 := Lib.hid eqy1
          have Gy1 := Lib.hid (show y1 < 2 ^ 256 by rw [← eqy1]; exact Nat.lt_trans (Nat.mod_lt _ hpos) HM.out)
          clear eqy1
          have cA0 : wc.cell? ⟨w.heap.size, 0, none⟩ = some (.int .u64 (w0 (x) : Nat)) := by rw [cell_of_row _ _ _ _ _ _ hA]; rfl
          have zA0 := frozen_of_row _ _ 0 _ _ hA
          have cA1 : wc.cell? ⟨w.heap.size, 1, none⟩ = some (.int .u64 (w1 (x) : Nat)) := by rw [cell_of_row _ _ _ _ _ _ hA]; rfl
          have zA1 := frozen_of_row _ _ 1 _ _ hA
          have cA2 : wc.cell? ⟨w.heap.size, 2, none⟩ = some (.int .u64 (w2 (x) : Nat)) := by rw [cell_of_row _ _ _ _ _ _ hA]; rfl
          have zA2 := frozen_of_row _ _ 2 _ _ hA
          have cA3 : wc.cell? ⟨w.heap.size, 3, none⟩ = some (.int .u64 (w3 (x) : Nat)) := by rw [cell_of_row _ _ _ _ _ _ hA]; rfl
          have zA3 := frozen_of_row _ _ 3 _ _ hA
          have cA4 : wc.cell? ⟨w.heap.size, 4, none⟩ = some (.int .u64 (w0 (y) : Nat)) := by rw [cell_of_row _ _ _ _ _ _ hA]; rfl
          have zA4 := frozen_of_row _ _ 4 _ _ hA
          have cA5 : wc.cell? ⟨w.heap.size, 5, none⟩ = some (.int .u64 (w1 (y) : Nat)) := by rw [cell_of_row _ _ _ _ _ _ hA]; rfl
          have zA5 := frozen_of_row _ _ 5 _ _ hA
          have cA6 : wc.cell? ⟨w.heap.size, 6, none⟩ = some (.int .u64 (w2 (y) : Nat)) := by rw [cell_of_row _ _ _ _ _ _ hA]; rfl
          have zA6 := frozen_of_row _ _ 6 _ _ hA
          have cA7 : wc.cell? ⟨w.heap.size, 7, none⟩ = some (.int .u64 (w3 (y) : Nat)) := by rw [cell_of_row _ _ _ _ _ _ hA]; rfl
          have zA7 := frozen_of_row _ _ 7 _ _ hA
          have cA8 : wc.cell? ⟨w.heap.size, 8, none⟩ = some (.int .u64 (w0 (z) : Nat)) := by rw [cell_of_row _ _ _ _ _ _ hA]; rfl
          have zA8 := frozen_of_row _ _ 8 _ _ hA
          have cA9 : wc.cell? ⟨w.heap.size, 9, none⟩ = some (.int .u64 (w1 (z) : Nat)) := by rw [cell_of_row _ _ _ _ _ _ hA]; rfl
          have zA9 := frozen_of_row _ _ 9 _ _ hA
          have cA10 : wc.cell? ⟨w.heap.size, 10, none⟩ = some (.int .u64 (w2 (z) : Nat)) := by rw [cell_of_row _ _ _ _ _ _ hA]; rfl
          have zA10 := frozen_of_row _ _ 10 _ _ hA
          have cA11 : wc.cell? ⟨w.heap.size, 11, none⟩ = some (.int .u64 (w3 (z) : Nat)) := by rw [cell_of_row _ _ _ _ _ _ hA]; rfl
          have zA11 := frozen_of_row _ _ 11 _ _ hA
          go_wp2_with fail
          refine (mulG_any (W4.mk' hlb.out) (W4.mk' hlc.out) _ fF).mono ?_
          rintro e U5 ⟨rfl, hb⟩
          replace hA := below_get hb (show _ = some (.cells #[.int .u64 (w0 (x) : Nat), .int .u64 (w1 (x) : Nat), .int .u64 (w2 (x) : Nat), .int .u64 (w3 (x) : Nat), .int .u64 (w0 (y) : Nat), .int .u64 (w1 (y) : Nat), .int .u64 (w2 (y) : Nat), .int .u64 (w3 (y) : Nat), .int .u64 (w0 (z) : Nat), .int .u64 (w1 (z) : Nat), .int .u64 (w2 (z) : Nat), .int .u64 (w3 (z) : Nat)] 103 (0, 0)) from hA)
          replace hR := below_get hb (show _ = some (.cells #[.int .u64 0, .int .u64 0, .int .u64 0, .int .u64 0, .int .u64 0, .int .u64 0, .int .u64 0, .int .u64 0, .int .u64 0, .int .u64 0, .int .u64 0, .int .u64 0] 103 (0, 0)) from hR)
          replace hD5 := below_get hb (show _ = some (.cells #[.int .u64 (w0 (a1) : Nat), .int .u64 (w1 (a1) : Nat), .int .u64 (w2 (a1) : Nat), .int .u64 (w3 (a1) : Nat)] 24 (0, 0)) from hD5)
          replace hD6 := below_get hb (show _ = some (.cells #[.int .u64 (w0 (b1) : Nat), .int .u64 (w1 (b1) : Nat), .int .u64 (w2 (b1) : Nat), .int .u64 (w3 (b1) : Nat)] 24 (0, 0)) from hD6)
          replace hD7 := below_get hb (show _ = some (.cells #[.int .u64 (w0 (c4) : Nat), .int .u64 (w1 (c4) : Nat), .int .u64 (w2 (c4) : Nat), .int .u64 (w3 (c4) : Nat)] 24 (0, 0)) from hD7)
          replace hD8 := below_get hb (show _ = some (.cells #[.int .u64 (w0 (d1) : Nat), .int .u64 (w1 (d1) : Nat), .int .u64 (w2 (d1) : Nat), .int .u64 (w3 (d1) : Nat)] 24 (0, 0)) from hD8)
          replace hD9 := below_get hb (show _ = some (.cells #[.int .u64 (w0 (e1) : Nat), .int .u64 (w1 (e1) : Nat), .int .u64 (w2 (e1) : Nat), .int .u64 (w3 (e1) : Nat)] 24 (0, 0)) from hD9)
          replace hD10 := below_get hb (show _ = some (.cells #[.int .u64 (w0 (x1) : Nat), .int .u64 (w1 (x1) : Nat), .int .u64 (w2 (x1) : Nat), .int .u64 (w3 (x1) : Nat)] 24 (0, 0)) from hD10)
          replace hD11 := below_get hb (show _ = some (.cells #[.int .u64 (w0 (y1) : Nat), .int .u64 (w1 (y1) : Nat), .int .u64 (w2 (y1) : Nat), .int .u64 (w3 (y1) : Nat)] 24 (0, 0)) from hD11)
          replace kk := bcl (by first | exact kk | exact kk.drew | exact below_drewN kk _) hb
          replace fF := HF.out.keep kk
          clear cA0 zA0 cA1 zA1 cA2 zA2 cA3 zA3 cA4 zA4 cA5 zA5 cA6 zA6 cA7 zA7 cA8 zA8 cA9 zA9 cA10 zA10 cA11 zA11
          clear hb
          obtain ⟨z1, eqz1⟩ : ∃ n, mulm m y z = n := ⟨_, rfl⟩
          rw [eqz1]
          have Hz1 := Lib.hid eqz1
          have Gz1 := Lib.hid (show z1 < 2 ^ 256 by rw [← eqz1]; exact Nat.lt_trans (Nat.mod_lt _ hpos) HM.out)
          clear eqz1
          go_upto_region 15 with fail
          obtain ⟨T5, hW⟩ : ∃ V, U5.alloc (.cells #[.int .u64 (w0 (z1) : Nat), .int .u64 (w1 (z1) : Nat), .int .u64 (w2 (z1) : Nat), .int .u64 (w3 (z1) : Nat)] 24 (0, 0)) = V := ⟨_, rfl⟩
          rw [hW]
          obtain ⟨p12, hbx⟩ : ∃ n, U5.heap.size = n := ⟨_, rfl⟩
          rw [hbx]
          have hNEW : T5.heap[p12]? = some (.cells #[.int .u64 (w0 (z1) : Nat), .int .u64 (w1 (z1) : Nat), .int .u64 (w2 (z1) : Nat), .int .u64 (w3 (z1) : Nat)] 24 (0, 0)) := by rw [← hW, ← hbx]; exact heap_alloc_new _ _
          have lD12A : w.heap.size < p12 := by rw [← hbx]; exact lt_of_heap hA
          replace hA : T5.heap[w.heap.size]? = some (.cells #[.int .u64 (w0 (x) : Nat), .int .u64 (w1 (x) : Nat), .int .u64 (w2 (x) : Nat), .int .u64 (w3 (x) : Nat), .int .u64 (w0 (y) : Nat), .int .u64 (w1 (y) : Nat), .int .u64 (w2 (y) : Nat), .int .u64 (w3 (y) : Nat), .int .u64 (w0 (z) : Nat), .int .u64 (w1 (z) : Nat), .int .u64 (w2 (z) : Nat), .int .u64 (w3 (z) : Nat)] 103 (0, 0)) := by rw [← hW]; exact ak hA
          have lD12R : w.heap.size + 1 < p12 := by rw [← hbx]; exact lt_of_heap hR
          replace hR : T5.heap[w.heap.size + 1]? = some (.cells #[.int .u64 0, .int .u64 0, .int .u64 0, .int .u64 0, .int .u64 0, .int .u64 0, .int .u64 0, .int .u64 0, .int .u64 0, .int .u64 0, .int .u64 0, .int .u64 0] 103 (0, 0)) := by rw [← hW]; exact ak hR
          have lD12D5 : p5 < p12 := by rw [← hbx]; exact lt_of_heap hD5
          replace hD5 : T5.heap[p5]? = some (.cells #[.int .u64 (w0 (a1) : Nat), .int .u64 (w1 (a1) : Nat), .int .u64 (w2 (a1) : Nat), .int .u64 (w3 (a1) : Nat)] 24 (0, 0)) := by rw [← hW]; exact ak hD5
          have lD12D6 : p6 < p12 := by rw [← hbx]; exact lt_of_heap hD6
          replace hD6 : T5.heap[p6]? = some (.cells #[.int .u64 (w0 (b1) : Nat), .int .u64 (w1 (b1) : Nat), .int .u64 (w2 (b1) : Nat), .int .u64 (w3 (b1) : Nat)] 24 (0, 0)) := by rw [← hW]; exact ak hD6
          have lD12D7 : p7 < p12 := by rw [← hbx]; exact lt_of_heap hD7
          replace hD7 : T5.heap[p7]? = some (.cells #[.int .u64 (w0 (c4) : Nat), .int .u64 (w1 (c4) : Nat), .int .u64 (w2 (c4) : Nat), .int .u64 (w3 (c4) : Nat)] 24 (0, 0)) := by rw [← hW]; exact ak hD7
          have lD12D8 : p8 < p12 := by rw [← hbx]; exact lt_of_heap hD8
          replace hD8 : T5.heap[p8]? = some (.cells #[.int .u64 (w0 (d1) : Nat), .int .u64 (w1 (d1) : Nat), .int .u64 (w2 (d1) : Nat), .int .u64 (w3 (d1) : Nat)] 24 (0, 0)) := by rw [← hW]; exact ak hD8
          have lD12D9 : p9 < p12 := by rw [← hbx]; exact lt_of_heap hD9
          replace hD9 : T5.heap[p9]? = some (.cells #[.int .u64 (w0 (e1) : Nat), .int .u64 (w1 (e1) : Nat), .int .u64 (w2 (e1) : Nat), .int .u64 (w3 (e1) : Nat)] 24 (0, 0)) := by rw [← hW]; exact ak hD9
          have lD12D10 : p10 < p12 := by rw [← hbx]; exact lt_of_heap hD10
          replace hD10 : T5.heap[p10]? = some (.cells #[.int .u64 (w0 (x1) : Nat), .int .u64 (w1 (x1) : Nat), .int .u64 (w2 (x1) : Nat), .int .u64 (w3 (x1) : Nat)] 24 (0, 0)) := by rw [← hW]; exact ak hD10
          have lD12D11 : p11 < p12 := by rw [← hbx]; exact lt_of_heap hD11
          replace hD11 : T5.heap[p11]? = some (.cells #[.int .u64 (w0 (y1) : Nat), .int .u64 (w1 (y1) : Nat), .int .u64 (w2 (y1) : Nat), .int .u64 (w3 (y1) : Nat)] 24 (0, 0)) := by rw [← hW]; exact ak hD11
          have lD12 : w.heap.size ≤ p12 := by rw [← hbx]; exact kk.size
          replace kk : Below w.heap.size w T5 := by rw [← hW]; exact bal kk _
          have hD12 := hNEW
          replace fF := HF.out.keep kk
          clear hNEW hW hbx
          have hQ := fF.blk
          have cD100 : World.cell? T5 ⟨p10, 0, none⟩ = some (.int .u64 (w0 (x1) : Nat)) := by rw [cell_of_row _ _ _ _ _ _ hD10]; rfl
          have cD101 : World.cell? T5 ⟨p10, 1, none⟩ = some (.int .u64 (w1 (x1) : Nat)) := by rw [cell_of_row _ _ _ _ _ _ hD10]; rfl
          have cD102 : World.cell? T5 ⟨p10, 2, none⟩ = some (.int .u64 (w2 (x1) : Nat)) := by rw [cell_of_row _ _ _ _ _ _ hD10]; rfl
          have cD103 : World.cell? T5 ⟨p10, 3, none⟩ = some (.int .u64 (w3 (x1) : Nat)) := by rw [cell_of_row _ _ _ _ _ _ hD10]; rfl
          have cD110 : World.cell? T5 ⟨p11, 0, none⟩ = some (.int .u64 (w0 (y1) : Nat)) := by rw [cell_of_row _ _ _ _ _ _ hD11]; rfl
          have cD111 : World.cell? T5 ⟨p11, 1, none⟩ = some (.int .u64 (w1 (y1) : Nat)) := by rw [cell_of_row _ _ _ _ _ _ hD11]; rfl
          have cD112 : World.cell? T5 ⟨p11, 2, none⟩ = some (.int .u64 (w2 (y1) : Nat)) := by rw [cell_of_row _ _ _ _ _ _ hD11]; rfl
          have cD113 : World.cell? T5 ⟨p11, 3, none⟩ = some (.int .u64 (w3 (y1) : Nat)) := by rw [cell_of_row _ _ _ _ _ _ hD11]; rfl
          have cD120 : World.cell? T5 ⟨p12, 0, none⟩ = some (.int .u64 (w0 (z1) : Nat)) := by rw [cell_of_row _ _ _ _ _ _ hD12]; rfl
          have cD121 : World.cell? T5 ⟨p12, 1, none⟩ = some (.int .u64 (w1 (z1) : Nat)) := by rw [cell_of_row _ _ _ _ _ _ hD12]; rfl
          have cD122 : World.cell? T5 ⟨p12, 2, none⟩ = some (.int .u64 (w2 (z1) : Nat)) := by rw [cell_of_row _ _ _ _ _ _ hD12]; rfl
          have cD123 : World.cell? T5 ⟨p12, 3, none⟩ = some (.int .u64 (w3 (z1) : Nat)) := by rw [cell_of_row _ _ _ _ _ _ hD12]; rfl
          have neRD10 : p10 ≠ w.heap.size + 1 := by omega
          have nfRD10 := neRD10.symm
          have neRD11 : p11 ≠ w.heap.size + 1 := by omega
          have nfRD11 := neRD11.symm
          have neRD12 : p12 ≠ w.heap.size + 1 := by omega
          have nfRD12 := neRD12.symm
          go_region_held3 (fun w' => w'.cell? ⟨p10, 0, none⟩ = some (.int .u64 (w0 (x1) : Nat)) ∧ w'.cell? ⟨p10, 1, none⟩ = some (.int .u64 (w1 (x1) : Nat)) ∧ w'.cell? ⟨p10, 2, none⟩ = some (.int .u64 (w2 (x1) : Nat)) ∧ w'.cell? ⟨p10, 3, none⟩ = some (.int .u64 (w3 (x1) : Nat)) ∧ w'.cell? ⟨p11, 0, none⟩ = some (.int .u64 (w0 (y1) : Nat)) ∧ w'.cell? ⟨p11, 1, none⟩ = some (.int .u64 (w1 (y1) : Nat)) ∧ w'.cell? ⟨p11, 2, none⟩ = some (.int .u64 (w2 (y1) : Nat)) ∧ w'.cell? ⟨p11, 3, none⟩ = some (.int .u64 (w3 (y1) : Nat)) ∧ w'.cell? ⟨p12, 0, none⟩ = some (.int .u64 (w0 (z1) : Nat)) ∧ w'.cell? ⟨p12, 1, none⟩ = some (.int .u64 (w1 (z1) : Nat)) ∧ w'.cell? ⟨p12, 2, none⟩ = some (.int .u64 (w2 (z1) : Nat)) ∧ w'.cell? ⟨p12, 3, none⟩ = some (.int .u64 (w3 (z1) : Nat))) (first | (with_reducible exact ⟨cD100, cD101, cD102, cD103, cD110, cD111, cD112, cD113, cD120, cD121, cD122, cD123⟩) | go_keep) (first | (go_at_call 32; refine (addG_any (by first | exact W4.mk' hla.out | exact W4.mk' hlb.out | exact W4.mk' hlc.out | exact W4.mk' HM.out | exact W4.mk' Ga1.out | exact W4.mk' Gb1.out | exact W4.mk' Gc1.out | exact W4.mk' Gd0.out | exact W4.mk' Gd1.out | exact W4.mk' Ge1.out | exact W4.mk' Gx1.out | exact W4.mk' Gc2.out | exact W4.mk' Gc3.out | exact W4.mk' Gc4.out | exact W4.mk' Gy1.out | exact W4.mk' Gz1.out | exact W4.mk' (Nat.lt_trans (Nat.mod_lt _ hpos) HM.out) | exact W4.small (n := 1) rfl (by decide) | exact W4.small (n := 2) rfl (by decide) | exact W4.small (n := 3) rfl (by decide) | exact W4.small (n := 4) rfl (by decide) | exact W4.small (n := 5) rfl (by decide) | exact W4.small (n := 7) rfl (by decide)) (by first | exact W4.mk' hla.out | exact W4.mk' hlb.out | exact W4.mk' hlc.out | exact W4.mk' HM.out | exact W4.mk' Ga1.out | exact W4.mk' Gb1.out | exact W4.mk' Gc1.out | exact W4.mk' Gd0.out | exact W4.mk' Gd1.out | exact W4.mk' Ge1.out | exact W4.mk' Gx1.out | exact W4.mk' Gc2.out | exact W4.mk' Gc3.out | exact W4.mk' Gc4.out | exact W4.mk' Gy1.out | exact W4.mk' Gz1.out | exact W4.mk' (Nat.lt_trans (Nat.mod_lt _ hpos) HM.out) | exact W4.small (n := 1) rfl (by decide) | exact W4.small (n := 2) rfl (by decide) | exact W4.small (n := 3) rfl (by decide) | exact W4.small (n := 4) rfl (by decide) | exact W4.small (n := 5) rfl (by decide) | exact W4.small (n := 7) rfl (by decide)) _ (show IsF _ (g) (m) from (by first | exact fF | exact ⟨fF.blk, fF.odd, fF.three, fF.lt⟩ | exact ⟨ak fF.blk, fF.odd, fF.three, fF.lt⟩ | exact ⟨ak (ak fF.blk), fF.odd, fF.three, fF.lt⟩))).mono ?_; rintro e W ⟨rfl, hb⟩; (replace hA := below_get hb (show _ = some (.cells #[.int .u64 (w0 (x) : Nat), .int .u64 (w1 (x) : Nat), .int .u64 (w2 (x) : Nat), .int .u64 (w3 (x) : Nat), .int .u64 (w0 (y) : Nat), .int .u64 (w1 (y) : Nat), .int .u64 (w2 (y) : Nat), .int .u64 (w3 (y) : Nat), .int .u64 (w0 (z) : Nat), .int .u64 (w1 (z) : Nat), .int .u64 (w2 (z) : Nat), .int .u64 (w3 (z) : Nat)] 103 (0, 0)) from by first | exact hA | exact ak hA)); (replace hR := below_get hb (show _ = some (.cells #[.int .u64 0, .int .u64 0, .int .u64 0, .int .u64 0, .int .u64 0, .int .u64 0, .int .u64 0, .int .u64 0, .int .u64 0, .int .u64 0, .int .u64 0, .int .u64 0] 103 (0, 0)) from by first | exact hR | exact ak hR)); (replace hD5 := below_get hb (show _ = some (.cells #[.int .u64 (w0 (a1) : Nat), .int .u64 (w1 (a1) : Nat), .int .u64 (w2 (a1) : Nat), .int .u64 (w3 (a1) : Nat)] 24 (0, 0)) from by first | exact hD5 | exact ak hD5)); (replace hD6 := below_get hb (show _ = some (.cells #[.int .u64 (w0 (b1) : Nat), .int .u64 (w1 (b1) : Nat), .int .u64 (w2 (b1) : Nat), .int .u64 (w3 (b1) : Nat)] 24 (0, 0)) from by first | exact hD6 | exact ak hD6)); (replace hD7 := below_get hb (show _ = some (.cells #[.int .u64 (w0 (c4) : Nat), .int .u64 (w1 (c4) : Nat), .int .u64 (w2 (c4) : Nat), .int .u64 (w3 (c4) : Nat)] 24 (0, 0)) from by first | exact hD7 | exact ak hD7)); (replace hD8 := below_get hb (show _ = some (.cells #[.int .u64 (w0 (d1) : Nat), .int .u64 (w1 (d1) : Nat), .int .u64 (w2 (d1) : Nat), .int .u64 (w3 (d1) : Nat)] 24 (0, 0)) from by first | exact hD8 | exact ak hD8)); (replace hD9 := below_get hb (show _ = some (.cells #[.int .u64 (w0 (e1) : Nat), .int .u64 (w1 (e1) : Nat), .int .u64 (w2 (e1) : Nat), .int .u64 (w3 (e1) : Nat)] 24 (0, 0)) from by first | exact hD9 | exact ak hD9)); (replace hD10 := below_get hb (show _ = some (.cells #[.int .u64 (w0 (x1) : Nat), .int .u64 (w1 (x1) : Nat), .int .u64 (w2 (x1) : Nat), .int .u64 (w3 (x1) : Nat)] 24 (0, 0)) from by first | exact hD10 | exact ak hD10)); (replace hD11 := below_get hb (show _ = some (.cells #[.int .u64 (w0 (y1) : Nat), .int .u64 (w1 (y1) : Nat), .int .u64 (w2 (y1) : Nat), .int .u64 (w3 (y1) : Nat)] 24 (0, 0)) from by first | exact hD11 | exact ak hD11)); (replace hD12 := below_get hb (show _ = some (.cells #[.int .u64 (w0 (z1) : Nat), .int .u64 (w1 (z1) : Nat), .int .u64 (w2 (z1) : Nat), .int .u64 (w3 (z1) : Nat)] 24 (0, 0)) from by first | exact hD12 | exact ak hD12)); (replace kk := bcl (by first | exact kk | exact kk.drew | exact bal kk _ | exact (bal kk _).drew) hb); (replace fF := HF.out.keep kk); (replace hQ := fF.blk); (replace cD100 : World.cell? W ⟨p10, 0, none⟩ = some (.int .u64 (w0 (x1) : Nat)) := by rw [cell_of_row _ _ _ _ _ _ hD10]; rfl); (replace cD101 : World.cell? W ⟨p10, 1, none⟩ = some (.int .u64 (w1 (x1) : Nat)) := by rw [cell_of_row _ _ _ _ _ _ hD10]; rfl); (replace cD102 : World.cell? W ⟨p10, 2, none⟩ = some (.int .u64 (w2 (x1) : Nat)) := by rw [cell_of_row _ _ _ _ _ _ hD10]; rfl); (replace cD103 : World.cell? W ⟨p10, 3, none⟩ = some (.int .u64 (w3 (x1) : Nat)) := by rw [cell_of_row _ _ _ _ _ _ hD10]; rfl); (replace cD110 : World.cell? W ⟨p11, 0, none⟩ = some (.int .u64 (w0 (y1) : Nat)) := by rw [cell_of_row _ _ _ _ _ _ hD11]; rfl); (replace cD111 : World.cell? W ⟨p11, 1, none⟩ = some (.int .u64 (w1 (y1) : Nat)) := by rw [cell_of_row _ _ _ _ _ _ hD11]; rfl); (replace cD112 : World.cell? W ⟨p11, 2, none⟩ = some (.int .u64 (w2 (y1) : Nat)) := by rw [cell_of_row _ _ _ _ _ _ hD11]; rfl); (replace cD113 : World.cell? W ⟨p11, 3, none⟩ = some (.int .u64 (w3 (y1) : Nat)) := by rw [cell_of_row _ _ _ _ _ _ hD11]; rfl); (replace cD120 : World.cell? W ⟨p12, 0, none⟩ = some (.int .u64 (w0 (z1) : Nat)) := by rw [cell_of_row _ _ _ _ _ _ hD12]; rfl); (replace cD121 : World.cell? W ⟨p12, 1, none⟩ = some (.int .u64 (w1 (z1) : Nat)) := by rw [cell_of_row _ _ _ _ _ _ hD12]; rfl); (replace cD122 : World.cell? W ⟨p12, 2, none⟩ = some (.int .u64 (w2 (z1) : Nat)) := by rw [cell_of_row _ _ _ _ _ _ hD12]; rfl); (replace cD123 : World.cell? W ⟨p12, 3, none⟩ = some (.int .u64 (w3 (z1) : Nat)) := by rw [cell_of_row _ _ _ _ _ _ hD12]; rfl); (replace cR0 : World.cell? W ⟨w.heap.size + 1, 0, none⟩ = some (.int .u64 0) := by rw [cell_of_row _ _ _ _ _ _ hR]; rfl); (replace cR1 : World.cell? W ⟨w.heap.size + 1, 1, none⟩ = some (.int .u64 0) := by rw [cell_of_row _ _ _ _ _ _ hR]; rfl); (replace cR2 : World.cell? W ⟨w.heap.size + 1, 2, none⟩ = some (.int .u64 0) := by rw [cell_of_row _ _ _ _ _ _ hR]; rfl); (replace cR3 : World.cell? W ⟨w.heap.size + 1, 3, none⟩ = some (.int .u64 0) := by rw [cell_of_row _ _ _ _ _ _ hR]; rfl); (replace cR4 : World.cell? W ⟨w.heap.size + 1, 4, none⟩ = some (.int .u64 0) := by rw [cell_of_row _ _ _ _ _ _ hR]; rfl); (replace cR5 : World.cell? W ⟨w.heap.size + 1, 5, none⟩ = some (.int .u64 0) := by rw [cell_of_row _ _ _ _ _ _ hR]; rfl); (replace cR6 : World.cell? W ⟨w.heap.size + 1, 6, none⟩ = some (.int .u64 0) := by rw [cell_of_row _ _ _ _ _ _ hR]; rfl); (replace cR7 : World.cell? W ⟨w.heap.size + 1, 7, none⟩ = some (.int .u64 0) := by rw [cell_of_row _ _ _ _ _ _ hR]; rfl); (replace cR8 : World.cell? W ⟨w.heap.size + 1, 8, none⟩ = some (.int .u64 0) := by rw [cell_of_row _ _ _ _ _ _ hR]; rfl); (replace cR9 : World.cell? W ⟨w.heap.size + 1, 9, none⟩ = some (.int .u64 0) := by rw [cell_of_row _ _ _ _ _ _ hR]; rfl); (replace cR10 : World.cell? W ⟨w.heap.size + 1, 10, none⟩ = some (.int .u64 0) := by rw [cell_of_row _ _ _ _ _ _ hR]; rfl); (replace cR11 : World.cell? W ⟨w.heap.size + 1, 11, none⟩ = some (.int .u64 0) := by rw [cell_of_row _ _ _ _ _ _ hR]; rfl); (have zR0 := frozen_of_row _ _ 0 _ _ hR); (have zR1 := frozen_of_row _ _ 1 _ _ hR); (have zR2 := frozen_of_row _ _ 2 _ _ hR); (have zR3 := frozen_of_row _ _ 3 _ _ hR); (have zR4 := frozen_of_row _ _ 4 _ _ hR); (have zR5 := frozen_of_row _ _ 5 _ _ hR); (have zR6 := frozen_of_row _ _ 6 _ _ hR); (have zR7 := frozen_of_row _ _ 7 _ _ hR); (have zR8 := frozen_of_row _ _ 8 _ _ hR); (have zR9 := frozen_of_row _ _ 9 _ _ hR); (have zR10 := frozen_of_row _ _ 10 _ _ hR); (have zR11 := frozen_of_row _ _ 11 _ _ hR); clear hb))
          go_simp
          go_wp2_with fail
          have P := put12 (.int .u64 (w0 (x1) : Nat)) (.int .u64 (w1 (x1) : Nat)) (.int .u64 (w2 (x1) : Nat)) (.int .u64 (w3 (x1) : Nat)) (.int .u64 (w0 (y1) : Nat)) (.int .u64 (w1 (y1) : Nat)) (.int .u64 (w2 (y1) : Nat)) (.int .u64 (w3 (y1) : Nat)) (.int .u64 (w0 (addf m z1 z1) : Nat)) (.int .u64 (w1 (addf m z1 z1) : Nat)) (.int .u64 (w2 (addf m z1 z1) : Nat)) (.int .u64 (w3 (addf m z1 z1) : Nat)) hR
          replace P := put_hid P
          obtain ⟨V9, hV9, P⟩ := P
          rw [hV9]
          have P9 := P.here
          have k9 := P.below (by omega) (show Below w.heap.size w W from by first | exact kk | exact kk.drew | exact below_drewN kk _)
          obtain ⟨v0, v1, v2, v3, v4, v5, v6, v7, v8, v9, v10, v11⟩ := row12c P9
          refine bodyPost_ret (v := _) (by simp [results, Try.results75, go_sem, v0, v1, v2, v3, v4, v5, v6, v7, v8, v9, v10, v11]; rfl) rfl ?_
          have e : ntwice m ⟨x, y, z⟩ = ⟨x1, y1, addf m z1 z1⟩ := by
            unfold ntwice; rw [if_neg HZ.out]; dsimp only
            rw [Ha1.out, Hb1.out, Hc1.out, Hd0.out, Hd1.out, He1.out, Hx1.out, Hc2.out, Hc3.out, Hc4.out, Hy1.out, Hz1.out]
          rw [e]
          exact ⟨rfl, k9⟩
end Go.Proofs.Ytgghopmlcpcpkaa
