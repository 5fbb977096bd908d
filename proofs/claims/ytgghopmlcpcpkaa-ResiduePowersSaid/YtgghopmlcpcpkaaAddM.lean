/- A step of the proof: what a function of the program computes, or a plain law of numbers. -/
import Derived.Test.YtgghopmlcpcpkaaPlus
import Derived.Deep.RegionHeld3
namespace Go.Proofs.Ytgghopmlcpcpkaa
open Go.RowKit PlainK
set_option linter.unusedVariables false
set_option linter.unusedSimpArgs false
set_option maxHeartbeats 4000000 in
theorem addF_any {a0 a1 a2 a3 b0 b1 b2 b3 : Int} {a b m g : Nat} (ha : W4 a0 a1 a2 a3 a) (hb : W4 b0 b1 b2 b3 b) (w : World) (hF : IsF w g m) :
   Calls Try.prog 32 #[.pointer (some ⟨g, 0, none⟩), .agg #[.int .u64 a0, .int .u64 a1, .int .u64 a2, .int .u64 a3], .agg #[.int .u64 b0, .int .u64 b1, .int .u64 b2, .int .u64 b3]] w fun e w' =>
    e = .returned (.agg #[.int .u64 (w0 ((a + b) % m) : Nat), .int .u64 (w1 ((a + b) % m) : Nat), .int .u64 (w2 ((a + b) % m) : Nat), .int .u64 (w3 ((a + b) % m) : Nat)]) ∧ Below w.heap.size w w' := by
  obtain ⟨rfl, rfl, rfl, rfl, la⟩ := ha
  obtain ⟨rfl, rfl, rfl, rfl, lb⟩ := hb
  have hla := Lib.hid la
  have hlb := Lib.hid lb
  have HF := Lib.hid hF
  clear la lb hF
  go_enter Try.func32, Try.ntmps32
  go_wp2_with fail
  obtain ⟨V0, hV0⟩ : ∃ V, ((w.alloc (.cells #[.int .u64 (w0 (a) : Nat), .int .u64 (w1 (a) : Nat), .int .u64 (w2 (a) : Nat), .int .u64 (w3 (a) : Nat)] 24)).alloc (.cells #[.int .u64 (w0 (b) : Nat), .int .u64 (w1 (b) : Nat), .int .u64 (w2 (b) : Nat), .int .u64 (w3 (b) : Nat)] 24)).alloc (.cells #[.int .u64 0, .int .u64 0, .int .u64 0, .int .u64 0] 24 (0, 0)) = V := ⟨_, rfl⟩
  rw [hV0]
  have hAV0 : V0.heap[w.heap.size]? = some (.cells #[.int .u64 (w0 (a) : Nat), .int .u64 (w1 (a) : Nat), .int .u64 (w2 (a) : Nat), .int .u64 (w3 (a) : Nat)] 24 (0, 0)) := by
    rw [← hV0]; simp only [alloc_at, World.size_alloc]; repeat (first | rw [if_pos trivial] | rw [if_pos (by omega)] | rw [if_neg (by omega)])
  have hBV0 : V0.heap[w.heap.size + 1]? = some (.cells #[.int .u64 (w0 (b) : Nat), .int .u64 (w1 (b) : Nat), .int .u64 (w2 (b) : Nat), .int .u64 (w3 (b) : Nat)] 24 (0, 0)) := by
    rw [← hV0]; simp only [alloc_at, World.size_alloc]; repeat (first | rw [if_pos trivial] | rw [if_pos (by omega)] | rw [if_neg (by omega)])
  have hRV0 : V0.heap[w.heap.size + 2]? = some (.cells #[.int .u64 0, .int .u64 0, .int .u64 0, .int .u64 0] 24 (0, 0)) := by
    rw [← hV0]; simp only [alloc_at, World.size_alloc]; repeat (first | rw [if_pos trivial] | rw [if_pos (by omega)] | rw [if_neg (by omega)])
  have kV0 : Below w.heap.size w V0 := by
    rw [← hV0]
    repeat (first | exact Below.refl _ _ | refine Below.drew ?_ | refine bal ?_ _)
  have hGV0 : IsF V0 g m := HF.out.keep kV0
  clear hV0
  have pV00 : V0.cell? ⟨w.heap.size, 0, none⟩ = some (.int .u64 (w0 (a) : Nat)) := by rw [cell_of_row _ _ _ _ _ _ hAV0]; rfl
  have pV01 : V0.cell? ⟨w.heap.size, 1, none⟩ = some (.int .u64 (w1 (a) : Nat)) := by rw [cell_of_row _ _ _ _ _ _ hAV0]; rfl
  have pV02 : V0.cell? ⟨w.heap.size, 2, none⟩ = some (.int .u64 (w2 (a) : Nat)) := by rw [cell_of_row _ _ _ _ _ _ hAV0]; rfl
  have pV03 : V0.cell? ⟨w.heap.size, 3, none⟩ = some (.int .u64 (w3 (a) : Nat)) := by rw [cell_of_row _ _ _ _ _ _ hAV0]; rfl
  have qV00 : V0.cell? ⟨w.heap.size + 1, 0, none⟩ = some (.int .u64 (w0 (b) : Nat)) := by rw [cell_of_row _ _ _ _ _ _ hBV0]; rfl
  have qV01 : V0.cell? ⟨w.heap.size + 1, 1, none⟩ = some (.int .u64 (w1 (b) : Nat)) := by rw [cell_of_row _ _ _ _ _ _ hBV0]; rfl
  have qV02 : V0.cell? ⟨w.heap.size + 1, 2, none⟩ = some (.int .u64 (w2 (b) : Nat)) := by rw [cell_of_row _ _ _ _ _ _ hBV0]; rfl
  have qV03 : V0.cell? ⟨w.heap.size + 1, 3, none⟩ = some (.int .u64 (w3 (b) : Nat)) := by rw [cell_of_row _ _ _ _ _ _ hBV0]; rfl
  have ne0 : w.heap.size ≠ w.heap.size + 1 + 1 := by omega
  have ne1 : w.heap.size + 1 + 1 ≠ w.heap.size := by omega
  go_region_held3 (fun w' => w'.cell? ⟨w.heap.size, 0, none⟩ = some (.int .u64 (w0 (a) : Nat)) ∧ w'.cell? ⟨w.heap.size, 1, none⟩ = some (.int .u64 (w1 (a) : Nat)) ∧ w'.cell? ⟨w.heap.size, 2, none⟩ = some (.int .u64 (w2 (a) : Nat)) ∧ w'.cell? ⟨w.heap.size, 3, none⟩ = some (.int .u64 (w3 (a) : Nat)) ∧ w'.cell? ⟨w.heap.size + 1, 0, none⟩ = some (.int .u64 (w0 (b) : Nat)) ∧ w'.cell? ⟨w.heap.size + 1, 1, none⟩ = some (.int .u64 (w1 (b) : Nat)) ∧ w'.cell? ⟨w.heap.size + 1, 2, none⟩ = some (.int .u64 (w2 (b) : Nat)) ∧ w'.cell? ⟨w.heap.size + 1, 3, none⟩ = some (.int .u64 (w3 (b) : Nat))) (first | (with_reducible exact ⟨pV00, pV01, pV02, pV03, qV00, qV01, qV02, qV03⟩) | (with_reducible exact ⟨pV10, pV11, pV12, pV13, qV10, qV11, qV12, qV13⟩) | (with_reducible exact ⟨pV20, pV21, pV22, pV23, qV20, qV21, qV22, qV23⟩) | (with_reducible exact ⟨pV30, pV31, pV32, pV33, qV30, qV31, qV32, qV33⟩) | go_keep) (first | (go_at_call_of 19 (Value.agg #[.int .u64 (w0 (a) : Nat), .int .u64 (w1 (a) : Nat), .int .u64 (w2 (a) : Nat), .int .u64 (w3 (a) : Nat)]); refine (reduce_any (W4.mk' hla.out) _ (show IsF _ g m from by first | exact hGV0 | exact ⟨hGV0.blk, hGV0.odd, hGV0.three, hGV0.lt⟩).toM).mono ?_; rintro e V1 ⟨rfl, hb1⟩; (have hAV1 := below_get hb1 (show _ = some (.cells #[.int .u64 (w0 (a) : Nat), .int .u64 (w1 (a) : Nat), .int .u64 (w2 (a) : Nat), .int .u64 (w3 (a) : Nat)] 24 (0, 0)) from hAV0)); (have hBV1 := below_get hb1 (show _ = some (.cells #[.int .u64 (w0 (b) : Nat), .int .u64 (w1 (b) : Nat), .int .u64 (w2 (b) : Nat), .int .u64 (w3 (b) : Nat)] 24 (0, 0)) from hBV0)); (have hRV1 := below_get hb1 (show _ = some (.cells #[.int .u64 0, .int .u64 0, .int .u64 0, .int .u64 0] 24 (0, 0)) from hRV0)); (have kV1 := bcl (by first | exact kV0 | exact kV0.drew) hb1); (have hGV1 : IsF V1 g m := HF.out.keep kV1); (have pV10 : V1.cell? ⟨w.heap.size, 0, none⟩ = some (.int .u64 (w0 (a) : Nat)) := by rw [cell_of_row _ _ _ _ _ _ hAV1]; rfl); (have pV11 : V1.cell? ⟨w.heap.size, 1, none⟩ = some (.int .u64 (w1 (a) : Nat)) := by rw [cell_of_row _ _ _ _ _ _ hAV1]; rfl); (have pV12 : V1.cell? ⟨w.heap.size, 2, none⟩ = some (.int .u64 (w2 (a) : Nat)) := by rw [cell_of_row _ _ _ _ _ _ hAV1]; rfl); (have pV13 : V1.cell? ⟨w.heap.size, 3, none⟩ = some (.int .u64 (w3 (a) : Nat)) := by rw [cell_of_row _ _ _ _ _ _ hAV1]; rfl); (have qV10 : V1.cell? ⟨w.heap.size + 1, 0, none⟩ = some (.int .u64 (w0 (b) : Nat)) := by rw [cell_of_row _ _ _ _ _ _ hBV1]; rfl); (have qV11 : V1.cell? ⟨w.heap.size + 1, 1, none⟩ = some (.int .u64 (w1 (b) : Nat)) := by rw [cell_of_row _ _ _ _ _ _ hBV1]; rfl); (have qV12 : V1.cell? ⟨w.heap.size + 1, 2, none⟩ = some (.int .u64 (w2 (b) : Nat)) := by rw [cell_of_row _ _ _ _ _ _ hBV1]; rfl); (have qV13 : V1.cell? ⟨w.heap.size + 1, 3, none⟩ = some (.int .u64 (w3 (b) : Nat)) := by rw [cell_of_row _ _ _ _ _ _ hBV1]; rfl)) | (go_at_call_of 19 (Value.agg #[.int .u64 (w0 (b) : Nat), .int .u64 (w1 (b) : Nat), .int .u64 (w2 (b) : Nat), .int .u64 (w3 (b) : Nat)]); refine (reduce_any (W4.mk' hlb.out) _ (hGV1.toM)).mono ?_; rintro e V2 ⟨rfl, hb2⟩; (have hAV2 := below_get hb2 hAV1); (have hBV2 := below_get hb2 hBV1); (have hRV2 := below_get hb2 hRV1); (have kV2 := bcl kV1 hb2); (have hGV2 : IsF V2 g m := HF.out.keep kV2); (have pV20 : V2.cell? ⟨w.heap.size, 0, none⟩ = some (.int .u64 (w0 (a) : Nat)) := by rw [cell_of_row _ _ _ _ _ _ hAV2]; rfl); (have pV21 : V2.cell? ⟨w.heap.size, 1, none⟩ = some (.int .u64 (w1 (a) : Nat)) := by rw [cell_of_row _ _ _ _ _ _ hAV2]; rfl); (have pV22 : V2.cell? ⟨w.heap.size, 2, none⟩ = some (.int .u64 (w2 (a) : Nat)) := by rw [cell_of_row _ _ _ _ _ _ hAV2]; rfl); (have pV23 : V2.cell? ⟨w.heap.size, 3, none⟩ = some (.int .u64 (w3 (a) : Nat)) := by rw [cell_of_row _ _ _ _ _ _ hAV2]; rfl); (have qV20 : V2.cell? ⟨w.heap.size + 1, 0, none⟩ = some (.int .u64 (w0 (b) : Nat)) := by rw [cell_of_row _ _ _ _ _ _ hBV2]; rfl); (have qV21 : V2.cell? ⟨w.heap.size + 1, 1, none⟩ = some (.int .u64 (w1 (b) : Nat)) := by rw [cell_of_row _ _ _ _ _ _ hBV2]; rfl); (have qV22 : V2.cell? ⟨w.heap.size + 1, 2, none⟩ = some (.int .u64 (w2 (b) : Nat)) := by rw [cell_of_row _ _ _ _ _ _ hBV2]; rfl); (have qV23 : V2.cell? ⟨w.heap.size + 1, 3, none⟩ = some (.int .u64 (w3 (b) : Nat)) := by rw [cell_of_row _ _ _ _ _ _ hBV2]; rfl)) | (go_at_call 61; refine (plus_any (W4.mk' (Nat.lt_trans (Nat.mod_lt a (show 0 < m by have := HF.out.three; omega)) HF.out.lt)) (W4.mk' (Nat.lt_trans (Nat.mod_lt b (show 0 < m by have := HF.out.three; omega)) HF.out.lt)) _ (hGV2.toM) (Nat.mod_lt _ (by have := HF.out.three; omega)) (Nat.mod_lt _ (by have := HF.out.three; omega))).mono ?_; rintro e V3 ⟨rfl, hb3⟩; (have hAV3 := below_get hb3 hAV2); (have hBV3 := below_get hb3 hBV2); (have hRV3 := below_get hb3 hRV2); (have kV3 := bcl kV2 hb3); (have pV30 : V3.cell? ⟨w.heap.size, 0, none⟩ = some (.int .u64 (w0 (a) : Nat)) := by rw [cell_of_row _ _ _ _ _ _ hAV3]; rfl); (have pV31 : V3.cell? ⟨w.heap.size, 1, none⟩ = some (.int .u64 (w1 (a) : Nat)) := by rw [cell_of_row _ _ _ _ _ _ hAV3]; rfl); (have pV32 : V3.cell? ⟨w.heap.size, 2, none⟩ = some (.int .u64 (w2 (a) : Nat)) := by rw [cell_of_row _ _ _ _ _ _ hAV3]; rfl); (have pV33 : V3.cell? ⟨w.heap.size, 3, none⟩ = some (.int .u64 (w3 (a) : Nat)) := by rw [cell_of_row _ _ _ _ _ _ hAV3]; rfl); (have qV30 : V3.cell? ⟨w.heap.size + 1, 0, none⟩ = some (.int .u64 (w0 (b) : Nat)) := by rw [cell_of_row _ _ _ _ _ _ hBV3]; rfl); (have qV31 : V3.cell? ⟨w.heap.size + 1, 1, none⟩ = some (.int .u64 (w1 (b) : Nat)) := by rw [cell_of_row _ _ _ _ _ _ hBV3]; rfl); (have qV32 : V3.cell? ⟨w.heap.size + 1, 2, none⟩ = some (.int .u64 (w2 (b) : Nat)) := by rw [cell_of_row _ _ _ _ _ _ hBV3]; rfl); (have qV33 : V3.cell? ⟨w.heap.size + 1, 3, none⟩ = some (.int .u64 (w3 (b) : Nat)) := by rw [cell_of_row _ _ _ _ _ _ hBV3]; rfl); (have zz0 : V3.cell? ⟨w.heap.size + 2, 0, none⟩ = some (.int .u64 0) := by rw [cell_of_row _ _ _ _ _ _ hRV3]; rfl); (have zf0 := frozen_of_row _ _ 0 _ _ hRV3); (have zz1 : V3.cell? ⟨w.heap.size + 2, 1, none⟩ = some (.int .u64 0) := by rw [cell_of_row _ _ _ _ _ _ hRV3]; rfl); (have zf1 := frozen_of_row _ _ 1 _ _ hRV3); (have zz2 : V3.cell? ⟨w.heap.size + 2, 2, none⟩ = some (.int .u64 0) := by rw [cell_of_row _ _ _ _ _ _ hRV3]; rfl); (have zf2 := frozen_of_row _ _ 2 _ _ hRV3); (have zz3 : V3.cell? ⟨w.heap.size + 2, 3, none⟩ = some (.int .u64 0) := by rw [cell_of_row _ _ _ _ _ _ hRV3]; rfl); (have zf3 := frozen_of_row _ _ 3 _ _ hRV3)))
  go_simp
  go_wp2_with fail
  have P := put4 (.int .u64 (w0 ((a + b) % m) : Nat)) (.int .u64 (w1 ((a + b) % m) : Nat)) (.int .u64 (w2 ((a + b) % m) : Nat)) (.int .u64 (w3 ((a + b) % m) : Nat)) hRV3
  replace P := put_hid P
  obtain ⟨V9, hV9, P⟩ := P
  rw [hV9]
  have k9 := P.below (by omega) kV3
  have P9 := P.here
  have v0 : V9.cell? ⟨w.heap.size + 2, 0, none⟩ = some (.int .u64 (w0 ((a + b) % m) : Nat)) := by rw [cell_of_row _ _ _ _ _ _ P9]; rfl
  have v1 : V9.cell? ⟨w.heap.size + 2, 1, none⟩ = some (.int .u64 (w1 ((a + b) % m) : Nat)) := by rw [cell_of_row _ _ _ _ _ _ P9]; rfl
  have v2 : V9.cell? ⟨w.heap.size + 2, 2, none⟩ = some (.int .u64 (w2 ((a + b) % m) : Nat)) := by rw [cell_of_row _ _ _ _ _ _ P9]; rfl
  have v3 : V9.cell? ⟨w.heap.size + 2, 3, none⟩ = some (.int .u64 (w3 ((a + b) % m) : Nat)) := by rw [cell_of_row _ _ _ _ _ _ P9]; rfl
  refine bodyPost_ret (v := _) (by simp [results, Try.results32, go_sem, v0, v1, v2, v3]; rfl) rfl ?_
  exact ⟨rfl, k9⟩
end Go.Proofs.Ytgghopmlcpcpkaa
