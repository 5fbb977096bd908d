/- A step of the proof: what a function of the program computes, or a plain law of numbers. -/
import Derived.Test.YtgghopmlcpcpkaaInvLaw
namespace Go.Proofs.Ytgghopmlcpcpkaa
open Go.RowKit PlainK
set_option linter.unusedVariables false
set_option linter.unusedSimpArgs false
def pr7 (k : Nat) : Nat := if k = 0 then 5 else if k = 1 then 13 else if k = 2 then 3 else if k = 3 then 7 else if k = 4 then 1000003 else if k = 5 then 2305843009213693951 else 115792089237316195423570985008687907853269984665640564039457584007908834671663
theorem pr7_lt (k : Nat) : pr7 k < 2 ^ 256 := by unfold pr7; repeat' (first | split | decide)
theorem pr7_three (k : Nat) : 3 ≤ pr7 k := by unfold pr7; repeat' (first | split | decide)
theorem pr7_odd (k : Nat) : pr7 k % 2 = 1 := by unfold pr7; repeat' (first | split | decide)
theorem pr7_one {k : Nat} (h : k < 2) : pr7 k % 4 ≠ 3 := by
  have : k = 0 ∨ k = 1 := by omega
  rcases this with rfl | rfl <;> decide
theorem pr7_four {k : Nat} (h : ¬ k < 2) : pr7 k % 4 = 3 := by
  unfold pr7; rw [if_neg (by omega), if_neg (by omega)]; repeat' (first | split | decide)
theorem pr7_root (k : Nat) : ∃ g, Root (pr7 k) g := by
  unfold pr7
  split
  · exact ⟨_, root_5⟩
  split
  · exact ⟨_, root_13⟩
  split
  · exact ⟨_, root_3⟩
  split
  · exact ⟨_, root_7⟩
  split
  · exact ⟨_, root_1000003⟩
  split
  · exact ⟨_, root_2305843009213693951⟩
  · exact ⟨_, root_115792089237316195423570985008687907853269984665640564039457584007908834671663⟩
theorem pr7_cells {V : World} {b k : Nat} (hk : k < 7) (h : V.heap[b]? = some (.cells #[.int .u64 5, .int .u64 0, .int .u64 0, .int .u64 0, .int .u64 13, .int .u64 0, .int .u64 0, .int .u64 0, .int .u64 3, .int .u64 0, .int .u64 0, .int .u64 0, .int .u64 7, .int .u64 0, .int .u64 0, .int .u64 0, .int .u64 1000003, .int .u64 0, .int .u64 0, .int .u64 0, .int .u64 2305843009213693951, .int .u64 0, .int .u64 0, .int .u64 0, .int .u64 18446744069414583343, .int .u64 18446744073709551615, .int .u64 18446744073709551615, .int .u64 18446744073709551615] 24 (0, 0))) :
    V.cell? ⟨b, k * 4, none⟩ = some (.int .u64 (w0 (pr7 k) : Nat)) ∧ V.cell? ⟨b, k * 4 + 1, none⟩ = some (.int .u64 (w1 (pr7 k) : Nat)) ∧ V.cell? ⟨b, k * 4 + 2, none⟩ = some (.int .u64 (w2 (pr7 k) : Nat)) ∧ V.cell? ⟨b, k * 4 + 3, none⟩ = some (.int .u64 (w3 (pr7 k) : Nat)) := by
  have : k = 0 ∨ k = 1 ∨ k = 2 ∨ k = 3 ∨ k = 4 ∨ k = 5 ∨ k = 6 := by omega
  rcases this with rfl | rfl | rfl | rfl | rfl | rfl | rfl <;> (refine ⟨?_, ?_, ?_, ?_⟩ <;> (rw [cell_of_row _ _ _ _ _ _ h]; kernel_rfl))
set_option maxRecDepth 10000 in
set_option maxHeartbeats 4000000 in
theorem primes_any (w : World) : Calls Try.prog 27 #[] w fun e w' => ∃ b, e = .returned (.slice (some ⟨b, 0, none⟩) 7 7) ∧ w'.heap[b]? = some (.cells #[.int .u64 5, .int .u64 0, .int .u64 0, .int .u64 0, .int .u64 13, .int .u64 0, .int .u64 0, .int .u64 0, .int .u64 3, .int .u64 0, .int .u64 0, .int .u64 0, .int .u64 7, .int .u64 0, .int .u64 0, .int .u64 0, .int .u64 1000003, .int .u64 0, .int .u64 0, .int .u64 0, .int .u64 2305843009213693951, .int .u64 0, .int .u64 0, .int .u64 0, .int .u64 18446744069414583343, .int .u64 18446744073709551615, .int .u64 18446744073709551615, .int .u64 18446744073709551615] 24 (0, 0)) ∧ Below w.heap.size w w' := by
  go_enter Try.func27, Try.ntmps27
  go_upto_region 2 with fail
  obtain ⟨V0, hW⟩ : ∃ V, w.alloc (.cells #[.int .u64 18446744069414583343, .int .u64 18446744073709551615, .int .u64 18446744073709551615, .int .u64 18446744073709551615] 24) = V := ⟨_, rfl⟩
  rw [hW]
  have hX : V0.heap[w.heap.size]? = some (.cells #[.int .u64 18446744069414583343, .int .u64 18446744073709551615, .int .u64 18446744073709551615, .int .u64 18446744073709551615] 24 (0, 0)) := by
    rw [← hW]; simp only [alloc_at, World.size_alloc]; repeat (first | rw [if_pos trivial] | rw [if_pos (by omega)] | rw [if_neg (by omega)])
  have kk : Below w.heap.size w V0 := by
    rw [← hW]
    repeat (first | exact Below.refl _ _ | refine Below.drew ?_ | refine bal ?_ _)
  clear hW
  have cX0 : World.cell? V0 ⟨w.heap.size, 0, none⟩ = some (.int .u64 18446744069414583343) := by rw [cell_of_row _ _ _ _ _ _ hX]; rfl
  have cX1 : World.cell? V0 ⟨w.heap.size, 1, none⟩ = some (.int .u64 18446744073709551615) := by rw [cell_of_row _ _ _ _ _ _ hX]; rfl
  have cX2 : World.cell? V0 ⟨w.heap.size, 2, none⟩ = some (.int .u64 18446744073709551615) := by rw [cell_of_row _ _ _ _ _ _ hX]; rfl
  have cX3 : World.cell? V0 ⟨w.heap.size, 3, none⟩ = some (.int .u64 18446744073709551615) := by rw [cell_of_row _ _ _ _ _ _ hX]; rfl
  go_region_held3 (fun w' => w'.cell? ⟨w.heap.size, 0, none⟩ = some (.int .u64 18446744069414583343) ∧ w'.cell? ⟨w.heap.size, 1, none⟩ = some (.int .u64 18446744073709551615) ∧ w'.cell? ⟨w.heap.size, 2, none⟩ = some (.int .u64 18446744073709551615) ∧ w'.cell? ⟨w.heap.size, 3, none⟩ = some (.int .u64 18446744073709551615)) (first | (with_reducible exact ⟨cX0, cX1, cX2, cX3⟩) | go_keep) (first | (go_at_call 17; refine (of_any _ _).mono ?_; rintro e W ⟨rfl, hb⟩; (replace hX := below_get hb (show _ = some (.cells #[.int .u64 18446744069414583343, .int .u64 18446744073709551615, .int .u64 18446744073709551615, .int .u64 18446744073709551615] 24 (0, 0)) from by first | exact hX | exact ak hX)); (replace kk := bcl (by first | exact kk | exact kk.drew | exact bal kk _ | exact (bal kk _).drew) hb); (have cX0 : World.cell? W ⟨w.heap.size, 0, none⟩ = some (.int .u64 18446744069414583343) := by rw [cell_of_row _ _ _ _ _ _ hX]; rfl); (have cX1 : World.cell? W ⟨w.heap.size, 1, none⟩ = some (.int .u64 18446744073709551615) := by rw [cell_of_row _ _ _ _ _ _ hX]; rfl); (have cX2 : World.cell? W ⟨w.heap.size, 2, none⟩ = some (.int .u64 18446744073709551615) := by rw [cell_of_row _ _ _ _ _ _ hX]; rfl); (have cX3 : World.cell? W ⟨w.heap.size, 3, none⟩ = some (.int .u64 18446744073709551615) := by rw [cell_of_row _ _ _ _ _ _ hX]; rfl); clear hb))
  go_simp
  go_wp2_with fail
  refine bodyPost_ret (v := _) (by simp [results, Try.results27, go_sem]; rfl) rfl ?_
  exact ⟨_, rfl, heap_alloc_new W _, bal kk _⟩
end Go.Proofs.Ytgghopmlcpcpkaa
