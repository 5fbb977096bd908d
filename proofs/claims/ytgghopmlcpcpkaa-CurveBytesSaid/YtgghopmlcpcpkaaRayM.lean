/- A step of the proof: what a function of the program computes, or a plain law of numbers. -/
import Derived.Test.YtgghopmlcpcpkaaHeldT
import Derived.Test.YtgghopmlcpcpkaaPutLib
import Derived.Test.YtgghopmlcpcpkaaRootM
import Derived.Test.YtgghopmlcpcpkaaJac
namespace Go.Proofs.Ytgghopmlcpcpkaa
open Go.RowKit PlainK
set_option linter.unusedVariables false
set_option linter.unusedSimpArgs false
set_option maxHeartbeats 4000000 in
theorem ray_none {a0 a1 a2 a3 b0 b1 b2 b3 : Int} (w : World) :
   Calls Try.prog 74 #[.agg #[.int .u64 a0, .int .u64 a1, .int .u64 a2, .int .u64 a3, .int .u64 b0, .int .u64 b1, .int .u64 b2, .int .u64 b3, .bool true]] w fun e w' => e = .returned (.agg #[.int .u64 (w0 (1) : Nat), .int .u64 (w1 (1) : Nat), .int .u64 (w2 (1) : Nat), .int .u64 (w3 (1) : Nat), .int .u64 (w0 (1) : Nat), .int .u64 (w1 (1) : Nat), .int .u64 (w2 (1) : Nat), .int .u64 (w3 (1) : Nat), .int .u64 (w0 (0) : Nat), .int .u64 (w1 (0) : Nat), .int .u64 (w2 (0) : Nat), .int .u64 (w3 (0) : Nat)]) ∧ Below w.heap.size w w' := by
  go_enter Try.func74, Try.ntmps74
  go_upto_region 1 with fail
  obtain ⟨V0, hW⟩ : ∃ V, (w.alloc (.cells #[.int .u64 a0, .int .u64 a1, .int .u64 a2, .int .u64 a3, .int .u64 b0, .int .u64 b1, .int .u64 b2, .int .u64 b3, .bool true] 52)).alloc (.cells #[.int .u64 0, .int .u64 0, .int .u64 0, .int .u64 0, .int .u64 0, .int .u64 0, .int .u64 0, .int .u64 0, .int .u64 0, .int .u64 0, .int .u64 0, .int .u64 0] 103) = V := ⟨_, rfl⟩
  rw [hW]
  have hA : V0.heap[w.heap.size]? = some (.cells #[.int .u64 a0, .int .u64 a1, .int .u64 a2, .int .u64 a3, .int .u64 b0, .int .u64 b1, .int .u64 b2, .int .u64 b3, .bool true] 52 (0, 0)) := by
    rw [← hW]; simp only [alloc_at, World.size_alloc]; repeat (first | rw [if_pos trivial] | rw [if_pos (by omega)] | rw [if_neg (by omega)])
  have hR : V0.heap[w.heap.size + 1]? = some (.cells #[.int .u64 0, .int .u64 0, .int .u64 0, .int .u64 0, .int .u64 0, .int .u64 0, .int .u64 0, .int .u64 0, .int .u64 0, .int .u64 0, .int .u64 0, .int .u64 0] 103 (0, 0)) := by
    rw [← hW]; simp only [alloc_at, World.size_alloc]; repeat (first | rw [if_pos trivial] | rw [if_pos (by omega)] | rw [if_neg (by omega)])
  have kk : Below w.heap.size w V0 := by
    rw [← hW]
    repeat (first | exact Below.refl _ _ | refine Below.drew ?_ | refine bal ?_ _)
  clear hW
  have cA8 : V0.cell? ⟨w.heap.size, 8, none⟩ = some (.bool true) := by rw [cell_of_row _ _ _ _ _ _ hA]; rfl
  go_wp2_with fail
  refine (of_any _ _).mono ?_
  rintro e V1 ⟨rfl, hb⟩
  replace hA := below_get hb (show _ = some (.cells #[.int .u64 a0, .int .u64 a1, .int .u64 a2, .int .u64 a3, .int .u64 b0, .int .u64 b1, .int .u64 b2, .int .u64 b3, .bool true] 52 (0, 0)) from hA)
  replace hR := below_get hb (show _ = some (.cells #[.int .u64 0, .int .u64 0, .int .u64 0, .int .u64 0, .int .u64 0, .int .u64 0, .int .u64 0, .int .u64 0, .int .u64 0, .int .u64 0, .int .u64 0, .int .u64 0] 103 (0, 0)) from hR)
  replace kk := bcl (by first | exact kk | exact kk.drew | exact below_drewN kk _) hb
  clear hb
  go_wp2_with fail
  refine (of_any _ _).mono ?_
  rintro e V2 ⟨rfl, hb⟩
  replace hA := below_get hb (show _ = some (.cells #[.int .u64 a0, .int .u64 a1, .int .u64 a2, .int .u64 a3, .int .u64 b0, .int .u64 b1, .int .u64 b2, .int .u64 b3, .bool true] 52 (0, 0)) from hA)
  replace hR := below_get hb (show _ = some (.cells #[.int .u64 0, .int .u64 0, .int .u64 0, .int .u64 0, .int .u64 0, .int .u64 0, .int .u64 0, .int .u64 0, .int .u64 0, .int .u64 0, .int .u64 0, .int .u64 0] 103 (0, 0)) from hR)
  replace kk := bcl (by first | exact kk | exact kk.drew | exact below_drewN kk _) hb
  clear hb
  have cR0 : V2.cell? ⟨w.heap.size + 1, 0, none⟩ = some (.int .u64 0) := by rw [cell_of_row _ _ _ _ _ _ hR]; rfl
  have zR0 := frozen_of_row _ _ 0 _ _ hR
  have cR1 : V2.cell? ⟨w.heap.size + 1, 1, none⟩ = some (.int .u64 0) := by rw [cell_of_row _ _ _ _ _ _ hR]; rfl
  have zR1 := frozen_of_row _ _ 1 _ _ hR
  have cR2 : V2.cell? ⟨w.heap.size + 1, 2, none⟩ = some (.int .u64 0) := by rw [cell_of_row _ _ _ _ _ _ hR]; rfl
  have zR2 := frozen_of_row _ _ 2 _ _ hR
  have cR3 : V2.cell? ⟨w.heap.size + 1, 3, none⟩ = some (.int .u64 0) := by rw [cell_of_row _ _ _ _ _ _ hR]; rfl
  have zR3 := frozen_of_row _ _ 3 _ _ hR
  have cR4 : V2.cell? ⟨w.heap.size + 1, 4, none⟩ = some (.int .u64 0) := by rw [cell_of_row _ _ _ _ _ _ hR]; rfl
  have zR4 := frozen_of_row _ _ 4 _ _ hR
  have cR5 : V2.cell? ⟨w.heap.size + 1, 5, none⟩ = some (.int .u64 0) := by rw [cell_of_row _ _ _ _ _ _ hR]; rfl
  have zR5 := frozen_of_row _ _ 5 _ _ hR
  have cR6 : V2.cell? ⟨w.heap.size + 1, 6, none⟩ = some (.int .u64 0) := by rw [cell_of_row _ _ _ _ _ _ hR]; rfl
  have zR6 := frozen_of_row _ _ 6 _ _ hR
  have cR7 : V2.cell? ⟨w.heap.size + 1, 7, none⟩ = some (.int .u64 0) := by rw [cell_of_row _ _ _ _ _ _ hR]; rfl
  have zR7 := frozen_of_row _ _ 7 _ _ hR
  have cR8 : V2.cell? ⟨w.heap.size + 1, 8, none⟩ = some (.int .u64 0) := by rw [cell_of_row _ _ _ _ _ _ hR]; rfl
  have zR8 := frozen_of_row _ _ 8 _ _ hR
  have cR9 : V2.cell? ⟨w.heap.size + 1, 9, none⟩ = some (.int .u64 0) := by rw [cell_of_row _ _ _ _ _ _ hR]; rfl
  have zR9 := frozen_of_row _ _ 9 _ _ hR
  have cR10 : V2.cell? ⟨w.heap.size + 1, 10, none⟩ = some (.int .u64 0) := by rw [cell_of_row _ _ _ _ _ _ hR]; rfl
  have zR10 := frozen_of_row _ _ 10 _ _ hR
  have cR11 : V2.cell? ⟨w.heap.size + 1, 11, none⟩ = some (.int .u64 0) := by rw [cell_of_row _ _ _ _ _ _ hR]; rfl
  have zR11 := frozen_of_row _ _ 11 _ _ hR
  go_wp2_with fail
  have P := put12 (.int .u64 1) (.int .u64 0) (.int .u64 0) (.int .u64 0) (.int .u64 1) (.int .u64 0) (.int .u64 0) (.int .u64 0) (.int .u64 0) (.int .u64 0) (.int .u64 0) (.int .u64 0) hR
  replace P := put_hid P
  obtain ⟨V9, hV9, P⟩ := P
  rw [hV9]
  have P9 := P.here
  have k9 := P.below (by omega) (show Below w.heap.size w V2 from by first | exact kk | exact kk.drew | exact below_drewN kk _)
  have v0 : V9.cell? ⟨w.heap.size + 1, 0, none⟩ = some (.int .u64 1) := by rw [cell_of_row _ _ _ _ _ _ P9]; rfl
  have v1 : V9.cell? ⟨w.heap.size + 1, 1, none⟩ = some (.int .u64 0) := by rw [cell_of_row _ _ _ _ _ _ P9]; rfl
  have v2 : V9.cell? ⟨w.heap.size + 1, 2, none⟩ = some (.int .u64 0) := by rw [cell_of_row _ _ _ _ _ _ P9]; rfl
  have v3 : V9.cell? ⟨w.heap.size + 1, 3, none⟩ = some (.int .u64 0) := by rw [cell_of_row _ _ _ _ _ _ P9]; rfl
  have v4 : V9.cell? ⟨w.heap.size + 1, 4, none⟩ = some (.int .u64 1) := by rw [cell_of_row _ _ _ _ _ _ P9]; rfl
  have v5 : V9.cell? ⟨w.heap.size + 1, 5, none⟩ = some (.int .u64 0) := by rw [cell_of_row _ _ _ _ _ _ P9]; rfl
  have v6 : V9.cell? ⟨w.heap.size + 1, 6, none⟩ = some (.int .u64 0) := by rw [cell_of_row _ _ _ _ _ _ P9]; rfl
  have v7 : V9.cell? ⟨w.heap.size + 1, 7, none⟩ = some (.int .u64 0) := by rw [cell_of_row _ _ _ _ _ _ P9]; rfl
  have v8 : V9.cell? ⟨w.heap.size + 1, 8, none⟩ = some (.int .u64 0) := by rw [cell_of_row _ _ _ _ _ _ P9]; rfl
  have v9 : V9.cell? ⟨w.heap.size + 1, 9, none⟩ = some (.int .u64 0) := by rw [cell_of_row _ _ _ _ _ _ P9]; rfl
  have v10 : V9.cell? ⟨w.heap.size + 1, 10, none⟩ = some (.int .u64 0) := by rw [cell_of_row _ _ _ _ _ _ P9]; rfl
  have v11 : V9.cell? ⟨w.heap.size + 1, 11, none⟩ = some (.int .u64 0) := by rw [cell_of_row _ _ _ _ _ _ P9]; rfl
  refine bodyPost_ret (v := _) (by simp [results, Try.results74, go_sem, v0, v1, v2, v3, v4, v5, v6, v7, v8, v9, v10, v11]; rfl) rfl ?_
  exact ⟨rfl, k9⟩
set_option maxHeartbeats 4000000 in
theorem ray_pt {a0 a1 a2 a3 b0 b1 b2 b3 : Int} {a b : Nat} (ha : W4 a0 a1 a2 a3 a) (hb : W4 b0 b1 b2 b3 b) (w : World) :
   Calls Try.prog 74 #[.agg #[.int .u64 a0, .int .u64 a1, .int .u64 a2, .int .u64 a3, .int .u64 b0, .int .u64 b1, .int .u64 b2, .int .u64 b3, .bool false]] w fun e w' => e = .returned (.agg #[.int .u64 (w0 (a) : Nat), .int .u64 (w1 (a) : Nat), .int .u64 (w2 (a) : Nat), .int .u64 (w3 (a) : Nat), .int .u64 (w0 (b) : Nat), .int .u64 (w1 (b) : Nat), .int .u64 (w2 (b) : Nat), .int .u64 (w3 (b) : Nat), .int .u64 (w0 (1) : Nat), .int .u64 (w1 (1) : Nat), .int .u64 (w2 (1) : Nat), .int .u64 (w3 (1) : Nat)]) ∧ Below w.heap.size w w' := by
  obtain ⟨rfl, rfl, rfl, rfl, la⟩ := ha
  obtain ⟨rfl, rfl, rfl, rfl, lb⟩ := hb
  clear la lb
  go_enter Try.func74, Try.ntmps74
  go_upto_region 1 with fail
  obtain ⟨V0, hW⟩ : ∃ V, (w.alloc (.cells #[.int .u64 (w0 (a) : Nat), .int .u64 (w1 (a) : Nat), .int .u64 (w2 (a) : Nat), .int .u64 (w3 (a) : Nat), .int .u64 (w0 (b) : Nat), .int .u64 (w1 (b) : Nat), .int .u64 (w2 (b) : Nat), .int .u64 (w3 (b) : Nat), .bool false] 52)).alloc (.cells #[.int .u64 0, .int .u64 0, .int .u64 0, .int .u64 0, .int .u64 0, .int .u64 0, .int .u64 0, .int .u64 0, .int .u64 0, .int .u64 0, .int .u64 0, .int .u64 0] 103) = V := ⟨_, rfl⟩
  rw [hW]
  have hA : V0.heap[w.heap.size]? = some (.cells #[.int .u64 (w0 (a) : Nat), .int .u64 (w1 (a) : Nat), .int .u64 (w2 (a) : Nat), .int .u64 (w3 (a) : Nat), .int .u64 (w0 (b) : Nat), .int .u64 (w1 (b) : Nat), .int .u64 (w2 (b) : Nat), .int .u64 (w3 (b) : Nat), .bool false] 52 (0, 0)) := by
    rw [← hW]; simp only [alloc_at, World.size_alloc]; repeat (first | rw [if_pos trivial] | rw [if_pos (by omega)] | rw [if_neg (by omega)])
  have hR : V0.heap[w.heap.size + 1]? = some (.cells #[.int .u64 0, .int .u64 0, .int .u64 0, .int .u64 0, .int .u64 0, .int .u64 0, .int .u64 0, .int .u64 0, .int .u64 0, .int .u64 0, .int .u64 0, .int .u64 0] 103 (0, 0)) := by
    rw [← hW]; simp only [alloc_at, World.size_alloc]; repeat (first | rw [if_pos trivial] | rw [if_pos (by omega)] | rw [if_neg (by omega)])
  have kk : Below w.heap.size w V0 := by
    rw [← hW]
    repeat (first | exact Below.refl _ _ | refine Below.drew ?_ | refine bal ?_ _)
  clear hW
  have cA8 : V0.cell? ⟨w.heap.size, 8, none⟩ = some (.bool false) := by rw [cell_of_row _ _ _ _ _ _ hA]; rfl
  go_upto_region 3 with fail
  clear cA8
  have cA0 : World.cell? V0 ⟨w.heap.size, 0, none⟩ = some (.int .u64 (w0 (a) : Nat)) := by rw [cell_of_row _ _ _ _ _ _ hA]; rfl
  have cA1 : World.cell? V0 ⟨w.heap.size, 1, none⟩ = some (.int .u64 (w1 (a) : Nat)) := by rw [cell_of_row _ _ _ _ _ _ hA]; rfl
  have cA2 : World.cell? V0 ⟨w.heap.size, 2, none⟩ = some (.int .u64 (w2 (a) : Nat)) := by rw [cell_of_row _ _ _ _ _ _ hA]; rfl
  have cA3 : World.cell? V0 ⟨w.heap.size, 3, none⟩ = some (.int .u64 (w3 (a) : Nat)) := by rw [cell_of_row _ _ _ _ _ _ hA]; rfl
  have cA4 : World.cell? V0 ⟨w.heap.size, 4, none⟩ = some (.int .u64 (w0 (b) : Nat)) := by rw [cell_of_row _ _ _ _ _ _ hA]; rfl
  have cA5 : World.cell? V0 ⟨w.heap.size, 5, none⟩ = some (.int .u64 (w1 (b) : Nat)) := by rw [cell_of_row _ _ _ _ _ _ hA]; rfl
  have cA6 : World.cell? V0 ⟨w.heap.size, 6, none⟩ = some (.int .u64 (w2 (b) : Nat)) := by rw [cell_of_row _ _ _ _ _ _ hA]; rfl
  have cA7 : World.cell? V0 ⟨w.heap.size, 7, none⟩ = some (.int .u64 (w3 (b) : Nat)) := by rw [cell_of_row _ _ _ _ _ _ hA]; rfl
  have cA8 : World.cell? V0 ⟨w.heap.size, 8, none⟩ = some (.bool false) := by rw [cell_of_row _ _ _ _ _ _ hA]; rfl
  have neRA : w.heap.size ≠ w.heap.size + 1 := by omega
  have nfRA := neRA.symm
  go_region_held3 (fun w' => w'.cell? ⟨w.heap.size, 0, none⟩ = some (.int .u64 (w0 (a) : Nat)) ∧ w'.cell? ⟨w.heap.size, 1, none⟩ = some (.int .u64 (w1 (a) : Nat)) ∧ w'.cell? ⟨w.heap.size, 2, none⟩ = some (.int .u64 (w2 (a) : Nat)) ∧ w'.cell? ⟨w.heap.size, 3, none⟩ = some (.int .u64 (w3 (a) : Nat)) ∧ w'.cell? ⟨w.heap.size, 4, none⟩ = some (.int .u64 (w0 (b) : Nat)) ∧ w'.cell? ⟨w.heap.size, 5, none⟩ = some (.int .u64 (w1 (b) : Nat)) ∧ w'.cell? ⟨w.heap.size, 6, none⟩ = some (.int .u64 (w2 (b) : Nat)) ∧ w'.cell? ⟨w.heap.size, 7, none⟩ = some (.int .u64 (w3 (b) : Nat)) ∧ w'.cell? ⟨w.heap.size, 8, none⟩ = some (.bool false)) (first | (with_reducible exact ⟨cA0, cA1, cA2, cA3, cA4, cA5, cA6, cA7, cA8⟩) | go_keep) (first | (go_at_call 17; refine (of_any _ _).mono ?_; rintro e W ⟨rfl, hb⟩; (replace hA := below_get hb (show _ = some (.cells #[.int .u64 (w0 (a) : Nat), .int .u64 (w1 (a) : Nat), .int .u64 (w2 (a) : Nat), .int .u64 (w3 (a) : Nat), .int .u64 (w0 (b) : Nat), .int .u64 (w1 (b) : Nat), .int .u64 (w2 (b) : Nat), .int .u64 (w3 (b) : Nat), .bool false] 52 (0, 0)) from by first | exact hA | exact ak hA)); (replace hR := below_get hb (show _ = some (.cells #[.int .u64 0, .int .u64 0, .int .u64 0, .int .u64 0, .int .u64 0, .int .u64 0, .int .u64 0, .int .u64 0, .int .u64 0, .int .u64 0, .int .u64 0, .int .u64 0] 103 (0, 0)) from by first | exact hR | exact ak hR)); (replace kk := bcl (by first | exact kk | exact kk.drew | exact bal kk _ | exact (bal kk _).drew) hb); (have cA0 : World.cell? W ⟨w.heap.size, 0, none⟩ = some (.int .u64 (w0 (a) : Nat)) := by rw [cell_of_row _ _ _ _ _ _ hA]; rfl); (have cA1 : World.cell? W ⟨w.heap.size, 1, none⟩ = some (.int .u64 (w1 (a) : Nat)) := by rw [cell_of_row _ _ _ _ _ _ hA]; rfl); (have cA2 : World.cell? W ⟨w.heap.size, 2, none⟩ = some (.int .u64 (w2 (a) : Nat)) := by rw [cell_of_row _ _ _ _ _ _ hA]; rfl); (have cA3 : World.cell? W ⟨w.heap.size, 3, none⟩ = some (.int .u64 (w3 (a) : Nat)) := by rw [cell_of_row _ _ _ _ _ _ hA]; rfl); (have cA4 : World.cell? W ⟨w.heap.size, 4, none⟩ = some (.int .u64 (w0 (b) : Nat)) := by rw [cell_of_row _ _ _ _ _ _ hA]; rfl); (have cA5 : World.cell? W ⟨w.heap.size, 5, none⟩ = some (.int .u64 (w1 (b) : Nat)) := by rw [cell_of_row _ _ _ _ _ _ hA]; rfl); (have cA6 : World.cell? W ⟨w.heap.size, 6, none⟩ = some (.int .u64 (w2 (b) : Nat)) := by rw [cell_of_row _ _ _ _ _ _ hA]; rfl); (have cA7 : World.cell? W ⟨w.heap.size, 7, none⟩ = some (.int .u64 (w3 (b) : Nat)) := by rw [cell_of_row _ _ _ _ _ _ hA]; rfl); (have cA8 : World.cell? W ⟨w.heap.size, 8, none⟩ = some (.bool false) := by rw [cell_of_row _ _ _ _ _ _ hA]; rfl); (have cR0 : World.cell? W ⟨w.heap.size + 1, 0, none⟩ = some (.int .u64 0) := by rw [cell_of_row _ _ _ _ _ _ hR]; rfl); (have cR1 : World.cell? W ⟨w.heap.size + 1, 1, none⟩ = some (.int .u64 0) := by rw [cell_of_row _ _ _ _ _ _ hR]; rfl); (have cR2 : World.cell? W ⟨w.heap.size + 1, 2, none⟩ = some (.int .u64 0) := by rw [cell_of_row _ _ _ _ _ _ hR]; rfl); (have cR3 : World.cell? W ⟨w.heap.size + 1, 3, none⟩ = some (.int .u64 0) := by rw [cell_of_row _ _ _ _ _ _ hR]; rfl); (have cR4 : World.cell? W ⟨w.heap.size + 1, 4, none⟩ = some (.int .u64 0) := by rw [cell_of_row _ _ _ _ _ _ hR]; rfl); (have cR5 : World.cell? W ⟨w.heap.size + 1, 5, none⟩ = some (.int .u64 0) := by rw [cell_of_row _ _ _ _ _ _ hR]; rfl); (have cR6 : World.cell? W ⟨w.heap.size + 1, 6, none⟩ = some (.int .u64 0) := by rw [cell_of_row _ _ _ _ _ _ hR]; rfl); (have cR7 : World.cell? W ⟨w.heap.size + 1, 7, none⟩ = some (.int .u64 0) := by rw [cell_of_row _ _ _ _ _ _ hR]; rfl); (have cR8 : World.cell? W ⟨w.heap.size + 1, 8, none⟩ = some (.int .u64 0) := by rw [cell_of_row _ _ _ _ _ _ hR]; rfl); (have cR9 : World.cell? W ⟨w.heap.size + 1, 9, none⟩ = some (.int .u64 0) := by rw [cell_of_row _ _ _ _ _ _ hR]; rfl); (have cR10 : World.cell? W ⟨w.heap.size + 1, 10, none⟩ = some (.int .u64 0) := by rw [cell_of_row _ _ _ _ _ _ hR]; rfl); (have cR11 : World.cell? W ⟨w.heap.size + 1, 11, none⟩ = some (.int .u64 0) := by rw [cell_of_row _ _ _ _ _ _ hR]; rfl); (have zR0 := frozen_of_row _ _ 0 _ _ hR); (have zR1 := frozen_of_row _ _ 1 _ _ hR); (have zR2 := frozen_of_row _ _ 2 _ _ hR); (have zR3 := frozen_of_row _ _ 3 _ _ hR); (have zR4 := frozen_of_row _ _ 4 _ _ hR); (have zR5 := frozen_of_row _ _ 5 _ _ hR); (have zR6 := frozen_of_row _ _ 6 _ _ hR); (have zR7 := frozen_of_row _ _ 7 _ _ hR); (have zR8 := frozen_of_row _ _ 8 _ _ hR); (have zR9 := frozen_of_row _ _ 9 _ _ hR); (have zR10 := frozen_of_row _ _ 10 _ _ hR); (have zR11 := frozen_of_row _ _ 11 _ _ hR); clear hb))
  go_simp
  go_wp2_with fail
  have P := put12 (.int .u64 (w0 (a) : Nat)) (.int .u64 (w1 (a) : Nat)) (.int .u64 (w2 (a) : Nat)) (.int .u64 (w3 (a) : Nat)) (.int .u64 (w0 (b) : Nat)) (.int .u64 (w1 (b) : Nat)) (.int .u64 (w2 (b) : Nat)) (.int .u64 (w3 (b) : Nat)) (.int .u64 1) (.int .u64 0) (.int .u64 0) (.int .u64 0) hR
  replace P := put_hid P
  obtain ⟨V9, hV9, P⟩ := P
  rw [hV9]
  have P9 := P.here
  have k9 := P.below (by omega) (show Below w.heap.size w W from by first | exact kk | exact kk.drew | exact below_drewN kk _)
  have v0 : V9.cell? ⟨w.heap.size + 1, 0, none⟩ = some (.int .u64 (w0 (a) : Nat)) := by rw [cell_of_row _ _ _ _ _ _ P9]; rfl
  have v1 : V9.cell? ⟨w.heap.size + 1, 1, none⟩ = some (.int .u64 (w1 (a) : Nat)) := by rw [cell_of_row _ _ _ _ _ _ P9]; rfl
  have v2 : V9.cell? ⟨w.heap.size + 1, 2, none⟩ = some (.int .u64 (w2 (a) : Nat)) := by rw [cell_of_row _ _ _ _ _ _ P9]; rfl
  have v3 : V9.cell? ⟨w.heap.size + 1, 3, none⟩ = some (.int .u64 (w3 (a) : Nat)) := by rw [cell_of_row _ _ _ _ _ _ P9]; rfl
  have v4 : V9.cell? ⟨w.heap.size + 1, 4, none⟩ = some (.int .u64 (w0 (b) : Nat)) := by rw [cell_of_row _ _ _ _ _ _ P9]; rfl
  have v5 : V9.cell? ⟨w.heap.size + 1, 5, none⟩ = some (.int .u64 (w1 (b) : Nat)) := by rw [cell_of_row _ _ _ _ _ _ P9]; rfl
  have v6 : V9.cell? ⟨w.heap.size + 1, 6, none⟩ = some (.int .u64 (w2 (b) : Nat)) := by rw [cell_of_row _ _ _ _ _ _ P9]; rfl
  have v7 : V9.cell? ⟨w.heap.size + 1, 7, none⟩ = some (.int .u64 (w3 (b) : Nat)) := by rw [cell_of_row _ _ _ _ _ _ P9]; rfl
  have v8 : V9.cell? ⟨w.heap.size + 1, 8, none⟩ = some (.int .u64 1) := by rw [cell_of_row _ _ _ _ _ _ P9]; rfl
  have v9 : V9.cell? ⟨w.heap.size + 1, 9, none⟩ = some (.int .u64 0) := by rw [cell_of_row _ _ _ _ _ _ P9]; rfl
  have v10 : V9.cell? ⟨w.heap.size + 1, 10, none⟩ = some (.int .u64 0) := by rw [cell_of_row _ _ _ _ _ _ P9]; rfl
  have v11 : V9.cell? ⟨w.heap.size + 1, 11, none⟩ = some (.int .u64 0) := by rw [cell_of_row _ _ _ _ _ _ P9]; rfl
  refine bodyPost_ret (v := _) (by simp [results, Try.results74, go_sem, v0, v1, v2, v3, v4, v5, v6, v7, v8, v9, v10, v11]; rfl) rfl ?_
  exact ⟨rfl, k9⟩
end Go.Proofs.Ytgghopmlcpcpkaa
