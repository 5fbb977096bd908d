/- A step of the proof: what a function of the program computes, or a plain law of numbers. -/
import Derived.Test.YtgghopmlcpcpkaaNilM
namespace Go.Proofs.Ytgghopmlcpcpkaa
open Go.RowKit PlainK
set_option linter.unusedVariables false
set_option linter.unusedSimpArgs false
theorem IsF.of {w w' : World} {g m : Nat} (h : IsF w g m) (q : w'.heap[g]? = some (.cells #[.int .u64 (w0 (m) : Nat), .int .u64 (w1 (m) : Nat), .int .u64 (w2 (m) : Nat), .int .u64 (w3 (m) : Nat), .int .u64 (finv1 (m) : Nat), .int .u64 (w0 (fsq (m)) : Nat), .int .u64 (w1 (fsq (m)) : Nat), .int .u64 (w2 (fsq (m)) : Nat), .int .u64 (w3 (fsq (m)) : Nat)] 90 (0, 0))) : IsF w' g m := ⟨q, h.odd, h.three, h.lt⟩
set_option maxRecDepth 10000 in
set_option maxHeartbeats 4000000 in
theorem lives_any (w : World) : Calls Try.prog 16 #[] w fun e w' => e = .returned (.bool true) ∧ Below w.heap.size w w' := by
  have hpos : 0 < 7 := by decide
  have HM := Lib.hid (show 7 < 2 ^ 256 by decide)
  go_enter Try.func16, Try.ntmps16
  go_wp2_with fail
  refine (of_any _ _).mono ?_
  rintro e V0 ⟨rfl, kk⟩
  go_wp2_with fail
  refine (newF_any (W4.small (n := 7) rfl (by decide)) _ (by decide) (by decide)).mono ?_
  rintro e V1 ⟨g, hg, rfl, hF, hb⟩
  have HF := Lib.hid hF
  have hQ := hF.blk
  have fF := hF
  have gK : w.heap.size ≤ g := Nat.le_trans kk.size hg
  replace kk := bcl (by exact kk) hb
  clear hb hF
  go_wp2_with fail
  refine (of_any _ _).mono ?_
  rintro e V2 ⟨rfl, hb⟩
  replace hQ := below_get hb (show _ = some (.cells #[.int .u64 (w0 (7) : Nat), .int .u64 (w1 (7) : Nat), .int .u64 (w2 (7) : Nat), .int .u64 (w3 (7) : Nat), .int .u64 (finv1 (7) : Nat), .int .u64 (w0 (fsq (7)) : Nat), .int .u64 (w1 (fsq (7)) : Nat), .int .u64 (w2 (fsq (7)) : Nat), .int .u64 (w3 (fsq (7)) : Nat)] 90 (0, 0)) from hQ)
  replace kk := bcl (by first | exact kk | exact kk.drew | exact below_drewN kk _) hb
  replace fF := IsF.of HF.out hQ
  clear hb
  go_wp2_with fail
  refine (inv_any (W4.small (n := 3) rfl (by decide)) _ fF).mono ?_
  rintro e V3 ⟨rfl, hb⟩
  replace hQ := below_get hb (show _ = some (.cells #[.int .u64 (w0 (7) : Nat), .int .u64 (w1 (7) : Nat), .int .u64 (w2 (7) : Nat), .int .u64 (w3 (7) : Nat), .int .u64 (finv1 (7) : Nat), .int .u64 (w0 (fsq (7)) : Nat), .int .u64 (w1 (fsq (7)) : Nat), .int .u64 (w2 (fsq (7)) : Nat), .int .u64 (w3 (fsq (7)) : Nat)] 90 (0, 0)) from hQ)
  replace kk := bcl (by first | exact kk | exact kk.drew | exact below_drewN kk _) hb
  replace fF := IsF.of HF.out hQ
  clear hb
  rw [show invN 3 7 = 5 from by decide +kernel, show invE 3 7 = 0 from by decide +kernel]
  go_upto_region 3 with fail
  obtain ⟨V4, hW⟩ : ∃ V, V3.alloc (.cells #[.int .u64 (w0 (5) : Nat), .int .u64 (w1 (5) : Nat), .int .u64 (w2 (5) : Nat), .int .u64 (w3 (5) : Nat)] 24 (0, 0)) = V := ⟨_, rfl⟩
  rw [hW]
  obtain ⟨bi, hbx⟩ : ∃ n, V3.heap.size = n := ⟨_, rfl⟩
  rw [hbx]
  have hX : V4.heap[bi]? = some (.cells #[.int .u64 (w0 (5) : Nat), .int .u64 (w1 (5) : Nat), .int .u64 (w2 (5) : Nat), .int .u64 (w3 (5) : Nat)] 24 (0, 0)) := by rw [← hW, ← hbx]; exact heap_alloc_new _ _
  have lIQ : g < bi := by rw [← hbx]; exact lt_of_heap hQ
  replace hQ : V4.heap[g]? = some (.cells #[.int .u64 (w0 (7) : Nat), .int .u64 (w1 (7) : Nat), .int .u64 (w2 (7) : Nat), .int .u64 (w3 (7) : Nat), .int .u64 (finv1 (7) : Nat), .int .u64 (w0 (fsq (7)) : Nat), .int .u64 (w1 (fsq (7)) : Nat), .int .u64 (w2 (fsq (7)) : Nat), .int .u64 (w3 (fsq (7)) : Nat)] 90 (0, 0)) := by rw [← hW]; exact ak hQ
  have lI : w.heap.size ≤ bi := by rw [← hbx]; exact kk.size
  replace kk : Below w.heap.size w V4 := by rw [← hW]; exact bal kk _
  have hI := hX
  replace fF := IsF.of HF.out hQ
  clear hX hW hbx
  go_wp2_with fail
  refine (of_any _ _).mono ?_
  rintro e V5 ⟨rfl, hb⟩
  replace hQ := below_get hb (show _ = some (.cells #[.int .u64 (w0 (7) : Nat), .int .u64 (w1 (7) : Nat), .int .u64 (w2 (7) : Nat), .int .u64 (w3 (7) : Nat), .int .u64 (finv1 (7) : Nat), .int .u64 (w0 (fsq (7)) : Nat), .int .u64 (w1 (fsq (7)) : Nat), .int .u64 (w2 (fsq (7)) : Nat), .int .u64 (w3 (fsq (7)) : Nat)] 90 (0, 0)) from hQ)
  replace hI := below_get hb (show _ = some (.cells #[.int .u64 (w0 (5) : Nat), .int .u64 (w1 (5) : Nat), .int .u64 (w2 (5) : Nat), .int .u64 (w3 (5) : Nat)] 24 (0, 0)) from hI)
  replace kk := bcl (by first | exact kk | exact kk.drew | exact below_drewN kk _) hb
  replace fF := IsF.of HF.out hQ
  clear hb
  go_wp2_with fail
  refine (root_any (W4.small (n := 2) rfl (by decide)) _ fF).mono ?_
  rintro e V6 ⟨rfl, hb⟩
  replace hQ := below_get hb (show _ = some (.cells #[.int .u64 (w0 (7) : Nat), .int .u64 (w1 (7) : Nat), .int .u64 (w2 (7) : Nat), .int .u64 (w3 (7) : Nat), .int .u64 (finv1 (7) : Nat), .int .u64 (w0 (fsq (7)) : Nat), .int .u64 (w1 (fsq (7)) : Nat), .int .u64 (w2 (fsq (7)) : Nat), .int .u64 (w3 (fsq (7)) : Nat)] 90 (0, 0)) from hQ)
  replace hI := below_get hb (show _ = some (.cells #[.int .u64 (w0 (5) : Nat), .int .u64 (w1 (5) : Nat), .int .u64 (w2 (5) : Nat), .int .u64 (w3 (5) : Nat)] 24 (0, 0)) from hI)
  replace kk := bcl (by first | exact kk | exact kk.drew | exact below_drewN kk _) hb
  replace fF := IsF.of HF.out hQ
  clear hb
  rw [show rootN 2 7 = 4 from by decide +kernel, show rootB 2 7 = true from by decide +kernel]
  go_upto_region 4 with fail
  obtain ⟨V7, hW⟩ : ∃ V, V6.alloc (.cells #[.int .u64 (w0 (4) : Nat), .int .u64 (w1 (4) : Nat), .int .u64 (w2 (4) : Nat), .int .u64 (w3 (4) : Nat)] 24 (0, 0)) = V := ⟨_, rfl⟩
  rw [hW]
  obtain ⟨br, hbx⟩ : ∃ n, V6.heap.size = n := ⟨_, rfl⟩
  rw [hbx]
  have hX : V7.heap[br]? = some (.cells #[.int .u64 (w0 (4) : Nat), .int .u64 (w1 (4) : Nat), .int .u64 (w2 (4) : Nat), .int .u64 (w3 (4) : Nat)] 24 (0, 0)) := by rw [← hW, ← hbx]; exact heap_alloc_new _ _
  have lRQ : g < br := by rw [← hbx]; exact lt_of_heap hQ
  replace hQ : V7.heap[g]? = some (.cells #[.int .u64 (w0 (7) : Nat), .int .u64 (w1 (7) : Nat), .int .u64 (w2 (7) : Nat), .int .u64 (w3 (7) : Nat), .int .u64 (finv1 (7) : Nat), .int .u64 (w0 (fsq (7)) : Nat), .int .u64 (w1 (fsq (7)) : Nat), .int .u64 (w2 (fsq (7)) : Nat), .int .u64 (w3 (fsq (7)) : Nat)] 90 (0, 0)) := by rw [← hW]; exact ak hQ
  have lRI : bi < br := by rw [← hbx]; exact lt_of_heap hI
  replace hI : V7.heap[bi]? = some (.cells #[.int .u64 (w0 (5) : Nat), .int .u64 (w1 (5) : Nat), .int .u64 (w2 (5) : Nat), .int .u64 (w3 (5) : Nat)] 24 (0, 0)) := by rw [← hW]; exact ak hI
  have lR : w.heap.size ≤ br := by rw [← hbx]; exact kk.size
  replace kk : Below w.heap.size w V7 := by rw [← hW]; exact bal kk _
  have hR := hX
  replace fF := IsF.of HF.out hQ
  clear hX hW hbx
  have q1 := eql_t (W4.mk' (show (5 + 4) % 7 < 2 ^ 256 by decide)) (W4.small (x := 2) (n := 2) rfl (by decide)) (show (5 + 4) % 7 = 2 by decide)
  have q2 := eql_t (W4.mk' (show 5 < 2 ^ 256 by decide)) (W4.small (x := 5) (n := 5) rfl (by decide)) rfl
  have q3 := eql_t (W4.mk' (show 4 < 2 ^ 256 by decide)) (W4.small (x := 4) (n := 4) rfl (by decide)) rfl
  have cI0 : World.cell? V7 ⟨bi, 0, none⟩ = some (.int .u64 (w0 (5) : Nat)) := by rw [cell_of_row _ _ _ _ _ _ hI]; rfl
  have cI1 : World.cell? V7 ⟨bi, 1, none⟩ = some (.int .u64 (w1 (5) : Nat)) := by rw [cell_of_row _ _ _ _ _ _ hI]; rfl
  have cI2 : World.cell? V7 ⟨bi, 2, none⟩ = some (.int .u64 (w2 (5) : Nat)) := by rw [cell_of_row _ _ _ _ _ _ hI]; rfl
  have cI3 : World.cell? V7 ⟨bi, 3, none⟩ = some (.int .u64 (w3 (5) : Nat)) := by rw [cell_of_row _ _ _ _ _ _ hI]; rfl
  have cR0 : World.cell? V7 ⟨br, 0, none⟩ = some (.int .u64 (w0 (4) : Nat)) := by rw [cell_of_row _ _ _ _ _ _ hR]; rfl
  have cR1 : World.cell? V7 ⟨br, 1, none⟩ = some (.int .u64 (w1 (4) : Nat)) := by rw [cell_of_row _ _ _ _ _ _ hR]; rfl
  have cR2 : World.cell? V7 ⟨br, 2, none⟩ = some (.int .u64 (w2 (4) : Nat)) := by rw [cell_of_row _ _ _ _ _ _ hR]; rfl
  have cR3 : World.cell? V7 ⟨br, 3, none⟩ = some (.int .u64 (w3 (4) : Nat)) := by rw [cell_of_row _ _ _ _ _ _ hR]; rfl
  go_region_held3 (fun w' => w'.cell? ⟨bi, 0, none⟩ = some (.int .u64 (w0 (5) : Nat)) ∧ w'.cell? ⟨bi, 1, none⟩ = some (.int .u64 (w1 (5) : Nat)) ∧ w'.cell? ⟨bi, 2, none⟩ = some (.int .u64 (w2 (5) : Nat)) ∧ w'.cell? ⟨bi, 3, none⟩ = some (.int .u64 (w3 (5) : Nat)) ∧ w'.cell? ⟨br, 0, none⟩ = some (.int .u64 (w0 (4) : Nat)) ∧ w'.cell? ⟨br, 1, none⟩ = some (.int .u64 (w1 (4) : Nat)) ∧ w'.cell? ⟨br, 2, none⟩ = some (.int .u64 (w2 (4) : Nat)) ∧ w'.cell? ⟨br, 3, none⟩ = some (.int .u64 (w3 (4) : Nat))) (first | (with_reducible exact ⟨cI0, cI1, cI2, cI3, cR0, cR1, cR2, cR3⟩) | go_keep) (first | (go_at_call 17; refine (of_any _ _).mono ?_; rintro e W ⟨rfl, hb⟩; (replace hQ := below_get hb (show _ = some (.cells #[.int .u64 (w0 (7) : Nat), .int .u64 (w1 (7) : Nat), .int .u64 (w2 (7) : Nat), .int .u64 (w3 (7) : Nat), .int .u64 (finv1 (7) : Nat), .int .u64 (w0 (fsq (7)) : Nat), .int .u64 (w1 (fsq (7)) : Nat), .int .u64 (w2 (fsq (7)) : Nat), .int .u64 (w3 (fsq (7)) : Nat)] 90 (0, 0)) from by first | exact hQ | exact ak hQ)); (replace hI := below_get hb (show _ = some (.cells #[.int .u64 (w0 (5) : Nat), .int .u64 (w1 (5) : Nat), .int .u64 (w2 (5) : Nat), .int .u64 (w3 (5) : Nat)] 24 (0, 0)) from by first | exact hI | exact ak hI)); (replace hR := below_get hb (show _ = some (.cells #[.int .u64 (w0 (4) : Nat), .int .u64 (w1 (4) : Nat), .int .u64 (w2 (4) : Nat), .int .u64 (w3 (4) : Nat)] 24 (0, 0)) from by first | exact hR | exact ak hR)); (replace kk := bcl (by first | exact kk | exact kk.drew | exact bal kk _ | exact (bal kk _).drew) hb); (replace fF := IsF.of HF.out hQ); (have cI0 : World.cell? W ⟨bi, 0, none⟩ = some (.int .u64 (w0 (5) : Nat)) := by rw [cell_of_row _ _ _ _ _ _ hI]; rfl); (have cI1 : World.cell? W ⟨bi, 1, none⟩ = some (.int .u64 (w1 (5) : Nat)) := by rw [cell_of_row _ _ _ _ _ _ hI]; rfl); (have cI2 : World.cell? W ⟨bi, 2, none⟩ = some (.int .u64 (w2 (5) : Nat)) := by rw [cell_of_row _ _ _ _ _ _ hI]; rfl); (have cI3 : World.cell? W ⟨bi, 3, none⟩ = some (.int .u64 (w3 (5) : Nat)) := by rw [cell_of_row _ _ _ _ _ _ hI]; rfl); (have cR0 : World.cell? W ⟨br, 0, none⟩ = some (.int .u64 (w0 (4) : Nat)) := by rw [cell_of_row _ _ _ _ _ _ hR]; rfl); (have cR1 : World.cell? W ⟨br, 1, none⟩ = some (.int .u64 (w1 (4) : Nat)) := by rw [cell_of_row _ _ _ _ _ _ hR]; rfl); (have cR2 : World.cell? W ⟨br, 2, none⟩ = some (.int .u64 (w2 (4) : Nat)) := by rw [cell_of_row _ _ _ _ _ _ hR]; rfl); (have cR3 : World.cell? W ⟨br, 3, none⟩ = some (.int .u64 (w3 (4) : Nat)) := by rw [cell_of_row _ _ _ _ _ _ hR]; rfl); clear hb) | (go_at_call 32; refine (addF_any (by first | exact W4.mk' (Nat.lt_trans (Nat.mod_lt _ hpos) HM.out) | exact W4.small (n := 1) rfl (by decide) | exact W4.small (n := 2) rfl (by decide) | exact W4.small (n := 3) rfl (by decide) | exact W4.small (n := 4) rfl (by decide) | exact W4.small (n := 5) rfl (by decide) | exact W4.small (n := 7) rfl (by decide)) (by first | exact W4.mk' (Nat.lt_trans (Nat.mod_lt _ hpos) HM.out) | exact W4.small (n := 1) rfl (by decide) | exact W4.small (n := 2) rfl (by decide) | exact W4.small (n := 3) rfl (by decide) | exact W4.small (n := 4) rfl (by decide) | exact W4.small (n := 5) rfl (by decide) | exact W4.small (n := 7) rfl (by decide)) _ (show IsF _ (g) (7) from (by first | exact fF | exact ⟨fF.blk, fF.odd, fF.three, fF.lt⟩))).mono ?_; rintro e W ⟨rfl, hb⟩; (replace hQ := below_get hb (show _ = some (.cells #[.int .u64 (w0 (7) : Nat), .int .u64 (w1 (7) : Nat), .int .u64 (w2 (7) : Nat), .int .u64 (w3 (7) : Nat), .int .u64 (finv1 (7) : Nat), .int .u64 (w0 (fsq (7)) : Nat), .int .u64 (w1 (fsq (7)) : Nat), .int .u64 (w2 (fsq (7)) : Nat), .int .u64 (w3 (fsq (7)) : Nat)] 90 (0, 0)) from by first | exact hQ | exact ak hQ)); (replace hI := below_get hb (show _ = some (.cells #[.int .u64 (w0 (5) : Nat), .int .u64 (w1 (5) : Nat), .int .u64 (w2 (5) : Nat), .int .u64 (w3 (5) : Nat)] 24 (0, 0)) from by first | exact hI | exact ak hI)); (replace hR := below_get hb (show _ = some (.cells #[.int .u64 (w0 (4) : Nat), .int .u64 (w1 (4) : Nat), .int .u64 (w2 (4) : Nat), .int .u64 (w3 (4) : Nat)] 24 (0, 0)) from by first | exact hR | exact ak hR)); (replace kk := bcl (by first | exact kk | exact kk.drew | exact bal kk _ | exact (bal kk _).drew) hb); (replace fF := IsF.of HF.out hQ); (have cI0 : World.cell? W ⟨bi, 0, none⟩ = some (.int .u64 (w0 (5) : Nat)) := by rw [cell_of_row _ _ _ _ _ _ hI]; rfl); (have cI1 : World.cell? W ⟨bi, 1, none⟩ = some (.int .u64 (w1 (5) : Nat)) := by rw [cell_of_row _ _ _ _ _ _ hI]; rfl); (have cI2 : World.cell? W ⟨bi, 2, none⟩ = some (.int .u64 (w2 (5) : Nat)) := by rw [cell_of_row _ _ _ _ _ _ hI]; rfl); (have cI3 : World.cell? W ⟨bi, 3, none⟩ = some (.int .u64 (w3 (5) : Nat)) := by rw [cell_of_row _ _ _ _ _ _ hI]; rfl); (have cR0 : World.cell? W ⟨br, 0, none⟩ = some (.int .u64 (w0 (4) : Nat)) := by rw [cell_of_row _ _ _ _ _ _ hR]; rfl); (have cR1 : World.cell? W ⟨br, 1, none⟩ = some (.int .u64 (w1 (4) : Nat)) := by rw [cell_of_row _ _ _ _ _ _ hR]; rfl); (have cR2 : World.cell? W ⟨br, 2, none⟩ = some (.int .u64 (w2 (4) : Nat)) := by rw [cell_of_row _ _ _ _ _ _ hR]; rfl); (have cR3 : World.cell? W ⟨br, 3, none⟩ = some (.int .u64 (w3 (4) : Nat)) := by rw [cell_of_row _ _ _ _ _ _ hR]; rfl); clear hb))
  go_simp
  go_wp2_with fail
  refine bodyPost_ret (v := _) (by simp [results, Try.results16, go_sem]; rfl) rfl ?_
  exact ⟨rfl, kk⟩
end Go.Proofs.Ytgghopmlcpcpkaa
