/- A step of the proof: what a function of the program computes, or a plain law of numbers. -/
import Derived.Test.YtgghopmlcpcpkaaInvM
namespace Go.Proofs.Ytgghopmlcpcpkaa
open Go.RowKit PlainK
set_option linter.unusedVariables false
set_option linter.unusedSimpArgs false
def rootV (a m : Nat) : Nat := a ^ (m / 4 + 1) % m
def rootB (a m : Nat) : Bool := decide (m % 4 = 3) && decide (rootV a m * rootV a m % m = a % m)
def rootN (a m : Nat) : Nat := if m % 4 = 3 ∧ rootV a m * rootV a m % m = a % m then rootV a m else 0
theorem low_two (m : Nat) : bits .and .u64 (w0 m : Nat) 3 = ((m % 4 : Nat) : Int) := by
  have h := bits_and_u64_nat (w0 m) 3 (w_lt m).1 (by omega)
  rw [show (3 : Nat) = 2 ^ 2 - 1 from rfl, Nat.and_two_pow_sub_one_eq_mod] at h
  have e : w0 m % 2 ^ 2 = m % 4 := by unfold w0; omega
  rw [e] at h
  exact h
theorem addm_four {m : Nat} (h : m < 2 ^ 256) : addm (m / 4) 1 = m / 4 + 1 := by unfold addm; omega
set_option maxRecDepth 10000 in
set_option maxHeartbeats 4000000 in
theorem root_any {a0 a1 a2 a3 : Int} {a m g : Nat} (ha : W4 a0 a1 a2 a3 a) (w : World) (hF : IsF w g m) :
   Calls Try.prog 29 #[.pointer (some ⟨g, 0, none⟩), .agg #[.int .u64 a0, .int .u64 a1, .int .u64 a2, .int .u64 a3]] w fun e w' =>
    e = .returned (.tuple #[.agg #[.int .u64 (w0 (rootN a m) : Nat), .int .u64 (w1 (rootN a m) : Nat), .int .u64 (w2 (rootN a m) : Nat), .int .u64 (w3 (rootN a m) : Nat)], .bool (rootB a m)]) ∧ Below w.heap.size w w' := by
  obtain ⟨rfl, rfl, rfl, rfl, la⟩ := ha
  have hla := Lib.hid la
  have HF := Lib.hid hF
  have HM := Lib.hid hF.lt
  have hpos : 0 < m := by have := hF.three; omega
  have hb3 := low_two m
  clear la hF
  go_enter Try.func29, Try.ntmps29
  go_upto_region 1 with fail
  obtain ⟨V0, hW⟩ : ∃ V, (w.alloc (.cells #[.int .u64 (w0 (a) : Nat), .int .u64 (w1 (a) : Nat), .int .u64 (w2 (a) : Nat), .int .u64 (w3 (a) : Nat)] 24)).alloc (.cells #[.int .u64 0, .int .u64 0, .int .u64 0, .int .u64 0] 24 (0, 0)) = V := ⟨_, rfl⟩
  rw [hW]
  have hA : V0.heap[w.heap.size]? = some (.cells #[.int .u64 (w0 (a) : Nat), .int .u64 (w1 (a) : Nat), .int .u64 (w2 (a) : Nat), .int .u64 (w3 (a) : Nat)] 24 (0, 0)) := by
    rw [← hW]; simp only [alloc_at, World.size_alloc]; repeat (first | rw [if_pos trivial] | rw [if_pos (by omega)] | rw [if_neg (by omega)])
  have hR : V0.heap[w.heap.size + 1]? = some (.cells #[.int .u64 0, .int .u64 0, .int .u64 0, .int .u64 0] 24 (0, 0)) := by
    rw [← hW]; simp only [alloc_at, World.size_alloc]; repeat (first | rw [if_pos trivial] | rw [if_pos (by omega)] | rw [if_neg (by omega)])
  have kk : Below w.heap.size w V0 := by
    rw [← hW]
    repeat (first | exact Below.refl _ _ | refine Below.drew ?_ | refine bal ?_ _)
  have fF := HF.out.keep kk
  clear hW
  have hQ := fF.blk
  have cm0 : V0.cell? ⟨g, 0, none⟩ = some (.int .u64 (w0 (m) : Nat)) := by rw [cell_of_row _ _ _ _ _ _ hQ]; rfl
  have cm1 : V0.cell? ⟨g, 1, none⟩ = some (.int .u64 (w1 (m) : Nat)) := by rw [cell_of_row _ _ _ _ _ _ hQ]; rfl
  have cm2 : V0.cell? ⟨g, 2, none⟩ = some (.int .u64 (w2 (m) : Nat)) := by rw [cell_of_row _ _ _ _ _ _ hQ]; rfl
  have cm3 : V0.cell? ⟨g, 3, none⟩ = some (.int .u64 (w3 (m) : Nat)) := by rw [cell_of_row _ _ _ _ _ _ hQ]; rfl
  have cR0 : V0.cell? ⟨w.heap.size + 1, 0, none⟩ = some (.int .u64 0) := by rw [cell_of_row _ _ _ _ _ _ hR]; rfl
  have zR0 := frozen_of_row _ _ 0 _ _ hR
  have cR1 : V0.cell? ⟨w.heap.size + 1, 1, none⟩ = some (.int .u64 0) := by rw [cell_of_row _ _ _ _ _ _ hR]; rfl
  have zR1 := frozen_of_row _ _ 1 _ _ hR
  have cR2 : V0.cell? ⟨w.heap.size + 1, 2, none⟩ = some (.int .u64 0) := by rw [cell_of_row _ _ _ _ _ _ hR]; rfl
  have zR2 := frozen_of_row _ _ 2 _ _ hR
  have cR3 : V0.cell? ⟨w.heap.size + 1, 3, none⟩ = some (.int .u64 0) := by rw [cell_of_row _ _ _ _ _ _ hR]; rfl
  have zR3 := frozen_of_row _ _ 3 _ _ hR
  have cA0 : V0.cell? ⟨w.heap.size, 0, none⟩ = some (.int .u64 (w0 (a) : Nat)) := by rw [cell_of_row _ _ _ _ _ _ hA]; rfl
  have zA0 := frozen_of_row _ _ 0 _ _ hA
  have cA1 : V0.cell? ⟨w.heap.size, 1, none⟩ = some (.int .u64 (w1 (a) : Nat)) := by rw [cell_of_row _ _ _ _ _ _ hA]; rfl
  have zA1 := frozen_of_row _ _ 1 _ _ hA
  have cA2 : V0.cell? ⟨w.heap.size, 2, none⟩ = some (.int .u64 (w2 (a) : Nat)) := by rw [cell_of_row _ _ _ _ _ _ hA]; rfl
  have zA2 := frozen_of_row _ _ 2 _ _ hA
  have cA3 : V0.cell? ⟨w.heap.size, 3, none⟩ = some (.int .u64 (w3 (a) : Nat)) := by rw [cell_of_row _ _ _ _ _ _ hA]; rfl
  have zA3 := frozen_of_row _ _ 3 _ _ hA
  by_cases h4 : m % 4 = 3
  · have H4 := Lib.hid h4
    rw [h4] at hb3
    have hb3' : bits .and .u64 (w0 m : Nat) 3 = 3 := hb3
    clear hb3 h4
    go_wp2_with fail
    refine (right2_any (W4.mk' HM.out) _).mono ?_
    rintro e V1 ⟨rfl, hb⟩
    replace hA := below_get hb (show _ = some (.cells #[.int .u64 (w0 (a) : Nat), .int .u64 (w1 (a) : Nat), .int .u64 (w2 (a) : Nat), .int .u64 (w3 (a) : Nat)] 24 (0, 0)) from hA)
    replace hR := below_get hb (show _ = some (.cells #[.int .u64 0, .int .u64 0, .int .u64 0, .int .u64 0] 24 (0, 0)) from hR)
    replace kk := bcl (by first | exact kk | exact kk.drew | exact below_drewN kk _) hb
    replace fF := HF.out.keep kk
    clear cR0 zR0 cR1 zR1 cR2 zR2 cR3 zR3 cA0 zA0 cA1 zA1 cA2 zA2 cA3 zA3
    clear hb
    go_wp2_with fail
    refine (of_any _ _).mono ?_
    rintro e V2 ⟨rfl, hb⟩
    replace hA := below_get hb (show _ = some (.cells #[.int .u64 (w0 (a) : Nat), .int .u64 (w1 (a) : Nat), .int .u64 (w2 (a) : Nat), .int .u64 (w3 (a) : Nat)] 24 (0, 0)) from hA)
    replace hR := below_get hb (show _ = some (.cells #[.int .u64 0, .int .u64 0, .int .u64 0, .int .u64 0] 24 (0, 0)) from hR)
    replace kk := bcl (by first | exact kk | exact kk.drew | exact below_drewN kk _) hb
    replace fF := HF.out.keep kk
    clear hb
    go_wp2_with fail
    refine (add_any (W4.mk' (Nat.lt_of_le_of_lt (Nat.div_le_self _ _) HM.out)) (W4.small (n := 1) rfl (by decide)) _).mono ?_
    rintro e V3 ⟨rfl, hb⟩
    replace hA := below_get hb (show _ = some (.cells #[.int .u64 (w0 (a) : Nat), .int .u64 (w1 (a) : Nat), .int .u64 (w2 (a) : Nat), .int .u64 (w3 (a) : Nat)] 24 (0, 0)) from hA)
    replace hR := below_get hb (show _ = some (.cells #[.int .u64 0, .int .u64 0, .int .u64 0, .int .u64 0] 24 (0, 0)) from hR)
    replace kk := bcl (by first | exact kk | exact kk.drew | exact below_drewN kk _) hb
    replace fF := HF.out.keep kk
    clear hb
    rw [addm_four HM.out]
    go_upto_region 4 with fail
    obtain ⟨V4, hW⟩ : ∃ V, V3.alloc (.cells #[.int .u64 (w0 (m / 4 + 1) : Nat), .int .u64 (w1 (m / 4 + 1) : Nat), .int .u64 (w2 (m / 4 + 1) : Nat), .int .u64 (w3 (m / 4 + 1) : Nat)] 24 (0, 0)) = V := ⟨_, rfl⟩
    rw [hW]
    obtain ⟨bq, hbx⟩ : ∃ n, V3.heap.size = n := ⟨_, rfl⟩
    rw [hbx]
    have hX : V4.heap[bq]? = some (.cells #[.int .u64 (w0 (m / 4 + 1) : Nat), .int .u64 (w1 (m / 4 + 1) : Nat), .int .u64 (w2 (m / 4 + 1) : Nat), .int .u64 (w3 (m / 4 + 1) : Nat)] 24 (0, 0)) := by rw [← hW, ← hbx]; exact heap_alloc_new _ _
    have lKA : w.heap.size < bq := by rw [← hbx]; exact lt_of_heap hA
    replace hA : V4.heap[w.heap.size]? = some (.cells #[.int .u64 (w0 (a) : Nat), .int .u64 (w1 (a) : Nat), .int .u64 (w2 (a) : Nat), .int .u64 (w3 (a) : Nat)] 24 (0, 0)) := by rw [← hW]; exact ak hA
    have lKR : w.heap.size + 1 < bq := by rw [← hbx]; exact lt_of_heap hR
    replace hR : V4.heap[w.heap.size + 1]? = some (.cells #[.int .u64 0, .int .u64 0, .int .u64 0, .int .u64 0] 24 (0, 0)) := by rw [← hW]; exact ak hR
    have lK : w.heap.size ≤ bq := by rw [← hbx]; exact kk.size
    replace kk : Below w.heap.size w V4 := by rw [← hW]; exact bal kk _
    have hK := hX
    replace fF := HF.out.keep kk
    clear hX hW hbx
    have cA0 : V4.cell? ⟨w.heap.size, 0, none⟩ = some (.int .u64 (w0 (a) : Nat)) := by rw [cell_of_row _ _ _ _ _ _ hA]; rfl
    have zA0 := frozen_of_row _ _ 0 _ _ hA
    have cA1 : V4.cell? ⟨w.heap.size, 1, none⟩ = some (.int .u64 (w1 (a) : Nat)) := by rw [cell_of_row _ _ _ _ _ _ hA]; rfl
    have zA1 := frozen_of_row _ _ 1 _ _ hA
    have cA2 : V4.cell? ⟨w.heap.size, 2, none⟩ = some (.int .u64 (w2 (a) : Nat)) := by rw [cell_of_row _ _ _ _ _ _ hA]; rfl
    have zA2 := frozen_of_row _ _ 2 _ _ hA
    have cA3 : V4.cell? ⟨w.heap.size, 3, none⟩ = some (.int .u64 (w3 (a) : Nat)) := by rw [cell_of_row _ _ _ _ _ _ hA]; rfl
    have zA3 := frozen_of_row _ _ 3 _ _ hA
    have cK0 : V4.cell? ⟨bq, 0, none⟩ = some (.int .u64 (w0 (m / 4 + 1) : Nat)) := by rw [cell_of_row _ _ _ _ _ _ hK]; rfl
    have zK0 := frozen_of_row _ _ 0 _ _ hK
    have cK1 : V4.cell? ⟨bq, 1, none⟩ = some (.int .u64 (w1 (m / 4 + 1) : Nat)) := by rw [cell_of_row _ _ _ _ _ _ hK]; rfl
    have zK1 := frozen_of_row _ _ 1 _ _ hK
    have cK2 : V4.cell? ⟨bq, 2, none⟩ = some (.int .u64 (w2 (m / 4 + 1) : Nat)) := by rw [cell_of_row _ _ _ _ _ _ hK]; rfl
    have zK2 := frozen_of_row _ _ 2 _ _ hK
    have cK3 : V4.cell? ⟨bq, 3, none⟩ = some (.int .u64 (w3 (m / 4 + 1) : Nat)) := by rw [cell_of_row _ _ _ _ _ _ hK]; rfl
    have zK3 := frozen_of_row _ _ 3 _ _ hK
    go_wp2_with fail
    refine (pow_any (W4.mk' hla.out) (W4.mk' (Nat.lt_of_le_of_lt (show m / 4 + 1 ≤ m by have := HF.out.three; omega) HM.out)) _ fF).mono ?_
    rintro e V5 ⟨rfl, hb⟩
    replace hA := below_get hb (show _ = some (.cells #[.int .u64 (w0 (a) : Nat), .int .u64 (w1 (a) : Nat), .int .u64 (w2 (a) : Nat), .int .u64 (w3 (a) : Nat)] 24 (0, 0)) from hA)
    replace hR := below_get hb (show _ = some (.cells #[.int .u64 0, .int .u64 0, .int .u64 0, .int .u64 0] 24 (0, 0)) from hR)
    replace hK := below_get hb (show _ = some (.cells #[.int .u64 (w0 (m / 4 + 1) : Nat), .int .u64 (w1 (m / 4 + 1) : Nat), .int .u64 (w2 (m / 4 + 1) : Nat), .int .u64 (w3 (m / 4 + 1) : Nat)] 24 (0, 0)) from hK)
    replace kk := bcl (by first | exact kk | exact kk.drew | exact below_drewN kk _) hb
    replace fF := HF.out.keep kk
    clear cA0 zA0 cA1 zA1 cA2 zA2 cA3 zA3 cK0 zK0 cK1 zK1 cK2 zK2 cK3 zK3
    clear hb
    obtain ⟨X, hX⟩ : ∃ x, a ^ (m / 4 + 1) % m = x := ⟨_, rfl⟩
    rw [hX]
    have HX := Lib.hid (show rootV a m = X from hX)
    have HXm := Lib.hid (show X < m by rw [← hX]; exact Nat.mod_lt _ hpos)
    have HXl := Lib.hid (Nat.lt_trans HXm.out HM.out)
    clear hX
    go_upto_region 5 with fail
    obtain ⟨V6, hW⟩ : ∃ V, V5.alloc (.cells #[.int .u64 (w0 (X) : Nat), .int .u64 (w1 (X) : Nat), .int .u64 (w2 (X) : Nat), .int .u64 (w3 (X) : Nat)] 24 (0, 0)) = V := ⟨_, rfl⟩
    rw [hW]
    obtain ⟨bx, hbx⟩ : ∃ n, V5.heap.size = n := ⟨_, rfl⟩
    rw [hbx]
    have hX : V6.heap[bx]? = some (.cells #[.int .u64 (w0 (X) : Nat), .int .u64 (w1 (X) : Nat), .int .u64 (w2 (X) : Nat), .int .u64 (w3 (X) : Nat)] 24 (0, 0)) := by rw [← hW, ← hbx]; exact heap_alloc_new _ _
    have lXA : w.heap.size < bx := by rw [← hbx]; exact lt_of_heap hA
    replace hA : V6.heap[w.heap.size]? = some (.cells #[.int .u64 (w0 (a) : Nat), .int .u64 (w1 (a) : Nat), .int .u64 (w2 (a) : Nat), .int .u64 (w3 (a) : Nat)] 24 (0, 0)) := by rw [← hW]; exact ak hA
    have lXR : w.heap.size + 1 < bx := by rw [← hbx]; exact lt_of_heap hR
    replace hR : V6.heap[w.heap.size + 1]? = some (.cells #[.int .u64 0, .int .u64 0, .int .u64 0, .int .u64 0] 24 (0, 0)) := by rw [← hW]; exact ak hR
    have lXK : bq < bx := by rw [← hbx]; exact lt_of_heap hK
    replace hK : V6.heap[bq]? = some (.cells #[.int .u64 (w0 (m / 4 + 1) : Nat), .int .u64 (w1 (m / 4 + 1) : Nat), .int .u64 (w2 (m / 4 + 1) : Nat), .int .u64 (w3 (m / 4 + 1) : Nat)] 24 (0, 0)) := by rw [← hW]; exact ak hK
    have lX : w.heap.size ≤ bx := by rw [← hbx]; exact kk.size
    replace kk : Below w.heap.size w V6 := by rw [← hW]; exact bal kk _
    have hX := hX
    replace fF := HF.out.keep kk
    clear hX hW hbx
    by_cases hs : X * X % m = a % m
    · have hq := neq_f (W4.mk' (Nat.lt_trans (Nat.mod_lt (X * X) hpos) HM.out)) (W4.mk' (Nat.lt_trans (Nat.mod_lt a hpos) HM.out)) hs
      have HS := Lib.hid hs
      clear hs
      have hQ := fF.blk
      have cX0 : World.cell? V6 ⟨bx, 0, none⟩ = some (.int .u64 (w0 (X) : Nat)) := by rw [cell_of_row _ _ _ _ _ _ hX]; rfl
      have cX1 : World.cell? V6 ⟨bx, 1, none⟩ = some (.int .u64 (w1 (X) : Nat)) := by rw [cell_of_row _ _ _ _ _ _ hX]; rfl
      have cX2 : World.cell? V6 ⟨bx, 2, none⟩ = some (.int .u64 (w2 (X) : Nat)) := by rw [cell_of_row _ _ _ _ _ _ hX]; rfl
      have cX3 : World.cell? V6 ⟨bx, 3, none⟩ = some (.int .u64 (w3 (X) : Nat)) := by rw [cell_of_row _ _ _ _ _ _ hX]; rfl
      have cA0 : World.cell? V6 ⟨w.heap.size, 0, none⟩ = some (.int .u64 (w0 (a) : Nat)) := by rw [cell_of_row _ _ _ _ _ _ hA]; rfl
      have cA1 : World.cell? V6 ⟨w.heap.size, 1, none⟩ = some (.int .u64 (w1 (a) : Nat)) := by rw [cell_of_row _ _ _ _ _ _ hA]; rfl
      have cA2 : World.cell? V6 ⟨w.heap.size, 2, none⟩ = some (.int .u64 (w2 (a) : Nat)) := by rw [cell_of_row _ _ _ _ _ _ hA]; rfl
      have cA3 : World.cell? V6 ⟨w.heap.size, 3, none⟩ = some (.int .u64 (w3 (a) : Nat)) := by rw [cell_of_row _ _ _ _ _ _ hA]; rfl
      go_region_held3 (fun w' => w'.cell? ⟨bx, 0, none⟩ = some (.int .u64 (w0 (X) : Nat)) ∧ w'.cell? ⟨bx, 1, none⟩ = some (.int .u64 (w1 (X) : Nat)) ∧ w'.cell? ⟨bx, 2, none⟩ = some (.int .u64 (w2 (X) : Nat)) ∧ w'.cell? ⟨bx, 3, none⟩ = some (.int .u64 (w3 (X) : Nat)) ∧ w'.cell? ⟨w.heap.size, 0, none⟩ = some (.int .u64 (w0 (a) : Nat)) ∧ w'.cell? ⟨w.heap.size, 1, none⟩ = some (.int .u64 (w1 (a) : Nat)) ∧ w'.cell? ⟨w.heap.size, 2, none⟩ = some (.int .u64 (w2 (a) : Nat)) ∧ w'.cell? ⟨w.heap.size, 3, none⟩ = some (.int .u64 (w3 (a) : Nat))) (first | (with_reducible exact ⟨cX0, cX1, cX2, cX3, cA0, cA1, cA2, cA3⟩) | go_keep) (first | (go_at_call 26; refine (mulF_any (by first | exact W4.mk' HXl.out | exact W4.mk' hla.out | exact W4.mk' (Nat.lt_trans (Nat.mod_lt _ hpos) HM.out) | exact W4.small (n := 1) rfl (by decide) | exact W4.small (n := 2) rfl (by decide) | exact W4.small (n := 3) rfl (by decide) | exact W4.small (n := 4) rfl (by decide) | exact W4.small (n := 5) rfl (by decide) | exact W4.small (n := 7) rfl (by decide)) (by first | exact W4.mk' HXl.out | exact W4.mk' hla.out | exact W4.mk' (Nat.lt_trans (Nat.mod_lt _ hpos) HM.out) | exact W4.small (n := 1) rfl (by decide) | exact W4.small (n := 2) rfl (by decide) | exact W4.small (n := 3) rfl (by decide) | exact W4.small (n := 4) rfl (by decide) | exact W4.small (n := 5) rfl (by decide) | exact W4.small (n := 7) rfl (by decide)) _ (show IsF _ (g) (m) from (by first | exact fF | exact ⟨fF.blk, fF.odd, fF.three, fF.lt⟩))).mono ?_; rintro e W ⟨rfl, hb⟩; (replace hA := below_get hb (show _ = some (.cells #[.int .u64 (w0 (a) : Nat), .int .u64 (w1 (a) : Nat), .int .u64 (w2 (a) : Nat), .int .u64 (w3 (a) : Nat)] 24 (0, 0)) from by first | exact hA | exact ak hA)); (replace hR := below_get hb (show _ = some (.cells #[.int .u64 0, .int .u64 0, .int .u64 0, .int .u64 0] 24 (0, 0)) from by first | exact hR | exact ak hR)); (replace hK := below_get hb (show _ = some (.cells #[.int .u64 (w0 (m / 4 + 1) : Nat), .int .u64 (w1 (m / 4 + 1) : Nat), .int .u64 (w2 (m / 4 + 1) : Nat), .int .u64 (w3 (m / 4 + 1) : Nat)] 24 (0, 0)) from by first | exact hK | exact ak hK)); (replace hX := below_get hb (show _ = some (.cells #[.int .u64 (w0 (X) : Nat), .int .u64 (w1 (X) : Nat), .int .u64 (w2 (X) : Nat), .int .u64 (w3 (X) : Nat)] 24 (0, 0)) from by first | exact hX | exact ak hX)); (replace kk := bcl (by first | exact kk | exact kk.drew | exact bal kk _ | exact (bal kk _).drew) hb); (replace fF := HF.out.keep kk); (replace hQ := fF.blk); (have cX0 : World.cell? W ⟨bx, 0, none⟩ = some (.int .u64 (w0 (X) : Nat)) := by rw [cell_of_row _ _ _ _ _ _ hX]; rfl); (have cX1 : World.cell? W ⟨bx, 1, none⟩ = some (.int .u64 (w1 (X) : Nat)) := by rw [cell_of_row _ _ _ _ _ _ hX]; rfl); (have cX2 : World.cell? W ⟨bx, 2, none⟩ = some (.int .u64 (w2 (X) : Nat)) := by rw [cell_of_row _ _ _ _ _ _ hX]; rfl); (have cX3 : World.cell? W ⟨bx, 3, none⟩ = some (.int .u64 (w3 (X) : Nat)) := by rw [cell_of_row _ _ _ _ _ _ hX]; rfl); (have cA0 : World.cell? W ⟨w.heap.size, 0, none⟩ = some (.int .u64 (w0 (a) : Nat)) := by rw [cell_of_row _ _ _ _ _ _ hA]; rfl); (have cA1 : World.cell? W ⟨w.heap.size, 1, none⟩ = some (.int .u64 (w1 (a) : Nat)) := by rw [cell_of_row _ _ _ _ _ _ hA]; rfl); (have cA2 : World.cell? W ⟨w.heap.size, 2, none⟩ = some (.int .u64 (w2 (a) : Nat)) := by rw [cell_of_row _ _ _ _ _ _ hA]; rfl); (have cA3 : World.cell? W ⟨w.heap.size, 3, none⟩ = some (.int .u64 (w3 (a) : Nat)) := by rw [cell_of_row _ _ _ _ _ _ hA]; rfl); clear hb) | (go_at_call 19; refine (reduce_any (by first | exact W4.mk' HXl.out | exact W4.mk' hla.out | exact W4.mk' (Nat.lt_trans (Nat.mod_lt _ hpos) HM.out) | exact W4.small (n := 1) rfl (by decide) | exact W4.small (n := 2) rfl (by decide) | exact W4.small (n := 3) rfl (by decide) | exact W4.small (n := 4) rfl (by decide) | exact W4.small (n := 5) rfl (by decide) | exact W4.small (n := 7) rfl (by decide)) _ (show IsF _ (g) (m) from (by first | exact fF | exact ⟨fF.blk, fF.odd, fF.three, fF.lt⟩)).toM).mono ?_; rintro e W ⟨rfl, hb⟩; (replace hA := below_get hb (show _ = some (.cells #[.int .u64 (w0 (a) : Nat), .int .u64 (w1 (a) : Nat), .int .u64 (w2 (a) : Nat), .int .u64 (w3 (a) : Nat)] 24 (0, 0)) from by first | exact hA | exact ak hA)); (replace hR := below_get hb (show _ = some (.cells #[.int .u64 0, .int .u64 0, .int .u64 0, .int .u64 0] 24 (0, 0)) from by first | exact hR | exact ak hR)); (replace hK := below_get hb (show _ = some (.cells #[.int .u64 (w0 (m / 4 + 1) : Nat), .int .u64 (w1 (m / 4 + 1) : Nat), .int .u64 (w2 (m / 4 + 1) : Nat), .int .u64 (w3 (m / 4 + 1) : Nat)] 24 (0, 0)) from by first | exact hK | exact ak hK)); (replace hX := below_get hb (show _ = some (.cells #[.int .u64 (w0 (X) : Nat), .int .u64 (w1 (X) : Nat), .int .u64 (w2 (X) : Nat), .int .u64 (w3 (X) : Nat)] 24 (0, 0)) from by first | exact hX | exact ak hX)); (replace kk := bcl (by first | exact kk | exact kk.drew | exact bal kk _ | exact (bal kk _).drew) hb); (replace fF := HF.out.keep kk); (replace hQ := fF.blk); (have cX0 : World.cell? W ⟨bx, 0, none⟩ = some (.int .u64 (w0 (X) : Nat)) := by rw [cell_of_row _ _ _ _ _ _ hX]; rfl); (have cX1 : World.cell? W ⟨bx, 1, none⟩ = some (.int .u64 (w1 (X) : Nat)) := by rw [cell_of_row _ _ _ _ _ _ hX]; rfl); (have cX2 : World.cell? W ⟨bx, 2, none⟩ = some (.int .u64 (w2 (X) : Nat)) := by rw [cell_of_row _ _ _ _ _ _ hX]; rfl); (have cX3 : World.cell? W ⟨bx, 3, none⟩ = some (.int .u64 (w3 (X) : Nat)) := by rw [cell_of_row _ _ _ _ _ _ hX]; rfl); (have cA0 : World.cell? W ⟨w.heap.size, 0, none⟩ = some (.int .u64 (w0 (a) : Nat)) := by rw [cell_of_row _ _ _ _ _ _ hA]; rfl); (have cA1 : World.cell? W ⟨w.heap.size, 1, none⟩ = some (.int .u64 (w1 (a) : Nat)) := by rw [cell_of_row _ _ _ _ _ _ hA]; rfl); (have cA2 : World.cell? W ⟨w.heap.size, 2, none⟩ = some (.int .u64 (w2 (a) : Nat)) := by rw [cell_of_row _ _ _ _ _ _ hA]; rfl); (have cA3 : World.cell? W ⟨w.heap.size, 3, none⟩ = some (.int .u64 (w3 (a) : Nat)) := by rw [cell_of_row _ _ _ _ _ _ hA]; rfl); clear hb))
      go_simp
      have cX0 : W.cell? ⟨bx, 0, none⟩ = some (.int .u64 (w0 (X) : Nat)) := by rw [cell_of_row _ _ _ _ _ _ hX]; rfl
      have zX0 := frozen_of_row _ _ 0 _ _ hX
      have cX1 : W.cell? ⟨bx, 1, none⟩ = some (.int .u64 (w1 (X) : Nat)) := by rw [cell_of_row _ _ _ _ _ _ hX]; rfl
      have zX1 := frozen_of_row _ _ 1 _ _ hX
      have cX2 : W.cell? ⟨bx, 2, none⟩ = some (.int .u64 (w2 (X) : Nat)) := by rw [cell_of_row _ _ _ _ _ _ hX]; rfl
      have zX2 := frozen_of_row _ _ 2 _ _ hX
      have cX3 : W.cell? ⟨bx, 3, none⟩ = some (.int .u64 (w3 (X) : Nat)) := by rw [cell_of_row _ _ _ _ _ _ hX]; rfl
      have zX3 := frozen_of_row _ _ 3 _ _ hX
      have cR0 : W.cell? ⟨w.heap.size + 1, 0, none⟩ = some (.int .u64 0) := by rw [cell_of_row _ _ _ _ _ _ hR]; rfl
      have zR0 := frozen_of_row _ _ 0 _ _ hR
      have cR1 : W.cell? ⟨w.heap.size + 1, 1, none⟩ = some (.int .u64 0) := by rw [cell_of_row _ _ _ _ _ _ hR]; rfl
      have zR1 := frozen_of_row _ _ 1 _ _ hR
      have cR2 : W.cell? ⟨w.heap.size + 1, 2, none⟩ = some (.int .u64 0) := by rw [cell_of_row _ _ _ _ _ _ hR]; rfl
      have zR2 := frozen_of_row _ _ 2 _ _ hR
      have cR3 : W.cell? ⟨w.heap.size + 1, 3, none⟩ = some (.int .u64 0) := by rw [cell_of_row _ _ _ _ _ _ hR]; rfl
      have zR3 := frozen_of_row _ _ 3 _ _ hR
      go_wp2_with fail
      have P := put4 (.int .u64 (w0 (X) : Nat)) (.int .u64 (w1 (X) : Nat)) (.int .u64 (w2 (X) : Nat)) (.int .u64 (w3 (X) : Nat)) hR
      replace P := put_hid P
      obtain ⟨V9, hV9, P⟩ := P
      rw [hV9]
      have k9 := P.below (by omega) kk
      have P9 := P.here
      have v0 : V9.cell? ⟨w.heap.size + 1, 0, none⟩ = some (.int .u64 (w0 (X) : Nat)) := by rw [cell_of_row _ _ _ _ _ _ P9]; rfl
      have v1 : V9.cell? ⟨w.heap.size + 1, 1, none⟩ = some (.int .u64 (w1 (X) : Nat)) := by rw [cell_of_row _ _ _ _ _ _ P9]; rfl
      have v2 : V9.cell? ⟨w.heap.size + 1, 2, none⟩ = some (.int .u64 (w2 (X) : Nat)) := by rw [cell_of_row _ _ _ _ _ _ P9]; rfl
      have v3 : V9.cell? ⟨w.heap.size + 1, 3, none⟩ = some (.int .u64 (w3 (X) : Nat)) := by rw [cell_of_row _ _ _ _ _ _ P9]; rfl
      refine bodyPost_ret (v := _) (by simp [results, Try.results29, go_sem, v0, v1, v2, v3]; rfl) rfl ?_
      rw [rootN, rootB, HX.out, if_pos ⟨H4.out, HS.out⟩, decide_eq_true H4.out, decide_eq_true HS.out]
      exact ⟨rfl, k9⟩
    · have hq := neq_t (W4.mk' (Nat.lt_trans (Nat.mod_lt (X * X) hpos) HM.out)) (W4.mk' (Nat.lt_trans (Nat.mod_lt a hpos) HM.out)) hs
      have HS := Lib.hid hs
      clear hs
      have hQ := fF.blk
      have cX0 : World.cell? V6 ⟨bx, 0, none⟩ = some (.int .u64 (w0 (X) : Nat)) := by rw [cell_of_row _ _ _ _ _ _ hX]; rfl
      have cX1 : World.cell? V6 ⟨bx, 1, none⟩ = some (.int .u64 (w1 (X) : Nat)) := by rw [cell_of_row _ _ _ _ _ _ hX]; rfl
      have cX2 : World.cell? V6 ⟨bx, 2, none⟩ = some (.int .u64 (w2 (X) : Nat)) := by rw [cell_of_row _ _ _ _ _ _ hX]; rfl
      have cX3 : World.cell? V6 ⟨bx, 3, none⟩ = some (.int .u64 (w3 (X) : Nat)) := by rw [cell_of_row _ _ _ _ _ _ hX]; rfl
      have cA0 : World.cell? V6 ⟨w.heap.size, 0, none⟩ = some (.int .u64 (w0 (a) : Nat)) := by rw [cell_of_row _ _ _ _ _ _ hA]; rfl
      have cA1 : World.cell? V6 ⟨w.heap.size, 1, none⟩ = some (.int .u64 (w1 (a) : Nat)) := by rw [cell_of_row _ _ _ _ _ _ hA]; rfl
      have cA2 : World.cell? V6 ⟨w.heap.size, 2, none⟩ = some (.int .u64 (w2 (a) : Nat)) := by rw [cell_of_row _ _ _ _ _ _ hA]; rfl
      have cA3 : World.cell? V6 ⟨w.heap.size, 3, none⟩ = some (.int .u64 (w3 (a) : Nat)) := by rw [cell_of_row _ _ _ _ _ _ hA]; rfl
      go_region_held3 (fun w' => w'.cell? ⟨bx, 0, none⟩ = some (.int .u64 (w0 (X) : Nat)) ∧ w'.cell? ⟨bx, 1, none⟩ = some (.int .u64 (w1 (X) : Nat)) ∧ w'.cell? ⟨bx, 2, none⟩ = some (.int .u64 (w2 (X) : Nat)) ∧ w'.cell? ⟨bx, 3, none⟩ = some (.int .u64 (w3 (X) : Nat)) ∧ w'.cell? ⟨w.heap.size, 0, none⟩ = some (.int .u64 (w0 (a) : Nat)) ∧ w'.cell? ⟨w.heap.size, 1, none⟩ = some (.int .u64 (w1 (a) : Nat)) ∧ w'.cell? ⟨w.heap.size, 2, none⟩ = some (.int .u64 (w2 (a) : Nat)) ∧ w'.cell? ⟨w.heap.size, 3, none⟩ = some (.int .u64 (w3 (a) : Nat))) (first | (with_reducible exact ⟨cX0, cX1, cX2, cX3, cA0, cA1, cA2, cA3⟩) | go_keep) (first | (go_at_call 26; refine (mulF_any (by first | exact W4.mk' HXl.out | exact W4.mk' hla.out | exact W4.mk' (Nat.lt_trans (Nat.mod_lt _ hpos) HM.out) | exact W4.small (n := 1) rfl (by decide) | exact W4.small (n := 2) rfl (by decide) | exact W4.small (n := 3) rfl (by decide) | exact W4.small (n := 4) rfl (by decide) | exact W4.small (n := 5) rfl (by decide) | exact W4.small (n := 7) rfl (by decide)) (by first | exact W4.mk' HXl.out | exact W4.mk' hla.out | exact W4.mk' (Nat.lt_trans (Nat.mod_lt _ hpos) HM.out) | exact W4.small (n := 1) rfl (by decide) | exact W4.small (n := 2) rfl (by decide) | exact W4.small (n := 3) rfl (by decide) | exact W4.small (n := 4) rfl (by decide) | exact W4.small (n := 5) rfl (by decide) | exact W4.small (n := 7) rfl (by decide)) _ (show IsF _ (g) (m) from (by first | exact fF | exact ⟨fF.blk, fF.odd, fF.three, fF.lt⟩))).mono ?_; rintro e W ⟨rfl, hb⟩; (replace hA := below_get hb (show _ = some (.cells #[.int .u64 (w0 (a) : Nat), .int .u64 (w1 (a) : Nat), .int .u64 (w2 (a) : Nat), .int .u64 (w3 (a) : Nat)] 24 (0, 0)) from by first | exact hA | exact ak hA)); (replace hR := below_get hb (show _ = some (.cells #[.int .u64 0, .int .u64 0, .int .u64 0, .int .u64 0] 24 (0, 0)) from by first | exact hR | exact ak hR)); (replace hK := below_get hb (show _ = some (.cells #[.int .u64 (w0 (m / 4 + 1) : Nat), .int .u64 (w1 (m / 4 + 1) : Nat), .int .u64 (w2 (m / 4 + 1) : Nat), .int .u64 (w3 (m / 4 + 1) : Nat)] 24 (0, 0)) from by first | exact hK | exact ak hK)); (replace hX := below_get hb (show _ = some (.cells #[.int .u64 (w0 (X) : Nat), .int .u64 (w1 (X) : Nat), .int .u64 (w2 (X) : Nat), .int .u64 (w3 (X) : Nat)] 24 (0, 0)) from by first | exact hX | exact ak hX)); (replace kk := bcl (by first | exact kk | exact kk.drew | exact bal kk _ | exact (bal kk _).drew) hb); (replace fF := HF.out.keep kk); (replace hQ := fF.blk); (have cX0 : World.cell? W ⟨bx, 0, none⟩ = some (.int .u64 (w0 (X) : Nat)) := by rw [cell_of_row _ _ _ _ _ _ hX]; rfl); (have cX1 : World.cell? W ⟨bx, 1, none⟩ = some (.int .u64 (w1 (X) : Nat)) := by rw [cell_of_row _ _ _ _ _ _ hX]; rfl); (have cX2 : World.cell? W ⟨bx, 2, none⟩ = some (.int .u64 (w2 (X) : Nat)) := by rw [cell_of_row _ _ _ _ _ _ hX]; rfl); (have cX3 : World.cell? W ⟨bx, 3, none⟩ = some (.int .u64 (w3 (X) : Nat)) := by rw [cell_of_row _ _ _ _ _ _ hX]; rfl); (have cA0 : World.cell? W ⟨w.heap.size, 0, none⟩ = some (.int .u64 (w0 (a) : Nat)) := by rw [cell_of_row _ _ _ _ _ _ hA]; rfl); (have cA1 : World.cell? W ⟨w.heap.size, 1, none⟩ = some (.int .u64 (w1 (a) : Nat)) := by rw [cell_of_row _ _ _ _ _ _ hA]; rfl); (have cA2 : World.cell? W ⟨w.heap.size, 2, none⟩ = some (.int .u64 (w2 (a) : Nat)) := by rw [cell_of_row _ _ _ _ _ _ hA]; rfl); (have cA3 : World.cell? W ⟨w.heap.size, 3, none⟩ = some (.int .u64 (w3 (a) : Nat)) := by rw [cell_of_row _ _ _ _ _ _ hA]; rfl); clear hb) | (go_at_call 19; refine (reduce_any (by first | exact W4.mk' HXl.out | exact W4.mk' hla.out | exact W4.mk' (Nat.lt_trans (Nat.mod_lt _ hpos) HM.out) | exact W4.small (n := 1) rfl (by decide) | exact W4.small (n := 2) rfl (by decide) | exact W4.small (n := 3) rfl (by decide) | exact W4.small (n := 4) rfl (by decide) | exact W4.small (n := 5) rfl (by decide) | exact W4.small (n := 7) rfl (by decide)) _ (show IsF _ (g) (m) from (by first | exact fF | exact ⟨fF.blk, fF.odd, fF.three, fF.lt⟩)).toM).mono ?_; rintro e W ⟨rfl, hb⟩; (replace hA := below_get hb (show _ = some (.cells #[.int .u64 (w0 (a) : Nat), .int .u64 (w1 (a) : Nat), .int .u64 (w2 (a) : Nat), .int .u64 (w3 (a) : Nat)] 24 (0, 0)) from by first | exact hA | exact ak hA)); (replace hR := below_get hb (show _ = some (.cells #[.int .u64 0, .int .u64 0, .int .u64 0, .int .u64 0] 24 (0, 0)) from by first | exact hR | exact ak hR)); (replace hK := below_get hb (show _ = some (.cells #[.int .u64 (w0 (m / 4 + 1) : Nat), .int .u64 (w1 (m / 4 + 1) : Nat), .int .u64 (w2 (m / 4 + 1) : Nat), .int .u64 (w3 (m / 4 + 1) : Nat)] 24 (0, 0)) from by first | exact hK | exact ak hK)); (replace hX := below_get hb (show _ = some (.cells #[.int .u64 (w0 (X) : Nat), .int .u64 (w1 (X) : Nat), .int .u64 (w2 (X) : Nat), .int .u64 (w3 (X) : Nat)] 24 (0, 0)) from by first | exact hX | exact ak hX)); (replace kk := bcl (by first | exact kk | exact kk.drew | exact bal kk _ | exact (bal kk _).drew) hb); (replace fF := HF.out.keep kk); (replace hQ := fF.blk); (have cX0 : World.cell? W ⟨bx, 0, none⟩ = some (.int .u64 (w0 (X) : Nat)) := by rw [cell_of_row _ _ _ _ _ _ hX]; rfl); (have cX1 : World.cell? W ⟨bx, 1, none⟩ = some (.int .u64 (w1 (X) : Nat)) := by rw [cell_of_row _ _ _ _ _ _ hX]; rfl); (have cX2 : World.cell? W ⟨bx, 2, none⟩ = some (.int .u64 (w2 (X) : Nat)) := by rw [cell_of_row _ _ _ _ _ _ hX]; rfl); (have cX3 : World.cell? W ⟨bx, 3, none⟩ = some (.int .u64 (w3 (X) : Nat)) := by rw [cell_of_row _ _ _ _ _ _ hX]; rfl); (have cA0 : World.cell? W ⟨w.heap.size, 0, none⟩ = some (.int .u64 (w0 (a) : Nat)) := by rw [cell_of_row _ _ _ _ _ _ hA]; rfl); (have cA1 : World.cell? W ⟨w.heap.size, 1, none⟩ = some (.int .u64 (w1 (a) : Nat)) := by rw [cell_of_row _ _ _ _ _ _ hA]; rfl); (have cA2 : World.cell? W ⟨w.heap.size, 2, none⟩ = some (.int .u64 (w2 (a) : Nat)) := by rw [cell_of_row _ _ _ _ _ _ hA]; rfl); (have cA3 : World.cell? W ⟨w.heap.size, 3, none⟩ = some (.int .u64 (w3 (a) : Nat)) := by rw [cell_of_row _ _ _ _ _ _ hA]; rfl); clear hb))
      go_simp
      have cX0 : W.cell? ⟨bx, 0, none⟩ = some (.int .u64 (w0 (X) : Nat)) := by rw [cell_of_row _ _ _ _ _ _ hX]; rfl
      have zX0 := frozen_of_row _ _ 0 _ _ hX
      have cX1 : W.cell? ⟨bx, 1, none⟩ = some (.int .u64 (w1 (X) : Nat)) := by rw [cell_of_row _ _ _ _ _ _ hX]; rfl
      have zX1 := frozen_of_row _ _ 1 _ _ hX
      have cX2 : W.cell? ⟨bx, 2, none⟩ = some (.int .u64 (w2 (X) : Nat)) := by rw [cell_of_row _ _ _ _ _ _ hX]; rfl
      have zX2 := frozen_of_row _ _ 2 _ _ hX
      have cX3 : W.cell? ⟨bx, 3, none⟩ = some (.int .u64 (w3 (X) : Nat)) := by rw [cell_of_row _ _ _ _ _ _ hX]; rfl
      have zX3 := frozen_of_row _ _ 3 _ _ hX
      have cR0 : W.cell? ⟨w.heap.size + 1, 0, none⟩ = some (.int .u64 0) := by rw [cell_of_row _ _ _ _ _ _ hR]; rfl
      have zR0 := frozen_of_row _ _ 0 _ _ hR
      have cR1 : W.cell? ⟨w.heap.size + 1, 1, none⟩ = some (.int .u64 0) := by rw [cell_of_row _ _ _ _ _ _ hR]; rfl
      have zR1 := frozen_of_row _ _ 1 _ _ hR
      have cR2 : W.cell? ⟨w.heap.size + 1, 2, none⟩ = some (.int .u64 0) := by rw [cell_of_row _ _ _ _ _ _ hR]; rfl
      have zR2 := frozen_of_row _ _ 2 _ _ hR
      have cR3 : W.cell? ⟨w.heap.size + 1, 3, none⟩ = some (.int .u64 0) := by rw [cell_of_row _ _ _ _ _ _ hR]; rfl
      have zR3 := frozen_of_row _ _ 3 _ _ hR
      go_wp2_with fail
      have P := put4 (.int .u64 0) (.int .u64 0) (.int .u64 0) (.int .u64 0) hR
      replace P := put_hid P
      obtain ⟨V9, hV9, P⟩ := P
      rw [hV9]
      have k9 := P.below (by omega) kk
      have P9 := P.here
      have v0 : V9.cell? ⟨w.heap.size + 1, 0, none⟩ = some (.int .u64 0) := by rw [cell_of_row _ _ _ _ _ _ P9]; rfl
      have v1 : V9.cell? ⟨w.heap.size + 1, 1, none⟩ = some (.int .u64 0) := by rw [cell_of_row _ _ _ _ _ _ P9]; rfl
      have v2 : V9.cell? ⟨w.heap.size + 1, 2, none⟩ = some (.int .u64 0) := by rw [cell_of_row _ _ _ _ _ _ P9]; rfl
      have v3 : V9.cell? ⟨w.heap.size + 1, 3, none⟩ = some (.int .u64 0) := by rw [cell_of_row _ _ _ _ _ _ P9]; rfl
      refine bodyPost_ret (v := _) (by simp [results, Try.results29, go_sem, v0, v1, v2, v3]; rfl) rfl ?_
      rw [rootN, rootB, HX.out, if_neg (fun h => HS.out h.2), decide_eq_true H4.out, decide_eq_false HS.out]
      exact ⟨rfl, k9⟩
  · have H4 := Lib.hid h4
    have hb3' : ((m % 4 : Nat) : Int) ≠ 3 := by omega
    clear h4
    go_wp2_with fail
    have P := put4 (.int .u64 0) (.int .u64 0) (.int .u64 0) (.int .u64 0) hR
    replace P := put_hid P
    obtain ⟨V9, hV9, P⟩ := P
    rw [hV9]
    have k9 := P.below (by omega) kk
    have P9 := P.here
    have v0 : V9.cell? ⟨w.heap.size + 1, 0, none⟩ = some (.int .u64 0) := by rw [cell_of_row _ _ _ _ _ _ P9]; rfl
    have v1 : V9.cell? ⟨w.heap.size + 1, 1, none⟩ = some (.int .u64 0) := by rw [cell_of_row _ _ _ _ _ _ P9]; rfl
    have v2 : V9.cell? ⟨w.heap.size + 1, 2, none⟩ = some (.int .u64 0) := by rw [cell_of_row _ _ _ _ _ _ P9]; rfl
    have v3 : V9.cell? ⟨w.heap.size + 1, 3, none⟩ = some (.int .u64 0) := by rw [cell_of_row _ _ _ _ _ _ P9]; rfl
    refine bodyPost_ret (v := _) (by simp [results, Try.results29, go_sem, v0, v1, v2, v3]; rfl) rfl ?_
    rw [rootN, rootB, if_neg (fun h => H4.out h.1), decide_eq_false H4.out]
    exact ⟨rfl, k9⟩
end Go.Proofs.Ytgghopmlcpcpkaa
