/- A step of the proof: what a function of the program computes, or a plain law of numbers. -/
import Derived.Test.YtgghopmlcpcpkaaPrimesL
import Derived.Test.YtgghopmlcpcpkaaHeldLib
namespace Go.Proofs.Ytgghopmlcpcpkaa
open Go.RowKit PlainK
set_option linter.unusedVariables false
set_option linter.unusedSimpArgs false
set_option maxRecDepth 10000 in
set_option maxHeartbeats 8000000 in
theorem inverts_any {x : Int} {a0 a1 a2 a3 : Int} {a : Nat} (hx : (Lit.int .u8 x).wf = true) (ha : W4 a0 a1 a2 a3 a) (w : World) :
   Calls Try.prog 4 #[.int .u8 x, .agg #[.int .u64 a0, .int .u64 a1, .int .u64 a2, .int .u64 a3]] w fun e w' => e = .returned (.bool true) ∧ Below w.heap.size w w' := by
  obtain ⟨rfl, rfl, rfl, rfl, la⟩ := ha
  have hla := Lib.hid la
  clear la
  have hx1 : 0 ≤ x ∧ x ≤ 255 := by
    simp [Lit.wf, IntKind.min, IntKind.max, IntKind.signed, IntKind.bits] at hx
    omega
  obtain ⟨y, rfl⟩ : ∃ y : Nat, x = y := ⟨x.toNat, by omega⟩
  obtain ⟨k, hk⟩ : ∃ k, y % 7 = k := ⟨_, rfl⟩
  have hk7 : k < 7 := by omega
  have hy : y < 256 := by omega
  clear hx hx1
  obtain ⟨p, hp⟩ : ∃ p, pr7 k = p := ⟨_, rfl⟩
  go_enter Try.func4, Try.ntmps4
  go_upto_region 1 with fail
  obtain ⟨V0, hW⟩ : ∃ V, (w.alloc (.cells #[.int .u64 (w0 (a) : Nat), .int .u64 (w1 (a) : Nat), .int .u64 (w2 (a) : Nat), .int .u64 (w3 (a) : Nat)] 24)) = V := ⟨_, rfl⟩
  rw [hW]
  have hA : V0.heap[w.heap.size]? = some (.cells #[.int .u64 (w0 (a) : Nat), .int .u64 (w1 (a) : Nat), .int .u64 (w2 (a) : Nat), .int .u64 (w3 (a) : Nat)] 24 (0, 0)) := by
    rw [← hW]; simp only [alloc_at, World.size_alloc]; repeat (first | rw [if_pos trivial] | rw [if_pos (by omega)] | rw [if_neg (by omega)])
  have kk : Below w.heap.size w V0 := by
    rw [← hW]
    repeat (first | exact Below.refl _ _ | refine Below.drew ?_ | refine bal ?_ _)
  clear hW
  go_wp2_with fail
  refine (lives_any _).mono ?_
  rintro e V1 ⟨rfl, hb⟩
  replace hA := below_get hb (show _ = some (.cells #[.int .u64 (w0 (a) : Nat), .int .u64 (w1 (a) : Nat), .int .u64 (w2 (a) : Nat), .int .u64 (w3 (a) : Nat)] 24 (0, 0)) from hA)
  replace kk := bcl (by first | exact kk | exact kk.drew | exact below_drewN kk _) hb
  clear hb
  go_wp2_with fail
  refine (primes_any _).mono ?_
  rintro e V2 ⟨bp, rfl, hL, hb⟩
  replace hA := below_get hb (show _ = some (.cells #[.int .u64 (w0 (a) : Nat), .int .u64 (w1 (a) : Nat), .int .u64 (w2 (a) : Nat), .int .u64 (w3 (a) : Nat)] 24 (0, 0)) from hA)
  replace kk := bcl (by first | exact kk | exact kk.drew | exact below_drewN kk _) hb
  clear hb
  obtain ⟨l0, l1, l2, l3⟩ := pr7_cells hk7 hL
  rw [hp] at l0 l1 l2 l3
  have t1 : IntKind.i64.wrap (y : Int) = (y : Int) := IntWalk.i64_in _ (by omega)
  have t2 : (y : Int) % 7 = (k : Int) := by omega
  have t3 : (y : Int).tmod 7 = (k : Int) := by rw [Int.tmod_eq_emod_of_nonneg (by omega)]; omega
  have t4 : (k : Int) < 7 := by omega
  have t5 : (0 : Int) ≤ (k : Int) := by omega
  have t6 : ((k : Int) * 4).toNat = k * 4 := by omega
  go_wp2_with fail
  have hpr := pr7_root k
  have hp3 := pr7_three k
  have hpo := pr7_odd k
  have hpl := pr7_lt k
  rw [hp] at hpr hp3 hpo hpl
  have HM := Lib.hid hpl
  have H3 := Lib.hid hp3
  obtain ⟨gr, hRoot⟩ := hpr
  have HR := Lib.hid hRoot
  have hpos : 0 < p := by omega
  refine (newF_any (W4.mk' hpl) _ hpo hp3).mono ?_
  rintro e V3 ⟨g, hg, rfl, hF, hb⟩
  have hgM := hg
  have lA := lt_of_heap hA
  replace hA := below_get hb (show _ = some (.cells #[.int .u64 (w0 (a) : Nat), .int .u64 (w1 (a) : Nat), .int .u64 (w2 (a) : Nat), .int .u64 (w3 (a) : Nat)] 24 (0, 0)) from hA)
  replace kk := bcl (by first | exact kk | exact kk.drew | exact below_drewN kk _) hb
  clear hb
  have HF := Lib.hid hF
  have hQ := hF.blk
  have fF := hF
  clear hF hRoot hpl hp3 hpo l0 l1 l2 l3 hL t1 t4 t5 t6
  have cA0 : V3.cell? ⟨w.heap.size, 0, none⟩ = some (.int .u64 (w0 (a) : Nat)) := by rw [cell_of_row _ _ _ _ _ _ hA]; rfl
  have zA0 := frozen_of_row _ _ 0 _ _ hA
  have cA1 : V3.cell? ⟨w.heap.size, 1, none⟩ = some (.int .u64 (w1 (a) : Nat)) := by rw [cell_of_row _ _ _ _ _ _ hA]; rfl
  have zA1 := frozen_of_row _ _ 1 _ _ hA
  have cA2 : V3.cell? ⟨w.heap.size, 2, none⟩ = some (.int .u64 (w2 (a) : Nat)) := by rw [cell_of_row _ _ _ _ _ _ hA]; rfl
  have zA2 := frozen_of_row _ _ 2 _ _ hA
  have cA3 : V3.cell? ⟨w.heap.size, 3, none⟩ = some (.int .u64 (w3 (a) : Nat)) := by rw [cell_of_row _ _ _ _ _ _ hA]; rfl
  have zA3 := frozen_of_row _ _ 3 _ _ hA
  go_wp2_with fail
  refine (redG_any (W4.mk' hla.out) _ fF).mono ?_
  rintro e V4 ⟨rfl, hb⟩
  replace hA := below_get hb (show _ = some (.cells #[.int .u64 (w0 (a) : Nat), .int .u64 (w1 (a) : Nat), .int .u64 (w2 (a) : Nat), .int .u64 (w3 (a) : Nat)] 24 (0, 0)) from hA)
  replace hQ := below_get hb (show _ = some (.cells #[.int .u64 (w0 (p) : Nat), .int .u64 (w1 (p) : Nat), .int .u64 (w2 (p) : Nat), .int .u64 (w3 (p) : Nat), .int .u64 (finv1 (p) : Nat), .int .u64 (w0 (fsq (p)) : Nat), .int .u64 (w1 (fsq (p)) : Nat), .int .u64 (w2 (fsq (p)) : Nat), .int .u64 (w3 (fsq (p)) : Nat)] 90 (0, 0)) from hQ)
  replace kk := bcl (by first | exact kk | exact kk.drew | exact below_drewN kk _) hb
  replace fF := IsF.of HF.out hQ
  clear cA0 zA0 cA1 zA1 cA2 zA2 cA3 zA3
  clear hb
  obtain ⟨z, hz⟩ : ∃ z, redm p a = z := ⟨_, rfl⟩
  rw [hz]
  have HZ := Lib.hid (show z < p by rw [← hz]; exact Nat.mod_lt _ hpos)
  have HZl := Lib.hid (Nat.lt_trans HZ.out HM.out)
  have HZm := Lib.hid (Nat.mod_eq_of_lt HZ.out)
  clear hz
  have cA0 : V4.cell? ⟨w.heap.size, 0, none⟩ = some (.int .u64 (w0 (a) : Nat)) := by rw [cell_of_row _ _ _ _ _ _ hA]; rfl
  have zA0 := frozen_of_row _ _ 0 _ _ hA
  have cA1 : V4.cell? ⟨w.heap.size, 1, none⟩ = some (.int .u64 (w1 (a) : Nat)) := by rw [cell_of_row _ _ _ _ _ _ hA]; rfl
  have zA1 := frozen_of_row _ _ 1 _ _ hA
  have cA2 : V4.cell? ⟨w.heap.size, 2, none⟩ = some (.int .u64 (w2 (a) : Nat)) := by rw [cell_of_row _ _ _ _ _ _ hA]; rfl
  have zA2 := frozen_of_row _ _ 2 _ _ hA
  have cA3 : V4.cell? ⟨w.heap.size, 3, none⟩ = some (.int .u64 (w3 (a) : Nat)) := by rw [cell_of_row _ _ _ _ _ _ hA]; rfl
  have zA3 := frozen_of_row _ _ 3 _ _ hA
  go_upto_region 8 with fail
  have P := put4 (.int .u64 (w0 (z) : Nat)) (.int .u64 (w1 (z) : Nat)) (.int .u64 (w2 (z) : Nat)) (.int .u64 (w3 (z) : Nat)) hA
  obtain ⟨V5, hW⟩ : ∃ V, (World.setCell (World.setCell (World.setCell (World.setCell V4 ⟨w.heap.size, 0, none⟩ (.int .u64 (w0 (z) : Nat))) ⟨w.heap.size, 1, none⟩ (.int .u64 (w1 (z) : Nat))) ⟨w.heap.size, 2, none⟩ (.int .u64 (w2 (z) : Nat))) ⟨w.heap.size, 3, none⟩ (.int .u64 (w3 (z) : Nat))) = V := ⟨_, rfl⟩
  rw [hW] at P ⊢
  replace hA := P.here
  replace hQ := (P.there (g) (by omega)).trans (show _ = some (.cells #[.int .u64 (w0 (p) : Nat), .int .u64 (w1 (p) : Nat), .int .u64 (w2 (p) : Nat), .int .u64 (w3 (p) : Nat), .int .u64 (finv1 (p) : Nat), .int .u64 (w0 (fsq (p)) : Nat), .int .u64 (w1 (fsq (p)) : Nat), .int .u64 (w2 (fsq (p)) : Nat), .int .u64 (w3 (fsq (p)) : Nat)] 90 (0, 0)) from hQ)
  replace kk := P.below (by omega) (show Below w.heap.size w V4 from by first | exact kk | exact kk.drew | exact below_drewN kk _)
  replace fF := IsF.of HF.out hQ
  clear cA0 zA0 cA1 zA1 cA2 zA2 cA3 zA3
  clear P hW
  have cA0 : V5.cell? ⟨w.heap.size, 0, none⟩ = some (.int .u64 (w0 (z) : Nat)) := by rw [cell_of_row _ _ _ _ _ _ hA]; rfl
  have zA0 := frozen_of_row _ _ 0 _ _ hA
  have cA1 : V5.cell? ⟨w.heap.size, 1, none⟩ = some (.int .u64 (w1 (z) : Nat)) := by rw [cell_of_row _ _ _ _ _ _ hA]; rfl
  have zA1 := frozen_of_row _ _ 1 _ _ hA
  have cA2 : V5.cell? ⟨w.heap.size, 2, none⟩ = some (.int .u64 (w2 (z) : Nat)) := by rw [cell_of_row _ _ _ _ _ _ hA]; rfl
  have zA2 := frozen_of_row _ _ 2 _ _ hA
  have cA3 : V5.cell? ⟨w.heap.size, 3, none⟩ = some (.int .u64 (w3 (z) : Nat)) := by rw [cell_of_row _ _ _ _ _ _ hA]; rfl
  have zA3 := frozen_of_row _ _ 3 _ _ hA
  go_wp2_with fail
  refine (inv_any (W4.mk' HZl.out) _ fF).mono ?_
  rintro e V6 ⟨rfl, hb⟩
  replace hA := below_get hb (show _ = some (.cells #[.int .u64 (w0 (z) : Nat), .int .u64 (w1 (z) : Nat), .int .u64 (w2 (z) : Nat), .int .u64 (w3 (z) : Nat)] 24 (0, 0)) from hA)
  replace hQ := below_get hb (show _ = some (.cells #[.int .u64 (w0 (p) : Nat), .int .u64 (w1 (p) : Nat), .int .u64 (w2 (p) : Nat), .int .u64 (w3 (p) : Nat), .int .u64 (finv1 (p) : Nat), .int .u64 (w0 (fsq (p)) : Nat), .int .u64 (w1 (fsq (p)) : Nat), .int .u64 (w2 (fsq (p)) : Nat), .int .u64 (w3 (fsq (p)) : Nat)] 90 (0, 0)) from hQ)
  replace kk := bcl (by first | exact kk | exact kk.drew | exact below_drewN kk _) hb
  replace fF := IsF.of HF.out hQ
  clear cA0 zA0 cA1 zA1 cA2 zA2 cA3 zA3
  clear hb
  go_upto_region 9 with fail
  obtain ⟨V7, hW⟩ : ∃ V, V6.alloc (.cells #[.int .u64 (w0 (invN z p) : Nat), .int .u64 (w1 (invN z p) : Nat), .int .u64 (w2 (invN z p) : Nat), .int .u64 (w3 (invN z p) : Nat)] 24 (0, 0)) = V := ⟨_, rfl⟩
  rw [hW]
  obtain ⟨bi, hbx⟩ : ∃ n, V6.heap.size = n := ⟨_, rfl⟩
  rw [hbx]
  have hNEW : V7.heap[bi]? = some (.cells #[.int .u64 (w0 (invN z p) : Nat), .int .u64 (w1 (invN z p) : Nat), .int .u64 (w2 (invN z p) : Nat), .int .u64 (w3 (invN z p) : Nat)] 24 (0, 0)) := by rw [← hW, ← hbx]; exact heap_alloc_new _ _
  have lIA : w.heap.size < bi := by rw [← hbx]; exact lt_of_heap hA
  replace hA : V7.heap[w.heap.size]? = some (.cells #[.int .u64 (w0 (z) : Nat), .int .u64 (w1 (z) : Nat), .int .u64 (w2 (z) : Nat), .int .u64 (w3 (z) : Nat)] 24 (0, 0)) := by rw [← hW]; exact ak hA
  have lIQ : g < bi := by rw [← hbx]; exact lt_of_heap hQ
  replace hQ : V7.heap[g]? = some (.cells #[.int .u64 (w0 (p) : Nat), .int .u64 (w1 (p) : Nat), .int .u64 (w2 (p) : Nat), .int .u64 (w3 (p) : Nat), .int .u64 (finv1 (p) : Nat), .int .u64 (w0 (fsq (p)) : Nat), .int .u64 (w1 (fsq (p)) : Nat), .int .u64 (w2 (fsq (p)) : Nat), .int .u64 (w3 (fsq (p)) : Nat)] 90 (0, 0)) := by rw [← hW]; exact ak hQ
  have lI : w.heap.size ≤ bi := by rw [← hbx]; exact kk.size
  replace kk : Below w.heap.size w V7 := by rw [← hW]; exact bal kk _
  have hI := hNEW
  replace fF := IsF.of HF.out hQ
  clear hNEW hW hbx
  have HI := Lib.hid (invN_lt (a := z) HM.out hpos)
  have L : ∀ {x : Nat}, x % p < 2 ^ 256 := fun {x} => Nat.lt_trans (Nat.mod_lt x hpos) HM.out
  have HRR := Lib.hid (rootN_lt (a := mulm p z z) HM.out hpos)
  have HXX := Lib.hid (rootN_lt (a := z) HM.out hpos)
  have HH2 := Lib.hid (show (p - 1) / 2 < 2 ^ 256 from Nat.lt_of_le_of_lt (Nat.le_trans (Nat.div_le_self _ _) (Nat.sub_le _ _)) HM.out)
  have HH := Lib.hid (show p - 1 < 2 ^ 256 from Nat.lt_of_le_of_lt (Nat.sub_le _ _) HM.out)
  by_cases hz0 : z = 0
  · skip
    have E := invE_zero z p (by rw [HZm.out]; exact hz0)
    have N0 := invN_zero z p (by rw [HZm.out]; exact hz0)
    rw [E]
    rw [N0] at hI
    have q1 := eql_t (W4.mk' HZl.out) W4.zero hz0
    have q2 := neq_f (W4.mk' (show 0 < 2 ^ 256 by decide)) W4.zero rfl
    have hz' := Lib.hid hz0
    clear hz0 E N0
    have cA0 : V7.cell? ⟨w.heap.size, 0, none⟩ = some (.int .u64 (w0 (z) : Nat)) := by rw [cell_of_row _ _ _ _ _ _ hA]; rfl
    have zA0 := frozen_of_row _ _ 0 _ _ hA
    have cA1 : V7.cell? ⟨w.heap.size, 1, none⟩ = some (.int .u64 (w1 (z) : Nat)) := by rw [cell_of_row _ _ _ _ _ _ hA]; rfl
    have zA1 := frozen_of_row _ _ 1 _ _ hA
    have cA2 : V7.cell? ⟨w.heap.size, 2, none⟩ = some (.int .u64 (w2 (z) : Nat)) := by rw [cell_of_row _ _ _ _ _ _ hA]; rfl
    have zA2 := frozen_of_row _ _ 2 _ _ hA
    have cA3 : V7.cell? ⟨w.heap.size, 3, none⟩ = some (.int .u64 (w3 (z) : Nat)) := by rw [cell_of_row _ _ _ _ _ _ hA]; rfl
    have zA3 := frozen_of_row _ _ 3 _ _ hA
    have cI0 : V7.cell? ⟨bi, 0, none⟩ = some (.int .u64 (w0 (0) : Nat)) := by rw [cell_of_row _ _ _ _ _ _ hI]; rfl
    have zI0 := frozen_of_row _ _ 0 _ _ hI
    have cI1 : V7.cell? ⟨bi, 1, none⟩ = some (.int .u64 (w1 (0) : Nat)) := by rw [cell_of_row _ _ _ _ _ _ hI]; rfl
    have zI1 := frozen_of_row _ _ 1 _ _ hI
    have cI2 : V7.cell? ⟨bi, 2, none⟩ = some (.int .u64 (w2 (0) : Nat)) := by rw [cell_of_row _ _ _ _ _ _ hI]; rfl
    have zI2 := frozen_of_row _ _ 2 _ _ hI
    have cI3 : V7.cell? ⟨bi, 3, none⟩ = some (.int .u64 (w3 (0) : Nat)) := by rw [cell_of_row _ _ _ _ _ _ hI]; rfl
    have zI3 := frozen_of_row _ _ 3 _ _ hI
    go_wp2_with fail
    refine (mulG_any (W4.mk' HZl.out) (W4.mk' HZl.out) _ fF).mono ?_
    rintro e V10 ⟨rfl, hb⟩
    replace hA := below_get hb (show _ = some (.cells #[.int .u64 (w0 (z) : Nat), .int .u64 (w1 (z) : Nat), .int .u64 (w2 (z) : Nat), .int .u64 (w3 (z) : Nat)] 24 (0, 0)) from hA)
    replace hQ := below_get hb (show _ = some (.cells #[.int .u64 (w0 (p) : Nat), .int .u64 (w1 (p) : Nat), .int .u64 (w2 (p) : Nat), .int .u64 (w3 (p) : Nat), .int .u64 (finv1 (p) : Nat), .int .u64 (w0 (fsq (p)) : Nat), .int .u64 (w1 (fsq (p)) : Nat), .int .u64 (w2 (fsq (p)) : Nat), .int .u64 (w3 (fsq (p)) : Nat)] 90 (0, 0)) from hQ)
    replace hI := below_get hb (show _ = some (.cells #[.int .u64 (w0 (0) : Nat), .int .u64 (w1 (0) : Nat), .int .u64 (w2 (0) : Nat), .int .u64 (w3 (0) : Nat)] 24 (0, 0)) from hI)
    replace kk := bcl (by first | exact kk | exact kk.drew | exact below_drewN kk _) hb
    replace fF := IsF.of HF.out hQ
    clear cA0 zA0 cA1 zA1 cA2 zA2 cA3 zA3 cI0 zI0 cI1 zI1 cI2 zI2 cI3 zI3
    clear hb
    go_wp2_with fail
    refine (root_any (W4.mk' (show mulm p z z < 2 ^ 256 from L)) _ fF).mono ?_
    rintro e V11 ⟨rfl, hb⟩
    replace hA := below_get hb (show _ = some (.cells #[.int .u64 (w0 (z) : Nat), .int .u64 (w1 (z) : Nat), .int .u64 (w2 (z) : Nat), .int .u64 (w3 (z) : Nat)] 24 (0, 0)) from hA)
    replace hQ := below_get hb (show _ = some (.cells #[.int .u64 (w0 (p) : Nat), .int .u64 (w1 (p) : Nat), .int .u64 (w2 (p) : Nat), .int .u64 (w3 (p) : Nat), .int .u64 (finv1 (p) : Nat), .int .u64 (w0 (fsq (p)) : Nat), .int .u64 (w1 (fsq (p)) : Nat), .int .u64 (w2 (fsq (p)) : Nat), .int .u64 (w3 (fsq (p)) : Nat)] 90 (0, 0)) from hQ)
    replace hI := below_get hb (show _ = some (.cells #[.int .u64 (w0 (0) : Nat), .int .u64 (w1 (0) : Nat), .int .u64 (w2 (0) : Nat), .int .u64 (w3 (0) : Nat)] 24 (0, 0)) from hI)
    replace kk := bcl (by first | exact kk | exact kk.drew | exact below_drewN kk _) hb
    replace fF := IsF.of HF.out hQ
    clear hb
    by_cases hk2 : k < 2
    · have R4 := root_four (a := mulm p z z) (show p % 4 ≠ 3 by rw [← hp]; exact pr7_one hk2)
      rw [R4.1, R4.2]
      have hk2' : (k : Int) < 2 := by omega
      go_upto_region 15 with fail
      obtain ⟨V12, hW⟩ : ∃ V, V11.alloc (.cells #[.int .u64 (w0 (0) : Nat), .int .u64 (w1 (0) : Nat), .int .u64 (w2 (0) : Nat), .int .u64 (w3 (0) : Nat)] 24 (0, 0)) = V := ⟨_, rfl⟩
      rw [hW]
      obtain ⟨br, hbx⟩ : ∃ n, V11.heap.size = n := ⟨_, rfl⟩
      rw [hbx]
      have hNEW : V12.heap[br]? = some (.cells #[.int .u64 (w0 (0) : Nat), .int .u64 (w1 (0) : Nat), .int .u64 (w2 (0) : Nat), .int .u64 (w3 (0) : Nat)] 24 (0, 0)) := by rw [← hW, ← hbx]; exact heap_alloc_new _ _
      have lRA : w.heap.size < br := by rw [← hbx]; exact lt_of_heap hA
      replace hA : V12.heap[w.heap.size]? = some (.cells #[.int .u64 (w0 (z) : Nat), .int .u64 (w1 (z) : Nat), .int .u64 (w2 (z) : Nat), .int .u64 (w3 (z) : Nat)] 24 (0, 0)) := by rw [← hW]; exact ak hA
      have lRQ : g < br := by rw [← hbx]; exact lt_of_heap hQ
      replace hQ : V12.heap[g]? = some (.cells #[.int .u64 (w0 (p) : Nat), .int .u64 (w1 (p) : Nat), .int .u64 (w2 (p) : Nat), .int .u64 (w3 (p) : Nat), .int .u64 (finv1 (p) : Nat), .int .u64 (w0 (fsq (p)) : Nat), .int .u64 (w1 (fsq (p)) : Nat), .int .u64 (w2 (fsq (p)) : Nat), .int .u64 (w3 (fsq (p)) : Nat)] 90 (0, 0)) := by rw [← hW]; exact ak hQ
      have lRI : bi < br := by rw [← hbx]; exact lt_of_heap hI
      replace hI : V12.heap[bi]? = some (.cells #[.int .u64 (w0 (0) : Nat), .int .u64 (w1 (0) : Nat), .int .u64 (w2 (0) : Nat), .int .u64 (w3 (0) : Nat)] 24 (0, 0)) := by rw [← hW]; exact ak hI
      have lR : w.heap.size ≤ br := by rw [← hbx]; exact kk.size
      replace kk : Below w.heap.size w V12 := by rw [← hW]; exact bal kk _
      have hR := hNEW
      replace fF := IsF.of HF.out hQ
      clear hNEW hW hbx
      have q3 := eql_t (W4.mk' (show 0 < 2 ^ 256 by decide)) W4.zero rfl
      clear R4 hk2
      have cR0 : V12.cell? ⟨br, 0, none⟩ = some (.int .u64 (w0 (0) : Nat)) := by rw [cell_of_row _ _ _ _ _ _ hR]; rfl
      have zR0 := frozen_of_row _ _ 0 _ _ hR
      have cR1 : V12.cell? ⟨br, 1, none⟩ = some (.int .u64 (w1 (0) : Nat)) := by rw [cell_of_row _ _ _ _ _ _ hR]; rfl
      have zR1 := frozen_of_row _ _ 1 _ _ hR
      have cR2 : V12.cell? ⟨br, 2, none⟩ = some (.int .u64 (w2 (0) : Nat)) := by rw [cell_of_row _ _ _ _ _ _ hR]; rfl
      have zR2 := frozen_of_row _ _ 2 _ _ hR
      have cR3 : V12.cell? ⟨br, 3, none⟩ = some (.int .u64 (w3 (0) : Nat)) := by rw [cell_of_row _ _ _ _ _ _ hR]; rfl
      have zR3 := frozen_of_row _ _ 3 _ _ hR
      go_wp2_with fail
      refine bodyPost_ret (v := _) (by simp [results, Try.results4, go_sem]; rfl) rfl ?_
      exact ⟨rfl, by first | exact kk | exact kk.drew | exact below_drewN kk _⟩
    · have P4 := Lib.hid (show p % 4 = 3 by rw [← hp]; exact pr7_four hk2)
      rw [rootB_sq HR.out P4.out]
      have hk2' : ¬ (k : Int) < 2 := by omega
      go_upto_region 15 with fail
      obtain ⟨V12, hW⟩ : ∃ V, V11.alloc (.cells #[.int .u64 (w0 (rootN (mulm p z z) p) : Nat), .int .u64 (w1 (rootN (mulm p z z) p) : Nat), .int .u64 (w2 (rootN (mulm p z z) p) : Nat), .int .u64 (w3 (rootN (mulm p z z) p) : Nat)] 24 (0, 0)) = V := ⟨_, rfl⟩
      rw [hW]
      obtain ⟨br, hbx⟩ : ∃ n, V11.heap.size = n := ⟨_, rfl⟩
      rw [hbx]
      have hNEW : V12.heap[br]? = some (.cells #[.int .u64 (w0 (rootN (mulm p z z) p) : Nat), .int .u64 (w1 (rootN (mulm p z z) p) : Nat), .int .u64 (w2 (rootN (mulm p z z) p) : Nat), .int .u64 (w3 (rootN (mulm p z z) p) : Nat)] 24 (0, 0)) := by rw [← hW, ← hbx]; exact heap_alloc_new _ _
      have lRA : w.heap.size < br := by rw [← hbx]; exact lt_of_heap hA
      replace hA : V12.heap[w.heap.size]? = some (.cells #[.int .u64 (w0 (z) : Nat), .int .u64 (w1 (z) : Nat), .int .u64 (w2 (z) : Nat), .int .u64 (w3 (z) : Nat)] 24 (0, 0)) := by rw [← hW]; exact ak hA
      have lRQ : g < br := by rw [← hbx]; exact lt_of_heap hQ
      replace hQ : V12.heap[g]? = some (.cells #[.int .u64 (w0 (p) : Nat), .int .u64 (w1 (p) : Nat), .int .u64 (w2 (p) : Nat), .int .u64 (w3 (p) : Nat), .int .u64 (finv1 (p) : Nat), .int .u64 (w0 (fsq (p)) : Nat), .int .u64 (w1 (fsq (p)) : Nat), .int .u64 (w2 (fsq (p)) : Nat), .int .u64 (w3 (fsq (p)) : Nat)] 90 (0, 0)) := by rw [← hW]; exact ak hQ
      have lRI : bi < br := by rw [← hbx]; exact lt_of_heap hI
      replace hI : V12.heap[bi]? = some (.cells #[.int .u64 (w0 (0) : Nat), .int .u64 (w1 (0) : Nat), .int .u64 (w2 (0) : Nat), .int .u64 (w3 (0) : Nat)] 24 (0, 0)) := by rw [← hW]; exact ak hI
      have lR : w.heap.size ≤ br := by rw [← hbx]; exact kk.size
      replace kk : Below w.heap.size w V12 := by rw [← hW]; exact bal kk _
      have hR := hNEW
      replace fF := IsF.of HF.out hQ
      clear hNEW hW hbx
      clear hk2
      have cA0 : V12.cell? ⟨w.heap.size, 0, none⟩ = some (.int .u64 (w0 (z) : Nat)) := by rw [cell_of_row _ _ _ _ _ _ hA]; rfl
      have zA0 := frozen_of_row _ _ 0 _ _ hA
      have cA1 : V12.cell? ⟨w.heap.size, 1, none⟩ = some (.int .u64 (w1 (z) : Nat)) := by rw [cell_of_row _ _ _ _ _ _ hA]; rfl
      have zA1 := frozen_of_row _ _ 1 _ _ hA
      have cA2 : V12.cell? ⟨w.heap.size, 2, none⟩ = some (.int .u64 (w2 (z) : Nat)) := by rw [cell_of_row _ _ _ _ _ _ hA]; rfl
      have zA2 := frozen_of_row _ _ 2 _ _ hA
      have cA3 : V12.cell? ⟨w.heap.size, 3, none⟩ = some (.int .u64 (w3 (z) : Nat)) := by rw [cell_of_row _ _ _ _ _ _ hA]; rfl
      have zA3 := frozen_of_row _ _ 3 _ _ hA
      go_wp2_with fail
      refine (root_any (W4.mk' HZl.out) _ fF).mono ?_
      rintro e V13 ⟨rfl, hb⟩
      replace hA := below_get hb (show _ = some (.cells #[.int .u64 (w0 (z) : Nat), .int .u64 (w1 (z) : Nat), .int .u64 (w2 (z) : Nat), .int .u64 (w3 (z) : Nat)] 24 (0, 0)) from hA)
      replace hQ := below_get hb (show _ = some (.cells #[.int .u64 (w0 (p) : Nat), .int .u64 (w1 (p) : Nat), .int .u64 (w2 (p) : Nat), .int .u64 (w3 (p) : Nat), .int .u64 (finv1 (p) : Nat), .int .u64 (w0 (fsq (p)) : Nat), .int .u64 (w1 (fsq (p)) : Nat), .int .u64 (w2 (fsq (p)) : Nat), .int .u64 (w3 (fsq (p)) : Nat)] 90 (0, 0)) from hQ)
      replace hI := below_get hb (show _ = some (.cells #[.int .u64 (w0 (0) : Nat), .int .u64 (w1 (0) : Nat), .int .u64 (w2 (0) : Nat), .int .u64 (w3 (0) : Nat)] 24 (0, 0)) from hI)
      replace hR := below_get hb (show _ = some (.cells #[.int .u64 (w0 (rootN (mulm p z z) p) : Nat), .int .u64 (w1 (rootN (mulm p z z) p) : Nat), .int .u64 (w2 (rootN (mulm p z z) p) : Nat), .int .u64 (w3 (rootN (mulm p z z) p) : Nat)] 24 (0, 0)) from hR)
      replace kk := bcl (by first | exact kk | exact kk.drew | exact below_drewN kk _) hb
      replace fF := IsF.of HF.out hQ
      clear cA0 zA0 cA1 zA1 cA2 zA2 cA3 zA3
      clear hb
      have q4 := eqlG (show mulm p (rootN (mulm p z z) p) (rootN (mulm p z z) p) < 2 ^ 256 from L) (show mulm p z z < 2 ^ 256 from L) ((rootN_some (rootB_sq HR.out P4.out)).trans (Nat.mod_mod _ _))
      have IS := rootB_is HR.out P4.out HZ.out
      · replace IS : rootB z p = true := by rw [IS, decide_eq_true hz'.out]; rfl
        rw [show rootB z p = true from IS]
        skip
        go_upto_region 18 with fail
        obtain ⟨V14, hW⟩ : ∃ V, V13.alloc (.cells #[.int .u64 (w0 (rootN z p) : Nat), .int .u64 (w1 (rootN z p) : Nat), .int .u64 (w2 (rootN z p) : Nat), .int .u64 (w3 (rootN z p) : Nat)] 24 (0, 0)) = V := ⟨_, rfl⟩
        rw [hW]
        obtain ⟨bx, hbx⟩ : ∃ n, V13.heap.size = n := ⟨_, rfl⟩
        rw [hbx]
        have hNEW : V14.heap[bx]? = some (.cells #[.int .u64 (w0 (rootN z p) : Nat), .int .u64 (w1 (rootN z p) : Nat), .int .u64 (w2 (rootN z p) : Nat), .int .u64 (w3 (rootN z p) : Nat)] 24 (0, 0)) := by rw [← hW, ← hbx]; exact heap_alloc_new _ _
        have lXA : w.heap.size < bx := by rw [← hbx]; exact lt_of_heap hA
        replace hA : V14.heap[w.heap.size]? = some (.cells #[.int .u64 (w0 (z) : Nat), .int .u64 (w1 (z) : Nat), .int .u64 (w2 (z) : Nat), .int .u64 (w3 (z) : Nat)] 24 (0, 0)) := by rw [← hW]; exact ak hA
        have lXQ : g < bx := by rw [← hbx]; exact lt_of_heap hQ
        replace hQ : V14.heap[g]? = some (.cells #[.int .u64 (w0 (p) : Nat), .int .u64 (w1 (p) : Nat), .int .u64 (w2 (p) : Nat), .int .u64 (w3 (p) : Nat), .int .u64 (finv1 (p) : Nat), .int .u64 (w0 (fsq (p)) : Nat), .int .u64 (w1 (fsq (p)) : Nat), .int .u64 (w2 (fsq (p)) : Nat), .int .u64 (w3 (fsq (p)) : Nat)] 90 (0, 0)) := by rw [← hW]; exact ak hQ
        have lXI : bi < bx := by rw [← hbx]; exact lt_of_heap hI
        replace hI : V14.heap[bi]? = some (.cells #[.int .u64 (w0 (0) : Nat), .int .u64 (w1 (0) : Nat), .int .u64 (w2 (0) : Nat), .int .u64 (w3 (0) : Nat)] 24 (0, 0)) := by rw [← hW]; exact ak hI
        have lXR : br < bx := by rw [← hbx]; exact lt_of_heap hR
        replace hR : V14.heap[br]? = some (.cells #[.int .u64 (w0 (rootN (mulm p z z) p) : Nat), .int .u64 (w1 (rootN (mulm p z z) p) : Nat), .int .u64 (w2 (rootN (mulm p z z) p) : Nat), .int .u64 (w3 (rootN (mulm p z z) p) : Nat)] 24 (0, 0)) := by rw [← hW]; exact ak hR
        have lX : w.heap.size ≤ bx := by rw [← hbx]; exact kk.size
        replace kk : Below w.heap.size w V14 := by rw [← hW]; exact bal kk _
        have hX := hNEW
        replace fF := IsF.of HF.out hQ
        clear hNEW hW hbx
        have q5 := eqlG (show mulm p (rootN z p) (rootN z p) < 2 ^ 256 from L) HZl.out ((rootN_some IS).trans HZm.out)
        clear IS
        go_wp2_with fail
        refine (modulus_any _ fF).mono ?_
        rintro e V15 ⟨rfl, hb⟩
        replace hA := below_get hb (show _ = some (.cells #[.int .u64 (w0 (z) : Nat), .int .u64 (w1 (z) : Nat), .int .u64 (w2 (z) : Nat), .int .u64 (w3 (z) : Nat)] 24 (0, 0)) from hA)
        replace hQ := below_get hb (show _ = some (.cells #[.int .u64 (w0 (p) : Nat), .int .u64 (w1 (p) : Nat), .int .u64 (w2 (p) : Nat), .int .u64 (w3 (p) : Nat), .int .u64 (finv1 (p) : Nat), .int .u64 (w0 (fsq (p)) : Nat), .int .u64 (w1 (fsq (p)) : Nat), .int .u64 (w2 (fsq (p)) : Nat), .int .u64 (w3 (fsq (p)) : Nat)] 90 (0, 0)) from hQ)
        replace hI := below_get hb (show _ = some (.cells #[.int .u64 (w0 (0) : Nat), .int .u64 (w1 (0) : Nat), .int .u64 (w2 (0) : Nat), .int .u64 (w3 (0) : Nat)] 24 (0, 0)) from hI)
        replace hR := below_get hb (show _ = some (.cells #[.int .u64 (w0 (rootN (mulm p z z) p) : Nat), .int .u64 (w1 (rootN (mulm p z z) p) : Nat), .int .u64 (w2 (rootN (mulm p z z) p) : Nat), .int .u64 (w3 (rootN (mulm p z z) p) : Nat)] 24 (0, 0)) from hR)
        replace hX := below_get hb (show _ = some (.cells #[.int .u64 (w0 (rootN z p) : Nat), .int .u64 (w1 (rootN z p) : Nat), .int .u64 (w2 (rootN z p) : Nat), .int .u64 (w3 (rootN z p) : Nat)] 24 (0, 0)) from hX)
        replace kk := bcl (by first | exact kk | exact kk.drew | exact below_drewN kk _) hb
        replace fF := IsF.of HF.out hQ
        clear hb
        go_wp2_with fail
        refine (of_any _ _).mono ?_
        rintro e V16 ⟨rfl, hb⟩
        replace hA := below_get hb (show _ = some (.cells #[.int .u64 (w0 (z) : Nat), .int .u64 (w1 (z) : Nat), .int .u64 (w2 (z) : Nat), .int .u64 (w3 (z) : Nat)] 24 (0, 0)) from hA)
        replace hQ := below_get hb (show _ = some (.cells #[.int .u64 (w0 (p) : Nat), .int .u64 (w1 (p) : Nat), .int .u64 (w2 (p) : Nat), .int .u64 (w3 (p) : Nat), .int .u64 (finv1 (p) : Nat), .int .u64 (w0 (fsq (p)) : Nat), .int .u64 (w1 (fsq (p)) : Nat), .int .u64 (w2 (fsq (p)) : Nat), .int .u64 (w3 (fsq (p)) : Nat)] 90 (0, 0)) from hQ)
        replace hI := below_get hb (show _ = some (.cells #[.int .u64 (w0 (0) : Nat), .int .u64 (w1 (0) : Nat), .int .u64 (w2 (0) : Nat), .int .u64 (w3 (0) : Nat)] 24 (0, 0)) from hI)
        replace hR := below_get hb (show _ = some (.cells #[.int .u64 (w0 (rootN (mulm p z z) p) : Nat), .int .u64 (w1 (rootN (mulm p z z) p) : Nat), .int .u64 (w2 (rootN (mulm p z z) p) : Nat), .int .u64 (w3 (rootN (mulm p z z) p) : Nat)] 24 (0, 0)) from hR)
        replace hX := below_get hb (show _ = some (.cells #[.int .u64 (w0 (rootN z p) : Nat), .int .u64 (w1 (rootN z p) : Nat), .int .u64 (w2 (rootN z p) : Nat), .int .u64 (w3 (rootN z p) : Nat)] 24 (0, 0)) from hX)
        replace kk := bcl (by first | exact kk | exact kk.drew | exact below_drewN kk _) hb
        replace fF := IsF.of HF.out hQ
        clear hb
        go_wp2_with fail
        refine (sub_any (W4.mk' HM.out) (W4.small (n := 1) rfl (by decide)) _).mono ?_
        rintro e V17 ⟨rfl, hb⟩
        replace hA := below_get hb (show _ = some (.cells #[.int .u64 (w0 (z) : Nat), .int .u64 (w1 (z) : Nat), .int .u64 (w2 (z) : Nat), .int .u64 (w3 (z) : Nat)] 24 (0, 0)) from hA)
        replace hQ := below_get hb (show _ = some (.cells #[.int .u64 (w0 (p) : Nat), .int .u64 (w1 (p) : Nat), .int .u64 (w2 (p) : Nat), .int .u64 (w3 (p) : Nat), .int .u64 (finv1 (p) : Nat), .int .u64 (w0 (fsq (p)) : Nat), .int .u64 (w1 (fsq (p)) : Nat), .int .u64 (w2 (fsq (p)) : Nat), .int .u64 (w3 (fsq (p)) : Nat)] 90 (0, 0)) from hQ)
        replace hI := below_get hb (show _ = some (.cells #[.int .u64 (w0 (0) : Nat), .int .u64 (w1 (0) : Nat), .int .u64 (w2 (0) : Nat), .int .u64 (w3 (0) : Nat)] 24 (0, 0)) from hI)
        replace hR := below_get hb (show _ = some (.cells #[.int .u64 (w0 (rootN (mulm p z z) p) : Nat), .int .u64 (w1 (rootN (mulm p z z) p) : Nat), .int .u64 (w2 (rootN (mulm p z z) p) : Nat), .int .u64 (w3 (rootN (mulm p z z) p) : Nat)] 24 (0, 0)) from hR)
        replace hX := below_get hb (show _ = some (.cells #[.int .u64 (w0 (rootN z p) : Nat), .int .u64 (w1 (rootN z p) : Nat), .int .u64 (w2 (rootN z p) : Nat), .int .u64 (w3 (rootN z p) : Nat)] 24 (0, 0)) from hX)
        replace kk := bcl (by first | exact kk | exact kk.drew | exact below_drewN kk _) hb
        replace fF := IsF.of HF.out hQ
        clear hb
        rw [subm_two HM.out (show 1 ≤ p by omega)]
        go_upto_region 19 with fail
        obtain ⟨V18, hW⟩ : ∃ V, V17.alloc (.cells #[.int .u64 (w0 (p - 1) : Nat), .int .u64 (w1 (p - 1) : Nat), .int .u64 (w2 (p - 1) : Nat), .int .u64 (w3 (p - 1) : Nat)] 24 (0, 0)) = V := ⟨_, rfl⟩
        rw [hW]
        obtain ⟨by1, hbx⟩ : ∃ n, V17.heap.size = n := ⟨_, rfl⟩
        rw [hbx]
        have hNEW : V18.heap[by1]? = some (.cells #[.int .u64 (w0 (p - 1) : Nat), .int .u64 (w1 (p - 1) : Nat), .int .u64 (w2 (p - 1) : Nat), .int .u64 (w3 (p - 1) : Nat)] 24 (0, 0)) := by rw [← hW, ← hbx]; exact heap_alloc_new _ _
        have lYA : w.heap.size < by1 := by rw [← hbx]; exact lt_of_heap hA
        replace hA : V18.heap[w.heap.size]? = some (.cells #[.int .u64 (w0 (z) : Nat), .int .u64 (w1 (z) : Nat), .int .u64 (w2 (z) : Nat), .int .u64 (w3 (z) : Nat)] 24 (0, 0)) := by rw [← hW]; exact ak hA
        have lYQ : g < by1 := by rw [← hbx]; exact lt_of_heap hQ
        replace hQ : V18.heap[g]? = some (.cells #[.int .u64 (w0 (p) : Nat), .int .u64 (w1 (p) : Nat), .int .u64 (w2 (p) : Nat), .int .u64 (w3 (p) : Nat), .int .u64 (finv1 (p) : Nat), .int .u64 (w0 (fsq (p)) : Nat), .int .u64 (w1 (fsq (p)) : Nat), .int .u64 (w2 (fsq (p)) : Nat), .int .u64 (w3 (fsq (p)) : Nat)] 90 (0, 0)) := by rw [← hW]; exact ak hQ
        have lYI : bi < by1 := by rw [← hbx]; exact lt_of_heap hI
        replace hI : V18.heap[bi]? = some (.cells #[.int .u64 (w0 (0) : Nat), .int .u64 (w1 (0) : Nat), .int .u64 (w2 (0) : Nat), .int .u64 (w3 (0) : Nat)] 24 (0, 0)) := by rw [← hW]; exact ak hI
        have lYR : br < by1 := by rw [← hbx]; exact lt_of_heap hR
        replace hR : V18.heap[br]? = some (.cells #[.int .u64 (w0 (rootN (mulm p z z) p) : Nat), .int .u64 (w1 (rootN (mulm p z z) p) : Nat), .int .u64 (w2 (rootN (mulm p z z) p) : Nat), .int .u64 (w3 (rootN (mulm p z z) p) : Nat)] 24 (0, 0)) := by rw [← hW]; exact ak hR
        have lYX : bx < by1 := by rw [← hbx]; exact lt_of_heap hX
        replace hX : V18.heap[bx]? = some (.cells #[.int .u64 (w0 (rootN z p) : Nat), .int .u64 (w1 (rootN z p) : Nat), .int .u64 (w2 (rootN z p) : Nat), .int .u64 (w3 (rootN z p) : Nat)] 24 (0, 0)) := by rw [← hW]; exact ak hX
        have lY : w.heap.size ≤ by1 := by rw [← hbx]; exact kk.size
        replace kk : Below w.heap.size w V18 := by rw [← hW]; exact bal kk _
        have hY := hNEW
        replace fF := IsF.of HF.out hQ
        clear hNEW hW hbx
        have cA0 : V18.cell? ⟨w.heap.size, 0, none⟩ = some (.int .u64 (w0 (z) : Nat)) := by rw [cell_of_row _ _ _ _ _ _ hA]; rfl
        have zA0 := frozen_of_row _ _ 0 _ _ hA
        have cA1 : V18.cell? ⟨w.heap.size, 1, none⟩ = some (.int .u64 (w1 (z) : Nat)) := by rw [cell_of_row _ _ _ _ _ _ hA]; rfl
        have zA1 := frozen_of_row _ _ 1 _ _ hA
        have cA2 : V18.cell? ⟨w.heap.size, 2, none⟩ = some (.int .u64 (w2 (z) : Nat)) := by rw [cell_of_row _ _ _ _ _ _ hA]; rfl
        have zA2 := frozen_of_row _ _ 2 _ _ hA
        have cA3 : V18.cell? ⟨w.heap.size, 3, none⟩ = some (.int .u64 (w3 (z) : Nat)) := by rw [cell_of_row _ _ _ _ _ _ hA]; rfl
        have zA3 := frozen_of_row _ _ 3 _ _ hA
        have cY0 : V18.cell? ⟨by1, 0, none⟩ = some (.int .u64 (w0 (p - 1) : Nat)) := by rw [cell_of_row _ _ _ _ _ _ hY]; rfl
        have zY0 := frozen_of_row _ _ 0 _ _ hY
        have cY1 : V18.cell? ⟨by1, 1, none⟩ = some (.int .u64 (w1 (p - 1) : Nat)) := by rw [cell_of_row _ _ _ _ _ _ hY]; rfl
        have zY1 := frozen_of_row _ _ 1 _ _ hY
        have cY2 : V18.cell? ⟨by1, 2, none⟩ = some (.int .u64 (w2 (p - 1) : Nat)) := by rw [cell_of_row _ _ _ _ _ _ hY]; rfl
        have zY2 := frozen_of_row _ _ 2 _ _ hY
        have cY3 : V18.cell? ⟨by1, 3, none⟩ = some (.int .u64 (w3 (p - 1) : Nat)) := by rw [cell_of_row _ _ _ _ _ _ hY]; rfl
        have zY3 := frozen_of_row _ _ 3 _ _ hY
        go_quiet (fail)
        obtain ⟨W, hW⟩ : ∃ V, V18.drewN nq = V := ⟨_, rfl⟩
        rw [hW]
        replace hA : W.heap[w.heap.size]? = some (.cells #[.int .u64 (w0 (z) : Nat), .int .u64 (w1 (z) : Nat), .int .u64 (w2 (z) : Nat), .int .u64 (w3 (z) : Nat)] 24 (0, 0)) := by rw [← hW]; exact hA
        replace hQ : W.heap[g]? = some (.cells #[.int .u64 (w0 (p) : Nat), .int .u64 (w1 (p) : Nat), .int .u64 (w2 (p) : Nat), .int .u64 (w3 (p) : Nat), .int .u64 (finv1 (p) : Nat), .int .u64 (w0 (fsq (p)) : Nat), .int .u64 (w1 (fsq (p)) : Nat), .int .u64 (w2 (fsq (p)) : Nat), .int .u64 (w3 (fsq (p)) : Nat)] 90 (0, 0)) := by rw [← hW]; exact hQ
        replace hI : W.heap[bi]? = some (.cells #[.int .u64 (w0 (0) : Nat), .int .u64 (w1 (0) : Nat), .int .u64 (w2 (0) : Nat), .int .u64 (w3 (0) : Nat)] 24 (0, 0)) := by rw [← hW]; exact hI
        replace hR : W.heap[br]? = some (.cells #[.int .u64 (w0 (rootN (mulm p z z) p) : Nat), .int .u64 (w1 (rootN (mulm p z z) p) : Nat), .int .u64 (w2 (rootN (mulm p z z) p) : Nat), .int .u64 (w3 (rootN (mulm p z z) p) : Nat)] 24 (0, 0)) := by rw [← hW]; exact hR
        replace hX : W.heap[bx]? = some (.cells #[.int .u64 (w0 (rootN z p) : Nat), .int .u64 (w1 (rootN z p) : Nat), .int .u64 (w2 (rootN z p) : Nat), .int .u64 (w3 (rootN z p) : Nat)] 24 (0, 0)) := by rw [← hW]; exact hX
        replace hY : W.heap[by1]? = some (.cells #[.int .u64 (w0 (p - 1) : Nat), .int .u64 (w1 (p - 1) : Nat), .int .u64 (w2 (p - 1) : Nat), .int .u64 (w3 (p - 1) : Nat)] 24 (0, 0)) := by rw [← hW]; exact hY
        replace kk : Below w.heap.size w W := by rw [← hW]; exact below_drewN kk _
        replace fF := IsF.of HF.out hQ
        clear cA0 zA0 cA1 zA1 cA2 zA2 cA3 zA3 cY0 zY0 cY1 zY1 cY2 zY2 cY3 zY3
        clear hW
        go_upto_region 20 with fail
        try simp only [List.append]
        have cA0 : World.cell? W ⟨w.heap.size, 0, none⟩ = some (.int .u64 (w0 (z) : Nat)) := by rw [cell_of_row _ _ _ _ _ _ hA]; rfl
        have cA1 : World.cell? W ⟨w.heap.size, 1, none⟩ = some (.int .u64 (w1 (z) : Nat)) := by rw [cell_of_row _ _ _ _ _ _ hA]; rfl
        have cA2 : World.cell? W ⟨w.heap.size, 2, none⟩ = some (.int .u64 (w2 (z) : Nat)) := by rw [cell_of_row _ _ _ _ _ _ hA]; rfl
        have cA3 : World.cell? W ⟨w.heap.size, 3, none⟩ = some (.int .u64 (w3 (z) : Nat)) := by rw [cell_of_row _ _ _ _ _ _ hA]; rfl
        have cR0 : World.cell? W ⟨br, 0, none⟩ = some (.int .u64 (w0 (rootN (mulm p z z) p) : Nat)) := by rw [cell_of_row _ _ _ _ _ _ hR]; rfl
        have cR1 : World.cell? W ⟨br, 1, none⟩ = some (.int .u64 (w1 (rootN (mulm p z z) p) : Nat)) := by rw [cell_of_row _ _ _ _ _ _ hR]; rfl
        have cR2 : World.cell? W ⟨br, 2, none⟩ = some (.int .u64 (w2 (rootN (mulm p z z) p) : Nat)) := by rw [cell_of_row _ _ _ _ _ _ hR]; rfl
        have cR3 : World.cell? W ⟨br, 3, none⟩ = some (.int .u64 (w3 (rootN (mulm p z z) p) : Nat)) := by rw [cell_of_row _ _ _ _ _ _ hR]; rfl
        have cX0 : World.cell? W ⟨bx, 0, none⟩ = some (.int .u64 (w0 (rootN z p) : Nat)) := by rw [cell_of_row _ _ _ _ _ _ hX]; rfl
        have cX1 : World.cell? W ⟨bx, 1, none⟩ = some (.int .u64 (w1 (rootN z p) : Nat)) := by rw [cell_of_row _ _ _ _ _ _ hX]; rfl
        have cX2 : World.cell? W ⟨bx, 2, none⟩ = some (.int .u64 (w2 (rootN z p) : Nat)) := by rw [cell_of_row _ _ _ _ _ _ hX]; rfl
        have cX3 : World.cell? W ⟨bx, 3, none⟩ = some (.int .u64 (w3 (rootN z p) : Nat)) := by rw [cell_of_row _ _ _ _ _ _ hX]; rfl
        refine wp_region_held_drew (S := (fun w' => w'.cell? ⟨w.heap.size, 0, none⟩ = some (.int .u64 (w0 (z) : Nat)) ∧ w'.cell? ⟨w.heap.size, 1, none⟩ = some (.int .u64 (w1 (z) : Nat)) ∧ w'.cell? ⟨w.heap.size, 2, none⟩ = some (.int .u64 (w2 (z) : Nat)) ∧ w'.cell? ⟨w.heap.size, 3, none⟩ = some (.int .u64 (w3 (z) : Nat)) ∧ w'.cell? ⟨br, 0, none⟩ = some (.int .u64 (w0 (rootN (mulm p z z) p) : Nat)) ∧ w'.cell? ⟨br, 1, none⟩ = some (.int .u64 (w1 (rootN (mulm p z z) p) : Nat)) ∧ w'.cell? ⟨br, 2, none⟩ = some (.int .u64 (w2 (rootN (mulm p z z) p) : Nat)) ∧ w'.cell? ⟨br, 3, none⟩ = some (.int .u64 (w3 (rootN (mulm p z z) p) : Nat)) ∧ w'.cell? ⟨bx, 0, none⟩ = some (.int .u64 (w0 (rootN z p) : Nat)) ∧ w'.cell? ⟨bx, 1, none⟩ = some (.int .u64 (w1 (rootN z p) : Nat)) ∧ w'.cell? ⟨bx, 2, none⟩ = some (.int .u64 (w2 (rootN z p) : Nat)) ∧ w'.cell? ⟨bx, 3, none⟩ = some (.int .u64 (w3 (rootN z p) : Nat)))) (by kernel_rfl) (by (try dsimp only); first | (with_reducible exact ⟨cA0, cA1, cA2, cA3, cR0, cR1, cR2, cR3, cX0, cX1, cX2, cX3⟩) | exact ⟨cA0, cA1, cA2, cA3, cR0, cR1, cR2, cR3, cX0, cX1, cX2, cX3⟩ | go_keep) (fun hHeld => ?_)
        refine takeH (i := 0) (d := some 110) (v := ?_) _ rfl rfl (by rfl) (by kernel_rfl) (by kernel_rfl) (by kernel_rfl) (fun _ _ _ h => h) (by assumption) ?_ ?_
        rotate_left
        · (intro w' hSw; (try dsimp only at hSw); go_simp; try (with_reducible rfl))
        try simp only [Act.put, List.setIfInBounds_toArray, List.set_cons_zero, List.set_cons_succ]
        refine takeH (i := 1) (d := some 111) (v := ?_) _ rfl rfl (by rfl) (by kernel_rfl) (by kernel_rfl) (by kernel_rfl) (fun _ _ _ h => h) (by assumption) ?_ ?_
        rotate_left
        · (intro w' hSw; (try dsimp only at hSw); go_simp; try (with_reducible rfl))
        try simp only [Act.put, List.setIfInBounds_toArray, List.set_cons_zero, List.set_cons_succ]
        refine takeH (i := 2) (d := some 112) (v := ?_) _ rfl rfl (by rfl) (by kernel_rfl) (by kernel_rfl) (by kernel_rfl) (fun _ _ _ h => h) (by assumption) ?_ ?_
        rotate_left
        · (intro w' hSw; (try dsimp only at hSw); go_simp; try (with_reducible rfl))
        try simp only [Act.put, List.setIfInBounds_toArray, List.set_cons_zero, List.set_cons_succ]
        refine takeH (i := 3) (d := some 113) (v := ?_) _ rfl rfl (by rfl) (by kernel_rfl) (by kernel_rfl) (by kernel_rfl) (fun _ _ _ h => h) (by assumption) ?_ ?_
        rotate_left
        · (intro w' hSw; (try dsimp only at hSw); go_simp; try (with_reducible rfl))
        try simp only [Act.put, List.setIfInBounds_toArray, List.set_cons_zero, List.set_cons_succ]
        refine takeH (i := 4) (d := some 114) (v := ?_) _ rfl rfl (by rfl) (by kernel_rfl) (by kernel_rfl) (by kernel_rfl) (fun _ _ _ h => h) (by assumption) ?_ ?_
        rotate_left
        · (intro w' hSw; (try dsimp only at hSw); go_simp; try (with_reducible rfl))
        try simp only [Act.put, List.setIfInBounds_toArray, List.set_cons_zero, List.set_cons_succ]
        refine takeH (i := 6) (d := some 116) (v := ?_) _ rfl rfl (by rfl) (by kernel_rfl) (by kernel_rfl) (by kernel_rfl) (fun _ _ _ h => h) (by assumption) ?_ ?_
        rotate_left
        · (intro w' hSw; (try dsimp only at hSw); go_simp; try (with_reducible rfl))
        try simp only [Act.put, List.setIfInBounds_toArray, List.set_cons_zero, List.set_cons_succ]
        refine takeH (i := 7) (d := some 117) (v := ?_) _ rfl rfl (by rfl) (by kernel_rfl) (by kernel_rfl) (by kernel_rfl) (fun _ _ _ h => h) (by assumption) ?_ ?_
        rotate_left
        · (intro w' hSw; (try dsimp only at hSw); go_simp; try (with_reducible rfl))
        try simp only [Act.put, List.setIfInBounds_toArray, List.set_cons_zero, List.set_cons_succ]
        refine takeH (i := 8) (d := some 118) (v := ?_) _ rfl rfl (by rfl) (by kernel_rfl) (by kernel_rfl) (by kernel_rfl) (fun _ _ _ h => h) (by assumption) ?_ ?_
        rotate_left
        · (intro w' hSw; (try dsimp only at hSw); go_simp; try (with_reducible rfl))
        try simp only [Act.put, List.setIfInBounds_toArray, List.set_cons_zero, List.set_cons_succ]
        refine callH (i := 5) _ rfl (by rfl) (by kernel_rfl) (fun K hK => ?_)
        go_simp
        first | (go_at_call 26; refine (mulG_any (by first | exact W4.mk' hla.out | exact W4.mk' HM.out | exact W4.mk' HZl.out | exact W4.mk' HI.out | exact W4.mk' HRR.out | exact W4.mk' HXX.out | exact W4.mk' HH.out | exact W4.mk' HH2.out | exact W4.mk' (Nat.lt_trans (Nat.mod_lt _ hpos) HM.out) | exact W4.small (n := 1) rfl (by decide) | exact W4.small (n := 2) rfl (by decide) | exact W4.small (n := 3) rfl (by decide) | exact W4.small (n := 4) rfl (by decide) | exact W4.small (n := 5) rfl (by decide) | exact W4.small (n := 7) rfl (by decide)) (by first | exact W4.mk' hla.out | exact W4.mk' HM.out | exact W4.mk' HZl.out | exact W4.mk' HI.out | exact W4.mk' HRR.out | exact W4.mk' HXX.out | exact W4.mk' HH.out | exact W4.mk' HH2.out | exact W4.mk' (Nat.lt_trans (Nat.mod_lt _ hpos) HM.out) | exact W4.small (n := 1) rfl (by decide) | exact W4.small (n := 2) rfl (by decide) | exact W4.small (n := 3) rfl (by decide) | exact W4.small (n := 4) rfl (by decide) | exact W4.small (n := 5) rfl (by decide) | exact W4.small (n := 7) rfl (by decide)) _ (show IsF _ (g) (p) from (by first | exact fF | exact ⟨fF.blk, fF.odd, fF.three, fF.lt⟩))).mono ?_; rintro e W ⟨rfl, hb⟩; (replace hA := below_get hb (show _ = some (.cells #[.int .u64 (w0 (z) : Nat), .int .u64 (w1 (z) : Nat), .int .u64 (w2 (z) : Nat), .int .u64 (w3 (z) : Nat)] 24 (0, 0)) from by first | exact hA | exact ak hA)); (replace hI := below_get hb (show _ = some (.cells #[.int .u64 (w0 (0) : Nat), .int .u64 (w1 (0) : Nat), .int .u64 (w2 (0) : Nat), .int .u64 (w3 (0) : Nat)] 24 (0, 0)) from by first | exact hI | exact ak hI)); (replace hR := below_get hb (show _ = some (.cells #[.int .u64 (w0 (rootN (mulm p z z) p) : Nat), .int .u64 (w1 (rootN (mulm p z z) p) : Nat), .int .u64 (w2 (rootN (mulm p z z) p) : Nat), .int .u64 (w3 (rootN (mulm p z z) p) : Nat)] 24 (0, 0)) from by first | exact hR | exact ak hR)); (replace hX := below_get hb (show _ = some (.cells #[.int .u64 (w0 (rootN z p) : Nat), .int .u64 (w1 (rootN z p) : Nat), .int .u64 (w2 (rootN z p) : Nat), .int .u64 (w3 (rootN z p) : Nat)] 24 (0, 0)) from by first | exact hX | exact ak hX)); (replace hQ := below_get hb (show _ = some (.cells #[.int .u64 (w0 (p) : Nat), .int .u64 (w1 (p) : Nat), .int .u64 (w2 (p) : Nat), .int .u64 (w3 (p) : Nat), .int .u64 (finv1 (p) : Nat), .int .u64 (w0 (fsq (p)) : Nat), .int .u64 (w1 (fsq (p)) : Nat), .int .u64 (w2 (fsq (p)) : Nat), .int .u64 (w3 (fsq (p)) : Nat)] 90 (0, 0)) from by first | exact hQ | exact ak hQ)); (replace kk := bcl (by first | exact kk | exact kk.drew | exact bal kk _ | exact (bal kk _).drew) hb); (replace fF := IsF.of HF.out hQ); (have cA0 : World.cell? W ⟨w.heap.size, 0, none⟩ = some (.int .u64 (w0 (z) : Nat)) := by rw [cell_of_row _ _ _ _ _ _ hA]; rfl); (have cA1 : World.cell? W ⟨w.heap.size, 1, none⟩ = some (.int .u64 (w1 (z) : Nat)) := by rw [cell_of_row _ _ _ _ _ _ hA]; rfl); (have cA2 : World.cell? W ⟨w.heap.size, 2, none⟩ = some (.int .u64 (w2 (z) : Nat)) := by rw [cell_of_row _ _ _ _ _ _ hA]; rfl); (have cA3 : World.cell? W ⟨w.heap.size, 3, none⟩ = some (.int .u64 (w3 (z) : Nat)) := by rw [cell_of_row _ _ _ _ _ _ hA]; rfl); (have cR0 : World.cell? W ⟨br, 0, none⟩ = some (.int .u64 (w0 (rootN (mulm p z z) p) : Nat)) := by rw [cell_of_row _ _ _ _ _ _ hR]; rfl); (have cR1 : World.cell? W ⟨br, 1, none⟩ = some (.int .u64 (w1 (rootN (mulm p z z) p) : Nat)) := by rw [cell_of_row _ _ _ _ _ _ hR]; rfl); (have cR2 : World.cell? W ⟨br, 2, none⟩ = some (.int .u64 (w2 (rootN (mulm p z z) p) : Nat)) := by rw [cell_of_row _ _ _ _ _ _ hR]; rfl); (have cR3 : World.cell? W ⟨br, 3, none⟩ = some (.int .u64 (w3 (rootN (mulm p z z) p) : Nat)) := by rw [cell_of_row _ _ _ _ _ _ hR]; rfl); (have cX0 : World.cell? W ⟨bx, 0, none⟩ = some (.int .u64 (w0 (rootN z p) : Nat)) := by rw [cell_of_row _ _ _ _ _ _ hX]; rfl); (have cX1 : World.cell? W ⟨bx, 1, none⟩ = some (.int .u64 (w1 (rootN z p) : Nat)) := by rw [cell_of_row _ _ _ _ _ _ hX]; rfl); (have cX2 : World.cell? W ⟨bx, 2, none⟩ = some (.int .u64 (w2 (rootN z p) : Nat)) := by rw [cell_of_row _ _ _ _ _ _ hX]; rfl); (have cX3 : World.cell? W ⟨bx, 3, none⟩ = some (.int .u64 (w3 (rootN z p) : Nat)) := by rw [cell_of_row _ _ _ _ _ _ hX]; rfl); clear hb)
        try go_wp2_with fail
        refine hK.out _ _ (by (try dsimp only); first | (with_reducible exact ⟨cA0, cA1, cA2, cA3, cR0, cR1, cR2, cR3, cX0, cX1, cX2, cX3⟩) | exact ⟨cA0, cA1, cA2, cA3, cR0, cR1, cR2, cR3, cX0, cX1, cX2, cX3⟩ | go_keep) (fun hHeld => ?_)
        clear hK K
        try simp only [Act.put, List.setIfInBounds_toArray, List.set_cons_zero, List.set_cons_succ]
        refine callH (i := 9) _ rfl (by rfl) (by kernel_rfl) (fun K hK => ?_)
        go_simp
        first | (go_at_call 26; refine (mulG_any (by first | exact W4.mk' hla.out | exact W4.mk' HM.out | exact W4.mk' HZl.out | exact W4.mk' HI.out | exact W4.mk' HRR.out | exact W4.mk' HXX.out | exact W4.mk' HH.out | exact W4.mk' HH2.out | exact W4.mk' (Nat.lt_trans (Nat.mod_lt _ hpos) HM.out) | exact W4.small (n := 1) rfl (by decide) | exact W4.small (n := 2) rfl (by decide) | exact W4.small (n := 3) rfl (by decide) | exact W4.small (n := 4) rfl (by decide) | exact W4.small (n := 5) rfl (by decide) | exact W4.small (n := 7) rfl (by decide)) (by first | exact W4.mk' hla.out | exact W4.mk' HM.out | exact W4.mk' HZl.out | exact W4.mk' HI.out | exact W4.mk' HRR.out | exact W4.mk' HXX.out | exact W4.mk' HH.out | exact W4.mk' HH2.out | exact W4.mk' (Nat.lt_trans (Nat.mod_lt _ hpos) HM.out) | exact W4.small (n := 1) rfl (by decide) | exact W4.small (n := 2) rfl (by decide) | exact W4.small (n := 3) rfl (by decide) | exact W4.small (n := 4) rfl (by decide) | exact W4.small (n := 5) rfl (by decide) | exact W4.small (n := 7) rfl (by decide)) _ (show IsF _ (g) (p) from (by first | exact fF | exact ⟨fF.blk, fF.odd, fF.three, fF.lt⟩))).mono ?_; rintro e W ⟨rfl, hb⟩; (replace hA := below_get hb (show _ = some (.cells #[.int .u64 (w0 (z) : Nat), .int .u64 (w1 (z) : Nat), .int .u64 (w2 (z) : Nat), .int .u64 (w3 (z) : Nat)] 24 (0, 0)) from by first | exact hA | exact ak hA)); (replace hI := below_get hb (show _ = some (.cells #[.int .u64 (w0 (0) : Nat), .int .u64 (w1 (0) : Nat), .int .u64 (w2 (0) : Nat), .int .u64 (w3 (0) : Nat)] 24 (0, 0)) from by first | exact hI | exact ak hI)); (replace hR := below_get hb (show _ = some (.cells #[.int .u64 (w0 (rootN (mulm p z z) p) : Nat), .int .u64 (w1 (rootN (mulm p z z) p) : Nat), .int .u64 (w2 (rootN (mulm p z z) p) : Nat), .int .u64 (w3 (rootN (mulm p z z) p) : Nat)] 24 (0, 0)) from by first | exact hR | exact ak hR)); (replace hX := below_get hb (show _ = some (.cells #[.int .u64 (w0 (rootN z p) : Nat), .int .u64 (w1 (rootN z p) : Nat), .int .u64 (w2 (rootN z p) : Nat), .int .u64 (w3 (rootN z p) : Nat)] 24 (0, 0)) from by first | exact hX | exact ak hX)); (replace hQ := below_get hb (show _ = some (.cells #[.int .u64 (w0 (p) : Nat), .int .u64 (w1 (p) : Nat), .int .u64 (w2 (p) : Nat), .int .u64 (w3 (p) : Nat), .int .u64 (finv1 (p) : Nat), .int .u64 (w0 (fsq (p)) : Nat), .int .u64 (w1 (fsq (p)) : Nat), .int .u64 (w2 (fsq (p)) : Nat), .int .u64 (w3 (fsq (p)) : Nat)] 90 (0, 0)) from by first | exact hQ | exact ak hQ)); (replace kk := bcl (by first | exact kk | exact kk.drew | exact bal kk _ | exact (bal kk _).drew) hb); (replace fF := IsF.of HF.out hQ); (have cA0 : World.cell? W ⟨w.heap.size, 0, none⟩ = some (.int .u64 (w0 (z) : Nat)) := by rw [cell_of_row _ _ _ _ _ _ hA]; rfl); (have cA1 : World.cell? W ⟨w.heap.size, 1, none⟩ = some (.int .u64 (w1 (z) : Nat)) := by rw [cell_of_row _ _ _ _ _ _ hA]; rfl); (have cA2 : World.cell? W ⟨w.heap.size, 2, none⟩ = some (.int .u64 (w2 (z) : Nat)) := by rw [cell_of_row _ _ _ _ _ _ hA]; rfl); (have cA3 : World.cell? W ⟨w.heap.size, 3, none⟩ = some (.int .u64 (w3 (z) : Nat)) := by rw [cell_of_row _ _ _ _ _ _ hA]; rfl); (have cR0 : World.cell? W ⟨br, 0, none⟩ = some (.int .u64 (w0 (rootN (mulm p z z) p) : Nat)) := by rw [cell_of_row _ _ _ _ _ _ hR]; rfl); (have cR1 : World.cell? W ⟨br, 1, none⟩ = some (.int .u64 (w1 (rootN (mulm p z z) p) : Nat)) := by rw [cell_of_row _ _ _ _ _ _ hR]; rfl); (have cR2 : World.cell? W ⟨br, 2, none⟩ = some (.int .u64 (w2 (rootN (mulm p z z) p) : Nat)) := by rw [cell_of_row _ _ _ _ _ _ hR]; rfl); (have cR3 : World.cell? W ⟨br, 3, none⟩ = some (.int .u64 (w3 (rootN (mulm p z z) p) : Nat)) := by rw [cell_of_row _ _ _ _ _ _ hR]; rfl); (have cX0 : World.cell? W ⟨bx, 0, none⟩ = some (.int .u64 (w0 (rootN z p) : Nat)) := by rw [cell_of_row _ _ _ _ _ _ hX]; rfl); (have cX1 : World.cell? W ⟨bx, 1, none⟩ = some (.int .u64 (w1 (rootN z p) : Nat)) := by rw [cell_of_row _ _ _ _ _ _ hX]; rfl); (have cX2 : World.cell? W ⟨bx, 2, none⟩ = some (.int .u64 (w2 (rootN z p) : Nat)) := by rw [cell_of_row _ _ _ _ _ _ hX]; rfl); (have cX3 : World.cell? W ⟨bx, 3, none⟩ = some (.int .u64 (w3 (rootN z p) : Nat)) := by rw [cell_of_row _ _ _ _ _ _ hX]; rfl); clear hb)
        try go_wp2_with fail
        refine hK.out _ _ (by (try dsimp only); first | (with_reducible exact ⟨cA0, cA1, cA2, cA3, cR0, cR1, cR2, cR3, cX0, cX1, cX2, cX3⟩) | exact ⟨cA0, cA1, cA2, cA3, cR0, cR1, cR2, cR3, cX0, cX1, cX2, cX3⟩ | go_keep) (fun hHeld => ?_)
        clear hK K
        try simp only [Act.put, List.setIfInBounds_toArray, List.set_cons_zero, List.set_cons_succ]
        refine takeH (i := 10) (d := some 120) (v := ?_) _ rfl rfl (by rfl) (by kernel_rfl) (by kernel_rfl) (by kernel_rfl) (fun _ _ _ h => h) (by assumption) ?_ ?_
        rotate_left
        · (intro w' hSw; (try dsimp only at hSw); go_simp; try (with_reducible rfl))
        try simp only [Act.put, List.setIfInBounds_toArray, List.set_cons_zero, List.set_cons_succ]
        refine takeH (i := 11) (d := some 121) (v := ?_) _ rfl rfl (by rfl) (by kernel_rfl) (by kernel_rfl) (by kernel_rfl) (fun _ _ _ h => h) (by assumption) ?_ ?_
        rotate_left
        · (intro w' hSw; (try dsimp only at hSw); go_simp; try (with_reducible rfl))
        try simp only [Act.put, List.setIfInBounds_toArray, List.set_cons_zero, List.set_cons_succ]
        refine takeH (i := 12) (d := some 122) (v := ?_) _ rfl rfl (by rfl) (by kernel_rfl) (by kernel_rfl) (by kernel_rfl) (fun _ _ _ h => h) (by assumption) ?_ ?_
        rotate_left
        · (intro w' hSw; (try dsimp only at hSw); go_simp; try (with_reducible rfl))
        try simp only [Act.put, List.setIfInBounds_toArray, List.set_cons_zero, List.set_cons_succ]
        refine takeH (i := 13) (d := some 123) (v := ?_) _ rfl rfl (by rfl) (by kernel_rfl) (by kernel_rfl) (by kernel_rfl) (fun _ _ _ h => h) (by assumption) ?_ ?_
        rotate_left
        · (intro w' hSw; (try dsimp only at hSw); go_simp; try (with_reducible rfl))
        try simp only [Act.put, List.setIfInBounds_toArray, List.set_cons_zero, List.set_cons_succ]
        refine takeH (i := 14) (d := some 124) (v := ?_) _ rfl rfl (by rfl) (by kernel_rfl) (by kernel_rfl) (by kernel_rfl) (fun _ _ _ h => h) (by assumption) ?_ ?_
        rotate_left
        · (intro w' hSw; (try dsimp only at hSw); go_simp; try (with_reducible rfl))
        try simp only [Act.put, List.setIfInBounds_toArray, List.set_cons_zero, List.set_cons_succ]
        refine takeH (i := 15) (d := some 125) (v := ?_) _ rfl rfl (by rfl) (by kernel_rfl) (by kernel_rfl) (by kernel_rfl) (fun _ _ _ h => h) (by assumption) ?_ ?_
        rotate_left
        · (intro w' hSw; (try dsimp only at hSw); go_simp; try (with_reducible rfl))
        try simp only [Act.put, List.setIfInBounds_toArray, List.set_cons_zero, List.set_cons_succ]
        refine takeH (i := 16) (d := some 126) (v := ?_) _ rfl rfl (by rfl) (by kernel_rfl) (by kernel_rfl) (by kernel_rfl) (fun _ _ _ h => h) (by assumption) ?_ ?_
        rotate_left
        · (intro w' hSw; (try dsimp only at hSw); go_simp; try (with_reducible rfl))
        try simp only [Act.put, List.setIfInBounds_toArray, List.set_cons_zero, List.set_cons_succ]
        refine takeH (i := 17) (d := some 127) (v := ?_) _ rfl rfl (by rfl) (by kernel_rfl) (by kernel_rfl) (by kernel_rfl) (fun _ _ _ h => h) (by assumption) ?_ ?_
        rotate_left
        · (intro w' hSw; (try dsimp only at hSw); go_simp; try (with_reducible rfl))
        try simp only [Act.put, List.setIfInBounds_toArray, List.set_cons_zero, List.set_cons_succ]
        refine takeH (i := 18) (d := some 128) (v := ?_) _ rfl rfl (by rfl) (by kernel_rfl) (by kernel_rfl) (by kernel_rfl) (fun _ _ _ h => h) (by assumption) ?_ ?_
        rotate_left
        · (intro w' hSw; (try dsimp only at hSw); go_simp; try (with_reducible rfl))
        try simp only [Act.put, List.setIfInBounds_toArray, List.set_cons_zero, List.set_cons_succ]
        refine takeH (i := 19) (d := some 129) (v := ?_) _ rfl rfl (by rfl) (by kernel_rfl) (by kernel_rfl) (by kernel_rfl) (fun _ _ _ h => h) (by assumption) ?_ ?_
        rotate_left
        · (intro w' hSw; (try dsimp only at hSw); go_simp; try (with_reducible rfl))
        try simp only [Act.put, List.setIfInBounds_toArray, List.set_cons_zero, List.set_cons_succ]
        refine takeH (i := 20) (d := some 130) (v := ?_) _ rfl rfl (by rfl) (by kernel_rfl) (by kernel_rfl) (by kernel_rfl) (fun _ _ _ h => h) (by assumption) ?_ ?_
        rotate_left
        · (intro w' hSw; (try dsimp only at hSw); go_simp; try (with_reducible rfl))
        try simp only [Act.put, List.setIfInBounds_toArray, List.set_cons_zero, List.set_cons_succ]
        refine skipH (i := 21) (d := some 131) ⟨_, rfl, rfl, by rfl⟩ (by kernel_rfl) (by kernel_rfl) (by kernel_rfl) (fun _ _ _ h => h) (by assumption) ?_
        try simp only [Act.put, List.setIfInBounds_toArray, List.set_cons_zero, List.set_cons_succ]
        refine skipH (i := 22) (d := some 132) ⟨_, rfl, rfl, by rfl⟩ (by kernel_rfl) (by kernel_rfl) (by kernel_rfl) (fun _ _ _ h => h) (by assumption) ?_
        try simp only [Act.put, List.setIfInBounds_toArray, List.set_cons_zero, List.set_cons_succ]
        refine skipH (i := 23) (d := some 133) ⟨_, rfl, rfl, by rfl⟩ (by kernel_rfl) (by kernel_rfl) (by kernel_rfl) (fun _ _ _ h => h) (by assumption) ?_
        try simp only [Act.put, List.setIfInBounds_toArray, List.set_cons_zero, List.set_cons_succ]
        refine takeH (i := 24) (d := some 134) (v := ?_) _ rfl rfl (by rfl) (by kernel_rfl) (by kernel_rfl) (by kernel_rfl) (fun _ _ _ h => h) (by assumption) ?_ ?_
        rotate_left
        · (intro w' hSw; (try dsimp only at hSw); go_simp; try (with_reducible rfl))
        try simp only [Act.put, List.setIfInBounds_toArray, List.set_cons_zero, List.set_cons_succ]
        refine takeH (i := 25) (d := some 135) (v := ?_) _ rfl rfl (by rfl) (by kernel_rfl) (by kernel_rfl) (by kernel_rfl) (fun _ _ _ h => h) (by assumption) ?_ ?_
        rotate_left
        · (intro w' hSw; (try dsimp only at hSw); go_simp; try (with_reducible rfl))
        try simp only [Act.put, List.setIfInBounds_toArray, List.set_cons_zero, List.set_cons_succ]
        refine takeH (i := 26) (d := some 136) (v := ?_) _ rfl rfl (by rfl) (by kernel_rfl) (by kernel_rfl) (by kernel_rfl) (fun _ _ _ h => h) (by assumption) ?_ ?_
        rotate_left
        · (intro w' hSw; (try dsimp only at hSw); go_simp; try (with_reducible rfl))
        try simp only [Act.put, List.setIfInBounds_toArray, List.set_cons_zero, List.set_cons_succ]
        refine takeH (i := 27) (d := some 137) (v := ?_) _ rfl rfl (by rfl) (by kernel_rfl) (by kernel_rfl) (by kernel_rfl) (fun _ _ _ h => h) (by assumption) ?_ ?_
        rotate_left
        · (intro w' hSw; (try dsimp only at hSw); go_simp; try (with_reducible rfl))
        try simp only [Act.put, List.setIfInBounds_toArray, List.set_cons_zero, List.set_cons_succ]
        refine takeH (i := 28) (d := some 138) (v := ?_) _ rfl rfl (by rfl) (by kernel_rfl) (by kernel_rfl) (by kernel_rfl) (fun _ _ _ h => h) (by assumption) ?_ ?_
        rotate_left
        · (intro w' hSw; (try dsimp only at hSw); go_simp; try (with_reducible rfl))
        try simp only [Act.put, List.setIfInBounds_toArray, List.set_cons_zero, List.set_cons_succ]
        refine takeH (i := 29) (d := some 139) (v := ?_) _ rfl rfl (by rfl) (by kernel_rfl) (by kernel_rfl) (by kernel_rfl) (fun _ _ _ h => h) (by assumption) ?_ ?_
        rotate_left
        · (intro w' hSw; (try dsimp only at hSw); go_simp; try (with_reducible rfl))
        try simp only [Act.put, List.setIfInBounds_toArray, List.set_cons_zero, List.set_cons_succ]
        refine takeH (i := 30) (d := some 140) (v := ?_) _ rfl rfl (by rfl) (by kernel_rfl) (by kernel_rfl) (by kernel_rfl) (fun _ _ _ h => h) (by assumption) ?_ ?_
        rotate_left
        · (intro w' hSw; (try dsimp only at hSw); go_simp; try (with_reducible rfl))
        try simp only [Act.put, List.setIfInBounds_toArray, List.set_cons_zero, List.set_cons_succ]
        refine takeH (i := 32) (d := some 142) (v := ?_) _ rfl rfl (by rfl) (by kernel_rfl) (by kernel_rfl) (by kernel_rfl) (fun _ _ _ h => h) (by assumption) ?_ ?_
        rotate_left
        · (intro w' hSw; (try dsimp only at hSw); go_simp; try (with_reducible rfl))
        try simp only [Act.put, List.setIfInBounds_toArray, List.set_cons_zero, List.set_cons_succ]
        refine callH (i := 31) _ rfl (by rfl) (by kernel_rfl) (fun K hK => ?_)
        go_simp
        first | (go_at_call 26; refine (mulG_any (by first | exact W4.mk' hla.out | exact W4.mk' HM.out | exact W4.mk' HZl.out | exact W4.mk' HI.out | exact W4.mk' HRR.out | exact W4.mk' HXX.out | exact W4.mk' HH.out | exact W4.mk' HH2.out | exact W4.mk' (Nat.lt_trans (Nat.mod_lt _ hpos) HM.out) | exact W4.small (n := 1) rfl (by decide) | exact W4.small (n := 2) rfl (by decide) | exact W4.small (n := 3) rfl (by decide) | exact W4.small (n := 4) rfl (by decide) | exact W4.small (n := 5) rfl (by decide) | exact W4.small (n := 7) rfl (by decide)) (by first | exact W4.mk' hla.out | exact W4.mk' HM.out | exact W4.mk' HZl.out | exact W4.mk' HI.out | exact W4.mk' HRR.out | exact W4.mk' HXX.out | exact W4.mk' HH.out | exact W4.mk' HH2.out | exact W4.mk' (Nat.lt_trans (Nat.mod_lt _ hpos) HM.out) | exact W4.small (n := 1) rfl (by decide) | exact W4.small (n := 2) rfl (by decide) | exact W4.small (n := 3) rfl (by decide) | exact W4.small (n := 4) rfl (by decide) | exact W4.small (n := 5) rfl (by decide) | exact W4.small (n := 7) rfl (by decide)) _ (show IsF _ (g) (p) from (by first | exact fF | exact ⟨fF.blk, fF.odd, fF.three, fF.lt⟩))).mono ?_; rintro e W ⟨rfl, hb⟩; (replace hA := below_get hb (show _ = some (.cells #[.int .u64 (w0 (z) : Nat), .int .u64 (w1 (z) : Nat), .int .u64 (w2 (z) : Nat), .int .u64 (w3 (z) : Nat)] 24 (0, 0)) from by first | exact hA | exact ak hA)); (replace hI := below_get hb (show _ = some (.cells #[.int .u64 (w0 (0) : Nat), .int .u64 (w1 (0) : Nat), .int .u64 (w2 (0) : Nat), .int .u64 (w3 (0) : Nat)] 24 (0, 0)) from by first | exact hI | exact ak hI)); (replace hR := below_get hb (show _ = some (.cells #[.int .u64 (w0 (rootN (mulm p z z) p) : Nat), .int .u64 (w1 (rootN (mulm p z z) p) : Nat), .int .u64 (w2 (rootN (mulm p z z) p) : Nat), .int .u64 (w3 (rootN (mulm p z z) p) : Nat)] 24 (0, 0)) from by first | exact hR | exact ak hR)); (replace hX := below_get hb (show _ = some (.cells #[.int .u64 (w0 (rootN z p) : Nat), .int .u64 (w1 (rootN z p) : Nat), .int .u64 (w2 (rootN z p) : Nat), .int .u64 (w3 (rootN z p) : Nat)] 24 (0, 0)) from by first | exact hX | exact ak hX)); (replace hQ := below_get hb (show _ = some (.cells #[.int .u64 (w0 (p) : Nat), .int .u64 (w1 (p) : Nat), .int .u64 (w2 (p) : Nat), .int .u64 (w3 (p) : Nat), .int .u64 (finv1 (p) : Nat), .int .u64 (w0 (fsq (p)) : Nat), .int .u64 (w1 (fsq (p)) : Nat), .int .u64 (w2 (fsq (p)) : Nat), .int .u64 (w3 (fsq (p)) : Nat)] 90 (0, 0)) from by first | exact hQ | exact ak hQ)); (replace kk := bcl (by first | exact kk | exact kk.drew | exact bal kk _ | exact (bal kk _).drew) hb); (replace fF := IsF.of HF.out hQ); (have cA0 : World.cell? W ⟨w.heap.size, 0, none⟩ = some (.int .u64 (w0 (z) : Nat)) := by rw [cell_of_row _ _ _ _ _ _ hA]; rfl); (have cA1 : World.cell? W ⟨w.heap.size, 1, none⟩ = some (.int .u64 (w1 (z) : Nat)) := by rw [cell_of_row _ _ _ _ _ _ hA]; rfl); (have cA2 : World.cell? W ⟨w.heap.size, 2, none⟩ = some (.int .u64 (w2 (z) : Nat)) := by rw [cell_of_row _ _ _ _ _ _ hA]; rfl); (have cA3 : World.cell? W ⟨w.heap.size, 3, none⟩ = some (.int .u64 (w3 (z) : Nat)) := by rw [cell_of_row _ _ _ _ _ _ hA]; rfl); (have cR0 : World.cell? W ⟨br, 0, none⟩ = some (.int .u64 (w0 (rootN (mulm p z z) p) : Nat)) := by rw [cell_of_row _ _ _ _ _ _ hR]; rfl); (have cR1 : World.cell? W ⟨br, 1, none⟩ = some (.int .u64 (w1 (rootN (mulm p z z) p) : Nat)) := by rw [cell_of_row _ _ _ _ _ _ hR]; rfl); (have cR2 : World.cell? W ⟨br, 2, none⟩ = some (.int .u64 (w2 (rootN (mulm p z z) p) : Nat)) := by rw [cell_of_row _ _ _ _ _ _ hR]; rfl); (have cR3 : World.cell? W ⟨br, 3, none⟩ = some (.int .u64 (w3 (rootN (mulm p z z) p) : Nat)) := by rw [cell_of_row _ _ _ _ _ _ hR]; rfl); (have cX0 : World.cell? W ⟨bx, 0, none⟩ = some (.int .u64 (w0 (rootN z p) : Nat)) := by rw [cell_of_row _ _ _ _ _ _ hX]; rfl); (have cX1 : World.cell? W ⟨bx, 1, none⟩ = some (.int .u64 (w1 (rootN z p) : Nat)) := by rw [cell_of_row _ _ _ _ _ _ hX]; rfl); (have cX2 : World.cell? W ⟨bx, 2, none⟩ = some (.int .u64 (w2 (rootN z p) : Nat)) := by rw [cell_of_row _ _ _ _ _ _ hX]; rfl); (have cX3 : World.cell? W ⟨bx, 3, none⟩ = some (.int .u64 (w3 (rootN z p) : Nat)) := by rw [cell_of_row _ _ _ _ _ _ hX]; rfl); clear hb)
        try go_wp2_with fail
        refine hK.out _ _ (by (try dsimp only); first | (with_reducible exact ⟨cA0, cA1, cA2, cA3, cR0, cR1, cR2, cR3, cX0, cX1, cX2, cX3⟩) | exact ⟨cA0, cA1, cA2, cA3, cR0, cR1, cR2, cR3, cX0, cX1, cX2, cX3⟩ | go_keep) (fun hHeld => ?_)
        clear hK K
        try simp only [Act.put, List.setIfInBounds_toArray, List.set_cons_zero, List.set_cons_succ]
        refine takeH (i := 33) (d := some 143) (v := ?_) _ rfl rfl (by rfl) (by kernel_rfl) (by kernel_rfl) (by kernel_rfl) (fun _ _ _ h => h) (by assumption) ?_ ?_
        rotate_left
        · (intro w' hSw; (try dsimp only at hSw); go_simp; try (with_reducible rfl))
        try simp only [Act.put, List.setIfInBounds_toArray, List.set_cons_zero, List.set_cons_succ]
        refine takeH (i := 34) (d := some 144) (v := ?_) _ rfl rfl (by rfl) (by kernel_rfl) (by kernel_rfl) (by kernel_rfl) (fun _ _ _ h => h) (by assumption) ?_ ?_
        rotate_left
        · (intro w' hSw; (try dsimp only at hSw); go_simp; try (with_reducible rfl))
        try simp only [Act.put, List.setIfInBounds_toArray, List.set_cons_zero, List.set_cons_succ]
        refine takeH (i := 35) (d := some 145) (v := ?_) _ rfl rfl (by rfl) (by kernel_rfl) (by kernel_rfl) (by kernel_rfl) (fun _ _ _ h => h) (by assumption) ?_ ?_
        rotate_left
        · (intro w' hSw; (try dsimp only at hSw); go_simp; try (with_reducible rfl))
        try simp only [Act.put, List.setIfInBounds_toArray, List.set_cons_zero, List.set_cons_succ]
        refine takeH (i := 36) (d := some 146) (v := ?_) _ rfl rfl (by rfl) (by kernel_rfl) (by kernel_rfl) (by kernel_rfl) (fun _ _ _ h => h) (by assumption) ?_ ?_
        rotate_left
        · (intro w' hSw; (try dsimp only at hSw); go_simp; try (with_reducible rfl))
        try simp only [Act.put, List.setIfInBounds_toArray, List.set_cons_zero, List.set_cons_succ]
        refine takeH (i := 37) (d := some 4) (v := ?_) _ rfl rfl (by rfl) (by kernel_rfl) (by kernel_rfl) (by kernel_rfl) (fun _ _ _ h => h) (by assumption) ?_ ?_
        rotate_left
        · (intro w' hSw; (try dsimp only at hSw); go_simp; try (with_reducible rfl))
        try simp only [Act.put, List.setIfInBounds_toArray, List.set_cons_zero, List.set_cons_succ]
        refine wpAnyH_done (by kernel_rfl) ?_ _
        go_simp
        go_wp2_with fail
        refine bodyPost_ret (v := _) (by simp [results, Try.results4, go_sem]; rfl) rfl ?_
        exact ⟨rfl, kk⟩
  · skip
    have E := invE_not z p (by rw [HZm.out]; exact hz0)
    rw [E]
    have q1 := eql_f (W4.mk' HZl.out) W4.zero hz0
    have q2 := neq_f (W4.mk' (show mulm p z (invN z p) < 2 ^ 256 from L)) (W4.small (x := 1) (n := 1) rfl (by decide)) (inv_one HR.out (by rw [HZm.out]; exact hz0) H3.out)
    have hz' := Lib.hid hz0
    clear hz0 E
    have cA0 : V7.cell? ⟨w.heap.size, 0, none⟩ = some (.int .u64 (w0 (z) : Nat)) := by rw [cell_of_row _ _ _ _ _ _ hA]; rfl
    have zA0 := frozen_of_row _ _ 0 _ _ hA
    have cA1 : V7.cell? ⟨w.heap.size, 1, none⟩ = some (.int .u64 (w1 (z) : Nat)) := by rw [cell_of_row _ _ _ _ _ _ hA]; rfl
    have zA1 := frozen_of_row _ _ 1 _ _ hA
    have cA2 : V7.cell? ⟨w.heap.size, 2, none⟩ = some (.int .u64 (w2 (z) : Nat)) := by rw [cell_of_row _ _ _ _ _ _ hA]; rfl
    have zA2 := frozen_of_row _ _ 2 _ _ hA
    have cA3 : V7.cell? ⟨w.heap.size, 3, none⟩ = some (.int .u64 (w3 (z) : Nat)) := by rw [cell_of_row _ _ _ _ _ _ hA]; rfl
    have zA3 := frozen_of_row _ _ 3 _ _ hA
    have cI0 : V7.cell? ⟨bi, 0, none⟩ = some (.int .u64 (w0 (invN z p) : Nat)) := by rw [cell_of_row _ _ _ _ _ _ hI]; rfl
    have zI0 := frozen_of_row _ _ 0 _ _ hI
    have cI1 : V7.cell? ⟨bi, 1, none⟩ = some (.int .u64 (w1 (invN z p) : Nat)) := by rw [cell_of_row _ _ _ _ _ _ hI]; rfl
    have zI1 := frozen_of_row _ _ 1 _ _ hI
    have cI2 : V7.cell? ⟨bi, 2, none⟩ = some (.int .u64 (w2 (invN z p) : Nat)) := by rw [cell_of_row _ _ _ _ _ _ hI]; rfl
    have zI2 := frozen_of_row _ _ 2 _ _ hI
    have cI3 : V7.cell? ⟨bi, 3, none⟩ = some (.int .u64 (w3 (invN z p) : Nat)) := by rw [cell_of_row _ _ _ _ _ _ hI]; rfl
    have zI3 := frozen_of_row _ _ 3 _ _ hI
    go_wp2_with fail
    refine (mulG_any (W4.mk' HZl.out) (W4.mk' HI.out) _ fF).mono ?_
    rintro e V8 ⟨rfl, hb⟩
    replace hA := below_get hb (show _ = some (.cells #[.int .u64 (w0 (z) : Nat), .int .u64 (w1 (z) : Nat), .int .u64 (w2 (z) : Nat), .int .u64 (w3 (z) : Nat)] 24 (0, 0)) from hA)
    replace hQ := below_get hb (show _ = some (.cells #[.int .u64 (w0 (p) : Nat), .int .u64 (w1 (p) : Nat), .int .u64 (w2 (p) : Nat), .int .u64 (w3 (p) : Nat), .int .u64 (finv1 (p) : Nat), .int .u64 (w0 (fsq (p)) : Nat), .int .u64 (w1 (fsq (p)) : Nat), .int .u64 (w2 (fsq (p)) : Nat), .int .u64 (w3 (fsq (p)) : Nat)] 90 (0, 0)) from hQ)
    replace hI := below_get hb (show _ = some (.cells #[.int .u64 (w0 (invN z p) : Nat), .int .u64 (w1 (invN z p) : Nat), .int .u64 (w2 (invN z p) : Nat), .int .u64 (w3 (invN z p) : Nat)] 24 (0, 0)) from hI)
    replace kk := bcl (by first | exact kk | exact kk.drew | exact below_drewN kk _) hb
    replace fF := IsF.of HF.out hQ
    clear cA0 zA0 cA1 zA1 cA2 zA2 cA3 zA3 cI0 zI0 cI1 zI1 cI2 zI2 cI3 zI3
    clear hb
    have cA0 : V8.cell? ⟨w.heap.size, 0, none⟩ = some (.int .u64 (w0 (z) : Nat)) := by rw [cell_of_row _ _ _ _ _ _ hA]; rfl
    have zA0 := frozen_of_row _ _ 0 _ _ hA
    have cA1 : V8.cell? ⟨w.heap.size, 1, none⟩ = some (.int .u64 (w1 (z) : Nat)) := by rw [cell_of_row _ _ _ _ _ _ hA]; rfl
    have zA1 := frozen_of_row _ _ 1 _ _ hA
    have cA2 : V8.cell? ⟨w.heap.size, 2, none⟩ = some (.int .u64 (w2 (z) : Nat)) := by rw [cell_of_row _ _ _ _ _ _ hA]; rfl
    have zA2 := frozen_of_row _ _ 2 _ _ hA
    have cA3 : V8.cell? ⟨w.heap.size, 3, none⟩ = some (.int .u64 (w3 (z) : Nat)) := by rw [cell_of_row _ _ _ _ _ _ hA]; rfl
    have zA3 := frozen_of_row _ _ 3 _ _ hA
    have cI0 : V8.cell? ⟨bi, 0, none⟩ = some (.int .u64 (w0 (invN z p) : Nat)) := by rw [cell_of_row _ _ _ _ _ _ hI]; rfl
    have zI0 := frozen_of_row _ _ 0 _ _ hI
    have cI1 : V8.cell? ⟨bi, 1, none⟩ = some (.int .u64 (w1 (invN z p) : Nat)) := by rw [cell_of_row _ _ _ _ _ _ hI]; rfl
    have zI1 := frozen_of_row _ _ 1 _ _ hI
    have cI2 : V8.cell? ⟨bi, 2, none⟩ = some (.int .u64 (w2 (invN z p) : Nat)) := by rw [cell_of_row _ _ _ _ _ _ hI]; rfl
    have zI2 := frozen_of_row _ _ 2 _ _ hI
    have cI3 : V8.cell? ⟨bi, 3, none⟩ = some (.int .u64 (w3 (invN z p) : Nat)) := by rw [cell_of_row _ _ _ _ _ _ hI]; rfl
    have zI3 := frozen_of_row _ _ 3 _ _ hI
    go_wp2_with fail
    refine (of_any _ _).mono ?_
    rintro e V9 ⟨rfl, hb⟩
    replace hA := below_get hb (show _ = some (.cells #[.int .u64 (w0 (z) : Nat), .int .u64 (w1 (z) : Nat), .int .u64 (w2 (z) : Nat), .int .u64 (w3 (z) : Nat)] 24 (0, 0)) from hA)
    replace hQ := below_get hb (show _ = some (.cells #[.int .u64 (w0 (p) : Nat), .int .u64 (w1 (p) : Nat), .int .u64 (w2 (p) : Nat), .int .u64 (w3 (p) : Nat), .int .u64 (finv1 (p) : Nat), .int .u64 (w0 (fsq (p)) : Nat), .int .u64 (w1 (fsq (p)) : Nat), .int .u64 (w2 (fsq (p)) : Nat), .int .u64 (w3 (fsq (p)) : Nat)] 90 (0, 0)) from hQ)
    replace hI := below_get hb (show _ = some (.cells #[.int .u64 (w0 (invN z p) : Nat), .int .u64 (w1 (invN z p) : Nat), .int .u64 (w2 (invN z p) : Nat), .int .u64 (w3 (invN z p) : Nat)] 24 (0, 0)) from hI)
    replace kk := bcl (by first | exact kk | exact kk.drew | exact below_drewN kk _) hb
    replace fF := IsF.of HF.out hQ
    clear cA0 zA0 cA1 zA1 cA2 zA2 cA3 zA3 cI0 zI0 cI1 zI1 cI2 zI2 cI3 zI3
    clear hb
    have cA0 : V9.cell? ⟨w.heap.size, 0, none⟩ = some (.int .u64 (w0 (z) : Nat)) := by rw [cell_of_row _ _ _ _ _ _ hA]; rfl
    have zA0 := frozen_of_row _ _ 0 _ _ hA
    have cA1 : V9.cell? ⟨w.heap.size, 1, none⟩ = some (.int .u64 (w1 (z) : Nat)) := by rw [cell_of_row _ _ _ _ _ _ hA]; rfl
    have zA1 := frozen_of_row _ _ 1 _ _ hA
    have cA2 : V9.cell? ⟨w.heap.size, 2, none⟩ = some (.int .u64 (w2 (z) : Nat)) := by rw [cell_of_row _ _ _ _ _ _ hA]; rfl
    have zA2 := frozen_of_row _ _ 2 _ _ hA
    have cA3 : V9.cell? ⟨w.heap.size, 3, none⟩ = some (.int .u64 (w3 (z) : Nat)) := by rw [cell_of_row _ _ _ _ _ _ hA]; rfl
    have zA3 := frozen_of_row _ _ 3 _ _ hA
    go_wp2_with fail
    refine (mulG_any (W4.mk' HZl.out) (W4.mk' HZl.out) _ fF).mono ?_
    rintro e V10 ⟨rfl, hb⟩
    replace hA := below_get hb (show _ = some (.cells #[.int .u64 (w0 (z) : Nat), .int .u64 (w1 (z) : Nat), .int .u64 (w2 (z) : Nat), .int .u64 (w3 (z) : Nat)] 24 (0, 0)) from hA)
    replace hQ := below_get hb (show _ = some (.cells #[.int .u64 (w0 (p) : Nat), .int .u64 (w1 (p) : Nat), .int .u64 (w2 (p) : Nat), .int .u64 (w3 (p) : Nat), .int .u64 (finv1 (p) : Nat), .int .u64 (w0 (fsq (p)) : Nat), .int .u64 (w1 (fsq (p)) : Nat), .int .u64 (w2 (fsq (p)) : Nat), .int .u64 (w3 (fsq (p)) : Nat)] 90 (0, 0)) from hQ)
    replace hI := below_get hb (show _ = some (.cells #[.int .u64 (w0 (invN z p) : Nat), .int .u64 (w1 (invN z p) : Nat), .int .u64 (w2 (invN z p) : Nat), .int .u64 (w3 (invN z p) : Nat)] 24 (0, 0)) from hI)
    replace kk := bcl (by first | exact kk | exact kk.drew | exact below_drewN kk _) hb
    replace fF := IsF.of HF.out hQ
    clear cA0 zA0 cA1 zA1 cA2 zA2 cA3 zA3
    clear hb
    go_wp2_with fail
    refine (root_any (W4.mk' (show mulm p z z < 2 ^ 256 from L)) _ fF).mono ?_
    rintro e V11 ⟨rfl, hb⟩
    replace hA := below_get hb (show _ = some (.cells #[.int .u64 (w0 (z) : Nat), .int .u64 (w1 (z) : Nat), .int .u64 (w2 (z) : Nat), .int .u64 (w3 (z) : Nat)] 24 (0, 0)) from hA)
    replace hQ := below_get hb (show _ = some (.cells #[.int .u64 (w0 (p) : Nat), .int .u64 (w1 (p) : Nat), .int .u64 (w2 (p) : Nat), .int .u64 (w3 (p) : Nat), .int .u64 (finv1 (p) : Nat), .int .u64 (w0 (fsq (p)) : Nat), .int .u64 (w1 (fsq (p)) : Nat), .int .u64 (w2 (fsq (p)) : Nat), .int .u64 (w3 (fsq (p)) : Nat)] 90 (0, 0)) from hQ)
    replace hI := below_get hb (show _ = some (.cells #[.int .u64 (w0 (invN z p) : Nat), .int .u64 (w1 (invN z p) : Nat), .int .u64 (w2 (invN z p) : Nat), .int .u64 (w3 (invN z p) : Nat)] 24 (0, 0)) from hI)
    replace kk := bcl (by first | exact kk | exact kk.drew | exact below_drewN kk _) hb
    replace fF := IsF.of HF.out hQ
    clear hb
    by_cases hk2 : k < 2
    · have R4 := root_four (a := mulm p z z) (show p % 4 ≠ 3 by rw [← hp]; exact pr7_one hk2)
      rw [R4.1, R4.2]
      have hk2' : (k : Int) < 2 := by omega
      go_upto_region 15 with fail
      obtain ⟨V12, hW⟩ : ∃ V, V11.alloc (.cells #[.int .u64 (w0 (0) : Nat), .int .u64 (w1 (0) : Nat), .int .u64 (w2 (0) : Nat), .int .u64 (w3 (0) : Nat)] 24 (0, 0)) = V := ⟨_, rfl⟩
      rw [hW]
      obtain ⟨br, hbx⟩ : ∃ n, V11.heap.size = n := ⟨_, rfl⟩
      rw [hbx]
      have hNEW : V12.heap[br]? = some (.cells #[.int .u64 (w0 (0) : Nat), .int .u64 (w1 (0) : Nat), .int .u64 (w2 (0) : Nat), .int .u64 (w3 (0) : Nat)] 24 (0, 0)) := by rw [← hW, ← hbx]; exact heap_alloc_new _ _
      have lRA : w.heap.size < br := by rw [← hbx]; exact lt_of_heap hA
      replace hA : V12.heap[w.heap.size]? = some (.cells #[.int .u64 (w0 (z) : Nat), .int .u64 (w1 (z) : Nat), .int .u64 (w2 (z) : Nat), .int .u64 (w3 (z) : Nat)] 24 (0, 0)) := by rw [← hW]; exact ak hA
      have lRQ : g < br := by rw [← hbx]; exact lt_of_heap hQ
      replace hQ : V12.heap[g]? = some (.cells #[.int .u64 (w0 (p) : Nat), .int .u64 (w1 (p) : Nat), .int .u64 (w2 (p) : Nat), .int .u64 (w3 (p) : Nat), .int .u64 (finv1 (p) : Nat), .int .u64 (w0 (fsq (p)) : Nat), .int .u64 (w1 (fsq (p)) : Nat), .int .u64 (w2 (fsq (p)) : Nat), .int .u64 (w3 (fsq (p)) : Nat)] 90 (0, 0)) := by rw [← hW]; exact ak hQ
      have lRI : bi < br := by rw [← hbx]; exact lt_of_heap hI
      replace hI : V12.heap[bi]? = some (.cells #[.int .u64 (w0 (invN z p) : Nat), .int .u64 (w1 (invN z p) : Nat), .int .u64 (w2 (invN z p) : Nat), .int .u64 (w3 (invN z p) : Nat)] 24 (0, 0)) := by rw [← hW]; exact ak hI
      have lR : w.heap.size ≤ br := by rw [← hbx]; exact kk.size
      replace kk : Below w.heap.size w V12 := by rw [← hW]; exact bal kk _
      have hR := hNEW
      replace fF := IsF.of HF.out hQ
      clear hNEW hW hbx
      have q3 := eql_t (W4.mk' (show 0 < 2 ^ 256 by decide)) W4.zero rfl
      clear R4 hk2
      have cR0 : V12.cell? ⟨br, 0, none⟩ = some (.int .u64 (w0 (0) : Nat)) := by rw [cell_of_row _ _ _ _ _ _ hR]; rfl
      have zR0 := frozen_of_row _ _ 0 _ _ hR
      have cR1 : V12.cell? ⟨br, 1, none⟩ = some (.int .u64 (w1 (0) : Nat)) := by rw [cell_of_row _ _ _ _ _ _ hR]; rfl
      have zR1 := frozen_of_row _ _ 1 _ _ hR
      have cR2 : V12.cell? ⟨br, 2, none⟩ = some (.int .u64 (w2 (0) : Nat)) := by rw [cell_of_row _ _ _ _ _ _ hR]; rfl
      have zR2 := frozen_of_row _ _ 2 _ _ hR
      have cR3 : V12.cell? ⟨br, 3, none⟩ = some (.int .u64 (w3 (0) : Nat)) := by rw [cell_of_row _ _ _ _ _ _ hR]; rfl
      have zR3 := frozen_of_row _ _ 3 _ _ hR
      go_wp2_with fail
      refine bodyPost_ret (v := _) (by simp [results, Try.results4, go_sem]; rfl) rfl ?_
      exact ⟨rfl, by first | exact kk | exact kk.drew | exact below_drewN kk _⟩
    · have P4 := Lib.hid (show p % 4 = 3 by rw [← hp]; exact pr7_four hk2)
      rw [rootB_sq HR.out P4.out]
      have hk2' : ¬ (k : Int) < 2 := by omega
      go_upto_region 15 with fail
      obtain ⟨V12, hW⟩ : ∃ V, V11.alloc (.cells #[.int .u64 (w0 (rootN (mulm p z z) p) : Nat), .int .u64 (w1 (rootN (mulm p z z) p) : Nat), .int .u64 (w2 (rootN (mulm p z z) p) : Nat), .int .u64 (w3 (rootN (mulm p z z) p) : Nat)] 24 (0, 0)) = V := ⟨_, rfl⟩
      rw [hW]
      obtain ⟨br, hbx⟩ : ∃ n, V11.heap.size = n := ⟨_, rfl⟩
      rw [hbx]
      have hNEW : V12.heap[br]? = some (.cells #[.int .u64 (w0 (rootN (mulm p z z) p) : Nat), .int .u64 (w1 (rootN (mulm p z z) p) : Nat), .int .u64 (w2 (rootN (mulm p z z) p) : Nat), .int .u64 (w3 (rootN (mulm p z z) p) : Nat)] 24 (0, 0)) := by rw [← hW, ← hbx]; exact heap_alloc_new _ _
      have lRA : w.heap.size < br := by rw [← hbx]; exact lt_of_heap hA
      replace hA : V12.heap[w.heap.size]? = some (.cells #[.int .u64 (w0 (z) : Nat), .int .u64 (w1 (z) : Nat), .int .u64 (w2 (z) : Nat), .int .u64 (w3 (z) : Nat)] 24 (0, 0)) := by rw [← hW]; exact ak hA
      have lRQ : g < br := by rw [← hbx]; exact lt_of_heap hQ
      replace hQ : V12.heap[g]? = some (.cells #[.int .u64 (w0 (p) : Nat), .int .u64 (w1 (p) : Nat), .int .u64 (w2 (p) : Nat), .int .u64 (w3 (p) : Nat), .int .u64 (finv1 (p) : Nat), .int .u64 (w0 (fsq (p)) : Nat), .int .u64 (w1 (fsq (p)) : Nat), .int .u64 (w2 (fsq (p)) : Nat), .int .u64 (w3 (fsq (p)) : Nat)] 90 (0, 0)) := by rw [← hW]; exact ak hQ
      have lRI : bi < br := by rw [← hbx]; exact lt_of_heap hI
      replace hI : V12.heap[bi]? = some (.cells #[.int .u64 (w0 (invN z p) : Nat), .int .u64 (w1 (invN z p) : Nat), .int .u64 (w2 (invN z p) : Nat), .int .u64 (w3 (invN z p) : Nat)] 24 (0, 0)) := by rw [← hW]; exact ak hI
      have lR : w.heap.size ≤ br := by rw [← hbx]; exact kk.size
      replace kk : Below w.heap.size w V12 := by rw [← hW]; exact bal kk _
      have hR := hNEW
      replace fF := IsF.of HF.out hQ
      clear hNEW hW hbx
      clear hk2
      have cA0 : V12.cell? ⟨w.heap.size, 0, none⟩ = some (.int .u64 (w0 (z) : Nat)) := by rw [cell_of_row _ _ _ _ _ _ hA]; rfl
      have zA0 := frozen_of_row _ _ 0 _ _ hA
      have cA1 : V12.cell? ⟨w.heap.size, 1, none⟩ = some (.int .u64 (w1 (z) : Nat)) := by rw [cell_of_row _ _ _ _ _ _ hA]; rfl
      have zA1 := frozen_of_row _ _ 1 _ _ hA
      have cA2 : V12.cell? ⟨w.heap.size, 2, none⟩ = some (.int .u64 (w2 (z) : Nat)) := by rw [cell_of_row _ _ _ _ _ _ hA]; rfl
      have zA2 := frozen_of_row _ _ 2 _ _ hA
      have cA3 : V12.cell? ⟨w.heap.size, 3, none⟩ = some (.int .u64 (w3 (z) : Nat)) := by rw [cell_of_row _ _ _ _ _ _ hA]; rfl
      have zA3 := frozen_of_row _ _ 3 _ _ hA
      go_wp2_with fail
      refine (root_any (W4.mk' HZl.out) _ fF).mono ?_
      rintro e V13 ⟨rfl, hb⟩
      replace hA := below_get hb (show _ = some (.cells #[.int .u64 (w0 (z) : Nat), .int .u64 (w1 (z) : Nat), .int .u64 (w2 (z) : Nat), .int .u64 (w3 (z) : Nat)] 24 (0, 0)) from hA)
      replace hQ := below_get hb (show _ = some (.cells #[.int .u64 (w0 (p) : Nat), .int .u64 (w1 (p) : Nat), .int .u64 (w2 (p) : Nat), .int .u64 (w3 (p) : Nat), .int .u64 (finv1 (p) : Nat), .int .u64 (w0 (fsq (p)) : Nat), .int .u64 (w1 (fsq (p)) : Nat), .int .u64 (w2 (fsq (p)) : Nat), .int .u64 (w3 (fsq (p)) : Nat)] 90 (0, 0)) from hQ)
      replace hI := below_get hb (show _ = some (.cells #[.int .u64 (w0 (invN z p) : Nat), .int .u64 (w1 (invN z p) : Nat), .int .u64 (w2 (invN z p) : Nat), .int .u64 (w3 (invN z p) : Nat)] 24 (0, 0)) from hI)
      replace hR := below_get hb (show _ = some (.cells #[.int .u64 (w0 (rootN (mulm p z z) p) : Nat), .int .u64 (w1 (rootN (mulm p z z) p) : Nat), .int .u64 (w2 (rootN (mulm p z z) p) : Nat), .int .u64 (w3 (rootN (mulm p z z) p) : Nat)] 24 (0, 0)) from hR)
      replace kk := bcl (by first | exact kk | exact kk.drew | exact below_drewN kk _) hb
      replace fF := IsF.of HF.out hQ
      clear cA0 zA0 cA1 zA1 cA2 zA2 cA3 zA3
      clear hb
      have q4 := eqlG (show mulm p (rootN (mulm p z z) p) (rootN (mulm p z z) p) < 2 ^ 256 from L) (show mulm p z z < 2 ^ 256 from L) ((rootN_some (rootB_sq HR.out P4.out)).trans (Nat.mod_mod _ _))
      have IS := rootB_is HR.out P4.out HZ.out
      by_cases hs : powm p z ((p - 1) / 2) = 1
      · replace IS : rootB z p = true := by rw [IS, decide_eq_true hs, Bool.or_true]
        have q6 := eql_t (W4.mk' (show powm p z ((p - 1) / 2) < 2 ^ 256 from L)) (W4.small (x := 1) (n := 1) rfl (by decide)) hs
        clear hs
        rw [show rootB z p = true from IS]
        skip
        go_upto_region 18 with fail
        obtain ⟨V14, hW⟩ : ∃ V, V13.alloc (.cells #[.int .u64 (w0 (rootN z p) : Nat), .int .u64 (w1 (rootN z p) : Nat), .int .u64 (w2 (rootN z p) : Nat), .int .u64 (w3 (rootN z p) : Nat)] 24 (0, 0)) = V := ⟨_, rfl⟩
        rw [hW]
        obtain ⟨bx, hbx⟩ : ∃ n, V13.heap.size = n := ⟨_, rfl⟩
        rw [hbx]
        have hNEW : V14.heap[bx]? = some (.cells #[.int .u64 (w0 (rootN z p) : Nat), .int .u64 (w1 (rootN z p) : Nat), .int .u64 (w2 (rootN z p) : Nat), .int .u64 (w3 (rootN z p) : Nat)] 24 (0, 0)) := by rw [← hW, ← hbx]; exact heap_alloc_new _ _
        have lXA : w.heap.size < bx := by rw [← hbx]; exact lt_of_heap hA
        replace hA : V14.heap[w.heap.size]? = some (.cells #[.int .u64 (w0 (z) : Nat), .int .u64 (w1 (z) : Nat), .int .u64 (w2 (z) : Nat), .int .u64 (w3 (z) : Nat)] 24 (0, 0)) := by rw [← hW]; exact ak hA
        have lXQ : g < bx := by rw [← hbx]; exact lt_of_heap hQ
        replace hQ : V14.heap[g]? = some (.cells #[.int .u64 (w0 (p) : Nat), .int .u64 (w1 (p) : Nat), .int .u64 (w2 (p) : Nat), .int .u64 (w3 (p) : Nat), .int .u64 (finv1 (p) : Nat), .int .u64 (w0 (fsq (p)) : Nat), .int .u64 (w1 (fsq (p)) : Nat), .int .u64 (w2 (fsq (p)) : Nat), .int .u64 (w3 (fsq (p)) : Nat)] 90 (0, 0)) := by rw [← hW]; exact ak hQ
        have lXI : bi < bx := by rw [← hbx]; exact lt_of_heap hI
        replace hI : V14.heap[bi]? = some (.cells #[.int .u64 (w0 (invN z p) : Nat), .int .u64 (w1 (invN z p) : Nat), .int .u64 (w2 (invN z p) : Nat), .int .u64 (w3 (invN z p) : Nat)] 24 (0, 0)) := by rw [← hW]; exact ak hI
        have lXR : br < bx := by rw [← hbx]; exact lt_of_heap hR
        replace hR : V14.heap[br]? = some (.cells #[.int .u64 (w0 (rootN (mulm p z z) p) : Nat), .int .u64 (w1 (rootN (mulm p z z) p) : Nat), .int .u64 (w2 (rootN (mulm p z z) p) : Nat), .int .u64 (w3 (rootN (mulm p z z) p) : Nat)] 24 (0, 0)) := by rw [← hW]; exact ak hR
        have lX : w.heap.size ≤ bx := by rw [← hbx]; exact kk.size
        replace kk : Below w.heap.size w V14 := by rw [← hW]; exact bal kk _
        have hX := hNEW
        replace fF := IsF.of HF.out hQ
        clear hNEW hW hbx
        have q5 := eqlG (show mulm p (rootN z p) (rootN z p) < 2 ^ 256 from L) HZl.out ((rootN_some IS).trans HZm.out)
        clear IS
        go_wp2_with fail
        refine (modulus_any _ fF).mono ?_
        rintro e V15 ⟨rfl, hb⟩
        replace hA := below_get hb (show _ = some (.cells #[.int .u64 (w0 (z) : Nat), .int .u64 (w1 (z) : Nat), .int .u64 (w2 (z) : Nat), .int .u64 (w3 (z) : Nat)] 24 (0, 0)) from hA)
        replace hQ := below_get hb (show _ = some (.cells #[.int .u64 (w0 (p) : Nat), .int .u64 (w1 (p) : Nat), .int .u64 (w2 (p) : Nat), .int .u64 (w3 (p) : Nat), .int .u64 (finv1 (p) : Nat), .int .u64 (w0 (fsq (p)) : Nat), .int .u64 (w1 (fsq (p)) : Nat), .int .u64 (w2 (fsq (p)) : Nat), .int .u64 (w3 (fsq (p)) : Nat)] 90 (0, 0)) from hQ)
        replace hI := below_get hb (show _ = some (.cells #[.int .u64 (w0 (invN z p) : Nat), .int .u64 (w1 (invN z p) : Nat), .int .u64 (w2 (invN z p) : Nat), .int .u64 (w3 (invN z p) : Nat)] 24 (0, 0)) from hI)
        replace hR := below_get hb (show _ = some (.cells #[.int .u64 (w0 (rootN (mulm p z z) p) : Nat), .int .u64 (w1 (rootN (mulm p z z) p) : Nat), .int .u64 (w2 (rootN (mulm p z z) p) : Nat), .int .u64 (w3 (rootN (mulm p z z) p) : Nat)] 24 (0, 0)) from hR)
        replace hX := below_get hb (show _ = some (.cells #[.int .u64 (w0 (rootN z p) : Nat), .int .u64 (w1 (rootN z p) : Nat), .int .u64 (w2 (rootN z p) : Nat), .int .u64 (w3 (rootN z p) : Nat)] 24 (0, 0)) from hX)
        replace kk := bcl (by first | exact kk | exact kk.drew | exact below_drewN kk _) hb
        replace fF := IsF.of HF.out hQ
        clear hb
        go_wp2_with fail
        refine (of_any _ _).mono ?_
        rintro e V16 ⟨rfl, hb⟩
        replace hA := below_get hb (show _ = some (.cells #[.int .u64 (w0 (z) : Nat), .int .u64 (w1 (z) : Nat), .int .u64 (w2 (z) : Nat), .int .u64 (w3 (z) : Nat)] 24 (0, 0)) from hA)
        replace hQ := below_get hb (show _ = some (.cells #[.int .u64 (w0 (p) : Nat), .int .u64 (w1 (p) : Nat), .int .u64 (w2 (p) : Nat), .int .u64 (w3 (p) : Nat), .int .u64 (finv1 (p) : Nat), .int .u64 (w0 (fsq (p)) : Nat), .int .u64 (w1 (fsq (p)) : Nat), .int .u64 (w2 (fsq (p)) : Nat), .int .u64 (w3 (fsq (p)) : Nat)] 90 (0, 0)) from hQ)
        replace hI := below_get hb (show _ = some (.cells #[.int .u64 (w0 (invN z p) : Nat), .int .u64 (w1 (invN z p) : Nat), .int .u64 (w2 (invN z p) : Nat), .int .u64 (w3 (invN z p) : Nat)] 24 (0, 0)) from hI)
        replace hR := below_get hb (show _ = some (.cells #[.int .u64 (w0 (rootN (mulm p z z) p) : Nat), .int .u64 (w1 (rootN (mulm p z z) p) : Nat), .int .u64 (w2 (rootN (mulm p z z) p) : Nat), .int .u64 (w3 (rootN (mulm p z z) p) : Nat)] 24 (0, 0)) from hR)
        replace hX := below_get hb (show _ = some (.cells #[.int .u64 (w0 (rootN z p) : Nat), .int .u64 (w1 (rootN z p) : Nat), .int .u64 (w2 (rootN z p) : Nat), .int .u64 (w3 (rootN z p) : Nat)] 24 (0, 0)) from hX)
        replace kk := bcl (by first | exact kk | exact kk.drew | exact below_drewN kk _) hb
        replace fF := IsF.of HF.out hQ
        clear hb
        go_wp2_with fail
        refine (sub_any (W4.mk' HM.out) (W4.small (n := 1) rfl (by decide)) _).mono ?_
        rintro e V17 ⟨rfl, hb⟩
        replace hA := below_get hb (show _ = some (.cells #[.int .u64 (w0 (z) : Nat), .int .u64 (w1 (z) : Nat), .int .u64 (w2 (z) : Nat), .int .u64 (w3 (z) : Nat)] 24 (0, 0)) from hA)
        replace hQ := below_get hb (show _ = some (.cells #[.int .u64 (w0 (p) : Nat), .int .u64 (w1 (p) : Nat), .int .u64 (w2 (p) : Nat), .int .u64 (w3 (p) : Nat), .int .u64 (finv1 (p) : Nat), .int .u64 (w0 (fsq (p)) : Nat), .int .u64 (w1 (fsq (p)) : Nat), .int .u64 (w2 (fsq (p)) : Nat), .int .u64 (w3 (fsq (p)) : Nat)] 90 (0, 0)) from hQ)
        replace hI := below_get hb (show _ = some (.cells #[.int .u64 (w0 (invN z p) : Nat), .int .u64 (w1 (invN z p) : Nat), .int .u64 (w2 (invN z p) : Nat), .int .u64 (w3 (invN z p) : Nat)] 24 (0, 0)) from hI)
        replace hR := below_get hb (show _ = some (.cells #[.int .u64 (w0 (rootN (mulm p z z) p) : Nat), .int .u64 (w1 (rootN (mulm p z z) p) : Nat), .int .u64 (w2 (rootN (mulm p z z) p) : Nat), .int .u64 (w3 (rootN (mulm p z z) p) : Nat)] 24 (0, 0)) from hR)
        replace hX := below_get hb (show _ = some (.cells #[.int .u64 (w0 (rootN z p) : Nat), .int .u64 (w1 (rootN z p) : Nat), .int .u64 (w2 (rootN z p) : Nat), .int .u64 (w3 (rootN z p) : Nat)] 24 (0, 0)) from hX)
        replace kk := bcl (by first | exact kk | exact kk.drew | exact below_drewN kk _) hb
        replace fF := IsF.of HF.out hQ
        clear hb
        rw [subm_two HM.out (show 1 ≤ p by omega)]
        go_upto_region 19 with fail
        obtain ⟨V18, hW⟩ : ∃ V, V17.alloc (.cells #[.int .u64 (w0 (p - 1) : Nat), .int .u64 (w1 (p - 1) : Nat), .int .u64 (w2 (p - 1) : Nat), .int .u64 (w3 (p - 1) : Nat)] 24 (0, 0)) = V := ⟨_, rfl⟩
        rw [hW]
        obtain ⟨by1, hbx⟩ : ∃ n, V17.heap.size = n := ⟨_, rfl⟩
        rw [hbx]
        have hNEW : V18.heap[by1]? = some (.cells #[.int .u64 (w0 (p - 1) : Nat), .int .u64 (w1 (p - 1) : Nat), .int .u64 (w2 (p - 1) : Nat), .int .u64 (w3 (p - 1) : Nat)] 24 (0, 0)) := by rw [← hW, ← hbx]; exact heap_alloc_new _ _
        have lYA : w.heap.size < by1 := by rw [← hbx]; exact lt_of_heap hA
        replace hA : V18.heap[w.heap.size]? = some (.cells #[.int .u64 (w0 (z) : Nat), .int .u64 (w1 (z) : Nat), .int .u64 (w2 (z) : Nat), .int .u64 (w3 (z) : Nat)] 24 (0, 0)) := by rw [← hW]; exact ak hA
        have lYQ : g < by1 := by rw [← hbx]; exact lt_of_heap hQ
        replace hQ : V18.heap[g]? = some (.cells #[.int .u64 (w0 (p) : Nat), .int .u64 (w1 (p) : Nat), .int .u64 (w2 (p) : Nat), .int .u64 (w3 (p) : Nat), .int .u64 (finv1 (p) : Nat), .int .u64 (w0 (fsq (p)) : Nat), .int .u64 (w1 (fsq (p)) : Nat), .int .u64 (w2 (fsq (p)) : Nat), .int .u64 (w3 (fsq (p)) : Nat)] 90 (0, 0)) := by rw [← hW]; exact ak hQ
        have lYI : bi < by1 := by rw [← hbx]; exact lt_of_heap hI
        replace hI : V18.heap[bi]? = some (.cells #[.int .u64 (w0 (invN z p) : Nat), .int .u64 (w1 (invN z p) : Nat), .int .u64 (w2 (invN z p) : Nat), .int .u64 (w3 (invN z p) : Nat)] 24 (0, 0)) := by rw [← hW]; exact ak hI
        have lYR : br < by1 := by rw [← hbx]; exact lt_of_heap hR
        replace hR : V18.heap[br]? = some (.cells #[.int .u64 (w0 (rootN (mulm p z z) p) : Nat), .int .u64 (w1 (rootN (mulm p z z) p) : Nat), .int .u64 (w2 (rootN (mulm p z z) p) : Nat), .int .u64 (w3 (rootN (mulm p z z) p) : Nat)] 24 (0, 0)) := by rw [← hW]; exact ak hR
        have lYX : bx < by1 := by rw [← hbx]; exact lt_of_heap hX
        replace hX : V18.heap[bx]? = some (.cells #[.int .u64 (w0 (rootN z p) : Nat), .int .u64 (w1 (rootN z p) : Nat), .int .u64 (w2 (rootN z p) : Nat), .int .u64 (w3 (rootN z p) : Nat)] 24 (0, 0)) := by rw [← hW]; exact ak hX
        have lY : w.heap.size ≤ by1 := by rw [← hbx]; exact kk.size
        replace kk : Below w.heap.size w V18 := by rw [← hW]; exact bal kk _
        have hY := hNEW
        replace fF := IsF.of HF.out hQ
        clear hNEW hW hbx
        have cA0 : World.cell? V18 ⟨w.heap.size, 0, none⟩ = some (.int .u64 (w0 (z) : Nat)) := by rw [cell_of_row _ _ _ _ _ _ hA]; rfl
        have cA1 : World.cell? V18 ⟨w.heap.size, 1, none⟩ = some (.int .u64 (w1 (z) : Nat)) := by rw [cell_of_row _ _ _ _ _ _ hA]; rfl
        have cA2 : World.cell? V18 ⟨w.heap.size, 2, none⟩ = some (.int .u64 (w2 (z) : Nat)) := by rw [cell_of_row _ _ _ _ _ _ hA]; rfl
        have cA3 : World.cell? V18 ⟨w.heap.size, 3, none⟩ = some (.int .u64 (w3 (z) : Nat)) := by rw [cell_of_row _ _ _ _ _ _ hA]; rfl
        have cY0 : World.cell? V18 ⟨by1, 0, none⟩ = some (.int .u64 (w0 (p - 1) : Nat)) := by rw [cell_of_row _ _ _ _ _ _ hY]; rfl
        have cY1 : World.cell? V18 ⟨by1, 1, none⟩ = some (.int .u64 (w1 (p - 1) : Nat)) := by rw [cell_of_row _ _ _ _ _ _ hY]; rfl
        have cY2 : World.cell? V18 ⟨by1, 2, none⟩ = some (.int .u64 (w2 (p - 1) : Nat)) := by rw [cell_of_row _ _ _ _ _ _ hY]; rfl
        have cY3 : World.cell? V18 ⟨by1, 3, none⟩ = some (.int .u64 (w3 (p - 1) : Nat)) := by rw [cell_of_row _ _ _ _ _ _ hY]; rfl
        go_region_held3 (fun w' => w'.cell? ⟨w.heap.size, 0, none⟩ = some (.int .u64 (w0 (z) : Nat)) ∧ w'.cell? ⟨w.heap.size, 1, none⟩ = some (.int .u64 (w1 (z) : Nat)) ∧ w'.cell? ⟨w.heap.size, 2, none⟩ = some (.int .u64 (w2 (z) : Nat)) ∧ w'.cell? ⟨w.heap.size, 3, none⟩ = some (.int .u64 (w3 (z) : Nat)) ∧ w'.cell? ⟨by1, 0, none⟩ = some (.int .u64 (w0 (p - 1) : Nat)) ∧ w'.cell? ⟨by1, 1, none⟩ = some (.int .u64 (w1 (p - 1) : Nat)) ∧ w'.cell? ⟨by1, 2, none⟩ = some (.int .u64 (w2 (p - 1) : Nat)) ∧ w'.cell? ⟨by1, 3, none⟩ = some (.int .u64 (w3 (p - 1) : Nat))) (first | (with_reducible exact ⟨cA0, cA1, cA2, cA3, cY0, cY1, cY2, cY3⟩) | go_keep) (first | (go_at_call 23; refine (right1_any (by first | exact W4.mk' hla.out | exact W4.mk' HM.out | exact W4.mk' HZl.out | exact W4.mk' HI.out | exact W4.mk' HRR.out | exact W4.mk' HXX.out | exact W4.mk' HH.out | exact W4.mk' HH2.out | exact W4.mk' (Nat.lt_trans (Nat.mod_lt _ hpos) HM.out) | exact W4.small (n := 1) rfl (by decide) | exact W4.small (n := 2) rfl (by decide) | exact W4.small (n := 3) rfl (by decide) | exact W4.small (n := 4) rfl (by decide) | exact W4.small (n := 5) rfl (by decide) | exact W4.small (n := 7) rfl (by decide)) _).mono ?_; rintro e W ⟨rfl, hb⟩; (replace hA := below_get hb (show _ = some (.cells #[.int .u64 (w0 (z) : Nat), .int .u64 (w1 (z) : Nat), .int .u64 (w2 (z) : Nat), .int .u64 (w3 (z) : Nat)] 24 (0, 0)) from by first | exact hA | exact ak hA)); (replace hQ := below_get hb (show _ = some (.cells #[.int .u64 (w0 (p) : Nat), .int .u64 (w1 (p) : Nat), .int .u64 (w2 (p) : Nat), .int .u64 (w3 (p) : Nat), .int .u64 (finv1 (p) : Nat), .int .u64 (w0 (fsq (p)) : Nat), .int .u64 (w1 (fsq (p)) : Nat), .int .u64 (w2 (fsq (p)) : Nat), .int .u64 (w3 (fsq (p)) : Nat)] 90 (0, 0)) from by first | exact hQ | exact ak hQ)); (replace hI := below_get hb (show _ = some (.cells #[.int .u64 (w0 (invN z p) : Nat), .int .u64 (w1 (invN z p) : Nat), .int .u64 (w2 (invN z p) : Nat), .int .u64 (w3 (invN z p) : Nat)] 24 (0, 0)) from by first | exact hI | exact ak hI)); (replace hR := below_get hb (show _ = some (.cells #[.int .u64 (w0 (rootN (mulm p z z) p) : Nat), .int .u64 (w1 (rootN (mulm p z z) p) : Nat), .int .u64 (w2 (rootN (mulm p z z) p) : Nat), .int .u64 (w3 (rootN (mulm p z z) p) : Nat)] 24 (0, 0)) from by first | exact hR | exact ak hR)); (replace hX := below_get hb (show _ = some (.cells #[.int .u64 (w0 (rootN z p) : Nat), .int .u64 (w1 (rootN z p) : Nat), .int .u64 (w2 (rootN z p) : Nat), .int .u64 (w3 (rootN z p) : Nat)] 24 (0, 0)) from by first | exact hX | exact ak hX)); (replace hY := below_get hb (show _ = some (.cells #[.int .u64 (w0 (p - 1) : Nat), .int .u64 (w1 (p - 1) : Nat), .int .u64 (w2 (p - 1) : Nat), .int .u64 (w3 (p - 1) : Nat)] 24 (0, 0)) from by first | exact hY | exact ak hY)); (replace kk := bcl (by first | exact kk | exact kk.drew | exact bal kk _ | exact (bal kk _).drew) hb); (replace fF := IsF.of HF.out hQ); (have cA0 : World.cell? W ⟨w.heap.size, 0, none⟩ = some (.int .u64 (w0 (z) : Nat)) := by rw [cell_of_row _ _ _ _ _ _ hA]; rfl); (have cA1 : World.cell? W ⟨w.heap.size, 1, none⟩ = some (.int .u64 (w1 (z) : Nat)) := by rw [cell_of_row _ _ _ _ _ _ hA]; rfl); (have cA2 : World.cell? W ⟨w.heap.size, 2, none⟩ = some (.int .u64 (w2 (z) : Nat)) := by rw [cell_of_row _ _ _ _ _ _ hA]; rfl); (have cA3 : World.cell? W ⟨w.heap.size, 3, none⟩ = some (.int .u64 (w3 (z) : Nat)) := by rw [cell_of_row _ _ _ _ _ _ hA]; rfl); (have cY0 : World.cell? W ⟨by1, 0, none⟩ = some (.int .u64 (w0 (p - 1) : Nat)) := by rw [cell_of_row _ _ _ _ _ _ hY]; rfl); (have cY1 : World.cell? W ⟨by1, 1, none⟩ = some (.int .u64 (w1 (p - 1) : Nat)) := by rw [cell_of_row _ _ _ _ _ _ hY]; rfl); (have cY2 : World.cell? W ⟨by1, 2, none⟩ = some (.int .u64 (w2 (p - 1) : Nat)) := by rw [cell_of_row _ _ _ _ _ _ hY]; rfl); (have cY3 : World.cell? W ⟨by1, 3, none⟩ = some (.int .u64 (w3 (p - 1) : Nat)) := by rw [cell_of_row _ _ _ _ _ _ hY]; rfl); clear hb) | (go_at_call 25; refine (powG_any (by first | exact W4.mk' hla.out | exact W4.mk' HM.out | exact W4.mk' HZl.out | exact W4.mk' HI.out | exact W4.mk' HRR.out | exact W4.mk' HXX.out | exact W4.mk' HH.out | exact W4.mk' HH2.out | exact W4.mk' (Nat.lt_trans (Nat.mod_lt _ hpos) HM.out) | exact W4.small (n := 1) rfl (by decide) | exact W4.small (n := 2) rfl (by decide) | exact W4.small (n := 3) rfl (by decide) | exact W4.small (n := 4) rfl (by decide) | exact W4.small (n := 5) rfl (by decide) | exact W4.small (n := 7) rfl (by decide)) (by first | exact W4.mk' hla.out | exact W4.mk' HM.out | exact W4.mk' HZl.out | exact W4.mk' HI.out | exact W4.mk' HRR.out | exact W4.mk' HXX.out | exact W4.mk' HH.out | exact W4.mk' HH2.out | exact W4.mk' (Nat.lt_trans (Nat.mod_lt _ hpos) HM.out) | exact W4.small (n := 1) rfl (by decide) | exact W4.small (n := 2) rfl (by decide) | exact W4.small (n := 3) rfl (by decide) | exact W4.small (n := 4) rfl (by decide) | exact W4.small (n := 5) rfl (by decide) | exact W4.small (n := 7) rfl (by decide)) _ (show IsF _ (g) (p) from (by first | exact fF | exact ⟨fF.blk, fF.odd, fF.three, fF.lt⟩))).mono ?_; rintro e W ⟨rfl, hb⟩; (replace hA := below_get hb (show _ = some (.cells #[.int .u64 (w0 (z) : Nat), .int .u64 (w1 (z) : Nat), .int .u64 (w2 (z) : Nat), .int .u64 (w3 (z) : Nat)] 24 (0, 0)) from by first | exact hA | exact ak hA)); (replace hQ := below_get hb (show _ = some (.cells #[.int .u64 (w0 (p) : Nat), .int .u64 (w1 (p) : Nat), .int .u64 (w2 (p) : Nat), .int .u64 (w3 (p) : Nat), .int .u64 (finv1 (p) : Nat), .int .u64 (w0 (fsq (p)) : Nat), .int .u64 (w1 (fsq (p)) : Nat), .int .u64 (w2 (fsq (p)) : Nat), .int .u64 (w3 (fsq (p)) : Nat)] 90 (0, 0)) from by first | exact hQ | exact ak hQ)); (replace hI := below_get hb (show _ = some (.cells #[.int .u64 (w0 (invN z p) : Nat), .int .u64 (w1 (invN z p) : Nat), .int .u64 (w2 (invN z p) : Nat), .int .u64 (w3 (invN z p) : Nat)] 24 (0, 0)) from by first | exact hI | exact ak hI)); (replace hR := below_get hb (show _ = some (.cells #[.int .u64 (w0 (rootN (mulm p z z) p) : Nat), .int .u64 (w1 (rootN (mulm p z z) p) : Nat), .int .u64 (w2 (rootN (mulm p z z) p) : Nat), .int .u64 (w3 (rootN (mulm p z z) p) : Nat)] 24 (0, 0)) from by first | exact hR | exact ak hR)); (replace hX := below_get hb (show _ = some (.cells #[.int .u64 (w0 (rootN z p) : Nat), .int .u64 (w1 (rootN z p) : Nat), .int .u64 (w2 (rootN z p) : Nat), .int .u64 (w3 (rootN z p) : Nat)] 24 (0, 0)) from by first | exact hX | exact ak hX)); (replace hY := below_get hb (show _ = some (.cells #[.int .u64 (w0 (p - 1) : Nat), .int .u64 (w1 (p - 1) : Nat), .int .u64 (w2 (p - 1) : Nat), .int .u64 (w3 (p - 1) : Nat)] 24 (0, 0)) from by first | exact hY | exact ak hY)); (replace kk := bcl (by first | exact kk | exact kk.drew | exact bal kk _ | exact (bal kk _).drew) hb); (replace fF := IsF.of HF.out hQ); (have cA0 : World.cell? W ⟨w.heap.size, 0, none⟩ = some (.int .u64 (w0 (z) : Nat)) := by rw [cell_of_row _ _ _ _ _ _ hA]; rfl); (have cA1 : World.cell? W ⟨w.heap.size, 1, none⟩ = some (.int .u64 (w1 (z) : Nat)) := by rw [cell_of_row _ _ _ _ _ _ hA]; rfl); (have cA2 : World.cell? W ⟨w.heap.size, 2, none⟩ = some (.int .u64 (w2 (z) : Nat)) := by rw [cell_of_row _ _ _ _ _ _ hA]; rfl); (have cA3 : World.cell? W ⟨w.heap.size, 3, none⟩ = some (.int .u64 (w3 (z) : Nat)) := by rw [cell_of_row _ _ _ _ _ _ hA]; rfl); (have cY0 : World.cell? W ⟨by1, 0, none⟩ = some (.int .u64 (w0 (p - 1) : Nat)) := by rw [cell_of_row _ _ _ _ _ _ hY]; rfl); (have cY1 : World.cell? W ⟨by1, 1, none⟩ = some (.int .u64 (w1 (p - 1) : Nat)) := by rw [cell_of_row _ _ _ _ _ _ hY]; rfl); (have cY2 : World.cell? W ⟨by1, 2, none⟩ = some (.int .u64 (w2 (p - 1) : Nat)) := by rw [cell_of_row _ _ _ _ _ _ hY]; rfl); (have cY3 : World.cell? W ⟨by1, 3, none⟩ = some (.int .u64 (w3 (p - 1) : Nat)) := by rw [cell_of_row _ _ _ _ _ _ hY]; rfl); clear hb) | (go_at_call 17; refine (of_any _ _).mono ?_; rintro e W ⟨rfl, hb⟩; (replace hA := below_get hb (show _ = some (.cells #[.int .u64 (w0 (z) : Nat), .int .u64 (w1 (z) : Nat), .int .u64 (w2 (z) : Nat), .int .u64 (w3 (z) : Nat)] 24 (0, 0)) from by first | exact hA | exact ak hA)); (replace hQ := below_get hb (show _ = some (.cells #[.int .u64 (w0 (p) : Nat), .int .u64 (w1 (p) : Nat), .int .u64 (w2 (p) : Nat), .int .u64 (w3 (p) : Nat), .int .u64 (finv1 (p) : Nat), .int .u64 (w0 (fsq (p)) : Nat), .int .u64 (w1 (fsq (p)) : Nat), .int .u64 (w2 (fsq (p)) : Nat), .int .u64 (w3 (fsq (p)) : Nat)] 90 (0, 0)) from by first | exact hQ | exact ak hQ)); (replace hI := below_get hb (show _ = some (.cells #[.int .u64 (w0 (invN z p) : Nat), .int .u64 (w1 (invN z p) : Nat), .int .u64 (w2 (invN z p) : Nat), .int .u64 (w3 (invN z p) : Nat)] 24 (0, 0)) from by first | exact hI | exact ak hI)); (replace hR := below_get hb (show _ = some (.cells #[.int .u64 (w0 (rootN (mulm p z z) p) : Nat), .int .u64 (w1 (rootN (mulm p z z) p) : Nat), .int .u64 (w2 (rootN (mulm p z z) p) : Nat), .int .u64 (w3 (rootN (mulm p z z) p) : Nat)] 24 (0, 0)) from by first | exact hR | exact ak hR)); (replace hX := below_get hb (show _ = some (.cells #[.int .u64 (w0 (rootN z p) : Nat), .int .u64 (w1 (rootN z p) : Nat), .int .u64 (w2 (rootN z p) : Nat), .int .u64 (w3 (rootN z p) : Nat)] 24 (0, 0)) from by first | exact hX | exact ak hX)); (replace hY := below_get hb (show _ = some (.cells #[.int .u64 (w0 (p - 1) : Nat), .int .u64 (w1 (p - 1) : Nat), .int .u64 (w2 (p - 1) : Nat), .int .u64 (w3 (p - 1) : Nat)] 24 (0, 0)) from by first | exact hY | exact ak hY)); (replace kk := bcl (by first | exact kk | exact kk.drew | exact bal kk _ | exact (bal kk _).drew) hb); (replace fF := IsF.of HF.out hQ); (have cA0 : World.cell? W ⟨w.heap.size, 0, none⟩ = some (.int .u64 (w0 (z) : Nat)) := by rw [cell_of_row _ _ _ _ _ _ hA]; rfl); (have cA1 : World.cell? W ⟨w.heap.size, 1, none⟩ = some (.int .u64 (w1 (z) : Nat)) := by rw [cell_of_row _ _ _ _ _ _ hA]; rfl); (have cA2 : World.cell? W ⟨w.heap.size, 2, none⟩ = some (.int .u64 (w2 (z) : Nat)) := by rw [cell_of_row _ _ _ _ _ _ hA]; rfl); (have cA3 : World.cell? W ⟨w.heap.size, 3, none⟩ = some (.int .u64 (w3 (z) : Nat)) := by rw [cell_of_row _ _ _ _ _ _ hA]; rfl); (have cY0 : World.cell? W ⟨by1, 0, none⟩ = some (.int .u64 (w0 (p - 1) : Nat)) := by rw [cell_of_row _ _ _ _ _ _ hY]; rfl); (have cY1 : World.cell? W ⟨by1, 1, none⟩ = some (.int .u64 (w1 (p - 1) : Nat)) := by rw [cell_of_row _ _ _ _ _ _ hY]; rfl); (have cY2 : World.cell? W ⟨by1, 2, none⟩ = some (.int .u64 (w2 (p - 1) : Nat)) := by rw [cell_of_row _ _ _ _ _ _ hY]; rfl); (have cY3 : World.cell? W ⟨by1, 3, none⟩ = some (.int .u64 (w3 (p - 1) : Nat)) := by rw [cell_of_row _ _ _ _ _ _ hY]; rfl); clear hb))
        go_simp
        skip
        skip
        go_upto_region 20 with fail
        try simp only [List.append]
        have cA0 : World.cell? W ⟨w.heap.size, 0, none⟩ = some (.int .u64 (w0 (z) : Nat)) := by rw [cell_of_row _ _ _ _ _ _ hA]; rfl
        have cA1 : World.cell? W ⟨w.heap.size, 1, none⟩ = some (.int .u64 (w1 (z) : Nat)) := by rw [cell_of_row _ _ _ _ _ _ hA]; rfl
        have cA2 : World.cell? W ⟨w.heap.size, 2, none⟩ = some (.int .u64 (w2 (z) : Nat)) := by rw [cell_of_row _ _ _ _ _ _ hA]; rfl
        have cA3 : World.cell? W ⟨w.heap.size, 3, none⟩ = some (.int .u64 (w3 (z) : Nat)) := by rw [cell_of_row _ _ _ _ _ _ hA]; rfl
        have cR0 : World.cell? W ⟨br, 0, none⟩ = some (.int .u64 (w0 (rootN (mulm p z z) p) : Nat)) := by rw [cell_of_row _ _ _ _ _ _ hR]; rfl
        have cR1 : World.cell? W ⟨br, 1, none⟩ = some (.int .u64 (w1 (rootN (mulm p z z) p) : Nat)) := by rw [cell_of_row _ _ _ _ _ _ hR]; rfl
        have cR2 : World.cell? W ⟨br, 2, none⟩ = some (.int .u64 (w2 (rootN (mulm p z z) p) : Nat)) := by rw [cell_of_row _ _ _ _ _ _ hR]; rfl
        have cR3 : World.cell? W ⟨br, 3, none⟩ = some (.int .u64 (w3 (rootN (mulm p z z) p) : Nat)) := by rw [cell_of_row _ _ _ _ _ _ hR]; rfl
        have cX0 : World.cell? W ⟨bx, 0, none⟩ = some (.int .u64 (w0 (rootN z p) : Nat)) := by rw [cell_of_row _ _ _ _ _ _ hX]; rfl
        have cX1 : World.cell? W ⟨bx, 1, none⟩ = some (.int .u64 (w1 (rootN z p) : Nat)) := by rw [cell_of_row _ _ _ _ _ _ hX]; rfl
        have cX2 : World.cell? W ⟨bx, 2, none⟩ = some (.int .u64 (w2 (rootN z p) : Nat)) := by rw [cell_of_row _ _ _ _ _ _ hX]; rfl
        have cX3 : World.cell? W ⟨bx, 3, none⟩ = some (.int .u64 (w3 (rootN z p) : Nat)) := by rw [cell_of_row _ _ _ _ _ _ hX]; rfl
        refine wp_region_held_drew (S := (fun w' => w'.cell? ⟨w.heap.size, 0, none⟩ = some (.int .u64 (w0 (z) : Nat)) ∧ w'.cell? ⟨w.heap.size, 1, none⟩ = some (.int .u64 (w1 (z) : Nat)) ∧ w'.cell? ⟨w.heap.size, 2, none⟩ = some (.int .u64 (w2 (z) : Nat)) ∧ w'.cell? ⟨w.heap.size, 3, none⟩ = some (.int .u64 (w3 (z) : Nat)) ∧ w'.cell? ⟨br, 0, none⟩ = some (.int .u64 (w0 (rootN (mulm p z z) p) : Nat)) ∧ w'.cell? ⟨br, 1, none⟩ = some (.int .u64 (w1 (rootN (mulm p z z) p) : Nat)) ∧ w'.cell? ⟨br, 2, none⟩ = some (.int .u64 (w2 (rootN (mulm p z z) p) : Nat)) ∧ w'.cell? ⟨br, 3, none⟩ = some (.int .u64 (w3 (rootN (mulm p z z) p) : Nat)) ∧ w'.cell? ⟨bx, 0, none⟩ = some (.int .u64 (w0 (rootN z p) : Nat)) ∧ w'.cell? ⟨bx, 1, none⟩ = some (.int .u64 (w1 (rootN z p) : Nat)) ∧ w'.cell? ⟨bx, 2, none⟩ = some (.int .u64 (w2 (rootN z p) : Nat)) ∧ w'.cell? ⟨bx, 3, none⟩ = some (.int .u64 (w3 (rootN z p) : Nat)))) (by kernel_rfl) (by (try dsimp only); first | (with_reducible exact ⟨cA0, cA1, cA2, cA3, cR0, cR1, cR2, cR3, cX0, cX1, cX2, cX3⟩) | exact ⟨cA0, cA1, cA2, cA3, cR0, cR1, cR2, cR3, cX0, cX1, cX2, cX3⟩ | go_keep) (fun hHeld => ?_)
        refine takeH (i := 0) (d := some 110) (v := ?_) _ rfl rfl (by rfl) (by kernel_rfl) (by kernel_rfl) (by kernel_rfl) (fun _ _ _ h => h) (by assumption) ?_ ?_
        rotate_left
        · (intro w' hSw; (try dsimp only at hSw); go_simp; try (with_reducible rfl))
        try simp only [Act.put, List.setIfInBounds_toArray, List.set_cons_zero, List.set_cons_succ]
        refine takeH (i := 1) (d := some 111) (v := ?_) _ rfl rfl (by rfl) (by kernel_rfl) (by kernel_rfl) (by kernel_rfl) (fun _ _ _ h => h) (by assumption) ?_ ?_
        rotate_left
        · (intro w' hSw; (try dsimp only at hSw); go_simp; try (with_reducible rfl))
        try simp only [Act.put, List.setIfInBounds_toArray, List.set_cons_zero, List.set_cons_succ]
        refine takeH (i := 2) (d := some 112) (v := ?_) _ rfl rfl (by rfl) (by kernel_rfl) (by kernel_rfl) (by kernel_rfl) (fun _ _ _ h => h) (by assumption) ?_ ?_
        rotate_left
        · (intro w' hSw; (try dsimp only at hSw); go_simp; try (with_reducible rfl))
        try simp only [Act.put, List.setIfInBounds_toArray, List.set_cons_zero, List.set_cons_succ]
        refine takeH (i := 3) (d := some 113) (v := ?_) _ rfl rfl (by rfl) (by kernel_rfl) (by kernel_rfl) (by kernel_rfl) (fun _ _ _ h => h) (by assumption) ?_ ?_
        rotate_left
        · (intro w' hSw; (try dsimp only at hSw); go_simp; try (with_reducible rfl))
        try simp only [Act.put, List.setIfInBounds_toArray, List.set_cons_zero, List.set_cons_succ]
        refine takeH (i := 4) (d := some 114) (v := ?_) _ rfl rfl (by rfl) (by kernel_rfl) (by kernel_rfl) (by kernel_rfl) (fun _ _ _ h => h) (by assumption) ?_ ?_
        rotate_left
        · (intro w' hSw; (try dsimp only at hSw); go_simp; try (with_reducible rfl))
        try simp only [Act.put, List.setIfInBounds_toArray, List.set_cons_zero, List.set_cons_succ]
        refine takeH (i := 6) (d := some 116) (v := ?_) _ rfl rfl (by rfl) (by kernel_rfl) (by kernel_rfl) (by kernel_rfl) (fun _ _ _ h => h) (by assumption) ?_ ?_
        rotate_left
        · (intro w' hSw; (try dsimp only at hSw); go_simp; try (with_reducible rfl))
        try simp only [Act.put, List.setIfInBounds_toArray, List.set_cons_zero, List.set_cons_succ]
        refine takeH (i := 7) (d := some 117) (v := ?_) _ rfl rfl (by rfl) (by kernel_rfl) (by kernel_rfl) (by kernel_rfl) (fun _ _ _ h => h) (by assumption) ?_ ?_
        rotate_left
        · (intro w' hSw; (try dsimp only at hSw); go_simp; try (with_reducible rfl))
        try simp only [Act.put, List.setIfInBounds_toArray, List.set_cons_zero, List.set_cons_succ]
        refine takeH (i := 8) (d := some 118) (v := ?_) _ rfl rfl (by rfl) (by kernel_rfl) (by kernel_rfl) (by kernel_rfl) (fun _ _ _ h => h) (by assumption) ?_ ?_
        rotate_left
        · (intro w' hSw; (try dsimp only at hSw); go_simp; try (with_reducible rfl))
        try simp only [Act.put, List.setIfInBounds_toArray, List.set_cons_zero, List.set_cons_succ]
        refine callH (i := 5) _ rfl (by rfl) (by kernel_rfl) (fun K hK => ?_)
        go_simp
        first | (go_at_call 26; refine (mulG_any (by first | exact W4.mk' hla.out | exact W4.mk' HM.out | exact W4.mk' HZl.out | exact W4.mk' HI.out | exact W4.mk' HRR.out | exact W4.mk' HXX.out | exact W4.mk' HH.out | exact W4.mk' HH2.out | exact W4.mk' (Nat.lt_trans (Nat.mod_lt _ hpos) HM.out) | exact W4.small (n := 1) rfl (by decide) | exact W4.small (n := 2) rfl (by decide) | exact W4.small (n := 3) rfl (by decide) | exact W4.small (n := 4) rfl (by decide) | exact W4.small (n := 5) rfl (by decide) | exact W4.small (n := 7) rfl (by decide)) (by first | exact W4.mk' hla.out | exact W4.mk' HM.out | exact W4.mk' HZl.out | exact W4.mk' HI.out | exact W4.mk' HRR.out | exact W4.mk' HXX.out | exact W4.mk' HH.out | exact W4.mk' HH2.out | exact W4.mk' (Nat.lt_trans (Nat.mod_lt _ hpos) HM.out) | exact W4.small (n := 1) rfl (by decide) | exact W4.small (n := 2) rfl (by decide) | exact W4.small (n := 3) rfl (by decide) | exact W4.small (n := 4) rfl (by decide) | exact W4.small (n := 5) rfl (by decide) | exact W4.small (n := 7) rfl (by decide)) _ (show IsF _ (g) (p) from (by first | exact fF | exact ⟨fF.blk, fF.odd, fF.three, fF.lt⟩))).mono ?_; rintro e W ⟨rfl, hb⟩; (replace hA := below_get hb (show _ = some (.cells #[.int .u64 (w0 (z) : Nat), .int .u64 (w1 (z) : Nat), .int .u64 (w2 (z) : Nat), .int .u64 (w3 (z) : Nat)] 24 (0, 0)) from by first | exact hA | exact ak hA)); (replace hI := below_get hb (show _ = some (.cells #[.int .u64 (w0 (invN z p) : Nat), .int .u64 (w1 (invN z p) : Nat), .int .u64 (w2 (invN z p) : Nat), .int .u64 (w3 (invN z p) : Nat)] 24 (0, 0)) from by first | exact hI | exact ak hI)); (replace hR := below_get hb (show _ = some (.cells #[.int .u64 (w0 (rootN (mulm p z z) p) : Nat), .int .u64 (w1 (rootN (mulm p z z) p) : Nat), .int .u64 (w2 (rootN (mulm p z z) p) : Nat), .int .u64 (w3 (rootN (mulm p z z) p) : Nat)] 24 (0, 0)) from by first | exact hR | exact ak hR)); (replace hX := below_get hb (show _ = some (.cells #[.int .u64 (w0 (rootN z p) : Nat), .int .u64 (w1 (rootN z p) : Nat), .int .u64 (w2 (rootN z p) : Nat), .int .u64 (w3 (rootN z p) : Nat)] 24 (0, 0)) from by first | exact hX | exact ak hX)); (replace hQ := below_get hb (show _ = some (.cells #[.int .u64 (w0 (p) : Nat), .int .u64 (w1 (p) : Nat), .int .u64 (w2 (p) : Nat), .int .u64 (w3 (p) : Nat), .int .u64 (finv1 (p) : Nat), .int .u64 (w0 (fsq (p)) : Nat), .int .u64 (w1 (fsq (p)) : Nat), .int .u64 (w2 (fsq (p)) : Nat), .int .u64 (w3 (fsq (p)) : Nat)] 90 (0, 0)) from by first | exact hQ | exact ak hQ)); (replace kk := bcl (by first | exact kk | exact kk.drew | exact bal kk _ | exact (bal kk _).drew) hb); (replace fF := IsF.of HF.out hQ); (have cA0 : World.cell? W ⟨w.heap.size, 0, none⟩ = some (.int .u64 (w0 (z) : Nat)) := by rw [cell_of_row _ _ _ _ _ _ hA]; rfl); (have cA1 : World.cell? W ⟨w.heap.size, 1, none⟩ = some (.int .u64 (w1 (z) : Nat)) := by rw [cell_of_row _ _ _ _ _ _ hA]; rfl); (have cA2 : World.cell? W ⟨w.heap.size, 2, none⟩ = some (.int .u64 (w2 (z) : Nat)) := by rw [cell_of_row _ _ _ _ _ _ hA]; rfl); (have cA3 : World.cell? W ⟨w.heap.size, 3, none⟩ = some (.int .u64 (w3 (z) : Nat)) := by rw [cell_of_row _ _ _ _ _ _ hA]; rfl); (have cR0 : World.cell? W ⟨br, 0, none⟩ = some (.int .u64 (w0 (rootN (mulm p z z) p) : Nat)) := by rw [cell_of_row _ _ _ _ _ _ hR]; rfl); (have cR1 : World.cell? W ⟨br, 1, none⟩ = some (.int .u64 (w1 (rootN (mulm p z z) p) : Nat)) := by rw [cell_of_row _ _ _ _ _ _ hR]; rfl); (have cR2 : World.cell? W ⟨br, 2, none⟩ = some (.int .u64 (w2 (rootN (mulm p z z) p) : Nat)) := by rw [cell_of_row _ _ _ _ _ _ hR]; rfl); (have cR3 : World.cell? W ⟨br, 3, none⟩ = some (.int .u64 (w3 (rootN (mulm p z z) p) : Nat)) := by rw [cell_of_row _ _ _ _ _ _ hR]; rfl); (have cX0 : World.cell? W ⟨bx, 0, none⟩ = some (.int .u64 (w0 (rootN z p) : Nat)) := by rw [cell_of_row _ _ _ _ _ _ hX]; rfl); (have cX1 : World.cell? W ⟨bx, 1, none⟩ = some (.int .u64 (w1 (rootN z p) : Nat)) := by rw [cell_of_row _ _ _ _ _ _ hX]; rfl); (have cX2 : World.cell? W ⟨bx, 2, none⟩ = some (.int .u64 (w2 (rootN z p) : Nat)) := by rw [cell_of_row _ _ _ _ _ _ hX]; rfl); (have cX3 : World.cell? W ⟨bx, 3, none⟩ = some (.int .u64 (w3 (rootN z p) : Nat)) := by rw [cell_of_row _ _ _ _ _ _ hX]; rfl); clear hb)
        try go_wp2_with fail
        refine hK.out _ _ (by (try dsimp only); first | (with_reducible exact ⟨cA0, cA1, cA2, cA3, cR0, cR1, cR2, cR3, cX0, cX1, cX2, cX3⟩) | exact ⟨cA0, cA1, cA2, cA3, cR0, cR1, cR2, cR3, cX0, cX1, cX2, cX3⟩ | go_keep) (fun hHeld => ?_)
        clear hK K
        try simp only [Act.put, List.setIfInBounds_toArray, List.set_cons_zero, List.set_cons_succ]
        refine callH (i := 9) _ rfl (by rfl) (by kernel_rfl) (fun K hK => ?_)
        go_simp
        first | (go_at_call 26; refine (mulG_any (by first | exact W4.mk' hla.out | exact W4.mk' HM.out | exact W4.mk' HZl.out | exact W4.mk' HI.out | exact W4.mk' HRR.out | exact W4.mk' HXX.out | exact W4.mk' HH.out | exact W4.mk' HH2.out | exact W4.mk' (Nat.lt_trans (Nat.mod_lt _ hpos) HM.out) | exact W4.small (n := 1) rfl (by decide) | exact W4.small (n := 2) rfl (by decide) | exact W4.small (n := 3) rfl (by decide) | exact W4.small (n := 4) rfl (by decide) | exact W4.small (n := 5) rfl (by decide) | exact W4.small (n := 7) rfl (by decide)) (by first | exact W4.mk' hla.out | exact W4.mk' HM.out | exact W4.mk' HZl.out | exact W4.mk' HI.out | exact W4.mk' HRR.out | exact W4.mk' HXX.out | exact W4.mk' HH.out | exact W4.mk' HH2.out | exact W4.mk' (Nat.lt_trans (Nat.mod_lt _ hpos) HM.out) | exact W4.small (n := 1) rfl (by decide) | exact W4.small (n := 2) rfl (by decide) | exact W4.small (n := 3) rfl (by decide) | exact W4.small (n := 4) rfl (by decide) | exact W4.small (n := 5) rfl (by decide) | exact W4.small (n := 7) rfl (by decide)) _ (show IsF _ (g) (p) from (by first | exact fF | exact ⟨fF.blk, fF.odd, fF.three, fF.lt⟩))).mono ?_; rintro e W ⟨rfl, hb⟩; (replace hA := below_get hb (show _ = some (.cells #[.int .u64 (w0 (z) : Nat), .int .u64 (w1 (z) : Nat), .int .u64 (w2 (z) : Nat), .int .u64 (w3 (z) : Nat)] 24 (0, 0)) from by first | exact hA | exact ak hA)); (replace hI := below_get hb (show _ = some (.cells #[.int .u64 (w0 (invN z p) : Nat), .int .u64 (w1 (invN z p) : Nat), .int .u64 (w2 (invN z p) : Nat), .int .u64 (w3 (invN z p) : Nat)] 24 (0, 0)) from by first | exact hI | exact ak hI)); (replace hR := below_get hb (show _ = some (.cells #[.int .u64 (w0 (rootN (mulm p z z) p) : Nat), .int .u64 (w1 (rootN (mulm p z z) p) : Nat), .int .u64 (w2 (rootN (mulm p z z) p) : Nat), .int .u64 (w3 (rootN (mulm p z z) p) : Nat)] 24 (0, 0)) from by first | exact hR | exact ak hR)); (replace hX := below_get hb (show _ = some (.cells #[.int .u64 (w0 (rootN z p) : Nat), .int .u64 (w1 (rootN z p) : Nat), .int .u64 (w2 (rootN z p) : Nat), .int .u64 (w3 (rootN z p) : Nat)] 24 (0, 0)) from by first | exact hX | exact ak hX)); (replace hQ := below_get hb (show _ = some (.cells #[.int .u64 (w0 (p) : Nat), .int .u64 (w1 (p) : Nat), .int .u64 (w2 (p) : Nat), .int .u64 (w3 (p) : Nat), .int .u64 (finv1 (p) : Nat), .int .u64 (w0 (fsq (p)) : Nat), .int .u64 (w1 (fsq (p)) : Nat), .int .u64 (w2 (fsq (p)) : Nat), .int .u64 (w3 (fsq (p)) : Nat)] 90 (0, 0)) from by first | exact hQ | exact ak hQ)); (replace kk := bcl (by first | exact kk | exact kk.drew | exact bal kk _ | exact (bal kk _).drew) hb); (replace fF := IsF.of HF.out hQ); (have cA0 : World.cell? W ⟨w.heap.size, 0, none⟩ = some (.int .u64 (w0 (z) : Nat)) := by rw [cell_of_row _ _ _ _ _ _ hA]; rfl); (have cA1 : World.cell? W ⟨w.heap.size, 1, none⟩ = some (.int .u64 (w1 (z) : Nat)) := by rw [cell_of_row _ _ _ _ _ _ hA]; rfl); (have cA2 : World.cell? W ⟨w.heap.size, 2, none⟩ = some (.int .u64 (w2 (z) : Nat)) := by rw [cell_of_row _ _ _ _ _ _ hA]; rfl); (have cA3 : World.cell? W ⟨w.heap.size, 3, none⟩ = some (.int .u64 (w3 (z) : Nat)) := by rw [cell_of_row _ _ _ _ _ _ hA]; rfl); (have cR0 : World.cell? W ⟨br, 0, none⟩ = some (.int .u64 (w0 (rootN (mulm p z z) p) : Nat)) := by rw [cell_of_row _ _ _ _ _ _ hR]; rfl); (have cR1 : World.cell? W ⟨br, 1, none⟩ = some (.int .u64 (w1 (rootN (mulm p z z) p) : Nat)) := by rw [cell_of_row _ _ _ _ _ _ hR]; rfl); (have cR2 : World.cell? W ⟨br, 2, none⟩ = some (.int .u64 (w2 (rootN (mulm p z z) p) : Nat)) := by rw [cell_of_row _ _ _ _ _ _ hR]; rfl); (have cR3 : World.cell? W ⟨br, 3, none⟩ = some (.int .u64 (w3 (rootN (mulm p z z) p) : Nat)) := by rw [cell_of_row _ _ _ _ _ _ hR]; rfl); (have cX0 : World.cell? W ⟨bx, 0, none⟩ = some (.int .u64 (w0 (rootN z p) : Nat)) := by rw [cell_of_row _ _ _ _ _ _ hX]; rfl); (have cX1 : World.cell? W ⟨bx, 1, none⟩ = some (.int .u64 (w1 (rootN z p) : Nat)) := by rw [cell_of_row _ _ _ _ _ _ hX]; rfl); (have cX2 : World.cell? W ⟨bx, 2, none⟩ = some (.int .u64 (w2 (rootN z p) : Nat)) := by rw [cell_of_row _ _ _ _ _ _ hX]; rfl); (have cX3 : World.cell? W ⟨bx, 3, none⟩ = some (.int .u64 (w3 (rootN z p) : Nat)) := by rw [cell_of_row _ _ _ _ _ _ hX]; rfl); clear hb)
        try go_wp2_with fail
        refine hK.out _ _ (by (try dsimp only); first | (with_reducible exact ⟨cA0, cA1, cA2, cA3, cR0, cR1, cR2, cR3, cX0, cX1, cX2, cX3⟩) | exact ⟨cA0, cA1, cA2, cA3, cR0, cR1, cR2, cR3, cX0, cX1, cX2, cX3⟩ | go_keep) (fun hHeld => ?_)
        clear hK K
        try simp only [Act.put, List.setIfInBounds_toArray, List.set_cons_zero, List.set_cons_succ]
        refine takeH (i := 10) (d := some 120) (v := ?_) _ rfl rfl (by rfl) (by kernel_rfl) (by kernel_rfl) (by kernel_rfl) (fun _ _ _ h => h) (by assumption) ?_ ?_
        rotate_left
        · (intro w' hSw; (try dsimp only at hSw); go_simp; try (with_reducible rfl))
        try simp only [Act.put, List.setIfInBounds_toArray, List.set_cons_zero, List.set_cons_succ]
        refine takeH (i := 11) (d := some 121) (v := ?_) _ rfl rfl (by rfl) (by kernel_rfl) (by kernel_rfl) (by kernel_rfl) (fun _ _ _ h => h) (by assumption) ?_ ?_
        rotate_left
        · (intro w' hSw; (try dsimp only at hSw); go_simp; try (with_reducible rfl))
        try simp only [Act.put, List.setIfInBounds_toArray, List.set_cons_zero, List.set_cons_succ]
        refine takeH (i := 12) (d := some 122) (v := ?_) _ rfl rfl (by rfl) (by kernel_rfl) (by kernel_rfl) (by kernel_rfl) (fun _ _ _ h => h) (by assumption) ?_ ?_
        rotate_left
        · (intro w' hSw; (try dsimp only at hSw); go_simp; try (with_reducible rfl))
        try simp only [Act.put, List.setIfInBounds_toArray, List.set_cons_zero, List.set_cons_succ]
        refine takeH (i := 13) (d := some 123) (v := ?_) _ rfl rfl (by rfl) (by kernel_rfl) (by kernel_rfl) (by kernel_rfl) (fun _ _ _ h => h) (by assumption) ?_ ?_
        rotate_left
        · (intro w' hSw; (try dsimp only at hSw); go_simp; try (with_reducible rfl))
        try simp only [Act.put, List.setIfInBounds_toArray, List.set_cons_zero, List.set_cons_succ]
        refine takeH (i := 14) (d := some 124) (v := ?_) _ rfl rfl (by rfl) (by kernel_rfl) (by kernel_rfl) (by kernel_rfl) (fun _ _ _ h => h) (by assumption) ?_ ?_
        rotate_left
        · (intro w' hSw; (try dsimp only at hSw); go_simp; try (with_reducible rfl))
        try simp only [Act.put, List.setIfInBounds_toArray, List.set_cons_zero, List.set_cons_succ]
        refine takeH (i := 15) (d := some 125) (v := ?_) _ rfl rfl (by rfl) (by kernel_rfl) (by kernel_rfl) (by kernel_rfl) (fun _ _ _ h => h) (by assumption) ?_ ?_
        rotate_left
        · (intro w' hSw; (try dsimp only at hSw); go_simp; try (with_reducible rfl))
        try simp only [Act.put, List.setIfInBounds_toArray, List.set_cons_zero, List.set_cons_succ]
        refine takeH (i := 16) (d := some 126) (v := ?_) _ rfl rfl (by rfl) (by kernel_rfl) (by kernel_rfl) (by kernel_rfl) (fun _ _ _ h => h) (by assumption) ?_ ?_
        rotate_left
        · (intro w' hSw; (try dsimp only at hSw); go_simp; try (with_reducible rfl))
        try simp only [Act.put, List.setIfInBounds_toArray, List.set_cons_zero, List.set_cons_succ]
        refine takeH (i := 17) (d := some 127) (v := ?_) _ rfl rfl (by rfl) (by kernel_rfl) (by kernel_rfl) (by kernel_rfl) (fun _ _ _ h => h) (by assumption) ?_ ?_
        rotate_left
        · (intro w' hSw; (try dsimp only at hSw); go_simp; try (with_reducible rfl))
        try simp only [Act.put, List.setIfInBounds_toArray, List.set_cons_zero, List.set_cons_succ]
        refine takeH (i := 18) (d := some 128) (v := ?_) _ rfl rfl (by rfl) (by kernel_rfl) (by kernel_rfl) (by kernel_rfl) (fun _ _ _ h => h) (by assumption) ?_ ?_
        rotate_left
        · (intro w' hSw; (try dsimp only at hSw); go_simp; try (with_reducible rfl))
        try simp only [Act.put, List.setIfInBounds_toArray, List.set_cons_zero, List.set_cons_succ]
        refine takeH (i := 19) (d := some 129) (v := ?_) _ rfl rfl (by rfl) (by kernel_rfl) (by kernel_rfl) (by kernel_rfl) (fun _ _ _ h => h) (by assumption) ?_ ?_
        rotate_left
        · (intro w' hSw; (try dsimp only at hSw); go_simp; try (with_reducible rfl))
        try simp only [Act.put, List.setIfInBounds_toArray, List.set_cons_zero, List.set_cons_succ]
        refine takeH (i := 20) (d := some 130) (v := ?_) _ rfl rfl (by rfl) (by kernel_rfl) (by kernel_rfl) (by kernel_rfl) (fun _ _ _ h => h) (by assumption) ?_ ?_
        rotate_left
        · (intro w' hSw; (try dsimp only at hSw); go_simp; try (with_reducible rfl))
        try simp only [Act.put, List.setIfInBounds_toArray, List.set_cons_zero, List.set_cons_succ]
        refine skipH (i := 21) (d := some 131) ⟨_, rfl, rfl, by rfl⟩ (by kernel_rfl) (by kernel_rfl) (by kernel_rfl) (fun _ _ _ h => h) (by assumption) ?_
        try simp only [Act.put, List.setIfInBounds_toArray, List.set_cons_zero, List.set_cons_succ]
        refine skipH (i := 22) (d := some 132) ⟨_, rfl, rfl, by rfl⟩ (by kernel_rfl) (by kernel_rfl) (by kernel_rfl) (fun _ _ _ h => h) (by assumption) ?_
        try simp only [Act.put, List.setIfInBounds_toArray, List.set_cons_zero, List.set_cons_succ]
        refine skipH (i := 23) (d := some 133) ⟨_, rfl, rfl, by rfl⟩ (by kernel_rfl) (by kernel_rfl) (by kernel_rfl) (fun _ _ _ h => h) (by assumption) ?_
        try simp only [Act.put, List.setIfInBounds_toArray, List.set_cons_zero, List.set_cons_succ]
        refine takeH (i := 24) (d := some 134) (v := ?_) _ rfl rfl (by rfl) (by kernel_rfl) (by kernel_rfl) (by kernel_rfl) (fun _ _ _ h => h) (by assumption) ?_ ?_
        rotate_left
        · (intro w' hSw; (try dsimp only at hSw); go_simp; try (with_reducible rfl))
        try simp only [Act.put, List.setIfInBounds_toArray, List.set_cons_zero, List.set_cons_succ]
        refine takeH (i := 25) (d := some 135) (v := ?_) _ rfl rfl (by rfl) (by kernel_rfl) (by kernel_rfl) (by kernel_rfl) (fun _ _ _ h => h) (by assumption) ?_ ?_
        rotate_left
        · (intro w' hSw; (try dsimp only at hSw); go_simp; try (with_reducible rfl))
        try simp only [Act.put, List.setIfInBounds_toArray, List.set_cons_zero, List.set_cons_succ]
        refine takeH (i := 26) (d := some 136) (v := ?_) _ rfl rfl (by rfl) (by kernel_rfl) (by kernel_rfl) (by kernel_rfl) (fun _ _ _ h => h) (by assumption) ?_ ?_
        rotate_left
        · (intro w' hSw; (try dsimp only at hSw); go_simp; try (with_reducible rfl))
        try simp only [Act.put, List.setIfInBounds_toArray, List.set_cons_zero, List.set_cons_succ]
        refine takeH (i := 27) (d := some 137) (v := ?_) _ rfl rfl (by rfl) (by kernel_rfl) (by kernel_rfl) (by kernel_rfl) (fun _ _ _ h => h) (by assumption) ?_ ?_
        rotate_left
        · (intro w' hSw; (try dsimp only at hSw); go_simp; try (with_reducible rfl))
        try simp only [Act.put, List.setIfInBounds_toArray, List.set_cons_zero, List.set_cons_succ]
        refine takeH (i := 28) (d := some 138) (v := ?_) _ rfl rfl (by rfl) (by kernel_rfl) (by kernel_rfl) (by kernel_rfl) (fun _ _ _ h => h) (by assumption) ?_ ?_
        rotate_left
        · (intro w' hSw; (try dsimp only at hSw); go_simp; try (with_reducible rfl))
        try simp only [Act.put, List.setIfInBounds_toArray, List.set_cons_zero, List.set_cons_succ]
        refine takeH (i := 29) (d := some 139) (v := ?_) _ rfl rfl (by rfl) (by kernel_rfl) (by kernel_rfl) (by kernel_rfl) (fun _ _ _ h => h) (by assumption) ?_ ?_
        rotate_left
        · (intro w' hSw; (try dsimp only at hSw); go_simp; try (with_reducible rfl))
        try simp only [Act.put, List.setIfInBounds_toArray, List.set_cons_zero, List.set_cons_succ]
        refine takeH (i := 30) (d := some 140) (v := ?_) _ rfl rfl (by rfl) (by kernel_rfl) (by kernel_rfl) (by kernel_rfl) (fun _ _ _ h => h) (by assumption) ?_ ?_
        rotate_left
        · (intro w' hSw; (try dsimp only at hSw); go_simp; try (with_reducible rfl))
        try simp only [Act.put, List.setIfInBounds_toArray, List.set_cons_zero, List.set_cons_succ]
        refine takeH (i := 32) (d := some 142) (v := ?_) _ rfl rfl (by rfl) (by kernel_rfl) (by kernel_rfl) (by kernel_rfl) (fun _ _ _ h => h) (by assumption) ?_ ?_
        rotate_left
        · (intro w' hSw; (try dsimp only at hSw); go_simp; try (with_reducible rfl))
        try simp only [Act.put, List.setIfInBounds_toArray, List.set_cons_zero, List.set_cons_succ]
        refine callH (i := 31) _ rfl (by rfl) (by kernel_rfl) (fun K hK => ?_)
        go_simp
        first | (go_at_call 26; refine (mulG_any (by first | exact W4.mk' hla.out | exact W4.mk' HM.out | exact W4.mk' HZl.out | exact W4.mk' HI.out | exact W4.mk' HRR.out | exact W4.mk' HXX.out | exact W4.mk' HH.out | exact W4.mk' HH2.out | exact W4.mk' (Nat.lt_trans (Nat.mod_lt _ hpos) HM.out) | exact W4.small (n := 1) rfl (by decide) | exact W4.small (n := 2) rfl (by decide) | exact W4.small (n := 3) rfl (by decide) | exact W4.small (n := 4) rfl (by decide) | exact W4.small (n := 5) rfl (by decide) | exact W4.small (n := 7) rfl (by decide)) (by first | exact W4.mk' hla.out | exact W4.mk' HM.out | exact W4.mk' HZl.out | exact W4.mk' HI.out | exact W4.mk' HRR.out | exact W4.mk' HXX.out | exact W4.mk' HH.out | exact W4.mk' HH2.out | exact W4.mk' (Nat.lt_trans (Nat.mod_lt _ hpos) HM.out) | exact W4.small (n := 1) rfl (by decide) | exact W4.small (n := 2) rfl (by decide) | exact W4.small (n := 3) rfl (by decide) | exact W4.small (n := 4) rfl (by decide) | exact W4.small (n := 5) rfl (by decide) | exact W4.small (n := 7) rfl (by decide)) _ (show IsF _ (g) (p) from (by first | exact fF | exact ⟨fF.blk, fF.odd, fF.three, fF.lt⟩))).mono ?_; rintro e W ⟨rfl, hb⟩; (replace hA := below_get hb (show _ = some (.cells #[.int .u64 (w0 (z) : Nat), .int .u64 (w1 (z) : Nat), .int .u64 (w2 (z) : Nat), .int .u64 (w3 (z) : Nat)] 24 (0, 0)) from by first | exact hA | exact ak hA)); (replace hI := below_get hb (show _ = some (.cells #[.int .u64 (w0 (invN z p) : Nat), .int .u64 (w1 (invN z p) : Nat), .int .u64 (w2 (invN z p) : Nat), .int .u64 (w3 (invN z p) : Nat)] 24 (0, 0)) from by first | exact hI | exact ak hI)); (replace hR := below_get hb (show _ = some (.cells #[.int .u64 (w0 (rootN (mulm p z z) p) : Nat), .int .u64 (w1 (rootN (mulm p z z) p) : Nat), .int .u64 (w2 (rootN (mulm p z z) p) : Nat), .int .u64 (w3 (rootN (mulm p z z) p) : Nat)] 24 (0, 0)) from by first | exact hR | exact ak hR)); (replace hX := below_get hb (show _ = some (.cells #[.int .u64 (w0 (rootN z p) : Nat), .int .u64 (w1 (rootN z p) : Nat), .int .u64 (w2 (rootN z p) : Nat), .int .u64 (w3 (rootN z p) : Nat)] 24 (0, 0)) from by first | exact hX | exact ak hX)); (replace hQ := below_get hb (show _ = some (.cells #[.int .u64 (w0 (p) : Nat), .int .u64 (w1 (p) : Nat), .int .u64 (w2 (p) : Nat), .int .u64 (w3 (p) : Nat), .int .u64 (finv1 (p) : Nat), .int .u64 (w0 (fsq (p)) : Nat), .int .u64 (w1 (fsq (p)) : Nat), .int .u64 (w2 (fsq (p)) : Nat), .int .u64 (w3 (fsq (p)) : Nat)] 90 (0, 0)) from by first | exact hQ | exact ak hQ)); (replace kk := bcl (by first | exact kk | exact kk.drew | exact bal kk _ | exact (bal kk _).drew) hb); (replace fF := IsF.of HF.out hQ); (have cA0 : World.cell? W ⟨w.heap.size, 0, none⟩ = some (.int .u64 (w0 (z) : Nat)) := by rw [cell_of_row _ _ _ _ _ _ hA]; rfl); (have cA1 : World.cell? W ⟨w.heap.size, 1, none⟩ = some (.int .u64 (w1 (z) : Nat)) := by rw [cell_of_row _ _ _ _ _ _ hA]; rfl); (have cA2 : World.cell? W ⟨w.heap.size, 2, none⟩ = some (.int .u64 (w2 (z) : Nat)) := by rw [cell_of_row _ _ _ _ _ _ hA]; rfl); (have cA3 : World.cell? W ⟨w.heap.size, 3, none⟩ = some (.int .u64 (w3 (z) : Nat)) := by rw [cell_of_row _ _ _ _ _ _ hA]; rfl); (have cR0 : World.cell? W ⟨br, 0, none⟩ = some (.int .u64 (w0 (rootN (mulm p z z) p) : Nat)) := by rw [cell_of_row _ _ _ _ _ _ hR]; rfl); (have cR1 : World.cell? W ⟨br, 1, none⟩ = some (.int .u64 (w1 (rootN (mulm p z z) p) : Nat)) := by rw [cell_of_row _ _ _ _ _ _ hR]; rfl); (have cR2 : World.cell? W ⟨br, 2, none⟩ = some (.int .u64 (w2 (rootN (mulm p z z) p) : Nat)) := by rw [cell_of_row _ _ _ _ _ _ hR]; rfl); (have cR3 : World.cell? W ⟨br, 3, none⟩ = some (.int .u64 (w3 (rootN (mulm p z z) p) : Nat)) := by rw [cell_of_row _ _ _ _ _ _ hR]; rfl); (have cX0 : World.cell? W ⟨bx, 0, none⟩ = some (.int .u64 (w0 (rootN z p) : Nat)) := by rw [cell_of_row _ _ _ _ _ _ hX]; rfl); (have cX1 : World.cell? W ⟨bx, 1, none⟩ = some (.int .u64 (w1 (rootN z p) : Nat)) := by rw [cell_of_row _ _ _ _ _ _ hX]; rfl); (have cX2 : World.cell? W ⟨bx, 2, none⟩ = some (.int .u64 (w2 (rootN z p) : Nat)) := by rw [cell_of_row _ _ _ _ _ _ hX]; rfl); (have cX3 : World.cell? W ⟨bx, 3, none⟩ = some (.int .u64 (w3 (rootN z p) : Nat)) := by rw [cell_of_row _ _ _ _ _ _ hX]; rfl); clear hb)
        try go_wp2_with fail
        refine hK.out _ _ (by (try dsimp only); first | (with_reducible exact ⟨cA0, cA1, cA2, cA3, cR0, cR1, cR2, cR3, cX0, cX1, cX2, cX3⟩) | exact ⟨cA0, cA1, cA2, cA3, cR0, cR1, cR2, cR3, cX0, cX1, cX2, cX3⟩ | go_keep) (fun hHeld => ?_)
        clear hK K
        try simp only [Act.put, List.setIfInBounds_toArray, List.set_cons_zero, List.set_cons_succ]
        refine takeH (i := 33) (d := some 143) (v := ?_) _ rfl rfl (by rfl) (by kernel_rfl) (by kernel_rfl) (by kernel_rfl) (fun _ _ _ h => h) (by assumption) ?_ ?_
        rotate_left
        · (intro w' hSw; (try dsimp only at hSw); go_simp; try (with_reducible rfl))
        try simp only [Act.put, List.setIfInBounds_toArray, List.set_cons_zero, List.set_cons_succ]
        refine takeH (i := 34) (d := some 144) (v := ?_) _ rfl rfl (by rfl) (by kernel_rfl) (by kernel_rfl) (by kernel_rfl) (fun _ _ _ h => h) (by assumption) ?_ ?_
        rotate_left
        · (intro w' hSw; (try dsimp only at hSw); go_simp; try (with_reducible rfl))
        try simp only [Act.put, List.setIfInBounds_toArray, List.set_cons_zero, List.set_cons_succ]
        refine takeH (i := 35) (d := some 145) (v := ?_) _ rfl rfl (by rfl) (by kernel_rfl) (by kernel_rfl) (by kernel_rfl) (fun _ _ _ h => h) (by assumption) ?_ ?_
        rotate_left
        · (intro w' hSw; (try dsimp only at hSw); go_simp; try (with_reducible rfl))
        try simp only [Act.put, List.setIfInBounds_toArray, List.set_cons_zero, List.set_cons_succ]
        refine takeH (i := 36) (d := some 146) (v := ?_) _ rfl rfl (by rfl) (by kernel_rfl) (by kernel_rfl) (by kernel_rfl) (fun _ _ _ h => h) (by assumption) ?_ ?_
        rotate_left
        · (intro w' hSw; (try dsimp only at hSw); go_simp; try (with_reducible rfl))
        try simp only [Act.put, List.setIfInBounds_toArray, List.set_cons_zero, List.set_cons_succ]
        refine takeH (i := 37) (d := some 4) (v := ?_) _ rfl rfl (by rfl) (by kernel_rfl) (by kernel_rfl) (by kernel_rfl) (fun _ _ _ h => h) (by assumption) ?_ ?_
        rotate_left
        · (intro w' hSw; (try dsimp only at hSw); go_simp; try (with_reducible rfl))
        try simp only [Act.put, List.setIfInBounds_toArray, List.set_cons_zero, List.set_cons_succ]
        refine wpAnyH_done (by kernel_rfl) ?_ _
        go_simp
        go_wp2_with fail
        refine bodyPost_ret (v := _) (by simp [results, Try.results4, go_sem]; rfl) rfl ?_
        exact ⟨rfl, kk⟩
      · replace IS : rootB z p = false := by rw [IS, decide_eq_false hs, decide_eq_false hz'.out]; rfl
        have q6 := eql_f (W4.mk' (show powm p z ((p - 1) / 2) < 2 ^ 256 from L)) (W4.small (x := 1) (n := 1) rfl (by decide)) hs
        clear hs
        rw [show rootB z p = false from IS]
        rw [rootN_none IS]
        go_upto_region 18 with fail
        obtain ⟨V14, hW⟩ : ∃ V, V13.alloc (.cells #[.int .u64 (w0 (0) : Nat), .int .u64 (w1 (0) : Nat), .int .u64 (w2 (0) : Nat), .int .u64 (w3 (0) : Nat)] 24 (0, 0)) = V := ⟨_, rfl⟩
        rw [hW]
        obtain ⟨bx, hbx⟩ : ∃ n, V13.heap.size = n := ⟨_, rfl⟩
        rw [hbx]
        have hNEW : V14.heap[bx]? = some (.cells #[.int .u64 (w0 (0) : Nat), .int .u64 (w1 (0) : Nat), .int .u64 (w2 (0) : Nat), .int .u64 (w3 (0) : Nat)] 24 (0, 0)) := by rw [← hW, ← hbx]; exact heap_alloc_new _ _
        have lXA : w.heap.size < bx := by rw [← hbx]; exact lt_of_heap hA
        replace hA : V14.heap[w.heap.size]? = some (.cells #[.int .u64 (w0 (z) : Nat), .int .u64 (w1 (z) : Nat), .int .u64 (w2 (z) : Nat), .int .u64 (w3 (z) : Nat)] 24 (0, 0)) := by rw [← hW]; exact ak hA
        have lXQ : g < bx := by rw [← hbx]; exact lt_of_heap hQ
        replace hQ : V14.heap[g]? = some (.cells #[.int .u64 (w0 (p) : Nat), .int .u64 (w1 (p) : Nat), .int .u64 (w2 (p) : Nat), .int .u64 (w3 (p) : Nat), .int .u64 (finv1 (p) : Nat), .int .u64 (w0 (fsq (p)) : Nat), .int .u64 (w1 (fsq (p)) : Nat), .int .u64 (w2 (fsq (p)) : Nat), .int .u64 (w3 (fsq (p)) : Nat)] 90 (0, 0)) := by rw [← hW]; exact ak hQ
        have lXI : bi < bx := by rw [← hbx]; exact lt_of_heap hI
        replace hI : V14.heap[bi]? = some (.cells #[.int .u64 (w0 (invN z p) : Nat), .int .u64 (w1 (invN z p) : Nat), .int .u64 (w2 (invN z p) : Nat), .int .u64 (w3 (invN z p) : Nat)] 24 (0, 0)) := by rw [← hW]; exact ak hI
        have lXR : br < bx := by rw [← hbx]; exact lt_of_heap hR
        replace hR : V14.heap[br]? = some (.cells #[.int .u64 (w0 (rootN (mulm p z z) p) : Nat), .int .u64 (w1 (rootN (mulm p z z) p) : Nat), .int .u64 (w2 (rootN (mulm p z z) p) : Nat), .int .u64 (w3 (rootN (mulm p z z) p) : Nat)] 24 (0, 0)) := by rw [← hW]; exact ak hR
        have lX : w.heap.size ≤ bx := by rw [← hbx]; exact kk.size
        replace kk : Below w.heap.size w V14 := by rw [← hW]; exact bal kk _
        have hX := hNEW
        replace fF := IsF.of HF.out hQ
        clear hNEW hW hbx
        have q5 := eql_t (W4.mk' (show 0 < 2 ^ 256 by decide)) W4.zero rfl
        clear IS
        go_wp2_with fail
        refine (modulus_any _ fF).mono ?_
        rintro e V15 ⟨rfl, hb⟩
        replace hA := below_get hb (show _ = some (.cells #[.int .u64 (w0 (z) : Nat), .int .u64 (w1 (z) : Nat), .int .u64 (w2 (z) : Nat), .int .u64 (w3 (z) : Nat)] 24 (0, 0)) from hA)
        replace hQ := below_get hb (show _ = some (.cells #[.int .u64 (w0 (p) : Nat), .int .u64 (w1 (p) : Nat), .int .u64 (w2 (p) : Nat), .int .u64 (w3 (p) : Nat), .int .u64 (finv1 (p) : Nat), .int .u64 (w0 (fsq (p)) : Nat), .int .u64 (w1 (fsq (p)) : Nat), .int .u64 (w2 (fsq (p)) : Nat), .int .u64 (w3 (fsq (p)) : Nat)] 90 (0, 0)) from hQ)
        replace hI := below_get hb (show _ = some (.cells #[.int .u64 (w0 (invN z p) : Nat), .int .u64 (w1 (invN z p) : Nat), .int .u64 (w2 (invN z p) : Nat), .int .u64 (w3 (invN z p) : Nat)] 24 (0, 0)) from hI)
        replace hR := below_get hb (show _ = some (.cells #[.int .u64 (w0 (rootN (mulm p z z) p) : Nat), .int .u64 (w1 (rootN (mulm p z z) p) : Nat), .int .u64 (w2 (rootN (mulm p z z) p) : Nat), .int .u64 (w3 (rootN (mulm p z z) p) : Nat)] 24 (0, 0)) from hR)
        replace hX := below_get hb (show _ = some (.cells #[.int .u64 (w0 (0) : Nat), .int .u64 (w1 (0) : Nat), .int .u64 (w2 (0) : Nat), .int .u64 (w3 (0) : Nat)] 24 (0, 0)) from hX)
        replace kk := bcl (by first | exact kk | exact kk.drew | exact below_drewN kk _) hb
        replace fF := IsF.of HF.out hQ
        clear hb
        go_wp2_with fail
        refine (of_any _ _).mono ?_
        rintro e V16 ⟨rfl, hb⟩
        replace hA := below_get hb (show _ = some (.cells #[.int .u64 (w0 (z) : Nat), .int .u64 (w1 (z) : Nat), .int .u64 (w2 (z) : Nat), .int .u64 (w3 (z) : Nat)] 24 (0, 0)) from hA)
        replace hQ := below_get hb (show _ = some (.cells #[.int .u64 (w0 (p) : Nat), .int .u64 (w1 (p) : Nat), .int .u64 (w2 (p) : Nat), .int .u64 (w3 (p) : Nat), .int .u64 (finv1 (p) : Nat), .int .u64 (w0 (fsq (p)) : Nat), .int .u64 (w1 (fsq (p)) : Nat), .int .u64 (w2 (fsq (p)) : Nat), .int .u64 (w3 (fsq (p)) : Nat)] 90 (0, 0)) from hQ)
        replace hI := below_get hb (show _ = some (.cells #[.int .u64 (w0 (invN z p) : Nat), .int .u64 (w1 (invN z p) : Nat), .int .u64 (w2 (invN z p) : Nat), .int .u64 (w3 (invN z p) : Nat)] 24 (0, 0)) from hI)
        replace hR := below_get hb (show _ = some (.cells #[.int .u64 (w0 (rootN (mulm p z z) p) : Nat), .int .u64 (w1 (rootN (mulm p z z) p) : Nat), .int .u64 (w2 (rootN (mulm p z z) p) : Nat), .int .u64 (w3 (rootN (mulm p z z) p) : Nat)] 24 (0, 0)) from hR)
        replace hX := below_get hb (show _ = some (.cells #[.int .u64 (w0 (0) : Nat), .int .u64 (w1 (0) : Nat), .int .u64 (w2 (0) : Nat), .int .u64 (w3 (0) : Nat)] 24 (0, 0)) from hX)
        replace kk := bcl (by first | exact kk | exact kk.drew | exact below_drewN kk _) hb
        replace fF := IsF.of HF.out hQ
        clear hb
        go_wp2_with fail
        refine (sub_any (W4.mk' HM.out) (W4.small (n := 1) rfl (by decide)) _).mono ?_
        rintro e V17 ⟨rfl, hb⟩
        replace hA := below_get hb (show _ = some (.cells #[.int .u64 (w0 (z) : Nat), .int .u64 (w1 (z) : Nat), .int .u64 (w2 (z) : Nat), .int .u64 (w3 (z) : Nat)] 24 (0, 0)) from hA)
        replace hQ := below_get hb (show _ = some (.cells #[.int .u64 (w0 (p) : Nat), .int .u64 (w1 (p) : Nat), .int .u64 (w2 (p) : Nat), .int .u64 (w3 (p) : Nat), .int .u64 (finv1 (p) : Nat), .int .u64 (w0 (fsq (p)) : Nat), .int .u64 (w1 (fsq (p)) : Nat), .int .u64 (w2 (fsq (p)) : Nat), .int .u64 (w3 (fsq (p)) : Nat)] 90 (0, 0)) from hQ)
        replace hI := below_get hb (show _ = some (.cells #[.int .u64 (w0 (invN z p) : Nat), .int .u64 (w1 (invN z p) : Nat), .int .u64 (w2 (invN z p) : Nat), .int .u64 (w3 (invN z p) : Nat)] 24 (0, 0)) from hI)
        replace hR := below_get hb (show _ = some (.cells #[.int .u64 (w0 (rootN (mulm p z z) p) : Nat), .int .u64 (w1 (rootN (mulm p z z) p) : Nat), .int .u64 (w2 (rootN (mulm p z z) p) : Nat), .int .u64 (w3 (rootN (mulm p z z) p) : Nat)] 24 (0, 0)) from hR)
        replace hX := below_get hb (show _ = some (.cells #[.int .u64 (w0 (0) : Nat), .int .u64 (w1 (0) : Nat), .int .u64 (w2 (0) : Nat), .int .u64 (w3 (0) : Nat)] 24 (0, 0)) from hX)
        replace kk := bcl (by first | exact kk | exact kk.drew | exact below_drewN kk _) hb
        replace fF := IsF.of HF.out hQ
        clear hb
        rw [subm_two HM.out (show 1 ≤ p by omega)]
        go_upto_region 19 with fail
        obtain ⟨V18, hW⟩ : ∃ V, V17.alloc (.cells #[.int .u64 (w0 (p - 1) : Nat), .int .u64 (w1 (p - 1) : Nat), .int .u64 (w2 (p - 1) : Nat), .int .u64 (w3 (p - 1) : Nat)] 24 (0, 0)) = V := ⟨_, rfl⟩
        rw [hW]
        obtain ⟨by1, hbx⟩ : ∃ n, V17.heap.size = n := ⟨_, rfl⟩
        rw [hbx]
        have hNEW : V18.heap[by1]? = some (.cells #[.int .u64 (w0 (p - 1) : Nat), .int .u64 (w1 (p - 1) : Nat), .int .u64 (w2 (p - 1) : Nat), .int .u64 (w3 (p - 1) : Nat)] 24 (0, 0)) := by rw [← hW, ← hbx]; exact heap_alloc_new _ _
        have lYA : w.heap.size < by1 := by rw [← hbx]; exact lt_of_heap hA
        replace hA : V18.heap[w.heap.size]? = some (.cells #[.int .u64 (w0 (z) : Nat), .int .u64 (w1 (z) : Nat), .int .u64 (w2 (z) : Nat), .int .u64 (w3 (z) : Nat)] 24 (0, 0)) := by rw [← hW]; exact ak hA
        have lYQ : g < by1 := by rw [← hbx]; exact lt_of_heap hQ
        replace hQ : V18.heap[g]? = some (.cells #[.int .u64 (w0 (p) : Nat), .int .u64 (w1 (p) : Nat), .int .u64 (w2 (p) : Nat), .int .u64 (w3 (p) : Nat), .int .u64 (finv1 (p) : Nat), .int .u64 (w0 (fsq (p)) : Nat), .int .u64 (w1 (fsq (p)) : Nat), .int .u64 (w2 (fsq (p)) : Nat), .int .u64 (w3 (fsq (p)) : Nat)] 90 (0, 0)) := by rw [← hW]; exact ak hQ
        have lYI : bi < by1 := by rw [← hbx]; exact lt_of_heap hI
        replace hI : V18.heap[bi]? = some (.cells #[.int .u64 (w0 (invN z p) : Nat), .int .u64 (w1 (invN z p) : Nat), .int .u64 (w2 (invN z p) : Nat), .int .u64 (w3 (invN z p) : Nat)] 24 (0, 0)) := by rw [← hW]; exact ak hI
        have lYR : br < by1 := by rw [← hbx]; exact lt_of_heap hR
        replace hR : V18.heap[br]? = some (.cells #[.int .u64 (w0 (rootN (mulm p z z) p) : Nat), .int .u64 (w1 (rootN (mulm p z z) p) : Nat), .int .u64 (w2 (rootN (mulm p z z) p) : Nat), .int .u64 (w3 (rootN (mulm p z z) p) : Nat)] 24 (0, 0)) := by rw [← hW]; exact ak hR
        have lYX : bx < by1 := by rw [← hbx]; exact lt_of_heap hX
        replace hX : V18.heap[bx]? = some (.cells #[.int .u64 (w0 (0) : Nat), .int .u64 (w1 (0) : Nat), .int .u64 (w2 (0) : Nat), .int .u64 (w3 (0) : Nat)] 24 (0, 0)) := by rw [← hW]; exact ak hX
        have lY : w.heap.size ≤ by1 := by rw [← hbx]; exact kk.size
        replace kk : Below w.heap.size w V18 := by rw [← hW]; exact bal kk _
        have hY := hNEW
        replace fF := IsF.of HF.out hQ
        clear hNEW hW hbx
        have cA0 : World.cell? V18 ⟨w.heap.size, 0, none⟩ = some (.int .u64 (w0 (z) : Nat)) := by rw [cell_of_row _ _ _ _ _ _ hA]; rfl
        have cA1 : World.cell? V18 ⟨w.heap.size, 1, none⟩ = some (.int .u64 (w1 (z) : Nat)) := by rw [cell_of_row _ _ _ _ _ _ hA]; rfl
        have cA2 : World.cell? V18 ⟨w.heap.size, 2, none⟩ = some (.int .u64 (w2 (z) : Nat)) := by rw [cell_of_row _ _ _ _ _ _ hA]; rfl
        have cA3 : World.cell? V18 ⟨w.heap.size, 3, none⟩ = some (.int .u64 (w3 (z) : Nat)) := by rw [cell_of_row _ _ _ _ _ _ hA]; rfl
        have cY0 : World.cell? V18 ⟨by1, 0, none⟩ = some (.int .u64 (w0 (p - 1) : Nat)) := by rw [cell_of_row _ _ _ _ _ _ hY]; rfl
        have cY1 : World.cell? V18 ⟨by1, 1, none⟩ = some (.int .u64 (w1 (p - 1) : Nat)) := by rw [cell_of_row _ _ _ _ _ _ hY]; rfl
        have cY2 : World.cell? V18 ⟨by1, 2, none⟩ = some (.int .u64 (w2 (p - 1) : Nat)) := by rw [cell_of_row _ _ _ _ _ _ hY]; rfl
        have cY3 : World.cell? V18 ⟨by1, 3, none⟩ = some (.int .u64 (w3 (p - 1) : Nat)) := by rw [cell_of_row _ _ _ _ _ _ hY]; rfl
        go_region_held3 (fun w' => w'.cell? ⟨w.heap.size, 0, none⟩ = some (.int .u64 (w0 (z) : Nat)) ∧ w'.cell? ⟨w.heap.size, 1, none⟩ = some (.int .u64 (w1 (z) : Nat)) ∧ w'.cell? ⟨w.heap.size, 2, none⟩ = some (.int .u64 (w2 (z) : Nat)) ∧ w'.cell? ⟨w.heap.size, 3, none⟩ = some (.int .u64 (w3 (z) : Nat)) ∧ w'.cell? ⟨by1, 0, none⟩ = some (.int .u64 (w0 (p - 1) : Nat)) ∧ w'.cell? ⟨by1, 1, none⟩ = some (.int .u64 (w1 (p - 1) : Nat)) ∧ w'.cell? ⟨by1, 2, none⟩ = some (.int .u64 (w2 (p - 1) : Nat)) ∧ w'.cell? ⟨by1, 3, none⟩ = some (.int .u64 (w3 (p - 1) : Nat))) (first | (with_reducible exact ⟨cA0, cA1, cA2, cA3, cY0, cY1, cY2, cY3⟩) | go_keep) (first | (go_at_call 23; refine (right1_any (by first | exact W4.mk' hla.out | exact W4.mk' HM.out | exact W4.mk' HZl.out | exact W4.mk' HI.out | exact W4.mk' HRR.out | exact W4.mk' HXX.out | exact W4.mk' HH.out | exact W4.mk' HH2.out | exact W4.mk' (Nat.lt_trans (Nat.mod_lt _ hpos) HM.out) | exact W4.small (n := 1) rfl (by decide) | exact W4.small (n := 2) rfl (by decide) | exact W4.small (n := 3) rfl (by decide) | exact W4.small (n := 4) rfl (by decide) | exact W4.small (n := 5) rfl (by decide) | exact W4.small (n := 7) rfl (by decide)) _).mono ?_; rintro e W ⟨rfl, hb⟩; (replace hA := below_get hb (show _ = some (.cells #[.int .u64 (w0 (z) : Nat), .int .u64 (w1 (z) : Nat), .int .u64 (w2 (z) : Nat), .int .u64 (w3 (z) : Nat)] 24 (0, 0)) from by first | exact hA | exact ak hA)); (replace hQ := below_get hb (show _ = some (.cells #[.int .u64 (w0 (p) : Nat), .int .u64 (w1 (p) : Nat), .int .u64 (w2 (p) : Nat), .int .u64 (w3 (p) : Nat), .int .u64 (finv1 (p) : Nat), .int .u64 (w0 (fsq (p)) : Nat), .int .u64 (w1 (fsq (p)) : Nat), .int .u64 (w2 (fsq (p)) : Nat), .int .u64 (w3 (fsq (p)) : Nat)] 90 (0, 0)) from by first | exact hQ | exact ak hQ)); (replace hI := below_get hb (show _ = some (.cells #[.int .u64 (w0 (invN z p) : Nat), .int .u64 (w1 (invN z p) : Nat), .int .u64 (w2 (invN z p) : Nat), .int .u64 (w3 (invN z p) : Nat)] 24 (0, 0)) from by first | exact hI | exact ak hI)); (replace hR := below_get hb (show _ = some (.cells #[.int .u64 (w0 (rootN (mulm p z z) p) : Nat), .int .u64 (w1 (rootN (mulm p z z) p) : Nat), .int .u64 (w2 (rootN (mulm p z z) p) : Nat), .int .u64 (w3 (rootN (mulm p z z) p) : Nat)] 24 (0, 0)) from by first | exact hR | exact ak hR)); (replace hX := below_get hb (show _ = some (.cells #[.int .u64 (w0 (0) : Nat), .int .u64 (w1 (0) : Nat), .int .u64 (w2 (0) : Nat), .int .u64 (w3 (0) : Nat)] 24 (0, 0)) from by first | exact hX | exact ak hX)); (replace hY := below_get hb (show _ = some (.cells #[.int .u64 (w0 (p - 1) : Nat), .int .u64 (w1 (p - 1) : Nat), .int .u64 (w2 (p - 1) : Nat), .int .u64 (w3 (p - 1) : Nat)] 24 (0, 0)) from by first | exact hY | exact ak hY)); (replace kk := bcl (by first | exact kk | exact kk.drew | exact bal kk _ | exact (bal kk _).drew) hb); (replace fF := IsF.of HF.out hQ); (have cA0 : World.cell? W ⟨w.heap.size, 0, none⟩ = some (.int .u64 (w0 (z) : Nat)) := by rw [cell_of_row _ _ _ _ _ _ hA]; rfl); (have cA1 : World.cell? W ⟨w.heap.size, 1, none⟩ = some (.int .u64 (w1 (z) : Nat)) := by rw [cell_of_row _ _ _ _ _ _ hA]; rfl); (have cA2 : World.cell? W ⟨w.heap.size, 2, none⟩ = some (.int .u64 (w2 (z) : Nat)) := by rw [cell_of_row _ _ _ _ _ _ hA]; rfl); (have cA3 : World.cell? W ⟨w.heap.size, 3, none⟩ = some (.int .u64 (w3 (z) : Nat)) := by rw [cell_of_row _ _ _ _ _ _ hA]; rfl); (have cY0 : World.cell? W ⟨by1, 0, none⟩ = some (.int .u64 (w0 (p - 1) : Nat)) := by rw [cell_of_row _ _ _ _ _ _ hY]; rfl); (have cY1 : World.cell? W ⟨by1, 1, none⟩ = some (.int .u64 (w1 (p - 1) : Nat)) := by rw [cell_of_row _ _ _ _ _ _ hY]; rfl); (have cY2 : World.cell? W ⟨by1, 2, none⟩ = some (.int .u64 (w2 (p - 1) : Nat)) := by rw [cell_of_row _ _ _ _ _ _ hY]; rfl); (have cY3 : World.cell? W ⟨by1, 3, none⟩ = some (.int .u64 (w3 (p - 1) : Nat)) := by rw [cell_of_row _ _ _ _ _ _ hY]; rfl); clear hb) | (go_at_call 25; refine (powG_any (by first | exact W4.mk' hla.out | exact W4.mk' HM.out | exact W4.mk' HZl.out | exact W4.mk' HI.out | exact W4.mk' HRR.out | exact W4.mk' HXX.out | exact W4.mk' HH.out | exact W4.mk' HH2.out | exact W4.mk' (Nat.lt_trans (Nat.mod_lt _ hpos) HM.out) | exact W4.small (n := 1) rfl (by decide) | exact W4.small (n := 2) rfl (by decide) | exact W4.small (n := 3) rfl (by decide) | exact W4.small (n := 4) rfl (by decide) | exact W4.small (n := 5) rfl (by decide) | exact W4.small (n := 7) rfl (by decide)) (by first | exact W4.mk' hla.out | exact W4.mk' HM.out | exact W4.mk' HZl.out | exact W4.mk' HI.out | exact W4.mk' HRR.out | exact W4.mk' HXX.out | exact W4.mk' HH.out | exact W4.mk' HH2.out | exact W4.mk' (Nat.lt_trans (Nat.mod_lt _ hpos) HM.out) | exact W4.small (n := 1) rfl (by decide) | exact W4.small (n := 2) rfl (by decide) | exact W4.small (n := 3) rfl (by decide) | exact W4.small (n := 4) rfl (by decide) | exact W4.small (n := 5) rfl (by decide) | exact W4.small (n := 7) rfl (by decide)) _ (show IsF _ (g) (p) from (by first | exact fF | exact ⟨fF.blk, fF.odd, fF.three, fF.lt⟩))).mono ?_; rintro e W ⟨rfl, hb⟩; (replace hA := below_get hb (show _ = some (.cells #[.int .u64 (w0 (z) : Nat), .int .u64 (w1 (z) : Nat), .int .u64 (w2 (z) : Nat), .int .u64 (w3 (z) : Nat)] 24 (0, 0)) from by first | exact hA | exact ak hA)); (replace hQ := below_get hb (show _ = some (.cells #[.int .u64 (w0 (p) : Nat), .int .u64 (w1 (p) : Nat), .int .u64 (w2 (p) : Nat), .int .u64 (w3 (p) : Nat), .int .u64 (finv1 (p) : Nat), .int .u64 (w0 (fsq (p)) : Nat), .int .u64 (w1 (fsq (p)) : Nat), .int .u64 (w2 (fsq (p)) : Nat), .int .u64 (w3 (fsq (p)) : Nat)] 90 (0, 0)) from by first | exact hQ | exact ak hQ)); (replace hI := below_get hb (show _ = some (.cells #[.int .u64 (w0 (invN z p) : Nat), .int .u64 (w1 (invN z p) : Nat), .int .u64 (w2 (invN z p) : Nat), .int .u64 (w3 (invN z p) : Nat)] 24 (0, 0)) from by first | exact hI | exact ak hI)); (replace hR := below_get hb (show _ = some (.cells #[.int .u64 (w0 (rootN (mulm p z z) p) : Nat), .int .u64 (w1 (rootN (mulm p z z) p) : Nat), .int .u64 (w2 (rootN (mulm p z z) p) : Nat), .int .u64 (w3 (rootN (mulm p z z) p) : Nat)] 24 (0, 0)) from by first | exact hR | exact ak hR)); (replace hX := below_get hb (show _ = some (.cells #[.int .u64 (w0 (0) : Nat), .int .u64 (w1 (0) : Nat), .int .u64 (w2 (0) : Nat), .int .u64 (w3 (0) : Nat)] 24 (0, 0)) from by first | exact hX | exact ak hX)); (replace hY := below_get hb (show _ = some (.cells #[.int .u64 (w0 (p - 1) : Nat), .int .u64 (w1 (p - 1) : Nat), .int .u64 (w2 (p - 1) : Nat), .int .u64 (w3 (p - 1) : Nat)] 24 (0, 0)) from by first | exact hY | exact ak hY)); (replace kk := bcl (by first | exact kk | exact kk.drew | exact bal kk _ | exact (bal kk _).drew) hb); (replace fF := IsF.of HF.out hQ); (have cA0 : World.cell? W ⟨w.heap.size, 0, none⟩ = some (.int .u64 (w0 (z) : Nat)) := by rw [cell_of_row _ _ _ _ _ _ hA]; rfl); (have cA1 : World.cell? W ⟨w.heap.size, 1, none⟩ = some (.int .u64 (w1 (z) : Nat)) := by rw [cell_of_row _ _ _ _ _ _ hA]; rfl); (have cA2 : World.cell? W ⟨w.heap.size, 2, none⟩ = some (.int .u64 (w2 (z) : Nat)) := by rw [cell_of_row _ _ _ _ _ _ hA]; rfl); (have cA3 : World.cell? W ⟨w.heap.size, 3, none⟩ = some (.int .u64 (w3 (z) : Nat)) := by rw [cell_of_row _ _ _ _ _ _ hA]; rfl); (have cY0 : World.cell? W ⟨by1, 0, none⟩ = some (.int .u64 (w0 (p - 1) : Nat)) := by rw [cell_of_row _ _ _ _ _ _ hY]; rfl); (have cY1 : World.cell? W ⟨by1, 1, none⟩ = some (.int .u64 (w1 (p - 1) : Nat)) := by rw [cell_of_row _ _ _ _ _ _ hY]; rfl); (have cY2 : World.cell? W ⟨by1, 2, none⟩ = some (.int .u64 (w2 (p - 1) : Nat)) := by rw [cell_of_row _ _ _ _ _ _ hY]; rfl); (have cY3 : World.cell? W ⟨by1, 3, none⟩ = some (.int .u64 (w3 (p - 1) : Nat)) := by rw [cell_of_row _ _ _ _ _ _ hY]; rfl); clear hb) | (go_at_call 17; refine (of_any _ _).mono ?_; rintro e W ⟨rfl, hb⟩; (replace hA := below_get hb (show _ = some (.cells #[.int .u64 (w0 (z) : Nat), .int .u64 (w1 (z) : Nat), .int .u64 (w2 (z) : Nat), .int .u64 (w3 (z) : Nat)] 24 (0, 0)) from by first | exact hA | exact ak hA)); (replace hQ := below_get hb (show _ = some (.cells #[.int .u64 (w0 (p) : Nat), .int .u64 (w1 (p) : Nat), .int .u64 (w2 (p) : Nat), .int .u64 (w3 (p) : Nat), .int .u64 (finv1 (p) : Nat), .int .u64 (w0 (fsq (p)) : Nat), .int .u64 (w1 (fsq (p)) : Nat), .int .u64 (w2 (fsq (p)) : Nat), .int .u64 (w3 (fsq (p)) : Nat)] 90 (0, 0)) from by first | exact hQ | exact ak hQ)); (replace hI := below_get hb (show _ = some (.cells #[.int .u64 (w0 (invN z p) : Nat), .int .u64 (w1 (invN z p) : Nat), .int .u64 (w2 (invN z p) : Nat), .int .u64 (w3 (invN z p) : Nat)] 24 (0, 0)) from by first | exact hI | exact ak hI)); (replace hR := below_get hb (show _ = some (.cells #[.int .u64 (w0 (rootN (mulm p z z) p) : Nat), .int .u64 (w1 (rootN (mulm p z z) p) : Nat), .int .u64 (w2 (rootN (mulm p z z) p) : Nat), .int .u64 (w3 (rootN (mulm p z z) p) : Nat)] 24 (0, 0)) from by first | exact hR | exact ak hR)); (replace hX := below_get hb (show _ = some (.cells #[.int .u64 (w0 (0) : Nat), .int .u64 (w1 (0) : Nat), .int .u64 (w2 (0) : Nat), .int .u64 (w3 (0) : Nat)] 24 (0, 0)) from by first | exact hX | exact ak hX)); (replace hY := below_get hb (show _ = some (.cells #[.int .u64 (w0 (p - 1) : Nat), .int .u64 (w1 (p - 1) : Nat), .int .u64 (w2 (p - 1) : Nat), .int .u64 (w3 (p - 1) : Nat)] 24 (0, 0)) from by first | exact hY | exact ak hY)); (replace kk := bcl (by first | exact kk | exact kk.drew | exact bal kk _ | exact (bal kk _).drew) hb); (replace fF := IsF.of HF.out hQ); (have cA0 : World.cell? W ⟨w.heap.size, 0, none⟩ = some (.int .u64 (w0 (z) : Nat)) := by rw [cell_of_row _ _ _ _ _ _ hA]; rfl); (have cA1 : World.cell? W ⟨w.heap.size, 1, none⟩ = some (.int .u64 (w1 (z) : Nat)) := by rw [cell_of_row _ _ _ _ _ _ hA]; rfl); (have cA2 : World.cell? W ⟨w.heap.size, 2, none⟩ = some (.int .u64 (w2 (z) : Nat)) := by rw [cell_of_row _ _ _ _ _ _ hA]; rfl); (have cA3 : World.cell? W ⟨w.heap.size, 3, none⟩ = some (.int .u64 (w3 (z) : Nat)) := by rw [cell_of_row _ _ _ _ _ _ hA]; rfl); (have cY0 : World.cell? W ⟨by1, 0, none⟩ = some (.int .u64 (w0 (p - 1) : Nat)) := by rw [cell_of_row _ _ _ _ _ _ hY]; rfl); (have cY1 : World.cell? W ⟨by1, 1, none⟩ = some (.int .u64 (w1 (p - 1) : Nat)) := by rw [cell_of_row _ _ _ _ _ _ hY]; rfl); (have cY2 : World.cell? W ⟨by1, 2, none⟩ = some (.int .u64 (w2 (p - 1) : Nat)) := by rw [cell_of_row _ _ _ _ _ _ hY]; rfl); (have cY3 : World.cell? W ⟨by1, 3, none⟩ = some (.int .u64 (w3 (p - 1) : Nat)) := by rw [cell_of_row _ _ _ _ _ _ hY]; rfl); clear hb))
        go_simp
        skip
        skip
        go_upto_region 20 with fail
        try simp only [List.append]
        have cA0 : World.cell? W ⟨w.heap.size, 0, none⟩ = some (.int .u64 (w0 (z) : Nat)) := by rw [cell_of_row _ _ _ _ _ _ hA]; rfl
        have cA1 : World.cell? W ⟨w.heap.size, 1, none⟩ = some (.int .u64 (w1 (z) : Nat)) := by rw [cell_of_row _ _ _ _ _ _ hA]; rfl
        have cA2 : World.cell? W ⟨w.heap.size, 2, none⟩ = some (.int .u64 (w2 (z) : Nat)) := by rw [cell_of_row _ _ _ _ _ _ hA]; rfl
        have cA3 : World.cell? W ⟨w.heap.size, 3, none⟩ = some (.int .u64 (w3 (z) : Nat)) := by rw [cell_of_row _ _ _ _ _ _ hA]; rfl
        have cR0 : World.cell? W ⟨br, 0, none⟩ = some (.int .u64 (w0 (rootN (mulm p z z) p) : Nat)) := by rw [cell_of_row _ _ _ _ _ _ hR]; rfl
        have cR1 : World.cell? W ⟨br, 1, none⟩ = some (.int .u64 (w1 (rootN (mulm p z z) p) : Nat)) := by rw [cell_of_row _ _ _ _ _ _ hR]; rfl
        have cR2 : World.cell? W ⟨br, 2, none⟩ = some (.int .u64 (w2 (rootN (mulm p z z) p) : Nat)) := by rw [cell_of_row _ _ _ _ _ _ hR]; rfl
        have cR3 : World.cell? W ⟨br, 3, none⟩ = some (.int .u64 (w3 (rootN (mulm p z z) p) : Nat)) := by rw [cell_of_row _ _ _ _ _ _ hR]; rfl
        have cX0 : World.cell? W ⟨bx, 0, none⟩ = some (.int .u64 (w0 (0) : Nat)) := by rw [cell_of_row _ _ _ _ _ _ hX]; rfl
        have cX1 : World.cell? W ⟨bx, 1, none⟩ = some (.int .u64 (w1 (0) : Nat)) := by rw [cell_of_row _ _ _ _ _ _ hX]; rfl
        have cX2 : World.cell? W ⟨bx, 2, none⟩ = some (.int .u64 (w2 (0) : Nat)) := by rw [cell_of_row _ _ _ _ _ _ hX]; rfl
        have cX3 : World.cell? W ⟨bx, 3, none⟩ = some (.int .u64 (w3 (0) : Nat)) := by rw [cell_of_row _ _ _ _ _ _ hX]; rfl
        refine wp_region_held_drew (S := (fun w' => w'.cell? ⟨w.heap.size, 0, none⟩ = some (.int .u64 (w0 (z) : Nat)) ∧ w'.cell? ⟨w.heap.size, 1, none⟩ = some (.int .u64 (w1 (z) : Nat)) ∧ w'.cell? ⟨w.heap.size, 2, none⟩ = some (.int .u64 (w2 (z) : Nat)) ∧ w'.cell? ⟨w.heap.size, 3, none⟩ = some (.int .u64 (w3 (z) : Nat)) ∧ w'.cell? ⟨br, 0, none⟩ = some (.int .u64 (w0 (rootN (mulm p z z) p) : Nat)) ∧ w'.cell? ⟨br, 1, none⟩ = some (.int .u64 (w1 (rootN (mulm p z z) p) : Nat)) ∧ w'.cell? ⟨br, 2, none⟩ = some (.int .u64 (w2 (rootN (mulm p z z) p) : Nat)) ∧ w'.cell? ⟨br, 3, none⟩ = some (.int .u64 (w3 (rootN (mulm p z z) p) : Nat)) ∧ w'.cell? ⟨bx, 0, none⟩ = some (.int .u64 (w0 (0) : Nat)) ∧ w'.cell? ⟨bx, 1, none⟩ = some (.int .u64 (w1 (0) : Nat)) ∧ w'.cell? ⟨bx, 2, none⟩ = some (.int .u64 (w2 (0) : Nat)) ∧ w'.cell? ⟨bx, 3, none⟩ = some (.int .u64 (w3 (0) : Nat)))) (by kernel_rfl) (by (try dsimp only); first | (with_reducible exact ⟨cA0, cA1, cA2, cA3, cR0, cR1, cR2, cR3, cX0, cX1, cX2, cX3⟩) | exact ⟨cA0, cA1, cA2, cA3, cR0, cR1, cR2, cR3, cX0, cX1, cX2, cX3⟩ | go_keep) (fun hHeld => ?_)
        refine takeH (i := 0) (d := some 110) (v := ?_) _ rfl rfl (by rfl) (by kernel_rfl) (by kernel_rfl) (by kernel_rfl) (fun _ _ _ h => h) (by assumption) ?_ ?_
        rotate_left
        · (intro w' hSw; (try dsimp only at hSw); go_simp; try (with_reducible rfl))
        try simp only [Act.put, List.setIfInBounds_toArray, List.set_cons_zero, List.set_cons_succ]
        refine takeH (i := 1) (d := some 111) (v := ?_) _ rfl rfl (by rfl) (by kernel_rfl) (by kernel_rfl) (by kernel_rfl) (fun _ _ _ h => h) (by assumption) ?_ ?_
        rotate_left
        · (intro w' hSw; (try dsimp only at hSw); go_simp; try (with_reducible rfl))
        try simp only [Act.put, List.setIfInBounds_toArray, List.set_cons_zero, List.set_cons_succ]
        refine takeH (i := 2) (d := some 112) (v := ?_) _ rfl rfl (by rfl) (by kernel_rfl) (by kernel_rfl) (by kernel_rfl) (fun _ _ _ h => h) (by assumption) ?_ ?_
        rotate_left
        · (intro w' hSw; (try dsimp only at hSw); go_simp; try (with_reducible rfl))
        try simp only [Act.put, List.setIfInBounds_toArray, List.set_cons_zero, List.set_cons_succ]
        refine takeH (i := 3) (d := some 113) (v := ?_) _ rfl rfl (by rfl) (by kernel_rfl) (by kernel_rfl) (by kernel_rfl) (fun _ _ _ h => h) (by assumption) ?_ ?_
        rotate_left
        · (intro w' hSw; (try dsimp only at hSw); go_simp; try (with_reducible rfl))
        try simp only [Act.put, List.setIfInBounds_toArray, List.set_cons_zero, List.set_cons_succ]
        refine takeH (i := 4) (d := some 114) (v := ?_) _ rfl rfl (by rfl) (by kernel_rfl) (by kernel_rfl) (by kernel_rfl) (fun _ _ _ h => h) (by assumption) ?_ ?_
        rotate_left
        · (intro w' hSw; (try dsimp only at hSw); go_simp; try (with_reducible rfl))
        try simp only [Act.put, List.setIfInBounds_toArray, List.set_cons_zero, List.set_cons_succ]
        refine takeH (i := 6) (d := some 116) (v := ?_) _ rfl rfl (by rfl) (by kernel_rfl) (by kernel_rfl) (by kernel_rfl) (fun _ _ _ h => h) (by assumption) ?_ ?_
        rotate_left
        · (intro w' hSw; (try dsimp only at hSw); go_simp; try (with_reducible rfl))
        try simp only [Act.put, List.setIfInBounds_toArray, List.set_cons_zero, List.set_cons_succ]
        refine takeH (i := 7) (d := some 117) (v := ?_) _ rfl rfl (by rfl) (by kernel_rfl) (by kernel_rfl) (by kernel_rfl) (fun _ _ _ h => h) (by assumption) ?_ ?_
        rotate_left
        · (intro w' hSw; (try dsimp only at hSw); go_simp; try (with_reducible rfl))
        try simp only [Act.put, List.setIfInBounds_toArray, List.set_cons_zero, List.set_cons_succ]
        refine takeH (i := 8) (d := some 118) (v := ?_) _ rfl rfl (by rfl) (by kernel_rfl) (by kernel_rfl) (by kernel_rfl) (fun _ _ _ h => h) (by assumption) ?_ ?_
        rotate_left
        · (intro w' hSw; (try dsimp only at hSw); go_simp; try (with_reducible rfl))
        try simp only [Act.put, List.setIfInBounds_toArray, List.set_cons_zero, List.set_cons_succ]
        refine callH (i := 5) _ rfl (by rfl) (by kernel_rfl) (fun K hK => ?_)
        go_simp
        first | (go_at_call 26; refine (mulG_any (by first | exact W4.mk' hla.out | exact W4.mk' HM.out | exact W4.mk' HZl.out | exact W4.mk' HI.out | exact W4.mk' HRR.out | exact W4.mk' HXX.out | exact W4.mk' HH.out | exact W4.mk' HH2.out | exact W4.mk' (Nat.lt_trans (Nat.mod_lt _ hpos) HM.out) | exact W4.small (n := 1) rfl (by decide) | exact W4.small (n := 2) rfl (by decide) | exact W4.small (n := 3) rfl (by decide) | exact W4.small (n := 4) rfl (by decide) | exact W4.small (n := 5) rfl (by decide) | exact W4.small (n := 7) rfl (by decide)) (by first | exact W4.mk' hla.out | exact W4.mk' HM.out | exact W4.mk' HZl.out | exact W4.mk' HI.out | exact W4.mk' HRR.out | exact W4.mk' HXX.out | exact W4.mk' HH.out | exact W4.mk' HH2.out | exact W4.mk' (Nat.lt_trans (Nat.mod_lt _ hpos) HM.out) | exact W4.small (n := 1) rfl (by decide) | exact W4.small (n := 2) rfl (by decide) | exact W4.small (n := 3) rfl (by decide) | exact W4.small (n := 4) rfl (by decide) | exact W4.small (n := 5) rfl (by decide) | exact W4.small (n := 7) rfl (by decide)) _ (show IsF _ (g) (p) from (by first | exact fF | exact ⟨fF.blk, fF.odd, fF.three, fF.lt⟩))).mono ?_; rintro e W ⟨rfl, hb⟩; (replace hA := below_get hb (show _ = some (.cells #[.int .u64 (w0 (z) : Nat), .int .u64 (w1 (z) : Nat), .int .u64 (w2 (z) : Nat), .int .u64 (w3 (z) : Nat)] 24 (0, 0)) from by first | exact hA | exact ak hA)); (replace hI := below_get hb (show _ = some (.cells #[.int .u64 (w0 (invN z p) : Nat), .int .u64 (w1 (invN z p) : Nat), .int .u64 (w2 (invN z p) : Nat), .int .u64 (w3 (invN z p) : Nat)] 24 (0, 0)) from by first | exact hI | exact ak hI)); (replace hR := below_get hb (show _ = some (.cells #[.int .u64 (w0 (rootN (mulm p z z) p) : Nat), .int .u64 (w1 (rootN (mulm p z z) p) : Nat), .int .u64 (w2 (rootN (mulm p z z) p) : Nat), .int .u64 (w3 (rootN (mulm p z z) p) : Nat)] 24 (0, 0)) from by first | exact hR | exact ak hR)); (replace hX := below_get hb (show _ = some (.cells #[.int .u64 (w0 (0) : Nat), .int .u64 (w1 (0) : Nat), .int .u64 (w2 (0) : Nat), .int .u64 (w3 (0) : Nat)] 24 (0, 0)) from by first | exact hX | exact ak hX)); (replace hQ := below_get hb (show _ = some (.cells #[.int .u64 (w0 (p) : Nat), .int .u64 (w1 (p) : Nat), .int .u64 (w2 (p) : Nat), .int .u64 (w3 (p) : Nat), .int .u64 (finv1 (p) : Nat), .int .u64 (w0 (fsq (p)) : Nat), .int .u64 (w1 (fsq (p)) : Nat), .int .u64 (w2 (fsq (p)) : Nat), .int .u64 (w3 (fsq (p)) : Nat)] 90 (0, 0)) from by first | exact hQ | exact ak hQ)); (replace kk := bcl (by first | exact kk | exact kk.drew | exact bal kk _ | exact (bal kk _).drew) hb); (replace fF := IsF.of HF.out hQ); (have cA0 : World.cell? W ⟨w.heap.size, 0, none⟩ = some (.int .u64 (w0 (z) : Nat)) := by rw [cell_of_row _ _ _ _ _ _ hA]; rfl); (have cA1 : World.cell? W ⟨w.heap.size, 1, none⟩ = some (.int .u64 (w1 (z) : Nat)) := by rw [cell_of_row _ _ _ _ _ _ hA]; rfl); (have cA2 : World.cell? W ⟨w.heap.size, 2, none⟩ = some (.int .u64 (w2 (z) : Nat)) := by rw [cell_of_row _ _ _ _ _ _ hA]; rfl); (have cA3 : World.cell? W ⟨w.heap.size, 3, none⟩ = some (.int .u64 (w3 (z) : Nat)) := by rw [cell_of_row _ _ _ _ _ _ hA]; rfl); (have cR0 : World.cell? W ⟨br, 0, none⟩ = some (.int .u64 (w0 (rootN (mulm p z z) p) : Nat)) := by rw [cell_of_row _ _ _ _ _ _ hR]; rfl); (have cR1 : World.cell? W ⟨br, 1, none⟩ = some (.int .u64 (w1 (rootN (mulm p z z) p) : Nat)) := by rw [cell_of_row _ _ _ _ _ _ hR]; rfl); (have cR2 : World.cell? W ⟨br, 2, none⟩ = some (.int .u64 (w2 (rootN (mulm p z z) p) : Nat)) := by rw [cell_of_row _ _ _ _ _ _ hR]; rfl); (have cR3 : World.cell? W ⟨br, 3, none⟩ = some (.int .u64 (w3 (rootN (mulm p z z) p) : Nat)) := by rw [cell_of_row _ _ _ _ _ _ hR]; rfl); (have cX0 : World.cell? W ⟨bx, 0, none⟩ = some (.int .u64 (w0 (0) : Nat)) := by rw [cell_of_row _ _ _ _ _ _ hX]; rfl); (have cX1 : World.cell? W ⟨bx, 1, none⟩ = some (.int .u64 (w1 (0) : Nat)) := by rw [cell_of_row _ _ _ _ _ _ hX]; rfl); (have cX2 : World.cell? W ⟨bx, 2, none⟩ = some (.int .u64 (w2 (0) : Nat)) := by rw [cell_of_row _ _ _ _ _ _ hX]; rfl); (have cX3 : World.cell? W ⟨bx, 3, none⟩ = some (.int .u64 (w3 (0) : Nat)) := by rw [cell_of_row _ _ _ _ _ _ hX]; rfl); clear hb)
        try go_wp2_with fail
        refine hK.out _ _ (by (try dsimp only); first | (with_reducible exact ⟨cA0, cA1, cA2, cA3, cR0, cR1, cR2, cR3, cX0, cX1, cX2, cX3⟩) | exact ⟨cA0, cA1, cA2, cA3, cR0, cR1, cR2, cR3, cX0, cX1, cX2, cX3⟩ | go_keep) (fun hHeld => ?_)
        clear hK K
        try simp only [Act.put, List.setIfInBounds_toArray, List.set_cons_zero, List.set_cons_succ]
        refine callH (i := 9) _ rfl (by rfl) (by kernel_rfl) (fun K hK => ?_)
        go_simp
        first | (go_at_call 26; refine (mulG_any (by first | exact W4.mk' hla.out | exact W4.mk' HM.out | exact W4.mk' HZl.out | exact W4.mk' HI.out | exact W4.mk' HRR.out | exact W4.mk' HXX.out | exact W4.mk' HH.out | exact W4.mk' HH2.out | exact W4.mk' (Nat.lt_trans (Nat.mod_lt _ hpos) HM.out) | exact W4.small (n := 1) rfl (by decide) | exact W4.small (n := 2) rfl (by decide) | exact W4.small (n := 3) rfl (by decide) | exact W4.small (n := 4) rfl (by decide) | exact W4.small (n := 5) rfl (by decide) | exact W4.small (n := 7) rfl (by decide)) (by first | exact W4.mk' hla.out | exact W4.mk' HM.out | exact W4.mk' HZl.out | exact W4.mk' HI.out | exact W4.mk' HRR.out | exact W4.mk' HXX.out | exact W4.mk' HH.out | exact W4.mk' HH2.out | exact W4.mk' (Nat.lt_trans (Nat.mod_lt _ hpos) HM.out) | exact W4.small (n := 1) rfl (by decide) | exact W4.small (n := 2) rfl (by decide) | exact W4.small (n := 3) rfl (by decide) | exact W4.small (n := 4) rfl (by decide) | exact W4.small (n := 5) rfl (by decide) | exact W4.small (n := 7) rfl (by decide)) _ (show IsF _ (g) (p) from (by first | exact fF | exact ⟨fF.blk, fF.odd, fF.three, fF.lt⟩))).mono ?_; rintro e W ⟨rfl, hb⟩; (replace hA := below_get hb (show _ = some (.cells #[.int .u64 (w0 (z) : Nat), .int .u64 (w1 (z) : Nat), .int .u64 (w2 (z) : Nat), .int .u64 (w3 (z) : Nat)] 24 (0, 0)) from by first | exact hA | exact ak hA)); (replace hI := below_get hb (show _ = some (.cells #[.int .u64 (w0 (invN z p) : Nat), .int .u64 (w1 (invN z p) : Nat), .int .u64 (w2 (invN z p) : Nat), .int .u64 (w3 (invN z p) : Nat)] 24 (0, 0)) from by first | exact hI | exact ak hI)); (replace hR := below_get hb (show _ = some (.cells #[.int .u64 (w0 (rootN (mulm p z z) p) : Nat), .int .u64 (w1 (rootN (mulm p z z) p) : Nat), .int .u64 (w2 (rootN (mulm p z z) p) : Nat), .int .u64 (w3 (rootN (mulm p z z) p) : Nat)] 24 (0, 0)) from by first | exact hR | exact ak hR)); (replace hX := below_get hb (show _ = some (.cells #[.int .u64 (w0 (0) : Nat), .int .u64 (w1 (0) : Nat), .int .u64 (w2 (0) : Nat), .int .u64 (w3 (0) : Nat)] 24 (0, 0)) from by first | exact hX | exact ak hX)); (replace hQ := below_get hb (show _ = some (.cells #[.int .u64 (w0 (p) : Nat), .int .u64 (w1 (p) : Nat), .int .u64 (w2 (p) : Nat), .int .u64 (w3 (p) : Nat), .int .u64 (finv1 (p) : Nat), .int .u64 (w0 (fsq (p)) : Nat), .int .u64 (w1 (fsq (p)) : Nat), .int .u64 (w2 (fsq (p)) : Nat), .int .u64 (w3 (fsq (p)) : Nat)] 90 (0, 0)) from by first | exact hQ | exact ak hQ)); (replace kk := bcl (by first | exact kk | exact kk.drew | exact bal kk _ | exact (bal kk _).drew) hb); (replace fF := IsF.of HF.out hQ); (have cA0 : World.cell? W ⟨w.heap.size, 0, none⟩ = some (.int .u64 (w0 (z) : Nat)) := by rw [cell_of_row _ _ _ _ _ _ hA]; rfl); (have cA1 : World.cell? W ⟨w.heap.size, 1, none⟩ = some (.int .u64 (w1 (z) : Nat)) := by rw [cell_of_row _ _ _ _ _ _ hA]; rfl); (have cA2 : World.cell? W ⟨w.heap.size, 2, none⟩ = some (.int .u64 (w2 (z) : Nat)) := by rw [cell_of_row _ _ _ _ _ _ hA]; rfl); (have cA3 : World.cell? W ⟨w.heap.size, 3, none⟩ = some (.int .u64 (w3 (z) : Nat)) := by rw [cell_of_row _ _ _ _ _ _ hA]; rfl); (have cR0 : World.cell? W ⟨br, 0, none⟩ = some (.int .u64 (w0 (rootN (mulm p z z) p) : Nat)) := by rw [cell_of_row _ _ _ _ _ _ hR]; rfl); (have cR1 : World.cell? W ⟨br, 1, none⟩ = some (.int .u64 (w1 (rootN (mulm p z z) p) : Nat)) := by rw [cell_of_row _ _ _ _ _ _ hR]; rfl); (have cR2 : World.cell? W ⟨br, 2, none⟩ = some (.int .u64 (w2 (rootN (mulm p z z) p) : Nat)) := by rw [cell_of_row _ _ _ _ _ _ hR]; rfl); (have cR3 : World.cell? W ⟨br, 3, none⟩ = some (.int .u64 (w3 (rootN (mulm p z z) p) : Nat)) := by rw [cell_of_row _ _ _ _ _ _ hR]; rfl); (have cX0 : World.cell? W ⟨bx, 0, none⟩ = some (.int .u64 (w0 (0) : Nat)) := by rw [cell_of_row _ _ _ _ _ _ hX]; rfl); (have cX1 : World.cell? W ⟨bx, 1, none⟩ = some (.int .u64 (w1 (0) : Nat)) := by rw [cell_of_row _ _ _ _ _ _ hX]; rfl); (have cX2 : World.cell? W ⟨bx, 2, none⟩ = some (.int .u64 (w2 (0) : Nat)) := by rw [cell_of_row _ _ _ _ _ _ hX]; rfl); (have cX3 : World.cell? W ⟨bx, 3, none⟩ = some (.int .u64 (w3 (0) : Nat)) := by rw [cell_of_row _ _ _ _ _ _ hX]; rfl); clear hb)
        try go_wp2_with fail
        refine hK.out _ _ (by (try dsimp only); first | (with_reducible exact ⟨cA0, cA1, cA2, cA3, cR0, cR1, cR2, cR3, cX0, cX1, cX2, cX3⟩) | exact ⟨cA0, cA1, cA2, cA3, cR0, cR1, cR2, cR3, cX0, cX1, cX2, cX3⟩ | go_keep) (fun hHeld => ?_)
        clear hK K
        try simp only [Act.put, List.setIfInBounds_toArray, List.set_cons_zero, List.set_cons_succ]
        refine takeH (i := 10) (d := some 120) (v := ?_) _ rfl rfl (by rfl) (by kernel_rfl) (by kernel_rfl) (by kernel_rfl) (fun _ _ _ h => h) (by assumption) ?_ ?_
        rotate_left
        · (intro w' hSw; (try dsimp only at hSw); go_simp; try (with_reducible rfl))
        try simp only [Act.put, List.setIfInBounds_toArray, List.set_cons_zero, List.set_cons_succ]
        refine takeH (i := 11) (d := some 121) (v := ?_) _ rfl rfl (by rfl) (by kernel_rfl) (by kernel_rfl) (by kernel_rfl) (fun _ _ _ h => h) (by assumption) ?_ ?_
        rotate_left
        · (intro w' hSw; (try dsimp only at hSw); go_simp; try (with_reducible rfl))
        try simp only [Act.put, List.setIfInBounds_toArray, List.set_cons_zero, List.set_cons_succ]
        refine takeH (i := 12) (d := some 122) (v := ?_) _ rfl rfl (by rfl) (by kernel_rfl) (by kernel_rfl) (by kernel_rfl) (fun _ _ _ h => h) (by assumption) ?_ ?_
        rotate_left
        · (intro w' hSw; (try dsimp only at hSw); go_simp; try (with_reducible rfl))
        try simp only [Act.put, List.setIfInBounds_toArray, List.set_cons_zero, List.set_cons_succ]
        refine takeH (i := 13) (d := some 123) (v := ?_) _ rfl rfl (by rfl) (by kernel_rfl) (by kernel_rfl) (by kernel_rfl) (fun _ _ _ h => h) (by assumption) ?_ ?_
        rotate_left
        · (intro w' hSw; (try dsimp only at hSw); go_simp; try (with_reducible rfl))
        try simp only [Act.put, List.setIfInBounds_toArray, List.set_cons_zero, List.set_cons_succ]
        refine takeH (i := 14) (d := some 124) (v := ?_) _ rfl rfl (by rfl) (by kernel_rfl) (by kernel_rfl) (by kernel_rfl) (fun _ _ _ h => h) (by assumption) ?_ ?_
        rotate_left
        · (intro w' hSw; (try dsimp only at hSw); go_simp; try (with_reducible rfl))
        try simp only [Act.put, List.setIfInBounds_toArray, List.set_cons_zero, List.set_cons_succ]
        refine takeH (i := 15) (d := some 125) (v := ?_) _ rfl rfl (by rfl) (by kernel_rfl) (by kernel_rfl) (by kernel_rfl) (fun _ _ _ h => h) (by assumption) ?_ ?_
        rotate_left
        · (intro w' hSw; (try dsimp only at hSw); go_simp; try (with_reducible rfl))
        try simp only [Act.put, List.setIfInBounds_toArray, List.set_cons_zero, List.set_cons_succ]
        refine takeH (i := 16) (d := some 126) (v := ?_) _ rfl rfl (by rfl) (by kernel_rfl) (by kernel_rfl) (by kernel_rfl) (fun _ _ _ h => h) (by assumption) ?_ ?_
        rotate_left
        · (intro w' hSw; (try dsimp only at hSw); go_simp; try (with_reducible rfl))
        try simp only [Act.put, List.setIfInBounds_toArray, List.set_cons_zero, List.set_cons_succ]
        refine takeH (i := 17) (d := some 127) (v := ?_) _ rfl rfl (by rfl) (by kernel_rfl) (by kernel_rfl) (by kernel_rfl) (fun _ _ _ h => h) (by assumption) ?_ ?_
        rotate_left
        · (intro w' hSw; (try dsimp only at hSw); go_simp; try (with_reducible rfl))
        try simp only [Act.put, List.setIfInBounds_toArray, List.set_cons_zero, List.set_cons_succ]
        refine takeH (i := 18) (d := some 128) (v := ?_) _ rfl rfl (by rfl) (by kernel_rfl) (by kernel_rfl) (by kernel_rfl) (fun _ _ _ h => h) (by assumption) ?_ ?_
        rotate_left
        · (intro w' hSw; (try dsimp only at hSw); go_simp; try (with_reducible rfl))
        try simp only [Act.put, List.setIfInBounds_toArray, List.set_cons_zero, List.set_cons_succ]
        refine takeH (i := 19) (d := some 129) (v := ?_) _ rfl rfl (by rfl) (by kernel_rfl) (by kernel_rfl) (by kernel_rfl) (fun _ _ _ h => h) (by assumption) ?_ ?_
        rotate_left
        · (intro w' hSw; (try dsimp only at hSw); go_simp; try (with_reducible rfl))
        try simp only [Act.put, List.setIfInBounds_toArray, List.set_cons_zero, List.set_cons_succ]
        refine takeH (i := 20) (d := some 130) (v := ?_) _ rfl rfl (by rfl) (by kernel_rfl) (by kernel_rfl) (by kernel_rfl) (fun _ _ _ h => h) (by assumption) ?_ ?_
        rotate_left
        · (intro w' hSw; (try dsimp only at hSw); go_simp; try (with_reducible rfl))
        try simp only [Act.put, List.setIfInBounds_toArray, List.set_cons_zero, List.set_cons_succ]
        refine takeH (i := 21) (d := some 131) (v := ?_) _ rfl rfl (by rfl) (by kernel_rfl) (by kernel_rfl) (by kernel_rfl) (fun _ _ _ h => h) (by assumption) ?_ ?_
        rotate_left
        · (intro w' hSw; (try dsimp only at hSw); go_simp; try (with_reducible rfl))
        try simp only [Act.put, List.setIfInBounds_toArray, List.set_cons_zero, List.set_cons_succ]
        refine takeH (i := 22) (d := some 132) (v := ?_) _ rfl rfl (by rfl) (by kernel_rfl) (by kernel_rfl) (by kernel_rfl) (fun _ _ _ h => h) (by assumption) ?_ ?_
        rotate_left
        · (intro w' hSw; (try dsimp only at hSw); go_simp; try (with_reducible rfl))
        try simp only [Act.put, List.setIfInBounds_toArray, List.set_cons_zero, List.set_cons_succ]
        refine takeH (i := 23) (d := some 133) (v := ?_) _ rfl rfl (by rfl) (by kernel_rfl) (by kernel_rfl) (by kernel_rfl) (fun _ _ _ h => h) (by assumption) ?_ ?_
        rotate_left
        · (intro w' hSw; (try dsimp only at hSw); go_simp; try (with_reducible rfl))
        try simp only [Act.put, List.setIfInBounds_toArray, List.set_cons_zero, List.set_cons_succ]
        refine takeH (i := 24) (d := some 134) (v := ?_) _ rfl rfl (by rfl) (by kernel_rfl) (by kernel_rfl) (by kernel_rfl) (fun _ _ _ h => h) (by assumption) ?_ ?_
        rotate_left
        · (intro w' hSw; (try dsimp only at hSw); go_simp; try (with_reducible rfl))
        try simp only [Act.put, List.setIfInBounds_toArray, List.set_cons_zero, List.set_cons_succ]
        refine takeH (i := 25) (d := some 135) (v := ?_) _ rfl rfl (by rfl) (by kernel_rfl) (by kernel_rfl) (by kernel_rfl) (fun _ _ _ h => h) (by assumption) ?_ ?_
        rotate_left
        · (intro w' hSw; (try dsimp only at hSw); go_simp; try (with_reducible rfl))
        try simp only [Act.put, List.setIfInBounds_toArray, List.set_cons_zero, List.set_cons_succ]
        refine skipH (i := 26) (d := some 136) ⟨_, rfl, rfl, by rfl⟩ (by kernel_rfl) (by kernel_rfl) (by kernel_rfl) (fun _ _ _ h => h) (by assumption) ?_
        try simp only [Act.put, List.setIfInBounds_toArray, List.set_cons_zero, List.set_cons_succ]
        refine skipH (i := 27) (d := some 137) ⟨_, rfl, rfl, by rfl⟩ (by kernel_rfl) (by kernel_rfl) (by kernel_rfl) (fun _ _ _ h => h) (by assumption) ?_
        try simp only [Act.put, List.setIfInBounds_toArray, List.set_cons_zero, List.set_cons_succ]
        refine skipH (i := 28) (d := some 138) ⟨_, rfl, rfl, by rfl⟩ (by kernel_rfl) (by kernel_rfl) (by kernel_rfl) (fun _ _ _ h => h) (by assumption) ?_
        try simp only [Act.put, List.setIfInBounds_toArray, List.set_cons_zero, List.set_cons_succ]
        refine skipH (i := 29) (d := some 139) ⟨_, rfl, rfl, by rfl⟩ (by kernel_rfl) (by kernel_rfl) (by kernel_rfl) (fun _ _ _ h => h) (by assumption) ?_
        try simp only [Act.put, List.setIfInBounds_toArray, List.set_cons_zero, List.set_cons_succ]
        refine skipH (i := 30) (d := some 140) ⟨_, rfl, rfl, by rfl⟩ (by kernel_rfl) (by kernel_rfl) (by kernel_rfl) (fun _ _ _ h => h) (by assumption) ?_
        try simp only [Act.put, List.setIfInBounds_toArray, List.set_cons_zero, List.set_cons_succ]
        refine skipH (i := 31) (d := some 141) ⟨_, rfl, rfl, by rfl⟩ (by kernel_rfl) (by kernel_rfl) (by kernel_rfl) (fun _ _ _ h => h) (by assumption) ?_
        try simp only [Act.put, List.setIfInBounds_toArray, List.set_cons_zero, List.set_cons_succ]
        refine skipH (i := 32) (d := some 142) ⟨_, rfl, rfl, by rfl⟩ (by kernel_rfl) (by kernel_rfl) (by kernel_rfl) (fun _ _ _ h => h) (by assumption) ?_
        try simp only [Act.put, List.setIfInBounds_toArray, List.set_cons_zero, List.set_cons_succ]
        refine skipH (i := 33) (d := some 143) ⟨_, rfl, rfl, by rfl⟩ (by kernel_rfl) (by kernel_rfl) (by kernel_rfl) (fun _ _ _ h => h) (by assumption) ?_
        try simp only [Act.put, List.setIfInBounds_toArray, List.set_cons_zero, List.set_cons_succ]
        refine skipH (i := 34) (d := some 144) ⟨_, rfl, rfl, by rfl⟩ (by kernel_rfl) (by kernel_rfl) (by kernel_rfl) (fun _ _ _ h => h) (by assumption) ?_
        try simp only [Act.put, List.setIfInBounds_toArray, List.set_cons_zero, List.set_cons_succ]
        refine takeH (i := 35) (d := some 145) (v := ?_) _ rfl rfl (by rfl) (by kernel_rfl) (by kernel_rfl) (by kernel_rfl) (fun _ _ _ h => h) (by assumption) ?_ ?_
        rotate_left
        · (intro w' hSw; (try dsimp only at hSw); go_simp; try (with_reducible rfl))
        try simp only [Act.put, List.setIfInBounds_toArray, List.set_cons_zero, List.set_cons_succ]
        refine takeH (i := 36) (d := some 146) (v := ?_) _ rfl rfl (by rfl) (by kernel_rfl) (by kernel_rfl) (by kernel_rfl) (fun _ _ _ h => h) (by assumption) ?_ ?_
        rotate_left
        · (intro w' hSw; (try dsimp only at hSw); go_simp; try (with_reducible rfl))
        try simp only [Act.put, List.setIfInBounds_toArray, List.set_cons_zero, List.set_cons_succ]
        refine takeH (i := 37) (d := some 4) (v := ?_) _ rfl rfl (by rfl) (by kernel_rfl) (by kernel_rfl) (by kernel_rfl) (fun _ _ _ h => h) (by assumption) ?_ ?_
        rotate_left
        · (intro w' hSw; (try dsimp only at hSw); go_simp; try (with_reducible rfl))
        try simp only [Act.put, List.setIfInBounds_toArray, List.set_cons_zero, List.set_cons_succ]
        refine wpAnyH_done (by kernel_rfl) ?_ _
        go_simp
        go_wp2_with fail
        refine bodyPost_ret (v := _) (by simp [results, Try.results4, go_sem]; rfl) rfl ?_
        exact ⟨rfl, kk⟩
end Go.Proofs.Ytgghopmlcpcpkaa
