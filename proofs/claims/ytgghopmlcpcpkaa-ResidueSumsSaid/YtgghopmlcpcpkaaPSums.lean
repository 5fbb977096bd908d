/- Sums, differences and products modulo any odd number of at least 3 are the document's, other moduli are refused; without conditions. -/
import Derived.Test.YtgghopmlcpcpkaaNumM
import Derived.Test.YtgghopmlcpcpkaaInvM
import Derived.Test.YtgghopmlcpcpkaaLivesM
import Derived.Test.YtgghopmlcpcpkaaFrame
namespace Go.Proofs.Ytgghopmlcpcpkaa.PResiduePowers
open Go.RowKit PlainK Go.Proofs.YtgghopmlcpcpkaaW.PrintWords Go.Proofs.YtgghopmlcpcpkaaW.PrintLast Go.Proofs.YtgghopmlcpcpkaaW.PrintMore
set_option linter.unusedVariables false
set_option linter.unusedSimpArgs false
theorem low2 (m : Nat) : w0 m % 2 = m % 2 := by unfold w0; omega
theorem pow256_big : (2 : Nat) ^ 256 ≤ 2 ^ bigK := Nat.pow_le_pow_right (by decide) (by decide)
theorem prod_big {x y k : Nat} (hk : k + k ≤ bigK) (hx : x < 2 ^ k) (hy : y < 2 ^ k) : x * y < 2 ^ bigK := by
  have h : x * y < 2 ^ k * 2 ^ k := Nat.mul_lt_mul'' hx hy
  rw [← Nat.pow_add] at h
  exact Nat.lt_of_lt_of_le h (Nat.pow_le_pow_right (by decide) hk)
theorem sum_big {x y k : Nat} (hk : k + 1 ≤ bigK) (hx : x < 2 ^ k) (hy : y < 2 ^ k) : x + y < 2 ^ bigK := by
  have h : x + y < 2 ^ (k + 1) := by rw [Nat.pow_succ]; omega
  exact Nat.lt_of_lt_of_le h (Nat.pow_le_pow_right (by decide) hk)
theorem one_big {x : Nat} (hx : x < 2 ^ 256) : x < 2 ^ bigK := Nat.lt_of_lt_of_le hx pow256_big
theorem subf_less {m a b : Nat} (hpos : 0 < m) : (a % m + m - b % m) % m = subf m a b := by
  have := Nat.mod_lt b hpos
  unfold subf; congr 1; omega
set_option maxRecDepth 10000 in
set_option maxHeartbeats 8000000 in
theorem sums_any {d0 d1 d2 d3 a0 a1 a2 a3 b0 b1 b2 b3 : Int} {m a b : Nat} (hm : W4 d0 d1 d2 d3 m) (ha : W4 a0 a1 a2 a3 a) (hb : W4 b0 b1 b2 b3 b) (w : World) :
   Calls Try.prog 6 #[.agg #[.int .u64 d0, .int .u64 d1, .int .u64 d2, .int .u64 d3], .agg #[.int .u64 a0, .int .u64 a1, .int .u64 a2, .int .u64 a3], .agg #[.int .u64 b0, .int .u64 b1, .int .u64 b2, .int .u64 b3]] w fun e w' => e = .returned (.bool true) ∧ Below w.heap.size w w' := by
  obtain ⟨rfl, rfl, rfl, rfl, lm⟩ := hm
  obtain ⟨rfl, rfl, rfl, rfl, la⟩ := ha
  obtain ⟨rfl, rfl, rfl, rfl, lb⟩ := hb
  have HM := Lib.hid lm
  have hla := Lib.hid la
  have hlb := Lib.hid lb
  clear lm la lb
  go_enter Try.func6, Try.ntmps6
  go_upto_region 1 with fail
  obtain ⟨V0, hW⟩ : ∃ V, ((w.alloc (.cells #[.int .u64 (w0 (m) : Nat), .int .u64 (w1 (m) : Nat), .int .u64 (w2 (m) : Nat), .int .u64 (w3 (m) : Nat)] 24)).alloc (.cells #[.int .u64 (w0 (a) : Nat), .int .u64 (w1 (a) : Nat), .int .u64 (w2 (a) : Nat), .int .u64 (w3 (a) : Nat)] 24)).alloc (.cells #[.int .u64 (w0 (b) : Nat), .int .u64 (w1 (b) : Nat), .int .u64 (w2 (b) : Nat), .int .u64 (w3 (b) : Nat)] 24) = V := ⟨_, rfl⟩
  rw [hW]
  have hM : V0.heap[w.heap.size]? = some (.cells #[.int .u64 (w0 (m) : Nat), .int .u64 (w1 (m) : Nat), .int .u64 (w2 (m) : Nat), .int .u64 (w3 (m) : Nat)] 24 (0, 0)) := by
    rw [← hW]; simp only [alloc_at, World.size_alloc]; repeat (first | rw [if_pos trivial] | rw [if_pos (by omega)] | rw [if_neg (by omega)])
  have hA : V0.heap[w.heap.size + 1]? = some (.cells #[.int .u64 (w0 (a) : Nat), .int .u64 (w1 (a) : Nat), .int .u64 (w2 (a) : Nat), .int .u64 (w3 (a) : Nat)] 24 (0, 0)) := by
    rw [← hW]; simp only [alloc_at, World.size_alloc]; repeat (first | rw [if_pos trivial] | rw [if_pos (by omega)] | rw [if_neg (by omega)])
  have hB1 : V0.heap[w.heap.size + 2]? = some (.cells #[.int .u64 (w0 (b) : Nat), .int .u64 (w1 (b) : Nat), .int .u64 (w2 (b) : Nat), .int .u64 (w3 (b) : Nat)] 24 (0, 0)) := by
    rw [← hW]; simp only [alloc_at, World.size_alloc]; repeat (first | rw [if_pos trivial] | rw [if_pos (by omega)] | rw [if_neg (by omega)])
  have kk : Below w.heap.size w V0 := by
    rw [← hW]
    repeat (first | exact Below.refl _ _ | refine Below.drew ?_ | refine bal ?_ _)
  clear hW
  go_wp2_with fail
  refine (lives_any _).mono ?_
  rintro e V1 ⟨rfl, hb⟩
  replace hM := below_get hb hM
  replace hA := below_get hb hA
  replace hB1 := below_get hb hB1
  replace kk := bcl (by first | exact kk | exact kk.drew | exact below_drewN kk _) hb
  clear hb
  obtain ⟨cM0, cM1, cM2, cM3⟩ := row4c hM
  obtain ⟨zM0, zM1, zM2, zM3⟩ := row4z hM
  go_wp2_with fail
  by_cases hev : m % 2 = 0
  · refine (newF_even (W4.mk' HM.out) _ hev).mono ?_
    rintro e V2 ⟨rfl, hb⟩
    replace hM := below_get hb hM
    replace hA := below_get hb hA
    replace hB1 := below_get hb hB1
    replace kk := bcl (by first | exact kk | exact kk.drew | exact below_drewN kk _) hb
    clear cM0 zM0 cM1 zM1 cM2 zM2 cM3 zM3
    clear hb
    have t0 : w0 m % 2 = 0 := by rw [low2]; exact hev
    have t1 : Int.tmod ((w0 m : Nat) : Int) 2 = 0 := by rw [Int.tmod_eq_emod_of_nonneg (by omega)]; omega
    have t2 : ((w0 m : Nat) : Int) % 2 = 0 := by omega
    clear hev t0
    obtain ⟨cM0, cM1, cM2, cM3⟩ := row4c hM
    obtain ⟨zM0, zM1, zM2, zM3⟩ := row4z hM
    go_upto_region 4 with fail
    go_quiet (fail)
    rename_i nq
    go_wp2_with fail
    refine bodyPost_ret (v := _) (by simp [results, Try.results6, go_sem]; rfl) rfl ?_
    exact ⟨rfl, below_drewN kk _⟩
  · have hodd : m % 2 = 1 := by omega
    clear hev
    have t0 : w0 m % 2 = 1 := by rw [low2]; exact hodd
    have t1 : Int.tmod ((w0 m : Nat) : Int) 2 = 1 := by rw [Int.tmod_eq_emod_of_nonneg (by omega)]; omega
    have t2 : ((w0 m : Nat) : Int) % 2 = 1 := by omega
    clear t0
    by_cases h1 : m = 1
    · refine (newF_one (W4.mk' HM.out) _ hodd (by omega)).mono ?_
      rintro e V2 ⟨rfl, hb⟩
      replace hM := below_get hb hM
      replace hA := below_get hb hA
      replace hB1 := below_get hb hB1
      replace kk := bcl (by first | exact kk | exact kk.drew | exact below_drewN kk _) hb
      clear cM0 zM0 cM1 zM1 cM2 zM2 cM3 zM3
      clear hb
      have q1 := eql_t (W4.mk' HM.out) (W4.small (x := 1) (n := 1) rfl (by decide)) h1
      clear hodd h1
      obtain ⟨cM0, cM1, cM2, cM3⟩ := row4c hM
      obtain ⟨zM0, zM1, zM2, zM3⟩ := row4z hM
      go_upto_region 4 with fail
      try clear cM0 cM1 cM2 cM3
      obtain ⟨cM0, cM1, cM2, cM3⟩ := row4c hM
      go_region_held3 (fun w' => w'.cell? ⟨w.heap.size, 0, none⟩ = some (.int .u64 (w0 (m) : Nat)) ∧ w'.cell? ⟨w.heap.size, 1, none⟩ = some (.int .u64 (w1 (m) : Nat)) ∧ w'.cell? ⟨w.heap.size, 2, none⟩ = some (.int .u64 (w2 (m) : Nat)) ∧ w'.cell? ⟨w.heap.size, 3, none⟩ = some (.int .u64 (w3 (m) : Nat))) (first | (with_reducible exact ⟨cM0, cM1, cM2, cM3⟩) | go_keep) (first | (go_at_call 17; refine (of_any _ _).mono ?_; rintro e W ⟨rfl, hb⟩; (first | replace hM := below_get hb hM | replace hM := below_get hb (ak hM)); (first | replace hA := below_get hb hA | replace hA := below_get hb (ak hA)); (first | replace hB1 := below_get hb hB1 | replace hB1 := below_get hb (ak hB1)); (replace kk := bcl (by first | exact kk | exact kk.drew | exact bal kk _ | exact (bal kk _).drew) hb); (try clear cM0 cM1 cM2 cM3); (obtain ⟨cM0, cM1, cM2, cM3⟩ := row4c hM); clear hb))
      go_simp
      go_wp2_with fail
      refine bodyPost_ret (v := _) (by simp [results, Try.results6, go_sem]; rfl) rfl ?_
      exact ⟨rfl, kk⟩
    · have h3 : 3 ≤ m := by omega
      refine (newF_any (W4.mk' HM.out) _ hodd h3).mono ?_
      rintro e V2 ⟨g, hg, rfl, hF, hb⟩
      replace hM := below_get hb hM
      replace hA := below_get hb hA
      replace hB1 := below_get hb hB1
      replace kk := bcl (by first | exact kk | exact kk.drew | exact below_drewN kk _) hb
      clear cM0 zM0 cM1 zM1 cM2 zM2 cM3 zM3
      clear hb
      have hgM := hg
      have HF := Lib.hid hF
      have hQ := hF.blk
      have fF := hF
      clear hF
      have hpos : 0 < m := by omega
      have q1 := eql_f (W4.mk' HM.out) (W4.small (x := 1) (n := 1) rfl (by decide)) h1
      clear hodd h1 h3
      obtain ⟨cM0, cM1, cM2, cM3⟩ := row4c hM
      obtain ⟨zM0, zM1, zM2, zM3⟩ := row4z hM
      go_upto_region 4 with fail
      have fFd : IsF (World.drew V2) (g) (m) := ⟨fF.blk, fF.odd, fF.three, fF.lt⟩
      try clear cM0 cM1 cM2 cM3
      obtain ⟨cM0, cM1, cM2, cM3⟩ := row4c hM
      go_region_held3 (fun w' => w'.cell? ⟨w.heap.size, 0, none⟩ = some (.int .u64 (w0 (m) : Nat)) ∧ w'.cell? ⟨w.heap.size, 1, none⟩ = some (.int .u64 (w1 (m) : Nat)) ∧ w'.cell? ⟨w.heap.size, 2, none⟩ = some (.int .u64 (w2 (m) : Nat)) ∧ w'.cell? ⟨w.heap.size, 3, none⟩ = some (.int .u64 (w3 (m) : Nat))) (first | (with_reducible exact ⟨cM0, cM1, cM2, cM3⟩) | go_keep) (first | (go_at_call 17; refine (of_any _ _).mono ?_; rintro e W ⟨rfl, hb⟩; (first | replace hM := below_get hb hM | replace hM := below_get hb (ak hM)); (first | replace hA := below_get hb hA | replace hA := below_get hb (ak hA)); (first | replace hB1 := below_get hb hB1 | replace hB1 := below_get hb (ak hB1)); (first | replace hQ := below_get hb hQ | replace hQ := below_get hb (ak hQ)); (replace kk := bcl (by first | exact kk | exact kk.drew | exact bal kk _ | exact (bal kk _).drew) hb); (replace fF := IsF.of HF.out hQ); (try clear cM0 cM1 cM2 cM3); (obtain ⟨cM0, cM1, cM2, cM3⟩ := row4c hM); clear hb))
      go_simp
      go_upto_region 6 with fail
      have fFd : IsF (World.drew W) (g) (m) := ⟨fF.blk, fF.odd, fF.three, fF.lt⟩
      try clear cM0 cM1 cM2 cM3
      obtain ⟨cM0, cM1, cM2, cM3⟩ := row4c hM
      try clear cA0 cA1 cA2 cA3
      obtain ⟨cA0, cA1, cA2, cA3⟩ := row4c hA
      try clear cB10 cB11 cB12 cB13
      obtain ⟨cB10, cB11, cB12, cB13⟩ := row4c hB1
      go_region_held3 (fun w' => w'.cell? ⟨w.heap.size, 0, none⟩ = some (.int .u64 (w0 (m) : Nat)) ∧ w'.cell? ⟨w.heap.size, 1, none⟩ = some (.int .u64 (w1 (m) : Nat)) ∧ w'.cell? ⟨w.heap.size, 2, none⟩ = some (.int .u64 (w2 (m) : Nat)) ∧ w'.cell? ⟨w.heap.size, 3, none⟩ = some (.int .u64 (w3 (m) : Nat)) ∧ w'.cell? ⟨w.heap.size + 1, 0, none⟩ = some (.int .u64 (w0 (a) : Nat)) ∧ w'.cell? ⟨w.heap.size + 1, 1, none⟩ = some (.int .u64 (w1 (a) : Nat)) ∧ w'.cell? ⟨w.heap.size + 1, 2, none⟩ = some (.int .u64 (w2 (a) : Nat)) ∧ w'.cell? ⟨w.heap.size + 1, 3, none⟩ = some (.int .u64 (w3 (a) : Nat)) ∧ w'.cell? ⟨w.heap.size + 2, 0, none⟩ = some (.int .u64 (w0 (b) : Nat)) ∧ w'.cell? ⟨w.heap.size + 2, 1, none⟩ = some (.int .u64 (w1 (b) : Nat)) ∧ w'.cell? ⟨w.heap.size + 2, 2, none⟩ = some (.int .u64 (w2 (b) : Nat)) ∧ w'.cell? ⟨w.heap.size + 2, 3, none⟩ = some (.int .u64 (w3 (b) : Nat))) (first | (with_reducible exact ⟨cM0, cM1, cM2, cM3, cA0, cA1, cA2, cA3, cB10, cB11, cB12, cB13⟩) | go_keep) (first | (go_at_call 22; with_reducible refine (num_of HM.out _).mono ?_; rintro e W ⟨vhNM, rfl, hNM, hb⟩; (first | replace hM := below_get hb hM | replace hM := below_get hb (ak hM)); (first | replace hA := below_get hb hA | replace hA := below_get hb (ak hA)); (first | replace hB1 := below_get hb hB1 | replace hB1 := below_get hb (ak hB1)); (first | replace hQ := below_get hb hQ | replace hQ := below_get hb (ak hQ)); (replace kk := bcl (by first | exact kk | exact kk.drew | exact bal kk _ | exact (bal kk _).drew) hb); (try replace hNM := NumV.below (by first | exact hNM | exact hNM.drew) hb); (try replace hNA := NumV.below (by first | exact hNA | exact hNA.drew) hb); (try replace hNB := NumV.below (by first | exact hNB | exact hNB.drew) hb); (try replace hNL := NumV.below (by first | exact hNL | exact hNL.drew) hb); (replace fF := IsF.of HF.out hQ); (try clear cM0 cM1 cM2 cM3); (obtain ⟨cM0, cM1, cM2, cM3⟩ := row4c hM); (try clear cA0 cA1 cA2 cA3); (obtain ⟨cA0, cA1, cA2, cA3⟩ := row4c hA); (try clear cB10 cB11 cB12 cB13); (obtain ⟨cB10, cB11, cB12, cB13⟩ := row4c hB1); clear hb) | (go_at_call 22; with_reducible refine (num_of hla.out _).mono ?_; rintro e W ⟨vhNA, rfl, hNA, hb⟩; (first | replace hM := below_get hb hM | replace hM := below_get hb (ak hM)); (first | replace hA := below_get hb hA | replace hA := below_get hb (ak hA)); (first | replace hB1 := below_get hb hB1 | replace hB1 := below_get hb (ak hB1)); (first | replace hQ := below_get hb hQ | replace hQ := below_get hb (ak hQ)); (replace kk := bcl (by first | exact kk | exact kk.drew | exact bal kk _ | exact (bal kk _).drew) hb); (try replace hNM := NumV.below (by first | exact hNM | exact hNM.drew) hb); (try replace hNA := NumV.below (by first | exact hNA | exact hNA.drew) hb); (try replace hNB := NumV.below (by first | exact hNB | exact hNB.drew) hb); (try replace hNL := NumV.below (by first | exact hNL | exact hNL.drew) hb); (replace fF := IsF.of HF.out hQ); (try clear cM0 cM1 cM2 cM3); (obtain ⟨cM0, cM1, cM2, cM3⟩ := row4c hM); (try clear cA0 cA1 cA2 cA3); (obtain ⟨cA0, cA1, cA2, cA3⟩ := row4c hA); (try clear cB10 cB11 cB12 cB13); (obtain ⟨cB10, cB11, cB12, cB13⟩ := row4c hB1); clear hb) | (go_at_call 22; with_reducible refine (num_of hlb.out _).mono ?_; rintro e W ⟨vhNB, rfl, hNB, hb⟩; (first | replace hM := below_get hb hM | replace hM := below_get hb (ak hM)); (first | replace hA := below_get hb hA | replace hA := below_get hb (ak hA)); (first | replace hB1 := below_get hb hB1 | replace hB1 := below_get hb (ak hB1)); (first | replace hQ := below_get hb hQ | replace hQ := below_get hb (ak hQ)); (replace kk := bcl (by first | exact kk | exact kk.drew | exact bal kk _ | exact (bal kk _).drew) hb); (try replace hNM := NumV.below (by first | exact hNM | exact hNM.drew) hb); (try replace hNA := NumV.below (by first | exact hNA | exact hNA.drew) hb); (try replace hNB := NumV.below (by first | exact hNB | exact hNB.drew) hb); (try replace hNL := NumV.below (by first | exact hNL | exact hNL.drew) hb); (replace fF := IsF.of HF.out hQ); (try clear cM0 cM1 cM2 cM3); (obtain ⟨cM0, cM1, cM2, cM3⟩ := row4c hM); (try clear cA0 cA1 cA2 cA3); (obtain ⟨cA0, cA1, cA2, cA3⟩ := row4c hA); (try clear cB10 cB11 cB12 cB13); (obtain ⟨cB10, cB11, cB12, cB13⟩ := row4c hB1); clear hb))
      go_simp
      go_wp2_with fail
      have L : ∀ {x : Nat}, x % m < 2 ^ 256 := fun {x} => Nat.lt_trans (Nat.mod_lt x hpos) HM.out
      refine (num_mod hNA hNM hpos (one_big hla.out) HM.out).mono ?_
      rintro e Xw1 ⟨rfl, hb⟩
      replace hNM := hNM.below hb
      replace hNA := hNA.below hb
      replace hNB := hNB.below hb
      replace hM := below_get hb hM
      replace hA := below_get hb hA
      replace hB1 := below_get hb hB1
      replace hQ := below_get hb hQ
      replace kk := bcl (by first | exact kk | exact kk.drew | exact below_drewN kk _) hb
      replace fF := IsF.of HF.out hQ
      clear cM0 zM0 cM1 zM1 cM2 zM2 cM3 zM3
      clear hb
      go_wp2_with fail
      refine (num_of (show a % m < 2 ^ 256 from L) _).mono ?_
      rintro e Xw2 ⟨v1, rfl, hN1, hb⟩
      replace hNM := hNM.below hb
      replace hNA := hNA.below hb
      replace hNB := hNB.below hb
      replace hM := below_get hb hM
      replace hA := below_get hb hA
      replace hB1 := below_get hb hB1
      replace hQ := below_get hb hQ
      replace kk := bcl (by first | exact kk | exact kk.drew | exact below_drewN kk _) hb
      replace fF := IsF.of HF.out hQ
      clear hb
      go_wp2_with fail
      refine (num_add hN1 hNM (one_big L) (one_big HM.out)).mono ?_
      rintro e Xw3 ⟨v2, rfl, hN2, hb⟩
      clear hN1
      replace hNM := hNM.below hb
      replace hNA := hNA.below hb
      replace hNB := hNB.below hb
      replace hM := below_get hb hM
      replace hA := below_get hb hA
      replace hB1 := below_get hb hB1
      replace hQ := below_get hb hQ
      replace kk := bcl (by first | exact kk | exact kk.drew | exact below_drewN kk _) hb
      replace fF := IsF.of HF.out hQ
      clear hb
      go_wp2_with fail
      refine (num_mod hNB hNM hpos (one_big hlb.out) HM.out).mono ?_
      rintro e Xw4 ⟨rfl, hb⟩
      replace hNM := hNM.below hb
      replace hNA := hNA.below hb
      replace hNB := hNB.below hb
      replace hN2 := hN2.below hb
      replace hM := below_get hb hM
      replace hA := below_get hb hA
      replace hB1 := below_get hb hB1
      replace hQ := below_get hb hQ
      replace kk := bcl (by first | exact kk | exact kk.drew | exact below_drewN kk _) hb
      replace fF := IsF.of HF.out hQ
      clear hb
      go_wp2_with fail
      refine (num_of (show b % m < 2 ^ 256 from L) _).mono ?_
      rintro e Xw5 ⟨v3, rfl, hN3, hb⟩
      replace hNM := hNM.below hb
      replace hNA := hNA.below hb
      replace hNB := hNB.below hb
      replace hN2 := hN2.below hb
      replace hM := below_get hb hM
      replace hA := below_get hb hA
      replace hB1 := below_get hb hB1
      replace hQ := below_get hb hQ
      replace kk := bcl (by first | exact kk | exact kk.drew | exact below_drewN kk _) hb
      replace fF := IsF.of HF.out hQ
      clear hb
      go_wp2_with fail
      refine (num_sub hN2 hN3 (sum_big (k := 256) (by decide) L HM.out) (by have := Nat.mod_lt b hpos; omega)).mono ?_
      rintro e Xw6 ⟨v4, rfl, hNL, hb⟩
      clear hN2 hN3
      replace hNM := hNM.below hb
      replace hNA := hNA.below hb
      replace hNB := hNB.below hb
      replace hM := below_get hb hM
      replace hA := below_get hb hA
      replace hB1 := below_get hb hB1
      replace hQ := below_get hb hQ
      replace kk := bcl (by first | exact kk | exact kk.drew | exact below_drewN kk _) hb
      replace fF := IsF.of HF.out hQ
      clear hb
      have HLT : a % m + m - b % m < 2 ^ bigK := Nat.lt_of_le_of_lt (Nat.sub_le _ _) (sum_big (k := 256) (by decide) L HM.out)
      have hq0 := eqlG HM.out HM.out (rfl : m = m)
      have hq1 := eqlG (show redm m a < 2 ^ 256 from L) (show a % m < 2 ^ 256 from L) rfl
      have hq2 := eqlG (show addf m a b < 2 ^ 256 from L) (show (a + b) % m < 2 ^ 256 from L) rfl
      have hq3 := eqlG (show mulm m a b < 2 ^ 256 from L) (show (a * b) % m < 2 ^ 256 from L) rfl
      have hq4 := eqlG (show subf m a b < 2 ^ 256 from L) (show (a % m + m - b % m) % m < 2 ^ 256 from L) (subf_less hpos).symm
      have HB1 := sum_big (k := 256) (by decide) hla.out hlb.out
      have HB2 := prod_big (k := 256) (by decide) hla.out hlb.out
      clear L
      have HA1 := one_big hla.out
      have HA2 := one_big hlb.out
      go_upto_region 8 with fail
      have fFd : IsF (World.drew Xw6) (g) (m) := ⟨fF.blk, fF.odd, fF.three, fF.lt⟩
      try clear cM0 cM1 cM2 cM3
      obtain ⟨cM0, cM1, cM2, cM3⟩ := row4c hM
      try clear cA0 cA1 cA2 cA3
      obtain ⟨cA0, cA1, cA2, cA3⟩ := row4c hA
      try clear cB10 cB11 cB12 cB13
      obtain ⟨cB10, cB11, cB12, cB13⟩ := row4c hB1
      go_region_held3 (fun w' => w'.cell? ⟨w.heap.size, 0, none⟩ = some (.int .u64 (w0 (m) : Nat)) ∧ w'.cell? ⟨w.heap.size, 1, none⟩ = some (.int .u64 (w1 (m) : Nat)) ∧ w'.cell? ⟨w.heap.size, 2, none⟩ = some (.int .u64 (w2 (m) : Nat)) ∧ w'.cell? ⟨w.heap.size, 3, none⟩ = some (.int .u64 (w3 (m) : Nat)) ∧ w'.cell? ⟨w.heap.size + 1, 0, none⟩ = some (.int .u64 (w0 (a) : Nat)) ∧ w'.cell? ⟨w.heap.size + 1, 1, none⟩ = some (.int .u64 (w1 (a) : Nat)) ∧ w'.cell? ⟨w.heap.size + 1, 2, none⟩ = some (.int .u64 (w2 (a) : Nat)) ∧ w'.cell? ⟨w.heap.size + 1, 3, none⟩ = some (.int .u64 (w3 (a) : Nat)) ∧ w'.cell? ⟨w.heap.size + 2, 0, none⟩ = some (.int .u64 (w0 (b) : Nat)) ∧ w'.cell? ⟨w.heap.size + 2, 1, none⟩ = some (.int .u64 (w1 (b) : Nat)) ∧ w'.cell? ⟨w.heap.size + 2, 2, none⟩ = some (.int .u64 (w2 (b) : Nat)) ∧ w'.cell? ⟨w.heap.size + 2, 3, none⟩ = some (.int .u64 (w3 (b) : Nat))) (first | (with_reducible exact ⟨cM0, cM1, cM2, cM3, cA0, cA1, cA2, cA3, cB10, cB11, cB12, cB13⟩) | go_keep) (first | (go_at_call 30; refine (modulus_any _ (show IsF _ (g) (m) from (by first | exact fF | exact fFd | exact ⟨fF.blk, fF.odd, fF.three, fF.lt⟩ | exact ⟨ak fF.blk, fF.odd, fF.three, fF.lt⟩ | exact ⟨ak (ak fF.blk), fF.odd, fF.three, fF.lt⟩))).mono ?_; rintro e W ⟨rfl, hb⟩; (first | replace hM := below_get hb hM | replace hM := below_get hb (ak hM)); (first | replace hA := below_get hb hA | replace hA := below_get hb (ak hA)); (first | replace hB1 := below_get hb hB1 | replace hB1 := below_get hb (ak hB1)); (first | replace hQ := below_get hb hQ | replace hQ := below_get hb (ak hQ)); (replace kk := bcl (by first | exact kk | exact kk.drew | exact bal kk _ | exact (bal kk _).drew) hb); (try replace hNM := NumV.below (by first | exact hNM | exact hNM.drew) hb); (try replace hNA := NumV.below (by first | exact hNA | exact hNA.drew) hb); (try replace hNB := NumV.below (by first | exact hNB | exact hNB.drew) hb); (try replace hNL := NumV.below (by first | exact hNL | exact hNL.drew) hb); (try replace hNS := NumV.below (by first | exact hNS | exact hNS.drew) hb); (try replace hNP := NumV.below (by first | exact hNP | exact hNP.drew) hb); (replace fF := IsF.of HF.out hQ); (try clear cM0 cM1 cM2 cM3); (obtain ⟨cM0, cM1, cM2, cM3⟩ := row4c hM); (try clear cA0 cA1 cA2 cA3); (obtain ⟨cA0, cA1, cA2, cA3⟩ := row4c hA); (try clear cB10 cB11 cB12 cB13); (obtain ⟨cB10, cB11, cB12, cB13⟩ := row4c hB1); clear hb) | (go_at_call 19; refine (redG_any (by first | exact W4.mk' hla.out | exact W4.mk' hlb.out | exact W4.mk' HM.out | exact W4.mk' (Nat.lt_trans (Nat.mod_lt _ hpos) HM.out) | exact W4.zero | exact W4.small (n := 1) rfl (by decide) | exact W4.small (n := 2) rfl (by decide) | exact W4.small (n := 3) rfl (by decide) | exact W4.small (n := 4) rfl (by decide) | exact W4.small (n := 5) rfl (by decide) | exact W4.small (n := 7) rfl (by decide)) _ (show IsF _ (g) (m) from (by first | exact fF | exact fFd | exact ⟨fF.blk, fF.odd, fF.three, fF.lt⟩ | exact ⟨ak fF.blk, fF.odd, fF.three, fF.lt⟩ | exact ⟨ak (ak fF.blk), fF.odd, fF.three, fF.lt⟩))).mono ?_; rintro e W ⟨rfl, hb⟩; (first | replace hM := below_get hb hM | replace hM := below_get hb (ak hM)); (first | replace hA := below_get hb hA | replace hA := below_get hb (ak hA)); (first | replace hB1 := below_get hb hB1 | replace hB1 := below_get hb (ak hB1)); (first | replace hQ := below_get hb hQ | replace hQ := below_get hb (ak hQ)); (replace kk := bcl (by first | exact kk | exact kk.drew | exact bal kk _ | exact (bal kk _).drew) hb); (try replace hNM := NumV.below (by first | exact hNM | exact hNM.drew) hb); (try replace hNA := NumV.below (by first | exact hNA | exact hNA.drew) hb); (try replace hNB := NumV.below (by first | exact hNB | exact hNB.drew) hb); (try replace hNL := NumV.below (by first | exact hNL | exact hNL.drew) hb); (try replace hNS := NumV.below (by first | exact hNS | exact hNS.drew) hb); (try replace hNP := NumV.below (by first | exact hNP | exact hNP.drew) hb); (replace fF := IsF.of HF.out hQ); (try clear cM0 cM1 cM2 cM3); (obtain ⟨cM0, cM1, cM2, cM3⟩ := row4c hM); (try clear cA0 cA1 cA2 cA3); (obtain ⟨cA0, cA1, cA2, cA3⟩ := row4c hA); (try clear cB10 cB11 cB12 cB13); (obtain ⟨cB10, cB11, cB12, cB13⟩ := row4c hB1); clear hb) | (go_at_call 32; refine (addG_any (by first | exact W4.mk' hla.out | exact W4.mk' hlb.out | exact W4.mk' HM.out | exact W4.mk' (Nat.lt_trans (Nat.mod_lt _ hpos) HM.out) | exact W4.zero | exact W4.small (n := 1) rfl (by decide) | exact W4.small (n := 2) rfl (by decide) | exact W4.small (n := 3) rfl (by decide) | exact W4.small (n := 4) rfl (by decide) | exact W4.small (n := 5) rfl (by decide) | exact W4.small (n := 7) rfl (by decide)) (by first | exact W4.mk' hla.out | exact W4.mk' hlb.out | exact W4.mk' HM.out | exact W4.mk' (Nat.lt_trans (Nat.mod_lt _ hpos) HM.out) | exact W4.zero | exact W4.small (n := 1) rfl (by decide) | exact W4.small (n := 2) rfl (by decide) | exact W4.small (n := 3) rfl (by decide) | exact W4.small (n := 4) rfl (by decide) | exact W4.small (n := 5) rfl (by decide) | exact W4.small (n := 7) rfl (by decide)) _ (show IsF _ (g) (m) from (by first | exact fF | exact fFd | exact ⟨fF.blk, fF.odd, fF.three, fF.lt⟩ | exact ⟨ak fF.blk, fF.odd, fF.three, fF.lt⟩ | exact ⟨ak (ak fF.blk), fF.odd, fF.three, fF.lt⟩))).mono ?_; rintro e W ⟨rfl, hb⟩; (first | replace hM := below_get hb hM | replace hM := below_get hb (ak hM)); (first | replace hA := below_get hb hA | replace hA := below_get hb (ak hA)); (first | replace hB1 := below_get hb hB1 | replace hB1 := below_get hb (ak hB1)); (first | replace hQ := below_get hb hQ | replace hQ := below_get hb (ak hQ)); (replace kk := bcl (by first | exact kk | exact kk.drew | exact bal kk _ | exact (bal kk _).drew) hb); (try replace hNM := NumV.below (by first | exact hNM | exact hNM.drew) hb); (try replace hNA := NumV.below (by first | exact hNA | exact hNA.drew) hb); (try replace hNB := NumV.below (by first | exact hNB | exact hNB.drew) hb); (try replace hNL := NumV.below (by first | exact hNL | exact hNL.drew) hb); (try replace hNS := NumV.below (by first | exact hNS | exact hNS.drew) hb); (try replace hNP := NumV.below (by first | exact hNP | exact hNP.drew) hb); (replace fF := IsF.of HF.out hQ); (try clear cM0 cM1 cM2 cM3); (obtain ⟨cM0, cM1, cM2, cM3⟩ := row4c hM); (try clear cA0 cA1 cA2 cA3); (obtain ⟨cA0, cA1, cA2, cA3⟩ := row4c hA); (try clear cB10 cB11 cB12 cB13); (obtain ⟨cB10, cB11, cB12, cB13⟩ := row4c hB1); clear hb) | (go_at_call 26; refine (mulG_any (by first | exact W4.mk' hla.out | exact W4.mk' hlb.out | exact W4.mk' HM.out | exact W4.mk' (Nat.lt_trans (Nat.mod_lt _ hpos) HM.out) | exact W4.zero | exact W4.small (n := 1) rfl (by decide) | exact W4.small (n := 2) rfl (by decide) | exact W4.small (n := 3) rfl (by decide) | exact W4.small (n := 4) rfl (by decide) | exact W4.small (n := 5) rfl (by decide) | exact W4.small (n := 7) rfl (by decide)) (by first | exact W4.mk' hla.out | exact W4.mk' hlb.out | exact W4.mk' HM.out | exact W4.mk' (Nat.lt_trans (Nat.mod_lt _ hpos) HM.out) | exact W4.zero | exact W4.small (n := 1) rfl (by decide) | exact W4.small (n := 2) rfl (by decide) | exact W4.small (n := 3) rfl (by decide) | exact W4.small (n := 4) rfl (by decide) | exact W4.small (n := 5) rfl (by decide) | exact W4.small (n := 7) rfl (by decide)) _ (show IsF _ (g) (m) from (by first | exact fF | exact fFd | exact ⟨fF.blk, fF.odd, fF.three, fF.lt⟩ | exact ⟨ak fF.blk, fF.odd, fF.three, fF.lt⟩ | exact ⟨ak (ak fF.blk), fF.odd, fF.three, fF.lt⟩))).mono ?_; rintro e W ⟨rfl, hb⟩; (first | replace hM := below_get hb hM | replace hM := below_get hb (ak hM)); (first | replace hA := below_get hb hA | replace hA := below_get hb (ak hA)); (first | replace hB1 := below_get hb hB1 | replace hB1 := below_get hb (ak hB1)); (first | replace hQ := below_get hb hQ | replace hQ := below_get hb (ak hQ)); (replace kk := bcl (by first | exact kk | exact kk.drew | exact bal kk _ | exact (bal kk _).drew) hb); (try replace hNM := NumV.below (by first | exact hNM | exact hNM.drew) hb); (try replace hNA := NumV.below (by first | exact hNA | exact hNA.drew) hb); (try replace hNB := NumV.below (by first | exact hNB | exact hNB.drew) hb); (try replace hNL := NumV.below (by first | exact hNL | exact hNL.drew) hb); (try replace hNS := NumV.below (by first | exact hNS | exact hNS.drew) hb); (try replace hNP := NumV.below (by first | exact hNP | exact hNP.drew) hb); (replace fF := IsF.of HF.out hQ); (try clear cM0 cM1 cM2 cM3); (obtain ⟨cM0, cM1, cM2, cM3⟩ := row4c hM); (try clear cA0 cA1 cA2 cA3); (obtain ⟨cA0, cA1, cA2, cA3⟩ := row4c hA); (try clear cB10 cB11 cB12 cB13); (obtain ⟨cB10, cB11, cB12, cB13⟩ := row4c hB1); clear hb) | (go_at_call 33; refine (subG_any (by first | exact W4.mk' hla.out | exact W4.mk' hlb.out | exact W4.mk' HM.out | exact W4.mk' (Nat.lt_trans (Nat.mod_lt _ hpos) HM.out) | exact W4.zero | exact W4.small (n := 1) rfl (by decide) | exact W4.small (n := 2) rfl (by decide) | exact W4.small (n := 3) rfl (by decide) | exact W4.small (n := 4) rfl (by decide) | exact W4.small (n := 5) rfl (by decide) | exact W4.small (n := 7) rfl (by decide)) (by first | exact W4.mk' hla.out | exact W4.mk' hlb.out | exact W4.mk' HM.out | exact W4.mk' (Nat.lt_trans (Nat.mod_lt _ hpos) HM.out) | exact W4.zero | exact W4.small (n := 1) rfl (by decide) | exact W4.small (n := 2) rfl (by decide) | exact W4.small (n := 3) rfl (by decide) | exact W4.small (n := 4) rfl (by decide) | exact W4.small (n := 5) rfl (by decide) | exact W4.small (n := 7) rfl (by decide)) _ (show IsF _ (g) (m) from (by first | exact fF | exact fFd | exact ⟨fF.blk, fF.odd, fF.three, fF.lt⟩ | exact ⟨ak fF.blk, fF.odd, fF.three, fF.lt⟩ | exact ⟨ak (ak fF.blk), fF.odd, fF.three, fF.lt⟩))).mono ?_; rintro e W ⟨rfl, hb⟩; (first | replace hM := below_get hb hM | replace hM := below_get hb (ak hM)); (first | replace hA := below_get hb hA | replace hA := below_get hb (ak hA)); (first | replace hB1 := below_get hb hB1 | replace hB1 := below_get hb (ak hB1)); (first | replace hQ := below_get hb hQ | replace hQ := below_get hb (ak hQ)); (replace kk := bcl (by first | exact kk | exact kk.drew | exact bal kk _ | exact (bal kk _).drew) hb); (try replace hNM := NumV.below (by first | exact hNM | exact hNM.drew) hb); (try replace hNA := NumV.below (by first | exact hNA | exact hNA.drew) hb); (try replace hNB := NumV.below (by first | exact hNB | exact hNB.drew) hb); (try replace hNL := NumV.below (by first | exact hNL | exact hNL.drew) hb); (try replace hNS := NumV.below (by first | exact hNS | exact hNS.drew) hb); (try replace hNP := NumV.below (by first | exact hNP | exact hNP.drew) hb); (replace fF := IsF.of HF.out hQ); (try clear cM0 cM1 cM2 cM3); (obtain ⟨cM0, cM1, cM2, cM3⟩ := row4c hM); (try clear cA0 cA1 cA2 cA3); (obtain ⟨cA0, cA1, cA2, cA3⟩ := row4c hA); (try clear cB10 cB11 cB12 cB13); (obtain ⟨cB10, cB11, cB12, cB13⟩ := row4c hB1); clear hb) | (go_at_call 20; with_reducible refine (num_mod (by first | exact hNA | exact hNA.drew) (by first | exact hNM | exact hNM.drew) hpos HA1 HM.out).mono ?_; rintro e W ⟨rfl, hb⟩; (first | replace hM := below_get hb hM | replace hM := below_get hb (ak hM)); (first | replace hA := below_get hb hA | replace hA := below_get hb (ak hA)); (first | replace hB1 := below_get hb hB1 | replace hB1 := below_get hb (ak hB1)); (first | replace hQ := below_get hb hQ | replace hQ := below_get hb (ak hQ)); (replace kk := bcl (by first | exact kk | exact kk.drew | exact bal kk _ | exact (bal kk _).drew) hb); (try replace hNM := NumV.below (by first | exact hNM | exact hNM.drew) hb); (try replace hNA := NumV.below (by first | exact hNA | exact hNA.drew) hb); (try replace hNB := NumV.below (by first | exact hNB | exact hNB.drew) hb); (try replace hNL := NumV.below (by first | exact hNL | exact hNL.drew) hb); (try replace hNS := NumV.below (by first | exact hNS | exact hNS.drew) hb); (try replace hNP := NumV.below (by first | exact hNP | exact hNP.drew) hb); (replace fF := IsF.of HF.out hQ); (try clear cM0 cM1 cM2 cM3); (obtain ⟨cM0, cM1, cM2, cM3⟩ := row4c hM); (try clear cA0 cA1 cA2 cA3); (obtain ⟨cA0, cA1, cA2, cA3⟩ := row4c hA); (try clear cB10 cB11 cB12 cB13); (obtain ⟨cB10, cB11, cB12, cB13⟩ := row4c hB1); clear hb) | (go_at_call 35; with_reducible refine (num_add (by first | exact hNA | exact hNA.drew) (by first | exact hNB | exact hNB.drew) HA1 HA2).mono ?_; rintro e W ⟨vhNS, rfl, hNS, hb⟩; (first | replace hM := below_get hb hM | replace hM := below_get hb (ak hM)); (first | replace hA := below_get hb hA | replace hA := below_get hb (ak hA)); (first | replace hB1 := below_get hb hB1 | replace hB1 := below_get hb (ak hB1)); (first | replace hQ := below_get hb hQ | replace hQ := below_get hb (ak hQ)); (replace kk := bcl (by first | exact kk | exact kk.drew | exact bal kk _ | exact (bal kk _).drew) hb); (try replace hNM := NumV.below (by first | exact hNM | exact hNM.drew) hb); (try replace hNA := NumV.below (by first | exact hNA | exact hNA.drew) hb); (try replace hNB := NumV.below (by first | exact hNB | exact hNB.drew) hb); (try replace hNL := NumV.below (by first | exact hNL | exact hNL.drew) hb); (try replace hNS := NumV.below (by first | exact hNS | exact hNS.drew) hb); (try replace hNP := NumV.below (by first | exact hNP | exact hNP.drew) hb); (replace fF := IsF.of HF.out hQ); (try clear cM0 cM1 cM2 cM3); (obtain ⟨cM0, cM1, cM2, cM3⟩ := row4c hM); (try clear cA0 cA1 cA2 cA3); (obtain ⟨cA0, cA1, cA2, cA3⟩ := row4c hA); (try clear cB10 cB11 cB12 cB13); (obtain ⟨cB10, cB11, cB12, cB13⟩ := row4c hB1); clear hb) | (go_at_call 20; with_reducible refine (num_mod (by first | exact hNS | exact hNS.drew) (by first | exact hNM | exact hNM.drew) hpos HB1 HM.out).mono ?_; rintro e W ⟨rfl, hb⟩; (first | replace hM := below_get hb hM | replace hM := below_get hb (ak hM)); (first | replace hA := below_get hb hA | replace hA := below_get hb (ak hA)); (first | replace hB1 := below_get hb hB1 | replace hB1 := below_get hb (ak hB1)); (first | replace hQ := below_get hb hQ | replace hQ := below_get hb (ak hQ)); (replace kk := bcl (by first | exact kk | exact kk.drew | exact bal kk _ | exact (bal kk _).drew) hb); (try replace hNM := NumV.below (by first | exact hNM | exact hNM.drew) hb); (try replace hNA := NumV.below (by first | exact hNA | exact hNA.drew) hb); (try replace hNB := NumV.below (by first | exact hNB | exact hNB.drew) hb); (try replace hNL := NumV.below (by first | exact hNL | exact hNL.drew) hb); (try replace hNS := NumV.below (by first | exact hNS | exact hNS.drew) hb); (try replace hNP := NumV.below (by first | exact hNP | exact hNP.drew) hb); (replace fF := IsF.of HF.out hQ); (try clear cM0 cM1 cM2 cM3); (obtain ⟨cM0, cM1, cM2, cM3⟩ := row4c hM); (try clear cA0 cA1 cA2 cA3); (obtain ⟨cA0, cA1, cA2, cA3⟩ := row4c hA); (try clear cB10 cB11 cB12 cB13); (obtain ⟨cB10, cB11, cB12, cB13⟩ := row4c hB1); clear hb) | (go_at_call 21; with_reducible refine (num_mul (by first | exact hNA | exact hNA.drew) (by first | exact hNB | exact hNB.drew) HA1 HA2).mono ?_; rintro e W ⟨vhNP, rfl, hNP, hb⟩; (first | replace hM := below_get hb hM | replace hM := below_get hb (ak hM)); (first | replace hA := below_get hb hA | replace hA := below_get hb (ak hA)); (first | replace hB1 := below_get hb hB1 | replace hB1 := below_get hb (ak hB1)); (first | replace hQ := below_get hb hQ | replace hQ := below_get hb (ak hQ)); (replace kk := bcl (by first | exact kk | exact kk.drew | exact bal kk _ | exact (bal kk _).drew) hb); (try replace hNM := NumV.below (by first | exact hNM | exact hNM.drew) hb); (try replace hNA := NumV.below (by first | exact hNA | exact hNA.drew) hb); (try replace hNB := NumV.below (by first | exact hNB | exact hNB.drew) hb); (try replace hNL := NumV.below (by first | exact hNL | exact hNL.drew) hb); (try replace hNS := NumV.below (by first | exact hNS | exact hNS.drew) hb); (try replace hNP := NumV.below (by first | exact hNP | exact hNP.drew) hb); (replace fF := IsF.of HF.out hQ); (try clear cM0 cM1 cM2 cM3); (obtain ⟨cM0, cM1, cM2, cM3⟩ := row4c hM); (try clear cA0 cA1 cA2 cA3); (obtain ⟨cA0, cA1, cA2, cA3⟩ := row4c hA); (try clear cB10 cB11 cB12 cB13); (obtain ⟨cB10, cB11, cB12, cB13⟩ := row4c hB1); clear hb) | (go_at_call 20; with_reducible refine (num_mod (by first | exact hNP | exact hNP.drew) (by first | exact hNM | exact hNM.drew) hpos HB2 HM.out).mono ?_; rintro e W ⟨rfl, hb⟩; (first | replace hM := below_get hb hM | replace hM := below_get hb (ak hM)); (first | replace hA := below_get hb hA | replace hA := below_get hb (ak hA)); (first | replace hB1 := below_get hb hB1 | replace hB1 := below_get hb (ak hB1)); (first | replace hQ := below_get hb hQ | replace hQ := below_get hb (ak hQ)); (replace kk := bcl (by first | exact kk | exact kk.drew | exact bal kk _ | exact (bal kk _).drew) hb); (try replace hNM := NumV.below (by first | exact hNM | exact hNM.drew) hb); (try replace hNA := NumV.below (by first | exact hNA | exact hNA.drew) hb); (try replace hNB := NumV.below (by first | exact hNB | exact hNB.drew) hb); (try replace hNL := NumV.below (by first | exact hNL | exact hNL.drew) hb); (try replace hNS := NumV.below (by first | exact hNS | exact hNS.drew) hb); (try replace hNP := NumV.below (by first | exact hNP | exact hNP.drew) hb); (replace fF := IsF.of HF.out hQ); (try clear cM0 cM1 cM2 cM3); (obtain ⟨cM0, cM1, cM2, cM3⟩ := row4c hM); (try clear cA0 cA1 cA2 cA3); (obtain ⟨cA0, cA1, cA2, cA3⟩ := row4c hA); (try clear cB10 cB11 cB12 cB13); (obtain ⟨cB10, cB11, cB12, cB13⟩ := row4c hB1); clear hb) | (go_at_call 20; with_reducible refine (num_mod (by first | exact hNL | exact hNL.drew) (by first | exact hNM | exact hNM.drew) hpos HLT HM.out).mono ?_; rintro e W ⟨rfl, hb⟩; (first | replace hM := below_get hb hM | replace hM := below_get hb (ak hM)); (first | replace hA := below_get hb hA | replace hA := below_get hb (ak hA)); (first | replace hB1 := below_get hb hB1 | replace hB1 := below_get hb (ak hB1)); (first | replace hQ := below_get hb hQ | replace hQ := below_get hb (ak hQ)); (replace kk := bcl (by first | exact kk | exact kk.drew | exact bal kk _ | exact (bal kk _).drew) hb); (try replace hNM := NumV.below (by first | exact hNM | exact hNM.drew) hb); (try replace hNA := NumV.below (by first | exact hNA | exact hNA.drew) hb); (try replace hNB := NumV.below (by first | exact hNB | exact hNB.drew) hb); (try replace hNL := NumV.below (by first | exact hNL | exact hNL.drew) hb); (try replace hNS := NumV.below (by first | exact hNS | exact hNS.drew) hb); (try replace hNP := NumV.below (by first | exact hNP | exact hNP.drew) hb); (replace fF := IsF.of HF.out hQ); (try clear cM0 cM1 cM2 cM3); (obtain ⟨cM0, cM1, cM2, cM3⟩ := row4c hM); (try clear cA0 cA1 cA2 cA3); (obtain ⟨cA0, cA1, cA2, cA3⟩ := row4c hA); (try clear cB10 cB11 cB12 cB13); (obtain ⟨cB10, cB11, cB12, cB13⟩ := row4c hB1); clear hb))
      go_simp
      go_wp2_with fail
      refine bodyPost_ret (v := _) (by simp [results, Try.results6, go_sem]; rfl) rfl ?_
      exact ⟨rfl, kk⟩
end Go.Proofs.Ytgghopmlcpcpkaa.PResiduePowers
namespace Go.Proofs.Ytgghopmlcpcpkaa
open Go.ChangeShapes Go.WideShapes Go.ChangeAt Go.RowKit PlainK
set_option linter.unusedVariables false
set_option linter.unusedSimpArgs false
set_option maxHeartbeats 1000000 in
set_option maxRecDepth 100000 in
theorem residueSums_lifted (os : Os) (started : os.Started) (H : Type) (enc : TypeId × Value → H) :
    ReturnsInHanded {} Try.checked os 6 .any (Rows.residueSumsSpec.pre6 enc Try.prog Try.f6 Rows.residueSumsRow.domain false) (Rows.residueSumsSpec.post enc Try.prog Try.f6 false true false false) := by
  refine returnsInHanded_of_change (C := Try.checked) Try.own started (by kernel_rfl) Try.func6
    (ChangeSpec.witness6 (enc := enc) (C := Try.checked) false ⟨#[], #[.agg #[.int .u64 0, .int .u64 0, .int .u64 0, .int .u64 0], .agg #[.int .u64 0, .int .u64 0, .int .u64 0, .int .u64 0], .agg #[.int .u64 0, .int .u64 0, .int .u64 0, .int .u64 0]], []⟩ 8 (by kernel_rfl) (by kernel_rfl) (by kernel_rfl) (by kernel_rfl)) ?_
  intro W base args ds gs before hval0 hW hcnd _
  have hval : ∀ (j : Nat) t v, Try.f6.params[j]? = some t → args[j]? = some v → Value.okWide Try.prog W .any base t v := hval0
  have hW' := hW
  obtain ⟨p, q, hA0, hV, rfl, hfz, hnd⟩ := hW
  have hA : DataW.TrodAll enc Try.prog W 0 (fun _ => true) true Try.f6.params.toList args.toList ds p := hA0
  rw [Try.params6] at hA hval
  obtain ⟨v0, vs0, d0, ds0, p0, q0, hargs, rfl, rfl, h0, r0⟩ := trodAll_cons hA
  obtain ⟨v1, vs1, d1, ds1, p1, q1, rfl, rfl, rfl, h1, r1⟩ := trodAll_cons r0
  obtain ⟨v2, vs2, d2, ds2, p2, q2, rfl, rfl, rfl, h2, r2⟩ := trodAll_cons r1
  obtain ⟨rfl, rfl, rfl⟩ := trodAll_nil r2
  obtain rfl : args = #[v0, v1, v2] := by cases args; simp_all
  obtain ⟨rfl, rfl⟩ := trodVars_none hV
  obtain ⟨x00, x01, x02, x03, rfl, rfl, rfl, y00, y01, y02, y03⟩ := open_arr4 (hval 0 24 v0 rfl rfl) h0
  obtain ⟨n0, hn0⟩ := W4.of_wf y00 y01 y02 y03
  obtain ⟨x10, x11, x12, x13, rfl, rfl, rfl, y10, y11, y12, y13⟩ := open_arr4 (hval 1 24 v1 rfl rfl) h1
  obtain ⟨n1, hn1⟩ := W4.of_wf y10 y11 y12 y13
  obtain ⟨x20, x21, x22, x23, rfl, rfl, rfl, y20, y21, y22, y23⟩ := open_arr4 (hval 2 24 v2 rfl rfl) h2
  obtain ⟨n2, hn2⟩ := W4.of_wf y20 y21 y22 y23
  clear hA0 hval0
  simp only [List.append_nil] at hW'
  refine (PResiduePowers.sums_any hn0 hn1 hn2 W).mono fun e W' ⟨he, hg⟩ => ?_
  subst he
  exact ⟨_, rfl, post_law (pa := []) (pv := []) hW' (fun _ _ _ => (trodAll_cons_mk (shut_bool Try.underlying4 _) trodAll_mk0)) (fun sp _ => (trodAll_cons_mk (shut_arr4 y00 y01 y02 y03) (trodAll_cons_mk (shut_arr4 y10 y11 y12 y13) (trodAll_cons_mk (shut_arr4 y20 y21 y22 y23) trodAll_mk0)))) (fun _ _ => rfl) rfl (hg.frame _)⟩

theorem residueSums_proved : Rows.ResidueSumsSaid :=
  OpenClaim.holds_of_wide 6 Try.f6 rfl rfl rfl rfl rfl rfl rfl ⟨rfl, rfl, rfl, rfl, rfl⟩ rfl rfl rfl rfl rfl (by kernel_rfl) Try.func6 (by kernel_rfl)
    (of_decide_eq_true (by kernel_rfl)) (by unfold Func.isWrapper; first | (rw [if_pos (by decide +kernel)]; kernel_rfl) | (rw [if_neg (by decide +kernel)]; exact ⟨rfl, rfl⟩))
    (fun os started H enc _ => residueSums_lifted os started H enc)
#print axioms residueSums_proved
end Go.Proofs.Ytgghopmlcpcpkaa
