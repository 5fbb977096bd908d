/- A step of the proof: what a function of the program computes, or a plain law of numbers. -/
import Derived.Test.YtgghopmlcpcpkaaHalved
import Derived.Deep.DeepCutAuto
namespace Go.Proofs.Ytgghopmlcpcpkaa
open Go.RowKit PlainK
set_option linter.unusedVariables false
set_option linter.unusedSimpArgs false
theorem ak {w : World} {k : Nat} {o o' : Obj} (h : w.heap[k]? = some o) : (w.alloc o').heap[k]? = some o := (Below.heap_alloc w o' k (lt_of_heap h)).trans h
theorem below_get {W V : World} {k : Nat} {o : Obj} (hb : Below W.heap.size W V) (h : W.heap[k]? = some o) : V.heap[k]? = some o := (hb.block k (lt_of_heap h)).trans h
theorem bcell {W w1 : World} (hb : Below W.heap.size W w1) : (∀ b o, b < W.heap.size → w1.cell? ⟨b, o, none⟩ = W.cell? ⟨b, o, none⟩) ∧ (∀ b o, b < W.heap.size → w1.frozen? ⟨b, o, none⟩ = W.frozen? ⟨b, o, none⟩) :=
  ⟨fun b o h => hb.cell (p := ⟨b, o, none⟩) h, fun b o h => hb.frozen (p := ⟨b, o, none⟩) h⟩
set_option maxHeartbeats 4000000 in
theorem reduce_any {a0 a1 a2 a3 : Int} {a m g : Nat} (ha : W4 a0 a1 a2 a3 a) (w : World) (hF : IsM w g m) :
   Calls Try.prog 19 #[.pointer (some ⟨g, 0, none⟩), .agg #[.int .u64 a0, .int .u64 a1, .int .u64 a2, .int .u64 a3]] w fun e w' =>
    e = .returned (.agg #[.int .u64 (w0 (a % m) : Nat), .int .u64 (w1 (a % m) : Nat), .int .u64 (w2 (a % m) : Nat), .int .u64 (w3 (a % m) : Nat)]) ∧ Below w.heap.size w w' := by
  obtain ⟨rfl, rfl, rfl, rfl, la⟩ := ha
  have hla := Lib.hid la
  have HF := Lib.hid hF
  obtain ⟨v4, v5, v6, v7, v8, hff⟩ := hF.blk
  have hgl := lt_of_heap hff
  clear la hF
  have cm0 : w.cell? ⟨g, 0, none⟩ = some (.int .u64 (w0 (m) : Nat)) := by rw [cell_of_row _ _ _ _ _ _ hff]; rfl
  have cm1 : w.cell? ⟨g, 1, none⟩ = some (.int .u64 (w1 (m) : Nat)) := by rw [cell_of_row _ _ _ _ _ _ hff]; rfl
  have cm2 : w.cell? ⟨g, 2, none⟩ = some (.int .u64 (w2 (m) : Nat)) := by rw [cell_of_row _ _ _ _ _ _ hff]; rfl
  have cm3 : w.cell? ⟨g, 3, none⟩ = some (.int .u64 (w3 (m) : Nat)) := by rw [cell_of_row _ _ _ _ _ _ hff]; rfl
  go_enter Try.func19, Try.ntmps19
  go_wp2_with fail
  obtain ⟨V0, hV0⟩ : ∃ V, (w.alloc (.cells #[.int .u64 (w0 (a) : Nat), .int .u64 (w1 (a) : Nat), .int .u64 (w2 (a) : Nat), .int .u64 (w3 (a) : Nat)] 24)).alloc (.cells #[.int .u64 0, .int .u64 0, .int .u64 0, .int .u64 0] 24) = V := ⟨_, rfl⟩
  rw [hV0]
  have g0 : V0.heap[w.heap.size]? = some (.cells #[.int .u64 (w0 (a) : Nat), .int .u64 (w1 (a) : Nat), .int .u64 (w2 (a) : Nat), .int .u64 (w3 (a) : Nat)] 24 (0, 0)) := by
    rw [← hV0]; simp only [alloc_at, World.size_alloc]; repeat (first | rw [if_pos trivial] | rw [if_pos (by omega)] | rw [if_neg (by omega)])
  have g1 : V0.heap[w.heap.size + 1]? = some (.cells #[.int .u64 0, .int .u64 0, .int .u64 0, .int .u64 0] 24 (0, 0)) := by
    rw [← hV0]; simp only [alloc_at, World.size_alloc]; repeat (first | rw [if_pos trivial] | rw [if_pos (by omega)] | rw [if_neg (by omega)])
  have gs : V0.heap.size = w.heap.size + 2 := by rw [← hV0]; simp only [World.size_alloc]
  have gb : Below w.heap.size w V0 := by
    rw [← hV0]
    repeat (first | exact Below.refl _ _ | refine Below.drew ?_ | refine bal ?_ _)
  have gf := (gb.block g hgl).trans hff
  clear hV0 cm0 cm1 cm2 cm3
  have ca0 : V0.cell? ⟨w.heap.size, 0, none⟩ = some (.int .u64 (w0 (a) : Nat)) := by rw [cell_of_row _ _ _ _ _ _ g0]; rfl
  have ca1 : V0.cell? ⟨w.heap.size, 1, none⟩ = some (.int .u64 (w1 (a) : Nat)) := by rw [cell_of_row _ _ _ _ _ _ g0]; rfl
  have ca2 : V0.cell? ⟨w.heap.size, 2, none⟩ = some (.int .u64 (w2 (a) : Nat)) := by rw [cell_of_row _ _ _ _ _ _ g0]; rfl
  have ca3 : V0.cell? ⟨w.heap.size, 3, none⟩ = some (.int .u64 (w3 (a) : Nat)) := by rw [cell_of_row _ _ _ _ _ _ g0]; rfl
  have cm0 : V0.cell? ⟨g, 0, none⟩ = some (.int .u64 (w0 (m) : Nat)) := by rw [cell_of_row _ _ _ _ _ _ gf]; rfl
  have cm1 : V0.cell? ⟨g, 1, none⟩ = some (.int .u64 (w1 (m) : Nat)) := by rw [cell_of_row _ _ _ _ _ _ gf]; rfl
  have cm2 : V0.cell? ⟨g, 2, none⟩ = some (.int .u64 (w2 (m) : Nat)) := by rw [cell_of_row _ _ _ _ _ _ gf]; rfl
  have cm3 : V0.cell? ⟨g, 3, none⟩ = some (.int .u64 (w3 (m) : Nat)) := by rw [cell_of_row _ _ _ _ _ _ gf]; rfl
  go_region_held3 (fun w' => w'.cell? ⟨w.heap.size, 0, none⟩ = some (.int .u64 (w0 (a) : Nat)) ∧ w'.cell? ⟨w.heap.size, 1, none⟩ = some (.int .u64 (w1 (a) : Nat)) ∧ w'.cell? ⟨w.heap.size, 2, none⟩ = some (.int .u64 (w2 (a) : Nat)) ∧ w'.cell? ⟨w.heap.size, 3, none⟩ = some (.int .u64 (w3 (a) : Nat)) ∧ w'.cell? ⟨g, 0, none⟩ = some (.int .u64 (w0 (m) : Nat)) ∧ w'.cell? ⟨g, 1, none⟩ = some (.int .u64 (w1 (m) : Nat)) ∧ w'.cell? ⟨g, 2, none⟩ = some (.int .u64 (w2 (m) : Nat)) ∧ w'.cell? ⟨g, 3, none⟩ = some (.int .u64 (w3 (m) : Nat))) (first | exact ⟨ca0, ca1, ca2, ca3, cm0, cm1, cm2, cm3⟩ | exact ⟨p0, p1, p2, p3, r0, r1, r2, r3⟩) ((go_at_call 50; refine (cmp_any (W4.mk' hla.out) (W4.mk' HF.out.lt) _).mono ?_; rintro e V1 ⟨rfl, hb1⟩; (have h0 := (hb1.block (w.heap.size) (by show w.heap.size < V0.heap.size; omega)).trans g0); (have hf1 := (hb1.block g (by show g < V0.heap.size; omega)).trans gf); (have p0 : V1.cell? ⟨w.heap.size, 0, none⟩ = some (.int .u64 (w0 (a) : Nat)) := by rw [cell_of_row _ _ _ _ _ _ h0]; rfl); (have p1 : V1.cell? ⟨w.heap.size, 1, none⟩ = some (.int .u64 (w1 (a) : Nat)) := by rw [cell_of_row _ _ _ _ _ _ h0]; rfl); (have p2 : V1.cell? ⟨w.heap.size, 2, none⟩ = some (.int .u64 (w2 (a) : Nat)) := by rw [cell_of_row _ _ _ _ _ _ h0]; rfl); (have p3 : V1.cell? ⟨w.heap.size, 3, none⟩ = some (.int .u64 (w3 (a) : Nat)) := by rw [cell_of_row _ _ _ _ _ _ h0]; rfl); (have r0 : V1.cell? ⟨g, 0, none⟩ = some (.int .u64 (w0 (m) : Nat)) := by rw [cell_of_row _ _ _ _ _ _ hf1]; rfl); (have r1 : V1.cell? ⟨g, 1, none⟩ = some (.int .u64 (w1 (m) : Nat)) := by rw [cell_of_row _ _ _ _ _ _ hf1]; rfl); (have r2 : V1.cell? ⟨g, 2, none⟩ = some (.int .u64 (w2 (m) : Nat)) := by rw [cell_of_row _ _ _ _ _ _ hf1]; rfl); (have r3 : V1.cell? ⟨g, 3, none⟩ = some (.int .u64 (w3 (m) : Nat)) := by rw [cell_of_row _ _ _ _ _ _ hf1]; rfl)))
  go_simp
  have h1 := (hb1.block (w.heap.size + 1) (by show w.heap.size + 1 < V0.heap.size; omega)).trans g1
  have k1 : Below w.heap.size w V1 := bcl gb.drew hb1
  have ks : w.heap.size + 1 < V1.heap.size := Nat.lt_of_lt_of_le (show w.heap.size + 1 < V0.heap.size by omega) hb1.size
  clear ca0 ca1 ca2 ca3 cm0 cm1 cm2 cm3 p0 p1 p2 p3 r0 r1 r2 r3
  by_cases hc : a < m
  · have hc' : cmpI a m < (0 : Int) := by rw [cmp_m hc]; omega
    have HE := Lib.hid (Nat.mod_eq_of_lt hc)
    clear hc
    have z0 : V1.cell? ⟨w.heap.size + 1, 0, none⟩ = some (.int .u64 0) := by rw [cell_of_row _ _ _ _ _ _ h1]; rfl
    have z1 : V1.cell? ⟨w.heap.size + 1, 1, none⟩ = some (.int .u64 0) := by rw [cell_of_row _ _ _ _ _ _ h1]; rfl
    have z2 : V1.cell? ⟨w.heap.size + 1, 2, none⟩ = some (.int .u64 0) := by rw [cell_of_row _ _ _ _ _ _ h1]; rfl
    have z3 : V1.cell? ⟨w.heap.size + 1, 3, none⟩ = some (.int .u64 0) := by rw [cell_of_row _ _ _ _ _ _ h1]; rfl
    have fz0 := frozen_of_row _ _ 0 _ _ h1
    have fz1 := frozen_of_row _ _ 1 _ _ h1
    have fz2 := frozen_of_row _ _ 2 _ _ h1
    have fz3 := frozen_of_row _ _ 3 _ _ h1
    go_wp2_with fail
    have P := put4 (.int .u64 (w0 (a) : Nat)) (.int .u64 (w1 (a) : Nat)) (.int .u64 (w2 (a) : Nat)) (.int .u64 (w3 (a) : Nat)) h1
    replace P := put_hid P
    obtain ⟨V9, hV9, P⟩ := P
    rw [hV9]
    have k9 := P.below (by omega) k1
    have P9 := P.here
    have v0 : V9.cell? ⟨w.heap.size + 1, 0, none⟩ = some (.int .u64 (w0 (a) : Nat)) := by rw [cell_of_row _ _ _ _ _ _ P9]; rfl
    have v1 : V9.cell? ⟨w.heap.size + 1, 1, none⟩ = some (.int .u64 (w1 (a) : Nat)) := by rw [cell_of_row _ _ _ _ _ _ P9]; rfl
    have v2 : V9.cell? ⟨w.heap.size + 1, 2, none⟩ = some (.int .u64 (w2 (a) : Nat)) := by rw [cell_of_row _ _ _ _ _ _ P9]; rfl
    have v3 : V9.cell? ⟨w.heap.size + 1, 3, none⟩ = some (.int .u64 (w3 (a) : Nat)) := by rw [cell_of_row _ _ _ _ _ _ P9]; rfl
    refine bodyPost_ret (v := _) (by simp [results, Try.results19, go_sem, v0, v1, v2, v3]; rfl) rfl ?_
    rw [HE.out]
    exact ⟨rfl, k9⟩
  · have hc' : (0 : Int) ≤ cmpI a m := by unfold cmpI; rw [if_neg (by omega)]; split <;> omega
    clear hc
    have hz : m ≠ 0 := by have := HF.out.three; omega
    have HZ := Lib.hid hz
    clear hz
    have ca0 : V1.cell? ⟨w.heap.size, 0, none⟩ = some (.int .u64 (w0 (a) : Nat)) := by rw [cell_of_row _ _ _ _ _ _ h0]; rfl
    have ca1 : V1.cell? ⟨w.heap.size, 1, none⟩ = some (.int .u64 (w1 (a) : Nat)) := by rw [cell_of_row _ _ _ _ _ _ h0]; rfl
    have ca2 : V1.cell? ⟨w.heap.size, 2, none⟩ = some (.int .u64 (w2 (a) : Nat)) := by rw [cell_of_row _ _ _ _ _ _ h0]; rfl
    have ca3 : V1.cell? ⟨w.heap.size, 3, none⟩ = some (.int .u64 (w3 (a) : Nat)) := by rw [cell_of_row _ _ _ _ _ _ h0]; rfl
    have cm0 : V1.cell? ⟨g, 0, none⟩ = some (.int .u64 (w0 (m) : Nat)) := by rw [cell_of_row _ _ _ _ _ _ hf1]; rfl
    have cm1 : V1.cell? ⟨g, 1, none⟩ = some (.int .u64 (w1 (m) : Nat)) := by rw [cell_of_row _ _ _ _ _ _ hf1]; rfl
    have cm2 : V1.cell? ⟨g, 2, none⟩ = some (.int .u64 (w2 (m) : Nat)) := by rw [cell_of_row _ _ _ _ _ _ hf1]; rfl
    have cm3 : V1.cell? ⟨g, 3, none⟩ = some (.int .u64 (w3 (m) : Nat)) := by rw [cell_of_row _ _ _ _ _ _ hf1]; rfl
    have hB0 : w.heap.size < V1.heap.size := by omega
    have hB1 : g < V1.heap.size := by omega
    have n0 : w.heap.size ≠ V1.heap.size := by omega
    have n1 : g ≠ V1.heap.size := by omega
    have n2 : w.heap.size ≠ V1.heap.size + 1 := by omega
    have n3 : g ≠ V1.heap.size + 1 := by omega
    have m0 : V1.heap.size ≠ w.heap.size := by omega
    have m1 : V1.heap.size ≠ g := by omega
    have m2 : V1.heap.size + 1 ≠ w.heap.size := by omega
    have m3 : V1.heap.size + 1 ≠ g := by omega
    go_upto_region 5 with fail
    go_cut [6] (fun s6 wx => ∃ bx : Nat, s6 = .pointer (some ⟨bx, 0, none⟩) ∧ wx.heap[bx]? = some (.cells #[.int .u64 (w0 (a % m) : Nat), .int .u64 (w1 (a % m) : Nat), .int .u64 (w2 (a % m) : Nat), .int .u64 (w3 (a % m) : Nat)] 24 (0, 0)) ∧ wx.heap[w.heap.size + 1]? = some (.cells #[.int .u64 0, .int .u64 0, .int .u64 0, .int .u64 0] 24 (0, 0)) ∧ Below w.heap.size w wx)
    case first =>
      go_region_held3 (fun w' => w'.cell? ⟨w.heap.size, 0, none⟩ = some (.int .u64 (w0 (a) : Nat)) ∧ w'.cell? ⟨w.heap.size, 1, none⟩ = some (.int .u64 (w1 (a) : Nat)) ∧ w'.cell? ⟨w.heap.size, 2, none⟩ = some (.int .u64 (w2 (a) : Nat)) ∧ w'.cell? ⟨w.heap.size, 3, none⟩ = some (.int .u64 (w3 (a) : Nat)) ∧ w'.cell? ⟨g, 0, none⟩ = some (.int .u64 (w0 (m) : Nat)) ∧ w'.cell? ⟨g, 1, none⟩ = some (.int .u64 (w1 (m) : Nat)) ∧ w'.cell? ⟨g, 2, none⟩ = some (.int .u64 (w2 (m) : Nat)) ∧ w'.cell? ⟨g, 3, none⟩ = some (.int .u64 (w3 (m) : Nat))) (go_keep) ((go_at_call 62; refine (div_any (W4.mk' hla.out) (W4.mk' HF.out.lt) HZ.out _).mono ?_; rintro e V2 ⟨q0, q1, q2, q3, rfl, hb2⟩; obtain ⟨hc2, hf2⟩ := bcell hb2; (have hs2 := hb2.size); (have h02 := below_get hb2 (by first | exact h0 | exact ak h0 | exact ak (ak h0))); (have hf12 := below_get hb2 (by first | exact hf1 | exact ak hf1 | exact ak (ak hf1))); (have h12 := below_get hb2 (by first | exact h1 | exact ak h1 | exact ak (ak h1))); (have k2 : Below w.heap.size w V2 := bcl (by first | exact k1 | exact k1.drew | exact bal k1 _ | exact (bal k1 _).drew | exact bal (bal k1 _) _ | exact (bal (bal k1 _) _).drew) hb2); (have pp0 : V2.cell? ⟨w.heap.size, 0, none⟩ = some (.int .u64 (w0 (a) : Nat)) := by rw [cell_of_row _ _ _ _ _ _ h02]; rfl); (have pp1 : V2.cell? ⟨w.heap.size, 1, none⟩ = some (.int .u64 (w1 (a) : Nat)) := by rw [cell_of_row _ _ _ _ _ _ h02]; rfl); (have pp2 : V2.cell? ⟨w.heap.size, 2, none⟩ = some (.int .u64 (w2 (a) : Nat)) := by rw [cell_of_row _ _ _ _ _ _ h02]; rfl); (have pp3 : V2.cell? ⟨w.heap.size, 3, none⟩ = some (.int .u64 (w3 (a) : Nat)) := by rw [cell_of_row _ _ _ _ _ _ h02]; rfl); (have rr0 : V2.cell? ⟨g, 0, none⟩ = some (.int .u64 (w0 (m) : Nat)) := by rw [cell_of_row _ _ _ _ _ _ hf12]; rfl); (have rr1 : V2.cell? ⟨g, 1, none⟩ = some (.int .u64 (w1 (m) : Nat)) := by rw [cell_of_row _ _ _ _ _ _ hf12]; rfl); (have rr2 : V2.cell? ⟨g, 2, none⟩ = some (.int .u64 (w2 (m) : Nat)) := by rw [cell_of_row _ _ _ _ _ _ hf12]; rfl); (have rr3 : V2.cell? ⟨g, 3, none⟩ = some (.int .u64 (w3 (m) : Nat)) := by rw [cell_of_row _ _ _ _ _ _ hf12]; rfl); (have lt0 := lt_of_heap h02); (have lt1 := lt_of_heap hf12); (try ((have bx0 : V2.heap[V1.heap.size]? = some (.cells #[.int .u64 0, .int .u64 0, .int .u64 0, .int .u64 0] 24 (0, 0)) := below_get hb2 (by first | exact heap_alloc_new V1 _ | exact ak (heap_alloc_new V1 _))); (have bxl0 := lt_of_heap bx0); (have bxm0 := Nat.ne_of_lt bxl0); (have bxo0 := (Nat.ne_of_lt bxl0).symm); (have bx0c0 : V2.cell? ⟨V1.heap.size, 0, none⟩ = some (.int .u64 0) := by rw [cell_of_row _ _ _ _ _ _ bx0]; rfl); (have bx0f0 := frozen_of_row _ _ 0 _ _ bx0); (have bx0g0 : ∀ o, (V2.alloc o).cell? ⟨V1.heap.size, 0, none⟩ = some (.int .u64 0) := fun o => by rw [cell_of_row _ _ _ _ _ _ (ak bx0)]; rfl); (have bx0h0 : ∀ o, (V2.alloc o).frozen? ⟨V1.heap.size, 0, none⟩ = false := fun o => frozen_of_row _ _ 0 _ _ (ak bx0)); (have bx0c1 : V2.cell? ⟨V1.heap.size, 1, none⟩ = some (.int .u64 0) := by rw [cell_of_row _ _ _ _ _ _ bx0]; rfl); (have bx0f1 := frozen_of_row _ _ 1 _ _ bx0); (have bx0g1 : ∀ o, (V2.alloc o).cell? ⟨V1.heap.size, 1, none⟩ = some (.int .u64 0) := fun o => by rw [cell_of_row _ _ _ _ _ _ (ak bx0)]; rfl); (have bx0h1 : ∀ o, (V2.alloc o).frozen? ⟨V1.heap.size, 1, none⟩ = false := fun o => frozen_of_row _ _ 1 _ _ (ak bx0)); (have bx0c2 : V2.cell? ⟨V1.heap.size, 2, none⟩ = some (.int .u64 0) := by rw [cell_of_row _ _ _ _ _ _ bx0]; rfl); (have bx0f2 := frozen_of_row _ _ 2 _ _ bx0); (have bx0g2 : ∀ o, (V2.alloc o).cell? ⟨V1.heap.size, 2, none⟩ = some (.int .u64 0) := fun o => by rw [cell_of_row _ _ _ _ _ _ (ak bx0)]; rfl); (have bx0h2 : ∀ o, (V2.alloc o).frozen? ⟨V1.heap.size, 2, none⟩ = false := fun o => frozen_of_row _ _ 2 _ _ (ak bx0)); (have bx0c3 : V2.cell? ⟨V1.heap.size, 3, none⟩ = some (.int .u64 0) := by rw [cell_of_row _ _ _ _ _ _ bx0]; rfl); (have bx0f3 := frozen_of_row _ _ 3 _ _ bx0); (have bx0g3 : ∀ o, (V2.alloc o).cell? ⟨V1.heap.size, 3, none⟩ = some (.int .u64 0) := fun o => by rw [cell_of_row _ _ _ _ _ _ (ak bx0)]; rfl); (have bx0h3 : ∀ o, (V2.alloc o).frozen? ⟨V1.heap.size, 3, none⟩ = false := fun o => frozen_of_row _ _ 3 _ _ (ak bx0)))); (try ((have bx1 : V2.heap[V1.heap.size + 1]? = some (.cells #[.int .u64 0, .int .u64 0, .int .u64 0, .int .u64 0] 24 (0, 0)) := below_get hb2 (by have hh := heap_alloc_new (V1.alloc (.cells #[.int .u64 0, .int .u64 0, .int .u64 0, .int .u64 0] 24)) (.cells #[.int .u64 0, .int .u64 0, .int .u64 0, .int .u64 0] 24); rw [World.size_alloc] at hh; exact hh)); (have bxl1 := lt_of_heap bx1); (have bxm1 := Nat.ne_of_lt bxl1); (have bxo1 := (Nat.ne_of_lt bxl1).symm); (have bx1c0 : V2.cell? ⟨V1.heap.size + 1, 0, none⟩ = some (.int .u64 0) := by rw [cell_of_row _ _ _ _ _ _ bx1]; rfl); (have bx1f0 := frozen_of_row _ _ 0 _ _ bx1); (have bx1g0 : ∀ o, (V2.alloc o).cell? ⟨V1.heap.size + 1, 0, none⟩ = some (.int .u64 0) := fun o => by rw [cell_of_row _ _ _ _ _ _ (ak bx1)]; rfl); (have bx1h0 : ∀ o, (V2.alloc o).frozen? ⟨V1.heap.size + 1, 0, none⟩ = false := fun o => frozen_of_row _ _ 0 _ _ (ak bx1)); (have bx1c1 : V2.cell? ⟨V1.heap.size + 1, 1, none⟩ = some (.int .u64 0) := by rw [cell_of_row _ _ _ _ _ _ bx1]; rfl); (have bx1f1 := frozen_of_row _ _ 1 _ _ bx1); (have bx1g1 : ∀ o, (V2.alloc o).cell? ⟨V1.heap.size + 1, 1, none⟩ = some (.int .u64 0) := fun o => by rw [cell_of_row _ _ _ _ _ _ (ak bx1)]; rfl); (have bx1h1 : ∀ o, (V2.alloc o).frozen? ⟨V1.heap.size + 1, 1, none⟩ = false := fun o => frozen_of_row _ _ 1 _ _ (ak bx1)); (have bx1c2 : V2.cell? ⟨V1.heap.size + 1, 2, none⟩ = some (.int .u64 0) := by rw [cell_of_row _ _ _ _ _ _ bx1]; rfl); (have bx1f2 := frozen_of_row _ _ 2 _ _ bx1); (have bx1g2 : ∀ o, (V2.alloc o).cell? ⟨V1.heap.size + 1, 2, none⟩ = some (.int .u64 0) := fun o => by rw [cell_of_row _ _ _ _ _ _ (ak bx1)]; rfl); (have bx1h2 : ∀ o, (V2.alloc o).frozen? ⟨V1.heap.size + 1, 2, none⟩ = false := fun o => frozen_of_row _ _ 2 _ _ (ak bx1)); (have bx1c3 : V2.cell? ⟨V1.heap.size + 1, 3, none⟩ = some (.int .u64 0) := by rw [cell_of_row _ _ _ _ _ _ bx1]; rfl); (have bx1f3 := frozen_of_row _ _ 3 _ _ bx1); (have bx1g3 : ∀ o, (V2.alloc o).cell? ⟨V1.heap.size + 1, 3, none⟩ = some (.int .u64 0) := fun o => by rw [cell_of_row _ _ _ _ _ _ (ak bx1)]; rfl); (have bx1h3 : ∀ o, (V2.alloc o).frozen? ⟨V1.heap.size + 1, 3, none⟩ = false := fun o => frozen_of_row _ _ 3 _ _ (ak bx1)))); (try simp only [World.size_alloc, heap_drew] at hs2 hc2 hf2)))
      all_goals go_wp2_with fail
      all_goals go_meet
      · have e6 := heap_alloc_new (V2.alloc (.cells #[.int .u64 q0, .int .u64 q1, .int .u64 q2, .int .u64 q3] 24)) (.cells #[.int .u64 (w0 (a % m) : Nat), .int .u64 (w1 (a % m) : Nat), .int .u64 (w2 (a % m) : Nat), .int .u64 (w3 (a % m) : Nat)] 24)
        rw [World.size_alloc] at e6
        refine ⟨_, rfl, e6, ak (ak h12), ?_⟩
        first | exact bal (bal k2 _) _ | exact (bal (bal k2 _) _).drew
      · refine ⟨_, rfl, ak (heap_alloc_new V2 _), ak (ak h12), ?_⟩
        first | exact bal (bal k2 _) _ | exact (bal (bal k2 _) _).drew
      · have P0 := put4 (.int .u64 q0) (.int .u64 q1) (.int .u64 q2) (.int .u64 q3) bx0
        have e6 := heap_alloc_new (World.setCell (World.setCell (World.setCell (World.setCell V2 ⟨V1.heap.size, 0, none⟩ (.int .u64 q0)) ⟨V1.heap.size, 1, none⟩ (.int .u64 q1)) ⟨V1.heap.size, 2, none⟩ (.int .u64 q2)) ⟨V1.heap.size, 3, none⟩ (.int .u64 q3)) (.cells #[.int .u64 (w0 (a % m) : Nat), .int .u64 (w1 (a % m) : Nat), .int .u64 (w2 (a % m) : Nat), .int .u64 (w3 (a % m) : Nat)] 24)
        rw [P0.size] at e6
        refine ⟨_, rfl, e6, ak ((P0.there _ (by omega)).trans h12), ?_⟩
        first | exact bal (P0.below (by omega) k2) _ | exact (bal (P0.below (by omega) k2) _).drew
      · have P0 := put4 (.int .u64 q0) (.int .u64 q1) (.int .u64 q2) (.int .u64 q3) bx0
        have P1 := put4 (.int .u64 (w0 (a % m) : Nat)) (.int .u64 (w1 (a % m) : Nat)) (.int .u64 (w2 (a % m) : Nat)) (.int .u64 (w3 (a % m) : Nat)) ((P0.there (V1.heap.size + 1) (by omega)).trans bx1)
        refine ⟨_, rfl, P1.here, (P1.there _ (by omega)).trans ((P0.there _ (by omega)).trans h12), ?_⟩
        first | exact P1.below (by omega) (P0.below (by omega) k2) | exact (P1.below (by omega) (P0.below (by omega) k2)).drew
      · have R0 := put4 (.int .u64 (w0 (a % m) : Nat)) (.int .u64 (w1 (a % m) : Nat)) (.int .u64 (w2 (a % m) : Nat)) (.int .u64 (w3 (a % m) : Nat)) bx0
        refine ⟨_, rfl, ak R0.here, ak ((R0.there _ (by omega)).trans h12), ?_⟩
        first | exact bal (R0.below (by omega) k2) _ | exact (bal (R0.below (by omega) k2) _).drew
      · have P0 := put4 (.int .u64 q0) (.int .u64 q1) (.int .u64 q2) (.int .u64 q3) bx1
        have P1 := put4 (.int .u64 (w0 (a % m) : Nat)) (.int .u64 (w1 (a % m) : Nat)) (.int .u64 (w2 (a % m) : Nat)) (.int .u64 (w3 (a % m) : Nat)) ((P0.there (V1.heap.size) (by omega)).trans bx0)
        refine ⟨_, rfl, P1.here, (P1.there _ (by omega)).trans ((P0.there _ (by omega)).trans h12), ?_⟩
        first | exact P1.below (by omega) (P0.below (by omega) k2) | exact (P1.below (by omega) (P0.below (by omega) k2)).drew
    case rest =>
      obtain ⟨bx, rfl, hbx, h12, k2⟩ := hcut
      have e0 : wc.cell? ⟨bx, 0, none⟩ = some (.int .u64 (w0 (a % m) : Nat)) := by rw [cell_of_row _ _ _ _ _ _ hbx]; rfl
      have e1 : wc.cell? ⟨bx, 1, none⟩ = some (.int .u64 (w1 (a % m) : Nat)) := by rw [cell_of_row _ _ _ _ _ _ hbx]; rfl
      have e2 : wc.cell? ⟨bx, 2, none⟩ = some (.int .u64 (w2 (a % m) : Nat)) := by rw [cell_of_row _ _ _ _ _ _ hbx]; rfl
      have e3 : wc.cell? ⟨bx, 3, none⟩ = some (.int .u64 (w3 (a % m) : Nat)) := by rw [cell_of_row _ _ _ _ _ _ hbx]; rfl
      clear ca0 ca1 ca2 ca3 cm0 cm1 cm2 cm3
      have z0 : wc.cell? ⟨w.heap.size + 1, 0, none⟩ = some (.int .u64 0) := by rw [cell_of_row _ _ _ _ _ _ h12]; rfl
      have z1 : wc.cell? ⟨w.heap.size + 1, 1, none⟩ = some (.int .u64 0) := by rw [cell_of_row _ _ _ _ _ _ h12]; rfl
      have z2 : wc.cell? ⟨w.heap.size + 1, 2, none⟩ = some (.int .u64 0) := by rw [cell_of_row _ _ _ _ _ _ h12]; rfl
      have z3 : wc.cell? ⟨w.heap.size + 1, 3, none⟩ = some (.int .u64 0) := by rw [cell_of_row _ _ _ _ _ _ h12]; rfl
      have fz0 := frozen_of_row _ _ 0 _ _ h12
      have fz1 := frozen_of_row _ _ 1 _ _ h12
      have fz2 := frozen_of_row _ _ 2 _ _ h12
      have fz3 := frozen_of_row _ _ 3 _ _ h12
      go_wp2_with fail
      have P := put4 (.int .u64 (w0 (a % m) : Nat)) (.int .u64 (w1 (a % m) : Nat)) (.int .u64 (w2 (a % m) : Nat)) (.int .u64 (w3 (a % m) : Nat)) h12
      replace P := put_hid P
      obtain ⟨V9, hV9, P⟩ := P
      rw [hV9]
      have k9 := P.below (by omega) k2
      have P9 := P.here
      have v0 : V9.cell? ⟨w.heap.size + 1, 0, none⟩ = some (.int .u64 (w0 (a % m) : Nat)) := by rw [cell_of_row _ _ _ _ _ _ P9]; rfl
      have v1 : V9.cell? ⟨w.heap.size + 1, 1, none⟩ = some (.int .u64 (w1 (a % m) : Nat)) := by rw [cell_of_row _ _ _ _ _ _ P9]; rfl
      have v2 : V9.cell? ⟨w.heap.size + 1, 2, none⟩ = some (.int .u64 (w2 (a % m) : Nat)) := by rw [cell_of_row _ _ _ _ _ _ P9]; rfl
      have v3 : V9.cell? ⟨w.heap.size + 1, 3, none⟩ = some (.int .u64 (w3 (a % m) : Nat)) := by rw [cell_of_row _ _ _ _ _ _ P9]; rfl
      refine bodyPost_ret (v := _) (by simp [results, Try.results19, go_sem, v0, v1, v2, v3]; rfl) rfl ?_
      exact ⟨rfl, k9⟩
end Go.Proofs.Ytgghopmlcpcpkaa
