/- A step of the proof: what a function of the program computes, or a plain law of numbers. -/
import Derived.Test.YtgghopmlcpcpkaaReduce
import Derived.BigQuiet
import Derived.Deep.QuietTactic
import Derived.Deep.RegionHeld3
import Derived.Deep.RegionWith
namespace Go.Proofs.Ytgghopmlcpcpkaa
open Go.RowKit PlainK
set_option linter.unusedVariables false
set_option linter.unusedSimpArgs false
theorem plus_fin {m a b : Nat} (hm : m < 2 ^ 256) (ha : a < m) (hb : b < m) : (if W256 ≤ a + b ∨ m ≤ addm a b then subm (addm a b) m else addm a b) = (a + b) % m := by
  rw [← plus_eq hm ha hb]; rfl
set_option maxHeartbeats 4000000 in
theorem plus_any {a0 a1 a2 a3 b0 b1 b2 b3 : Int} {a b m g : Nat} (ha : W4 a0 a1 a2 a3 a) (hb : W4 b0 b1 b2 b3 b) (w : World) (hF : IsM w g m) (ham : a < m) (hbm : b < m) :
   Calls Try.prog 61 #[.pointer (some ⟨g, 0, none⟩), .agg #[.int .u64 a0, .int .u64 a1, .int .u64 a2, .int .u64 a3], .agg #[.int .u64 b0, .int .u64 b1, .int .u64 b2, .int .u64 b3]] w fun e w' =>
    e = .returned (.agg #[.int .u64 (w0 ((a + b) % m) : Nat), .int .u64 (w1 ((a + b) % m) : Nat), .int .u64 (w2 ((a + b) % m) : Nat), .int .u64 (w3 ((a + b) % m) : Nat)]) ∧ Below w.heap.size w w' := by
  obtain ⟨rfl, rfl, rfl, rfl, la⟩ := ha
  obtain ⟨rfl, rfl, rfl, rfl, lb⟩ := hb
  have hla := Lib.hid la
  have hlb := Lib.hid lb
  have HF := Lib.hid hF
  have HA := Lib.hid ham
  have HB := Lib.hid hbm
  obtain ⟨v4, v5, v6, v7, v8, hff⟩ := hF.blk
  have hgl := lt_of_heap hff
  clear la lb hF ham hbm
  have cm0 : w.cell? ⟨g, 0, none⟩ = some (.int .u64 (w0 (m) : Nat)) := by rw [cell_of_row _ _ _ _ _ _ hff]; rfl
  have cm1 : w.cell? ⟨g, 1, none⟩ = some (.int .u64 (w1 (m) : Nat)) := by rw [cell_of_row _ _ _ _ _ _ hff]; rfl
  have cm2 : w.cell? ⟨g, 2, none⟩ = some (.int .u64 (w2 (m) : Nat)) := by rw [cell_of_row _ _ _ _ _ _ hff]; rfl
  have cm3 : w.cell? ⟨g, 3, none⟩ = some (.int .u64 (w3 (m) : Nat)) := by rw [cell_of_row _ _ _ _ _ _ hff]; rfl
  go_enter Try.func61, Try.ntmps61
  go_wp2_with fail
  refine (add_any (W4.mk' hla.out) (W4.mk' hlb.out) _).mono ?_
  rintro e V1 ⟨rfl, hb1⟩
  have g2 : V1.heap[w.heap.size + 2]? = some (.cells #[.int .u64 0, .int .u64 0, .int .u64 0, .int .u64 0] 24 (0, 0)) := by
    rw [hb1.block _ (by simp only [World.size_alloc]; omega)]; simp only [alloc_at, World.size_alloc]; repeat (first | rw [if_pos trivial] | rw [if_pos (by omega)] | rw [if_neg (by omega)])
  have gb : Below w.heap.size w V1 := bcl (by repeat (first | exact Below.refl _ _ | refine Below.drew ?_ | refine bal ?_ _)) hb1
  have gs : w.heap.size + 2 < V1.heap.size := lt_of_heap g2
  have gf := (gb.block g hgl).trans hff
  clear hb1 cm0 cm1 cm2 cm3
  go_wp2_with fail
  obtain ⟨V2, hV2⟩ : ∃ V, V1.alloc (.cells #[.int .u64 (w0 (addm a b) : Nat), .int .u64 (w1 (addm a b) : Nat), .int .u64 (w2 (addm a b) : Nat), .int .u64 (w3 (addm a b) : Nat)] 24) = V := ⟨_, rfl⟩
  rw [hV2]
  obtain ⟨ob, hob⟩ : ∃ n, V1.heap.size = n := ⟨_, rfl⟩
  rw [hob]
  have ho2 : V2.heap[ob]? = some (.cells #[.int .u64 (w0 (addm a b) : Nat), .int .u64 (w1 (addm a b) : Nat), .int .u64 (w2 (addm a b) : Nat), .int .u64 (w3 (addm a b) : Nat)] 24 (0, 0)) := by rw [← hV2, ← hob]; exact heap_alloc_new _ _
  have h22 : V2.heap[w.heap.size + 2]? = some (.cells #[.int .u64 0, .int .u64 0, .int .u64 0, .int .u64 0] 24 (0, 0)) := by rw [← hV2]; exact ak g2
  have hf2 : V2.heap[g]? = some (.cells #[.int .u64 (w0 (m) : Nat), .int .u64 (w1 (m) : Nat), .int .u64 (w2 (m) : Nat), .int .u64 (w3 (m) : Nat), v4, v5, v6, v7, v8] 90 (0, 0)) := by rw [← hV2]; exact ak gf
  have k2 : Below w.heap.size w V2 := by rw [← hV2]; exact bal gb _
  have ho : w.heap.size + 2 < ob := by omega
  clear hV2 hob g2 gb gs gf
  have co0 : V2.cell? ⟨ob, 0, none⟩ = some (.int .u64 (w0 (addm a b) : Nat)) := by rw [cell_of_row _ _ _ _ _ _ ho2]; rfl
  have co1 : V2.cell? ⟨ob, 1, none⟩ = some (.int .u64 (w1 (addm a b) : Nat)) := by rw [cell_of_row _ _ _ _ _ _ ho2]; rfl
  have co2 : V2.cell? ⟨ob, 2, none⟩ = some (.int .u64 (w2 (addm a b) : Nat)) := by rw [cell_of_row _ _ _ _ _ _ ho2]; rfl
  have co3 : V2.cell? ⟨ob, 3, none⟩ = some (.int .u64 (w3 (addm a b) : Nat)) := by rw [cell_of_row _ _ _ _ _ _ ho2]; rfl
  have cm0 : V2.cell? ⟨g, 0, none⟩ = some (.int .u64 (w0 (m) : Nat)) := by rw [cell_of_row _ _ _ _ _ _ hf2]; rfl
  have cm1 : V2.cell? ⟨g, 1, none⟩ = some (.int .u64 (w1 (m) : Nat)) := by rw [cell_of_row _ _ _ _ _ _ hf2]; rfl
  have cm2 : V2.cell? ⟨g, 2, none⟩ = some (.int .u64 (w2 (m) : Nat)) := by rw [cell_of_row _ _ _ _ _ _ hf2]; rfl
  have cm3 : V2.cell? ⟨g, 3, none⟩ = some (.int .u64 (w3 (m) : Nat)) := by rw [cell_of_row _ _ _ _ _ _ hf2]; rfl
  have hfin : (if W256 ≤ a + b ∨ m ≤ addm a b then subm (addm a b) m else addm a b) = (a + b) % m := plus_fin HF.out.lt HA.out HB.out
  have HFN := Lib.hid hfin
  clear hfin
  have hoV2 := ho2
  have h2V2 := h22
  have hfV2 := hf2
  have kV2 := k2
  by_cases hov : W256 ≤ a + b
  · have hd : decide (W256 ≤ a + b) = true := decide_eq_true hov
    have HS : Hid (subm (addm a b) m = (a + b) % m) := by
      have := HFN.out; rw [if_pos (Or.inl hov)] at this; exact this
    clear hov
    go_quiet (fail)
    go_wp2_with fail
    go_region_with (go_at_call 31; refine (sub_any (W4.mk' (addm_lt a b)) (W4.mk' HF.out.lt) _).mono ?_; rintro e V8 ⟨rfl, hb8⟩; (have ho8 := below_get hb8 (show (V2).heap[ob]? = _ from hoV2)); (have hf8 := below_get hb8 (show (V2).heap[g]? = _ from hfV2)); (have h28 := below_get hb8 (show (V2).heap[w.heap.size + 2]? = _ from h2V2)); (have k8 := bcl (by first | exact kV2 | exact kV2.drew | exact kV2.trans ⟨rfl, rfl, rfl, Nat.le_refl _, fun _ _ => rfl⟩) hb8); (have p0 : V8.cell? ⟨ob, 0, none⟩ = some (.int .u64 (w0 (addm a b) : Nat)) := by rw [cell_of_row _ _ _ _ _ _ ho8]; rfl); (have p1 : V8.cell? ⟨ob, 1, none⟩ = some (.int .u64 (w1 (addm a b) : Nat)) := by rw [cell_of_row _ _ _ _ _ _ ho8]; rfl); (have p2 : V8.cell? ⟨ob, 2, none⟩ = some (.int .u64 (w2 (addm a b) : Nat)) := by rw [cell_of_row _ _ _ _ _ _ ho8]; rfl); (have p3 : V8.cell? ⟨ob, 3, none⟩ = some (.int .u64 (w3 (addm a b) : Nat)) := by rw [cell_of_row _ _ _ _ _ _ ho8]; rfl); (have r0 : V8.cell? ⟨g, 0, none⟩ = some (.int .u64 (w0 (m) : Nat)) := by rw [cell_of_row _ _ _ _ _ _ hf8]; rfl); (have r1 : V8.cell? ⟨g, 1, none⟩ = some (.int .u64 (w1 (m) : Nat)) := by rw [cell_of_row _ _ _ _ _ _ hf8]; rfl); (have r2 : V8.cell? ⟨g, 2, none⟩ = some (.int .u64 (w2 (m) : Nat)) := by rw [cell_of_row _ _ _ _ _ _ hf8]; rfl); (have r3 : V8.cell? ⟨g, 3, none⟩ = some (.int .u64 (w3 (m) : Nat)) := by rw [cell_of_row _ _ _ _ _ _ hf8]; rfl); (have fo0 := frozen_of_row _ _ 0 _ _ ho8); (have fo1 := frozen_of_row _ _ 1 _ _ ho8); (have fo2 := frozen_of_row _ _ 2 _ _ ho8); (have fo3 := frozen_of_row _ _ 3 _ _ ho8))
    all_goals go_simp
    all_goals
      have Q := put4 (.int .u64 (w0 (subm (addm a b) m) : Nat)) (.int .u64 (w1 (subm (addm a b) m) : Nat)) (.int .u64 (w2 (subm (addm a b) m) : Nat)) (.int .u64 (w3 (subm (addm a b) m) : Nat)) ho8
      obtain ⟨VA, hVA⟩ : ∃ V, World.setCell (World.setCell (World.setCell (World.setCell V8 ⟨ob, 0, none⟩ (.int .u64 (w0 (subm (addm a b) m) : Nat))) ⟨ob, 1, none⟩ (.int .u64 (w1 (subm (addm a b) m) : Nat))) ⟨ob, 2, none⟩ (.int .u64 (w2 (subm (addm a b) m) : Nat))) ⟨ob, 3, none⟩ (.int .u64 (w3 (subm (addm a b) m) : Nat)) = V := ⟨_, rfl⟩
      rw [hVA] at Q ⊢
      have hoVA := Q.here
      have h2VA := (Q.there (w.heap.size + 2) (by omega)).trans h28
      have kVA := Q.below (by omega) k8
      clear co0 co1 co2 co3 cm0 cm1 cm2 cm3 p0 p1 p2 p3 r0 r1 r2 r3 fo0 fo1 fo2 fo3
      have z0 : VA.cell? ⟨w.heap.size + 2, 0, none⟩ = some (.int .u64 0) := by rw [cell_of_row _ _ _ _ _ _ h2VA]; rfl
      have z1 : VA.cell? ⟨w.heap.size + 2, 1, none⟩ = some (.int .u64 0) := by rw [cell_of_row _ _ _ _ _ _ h2VA]; rfl
      have z2 : VA.cell? ⟨w.heap.size + 2, 2, none⟩ = some (.int .u64 0) := by rw [cell_of_row _ _ _ _ _ _ h2VA]; rfl
      have z3 : VA.cell? ⟨w.heap.size + 2, 3, none⟩ = some (.int .u64 0) := by rw [cell_of_row _ _ _ _ _ _ h2VA]; rfl
      have fz0 := frozen_of_row _ _ 0 _ _ h2VA
      have fz1 := frozen_of_row _ _ 1 _ _ h2VA
      have fz2 := frozen_of_row _ _ 2 _ _ h2VA
      have fz3 := frozen_of_row _ _ 3 _ _ h2VA
      have u0 : VA.cell? ⟨ob, 0, none⟩ = some (.int .u64 (w0 (subm (addm a b) m) : Nat)) := by rw [cell_of_row _ _ _ _ _ _ hoVA]; rfl
      have u1 : VA.cell? ⟨ob, 1, none⟩ = some (.int .u64 (w1 (subm (addm a b) m) : Nat)) := by rw [cell_of_row _ _ _ _ _ _ hoVA]; rfl
      have u2 : VA.cell? ⟨ob, 2, none⟩ = some (.int .u64 (w2 (subm (addm a b) m) : Nat)) := by rw [cell_of_row _ _ _ _ _ _ hoVA]; rfl
      have u3 : VA.cell? ⟨ob, 3, none⟩ = some (.int .u64 (w3 (subm (addm a b) m) : Nat)) := by rw [cell_of_row _ _ _ _ _ _ hoVA]; rfl
      go_wp2_with fail
      have P := put4 (.int .u64 (w0 (subm (addm a b) m) : Nat)) (.int .u64 (w1 (subm (addm a b) m) : Nat)) (.int .u64 (w2 (subm (addm a b) m) : Nat)) (.int .u64 (w3 (subm (addm a b) m) : Nat)) h2VA
      replace P := put_hid P
      obtain ⟨V9, hV9, P⟩ := P
      rw [hV9]
      have k9 := P.below (by omega) kVA
      have P9 := P.here
      have v0 : V9.cell? ⟨w.heap.size + 2, 0, none⟩ = some (.int .u64 (w0 (subm (addm a b) m) : Nat)) := by rw [cell_of_row _ _ _ _ _ _ P9]; rfl
      have v1 : V9.cell? ⟨w.heap.size + 2, 1, none⟩ = some (.int .u64 (w1 (subm (addm a b) m) : Nat)) := by rw [cell_of_row _ _ _ _ _ _ P9]; rfl
      have v2 : V9.cell? ⟨w.heap.size + 2, 2, none⟩ = some (.int .u64 (w2 (subm (addm a b) m) : Nat)) := by rw [cell_of_row _ _ _ _ _ _ P9]; rfl
      have v3 : V9.cell? ⟨w.heap.size + 2, 3, none⟩ = some (.int .u64 (w3 (subm (addm a b) m) : Nat)) := by rw [cell_of_row _ _ _ _ _ _ P9]; rfl
      refine bodyPost_ret (v := _) (by simp [results, Try.results61, go_sem, v0, v1, v2, v3]; rfl) rfl ?_
      rw [← HS.out]
      exact ⟨rfl, k9⟩

  · have hd : decide (W256 ≤ a + b) = false := decide_eq_false hov
    have HOV := Lib.hid hov
    clear hov
    go_region_held3 (fun w' => w'.cell? ⟨ob, 0, none⟩ = some (.int .u64 (w0 (addm a b) : Nat)) ∧ w'.cell? ⟨ob, 1, none⟩ = some (.int .u64 (w1 (addm a b) : Nat)) ∧ w'.cell? ⟨ob, 2, none⟩ = some (.int .u64 (w2 (addm a b) : Nat)) ∧ w'.cell? ⟨ob, 3, none⟩ = some (.int .u64 (w3 (addm a b) : Nat)) ∧ w'.cell? ⟨g, 0, none⟩ = some (.int .u64 (w0 (m) : Nat)) ∧ w'.cell? ⟨g, 1, none⟩ = some (.int .u64 (w1 (m) : Nat)) ∧ w'.cell? ⟨g, 2, none⟩ = some (.int .u64 (w2 (m) : Nat)) ∧ w'.cell? ⟨g, 3, none⟩ = some (.int .u64 (w3 (m) : Nat))) (first | exact ⟨co0, co1, co2, co3, cm0, cm1, cm2, cm3⟩ | exact ⟨p0, p1, p2, p3, r0, r1, r2, r3⟩) ((go_at_call 50; refine (cmp_any (W4.mk' (addm_lt a b)) (W4.mk' HF.out.lt) _).mono ?_; rintro e V3 ⟨rfl, hb3⟩; (have hoV3 := below_get hb3 (show V2.heap[ob]? = _ from ho2)); (have hfV3 := below_get hb3 (show V2.heap[g]? = _ from hf2)); (have h2V3 := below_get hb3 (show V2.heap[w.heap.size + 2]? = _ from h22)); (have kV3 := bcl (by first | exact k2 | exact k2.drew) hb3); (have p0 : V3.cell? ⟨ob, 0, none⟩ = some (.int .u64 (w0 (addm a b) : Nat)) := by rw [cell_of_row _ _ _ _ _ _ hoV3]; rfl); (have p1 : V3.cell? ⟨ob, 1, none⟩ = some (.int .u64 (w1 (addm a b) : Nat)) := by rw [cell_of_row _ _ _ _ _ _ hoV3]; rfl); (have p2 : V3.cell? ⟨ob, 2, none⟩ = some (.int .u64 (w2 (addm a b) : Nat)) := by rw [cell_of_row _ _ _ _ _ _ hoV3]; rfl); (have p3 : V3.cell? ⟨ob, 3, none⟩ = some (.int .u64 (w3 (addm a b) : Nat)) := by rw [cell_of_row _ _ _ _ _ _ hoV3]; rfl); (have r0 : V3.cell? ⟨g, 0, none⟩ = some (.int .u64 (w0 (m) : Nat)) := by rw [cell_of_row _ _ _ _ _ _ hfV3]; rfl); (have r1 : V3.cell? ⟨g, 1, none⟩ = some (.int .u64 (w1 (m) : Nat)) := by rw [cell_of_row _ _ _ _ _ _ hfV3]; rfl); (have r2 : V3.cell? ⟨g, 2, none⟩ = some (.int .u64 (w2 (m) : Nat)) := by rw [cell_of_row _ _ _ _ _ _ hfV3]; rfl); (have r3 : V3.cell? ⟨g, 3, none⟩ = some (.int .u64 (w3 (m) : Nat)) := by rw [cell_of_row _ _ _ _ _ _ hfV3]; rfl)))
    go_simp
    clear co0 co1 co2 co3 cm0 cm1 cm2 cm3 p0 p1 p2 p3 r0 r1 r2 r3
    by_cases hc : m ≤ addm a b
    · have hc' : (0 : Int) ≤ cmpI (addm a b) m := by unfold cmpI; rw [if_neg (by omega)]; split <;> omega
      have HS : Hid (subm (addm a b) m = (a + b) % m) := by
        have := HFN.out; rw [if_pos (Or.inr hc)] at this; exact this
      clear hc
      have co0 : V3.cell? ⟨ob, 0, none⟩ = some (.int .u64 (w0 (addm a b) : Nat)) := by rw [cell_of_row _ _ _ _ _ _ hoV3]; rfl
      have co1 : V3.cell? ⟨ob, 1, none⟩ = some (.int .u64 (w1 (addm a b) : Nat)) := by rw [cell_of_row _ _ _ _ _ _ hoV3]; rfl
      have co2 : V3.cell? ⟨ob, 2, none⟩ = some (.int .u64 (w2 (addm a b) : Nat)) := by rw [cell_of_row _ _ _ _ _ _ hoV3]; rfl
      have co3 : V3.cell? ⟨ob, 3, none⟩ = some (.int .u64 (w3 (addm a b) : Nat)) := by rw [cell_of_row _ _ _ _ _ _ hoV3]; rfl
      have cm0 : V3.cell? ⟨g, 0, none⟩ = some (.int .u64 (w0 (m) : Nat)) := by rw [cell_of_row _ _ _ _ _ _ hfV3]; rfl
      have cm1 : V3.cell? ⟨g, 1, none⟩ = some (.int .u64 (w1 (m) : Nat)) := by rw [cell_of_row _ _ _ _ _ _ hfV3]; rfl
      have cm2 : V3.cell? ⟨g, 2, none⟩ = some (.int .u64 (w2 (m) : Nat)) := by rw [cell_of_row _ _ _ _ _ _ hfV3]; rfl
      have cm3 : V3.cell? ⟨g, 3, none⟩ = some (.int .u64 (w3 (m) : Nat)) := by rw [cell_of_row _ _ _ _ _ _ hfV3]; rfl
      go_wp2_with fail
      go_region_with (go_at_call 31; refine (sub_any (W4.mk' (addm_lt a b)) (W4.mk' HF.out.lt) _).mono ?_; rintro e V8 ⟨rfl, hb8⟩; (have ho8 := below_get hb8 (show (V3).heap[ob]? = _ from hoV3)); (have hf8 := below_get hb8 (show (V3).heap[g]? = _ from hfV3)); (have h28 := below_get hb8 (show (V3).heap[w.heap.size + 2]? = _ from h2V3)); (have k8 := bcl (by first | exact kV3 | exact kV3.drew | exact kV3.trans ⟨rfl, rfl, rfl, Nat.le_refl _, fun _ _ => rfl⟩) hb8); (have p0 : V8.cell? ⟨ob, 0, none⟩ = some (.int .u64 (w0 (addm a b) : Nat)) := by rw [cell_of_row _ _ _ _ _ _ ho8]; rfl); (have p1 : V8.cell? ⟨ob, 1, none⟩ = some (.int .u64 (w1 (addm a b) : Nat)) := by rw [cell_of_row _ _ _ _ _ _ ho8]; rfl); (have p2 : V8.cell? ⟨ob, 2, none⟩ = some (.int .u64 (w2 (addm a b) : Nat)) := by rw [cell_of_row _ _ _ _ _ _ ho8]; rfl); (have p3 : V8.cell? ⟨ob, 3, none⟩ = some (.int .u64 (w3 (addm a b) : Nat)) := by rw [cell_of_row _ _ _ _ _ _ ho8]; rfl); (have r0 : V8.cell? ⟨g, 0, none⟩ = some (.int .u64 (w0 (m) : Nat)) := by rw [cell_of_row _ _ _ _ _ _ hf8]; rfl); (have r1 : V8.cell? ⟨g, 1, none⟩ = some (.int .u64 (w1 (m) : Nat)) := by rw [cell_of_row _ _ _ _ _ _ hf8]; rfl); (have r2 : V8.cell? ⟨g, 2, none⟩ = some (.int .u64 (w2 (m) : Nat)) := by rw [cell_of_row _ _ _ _ _ _ hf8]; rfl); (have r3 : V8.cell? ⟨g, 3, none⟩ = some (.int .u64 (w3 (m) : Nat)) := by rw [cell_of_row _ _ _ _ _ _ hf8]; rfl); (have fo0 := frozen_of_row _ _ 0 _ _ ho8); (have fo1 := frozen_of_row _ _ 1 _ _ ho8); (have fo2 := frozen_of_row _ _ 2 _ _ ho8); (have fo3 := frozen_of_row _ _ 3 _ _ ho8))
      all_goals go_simp
      all_goals
        have Q := put4 (.int .u64 (w0 (subm (addm a b) m) : Nat)) (.int .u64 (w1 (subm (addm a b) m) : Nat)) (.int .u64 (w2 (subm (addm a b) m) : Nat)) (.int .u64 (w3 (subm (addm a b) m) : Nat)) ho8
        obtain ⟨VA, hVA⟩ : ∃ V, World.setCell (World.setCell (World.setCell (World.setCell V8 ⟨ob, 0, none⟩ (.int .u64 (w0 (subm (addm a b) m) : Nat))) ⟨ob, 1, none⟩ (.int .u64 (w1 (subm (addm a b) m) : Nat))) ⟨ob, 2, none⟩ (.int .u64 (w2 (subm (addm a b) m) : Nat))) ⟨ob, 3, none⟩ (.int .u64 (w3 (subm (addm a b) m) : Nat)) = V := ⟨_, rfl⟩
        rw [hVA] at Q ⊢
        have hoVA := Q.here
        have h2VA := (Q.there (w.heap.size + 2) (by omega)).trans h28
        have kVA := Q.below (by omega) k8
        clear co0 co1 co2 co3 cm0 cm1 cm2 cm3 p0 p1 p2 p3 r0 r1 r2 r3 fo0 fo1 fo2 fo3
        have z0 : VA.cell? ⟨w.heap.size + 2, 0, none⟩ = some (.int .u64 0) := by rw [cell_of_row _ _ _ _ _ _ h2VA]; rfl
        have z1 : VA.cell? ⟨w.heap.size + 2, 1, none⟩ = some (.int .u64 0) := by rw [cell_of_row _ _ _ _ _ _ h2VA]; rfl
        have z2 : VA.cell? ⟨w.heap.size + 2, 2, none⟩ = some (.int .u64 0) := by rw [cell_of_row _ _ _ _ _ _ h2VA]; rfl
        have z3 : VA.cell? ⟨w.heap.size + 2, 3, none⟩ = some (.int .u64 0) := by rw [cell_of_row _ _ _ _ _ _ h2VA]; rfl
        have fz0 := frozen_of_row _ _ 0 _ _ h2VA
        have fz1 := frozen_of_row _ _ 1 _ _ h2VA
        have fz2 := frozen_of_row _ _ 2 _ _ h2VA
        have fz3 := frozen_of_row _ _ 3 _ _ h2VA
        have u0 : VA.cell? ⟨ob, 0, none⟩ = some (.int .u64 (w0 (subm (addm a b) m) : Nat)) := by rw [cell_of_row _ _ _ _ _ _ hoVA]; rfl
        have u1 : VA.cell? ⟨ob, 1, none⟩ = some (.int .u64 (w1 (subm (addm a b) m) : Nat)) := by rw [cell_of_row _ _ _ _ _ _ hoVA]; rfl
        have u2 : VA.cell? ⟨ob, 2, none⟩ = some (.int .u64 (w2 (subm (addm a b) m) : Nat)) := by rw [cell_of_row _ _ _ _ _ _ hoVA]; rfl
        have u3 : VA.cell? ⟨ob, 3, none⟩ = some (.int .u64 (w3 (subm (addm a b) m) : Nat)) := by rw [cell_of_row _ _ _ _ _ _ hoVA]; rfl
        go_wp2_with fail
        have P := put4 (.int .u64 (w0 (subm (addm a b) m) : Nat)) (.int .u64 (w1 (subm (addm a b) m) : Nat)) (.int .u64 (w2 (subm (addm a b) m) : Nat)) (.int .u64 (w3 (subm (addm a b) m) : Nat)) h2VA
        replace P := put_hid P
        obtain ⟨V9, hV9, P⟩ := P
        rw [hV9]
        have k9 := P.below (by omega) kVA
        have P9 := P.here
        have v0 : V9.cell? ⟨w.heap.size + 2, 0, none⟩ = some (.int .u64 (w0 (subm (addm a b) m) : Nat)) := by rw [cell_of_row _ _ _ _ _ _ P9]; rfl
        have v1 : V9.cell? ⟨w.heap.size + 2, 1, none⟩ = some (.int .u64 (w1 (subm (addm a b) m) : Nat)) := by rw [cell_of_row _ _ _ _ _ _ P9]; rfl
        have v2 : V9.cell? ⟨w.heap.size + 2, 2, none⟩ = some (.int .u64 (w2 (subm (addm a b) m) : Nat)) := by rw [cell_of_row _ _ _ _ _ _ P9]; rfl
        have v3 : V9.cell? ⟨w.heap.size + 2, 3, none⟩ = some (.int .u64 (w3 (subm (addm a b) m) : Nat)) := by rw [cell_of_row _ _ _ _ _ _ P9]; rfl
        refine bodyPost_ret (v := _) (by simp [results, Try.results61, go_sem, v0, v1, v2, v3]; rfl) rfl ?_
        rw [← HS.out]
        exact ⟨rfl, k9⟩

    · have hc' : cmpI (addm a b) m < (0 : Int) := by unfold cmpI; rw [if_pos (by omega)]; omega
      have HS : Hid (addm a b = (a + b) % m) := by
        have := HFN.out; rw [if_neg (by rintro (h | h); exact HOV.out h; exact hc h)] at this; exact this
      clear hc
      have z0 : V3.cell? ⟨w.heap.size + 2, 0, none⟩ = some (.int .u64 0) := by rw [cell_of_row _ _ _ _ _ _ h2V3]; rfl
      have z1 : V3.cell? ⟨w.heap.size + 2, 1, none⟩ = some (.int .u64 0) := by rw [cell_of_row _ _ _ _ _ _ h2V3]; rfl
      have z2 : V3.cell? ⟨w.heap.size + 2, 2, none⟩ = some (.int .u64 0) := by rw [cell_of_row _ _ _ _ _ _ h2V3]; rfl
      have z3 : V3.cell? ⟨w.heap.size + 2, 3, none⟩ = some (.int .u64 0) := by rw [cell_of_row _ _ _ _ _ _ h2V3]; rfl
      have fz0 := frozen_of_row _ _ 0 _ _ h2V3
      have fz1 := frozen_of_row _ _ 1 _ _ h2V3
      have fz2 := frozen_of_row _ _ 2 _ _ h2V3
      have fz3 := frozen_of_row _ _ 3 _ _ h2V3
      have u0 : V3.cell? ⟨ob, 0, none⟩ = some (.int .u64 (w0 (addm a b) : Nat)) := by rw [cell_of_row _ _ _ _ _ _ hoV3]; rfl
      have u1 : V3.cell? ⟨ob, 1, none⟩ = some (.int .u64 (w1 (addm a b) : Nat)) := by rw [cell_of_row _ _ _ _ _ _ hoV3]; rfl
      have u2 : V3.cell? ⟨ob, 2, none⟩ = some (.int .u64 (w2 (addm a b) : Nat)) := by rw [cell_of_row _ _ _ _ _ _ hoV3]; rfl
      have u3 : V3.cell? ⟨ob, 3, none⟩ = some (.int .u64 (w3 (addm a b) : Nat)) := by rw [cell_of_row _ _ _ _ _ _ hoV3]; rfl
      go_wp2_with fail
      have P := put4 (.int .u64 (w0 (addm a b) : Nat)) (.int .u64 (w1 (addm a b) : Nat)) (.int .u64 (w2 (addm a b) : Nat)) (.int .u64 (w3 (addm a b) : Nat)) h2V3
      replace P := put_hid P
      obtain ⟨V9, hV9, P⟩ := P
      rw [hV9]
      have k9 := P.below (by omega) kV3
      have P9 := P.here
      have v0 : V9.cell? ⟨w.heap.size + 2, 0, none⟩ = some (.int .u64 (w0 (addm a b) : Nat)) := by rw [cell_of_row _ _ _ _ _ _ P9]; rfl
      have v1 : V9.cell? ⟨w.heap.size + 2, 1, none⟩ = some (.int .u64 (w1 (addm a b) : Nat)) := by rw [cell_of_row _ _ _ _ _ _ P9]; rfl
      have v2 : V9.cell? ⟨w.heap.size + 2, 2, none⟩ = some (.int .u64 (w2 (addm a b) : Nat)) := by rw [cell_of_row _ _ _ _ _ _ P9]; rfl
      have v3 : V9.cell? ⟨w.heap.size + 2, 3, none⟩ = some (.int .u64 (w3 (addm a b) : Nat)) := by rw [cell_of_row _ _ _ _ _ _ P9]; rfl
      refine bodyPost_ret (v := _) (by simp [results, Try.results61, go_sem, v0, v1, v2, v3]; rfl) rfl ?_
      rw [← HS.out]
      exact ⟨rfl, k9⟩

end Go.Proofs.Ytgghopmlcpcpkaa
