/- A step of the proof: what a function of the program computes, or a plain law of numbers. -/
import Derived.Test.YtgghopmlcpcpkaaMulM
import Derived.Deep.DeepCutAuto
import Derived.Deep.RegionHeld3
import Derived.Deep.RegionWith
namespace Go.Proofs.Ytgghopmlcpcpkaa
open Go.RowKit PlainK
set_option linter.unusedVariables false
set_option linter.unusedSimpArgs false
set_option maxHeartbeats 4000000 in
theorem subF_any {a0 a1 a2 a3 b0 b1 b2 b3 : Int} {a b m g : Nat} (ha : W4 a0 a1 a2 a3 a) (hb : W4 b0 b1 b2 b3 b) (w : World) (hF : IsF w g m) :
   Calls Try.prog 33 #[.pointer (some ⟨g, 0, none⟩), .agg #[.int .u64 a0, .int .u64 a1, .int .u64 a2, .int .u64 a3], .agg #[.int .u64 b0, .int .u64 b1, .int .u64 b2, .int .u64 b3]] w fun e w' =>
    e = .returned (.agg #[.int .u64 (w0 ((a % m + (m - b % m)) % m) : Nat), .int .u64 (w1 ((a % m + (m - b % m)) % m) : Nat), .int .u64 (w2 ((a % m + (m - b % m)) % m) : Nat), .int .u64 (w3 ((a % m + (m - b % m)) % m) : Nat)]) ∧ Below w.heap.size w w' := by
  obtain ⟨rfl, rfl, rfl, rfl, la⟩ := ha
  obtain ⟨rfl, rfl, rfl, rfl, lb⟩ := hb
  have hla := Lib.hid la
  have hlb := Lib.hid lb
  have HF := Lib.hid hF
  clear la lb hF
  go_enter Try.func33, Try.ntmps33
  go_upto_region 3 with fail
  obtain ⟨V0, hV0⟩ : ∃ V, ((w.alloc (.cells #[.int .u64 (w0 (a) : Nat), .int .u64 (w1 (a) : Nat), .int .u64 (w2 (a) : Nat), .int .u64 (w3 (a) : Nat)] 24)).alloc (.cells #[.int .u64 (w0 (b) : Nat), .int .u64 (w1 (b) : Nat), .int .u64 (w2 (b) : Nat), .int .u64 (w3 (b) : Nat)] 24)).alloc (.cells #[.int .u64 0, .int .u64 0, .int .u64 0, .int .u64 0] 24 (0, 0)) = V := ⟨_, rfl⟩
  rw [hV0]
  have hAV0 : V0.heap[w.heap.size]? = some (.cells #[.int .u64 (w0 (a) : Nat), .int .u64 (w1 (a) : Nat), .int .u64 (w2 (a) : Nat), .int .u64 (w3 (a) : Nat)] 24 (0, 0)) := by
    rw [← hV0]; simp only [alloc_at, World.size_alloc]; repeat (first | rw [if_pos trivial] | rw [if_pos (by omega)] | rw [if_neg (by omega)])
  have hBV0 : V0.heap[w.heap.size + 1]? = some (.cells #[.int .u64 (w0 (b) : Nat), .int .u64 (w1 (b) : Nat), .int .u64 (w2 (b) : Nat), .int .u64 (w3 (b) : Nat)] 24 (0, 0)) := by
    rw [← hV0]; simp only [alloc_at, World.size_alloc]; repeat (first | rw [if_pos trivial] | rw [if_pos (by omega)] | rw [if_neg (by omega)])
  have hRV0 : V0.heap[w.heap.size + 2]? = some (.cells #[.int .u64 0, .int .u64 0, .int .u64 0, .int .u64 0] 24 (0, 0)) := by
    rw [← hV0]; simp only [alloc_at, World.size_alloc]; repeat (first | rw [if_pos trivial] | rw [if_pos (by omega)] | rw [if_neg (by omega)])
  have kV0 : Below w.heap.size w V0 := by
    rw [← hV0]
    repeat (first | exact Below.refl _ _ | refine Below.drew ?_ | refine bal ?_ _)
  have hGV0 : IsF V0 g m := HF.out.keep kV0
  have hgl := HF.out.lt'
  clear hV0
  go_cut [] (fun wx => wx.heap[w.heap.size]? = some (.cells #[.int .u64 (w0 (a % m) : Nat), .int .u64 (w1 (a % m) : Nat), .int .u64 (w2 (a % m) : Nat), .int .u64 (w3 (a % m) : Nat)] 24 (0, 0)) ∧ wx.heap[w.heap.size + 1]? = some (.cells #[.int .u64 (w0 (b % m) : Nat), .int .u64 (w1 (b % m) : Nat), .int .u64 (w2 (b % m) : Nat), .int .u64 (w3 (b % m) : Nat)] 24 (0, 0)) ∧ wx.heap[w.heap.size + 2]? = some (.cells #[.int .u64 0, .int .u64 0, .int .u64 0, .int .u64 0] 24 (0, 0)) ∧ Below w.heap.size w wx)
  case first =>
    have pV00 : V0.cell? ⟨w.heap.size, 0, none⟩ = some (.int .u64 (w0 (a) : Nat)) := by rw [cell_of_row _ _ _ _ _ _ hAV0]; rfl
    have pV01 : V0.cell? ⟨w.heap.size, 1, none⟩ = some (.int .u64 (w1 (a) : Nat)) := by rw [cell_of_row _ _ _ _ _ _ hAV0]; rfl
    have pV02 : V0.cell? ⟨w.heap.size, 2, none⟩ = some (.int .u64 (w2 (a) : Nat)) := by rw [cell_of_row _ _ _ _ _ _ hAV0]; rfl
    have pV03 : V0.cell? ⟨w.heap.size, 3, none⟩ = some (.int .u64 (w3 (a) : Nat)) := by rw [cell_of_row _ _ _ _ _ _ hAV0]; rfl
    have qV00 : V0.cell? ⟨w.heap.size + 1, 0, none⟩ = some (.int .u64 (w0 (b) : Nat)) := by rw [cell_of_row _ _ _ _ _ _ hBV0]; rfl
    have qV01 : V0.cell? ⟨w.heap.size + 1, 1, none⟩ = some (.int .u64 (w1 (b) : Nat)) := by rw [cell_of_row _ _ _ _ _ _ hBV0]; rfl
    have qV02 : V0.cell? ⟨w.heap.size + 1, 2, none⟩ = some (.int .u64 (w2 (b) : Nat)) := by rw [cell_of_row _ _ _ _ _ _ hBV0]; rfl
    have qV03 : V0.cell? ⟨w.heap.size + 1, 3, none⟩ = some (.int .u64 (w3 (b) : Nat)) := by rw [cell_of_row _ _ _ _ _ _ hBV0]; rfl
    go_region_with (first | (go_at_call_of 19 (Value.agg #[.int .u64 (w0 (a) : Nat), .int .u64 (w1 (a) : Nat), .int .u64 (w2 (a) : Nat), .int .u64 (w3 (a) : Nat)]); refine (reduce_any (W4.mk' hla.out) _ (show IsF _ g m from by first | exact hGV0 | exact ⟨hGV0.blk, hGV0.odd, hGV0.three, hGV0.lt⟩).toM).mono ?_; rintro e V1 ⟨rfl, hb⟩; (have hAV1 := below_get hb (show _ = some (.cells #[.int .u64 (w0 (a) : Nat), .int .u64 (w1 (a) : Nat), .int .u64 (w2 (a) : Nat), .int .u64 (w3 (a) : Nat)] 24 (0, 0)) from hAV0)); (have hBV1 := below_get hb (show _ = some (.cells #[.int .u64 (w0 (b) : Nat), .int .u64 (w1 (b) : Nat), .int .u64 (w2 (b) : Nat), .int .u64 (w3 (b) : Nat)] 24 (0, 0)) from hBV0)); (have hRV1 := below_get hb (show _ = some (.cells #[.int .u64 0, .int .u64 0, .int .u64 0, .int .u64 0] 24 (0, 0)) from hRV0)); (have kV1 := bcl (by first | exact kV0 | exact kV0.drew) hb); (have hGV1 : IsF V1 g m := HF.out.keep kV1); (have pV10 : V1.cell? ⟨w.heap.size, 0, none⟩ = some (.int .u64 (w0 (a) : Nat)) := by rw [cell_of_row _ _ _ _ _ _ hAV1]; rfl); (have pV11 : V1.cell? ⟨w.heap.size, 1, none⟩ = some (.int .u64 (w1 (a) : Nat)) := by rw [cell_of_row _ _ _ _ _ _ hAV1]; rfl); (have pV12 : V1.cell? ⟨w.heap.size, 2, none⟩ = some (.int .u64 (w2 (a) : Nat)) := by rw [cell_of_row _ _ _ _ _ _ hAV1]; rfl); (have pV13 : V1.cell? ⟨w.heap.size, 3, none⟩ = some (.int .u64 (w3 (a) : Nat)) := by rw [cell_of_row _ _ _ _ _ _ hAV1]; rfl); (have qV10 : V1.cell? ⟨w.heap.size + 1, 0, none⟩ = some (.int .u64 (w0 (b) : Nat)) := by rw [cell_of_row _ _ _ _ _ _ hBV1]; rfl); (have qV11 : V1.cell? ⟨w.heap.size + 1, 1, none⟩ = some (.int .u64 (w1 (b) : Nat)) := by rw [cell_of_row _ _ _ _ _ _ hBV1]; rfl); (have qV12 : V1.cell? ⟨w.heap.size + 1, 2, none⟩ = some (.int .u64 (w2 (b) : Nat)) := by rw [cell_of_row _ _ _ _ _ _ hBV1]; rfl); (have qV13 : V1.cell? ⟨w.heap.size + 1, 3, none⟩ = some (.int .u64 (w3 (b) : Nat)) := by rw [cell_of_row _ _ _ _ _ _ hBV1]; rfl); clear hb) | (go_at_call_of 19 (Value.agg #[.int .u64 (w0 (b) : Nat), .int .u64 (w1 (b) : Nat), .int .u64 (w2 (b) : Nat), .int .u64 (w3 (b) : Nat)]); refine (reduce_any (W4.mk' hlb.out) _ (hGV1.toM)).mono ?_; rintro e V2 ⟨rfl, hb⟩; (have hAV2 := below_get hb hAV1); (have hBV2 := below_get hb hBV1); (have hRV2 := below_get hb hRV1); (have kV2 := bcl kV1 hb); (have pV20 : V2.cell? ⟨w.heap.size, 0, none⟩ = some (.int .u64 (w0 (a) : Nat)) := by rw [cell_of_row _ _ _ _ _ _ hAV2]; rfl); (have pV21 : V2.cell? ⟨w.heap.size, 1, none⟩ = some (.int .u64 (w1 (a) : Nat)) := by rw [cell_of_row _ _ _ _ _ _ hAV2]; rfl); (have pV22 : V2.cell? ⟨w.heap.size, 2, none⟩ = some (.int .u64 (w2 (a) : Nat)) := by rw [cell_of_row _ _ _ _ _ _ hAV2]; rfl); (have pV23 : V2.cell? ⟨w.heap.size, 3, none⟩ = some (.int .u64 (w3 (a) : Nat)) := by rw [cell_of_row _ _ _ _ _ _ hAV2]; rfl); (have qV20 : V2.cell? ⟨w.heap.size + 1, 0, none⟩ = some (.int .u64 (w0 (b) : Nat)) := by rw [cell_of_row _ _ _ _ _ _ hBV2]; rfl); (have qV21 : V2.cell? ⟨w.heap.size + 1, 1, none⟩ = some (.int .u64 (w1 (b) : Nat)) := by rw [cell_of_row _ _ _ _ _ _ hBV2]; rfl); (have qV22 : V2.cell? ⟨w.heap.size + 1, 2, none⟩ = some (.int .u64 (w2 (b) : Nat)) := by rw [cell_of_row _ _ _ _ _ _ hBV2]; rfl); (have qV23 : V2.cell? ⟨w.heap.size + 1, 3, none⟩ = some (.int .u64 (w3 (b) : Nat)) := by rw [cell_of_row _ _ _ _ _ _ hBV2]; rfl); (have xV20 := frozen_of_row _ _ 0 _ _ hAV2); (have yV20 := frozen_of_row _ _ 0 _ _ hBV2); (have xV21 := frozen_of_row _ _ 1 _ _ hAV2); (have yV21 := frozen_of_row _ _ 1 _ _ hBV2); (have xV22 := frozen_of_row _ _ 2 _ _ hAV2); (have yV22 := frozen_of_row _ _ 2 _ _ hBV2); (have xV23 := frozen_of_row _ _ 3 _ _ hAV2); (have yV23 := frozen_of_row _ _ 3 _ _ hBV2); clear hb))
    all_goals go_wp2_with fail
    all_goals go_meet
    all_goals
      have P := put4 (.int .u64 (w0 (a % m) : Nat)) (.int .u64 (w1 (a % m) : Nat)) (.int .u64 (w2 (a % m) : Nat)) (.int .u64 (w3 (a % m) : Nat)) hAV2
      have Q := put4 (.int .u64 (w0 (b % m) : Nat)) (.int .u64 (w1 (b % m) : Nat)) (.int .u64 (w2 (b % m) : Nat)) (.int .u64 (w3 (b % m) : Nat)) ((P.there (w.heap.size + 1) (by omega)).trans hBV2)
      refine ⟨(Q.there _ (by omega)).trans P.here, Q.here, (Q.there _ (by omega)).trans ((P.there _ (by omega)).trans hRV2), ?_⟩
      first | exact Q.below (by omega) (P.below (by omega) kV2) | exact (Q.below (by omega) (P.below (by omega) kV2)).drew
  case rest =>
    obtain ⟨hA, hB, hR, hk⟩ := hcut
    have ca0 : wc.cell? ⟨w.heap.size, 0, none⟩ = some (.int .u64 (w0 (a % m) : Nat)) := by rw [cell_of_row _ _ _ _ _ _ hA]; rfl
    have ca1 : wc.cell? ⟨w.heap.size, 1, none⟩ = some (.int .u64 (w1 (a % m) : Nat)) := by rw [cell_of_row _ _ _ _ _ _ hA]; rfl
    have ca2 : wc.cell? ⟨w.heap.size, 2, none⟩ = some (.int .u64 (w2 (a % m) : Nat)) := by rw [cell_of_row _ _ _ _ _ _ hA]; rfl
    have ca3 : wc.cell? ⟨w.heap.size, 3, none⟩ = some (.int .u64 (w3 (a % m) : Nat)) := by rw [cell_of_row _ _ _ _ _ _ hA]; rfl
    have cb0 : wc.cell? ⟨w.heap.size + 1, 0, none⟩ = some (.int .u64 (w0 (b % m) : Nat)) := by rw [cell_of_row _ _ _ _ _ _ hB]; rfl
    have cb1 : wc.cell? ⟨w.heap.size + 1, 1, none⟩ = some (.int .u64 (w1 (b % m) : Nat)) := by rw [cell_of_row _ _ _ _ _ _ hB]; rfl
    have cb2 : wc.cell? ⟨w.heap.size + 1, 2, none⟩ = some (.int .u64 (w2 (b % m) : Nat)) := by rw [cell_of_row _ _ _ _ _ _ hB]; rfl
    have cb3 : wc.cell? ⟨w.heap.size + 1, 3, none⟩ = some (.int .u64 (w3 (b % m) : Nat)) := by rw [cell_of_row _ _ _ _ _ _ hB]; rfl
    go_wp2_with fail
    have hAl : a % m < m := Nat.mod_lt a (show 0 < m by have := HF.out.three; omega)
    have hBl : b % m < m := Nat.mod_lt b (show 0 < m by have := HF.out.three; omega)
    have HAl := Lib.hid hAl
    have HBl := Lib.hid hBl
    clear hAl hBl
    refine (sub_any (W4.mk' (Nat.lt_trans HAl.out HF.out.lt)) (W4.mk' (Nat.lt_trans HBl.out HF.out.lt)) _).mono ?_
    rintro e V3 ⟨rfl, hb3⟩
    clear ca0 ca1 ca2 ca3 cb0 cb1 cb2 cb3
    have FIN := minus_eq HF.out.lt HAl.out HBl.out
    have HFN := Lib.hid FIN
    clear FIN
    have hR3 := below_get hb3 hR
    have k3 := bcl hk hb3
    have hG3 := (HF.out.keep k3).blk
    have gs : w.heap.size + 2 < V3.heap.size := lt_of_heap hR3
    obtain ⟨V4, hV4⟩ : ∃ V, V3.alloc (.cells #[.int .u64 (w0 (subm (a % m) (b % m)) : Nat), .int .u64 (w1 (subm (a % m) (b % m)) : Nat), .int .u64 (w2 (subm (a % m) (b % m)) : Nat), .int .u64 (w3 (subm (a % m) (b % m)) : Nat)] 24) = V := ⟨_, rfl⟩
    obtain ⟨ob, hob⟩ : ∃ n, V3.heap.size = n := ⟨_, rfl⟩
    have hoV4 : V4.heap[ob]? = some (.cells #[.int .u64 (w0 (subm (a % m) (b % m)) : Nat), .int .u64 (w1 (subm (a % m) (b % m)) : Nat), .int .u64 (w2 (subm (a % m) (b % m)) : Nat), .int .u64 (w3 (subm (a % m) (b % m)) : Nat)] 24 (0, 0)) := by rw [← hV4, ← hob]; exact heap_alloc_new _ _
    have h2V4 : V4.heap[w.heap.size + 2]? = some (.cells #[.int .u64 0, .int .u64 0, .int .u64 0, .int .u64 0] 24 (0, 0)) := by rw [← hV4]; exact ak hR3
    have hfV4 : V4.heap[g]? = some (.cells #[.int .u64 (w0 (m) : Nat), .int .u64 (w1 (m) : Nat), .int .u64 (w2 (m) : Nat), .int .u64 (w3 (m) : Nat), .int .u64 (finv1 m : Nat), .int .u64 (w0 (fsq m) : Nat), .int .u64 (w1 (fsq m) : Nat), .int .u64 (w2 (fsq m) : Nat), .int .u64 (w3 (fsq m) : Nat)] 90 (0, 0)) := by rw [← hV4]; exact ak hG3
    have kV4 : Below w.heap.size w V4 := by rw [← hV4]; exact bal k3 _
    have ho : w.heap.size + 2 < ob := by omega
    clear hb3 hR hk hA hB hR3 k3 hG3 gs
    by_cases hlt : a % m < b % m
    · have hd : decide (a % m < b % m) = true := decide_eq_true hlt
      have HS : Hid (addm (subm (a % m) (b % m)) m = (a % m + (m - b % m)) % m) := by
        have := HFN.out; rw [if_pos hlt] at this; exact this
      clear hlt
      go_upto_region 6 with fail
      clear hV4 hob
      have co0 : V4.cell? ⟨ob, 0, none⟩ = some (.int .u64 (w0 (subm (a % m) (b % m)) : Nat)) := by rw [cell_of_row _ _ _ _ _ _ hoV4]; rfl
      have co1 : V4.cell? ⟨ob, 1, none⟩ = some (.int .u64 (w1 (subm (a % m) (b % m)) : Nat)) := by rw [cell_of_row _ _ _ _ _ _ hoV4]; rfl
      have co2 : V4.cell? ⟨ob, 2, none⟩ = some (.int .u64 (w2 (subm (a % m) (b % m)) : Nat)) := by rw [cell_of_row _ _ _ _ _ _ hoV4]; rfl
      have co3 : V4.cell? ⟨ob, 3, none⟩ = some (.int .u64 (w3 (subm (a % m) (b % m)) : Nat)) := by rw [cell_of_row _ _ _ _ _ _ hoV4]; rfl
      have cm0 : V4.cell? ⟨g, 0, none⟩ = some (.int .u64 (w0 (m) : Nat)) := by rw [cell_of_row _ _ _ _ _ _ hfV4]; rfl
      have cm1 : V4.cell? ⟨g, 1, none⟩ = some (.int .u64 (w1 (m) : Nat)) := by rw [cell_of_row _ _ _ _ _ _ hfV4]; rfl
      have cm2 : V4.cell? ⟨g, 2, none⟩ = some (.int .u64 (w2 (m) : Nat)) := by rw [cell_of_row _ _ _ _ _ _ hfV4]; rfl
      have cm3 : V4.cell? ⟨g, 3, none⟩ = some (.int .u64 (w3 (m) : Nat)) := by rw [cell_of_row _ _ _ _ _ _ hfV4]; rfl
      go_region_with (go_at_call 24; refine (add_any (W4.mk' (subm_lt _ _)) (W4.mk' HF.out.lt) _).mono ?_; rintro e V8 ⟨rfl, hb8⟩; (have ho8 := below_get hb8 (show V4.heap[ob]? = _ from hoV4)); (have h28 := below_get hb8 (show V4.heap[w.heap.size + 2]? = _ from h2V4)); (have k8 := bcl (by first | exact kV4 | exact kV4.drew) hb8); (have p0 : V8.cell? ⟨ob, 0, none⟩ = some (.int .u64 (w0 (subm (a % m) (b % m)) : Nat)) := by rw [cell_of_row _ _ _ _ _ _ ho8]; rfl); (have p1 : V8.cell? ⟨ob, 1, none⟩ = some (.int .u64 (w1 (subm (a % m) (b % m)) : Nat)) := by rw [cell_of_row _ _ _ _ _ _ ho8]; rfl); (have p2 : V8.cell? ⟨ob, 2, none⟩ = some (.int .u64 (w2 (subm (a % m) (b % m)) : Nat)) := by rw [cell_of_row _ _ _ _ _ _ ho8]; rfl); (have p3 : V8.cell? ⟨ob, 3, none⟩ = some (.int .u64 (w3 (subm (a % m) (b % m)) : Nat)) := by rw [cell_of_row _ _ _ _ _ _ ho8]; rfl); (have fo0 := frozen_of_row _ _ 0 _ _ ho8); (have fo1 := frozen_of_row _ _ 1 _ _ ho8); (have fo2 := frozen_of_row _ _ 2 _ _ ho8); (have fo3 := frozen_of_row _ _ 3 _ _ ho8))
      all_goals go_simp
      all_goals
        have Q := put4 (.int .u64 (w0 (addm (subm (a % m) (b % m)) m) : Nat)) (.int .u64 (w1 (addm (subm (a % m) (b % m)) m) : Nat)) (.int .u64 (w2 (addm (subm (a % m) (b % m)) m) : Nat)) (.int .u64 (w3 (addm (subm (a % m) (b % m)) m) : Nat)) ho8
        obtain ⟨VA, hVA⟩ : ∃ V, World.setCell (World.setCell (World.setCell (World.setCell V8 ⟨ob, 0, none⟩ (.int .u64 (w0 (addm (subm (a % m) (b % m)) m) : Nat))) ⟨ob, 1, none⟩ (.int .u64 (w1 (addm (subm (a % m) (b % m)) m) : Nat))) ⟨ob, 2, none⟩ (.int .u64 (w2 (addm (subm (a % m) (b % m)) m) : Nat))) ⟨ob, 3, none⟩ (.int .u64 (w3 (addm (subm (a % m) (b % m)) m) : Nat)) = V := ⟨_, rfl⟩
        rw [hVA] at Q ⊢
        have hoVA := Q.here
        have h2VA := (Q.there (w.heap.size + 2) (by omega)).trans h28
        have kVA := Q.below (by omega) k8
        clear co0 co1 co2 co3 cm0 cm1 cm2 cm3 p0 p1 p2 p3 fo0 fo1 fo2 fo3
        have z0 : VA.cell? ⟨w.heap.size + 2, 0, none⟩ = some (.int .u64 0) := by rw [cell_of_row _ _ _ _ _ _ h2VA]; rfl
        have z1 : VA.cell? ⟨w.heap.size + 2, 1, none⟩ = some (.int .u64 0) := by rw [cell_of_row _ _ _ _ _ _ h2VA]; rfl
        have z2 : VA.cell? ⟨w.heap.size + 2, 2, none⟩ = some (.int .u64 0) := by rw [cell_of_row _ _ _ _ _ _ h2VA]; rfl
        have z3 : VA.cell? ⟨w.heap.size + 2, 3, none⟩ = some (.int .u64 0) := by rw [cell_of_row _ _ _ _ _ _ h2VA]; rfl
        have fz0 := frozen_of_row _ _ 0 _ _ h2VA
        have fz1 := frozen_of_row _ _ 1 _ _ h2VA
        have fz2 := frozen_of_row _ _ 2 _ _ h2VA
        have fz3 := frozen_of_row _ _ 3 _ _ h2VA
        have u0 : VA.cell? ⟨ob, 0, none⟩ = some (.int .u64 (w0 (addm (subm (a % m) (b % m)) m) : Nat)) := by rw [cell_of_row _ _ _ _ _ _ hoVA]; rfl
        have u1 : VA.cell? ⟨ob, 1, none⟩ = some (.int .u64 (w1 (addm (subm (a % m) (b % m)) m) : Nat)) := by rw [cell_of_row _ _ _ _ _ _ hoVA]; rfl
        have u2 : VA.cell? ⟨ob, 2, none⟩ = some (.int .u64 (w2 (addm (subm (a % m) (b % m)) m) : Nat)) := by rw [cell_of_row _ _ _ _ _ _ hoVA]; rfl
        have u3 : VA.cell? ⟨ob, 3, none⟩ = some (.int .u64 (w3 (addm (subm (a % m) (b % m)) m) : Nat)) := by rw [cell_of_row _ _ _ _ _ _ hoVA]; rfl
        go_wp2_with fail
        have P := put4 (.int .u64 (w0 (addm (subm (a % m) (b % m)) m) : Nat)) (.int .u64 (w1 (addm (subm (a % m) (b % m)) m) : Nat)) (.int .u64 (w2 (addm (subm (a % m) (b % m)) m) : Nat)) (.int .u64 (w3 (addm (subm (a % m) (b % m)) m) : Nat)) h2VA
        replace P := put_hid P
        obtain ⟨V9, hV9, P⟩ := P
        rw [hV9]
        have k9 := P.below (by omega) kVA
        have P9 := P.here
        have v0 : V9.cell? ⟨w.heap.size + 2, 0, none⟩ = some (.int .u64 (w0 (addm (subm (a % m) (b % m)) m) : Nat)) := by rw [cell_of_row _ _ _ _ _ _ P9]; rfl
        have v1 : V9.cell? ⟨w.heap.size + 2, 1, none⟩ = some (.int .u64 (w1 (addm (subm (a % m) (b % m)) m) : Nat)) := by rw [cell_of_row _ _ _ _ _ _ P9]; rfl
        have v2 : V9.cell? ⟨w.heap.size + 2, 2, none⟩ = some (.int .u64 (w2 (addm (subm (a % m) (b % m)) m) : Nat)) := by rw [cell_of_row _ _ _ _ _ _ P9]; rfl
        have v3 : V9.cell? ⟨w.heap.size + 2, 3, none⟩ = some (.int .u64 (w3 (addm (subm (a % m) (b % m)) m) : Nat)) := by rw [cell_of_row _ _ _ _ _ _ P9]; rfl
        refine bodyPost_ret (v := _) (by simp [results, Try.results33, go_sem, v0, v1, v2, v3]; rfl) rfl ?_
        rw [← HS.out]
        exact ⟨rfl, k9⟩
    · have hd : decide (a % m < b % m) = false := decide_eq_false hlt
      have HS : Hid (subm (a % m) (b % m) = (a % m + (m - b % m)) % m) := by
        have := HFN.out; rw [if_neg hlt] at this; exact this
      clear hlt
      have z0 : V4.cell? ⟨w.heap.size + 2, 0, none⟩ = some (.int .u64 0) := by rw [cell_of_row _ _ _ _ _ _ h2V4]; rfl
      have z1 : V4.cell? ⟨w.heap.size + 2, 1, none⟩ = some (.int .u64 0) := by rw [cell_of_row _ _ _ _ _ _ h2V4]; rfl
      have z2 : V4.cell? ⟨w.heap.size + 2, 2, none⟩ = some (.int .u64 0) := by rw [cell_of_row _ _ _ _ _ _ h2V4]; rfl
      have z3 : V4.cell? ⟨w.heap.size + 2, 3, none⟩ = some (.int .u64 0) := by rw [cell_of_row _ _ _ _ _ _ h2V4]; rfl
      have fz0 := frozen_of_row _ _ 0 _ _ h2V4
      have fz1 := frozen_of_row _ _ 1 _ _ h2V4
      have fz2 := frozen_of_row _ _ 2 _ _ h2V4
      have fz3 := frozen_of_row _ _ 3 _ _ h2V4
      have u0 : V4.cell? ⟨ob, 0, none⟩ = some (.int .u64 (w0 (subm (a % m) (b % m)) : Nat)) := by rw [cell_of_row _ _ _ _ _ _ hoV4]; rfl
      have u1 : V4.cell? ⟨ob, 1, none⟩ = some (.int .u64 (w1 (subm (a % m) (b % m)) : Nat)) := by rw [cell_of_row _ _ _ _ _ _ hoV4]; rfl
      have u2 : V4.cell? ⟨ob, 2, none⟩ = some (.int .u64 (w2 (subm (a % m) (b % m)) : Nat)) := by rw [cell_of_row _ _ _ _ _ _ hoV4]; rfl
      have u3 : V4.cell? ⟨ob, 3, none⟩ = some (.int .u64 (w3 (subm (a % m) (b % m)) : Nat)) := by rw [cell_of_row _ _ _ _ _ _ hoV4]; rfl
      go_wp2_with fail
      have P := put4 (.int .u64 (w0 (subm (a % m) (b % m)) : Nat)) (.int .u64 (w1 (subm (a % m) (b % m)) : Nat)) (.int .u64 (w2 (subm (a % m) (b % m)) : Nat)) (.int .u64 (w3 (subm (a % m) (b % m)) : Nat)) h2V4
      replace P := put_hid P
      obtain ⟨V9, hV9, P⟩ := P
      rw [hV9]
      have k9 := P.below (by omega) kV4
      have P9 := P.here
      have v0 : V9.cell? ⟨w.heap.size + 2, 0, none⟩ = some (.int .u64 (w0 (subm (a % m) (b % m)) : Nat)) := by rw [cell_of_row _ _ _ _ _ _ P9]; rfl
      have v1 : V9.cell? ⟨w.heap.size + 2, 1, none⟩ = some (.int .u64 (w1 (subm (a % m) (b % m)) : Nat)) := by rw [cell_of_row _ _ _ _ _ _ P9]; rfl
      have v2 : V9.cell? ⟨w.heap.size + 2, 2, none⟩ = some (.int .u64 (w2 (subm (a % m) (b % m)) : Nat)) := by rw [cell_of_row _ _ _ _ _ _ P9]; rfl
      have v3 : V9.cell? ⟨w.heap.size + 2, 3, none⟩ = some (.int .u64 (w3 (subm (a % m) (b % m)) : Nat)) := by rw [cell_of_row _ _ _ _ _ _ P9]; rfl
      refine bodyPost_ret (v := _) (by simp [results, Try.results33, go_sem, v0, v1, v2, v3]; rfl) rfl ?_
      rw [← HS.out]
      exact ⟨rfl, k9⟩
end Go.Proofs.Ytgghopmlcpcpkaa
