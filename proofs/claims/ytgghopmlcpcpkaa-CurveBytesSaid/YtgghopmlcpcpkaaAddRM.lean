/- A step of the proof: what a function of the program computes, or a plain law of numbers. -/
import Derived.Test.YtgghopmlcpcpkaaTwiceM
import Derived.Test.YtgghopmlcpcpkaaRowLib
import Derived.Test.YtgghopmlcpcpkaaHeldV
namespace Go.Proofs.Ytgghopmlcpcpkaa
open Go.RowKit PlainK
set_option linter.unusedVariables false
set_option linter.unusedSimpArgs false
set_option maxRecDepth 10000 in
set_option maxHeartbeats 32000000 in
theorem addR_any {a0 a1 a2 a3 b0 b1 b2 b3 c0 c1 c2 c3 d0 d1 d2 d3 e0 e1 e2 e3 f0 f1 f2 f3 : Int} {r o : T3} {m g : Nat} (ha : W4 a0 a1 a2 a3 r.x) (hb : W4 b0 b1 b2 b3 r.y) (hc : W4 c0 c1 c2 c3 r.z)
   (hd : W4 d0 d1 d2 d3 o.x) (he : W4 e0 e1 e2 e3 o.y) (hf : W4 f0 f1 f2 f3 o.z) (w : World) (hF : IsF w g m) :
   Calls Try.prog 76 #[.agg #[.int .u64 a0, .int .u64 a1, .int .u64 a2, .int .u64 a3, .int .u64 b0, .int .u64 b1, .int .u64 b2, .int .u64 b3, .int .u64 c0, .int .u64 c1, .int .u64 c2, .int .u64 c3], .pointer (some ⟨g, 0, none⟩), .agg #[.int .u64 d0, .int .u64 d1, .int .u64 d2, .int .u64 d3, .int .u64 e0, .int .u64 e1, .int .u64 e2, .int .u64 e3, .int .u64 f0, .int .u64 f1, .int .u64 f2, .int .u64 f3]] w fun e w' => e = .returned (.agg #[.int .u64 (w0 ((naddr m r o).x) : Nat), .int .u64 (w1 ((naddr m r o).x) : Nat), .int .u64 (w2 ((naddr m r o).x) : Nat), .int .u64 (w3 ((naddr m r o).x) : Nat), .int .u64 (w0 ((naddr m r o).y) : Nat), .int .u64 (w1 ((naddr m r o).y) : Nat), .int .u64 (w2 ((naddr m r o).y) : Nat), .int .u64 (w3 ((naddr m r o).y) : Nat), .int .u64 (w0 ((naddr m r o).z) : Nat), .int .u64 (w1 ((naddr m r o).z) : Nat), .int .u64 (w2 ((naddr m r o).z) : Nat), .int .u64 (w3 ((naddr m r o).z) : Nat)]) ∧ Below w.heap.size w w' := by
  obtain ⟨x1, y1, z1⟩ := r
  obtain ⟨x2, y2, z2⟩ := o
  obtain ⟨rfl, rfl, rfl, rfl, la⟩ := ha
  obtain ⟨rfl, rfl, rfl, rfl, lb⟩ := hb
  obtain ⟨rfl, rfl, rfl, rfl, lc⟩ := hc
  obtain ⟨rfl, rfl, rfl, rfl, ld⟩ := hd
  obtain ⟨rfl, rfl, rfl, rfl, le⟩ := he
  obtain ⟨rfl, rfl, rfl, rfl, lf⟩ := hf
  dsimp only at la lb lc ld le lf ⊢
  have Gx1 := Lib.hid la
  have Gy1 := Lib.hid lb
  have Gz1 := Lib.hid lc
  have Gx2 := Lib.hid ld
  have Gy2 := Lib.hid le
  have Gz2 := Lib.hid lf
  have HF := Lib.hid hF
  have HM := Lib.hid hF.lt
  have hpos : 0 < m := by have := hF.three; omega
  have hgl := hF.lt'
  clear la lb lc ld le lf hF
  go_enter Try.func76, Try.ntmps76
  go_upto_region 1 with fail
  obtain ⟨V0, hW⟩ : ∃ V, ((w.alloc (.cells #[.int .u64 (w0 (x1) : Nat), .int .u64 (w1 (x1) : Nat), .int .u64 (w2 (x1) : Nat), .int .u64 (w3 (x1) : Nat), .int .u64 (w0 (y1) : Nat), .int .u64 (w1 (y1) : Nat), .int .u64 (w2 (y1) : Nat), .int .u64 (w3 (y1) : Nat), .int .u64 (w0 (z1) : Nat), .int .u64 (w1 (z1) : Nat), .int .u64 (w2 (z1) : Nat), .int .u64 (w3 (z1) : Nat)] 103)).alloc (.cells #[.int .u64 (w0 (x2) : Nat), .int .u64 (w1 (x2) : Nat), .int .u64 (w2 (x2) : Nat), .int .u64 (w3 (x2) : Nat), .int .u64 (w0 (y2) : Nat), .int .u64 (w1 (y2) : Nat), .int .u64 (w2 (y2) : Nat), .int .u64 (w3 (y2) : Nat), .int .u64 (w0 (z2) : Nat), .int .u64 (w1 (z2) : Nat), .int .u64 (w2 (z2) : Nat), .int .u64 (w3 (z2) : Nat)] 103)).alloc (.cells #[.int .u64 0, .int .u64 0, .int .u64 0, .int .u64 0, .int .u64 0, .int .u64 0, .int .u64 0, .int .u64 0, .int .u64 0, .int .u64 0, .int .u64 0, .int .u64 0] 103) = V := ⟨_, rfl⟩
  rw [hW]
  have hRA : V0.heap[w.heap.size]? = some (.cells #[.int .u64 (w0 (x1) : Nat), .int .u64 (w1 (x1) : Nat), .int .u64 (w2 (x1) : Nat), .int .u64 (w3 (x1) : Nat), .int .u64 (w0 (y1) : Nat), .int .u64 (w1 (y1) : Nat), .int .u64 (w2 (y1) : Nat), .int .u64 (w3 (y1) : Nat), .int .u64 (w0 (z1) : Nat), .int .u64 (w1 (z1) : Nat), .int .u64 (w2 (z1) : Nat), .int .u64 (w3 (z1) : Nat)] 103 (0, 0)) := by
    rw [← hW]; simp only [alloc_at, World.size_alloc]; repeat (first | rw [if_pos trivial] | rw [if_pos (by omega)] | rw [if_neg (by omega)])
  have hRO : V0.heap[w.heap.size + 1]? = some (.cells #[.int .u64 (w0 (x2) : Nat), .int .u64 (w1 (x2) : Nat), .int .u64 (w2 (x2) : Nat), .int .u64 (w3 (x2) : Nat), .int .u64 (w0 (y2) : Nat), .int .u64 (w1 (y2) : Nat), .int .u64 (w2 (y2) : Nat), .int .u64 (w3 (y2) : Nat), .int .u64 (w0 (z2) : Nat), .int .u64 (w1 (z2) : Nat), .int .u64 (w2 (z2) : Nat), .int .u64 (w3 (z2) : Nat)] 103 (0, 0)) := by
    rw [← hW]; simp only [alloc_at, World.size_alloc]; repeat (first | rw [if_pos trivial] | rw [if_pos (by omega)] | rw [if_neg (by omega)])
  have hRR : V0.heap[w.heap.size + 2]? = some (.cells #[.int .u64 0, .int .u64 0, .int .u64 0, .int .u64 0, .int .u64 0, .int .u64 0, .int .u64 0, .int .u64 0, .int .u64 0, .int .u64 0, .int .u64 0, .int .u64 0] 103 (0, 0)) := by
    rw [← hW]; simp only [alloc_at, World.size_alloc]; repeat (first | rw [if_pos trivial] | rw [if_pos (by omega)] | rw [if_neg (by omega)])
  have kk : Below w.heap.size w V0 := by
    rw [← hW]
    repeat (first | exact Below.refl _ _ | refine Below.drew ?_ | refine bal ?_ _)
  have fF := HF.out.keep kk
  clear hW
  by_cases hz1 : z1 = 0
  · have q1 := eql_t (W4.mk' Gz1.out) W4.zero hz1
    have HE := Lib.hid (show naddr m ⟨x1, y1, z1⟩ ⟨x2, y2, z2⟩ = ⟨x2, y2, z2⟩ by unfold naddr; rw [if_pos hz1])
    clear hz1
    obtain ⟨cRA0, cRA1, cRA2, cRA3, cRA4, cRA5, cRA6, cRA7, cRA8, cRA9, cRA10, cRA11⟩ := row12c hRA
    obtain ⟨zRA0, zRA1, zRA2, zRA3, zRA4, zRA5, zRA6, zRA7, zRA8, zRA9, zRA10, zRA11⟩ := row12z hRA
    obtain ⟨cRO0, cRO1, cRO2, cRO3, cRO4, cRO5, cRO6, cRO7, cRO8, cRO9, cRO10, cRO11⟩ := row12c hRO
    obtain ⟨zRO0, zRO1, zRO2, zRO3, zRO4, zRO5, zRO6, zRO7, zRO8, zRO9, zRO10, zRO11⟩ := row12z hRO
    obtain ⟨cRR0, cRR1, cRR2, cRR3, cRR4, cRR5, cRR6, cRR7, cRR8, cRR9, cRR10, cRR11⟩ := row12c hRR
    obtain ⟨zRR0, zRR1, zRR2, zRR3, zRR4, zRR5, zRR6, zRR7, zRR8, zRR9, zRR10, zRR11⟩ := row12z hRR
    go_wp2_with fail
    have P := put12 (.int .u64 (w0 (x2) : Nat)) (.int .u64 (w1 (x2) : Nat)) (.int .u64 (w2 (x2) : Nat)) (.int .u64 (w3 (x2) : Nat)) (.int .u64 (w0 (y2) : Nat)) (.int .u64 (w1 (y2) : Nat)) (.int .u64 (w2 (y2) : Nat)) (.int .u64 (w3 (y2) : Nat)) (.int .u64 (w0 (z2) : Nat)) (.int .u64 (w1 (z2) : Nat)) (.int .u64 (w2 (z2) : Nat)) (.int .u64 (w3 (z2) : Nat)) hRR
    replace P := put_hid P
    obtain ⟨V9, hV9, P⟩ := P
    rw [hV9]
    have P9 := P.here
    have k9 := P.below (by omega) (show Below w.heap.size w V0 from by first | exact kk | exact kk.drew | exact below_drewN kk _)
    obtain ⟨v0, v1, v2, v3, v4, v5, v6, v7, v8, v9, v10, v11⟩ := row12c P9
    refine bodyPost_ret (v := _) (by simp [results, Try.results76, go_sem, v0, v1, v2, v3, v4, v5, v6, v7, v8, v9, v10, v11]; rfl) rfl ?_
    rw [HE.out]
    exact ⟨rfl, k9⟩
  have q1 := eql_f (W4.mk' Gz1.out) W4.zero hz1
  by_cases hz2 : z2 = 0
  · have q2 := eql_t (W4.mk' Gz2.out) W4.zero hz2
    have HE := Lib.hid (show naddr m ⟨x1, y1, z1⟩ ⟨x2, y2, z2⟩ = ⟨x1, y1, z1⟩ by unfold naddr; rw [if_neg hz1, if_pos hz2])
    clear hz1 hz2
    obtain ⟨cRA0, cRA1, cRA2, cRA3, cRA4, cRA5, cRA6, cRA7, cRA8, cRA9, cRA10, cRA11⟩ := row12c hRA
    obtain ⟨zRA0, zRA1, zRA2, zRA3, zRA4, zRA5, zRA6, zRA7, zRA8, zRA9, zRA10, zRA11⟩ := row12z hRA
    obtain ⟨cRO0, cRO1, cRO2, cRO3, cRO4, cRO5, cRO6, cRO7, cRO8, cRO9, cRO10, cRO11⟩ := row12c hRO
    obtain ⟨zRO0, zRO1, zRO2, zRO3, zRO4, zRO5, zRO6, zRO7, zRO8, zRO9, zRO10, zRO11⟩ := row12z hRO
    obtain ⟨cRR0, cRR1, cRR2, cRR3, cRR4, cRR5, cRR6, cRR7, cRR8, cRR9, cRR10, cRR11⟩ := row12c hRR
    obtain ⟨zRR0, zRR1, zRR2, zRR3, zRR4, zRR5, zRR6, zRR7, zRR8, zRR9, zRR10, zRR11⟩ := row12z hRR
    go_wp2_with fail
    have P := put12 (.int .u64 (w0 (x1) : Nat)) (.int .u64 (w1 (x1) : Nat)) (.int .u64 (w2 (x1) : Nat)) (.int .u64 (w3 (x1) : Nat)) (.int .u64 (w0 (y1) : Nat)) (.int .u64 (w1 (y1) : Nat)) (.int .u64 (w2 (y1) : Nat)) (.int .u64 (w3 (y1) : Nat)) (.int .u64 (w0 (z1) : Nat)) (.int .u64 (w1 (z1) : Nat)) (.int .u64 (w2 (z1) : Nat)) (.int .u64 (w3 (z1) : Nat)) hRR
    replace P := put_hid P
    obtain ⟨V9, hV9, P⟩ := P
    rw [hV9]
    have P9 := P.here
    have k9 := P.below (by omega) (show Below w.heap.size w V0 from by first | exact kk | exact kk.drew | exact below_drewN kk _)
    obtain ⟨v0, v1, v2, v3, v4, v5, v6, v7, v8, v9, v10, v11⟩ := row12c P9
    refine bodyPost_ret (v := _) (by simp [results, Try.results76, go_sem, v0, v1, v2, v3, v4, v5, v6, v7, v8, v9, v10, v11]; rfl) rfl ?_
    rw [HE.out]
    exact ⟨rfl, k9⟩
  have q2 := eql_f (W4.mk' Gz2.out) W4.zero hz2
  have HZ1 := Lib.hid hz1
  have HZ2 := Lib.hid hz2
  clear hz1 hz2
  obtain ⟨cRA0, cRA1, cRA2, cRA3, cRA4, cRA5, cRA6, cRA7, cRA8, cRA9, cRA10, cRA11⟩ := row12c hRA
  obtain ⟨zRA0, zRA1, zRA2, zRA3, zRA4, zRA5, zRA6, zRA7, zRA8, zRA9, zRA10, zRA11⟩ := row12z hRA
  obtain ⟨cRO0, cRO1, cRO2, cRO3, cRO4, cRO5, cRO6, cRO7, cRO8, cRO9, cRO10, cRO11⟩ := row12c hRO
  obtain ⟨zRO0, zRO1, zRO2, zRO3, zRO4, zRO5, zRO6, zRO7, zRO8, zRO9, zRO10, zRO11⟩ := row12z hRO
  go_upto_region 5 with fail
  clear q1 q2
  clear cRA0 zRA0 cRA1 zRA1 cRA2 zRA2 cRA3 zRA3 cRA4 zRA4 cRA5 zRA5 cRA6 zRA6 cRA7 zRA7 cRA8 zRA8 cRA9 zRA9 cRA10 zRA10 cRA11 zRA11 cRO0 zRO0 cRO1 zRO1 cRO2 zRO2 cRO3 zRO3 cRO4 zRO4 cRO5 zRO5 cRO6 zRO6 cRO7 zRO7 cRO8 zRO8 cRO9 zRO9 cRO10 zRO10 cRO11 zRO11
  obtain ⟨S0, hS0⟩ : ∃ S : World → Prop, S = (fun w' => w'.heap[w.heap.size]? = some (.cells #[.int .u64 (w0 (x1) : Nat), .int .u64 (w1 (x1) : Nat), .int .u64 (w2 (x1) : Nat), .int .u64 (w3 (x1) : Nat), .int .u64 (w0 (y1) : Nat), .int .u64 (w1 (y1) : Nat), .int .u64 (w2 (y1) : Nat), .int .u64 (w3 (y1) : Nat), .int .u64 (w0 (z1) : Nat), .int .u64 (w1 (z1) : Nat), .int .u64 (w2 (z1) : Nat), .int .u64 (w3 (z1) : Nat)] 103 (0, 0)) ∧ w'.heap[w.heap.size + 1]? = some (.cells #[.int .u64 (w0 (x2) : Nat), .int .u64 (w1 (x2) : Nat), .int .u64 (w2 (x2) : Nat), .int .u64 (w3 (x2) : Nat), .int .u64 (w0 (y2) : Nat), .int .u64 (w1 (y2) : Nat), .int .u64 (w2 (y2) : Nat), .int .u64 (w3 (y2) : Nat), .int .u64 (w0 (z2) : Nat), .int .u64 (w1 (z2) : Nat), .int .u64 (w2 (z2) : Nat), .int .u64 (w3 (z2) : Nat)] 103 (0, 0))) := ⟨_, rfl⟩
  have hSJ : ∀ w', Below V0.heap.size V0 w' → S0 w' := by intro w' hb; rw [hS0]; exact ⟨below_get hb hRA, below_get hb hRO⟩
  refine startT (S := S0) 15 (by kernel_rfl) (by rw [hS0]; exact ⟨hRA, hRO⟩) (fun hHeld => ?_)
  refine takeT (i := 0) (d := some 32) (v := ?_) _ rfl rfl (by rfl) (by kernel_rfl) (by decide) (by kernel_rfl) (by kernel_rfl) (by kernel_rfl) (fun _ _ _ h => h) (by assumption) (by kernel_rfl) ?_ ?_
  rotate_left
  · (first | (intro w' hSw; clear hSw; go_simp; try (with_reducible rfl)) | (intro w'; go_simp; try (with_reducible rfl)))
  try simp only [ptr, Act.put, List.setIfInBounds_toArray, List.set_cons_zero, List.set_cons_succ]
  refine takeT (i := 1) (d := some 33) (v := ?_) _ rfl rfl (by rfl) (by kernel_rfl) (by decide) (by kernel_rfl) (by kernel_rfl) (by kernel_rfl) (fun _ _ _ h => h) (by assumption) (by kernel_rfl) ?_ ?_
  rotate_left
  · (first | (intro w' hSw; clear hSw; go_simp; try (with_reducible rfl)) | (intro w'; go_simp; try (with_reducible rfl)))
  try simp only [ptr, Act.put, List.setIfInBounds_toArray, List.set_cons_zero, List.set_cons_succ]
  refine takeT (i := 2) (d := some 34) (v := ?_) _ rfl rfl (by rfl) (by kernel_rfl) (by decide) (by kernel_rfl) (by kernel_rfl) (by kernel_rfl) (fun _ _ _ h => h) (by assumption) (by kernel_rfl) ?_ ?_
  rotate_left
  · (intro w' hSw; (rw [hS0] at hSw); (have hSw' := hSw); (first | (obtain ⟨svRA, svRO⟩ := hSw'; obtain ⟨cvRA0, cvRA1, cvRA2, cvRA3, cvRA4, cvRA5, cvRA6, cvRA7, cvRA8, cvRA9, cvRA10, cvRA11⟩ := row12c svRA; obtain ⟨cvRO0, cvRO1, cvRO2, cvRO3, cvRO4, cvRO5, cvRO6, cvRO7, cvRO8, cvRO9, cvRO10, cvRO11⟩ := row12c svRO; go_simp)); try (with_reducible rfl))
  try simp only [ptr, Act.put, List.setIfInBounds_toArray, List.set_cons_zero, List.set_cons_succ]
  refine takeT (i := 3) (d := some 35) (v := ?_) _ rfl rfl (by rfl) (by kernel_rfl) (by decide) (by kernel_rfl) (by kernel_rfl) (by kernel_rfl) (fun _ _ _ h => h) (by assumption) (by kernel_rfl) ?_ ?_
  rotate_left
  · (first | (intro w' hSw; clear hSw; go_simp; try (with_reducible rfl)) | (intro w'; go_simp; try (with_reducible rfl)))
  try simp only [ptr, Act.put, List.setIfInBounds_toArray, List.set_cons_zero, List.set_cons_succ]
  refine takeT (i := 4) (d := some 36) (v := ?_) _ rfl rfl (by rfl) (by kernel_rfl) (by decide) (by kernel_rfl) (by kernel_rfl) (by kernel_rfl) (fun _ _ _ h => h) (by assumption) (by kernel_rfl) ?_ ?_
  rotate_left
  · (intro w' hSw; (rw [hS0] at hSw); (have hSw' := hSw); (first | (obtain ⟨svRA, svRO⟩ := hSw'; obtain ⟨cvRA0, cvRA1, cvRA2, cvRA3, cvRA4, cvRA5, cvRA6, cvRA7, cvRA8, cvRA9, cvRA10, cvRA11⟩ := row12c svRA; obtain ⟨cvRO0, cvRO1, cvRO2, cvRO3, cvRO4, cvRO5, cvRO6, cvRO7, cvRO8, cvRO9, cvRO10, cvRO11⟩ := row12c svRO; go_simp)); try (with_reducible rfl))
  try simp only [ptr, Act.put, List.setIfInBounds_toArray, List.set_cons_zero, List.set_cons_succ]
  refine takeT (i := 6) (d := some 38) (v := ?_) _ rfl rfl (by rfl) (by kernel_rfl) (by decide) (by kernel_rfl) (by kernel_rfl) (by kernel_rfl) (fun _ _ _ h => h) (by assumption) (by kernel_rfl) ?_ ?_
  rotate_left
  · (first | (intro w' hSw; clear hSw; go_simp; try (with_reducible rfl)) | (intro w'; go_simp; try (with_reducible rfl)))
  try simp only [ptr, Act.put, List.setIfInBounds_toArray, List.set_cons_zero, List.set_cons_succ]
  refine takeT (i := 7) (d := some 39) (v := ?_) _ rfl rfl (by rfl) (by kernel_rfl) (by decide) (by kernel_rfl) (by kernel_rfl) (by kernel_rfl) (fun _ _ _ h => h) (by assumption) (by kernel_rfl) ?_ ?_
  rotate_left
  · (first | (intro w' hSw; clear hSw; go_simp; try (with_reducible rfl)) | (intro w'; go_simp; try (with_reducible rfl)))
  try simp only [ptr, Act.put, List.setIfInBounds_toArray, List.set_cons_zero, List.set_cons_succ]
  refine takeT (i := 8) (d := some 40) (v := ?_) _ rfl rfl (by rfl) (by kernel_rfl) (by decide) (by kernel_rfl) (by kernel_rfl) (by kernel_rfl) (fun _ _ _ h => h) (by assumption) (by kernel_rfl) ?_ ?_
  rotate_left
  · (intro w' hSw; (rw [hS0] at hSw); (have hSw' := hSw); (first | (obtain ⟨svRA, svRO⟩ := hSw'; obtain ⟨cvRA0, cvRA1, cvRA2, cvRA3, cvRA4, cvRA5, cvRA6, cvRA7, cvRA8, cvRA9, cvRA10, cvRA11⟩ := row12c svRA; obtain ⟨cvRO0, cvRO1, cvRO2, cvRO3, cvRO4, cvRO5, cvRO6, cvRO7, cvRO8, cvRO9, cvRO10, cvRO11⟩ := row12c svRO; go_simp)); try (with_reducible rfl))
  try simp only [ptr, Act.put, List.setIfInBounds_toArray, List.set_cons_zero, List.set_cons_succ]
  refine takeT (i := 9) (d := some 41) (v := ?_) _ rfl rfl (by rfl) (by kernel_rfl) (by decide) (by kernel_rfl) (by kernel_rfl) (by kernel_rfl) (fun _ _ _ h => h) (by assumption) (by kernel_rfl) ?_ ?_
  rotate_left
  · (first | (intro w' hSw; clear hSw; go_simp; try (with_reducible rfl)) | (intro w'; go_simp; try (with_reducible rfl)))
  try simp only [ptr, Act.put, List.setIfInBounds_toArray, List.set_cons_zero, List.set_cons_succ]
  refine takeT (i := 10) (d := some 42) (v := ?_) _ rfl rfl (by rfl) (by kernel_rfl) (by decide) (by kernel_rfl) (by kernel_rfl) (by kernel_rfl) (fun _ _ _ h => h) (by assumption) (by kernel_rfl) ?_ ?_
  rotate_left
  · (intro w' hSw; (rw [hS0] at hSw); (have hSw' := hSw); (first | (obtain ⟨svRA, svRO⟩ := hSw'; obtain ⟨cvRA0, cvRA1, cvRA2, cvRA3, cvRA4, cvRA5, cvRA6, cvRA7, cvRA8, cvRA9, cvRA10, cvRA11⟩ := row12c svRA; obtain ⟨cvRO0, cvRO1, cvRO2, cvRO3, cvRO4, cvRO5, cvRO6, cvRO7, cvRO8, cvRO9, cvRO10, cvRO11⟩ := row12c svRO; go_simp)); try (with_reducible rfl))
  try simp only [ptr, Act.put, List.setIfInBounds_toArray, List.set_cons_zero, List.set_cons_succ]
  refine NK2.start (w0 := V0) (x1 := undef) (x2 := undef) 12 13 7 8 (.cells #[.int .u64 0, .int .u64 0, .int .u64 0, .int .u64 0] 24 (0, 0)) (.cells #[.int .u64 0, .int .u64 0, .int .u64 0, .int .u64 0] 24 (0, 0)) (Below.refl _ _).drew (by (simp only [Act.put, List.setIfInBounds_toArray, List.set_cons_zero, List.set_cons_succ])) ⟨⟨_, rfl, fun _ => rfl, fun a1 w1 K hK => by go_simp; exact hK⟩⟩ ⟨⟨_, rfl, fun _ => rfl, fun a1 w1 K hK => by go_simp; exact hK⟩⟩ (fun m1 m2 => ?_)
  refine NK2.step (i := 5) (d := 37) (F := fun vv => vv = .agg #[.int .u64 (w0 (mulm m z1 z1) : Nat), .int .u64 (w1 (mulm m z1 z1) : Nat), .int .u64 (w2 (mulm m z1 z1) : Nat), .int .u64 (w3 (mulm m z1 z1) : Nat)]) m1 m2 (by decide) (by decide) hSJ (by decide) (by decide) (by decide) (by decide) (by kernel_rfl) (by kernel_rfl) (by kernel_rfl) (by kernel_rfl) ⟨⟨_, rfl, fun _ => rfl, fun yv1 yv2 w1 hJ1 K hK => ?_⟩⟩ ?_
  · try simp only [ptr, Act.put, List.setIfInBounds_toArray, List.set_cons_zero, List.set_cons_succ]
    go_simp
    have fF := fF.keep hJ1
    refine (mulG_any (by first | exact W4.mk' Gx1.out | exact W4.mk' Gy1.out | exact W4.mk' Gz1.out | exact W4.mk' Gx2.out | exact W4.mk' Gy2.out | exact W4.mk' Gz2.out | exact W4.mk' HM.out | exact W4.mk' Grz.out | exact W4.mk' Goz.out | exact W4.mk' Gu.out | exact W4.mk' Gv.out | exact W4.mk' Gs.out | exact W4.mk' Gt.out | exact W4.mk' Gh.out | exact W4.mk' Gk.out | exact W4.mk' Ghh.out | exact W4.mk' Ghhh.out | exact W4.mk' Gww.out | exact W4.mk' Gxx.out | exact W4.mk' Gyy.out | exact W4.mk' (Nat.lt_trans (Nat.mod_lt _ hpos) HM.out) | exact W4.zero | exact W4.small (n := 1) rfl (by decide) | exact W4.small (n := 2) rfl (by decide) | exact W4.small (n := 3) rfl (by decide) | exact W4.small (n := 4) rfl (by decide) | exact W4.small (n := 5) rfl (by decide) | exact W4.small (n := 7) rfl (by decide)) (by first | exact W4.mk' Gx1.out | exact W4.mk' Gy1.out | exact W4.mk' Gz1.out | exact W4.mk' Gx2.out | exact W4.mk' Gy2.out | exact W4.mk' Gz2.out | exact W4.mk' HM.out | exact W4.mk' Grz.out | exact W4.mk' Goz.out | exact W4.mk' Gu.out | exact W4.mk' Gv.out | exact W4.mk' Gs.out | exact W4.mk' Gt.out | exact W4.mk' Gh.out | exact W4.mk' Gk.out | exact W4.mk' Ghh.out | exact W4.mk' Ghhh.out | exact W4.mk' Gww.out | exact W4.mk' Gxx.out | exact W4.mk' Gyy.out | exact W4.mk' (Nat.lt_trans (Nat.mod_lt _ hpos) HM.out) | exact W4.zero | exact W4.small (n := 1) rfl (by decide) | exact W4.small (n := 2) rfl (by decide) | exact W4.small (n := 3) rfl (by decide) | exact W4.small (n := 4) rfl (by decide) | exact W4.small (n := 5) rfl (by decide) | exact W4.small (n := 7) rfl (by decide)) _ (show IsF _ (g) (m) from (by first | exact fF | exact ⟨fF.blk, fF.odd, fF.three, fF.lt⟩ | exact ⟨ak fF.blk, fF.odd, fF.three, fF.lt⟩ | exact ⟨ak (ak fF.blk), fF.odd, fF.three, fF.lt⟩))).mono ?_
    rintro e U ⟨rfl, hb⟩
    have h2 := hK.out _ _ rfl hb
    try simp only [ptr, Act.put, List.setIfInBounds_toArray, List.set_cons_zero, List.set_cons_succ] at h2
    exact h2
  rintro vv rfl
  refine NK2.step (i := 11) (d := 43) (F := fun vv => vv = .agg #[.int .u64 (w0 (mulm m z2 z2) : Nat), .int .u64 (w1 (mulm m z2 z2) : Nat), .int .u64 (w2 (mulm m z2 z2) : Nat), .int .u64 (w3 (mulm m z2 z2) : Nat)]) m1 m2 (by decide) (by decide) hSJ (by decide) (by decide) (by decide) (by decide) (by kernel_rfl) (by kernel_rfl) (by kernel_rfl) (by kernel_rfl) ⟨⟨_, rfl, fun _ => rfl, fun yv1 yv2 w1 hJ1 K hK => ?_⟩⟩ ?_
  · try simp only [ptr, Act.put, List.setIfInBounds_toArray, List.set_cons_zero, List.set_cons_succ]
    go_simp
    have fF := fF.keep hJ1
    refine (mulG_any (by first | exact W4.mk' Gx1.out | exact W4.mk' Gy1.out | exact W4.mk' Gz1.out | exact W4.mk' Gx2.out | exact W4.mk' Gy2.out | exact W4.mk' Gz2.out | exact W4.mk' HM.out | exact W4.mk' Grz.out | exact W4.mk' Goz.out | exact W4.mk' Gu.out | exact W4.mk' Gv.out | exact W4.mk' Gs.out | exact W4.mk' Gt.out | exact W4.mk' Gh.out | exact W4.mk' Gk.out | exact W4.mk' Ghh.out | exact W4.mk' Ghhh.out | exact W4.mk' Gww.out | exact W4.mk' Gxx.out | exact W4.mk' Gyy.out | exact W4.mk' (Nat.lt_trans (Nat.mod_lt _ hpos) HM.out) | exact W4.zero | exact W4.small (n := 1) rfl (by decide) | exact W4.small (n := 2) rfl (by decide) | exact W4.small (n := 3) rfl (by decide) | exact W4.small (n := 4) rfl (by decide) | exact W4.small (n := 5) rfl (by decide) | exact W4.small (n := 7) rfl (by decide)) (by first | exact W4.mk' Gx1.out | exact W4.mk' Gy1.out | exact W4.mk' Gz1.out | exact W4.mk' Gx2.out | exact W4.mk' Gy2.out | exact W4.mk' Gz2.out | exact W4.mk' HM.out | exact W4.mk' Grz.out | exact W4.mk' Goz.out | exact W4.mk' Gu.out | exact W4.mk' Gv.out | exact W4.mk' Gs.out | exact W4.mk' Gt.out | exact W4.mk' Gh.out | exact W4.mk' Gk.out | exact W4.mk' Ghh.out | exact W4.mk' Ghhh.out | exact W4.mk' Gww.out | exact W4.mk' Gxx.out | exact W4.mk' Gyy.out | exact W4.mk' (Nat.lt_trans (Nat.mod_lt _ hpos) HM.out) | exact W4.zero | exact W4.small (n := 1) rfl (by decide) | exact W4.small (n := 2) rfl (by decide) | exact W4.small (n := 3) rfl (by decide) | exact W4.small (n := 4) rfl (by decide) | exact W4.small (n := 5) rfl (by decide) | exact W4.small (n := 7) rfl (by decide)) _ (show IsF _ (g) (m) from (by first | exact fF | exact ⟨fF.blk, fF.odd, fF.three, fF.lt⟩ | exact ⟨ak fF.blk, fF.odd, fF.three, fF.lt⟩ | exact ⟨ak (ak fF.blk), fF.odd, fF.three, fF.lt⟩))).mono ?_
    rintro e U ⟨rfl, hb⟩
    have h2 := hK.out _ _ rfl hb
    try simp only [ptr, Act.put, List.setIfInBounds_toArray, List.set_cons_zero, List.set_cons_succ] at h2
    exact h2
  rintro vv rfl
  refine NK2.last m1 m2 (by decide) (by decide) hSJ (by kernel_rfl) (by kernel_rfl) (by kernel_rfl) (fun C1a bd7 bd8 hb o1 o2 n12 => ?_)
  clear m1 m2
  try simp only [ptr, Act.put, List.setIfInBounds_toArray, List.set_cons_zero, List.set_cons_succ]
  have lD7RA := Nat.lt_of_lt_of_le (lt_of_heap hRA) o1.new
  have lD7RO := Nat.lt_of_lt_of_le (lt_of_heap hRO) o1.new
  have lD7RR := Nat.lt_of_lt_of_le (lt_of_heap hRR) o1.new
  have lD7 := Nat.le_trans kk.size o1.new
  have lD8RA := Nat.lt_of_lt_of_le (lt_of_heap hRA) o2.new
  have lD8RO := Nat.lt_of_lt_of_le (lt_of_heap hRO) o2.new
  have lD8RR := Nat.lt_of_lt_of_le (lt_of_heap hRR) o2.new
  have lD8 := Nat.le_trans kk.size o2.new
  replace hRA := below_get hb hRA
  replace hRO := below_get hb hRO
  replace hRR := below_get hb hRR
  have hD7 := o1.here
  have hD8 := o2.here
  replace kk := bcl kk hb
  replace fF := HF.out.keep kk
  clear hb o1 o2
  obtain ⟨cD70, cD71, cD72, cD73⟩ := row4c hD7
  obtain ⟨zD70, zD71, zD72, zD73⟩ := row4z hD7
  refine callT (i := 14) _ rfl (by rfl) (by kernel_rfl) (fun K hK => ?_)
  go_simp
  have P := put4 (.int .u64 (w0 (mulm m z1 z1) : Nat)) (.int .u64 (w1 (mulm m z1 z1) : Nat)) (.int .u64 (w2 (mulm m z1 z1) : Nat)) (.int .u64 (w3 (mulm m z1 z1) : Nat)) hD7
  replace P := put_hid P
  obtain ⟨C1b, hW, P⟩ := P
  rw [hW]
  replace hD7 := P.here
  replace hRA := (P.there (w.heap.size) (by omega)).trans (show _ = some (.cells #[.int .u64 (w0 (x1) : Nat), .int .u64 (w1 (x1) : Nat), .int .u64 (w2 (x1) : Nat), .int .u64 (w3 (x1) : Nat), .int .u64 (w0 (y1) : Nat), .int .u64 (w1 (y1) : Nat), .int .u64 (w2 (y1) : Nat), .int .u64 (w3 (y1) : Nat), .int .u64 (w0 (z1) : Nat), .int .u64 (w1 (z1) : Nat), .int .u64 (w2 (z1) : Nat), .int .u64 (w3 (z1) : Nat)] 103 (0, 0)) from hRA)
  replace hRO := (P.there (w.heap.size + 1) (by omega)).trans (show _ = some (.cells #[.int .u64 (w0 (x2) : Nat), .int .u64 (w1 (x2) : Nat), .int .u64 (w2 (x2) : Nat), .int .u64 (w3 (x2) : Nat), .int .u64 (w0 (y2) : Nat), .int .u64 (w1 (y2) : Nat), .int .u64 (w2 (y2) : Nat), .int .u64 (w3 (y2) : Nat), .int .u64 (w0 (z2) : Nat), .int .u64 (w1 (z2) : Nat), .int .u64 (w2 (z2) : Nat), .int .u64 (w3 (z2) : Nat)] 103 (0, 0)) from hRO)
  replace hRR := (P.there (w.heap.size + 2) (by omega)).trans (show _ = some (.cells #[.int .u64 0, .int .u64 0, .int .u64 0, .int .u64 0, .int .u64 0, .int .u64 0, .int .u64 0, .int .u64 0, .int .u64 0, .int .u64 0, .int .u64 0, .int .u64 0] 103 (0, 0)) from hRR)
  replace hD8 := (P.there (bd8) (by omega)).trans (show _ = some (.cells #[.int .u64 0, .int .u64 0, .int .u64 0, .int .u64 0] 24 (0, 0)) from hD8)
  replace kk := P.below (by omega) (show Below w.heap.size w C1a from by first | exact kk | exact kk.drew | exact below_drewN kk _)
  replace fF := HF.out.keep kk
  clear cD70 zD70 cD71 zD71 cD72 zD72 cD73 zD73
  clear P hW
  refine hK.out _ _ (Or.inr (by rw [hS0]; exact ⟨hRA, hRO⟩)) ?_
  clear hK K
  try simp only [ptr, Act.put, List.setIfInBounds_toArray, List.set_cons_zero, List.set_cons_succ]
  obtain ⟨cD80, cD81, cD82, cD83⟩ := row4c hD8
  obtain ⟨zD80, zD81, zD82, zD83⟩ := row4z hD8
  refine callT (i := 15) _ rfl (by rfl) (by kernel_rfl) (fun K hK => ?_)
  go_simp
  have P := put4 (.int .u64 (w0 (mulm m z2 z2) : Nat)) (.int .u64 (w1 (mulm m z2 z2) : Nat)) (.int .u64 (w2 (mulm m z2 z2) : Nat)) (.int .u64 (w3 (mulm m z2 z2) : Nat)) hD8
  replace P := put_hid P
  obtain ⟨C1, hW, P⟩ := P
  rw [hW]
  replace hD8 := P.here
  replace hRA := (P.there (w.heap.size) (by omega)).trans (show _ = some (.cells #[.int .u64 (w0 (x1) : Nat), .int .u64 (w1 (x1) : Nat), .int .u64 (w2 (x1) : Nat), .int .u64 (w3 (x1) : Nat), .int .u64 (w0 (y1) : Nat), .int .u64 (w1 (y1) : Nat), .int .u64 (w2 (y1) : Nat), .int .u64 (w3 (y1) : Nat), .int .u64 (w0 (z1) : Nat), .int .u64 (w1 (z1) : Nat), .int .u64 (w2 (z1) : Nat), .int .u64 (w3 (z1) : Nat)] 103 (0, 0)) from hRA)
  replace hRO := (P.there (w.heap.size + 1) (by omega)).trans (show _ = some (.cells #[.int .u64 (w0 (x2) : Nat), .int .u64 (w1 (x2) : Nat), .int .u64 (w2 (x2) : Nat), .int .u64 (w3 (x2) : Nat), .int .u64 (w0 (y2) : Nat), .int .u64 (w1 (y2) : Nat), .int .u64 (w2 (y2) : Nat), .int .u64 (w3 (y2) : Nat), .int .u64 (w0 (z2) : Nat), .int .u64 (w1 (z2) : Nat), .int .u64 (w2 (z2) : Nat), .int .u64 (w3 (z2) : Nat)] 103 (0, 0)) from hRO)
  replace hRR := (P.there (w.heap.size + 2) (by omega)).trans (show _ = some (.cells #[.int .u64 0, .int .u64 0, .int .u64 0, .int .u64 0, .int .u64 0, .int .u64 0, .int .u64 0, .int .u64 0, .int .u64 0, .int .u64 0, .int .u64 0, .int .u64 0] 103 (0, 0)) from hRR)
  replace hD7 := (P.there (bd7) (by omega)).trans (show _ = some (.cells #[.int .u64 (w0 (mulm m z1 z1) : Nat), .int .u64 (w1 (mulm m z1 z1) : Nat), .int .u64 (w2 (mulm m z1 z1) : Nat), .int .u64 (w3 (mulm m z1 z1) : Nat)] 24 (0, 0)) from hD7)
  replace kk := P.below (by omega) (show Below w.heap.size w C1b from by first | exact kk | exact kk.drew | exact below_drewN kk _)
  replace fF := HF.out.keep kk
  clear cD80 zD80 cD81 zD81 cD82 zD82 cD83 zD83
  clear P hW
  refine hK.out _ _ (Or.inl (by kernel_rfl)) ?_
  clear hK K
  try simp only [ptr, Act.put, List.setIfInBounds_toArray, List.set_cons_zero, List.set_cons_succ]
  refine doneT (by kernel_rfl) ?_ _
  clear hHeld hSJ hS0 S0
  go_simp
  obtain ⟨rz, eqrz⟩ : ∃ n, mulm m z1 z1 = n := ⟨_, rfl⟩
  rw [eqrz] at hD7
  have Hrz := Lib.hid eqrz
  have Grz := Lib.hid (show rz < 2 ^ 256 by rw [← eqrz]; exact Nat.lt_trans (Nat.mod_lt _ hpos) HM.out)
  clear eqrz
  obtain ⟨oz, eqoz⟩ : ∃ n, mulm m z2 z2 = n := ⟨_, rfl⟩
  rw [eqoz] at hD8
  have Hoz := Lib.hid eqoz
  have Goz := Lib.hid (show oz < 2 ^ 256 by rw [← eqoz]; exact Nat.lt_trans (Nat.mod_lt _ hpos) HM.out)
  clear eqoz
  go_upto_region 6 with fail
  obtain ⟨S0, hS0⟩ : ∃ S : World → Prop, S = (fun w' => w'.heap[w.heap.size]? = some (.cells #[.int .u64 (w0 (x1) : Nat), .int .u64 (w1 (x1) : Nat), .int .u64 (w2 (x1) : Nat), .int .u64 (w3 (x1) : Nat), .int .u64 (w0 (y1) : Nat), .int .u64 (w1 (y1) : Nat), .int .u64 (w2 (y1) : Nat), .int .u64 (w3 (y1) : Nat), .int .u64 (w0 (z1) : Nat), .int .u64 (w1 (z1) : Nat), .int .u64 (w2 (z1) : Nat), .int .u64 (w3 (z1) : Nat)] 103 (0, 0)) ∧ w'.heap[w.heap.size + 1]? = some (.cells #[.int .u64 (w0 (x2) : Nat), .int .u64 (w1 (x2) : Nat), .int .u64 (w2 (x2) : Nat), .int .u64 (w3 (x2) : Nat), .int .u64 (w0 (y2) : Nat), .int .u64 (w1 (y2) : Nat), .int .u64 (w2 (y2) : Nat), .int .u64 (w3 (y2) : Nat), .int .u64 (w0 (z2) : Nat), .int .u64 (w1 (z2) : Nat), .int .u64 (w2 (z2) : Nat), .int .u64 (w3 (z2) : Nat)] 103 (0, 0)) ∧ w'.heap[bd7]? = some (.cells #[.int .u64 (w0 (rz) : Nat), .int .u64 (w1 (rz) : Nat), .int .u64 (w2 (rz) : Nat), .int .u64 (w3 (rz) : Nat)] 24 (0, 0)) ∧ w'.heap[bd8]? = some (.cells #[.int .u64 (w0 (oz) : Nat), .int .u64 (w1 (oz) : Nat), .int .u64 (w2 (oz) : Nat), .int .u64 (w3 (oz) : Nat)] 24 (0, 0))) := ⟨_, rfl⟩
  have hSJ : ∀ w', Below C1.heap.size C1 w' → S0 w' := by intro w' hb; rw [hS0]; exact ⟨below_get hb hRA, below_get hb hRO, below_get hb hD7, below_get hb hD8⟩
  refine startT (S := S0) 13 (by kernel_rfl) (by rw [hS0]; exact ⟨hRA, hRO, hD7, hD8⟩) (fun hHeld => ?_)
  refine takeT (i := 0) (d := some 44) (v := ?_) _ rfl rfl (by rfl) (by kernel_rfl) (by decide) (by kernel_rfl) (by kernel_rfl) (by kernel_rfl) (fun _ _ _ h => h) (by assumption) (by kernel_rfl) ?_ ?_
  rotate_left
  · (first | (intro w' hSw; clear hSw; go_simp; try (with_reducible rfl)) | (intro w'; go_simp; try (with_reducible rfl)))
  try simp only [ptr, Act.put, List.setIfInBounds_toArray, List.set_cons_zero, List.set_cons_succ]
  refine takeT (i := 1) (d := some 45) (v := ?_) _ rfl rfl (by rfl) (by kernel_rfl) (by decide) (by kernel_rfl) (by kernel_rfl) (by kernel_rfl) (fun _ _ _ h => h) (by assumption) (by kernel_rfl) ?_ ?_
  rotate_left
  · (first | (intro w' hSw; clear hSw; go_simp; try (with_reducible rfl)) | (intro w'; go_simp; try (with_reducible rfl)))
  try simp only [ptr, Act.put, List.setIfInBounds_toArray, List.set_cons_zero, List.set_cons_succ]
  refine takeT (i := 2) (d := some 46) (v := ?_) _ rfl rfl (by rfl) (by kernel_rfl) (by decide) (by kernel_rfl) (by kernel_rfl) (by kernel_rfl) (fun _ _ _ h => h) (by assumption) (by kernel_rfl) ?_ ?_
  rotate_left
  · (intro w' hSw; (rw [hS0] at hSw); (have hSw' := hSw); (first | (obtain ⟨svRA, svRO, svD7, svD8⟩ := hSw'; obtain ⟨cvRA0, cvRA1, cvRA2, cvRA3, cvRA4, cvRA5, cvRA6, cvRA7, cvRA8, cvRA9, cvRA10, cvRA11⟩ := row12c svRA; obtain ⟨cvRO0, cvRO1, cvRO2, cvRO3, cvRO4, cvRO5, cvRO6, cvRO7, cvRO8, cvRO9, cvRO10, cvRO11⟩ := row12c svRO; obtain ⟨cvD70, cvD71, cvD72, cvD73⟩ := row4c svD7; obtain ⟨cvD80, cvD81, cvD82, cvD83⟩ := row4c svD8; go_simp)); try (with_reducible rfl))
  try simp only [ptr, Act.put, List.setIfInBounds_toArray, List.set_cons_zero, List.set_cons_succ]
  refine takeT (i := 3) (d := some 47) (v := ?_) _ rfl rfl (by rfl) (by kernel_rfl) (by decide) (by kernel_rfl) (by kernel_rfl) (by kernel_rfl) (fun _ _ _ h => h) (by assumption) (by kernel_rfl) ?_ ?_
  rotate_left
  · (intro w' hSw; (rw [hS0] at hSw); (have hSw' := hSw); (first | (obtain ⟨svRA, svRO, svD7, svD8⟩ := hSw'; obtain ⟨cvRA0, cvRA1, cvRA2, cvRA3, cvRA4, cvRA5, cvRA6, cvRA7, cvRA8, cvRA9, cvRA10, cvRA11⟩ := row12c svRA; obtain ⟨cvRO0, cvRO1, cvRO2, cvRO3, cvRO4, cvRO5, cvRO6, cvRO7, cvRO8, cvRO9, cvRO10, cvRO11⟩ := row12c svRO; obtain ⟨cvD70, cvD71, cvD72, cvD73⟩ := row4c svD7; obtain ⟨cvD80, cvD81, cvD82, cvD83⟩ := row4c svD8; go_simp)); try (with_reducible rfl))
  try simp only [ptr, Act.put, List.setIfInBounds_toArray, List.set_cons_zero, List.set_cons_succ]
  refine takeT (i := 5) (d := some 49) (v := ?_) _ rfl rfl (by rfl) (by kernel_rfl) (by decide) (by kernel_rfl) (by kernel_rfl) (by kernel_rfl) (fun _ _ _ h => h) (by assumption) (by kernel_rfl) ?_ ?_
  rotate_left
  · (first | (intro w' hSw; clear hSw; go_simp; try (with_reducible rfl)) | (intro w'; go_simp; try (with_reducible rfl)))
  try simp only [ptr, Act.put, List.setIfInBounds_toArray, List.set_cons_zero, List.set_cons_succ]
  refine takeT (i := 6) (d := some 50) (v := ?_) _ rfl rfl (by rfl) (by kernel_rfl) (by decide) (by kernel_rfl) (by kernel_rfl) (by kernel_rfl) (fun _ _ _ h => h) (by assumption) (by kernel_rfl) ?_ ?_
  rotate_left
  · (first | (intro w' hSw; clear hSw; go_simp; try (with_reducible rfl)) | (intro w'; go_simp; try (with_reducible rfl)))
  try simp only [ptr, Act.put, List.setIfInBounds_toArray, List.set_cons_zero, List.set_cons_succ]
  refine takeT (i := 7) (d := some 51) (v := ?_) _ rfl rfl (by rfl) (by kernel_rfl) (by decide) (by kernel_rfl) (by kernel_rfl) (by kernel_rfl) (fun _ _ _ h => h) (by assumption) (by kernel_rfl) ?_ ?_
  rotate_left
  · (intro w' hSw; (rw [hS0] at hSw); (have hSw' := hSw); (first | (obtain ⟨svRA, svRO, svD7, svD8⟩ := hSw'; obtain ⟨cvRA0, cvRA1, cvRA2, cvRA3, cvRA4, cvRA5, cvRA6, cvRA7, cvRA8, cvRA9, cvRA10, cvRA11⟩ := row12c svRA; obtain ⟨cvRO0, cvRO1, cvRO2, cvRO3, cvRO4, cvRO5, cvRO6, cvRO7, cvRO8, cvRO9, cvRO10, cvRO11⟩ := row12c svRO; obtain ⟨cvD70, cvD71, cvD72, cvD73⟩ := row4c svD7; obtain ⟨cvD80, cvD81, cvD82, cvD83⟩ := row4c svD8; go_simp)); try (with_reducible rfl))
  try simp only [ptr, Act.put, List.setIfInBounds_toArray, List.set_cons_zero, List.set_cons_succ]
  refine takeT (i := 8) (d := some 52) (v := ?_) _ rfl rfl (by rfl) (by kernel_rfl) (by decide) (by kernel_rfl) (by kernel_rfl) (by kernel_rfl) (fun _ _ _ h => h) (by assumption) (by kernel_rfl) ?_ ?_
  rotate_left
  · (intro w' hSw; (rw [hS0] at hSw); (have hSw' := hSw); (first | (obtain ⟨svRA, svRO, svD7, svD8⟩ := hSw'; obtain ⟨cvRA0, cvRA1, cvRA2, cvRA3, cvRA4, cvRA5, cvRA6, cvRA7, cvRA8, cvRA9, cvRA10, cvRA11⟩ := row12c svRA; obtain ⟨cvRO0, cvRO1, cvRO2, cvRO3, cvRO4, cvRO5, cvRO6, cvRO7, cvRO8, cvRO9, cvRO10, cvRO11⟩ := row12c svRO; obtain ⟨cvD70, cvD71, cvD72, cvD73⟩ := row4c svD7; obtain ⟨cvD80, cvD81, cvD82, cvD83⟩ := row4c svD8; go_simp)); try (with_reducible rfl))
  try simp only [ptr, Act.put, List.setIfInBounds_toArray, List.set_cons_zero, List.set_cons_succ]
  refine NK2.start (w0 := C1) (x1 := undef) (x2 := undef) 10 11 9 10 (.cells #[.int .u64 0, .int .u64 0, .int .u64 0, .int .u64 0] 24 (0, 0)) (.cells #[.int .u64 0, .int .u64 0, .int .u64 0, .int .u64 0] 24 (0, 0)) (Below.refl _ _).drew (by (simp only [Act.put, List.setIfInBounds_toArray, List.set_cons_zero, List.set_cons_succ])) ⟨⟨_, rfl, fun _ => rfl, fun a1 w1 K hK => by go_simp; exact hK⟩⟩ ⟨⟨_, rfl, fun _ => rfl, fun a1 w1 K hK => by go_simp; exact hK⟩⟩ (fun m1 m2 => ?_)
  refine NK2.step (i := 4) (d := 48) (F := fun vv => vv = .agg #[.int .u64 (w0 (mulm m x1 oz) : Nat), .int .u64 (w1 (mulm m x1 oz) : Nat), .int .u64 (w2 (mulm m x1 oz) : Nat), .int .u64 (w3 (mulm m x1 oz) : Nat)]) m1 m2 (by decide) (by decide) hSJ (by decide) (by decide) (by decide) (by decide) (by kernel_rfl) (by kernel_rfl) (by kernel_rfl) (by kernel_rfl) ⟨⟨_, rfl, fun _ => rfl, fun yv1 yv2 w1 hJ1 K hK => ?_⟩⟩ ?_
  · try simp only [ptr, Act.put, List.setIfInBounds_toArray, List.set_cons_zero, List.set_cons_succ]
    go_simp
    have fF := fF.keep hJ1
    refine (mulG_any (by first | exact W4.mk' Gx1.out | exact W4.mk' Gy1.out | exact W4.mk' Gz1.out | exact W4.mk' Gx2.out | exact W4.mk' Gy2.out | exact W4.mk' Gz2.out | exact W4.mk' HM.out | exact W4.mk' Grz.out | exact W4.mk' Goz.out | exact W4.mk' Gu.out | exact W4.mk' Gv.out | exact W4.mk' Gs.out | exact W4.mk' Gt.out | exact W4.mk' Gh.out | exact W4.mk' Gk.out | exact W4.mk' Ghh.out | exact W4.mk' Ghhh.out | exact W4.mk' Gww.out | exact W4.mk' Gxx.out | exact W4.mk' Gyy.out | exact W4.mk' (Nat.lt_trans (Nat.mod_lt _ hpos) HM.out) | exact W4.zero | exact W4.small (n := 1) rfl (by decide) | exact W4.small (n := 2) rfl (by decide) | exact W4.small (n := 3) rfl (by decide) | exact W4.small (n := 4) rfl (by decide) | exact W4.small (n := 5) rfl (by decide) | exact W4.small (n := 7) rfl (by decide)) (by first | exact W4.mk' Gx1.out | exact W4.mk' Gy1.out | exact W4.mk' Gz1.out | exact W4.mk' Gx2.out | exact W4.mk' Gy2.out | exact W4.mk' Gz2.out | exact W4.mk' HM.out | exact W4.mk' Grz.out | exact W4.mk' Goz.out | exact W4.mk' Gu.out | exact W4.mk' Gv.out | exact W4.mk' Gs.out | exact W4.mk' Gt.out | exact W4.mk' Gh.out | exact W4.mk' Gk.out | exact W4.mk' Ghh.out | exact W4.mk' Ghhh.out | exact W4.mk' Gww.out | exact W4.mk' Gxx.out | exact W4.mk' Gyy.out | exact W4.mk' (Nat.lt_trans (Nat.mod_lt _ hpos) HM.out) | exact W4.zero | exact W4.small (n := 1) rfl (by decide) | exact W4.small (n := 2) rfl (by decide) | exact W4.small (n := 3) rfl (by decide) | exact W4.small (n := 4) rfl (by decide) | exact W4.small (n := 5) rfl (by decide) | exact W4.small (n := 7) rfl (by decide)) _ (show IsF _ (g) (m) from (by first | exact fF | exact ⟨fF.blk, fF.odd, fF.three, fF.lt⟩ | exact ⟨ak fF.blk, fF.odd, fF.three, fF.lt⟩ | exact ⟨ak (ak fF.blk), fF.odd, fF.three, fF.lt⟩))).mono ?_
    rintro e U ⟨rfl, hb⟩
    have h2 := hK.out _ _ rfl hb
    try simp only [ptr, Act.put, List.setIfInBounds_toArray, List.set_cons_zero, List.set_cons_succ] at h2
    exact h2
  rintro vv rfl
  refine NK2.step (i := 9) (d := 53) (F := fun vv => vv = .agg #[.int .u64 (w0 (mulm m x2 rz) : Nat), .int .u64 (w1 (mulm m x2 rz) : Nat), .int .u64 (w2 (mulm m x2 rz) : Nat), .int .u64 (w3 (mulm m x2 rz) : Nat)]) m1 m2 (by decide) (by decide) hSJ (by decide) (by decide) (by decide) (by decide) (by kernel_rfl) (by kernel_rfl) (by kernel_rfl) (by kernel_rfl) ⟨⟨_, rfl, fun _ => rfl, fun yv1 yv2 w1 hJ1 K hK => ?_⟩⟩ ?_
  · try simp only [ptr, Act.put, List.setIfInBounds_toArray, List.set_cons_zero, List.set_cons_succ]
    go_simp
    have fF := fF.keep hJ1
    refine (mulG_any (by first | exact W4.mk' Gx1.out | exact W4.mk' Gy1.out | exact W4.mk' Gz1.out | exact W4.mk' Gx2.out | exact W4.mk' Gy2.out | exact W4.mk' Gz2.out | exact W4.mk' HM.out | exact W4.mk' Grz.out | exact W4.mk' Goz.out | exact W4.mk' Gu.out | exact W4.mk' Gv.out | exact W4.mk' Gs.out | exact W4.mk' Gt.out | exact W4.mk' Gh.out | exact W4.mk' Gk.out | exact W4.mk' Ghh.out | exact W4.mk' Ghhh.out | exact W4.mk' Gww.out | exact W4.mk' Gxx.out | exact W4.mk' Gyy.out | exact W4.mk' (Nat.lt_trans (Nat.mod_lt _ hpos) HM.out) | exact W4.zero | exact W4.small (n := 1) rfl (by decide) | exact W4.small (n := 2) rfl (by decide) | exact W4.small (n := 3) rfl (by decide) | exact W4.small (n := 4) rfl (by decide) | exact W4.small (n := 5) rfl (by decide) | exact W4.small (n := 7) rfl (by decide)) (by first | exact W4.mk' Gx1.out | exact W4.mk' Gy1.out | exact W4.mk' Gz1.out | exact W4.mk' Gx2.out | exact W4.mk' Gy2.out | exact W4.mk' Gz2.out | exact W4.mk' HM.out | exact W4.mk' Grz.out | exact W4.mk' Goz.out | exact W4.mk' Gu.out | exact W4.mk' Gv.out | exact W4.mk' Gs.out | exact W4.mk' Gt.out | exact W4.mk' Gh.out | exact W4.mk' Gk.out | exact W4.mk' Ghh.out | exact W4.mk' Ghhh.out | exact W4.mk' Gww.out | exact W4.mk' Gxx.out | exact W4.mk' Gyy.out | exact W4.mk' (Nat.lt_trans (Nat.mod_lt _ hpos) HM.out) | exact W4.zero | exact W4.small (n := 1) rfl (by decide) | exact W4.small (n := 2) rfl (by decide) | exact W4.small (n := 3) rfl (by decide) | exact W4.small (n := 4) rfl (by decide) | exact W4.small (n := 5) rfl (by decide) | exact W4.small (n := 7) rfl (by decide)) _ (show IsF _ (g) (m) from (by first | exact fF | exact ⟨fF.blk, fF.odd, fF.three, fF.lt⟩ | exact ⟨ak fF.blk, fF.odd, fF.three, fF.lt⟩ | exact ⟨ak (ak fF.blk), fF.odd, fF.three, fF.lt⟩))).mono ?_
    rintro e U ⟨rfl, hb⟩
    have h2 := hK.out _ _ rfl hb
    try simp only [ptr, Act.put, List.setIfInBounds_toArray, List.set_cons_zero, List.set_cons_succ] at h2
    exact h2
  rintro vv rfl
  refine NK2.last m1 m2 (by decide) (by decide) hSJ (by kernel_rfl) (by kernel_rfl) (by kernel_rfl) (fun C2a bd9 bd10 hb o1 o2 n12 => ?_)
  clear m1 m2
  try simp only [ptr, Act.put, List.setIfInBounds_toArray, List.set_cons_zero, List.set_cons_succ]
  have lD9RA := Nat.lt_of_lt_of_le (lt_of_heap hRA) o1.new
  have lD9RO := Nat.lt_of_lt_of_le (lt_of_heap hRO) o1.new
  have lD9RR := Nat.lt_of_lt_of_le (lt_of_heap hRR) o1.new
  have lD9D7 := Nat.lt_of_lt_of_le (lt_of_heap hD7) o1.new
  have lD9D8 := Nat.lt_of_lt_of_le (lt_of_heap hD8) o1.new
  have lD9 := Nat.le_trans kk.size o1.new
  have lD10RA := Nat.lt_of_lt_of_le (lt_of_heap hRA) o2.new
  have lD10RO := Nat.lt_of_lt_of_le (lt_of_heap hRO) o2.new
  have lD10RR := Nat.lt_of_lt_of_le (lt_of_heap hRR) o2.new
  have lD10D7 := Nat.lt_of_lt_of_le (lt_of_heap hD7) o2.new
  have lD10D8 := Nat.lt_of_lt_of_le (lt_of_heap hD8) o2.new
  have lD10 := Nat.le_trans kk.size o2.new
  replace hRA := below_get hb hRA
  replace hRO := below_get hb hRO
  replace hRR := below_get hb hRR
  replace hD7 := below_get hb hD7
  replace hD8 := below_get hb hD8
  have hD9 := o1.here
  have hD10 := o2.here
  replace kk := bcl kk hb
  replace fF := HF.out.keep kk
  clear hb o1 o2
  obtain ⟨cD90, cD91, cD92, cD93⟩ := row4c hD9
  obtain ⟨zD90, zD91, zD92, zD93⟩ := row4z hD9
  refine callT (i := 12) _ rfl (by rfl) (by kernel_rfl) (fun K hK => ?_)
  go_simp
  have P := put4 (.int .u64 (w0 (mulm m x1 oz) : Nat)) (.int .u64 (w1 (mulm m x1 oz) : Nat)) (.int .u64 (w2 (mulm m x1 oz) : Nat)) (.int .u64 (w3 (mulm m x1 oz) : Nat)) hD9
  replace P := put_hid P
  obtain ⟨C2b, hW, P⟩ := P
  rw [hW]
  replace hD9 := P.here
  replace hRA := (P.there (w.heap.size) (by omega)).trans (show _ = some (.cells #[.int .u64 (w0 (x1) : Nat), .int .u64 (w1 (x1) : Nat), .int .u64 (w2 (x1) : Nat), .int .u64 (w3 (x1) : Nat), .int .u64 (w0 (y1) : Nat), .int .u64 (w1 (y1) : Nat), .int .u64 (w2 (y1) : Nat), .int .u64 (w3 (y1) : Nat), .int .u64 (w0 (z1) : Nat), .int .u64 (w1 (z1) : Nat), .int .u64 (w2 (z1) : Nat), .int .u64 (w3 (z1) : Nat)] 103 (0, 0)) from hRA)
  replace hRO := (P.there (w.heap.size + 1) (by omega)).trans (show _ = some (.cells #[.int .u64 (w0 (x2) : Nat), .int .u64 (w1 (x2) : Nat), .int .u64 (w2 (x2) : Nat), .int .u64 (w3 (x2) : Nat), .int .u64 (w0 (y2) : Nat), .int .u64 (w1 (y2) : Nat), .int .u64 (w2 (y2) : Nat), .int .u64 (w3 (y2) : Nat), .int .u64 (w0 (z2) : Nat), .int .u64 (w1 (z2) : Nat), .int .u64 (w2 (z2) : Nat), .int .u64 (w3 (z2) : Nat)] 103 (0, 0)) from hRO)
  replace hRR := (P.there (w.heap.size + 2) (by omega)).trans (show _ = some (.cells #[.int .u64 0, .int .u64 0, .int .u64 0, .int .u64 0, .int .u64 0, .int .u64 0, .int .u64 0, .int .u64 0, .int .u64 0, .int .u64 0, .int .u64 0, .int .u64 0] 103 (0, 0)) from hRR)
  replace hD7 := (P.there (bd7) (by omega)).trans (show _ = some (.cells #[.int .u64 (w0 (rz) : Nat), .int .u64 (w1 (rz) : Nat), .int .u64 (w2 (rz) : Nat), .int .u64 (w3 (rz) : Nat)] 24 (0, 0)) from hD7)
  replace hD8 := (P.there (bd8) (by omega)).trans (show _ = some (.cells #[.int .u64 (w0 (oz) : Nat), .int .u64 (w1 (oz) : Nat), .int .u64 (w2 (oz) : Nat), .int .u64 (w3 (oz) : Nat)] 24 (0, 0)) from hD8)
  replace hD10 := (P.there (bd10) (by omega)).trans (show _ = some (.cells #[.int .u64 0, .int .u64 0, .int .u64 0, .int .u64 0] 24 (0, 0)) from hD10)
  replace kk := P.below (by omega) (show Below w.heap.size w C2a from by first | exact kk | exact kk.drew | exact below_drewN kk _)
  replace fF := HF.out.keep kk
  clear cD90 zD90 cD91 zD91 cD92 zD92 cD93 zD93
  clear P hW
  refine hK.out _ _ (Or.inr (by rw [hS0]; exact ⟨hRA, hRO, hD7, hD8⟩)) ?_
  clear hK K
  try simp only [ptr, Act.put, List.setIfInBounds_toArray, List.set_cons_zero, List.set_cons_succ]
  obtain ⟨cD100, cD101, cD102, cD103⟩ := row4c hD10
  obtain ⟨zD100, zD101, zD102, zD103⟩ := row4z hD10
  refine callT (i := 13) _ rfl (by rfl) (by kernel_rfl) (fun K hK => ?_)
  go_simp
  have P := put4 (.int .u64 (w0 (mulm m x2 rz) : Nat)) (.int .u64 (w1 (mulm m x2 rz) : Nat)) (.int .u64 (w2 (mulm m x2 rz) : Nat)) (.int .u64 (w3 (mulm m x2 rz) : Nat)) hD10
  replace P := put_hid P
  obtain ⟨C2, hW, P⟩ := P
  rw [hW]
  replace hD10 := P.here
  replace hRA := (P.there (w.heap.size) (by omega)).trans (show _ = some (.cells #[.int .u64 (w0 (x1) : Nat), .int .u64 (w1 (x1) : Nat), .int .u64 (w2 (x1) : Nat), .int .u64 (w3 (x1) : Nat), .int .u64 (w0 (y1) : Nat), .int .u64 (w1 (y1) : Nat), .int .u64 (w2 (y1) : Nat), .int .u64 (w3 (y1) : Nat), .int .u64 (w0 (z1) : Nat), .int .u64 (w1 (z1) : Nat), .int .u64 (w2 (z1) : Nat), .int .u64 (w3 (z1) : Nat)] 103 (0, 0)) from hRA)
  replace hRO := (P.there (w.heap.size + 1) (by omega)).trans (show _ = some (.cells #[.int .u64 (w0 (x2) : Nat), .int .u64 (w1 (x2) : Nat), .int .u64 (w2 (x2) : Nat), .int .u64 (w3 (x2) : Nat), .int .u64 (w0 (y2) : Nat), .int .u64 (w1 (y2) : Nat), .int .u64 (w2 (y2) : Nat), .int .u64 (w3 (y2) : Nat), .int .u64 (w0 (z2) : Nat), .int .u64 (w1 (z2) : Nat), .int .u64 (w2 (z2) : Nat), .int .u64 (w3 (z2) : Nat)] 103 (0, 0)) from hRO)
  replace hRR := (P.there (w.heap.size + 2) (by omega)).trans (show _ = some (.cells #[.int .u64 0, .int .u64 0, .int .u64 0, .int .u64 0, .int .u64 0, .int .u64 0, .int .u64 0, .int .u64 0, .int .u64 0, .int .u64 0, .int .u64 0, .int .u64 0] 103 (0, 0)) from hRR)
  replace hD7 := (P.there (bd7) (by omega)).trans (show _ = some (.cells #[.int .u64 (w0 (rz) : Nat), .int .u64 (w1 (rz) : Nat), .int .u64 (w2 (rz) : Nat), .int .u64 (w3 (rz) : Nat)] 24 (0, 0)) from hD7)
  replace hD8 := (P.there (bd8) (by omega)).trans (show _ = some (.cells #[.int .u64 (w0 (oz) : Nat), .int .u64 (w1 (oz) : Nat), .int .u64 (w2 (oz) : Nat), .int .u64 (w3 (oz) : Nat)] 24 (0, 0)) from hD8)
  replace hD9 := (P.there (bd9) (by omega)).trans (show _ = some (.cells #[.int .u64 (w0 (mulm m x1 oz) : Nat), .int .u64 (w1 (mulm m x1 oz) : Nat), .int .u64 (w2 (mulm m x1 oz) : Nat), .int .u64 (w3 (mulm m x1 oz) : Nat)] 24 (0, 0)) from hD9)
  replace kk := P.below (by omega) (show Below w.heap.size w C2b from by first | exact kk | exact kk.drew | exact below_drewN kk _)
  replace fF := HF.out.keep kk
  clear cD100 zD100 cD101 zD101 cD102 zD102 cD103 zD103
  clear P hW
  refine hK.out _ _ (Or.inl (by kernel_rfl)) ?_
  clear hK K
  try simp only [ptr, Act.put, List.setIfInBounds_toArray, List.set_cons_zero, List.set_cons_succ]
  refine doneT (by kernel_rfl) ?_ _
  clear hHeld hSJ hS0 S0
  go_simp
  obtain ⟨u, equ⟩ : ∃ n, mulm m x1 oz = n := ⟨_, rfl⟩
  rw [equ] at hD9
  have Hu := Lib.hid equ
  have Gu := Lib.hid (show u < 2 ^ 256 by rw [← equ]; exact Nat.lt_trans (Nat.mod_lt _ hpos) HM.out)
  clear equ
  obtain ⟨v, eqv⟩ : ∃ n, mulm m x2 rz = n := ⟨_, rfl⟩
  rw [eqv] at hD10
  have Hv := Lib.hid eqv
  have Gv := Lib.hid (show v < 2 ^ 256 by rw [← eqv]; exact Nat.lt_trans (Nat.mod_lt _ hpos) HM.out)
  clear eqv
  go_upto_region 7 with fail
  obtain ⟨S0, hS0⟩ : ∃ S : World → Prop, S = (fun w' => w'.heap[w.heap.size]? = some (.cells #[.int .u64 (w0 (x1) : Nat), .int .u64 (w1 (x1) : Nat), .int .u64 (w2 (x1) : Nat), .int .u64 (w3 (x1) : Nat), .int .u64 (w0 (y1) : Nat), .int .u64 (w1 (y1) : Nat), .int .u64 (w2 (y1) : Nat), .int .u64 (w3 (y1) : Nat), .int .u64 (w0 (z1) : Nat), .int .u64 (w1 (z1) : Nat), .int .u64 (w2 (z1) : Nat), .int .u64 (w3 (z1) : Nat)] 103 (0, 0)) ∧ w'.heap[w.heap.size + 1]? = some (.cells #[.int .u64 (w0 (x2) : Nat), .int .u64 (w1 (x2) : Nat), .int .u64 (w2 (x2) : Nat), .int .u64 (w3 (x2) : Nat), .int .u64 (w0 (y2) : Nat), .int .u64 (w1 (y2) : Nat), .int .u64 (w2 (y2) : Nat), .int .u64 (w3 (y2) : Nat), .int .u64 (w0 (z2) : Nat), .int .u64 (w1 (z2) : Nat), .int .u64 (w2 (z2) : Nat), .int .u64 (w3 (z2) : Nat)] 103 (0, 0)) ∧ w'.heap[bd7]? = some (.cells #[.int .u64 (w0 (rz) : Nat), .int .u64 (w1 (rz) : Nat), .int .u64 (w2 (rz) : Nat), .int .u64 (w3 (rz) : Nat)] 24 (0, 0)) ∧ w'.heap[bd8]? = some (.cells #[.int .u64 (w0 (oz) : Nat), .int .u64 (w1 (oz) : Nat), .int .u64 (w2 (oz) : Nat), .int .u64 (w3 (oz) : Nat)] 24 (0, 0))) := ⟨_, rfl⟩
  have hSJ : ∀ w', Below C2.heap.size C2 w' → S0 w' := by intro w' hb; rw [hS0]; exact ⟨below_get hb hRA, below_get hb hRO, below_get hb hD7, below_get hb hD8⟩
  refine startT (S := S0) 21 (by kernel_rfl) (by rw [hS0]; exact ⟨hRA, hRO, hD7, hD8⟩) (fun hHeld => ?_)
  refine takeT (i := 0) (d := some 54) (v := ?_) _ rfl rfl (by rfl) (by kernel_rfl) (by decide) (by kernel_rfl) (by kernel_rfl) (by kernel_rfl) (fun _ _ _ h => h) (by assumption) (by kernel_rfl) ?_ ?_
  rotate_left
  · (first | (intro w' hSw; clear hSw; go_simp; try (with_reducible rfl)) | (intro w'; go_simp; try (with_reducible rfl)))
  try simp only [ptr, Act.put, List.setIfInBounds_toArray, List.set_cons_zero, List.set_cons_succ]
  refine takeT (i := 1) (d := some 55) (v := ?_) _ rfl rfl (by rfl) (by kernel_rfl) (by decide) (by kernel_rfl) (by kernel_rfl) (by kernel_rfl) (fun _ _ _ h => h) (by assumption) (by kernel_rfl) ?_ ?_
  rotate_left
  · (first | (intro w' hSw; clear hSw; go_simp; try (with_reducible rfl)) | (intro w'; go_simp; try (with_reducible rfl)))
  try simp only [ptr, Act.put, List.setIfInBounds_toArray, List.set_cons_zero, List.set_cons_succ]
  refine takeT (i := 2) (d := some 56) (v := ?_) _ rfl rfl (by rfl) (by kernel_rfl) (by decide) (by kernel_rfl) (by kernel_rfl) (by kernel_rfl) (fun _ _ _ h => h) (by assumption) (by kernel_rfl) ?_ ?_
  rotate_left
  · (intro w' hSw; (rw [hS0] at hSw); (have hSw' := hSw); (first | (obtain ⟨svRA, svRO, svD7, svD8⟩ := hSw'; obtain ⟨cvRA0, cvRA1, cvRA2, cvRA3, cvRA4, cvRA5, cvRA6, cvRA7, cvRA8, cvRA9, cvRA10, cvRA11⟩ := row12c svRA; obtain ⟨cvRO0, cvRO1, cvRO2, cvRO3, cvRO4, cvRO5, cvRO6, cvRO7, cvRO8, cvRO9, cvRO10, cvRO11⟩ := row12c svRO; obtain ⟨cvD70, cvD71, cvD72, cvD73⟩ := row4c svD7; obtain ⟨cvD80, cvD81, cvD82, cvD83⟩ := row4c svD8; go_simp)); try (with_reducible rfl))
  try simp only [ptr, Act.put, List.setIfInBounds_toArray, List.set_cons_zero, List.set_cons_succ]
  refine takeT (i := 3) (d := some 57) (v := ?_) _ rfl rfl (by rfl) (by kernel_rfl) (by decide) (by kernel_rfl) (by kernel_rfl) (by kernel_rfl) (fun _ _ _ h => h) (by assumption) (by kernel_rfl) ?_ ?_
  rotate_left
  · (first | (intro w' hSw; clear hSw; go_simp; try (with_reducible rfl)) | (intro w'; go_simp; try (with_reducible rfl)))
  try simp only [ptr, Act.put, List.setIfInBounds_toArray, List.set_cons_zero, List.set_cons_succ]
  refine takeT (i := 4) (d := some 58) (v := ?_) _ rfl rfl (by rfl) (by kernel_rfl) (by decide) (by kernel_rfl) (by kernel_rfl) (by kernel_rfl) (fun _ _ _ h => h) (by assumption) (by kernel_rfl) ?_ ?_
  rotate_left
  · (intro w' hSw; (rw [hS0] at hSw); (have hSw' := hSw); (first | (obtain ⟨svRA, svRO, svD7, svD8⟩ := hSw'; obtain ⟨cvRA0, cvRA1, cvRA2, cvRA3, cvRA4, cvRA5, cvRA6, cvRA7, cvRA8, cvRA9, cvRA10, cvRA11⟩ := row12c svRA; obtain ⟨cvRO0, cvRO1, cvRO2, cvRO3, cvRO4, cvRO5, cvRO6, cvRO7, cvRO8, cvRO9, cvRO10, cvRO11⟩ := row12c svRO; obtain ⟨cvD70, cvD71, cvD72, cvD73⟩ := row4c svD7; obtain ⟨cvD80, cvD81, cvD82, cvD83⟩ := row4c svD8; go_simp)); try (with_reducible rfl))
  try simp only [ptr, Act.put, List.setIfInBounds_toArray, List.set_cons_zero, List.set_cons_succ]
  refine takeT (i := 5) (d := some 59) (v := ?_) _ rfl rfl (by rfl) (by kernel_rfl) (by decide) (by kernel_rfl) (by kernel_rfl) (by kernel_rfl) (fun _ _ _ h => h) (by assumption) (by kernel_rfl) ?_ ?_
  rotate_left
  · (first | (intro w' hSw; clear hSw; go_simp; try (with_reducible rfl)) | (intro w'; go_simp; try (with_reducible rfl)))
  try simp only [ptr, Act.put, List.setIfInBounds_toArray, List.set_cons_zero, List.set_cons_succ]
  refine takeT (i := 6) (d := some 60) (v := ?_) _ rfl rfl (by rfl) (by kernel_rfl) (by decide) (by kernel_rfl) (by kernel_rfl) (by kernel_rfl) (fun _ _ _ h => h) (by assumption) (by kernel_rfl) ?_ ?_
  rotate_left
  · (intro w' hSw; (rw [hS0] at hSw); (have hSw' := hSw); (first | (obtain ⟨svRA, svRO, svD7, svD8⟩ := hSw'; obtain ⟨cvRA0, cvRA1, cvRA2, cvRA3, cvRA4, cvRA5, cvRA6, cvRA7, cvRA8, cvRA9, cvRA10, cvRA11⟩ := row12c svRA; obtain ⟨cvRO0, cvRO1, cvRO2, cvRO3, cvRO4, cvRO5, cvRO6, cvRO7, cvRO8, cvRO9, cvRO10, cvRO11⟩ := row12c svRO; obtain ⟨cvD70, cvD71, cvD72, cvD73⟩ := row4c svD7; obtain ⟨cvD80, cvD81, cvD82, cvD83⟩ := row4c svD8; go_simp)); try (with_reducible rfl))
  try simp only [ptr, Act.put, List.setIfInBounds_toArray, List.set_cons_zero, List.set_cons_succ]
  refine takeT (i := 9) (d := some 63) (v := ?_) _ rfl rfl (by rfl) (by kernel_rfl) (by decide) (by kernel_rfl) (by kernel_rfl) (by kernel_rfl) (fun _ _ _ h => h) (by assumption) (by kernel_rfl) ?_ ?_
  rotate_left
  · (first | (intro w' hSw; clear hSw; go_simp; try (with_reducible rfl)) | (intro w'; go_simp; try (with_reducible rfl)))
  try simp only [ptr, Act.put, List.setIfInBounds_toArray, List.set_cons_zero, List.set_cons_succ]
  refine takeT (i := 10) (d := some 64) (v := ?_) _ rfl rfl (by rfl) (by kernel_rfl) (by decide) (by kernel_rfl) (by kernel_rfl) (by kernel_rfl) (fun _ _ _ h => h) (by assumption) (by kernel_rfl) ?_ ?_
  rotate_left
  · (first | (intro w' hSw; clear hSw; go_simp; try (with_reducible rfl)) | (intro w'; go_simp; try (with_reducible rfl)))
  try simp only [ptr, Act.put, List.setIfInBounds_toArray, List.set_cons_zero, List.set_cons_succ]
  refine takeT (i := 11) (d := some 65) (v := ?_) _ rfl rfl (by rfl) (by kernel_rfl) (by decide) (by kernel_rfl) (by kernel_rfl) (by kernel_rfl) (fun _ _ _ h => h) (by assumption) (by kernel_rfl) ?_ ?_
  rotate_left
  · (intro w' hSw; (rw [hS0] at hSw); (have hSw' := hSw); (first | (obtain ⟨svRA, svRO, svD7, svD8⟩ := hSw'; obtain ⟨cvRA0, cvRA1, cvRA2, cvRA3, cvRA4, cvRA5, cvRA6, cvRA7, cvRA8, cvRA9, cvRA10, cvRA11⟩ := row12c svRA; obtain ⟨cvRO0, cvRO1, cvRO2, cvRO3, cvRO4, cvRO5, cvRO6, cvRO7, cvRO8, cvRO9, cvRO10, cvRO11⟩ := row12c svRO; obtain ⟨cvD70, cvD71, cvD72, cvD73⟩ := row4c svD7; obtain ⟨cvD80, cvD81, cvD82, cvD83⟩ := row4c svD8; go_simp)); try (with_reducible rfl))
  try simp only [ptr, Act.put, List.setIfInBounds_toArray, List.set_cons_zero, List.set_cons_succ]
  refine takeT (i := 12) (d := some 66) (v := ?_) _ rfl rfl (by rfl) (by kernel_rfl) (by decide) (by kernel_rfl) (by kernel_rfl) (by kernel_rfl) (fun _ _ _ h => h) (by assumption) (by kernel_rfl) ?_ ?_
  rotate_left
  · (first | (intro w' hSw; clear hSw; go_simp; try (with_reducible rfl)) | (intro w'; go_simp; try (with_reducible rfl)))
  try simp only [ptr, Act.put, List.setIfInBounds_toArray, List.set_cons_zero, List.set_cons_succ]
  refine takeT (i := 13) (d := some 67) (v := ?_) _ rfl rfl (by rfl) (by kernel_rfl) (by decide) (by kernel_rfl) (by kernel_rfl) (by kernel_rfl) (fun _ _ _ h => h) (by assumption) (by kernel_rfl) ?_ ?_
  rotate_left
  · (intro w' hSw; (rw [hS0] at hSw); (have hSw' := hSw); (first | (obtain ⟨svRA, svRO, svD7, svD8⟩ := hSw'; obtain ⟨cvRA0, cvRA1, cvRA2, cvRA3, cvRA4, cvRA5, cvRA6, cvRA7, cvRA8, cvRA9, cvRA10, cvRA11⟩ := row12c svRA; obtain ⟨cvRO0, cvRO1, cvRO2, cvRO3, cvRO4, cvRO5, cvRO6, cvRO7, cvRO8, cvRO9, cvRO10, cvRO11⟩ := row12c svRO; obtain ⟨cvD70, cvD71, cvD72, cvD73⟩ := row4c svD7; obtain ⟨cvD80, cvD81, cvD82, cvD83⟩ := row4c svD8; go_simp)); try (with_reducible rfl))
  try simp only [ptr, Act.put, List.setIfInBounds_toArray, List.set_cons_zero, List.set_cons_succ]
  refine takeT (i := 14) (d := some 68) (v := ?_) _ rfl rfl (by rfl) (by kernel_rfl) (by decide) (by kernel_rfl) (by kernel_rfl) (by kernel_rfl) (fun _ _ _ h => h) (by assumption) (by kernel_rfl) ?_ ?_
  rotate_left
  · (first | (intro w' hSw; clear hSw; go_simp; try (with_reducible rfl)) | (intro w'; go_simp; try (with_reducible rfl)))
  try simp only [ptr, Act.put, List.setIfInBounds_toArray, List.set_cons_zero, List.set_cons_succ]
  refine takeT (i := 15) (d := some 69) (v := ?_) _ rfl rfl (by rfl) (by kernel_rfl) (by decide) (by kernel_rfl) (by kernel_rfl) (by kernel_rfl) (fun _ _ _ h => h) (by assumption) (by kernel_rfl) ?_ ?_
  rotate_left
  · (intro w' hSw; (rw [hS0] at hSw); (have hSw' := hSw); (first | (obtain ⟨svRA, svRO, svD7, svD8⟩ := hSw'; obtain ⟨cvRA0, cvRA1, cvRA2, cvRA3, cvRA4, cvRA5, cvRA6, cvRA7, cvRA8, cvRA9, cvRA10, cvRA11⟩ := row12c svRA; obtain ⟨cvRO0, cvRO1, cvRO2, cvRO3, cvRO4, cvRO5, cvRO6, cvRO7, cvRO8, cvRO9, cvRO10, cvRO11⟩ := row12c svRO; obtain ⟨cvD70, cvD71, cvD72, cvD73⟩ := row4c svD7; obtain ⟨cvD80, cvD81, cvD82, cvD83⟩ := row4c svD8; go_simp)); try (with_reducible rfl))
  try simp only [ptr, Act.put, List.setIfInBounds_toArray, List.set_cons_zero, List.set_cons_succ]
  refine NK2.start (w0 := C2) (x1 := undef) (x2 := undef) 18 19 11 12 (.cells #[.int .u64 0, .int .u64 0, .int .u64 0, .int .u64 0] 24 (0, 0)) (.cells #[.int .u64 0, .int .u64 0, .int .u64 0, .int .u64 0] 24 (0, 0)) (Below.refl _ _).drew (by (simp only [Act.put, List.setIfInBounds_toArray, List.set_cons_zero, List.set_cons_succ])) ⟨⟨_, rfl, fun _ => rfl, fun a1 w1 K hK => by go_simp; exact hK⟩⟩ ⟨⟨_, rfl, fun _ => rfl, fun a1 w1 K hK => by go_simp; exact hK⟩⟩ (fun m1 m2 => ?_)
  refine NK2.step (i := 7) (d := 61) (F := fun vv => vv = .agg #[.int .u64 (w0 (mulm m oz z2) : Nat), .int .u64 (w1 (mulm m oz z2) : Nat), .int .u64 (w2 (mulm m oz z2) : Nat), .int .u64 (w3 (mulm m oz z2) : Nat)]) m1 m2 (by decide) (by decide) hSJ (by decide) (by decide) (by decide) (by decide) (by kernel_rfl) (by kernel_rfl) (by kernel_rfl) (by kernel_rfl) ⟨⟨_, rfl, fun _ => rfl, fun yv1 yv2 w1 hJ1 K hK => ?_⟩⟩ ?_
  · try simp only [ptr, Act.put, List.setIfInBounds_toArray, List.set_cons_zero, List.set_cons_succ]
    go_simp
    have fF := fF.keep hJ1
    refine (mulG_any (by first | exact W4.mk' Gx1.out | exact W4.mk' Gy1.out | exact W4.mk' Gz1.out | exact W4.mk' Gx2.out | exact W4.mk' Gy2.out | exact W4.mk' Gz2.out | exact W4.mk' HM.out | exact W4.mk' Grz.out | exact W4.mk' Goz.out | exact W4.mk' Gu.out | exact W4.mk' Gv.out | exact W4.mk' Gs.out | exact W4.mk' Gt.out | exact W4.mk' Gh.out | exact W4.mk' Gk.out | exact W4.mk' Ghh.out | exact W4.mk' Ghhh.out | exact W4.mk' Gww.out | exact W4.mk' Gxx.out | exact W4.mk' Gyy.out | exact W4.mk' (Nat.lt_trans (Nat.mod_lt _ hpos) HM.out) | exact W4.zero | exact W4.small (n := 1) rfl (by decide) | exact W4.small (n := 2) rfl (by decide) | exact W4.small (n := 3) rfl (by decide) | exact W4.small (n := 4) rfl (by decide) | exact W4.small (n := 5) rfl (by decide) | exact W4.small (n := 7) rfl (by decide)) (by first | exact W4.mk' Gx1.out | exact W4.mk' Gy1.out | exact W4.mk' Gz1.out | exact W4.mk' Gx2.out | exact W4.mk' Gy2.out | exact W4.mk' Gz2.out | exact W4.mk' HM.out | exact W4.mk' Grz.out | exact W4.mk' Goz.out | exact W4.mk' Gu.out | exact W4.mk' Gv.out | exact W4.mk' Gs.out | exact W4.mk' Gt.out | exact W4.mk' Gh.out | exact W4.mk' Gk.out | exact W4.mk' Ghh.out | exact W4.mk' Ghhh.out | exact W4.mk' Gww.out | exact W4.mk' Gxx.out | exact W4.mk' Gyy.out | exact W4.mk' (Nat.lt_trans (Nat.mod_lt _ hpos) HM.out) | exact W4.zero | exact W4.small (n := 1) rfl (by decide) | exact W4.small (n := 2) rfl (by decide) | exact W4.small (n := 3) rfl (by decide) | exact W4.small (n := 4) rfl (by decide) | exact W4.small (n := 5) rfl (by decide) | exact W4.small (n := 7) rfl (by decide)) _ (show IsF _ (g) (m) from (by first | exact fF | exact ⟨fF.blk, fF.odd, fF.three, fF.lt⟩ | exact ⟨ak fF.blk, fF.odd, fF.three, fF.lt⟩ | exact ⟨ak (ak fF.blk), fF.odd, fF.three, fF.lt⟩))).mono ?_
    rintro e U ⟨rfl, hb⟩
    have h2 := hK.out _ _ rfl hb
    try simp only [ptr, Act.put, List.setIfInBounds_toArray, List.set_cons_zero, List.set_cons_succ] at h2
    exact h2
  rintro vv rfl
  refine NK2.step (i := 8) (d := 62) (F := fun vv => vv = .agg #[.int .u64 (w0 (mulm m y1 (mulm m oz z2)) : Nat), .int .u64 (w1 (mulm m y1 (mulm m oz z2)) : Nat), .int .u64 (w2 (mulm m y1 (mulm m oz z2)) : Nat), .int .u64 (w3 (mulm m y1 (mulm m oz z2)) : Nat)]) m1 m2 (by decide) (by decide) hSJ (by decide) (by decide) (by decide) (by decide) (by kernel_rfl) (by kernel_rfl) (by kernel_rfl) (by kernel_rfl) ⟨⟨_, rfl, fun _ => rfl, fun yv1 yv2 w1 hJ1 K hK => ?_⟩⟩ ?_
  · try simp only [ptr, Act.put, List.setIfInBounds_toArray, List.set_cons_zero, List.set_cons_succ]
    go_simp
    have fF := fF.keep hJ1
    refine (mulG_any (by first | exact W4.mk' Gx1.out | exact W4.mk' Gy1.out | exact W4.mk' Gz1.out | exact W4.mk' Gx2.out | exact W4.mk' Gy2.out | exact W4.mk' Gz2.out | exact W4.mk' HM.out | exact W4.mk' Grz.out | exact W4.mk' Goz.out | exact W4.mk' Gu.out | exact W4.mk' Gv.out | exact W4.mk' Gs.out | exact W4.mk' Gt.out | exact W4.mk' Gh.out | exact W4.mk' Gk.out | exact W4.mk' Ghh.out | exact W4.mk' Ghhh.out | exact W4.mk' Gww.out | exact W4.mk' Gxx.out | exact W4.mk' Gyy.out | exact W4.mk' (Nat.lt_trans (Nat.mod_lt _ hpos) HM.out) | exact W4.zero | exact W4.small (n := 1) rfl (by decide) | exact W4.small (n := 2) rfl (by decide) | exact W4.small (n := 3) rfl (by decide) | exact W4.small (n := 4) rfl (by decide) | exact W4.small (n := 5) rfl (by decide) | exact W4.small (n := 7) rfl (by decide)) (by first | exact W4.mk' Gx1.out | exact W4.mk' Gy1.out | exact W4.mk' Gz1.out | exact W4.mk' Gx2.out | exact W4.mk' Gy2.out | exact W4.mk' Gz2.out | exact W4.mk' HM.out | exact W4.mk' Grz.out | exact W4.mk' Goz.out | exact W4.mk' Gu.out | exact W4.mk' Gv.out | exact W4.mk' Gs.out | exact W4.mk' Gt.out | exact W4.mk' Gh.out | exact W4.mk' Gk.out | exact W4.mk' Ghh.out | exact W4.mk' Ghhh.out | exact W4.mk' Gww.out | exact W4.mk' Gxx.out | exact W4.mk' Gyy.out | exact W4.mk' (Nat.lt_trans (Nat.mod_lt _ hpos) HM.out) | exact W4.zero | exact W4.small (n := 1) rfl (by decide) | exact W4.small (n := 2) rfl (by decide) | exact W4.small (n := 3) rfl (by decide) | exact W4.small (n := 4) rfl (by decide) | exact W4.small (n := 5) rfl (by decide) | exact W4.small (n := 7) rfl (by decide)) _ (show IsF _ (g) (m) from (by first | exact fF | exact ⟨fF.blk, fF.odd, fF.three, fF.lt⟩ | exact ⟨ak fF.blk, fF.odd, fF.three, fF.lt⟩ | exact ⟨ak (ak fF.blk), fF.odd, fF.three, fF.lt⟩))).mono ?_
    rintro e U ⟨rfl, hb⟩
    have h2 := hK.out _ _ rfl hb
    try simp only [ptr, Act.put, List.setIfInBounds_toArray, List.set_cons_zero, List.set_cons_succ] at h2
    exact h2
  rintro vv rfl
  refine NK2.step (i := 16) (d := 70) (F := fun vv => vv = .agg #[.int .u64 (w0 (mulm m rz z1) : Nat), .int .u64 (w1 (mulm m rz z1) : Nat), .int .u64 (w2 (mulm m rz z1) : Nat), .int .u64 (w3 (mulm m rz z1) : Nat)]) m1 m2 (by decide) (by decide) hSJ (by decide) (by decide) (by decide) (by decide) (by kernel_rfl) (by kernel_rfl) (by kernel_rfl) (by kernel_rfl) ⟨⟨_, rfl, fun _ => rfl, fun yv1 yv2 w1 hJ1 K hK => ?_⟩⟩ ?_
  · try simp only [ptr, Act.put, List.setIfInBounds_toArray, List.set_cons_zero, List.set_cons_succ]
    go_simp
    have fF := fF.keep hJ1
    refine (mulG_any (by first | exact W4.mk' Gx1.out | exact W4.mk' Gy1.out | exact W4.mk' Gz1.out | exact W4.mk' Gx2.out | exact W4.mk' Gy2.out | exact W4.mk' Gz2.out | exact W4.mk' HM.out | exact W4.mk' Grz.out | exact W4.mk' Goz.out | exact W4.mk' Gu.out | exact W4.mk' Gv.out | exact W4.mk' Gs.out | exact W4.mk' Gt.out | exact W4.mk' Gh.out | exact W4.mk' Gk.out | exact W4.mk' Ghh.out | exact W4.mk' Ghhh.out | exact W4.mk' Gww.out | exact W4.mk' Gxx.out | exact W4.mk' Gyy.out | exact W4.mk' (Nat.lt_trans (Nat.mod_lt _ hpos) HM.out) | exact W4.zero | exact W4.small (n := 1) rfl (by decide) | exact W4.small (n := 2) rfl (by decide) | exact W4.small (n := 3) rfl (by decide) | exact W4.small (n := 4) rfl (by decide) | exact W4.small (n := 5) rfl (by decide) | exact W4.small (n := 7) rfl (by decide)) (by first | exact W4.mk' Gx1.out | exact W4.mk' Gy1.out | exact W4.mk' Gz1.out | exact W4.mk' Gx2.out | exact W4.mk' Gy2.out | exact W4.mk' Gz2.out | exact W4.mk' HM.out | exact W4.mk' Grz.out | exact W4.mk' Goz.out | exact W4.mk' Gu.out | exact W4.mk' Gv.out | exact W4.mk' Gs.out | exact W4.mk' Gt.out | exact W4.mk' Gh.out | exact W4.mk' Gk.out | exact W4.mk' Ghh.out | exact W4.mk' Ghhh.out | exact W4.mk' Gww.out | exact W4.mk' Gxx.out | exact W4.mk' Gyy.out | exact W4.mk' (Nat.lt_trans (Nat.mod_lt _ hpos) HM.out) | exact W4.zero | exact W4.small (n := 1) rfl (by decide) | exact W4.small (n := 2) rfl (by decide) | exact W4.small (n := 3) rfl (by decide) | exact W4.small (n := 4) rfl (by decide) | exact W4.small (n := 5) rfl (by decide) | exact W4.small (n := 7) rfl (by decide)) _ (show IsF _ (g) (m) from (by first | exact fF | exact ⟨fF.blk, fF.odd, fF.three, fF.lt⟩ | exact ⟨ak fF.blk, fF.odd, fF.three, fF.lt⟩ | exact ⟨ak (ak fF.blk), fF.odd, fF.three, fF.lt⟩))).mono ?_
    rintro e U ⟨rfl, hb⟩
    have h2 := hK.out _ _ rfl hb
    try simp only [ptr, Act.put, List.setIfInBounds_toArray, List.set_cons_zero, List.set_cons_succ] at h2
    exact h2
  rintro vv rfl
  refine NK2.step (i := 17) (d := 71) (F := fun vv => vv = .agg #[.int .u64 (w0 (mulm m y2 (mulm m rz z1)) : Nat), .int .u64 (w1 (mulm m y2 (mulm m rz z1)) : Nat), .int .u64 (w2 (mulm m y2 (mulm m rz z1)) : Nat), .int .u64 (w3 (mulm m y2 (mulm m rz z1)) : Nat)]) m1 m2 (by decide) (by decide) hSJ (by decide) (by decide) (by decide) (by decide) (by kernel_rfl) (by kernel_rfl) (by kernel_rfl) (by kernel_rfl) ⟨⟨_, rfl, fun _ => rfl, fun yv1 yv2 w1 hJ1 K hK => ?_⟩⟩ ?_
  · try simp only [ptr, Act.put, List.setIfInBounds_toArray, List.set_cons_zero, List.set_cons_succ]
    go_simp
    have fF := fF.keep hJ1
    refine (mulG_any (by first | exact W4.mk' Gx1.out | exact W4.mk' Gy1.out | exact W4.mk' Gz1.out | exact W4.mk' Gx2.out | exact W4.mk' Gy2.out | exact W4.mk' Gz2.out | exact W4.mk' HM.out | exact W4.mk' Grz.out | exact W4.mk' Goz.out | exact W4.mk' Gu.out | exact W4.mk' Gv.out | exact W4.mk' Gs.out | exact W4.mk' Gt.out | exact W4.mk' Gh.out | exact W4.mk' Gk.out | exact W4.mk' Ghh.out | exact W4.mk' Ghhh.out | exact W4.mk' Gww.out | exact W4.mk' Gxx.out | exact W4.mk' Gyy.out | exact W4.mk' (Nat.lt_trans (Nat.mod_lt _ hpos) HM.out) | exact W4.zero | exact W4.small (n := 1) rfl (by decide) | exact W4.small (n := 2) rfl (by decide) | exact W4.small (n := 3) rfl (by decide) | exact W4.small (n := 4) rfl (by decide) | exact W4.small (n := 5) rfl (by decide) | exact W4.small (n := 7) rfl (by decide)) (by first | exact W4.mk' Gx1.out | exact W4.mk' Gy1.out | exact W4.mk' Gz1.out | exact W4.mk' Gx2.out | exact W4.mk' Gy2.out | exact W4.mk' Gz2.out | exact W4.mk' HM.out | exact W4.mk' Grz.out | exact W4.mk' Goz.out | exact W4.mk' Gu.out | exact W4.mk' Gv.out | exact W4.mk' Gs.out | exact W4.mk' Gt.out | exact W4.mk' Gh.out | exact W4.mk' Gk.out | exact W4.mk' Ghh.out | exact W4.mk' Ghhh.out | exact W4.mk' Gww.out | exact W4.mk' Gxx.out | exact W4.mk' Gyy.out | exact W4.mk' (Nat.lt_trans (Nat.mod_lt _ hpos) HM.out) | exact W4.zero | exact W4.small (n := 1) rfl (by decide) | exact W4.small (n := 2) rfl (by decide) | exact W4.small (n := 3) rfl (by decide) | exact W4.small (n := 4) rfl (by decide) | exact W4.small (n := 5) rfl (by decide) | exact W4.small (n := 7) rfl (by decide)) _ (show IsF _ (g) (m) from (by first | exact fF | exact ⟨fF.blk, fF.odd, fF.three, fF.lt⟩ | exact ⟨ak fF.blk, fF.odd, fF.three, fF.lt⟩ | exact ⟨ak (ak fF.blk), fF.odd, fF.three, fF.lt⟩))).mono ?_
    rintro e U ⟨rfl, hb⟩
    have h2 := hK.out _ _ rfl hb
    try simp only [ptr, Act.put, List.setIfInBounds_toArray, List.set_cons_zero, List.set_cons_succ] at h2
    exact h2
  rintro vv rfl
  refine NK2.last m1 m2 (by decide) (by decide) hSJ (by kernel_rfl) (by kernel_rfl) (by kernel_rfl) (fun C3a bd11 bd12 hb o1 o2 n12 => ?_)
  clear m1 m2
  try simp only [ptr, Act.put, List.setIfInBounds_toArray, List.set_cons_zero, List.set_cons_succ]
  have lD11RA := Nat.lt_of_lt_of_le (lt_of_heap hRA) o1.new
  have lD11RO := Nat.lt_of_lt_of_le (lt_of_heap hRO) o1.new
  have lD11RR := Nat.lt_of_lt_of_le (lt_of_heap hRR) o1.new
  have lD11D7 := Nat.lt_of_lt_of_le (lt_of_heap hD7) o1.new
  have lD11D8 := Nat.lt_of_lt_of_le (lt_of_heap hD8) o1.new
  have lD11D9 := Nat.lt_of_lt_of_le (lt_of_heap hD9) o1.new
  have lD11D10 := Nat.lt_of_lt_of_le (lt_of_heap hD10) o1.new
  have lD11 := Nat.le_trans kk.size o1.new
  have lD12RA := Nat.lt_of_lt_of_le (lt_of_heap hRA) o2.new
  have lD12RO := Nat.lt_of_lt_of_le (lt_of_heap hRO) o2.new
  have lD12RR := Nat.lt_of_lt_of_le (lt_of_heap hRR) o2.new
  have lD12D7 := Nat.lt_of_lt_of_le (lt_of_heap hD7) o2.new
  have lD12D8 := Nat.lt_of_lt_of_le (lt_of_heap hD8) o2.new
  have lD12D9 := Nat.lt_of_lt_of_le (lt_of_heap hD9) o2.new
  have lD12D10 := Nat.lt_of_lt_of_le (lt_of_heap hD10) o2.new
  have lD12 := Nat.le_trans kk.size o2.new
  replace hRA := below_get hb hRA
  replace hRO := below_get hb hRO
  replace hRR := below_get hb hRR
  replace hD7 := below_get hb hD7
  replace hD8 := below_get hb hD8
  replace hD9 := below_get hb hD9
  replace hD10 := below_get hb hD10
  have hD11 := o1.here
  have hD12 := o2.here
  replace kk := bcl kk hb
  replace fF := HF.out.keep kk
  clear hb o1 o2
  obtain ⟨cD110, cD111, cD112, cD113⟩ := row4c hD11
  obtain ⟨zD110, zD111, zD112, zD113⟩ := row4z hD11
  refine callT (i := 20) _ rfl (by rfl) (by kernel_rfl) (fun K hK => ?_)
  go_simp
  have P := put4 (.int .u64 (w0 (mulm m y1 (mulm m oz z2)) : Nat)) (.int .u64 (w1 (mulm m y1 (mulm m oz z2)) : Nat)) (.int .u64 (w2 (mulm m y1 (mulm m oz z2)) : Nat)) (.int .u64 (w3 (mulm m y1 (mulm m oz z2)) : Nat)) hD11
  replace P := put_hid P
  obtain ⟨C3b, hW, P⟩ := P
  rw [hW]
  replace hD11 := P.here
  replace hRA := (P.there (w.heap.size) (by omega)).trans (show _ = some (.cells #[.int .u64 (w0 (x1) : Nat), .int .u64 (w1 (x1) : Nat), .int .u64 (w2 (x1) : Nat), .int .u64 (w3 (x1) : Nat), .int .u64 (w0 (y1) : Nat), .int .u64 (w1 (y1) : Nat), .int .u64 (w2 (y1) : Nat), .int .u64 (w3 (y1) : Nat), .int .u64 (w0 (z1) : Nat), .int .u64 (w1 (z1) : Nat), .int .u64 (w2 (z1) : Nat), .int .u64 (w3 (z1) : Nat)] 103 (0, 0)) from hRA)
  replace hRO := (P.there (w.heap.size + 1) (by omega)).trans (show _ = some (.cells #[.int .u64 (w0 (x2) : Nat), .int .u64 (w1 (x2) : Nat), .int .u64 (w2 (x2) : Nat), .int .u64 (w3 (x2) : Nat), .int .u64 (w0 (y2) : Nat), .int .u64 (w1 (y2) : Nat), .int .u64 (w2 (y2) : Nat), .int .u64 (w3 (y2) : Nat), .int .u64 (w0 (z2) : Nat), .int .u64 (w1 (z2) : Nat), .int .u64 (w2 (z2) : Nat), .int .u64 (w3 (z2) : Nat)] 103 (0, 0)) from hRO)
  replace hRR := (P.there (w.heap.size + 2) (by omega)).trans (show _ = some (.cells #[.int .u64 0, .int .u64 0, .int .u64 0, .int .u64 0, .int .u64 0, .int .u64 0, .int .u64 0, .int .u64 0, .int .u64 0, .int .u64 0, .int .u64 0, .int .u64 0] 103 (0, 0)) from hRR)
  replace hD7 := (P.there (bd7) (by omega)).trans (show _ = some (.cells #[.int .u64 (w0 (rz) : Nat), .int .u64 (w1 (rz) : Nat), .int .u64 (w2 (rz) : Nat), .int .u64 (w3 (rz) : Nat)] 24 (0, 0)) from hD7)
  replace hD8 := (P.there (bd8) (by omega)).trans (show _ = some (.cells #[.int .u64 (w0 (oz) : Nat), .int .u64 (w1 (oz) : Nat), .int .u64 (w2 (oz) : Nat), .int .u64 (w3 (oz) : Nat)] 24 (0, 0)) from hD8)
  replace hD9 := (P.there (bd9) (by omega)).trans (show _ = some (.cells #[.int .u64 (w0 (u) : Nat), .int .u64 (w1 (u) : Nat), .int .u64 (w2 (u) : Nat), .int .u64 (w3 (u) : Nat)] 24 (0, 0)) from hD9)
  replace hD10 := (P.there (bd10) (by omega)).trans (show _ = some (.cells #[.int .u64 (w0 (v) : Nat), .int .u64 (w1 (v) : Nat), .int .u64 (w2 (v) : Nat), .int .u64 (w3 (v) : Nat)] 24 (0, 0)) from hD10)
  replace hD12 := (P.there (bd12) (by omega)).trans (show _ = some (.cells #[.int .u64 0, .int .u64 0, .int .u64 0, .int .u64 0] 24 (0, 0)) from hD12)
  replace kk := P.below (by omega) (show Below w.heap.size w C3a from by first | exact kk | exact kk.drew | exact below_drewN kk _)
  replace fF := HF.out.keep kk
  clear cD110 zD110 cD111 zD111 cD112 zD112 cD113 zD113
  clear P hW
  refine hK.out _ _ (Or.inr (by rw [hS0]; exact ⟨hRA, hRO, hD7, hD8⟩)) ?_
  clear hK K
  try simp only [ptr, Act.put, List.setIfInBounds_toArray, List.set_cons_zero, List.set_cons_succ]
  obtain ⟨cD120, cD121, cD122, cD123⟩ := row4c hD12
  obtain ⟨zD120, zD121, zD122, zD123⟩ := row4z hD12
  refine callT (i := 21) _ rfl (by rfl) (by kernel_rfl) (fun K hK => ?_)
  go_simp
  have P := put4 (.int .u64 (w0 (mulm m y2 (mulm m rz z1)) : Nat)) (.int .u64 (w1 (mulm m y2 (mulm m rz z1)) : Nat)) (.int .u64 (w2 (mulm m y2 (mulm m rz z1)) : Nat)) (.int .u64 (w3 (mulm m y2 (mulm m rz z1)) : Nat)) hD12
  replace P := put_hid P
  obtain ⟨C3, hW, P⟩ := P
  rw [hW]
  replace hD12 := P.here
  replace hRA := (P.there (w.heap.size) (by omega)).trans (show _ = some (.cells #[.int .u64 (w0 (x1) : Nat), .int .u64 (w1 (x1) : Nat), .int .u64 (w2 (x1) : Nat), .int .u64 (w3 (x1) : Nat), .int .u64 (w0 (y1) : Nat), .int .u64 (w1 (y1) : Nat), .int .u64 (w2 (y1) : Nat), .int .u64 (w3 (y1) : Nat), .int .u64 (w0 (z1) : Nat), .int .u64 (w1 (z1) : Nat), .int .u64 (w2 (z1) : Nat), .int .u64 (w3 (z1) : Nat)] 103 (0, 0)) from hRA)
  replace hRO := (P.there (w.heap.size + 1) (by omega)).trans (show _ = some (.cells #[.int .u64 (w0 (x2) : Nat), .int .u64 (w1 (x2) : Nat), .int .u64 (w2 (x2) : Nat), .int .u64 (w3 (x2) : Nat), .int .u64 (w0 (y2) : Nat), .int .u64 (w1 (y2) : Nat), .int .u64 (w2 (y2) : Nat), .int .u64 (w3 (y2) : Nat), .int .u64 (w0 (z2) : Nat), .int .u64 (w1 (z2) : Nat), .int .u64 (w2 (z2) : Nat), .int .u64 (w3 (z2) : Nat)] 103 (0, 0)) from hRO)
  replace hRR := (P.there (w.heap.size + 2) (by omega)).trans (show _ = some (.cells #[.int .u64 0, .int .u64 0, .int .u64 0, .int .u64 0, .int .u64 0, .int .u64 0, .int .u64 0, .int .u64 0, .int .u64 0, .int .u64 0, .int .u64 0, .int .u64 0] 103 (0, 0)) from hRR)
  replace hD7 := (P.there (bd7) (by omega)).trans (show _ = some (.cells #[.int .u64 (w0 (rz) : Nat), .int .u64 (w1 (rz) : Nat), .int .u64 (w2 (rz) : Nat), .int .u64 (w3 (rz) : Nat)] 24 (0, 0)) from hD7)
  replace hD8 := (P.there (bd8) (by omega)).trans (show _ = some (.cells #[.int .u64 (w0 (oz) : Nat), .int .u64 (w1 (oz) : Nat), .int .u64 (w2 (oz) : Nat), .int .u64 (w3 (oz) : Nat)] 24 (0, 0)) from hD8)
  replace hD9 := (P.there (bd9) (by omega)).trans (show _ = some (.cells #[.int .u64 (w0 (u) : Nat), .int .u64 (w1 (u) : Nat), .int .u64 (w2 (u) : Nat), .int .u64 (w3 (u) : Nat)] 24 (0, 0)) from hD9)
  replace hD10 := (P.there (bd10) (by omega)).trans (show _ = some (.cells #[.int .u64 (w0 (v) : Nat), .int .u64 (w1 (v) : Nat), .int .u64 (w2 (v) : Nat), .int .u64 (w3 (v) : Nat)] 24 (0, 0)) from hD10)
  replace hD11 := (P.there (bd11) (by omega)).trans (show _ = some (.cells #[.int .u64 (w0 (mulm m y1 (mulm m oz z2)) : Nat), .int .u64 (w1 (mulm m y1 (mulm m oz z2)) : Nat), .int .u64 (w2 (mulm m y1 (mulm m oz z2)) : Nat), .int .u64 (w3 (mulm m y1 (mulm m oz z2)) : Nat)] 24 (0, 0)) from hD11)
  replace kk := P.below (by omega) (show Below w.heap.size w C3b from by first | exact kk | exact kk.drew | exact below_drewN kk _)
  replace fF := HF.out.keep kk
  clear cD120 zD120 cD121 zD121 cD122 zD122 cD123 zD123
  clear P hW
  refine hK.out _ _ (Or.inl (by kernel_rfl)) ?_
  clear hK K
  try simp only [ptr, Act.put, List.setIfInBounds_toArray, List.set_cons_zero, List.set_cons_succ]
  refine doneT (by kernel_rfl) ?_ _
  clear hHeld hSJ hS0 S0
  go_simp
  obtain ⟨s, eqs⟩ : ∃ n, mulm m y1 (mulm m oz z2) = n := ⟨_, rfl⟩
  rw [eqs] at hD11
  have Hs := Lib.hid eqs
  have Gs := Lib.hid (show s < 2 ^ 256 by rw [← eqs]; exact Nat.lt_trans (Nat.mod_lt _ hpos) HM.out)
  clear eqs
  obtain ⟨t, eqt⟩ : ∃ n, mulm m y2 (mulm m rz z1) = n := ⟨_, rfl⟩
  rw [eqt] at hD12
  have Ht := Lib.hid eqt
  have Gt := Lib.hid (show t < 2 ^ 256 by rw [← eqt]; exact Nat.lt_trans (Nat.mod_lt _ hpos) HM.out)
  clear eqt
  go_upto_region 8 with fail
  obtain ⟨S0, hS0⟩ : ∃ S : World → Prop, S = (fun w' => w'.heap[bd9]? = some (.cells #[.int .u64 (w0 (u) : Nat), .int .u64 (w1 (u) : Nat), .int .u64 (w2 (u) : Nat), .int .u64 (w3 (u) : Nat)] 24 (0, 0)) ∧ w'.heap[bd10]? = some (.cells #[.int .u64 (w0 (v) : Nat), .int .u64 (w1 (v) : Nat), .int .u64 (w2 (v) : Nat), .int .u64 (w3 (v) : Nat)] 24 (0, 0)) ∧ w'.heap[bd11]? = some (.cells #[.int .u64 (w0 (s) : Nat), .int .u64 (w1 (s) : Nat), .int .u64 (w2 (s) : Nat), .int .u64 (w3 (s) : Nat)] 24 (0, 0)) ∧ w'.heap[bd12]? = some (.cells #[.int .u64 (w0 (t) : Nat), .int .u64 (w1 (t) : Nat), .int .u64 (w2 (t) : Nat), .int .u64 (w3 (t) : Nat)] 24 (0, 0))) := ⟨_, rfl⟩
  have hSJ : ∀ w', Below C3.heap.size C3 w' → S0 w' := by intro w' hb; rw [hS0]; exact ⟨below_get hb hD9, below_get hb hD10, below_get hb hD11, below_get hb hD12⟩
  refine startT (S := S0) 11 (by kernel_rfl) (by rw [hS0]; exact ⟨hD9, hD10, hD11, hD12⟩) (fun hHeld => ?_)
  refine takeT (i := 0) (d := some 72) (v := ?_) _ rfl rfl (by rfl) (by kernel_rfl) (by decide) (by kernel_rfl) (by kernel_rfl) (by kernel_rfl) (fun _ _ _ h => h) (by assumption) (by kernel_rfl) ?_ ?_
  rotate_left
  · (first | (intro w' hSw; clear hSw; go_simp; try (with_reducible rfl)) | (intro w'; go_simp; try (with_reducible rfl)))
  try simp only [ptr, Act.put, List.setIfInBounds_toArray, List.set_cons_zero, List.set_cons_succ]
  refine takeT (i := 1) (d := some 73) (v := ?_) _ rfl rfl (by rfl) (by kernel_rfl) (by decide) (by kernel_rfl) (by kernel_rfl) (by kernel_rfl) (fun _ _ _ h => h) (by assumption) (by kernel_rfl) ?_ ?_
  rotate_left
  · (intro w' hSw; (rw [hS0] at hSw); (have hSw' := hSw); (first | (obtain ⟨svD9, svD10, svD11, svD12⟩ := hSw'; obtain ⟨cvD90, cvD91, cvD92, cvD93⟩ := row4c svD9; obtain ⟨cvD100, cvD101, cvD102, cvD103⟩ := row4c svD10; obtain ⟨cvD110, cvD111, cvD112, cvD113⟩ := row4c svD11; obtain ⟨cvD120, cvD121, cvD122, cvD123⟩ := row4c svD12; go_simp)); try (with_reducible rfl))
  try simp only [ptr, Act.put, List.setIfInBounds_toArray, List.set_cons_zero, List.set_cons_succ]
  refine takeT (i := 2) (d := some 74) (v := ?_) _ rfl rfl (by rfl) (by kernel_rfl) (by decide) (by kernel_rfl) (by kernel_rfl) (by kernel_rfl) (fun _ _ _ h => h) (by assumption) (by kernel_rfl) ?_ ?_
  rotate_left
  · (intro w' hSw; (rw [hS0] at hSw); (have hSw' := hSw); (first | (obtain ⟨svD9, svD10, svD11, svD12⟩ := hSw'; obtain ⟨cvD90, cvD91, cvD92, cvD93⟩ := row4c svD9; obtain ⟨cvD100, cvD101, cvD102, cvD103⟩ := row4c svD10; obtain ⟨cvD110, cvD111, cvD112, cvD113⟩ := row4c svD11; obtain ⟨cvD120, cvD121, cvD122, cvD123⟩ := row4c svD12; go_simp)); try (with_reducible rfl))
  try simp only [ptr, Act.put, List.setIfInBounds_toArray, List.set_cons_zero, List.set_cons_succ]
  refine takeT (i := 4) (d := some 76) (v := ?_) _ rfl rfl (by rfl) (by kernel_rfl) (by decide) (by kernel_rfl) (by kernel_rfl) (by kernel_rfl) (fun _ _ _ h => h) (by assumption) (by kernel_rfl) ?_ ?_
  rotate_left
  · (first | (intro w' hSw; clear hSw; go_simp; try (with_reducible rfl)) | (intro w'; go_simp; try (with_reducible rfl)))
  try simp only [ptr, Act.put, List.setIfInBounds_toArray, List.set_cons_zero, List.set_cons_succ]
  refine takeT (i := 5) (d := some 77) (v := ?_) _ rfl rfl (by rfl) (by kernel_rfl) (by decide) (by kernel_rfl) (by kernel_rfl) (by kernel_rfl) (fun _ _ _ h => h) (by assumption) (by kernel_rfl) ?_ ?_
  rotate_left
  · (intro w' hSw; (rw [hS0] at hSw); (have hSw' := hSw); (first | (obtain ⟨svD9, svD10, svD11, svD12⟩ := hSw'; obtain ⟨cvD90, cvD91, cvD92, cvD93⟩ := row4c svD9; obtain ⟨cvD100, cvD101, cvD102, cvD103⟩ := row4c svD10; obtain ⟨cvD110, cvD111, cvD112, cvD113⟩ := row4c svD11; obtain ⟨cvD120, cvD121, cvD122, cvD123⟩ := row4c svD12; go_simp)); try (with_reducible rfl))
  try simp only [ptr, Act.put, List.setIfInBounds_toArray, List.set_cons_zero, List.set_cons_succ]
  refine takeT (i := 6) (d := some 78) (v := ?_) _ rfl rfl (by rfl) (by kernel_rfl) (by decide) (by kernel_rfl) (by kernel_rfl) (by kernel_rfl) (fun _ _ _ h => h) (by assumption) (by kernel_rfl) ?_ ?_
  rotate_left
  · (intro w' hSw; (rw [hS0] at hSw); (have hSw' := hSw); (first | (obtain ⟨svD9, svD10, svD11, svD12⟩ := hSw'; obtain ⟨cvD90, cvD91, cvD92, cvD93⟩ := row4c svD9; obtain ⟨cvD100, cvD101, cvD102, cvD103⟩ := row4c svD10; obtain ⟨cvD110, cvD111, cvD112, cvD113⟩ := row4c svD11; obtain ⟨cvD120, cvD121, cvD122, cvD123⟩ := row4c svD12; go_simp)); try (with_reducible rfl))
  try simp only [ptr, Act.put, List.setIfInBounds_toArray, List.set_cons_zero, List.set_cons_succ]
  refine NK2.start (w0 := C3) (x1 := undef) (x2 := undef) 8 9 13 14 (.cells #[.int .u64 0, .int .u64 0, .int .u64 0, .int .u64 0] 24 (0, 0)) (.cells #[.int .u64 0, .int .u64 0, .int .u64 0, .int .u64 0] 24 (0, 0)) (Below.refl _ _).drew (by (simp only [Act.put, List.setIfInBounds_toArray, List.set_cons_zero, List.set_cons_succ])) ⟨⟨_, rfl, fun _ => rfl, fun a1 w1 K hK => by go_simp; exact hK⟩⟩ ⟨⟨_, rfl, fun _ => rfl, fun a1 w1 K hK => by go_simp; exact hK⟩⟩ (fun m1 m2 => ?_)
  refine NK2.step (i := 3) (d := 75) (F := fun vv => vv = .agg #[.int .u64 (w0 (subf m v u) : Nat), .int .u64 (w1 (subf m v u) : Nat), .int .u64 (w2 (subf m v u) : Nat), .int .u64 (w3 (subf m v u) : Nat)]) m1 m2 (by decide) (by decide) hSJ (by decide) (by decide) (by decide) (by decide) (by kernel_rfl) (by kernel_rfl) (by kernel_rfl) (by kernel_rfl) ⟨⟨_, rfl, fun _ => rfl, fun yv1 yv2 w1 hJ1 K hK => ?_⟩⟩ ?_
  · try simp only [ptr, Act.put, List.setIfInBounds_toArray, List.set_cons_zero, List.set_cons_succ]
    go_simp
    have fF := fF.keep hJ1
    refine (subG_any (by first | exact W4.mk' Gx1.out | exact W4.mk' Gy1.out | exact W4.mk' Gz1.out | exact W4.mk' Gx2.out | exact W4.mk' Gy2.out | exact W4.mk' Gz2.out | exact W4.mk' HM.out | exact W4.mk' Grz.out | exact W4.mk' Goz.out | exact W4.mk' Gu.out | exact W4.mk' Gv.out | exact W4.mk' Gs.out | exact W4.mk' Gt.out | exact W4.mk' Gh.out | exact W4.mk' Gk.out | exact W4.mk' Ghh.out | exact W4.mk' Ghhh.out | exact W4.mk' Gww.out | exact W4.mk' Gxx.out | exact W4.mk' Gyy.out | exact W4.mk' (Nat.lt_trans (Nat.mod_lt _ hpos) HM.out) | exact W4.zero | exact W4.small (n := 1) rfl (by decide) | exact W4.small (n := 2) rfl (by decide) | exact W4.small (n := 3) rfl (by decide) | exact W4.small (n := 4) rfl (by decide) | exact W4.small (n := 5) rfl (by decide) | exact W4.small (n := 7) rfl (by decide)) (by first | exact W4.mk' Gx1.out | exact W4.mk' Gy1.out | exact W4.mk' Gz1.out | exact W4.mk' Gx2.out | exact W4.mk' Gy2.out | exact W4.mk' Gz2.out | exact W4.mk' HM.out | exact W4.mk' Grz.out | exact W4.mk' Goz.out | exact W4.mk' Gu.out | exact W4.mk' Gv.out | exact W4.mk' Gs.out | exact W4.mk' Gt.out | exact W4.mk' Gh.out | exact W4.mk' Gk.out | exact W4.mk' Ghh.out | exact W4.mk' Ghhh.out | exact W4.mk' Gww.out | exact W4.mk' Gxx.out | exact W4.mk' Gyy.out | exact W4.mk' (Nat.lt_trans (Nat.mod_lt _ hpos) HM.out) | exact W4.zero | exact W4.small (n := 1) rfl (by decide) | exact W4.small (n := 2) rfl (by decide) | exact W4.small (n := 3) rfl (by decide) | exact W4.small (n := 4) rfl (by decide) | exact W4.small (n := 5) rfl (by decide) | exact W4.small (n := 7) rfl (by decide)) _ (show IsF _ (g) (m) from (by first | exact fF | exact ⟨fF.blk, fF.odd, fF.three, fF.lt⟩ | exact ⟨ak fF.blk, fF.odd, fF.three, fF.lt⟩ | exact ⟨ak (ak fF.blk), fF.odd, fF.three, fF.lt⟩))).mono ?_
    rintro e U ⟨rfl, hb⟩
    have h2 := hK.out _ _ rfl hb
    try simp only [ptr, Act.put, List.setIfInBounds_toArray, List.set_cons_zero, List.set_cons_succ] at h2
    exact h2
  rintro vv rfl
  refine NK2.step (i := 7) (d := 79) (F := fun vv => vv = .agg #[.int .u64 (w0 (subf m t s) : Nat), .int .u64 (w1 (subf m t s) : Nat), .int .u64 (w2 (subf m t s) : Nat), .int .u64 (w3 (subf m t s) : Nat)]) m1 m2 (by decide) (by decide) hSJ (by decide) (by decide) (by decide) (by decide) (by kernel_rfl) (by kernel_rfl) (by kernel_rfl) (by kernel_rfl) ⟨⟨_, rfl, fun _ => rfl, fun yv1 yv2 w1 hJ1 K hK => ?_⟩⟩ ?_
  · try simp only [ptr, Act.put, List.setIfInBounds_toArray, List.set_cons_zero, List.set_cons_succ]
    go_simp
    have fF := fF.keep hJ1
    refine (subG_any (by first | exact W4.mk' Gx1.out | exact W4.mk' Gy1.out | exact W4.mk' Gz1.out | exact W4.mk' Gx2.out | exact W4.mk' Gy2.out | exact W4.mk' Gz2.out | exact W4.mk' HM.out | exact W4.mk' Grz.out | exact W4.mk' Goz.out | exact W4.mk' Gu.out | exact W4.mk' Gv.out | exact W4.mk' Gs.out | exact W4.mk' Gt.out | exact W4.mk' Gh.out | exact W4.mk' Gk.out | exact W4.mk' Ghh.out | exact W4.mk' Ghhh.out | exact W4.mk' Gww.out | exact W4.mk' Gxx.out | exact W4.mk' Gyy.out | exact W4.mk' (Nat.lt_trans (Nat.mod_lt _ hpos) HM.out) | exact W4.zero | exact W4.small (n := 1) rfl (by decide) | exact W4.small (n := 2) rfl (by decide) | exact W4.small (n := 3) rfl (by decide) | exact W4.small (n := 4) rfl (by decide) | exact W4.small (n := 5) rfl (by decide) | exact W4.small (n := 7) rfl (by decide)) (by first | exact W4.mk' Gx1.out | exact W4.mk' Gy1.out | exact W4.mk' Gz1.out | exact W4.mk' Gx2.out | exact W4.mk' Gy2.out | exact W4.mk' Gz2.out | exact W4.mk' HM.out | exact W4.mk' Grz.out | exact W4.mk' Goz.out | exact W4.mk' Gu.out | exact W4.mk' Gv.out | exact W4.mk' Gs.out | exact W4.mk' Gt.out | exact W4.mk' Gh.out | exact W4.mk' Gk.out | exact W4.mk' Ghh.out | exact W4.mk' Ghhh.out | exact W4.mk' Gww.out | exact W4.mk' Gxx.out | exact W4.mk' Gyy.out | exact W4.mk' (Nat.lt_trans (Nat.mod_lt _ hpos) HM.out) | exact W4.zero | exact W4.small (n := 1) rfl (by decide) | exact W4.small (n := 2) rfl (by decide) | exact W4.small (n := 3) rfl (by decide) | exact W4.small (n := 4) rfl (by decide) | exact W4.small (n := 5) rfl (by decide) | exact W4.small (n := 7) rfl (by decide)) _ (show IsF _ (g) (m) from (by first | exact fF | exact ⟨fF.blk, fF.odd, fF.three, fF.lt⟩ | exact ⟨ak fF.blk, fF.odd, fF.three, fF.lt⟩ | exact ⟨ak (ak fF.blk), fF.odd, fF.three, fF.lt⟩))).mono ?_
    rintro e U ⟨rfl, hb⟩
    have h2 := hK.out _ _ rfl hb
    try simp only [ptr, Act.put, List.setIfInBounds_toArray, List.set_cons_zero, List.set_cons_succ] at h2
    exact h2
  rintro vv rfl
  refine NK2.last m1 m2 (by decide) (by decide) hSJ (by kernel_rfl) (by kernel_rfl) (by kernel_rfl) (fun C4a bd13 bd14 hb o1 o2 n12 => ?_)
  clear m1 m2
  try simp only [ptr, Act.put, List.setIfInBounds_toArray, List.set_cons_zero, List.set_cons_succ]
  have lD13RA := Nat.lt_of_lt_of_le (lt_of_heap hRA) o1.new
  have lD13RO := Nat.lt_of_lt_of_le (lt_of_heap hRO) o1.new
  have lD13RR := Nat.lt_of_lt_of_le (lt_of_heap hRR) o1.new
  have lD13D7 := Nat.lt_of_lt_of_le (lt_of_heap hD7) o1.new
  have lD13D8 := Nat.lt_of_lt_of_le (lt_of_heap hD8) o1.new
  have lD13D9 := Nat.lt_of_lt_of_le (lt_of_heap hD9) o1.new
  have lD13D10 := Nat.lt_of_lt_of_le (lt_of_heap hD10) o1.new
  have lD13D11 := Nat.lt_of_lt_of_le (lt_of_heap hD11) o1.new
  have lD13D12 := Nat.lt_of_lt_of_le (lt_of_heap hD12) o1.new
  have lD13 := Nat.le_trans kk.size o1.new
  have lD14RA := Nat.lt_of_lt_of_le (lt_of_heap hRA) o2.new
  have lD14RO := Nat.lt_of_lt_of_le (lt_of_heap hRO) o2.new
  have lD14RR := Nat.lt_of_lt_of_le (lt_of_heap hRR) o2.new
  have lD14D7 := Nat.lt_of_lt_of_le (lt_of_heap hD7) o2.new
  have lD14D8 := Nat.lt_of_lt_of_le (lt_of_heap hD8) o2.new
  have lD14D9 := Nat.lt_of_lt_of_le (lt_of_heap hD9) o2.new
  have lD14D10 := Nat.lt_of_lt_of_le (lt_of_heap hD10) o2.new
  have lD14D11 := Nat.lt_of_lt_of_le (lt_of_heap hD11) o2.new
  have lD14D12 := Nat.lt_of_lt_of_le (lt_of_heap hD12) o2.new
  have lD14 := Nat.le_trans kk.size o2.new
  replace hRA := below_get hb hRA
  replace hRO := below_get hb hRO
  replace hRR := below_get hb hRR
  replace hD7 := below_get hb hD7
  replace hD8 := below_get hb hD8
  replace hD9 := below_get hb hD9
  replace hD10 := below_get hb hD10
  replace hD11 := below_get hb hD11
  replace hD12 := below_get hb hD12
  have hD13 := o1.here
  have hD14 := o2.here
  replace kk := bcl kk hb
  replace fF := HF.out.keep kk
  clear hb o1 o2
  obtain ⟨cD130, cD131, cD132, cD133⟩ := row4c hD13
  obtain ⟨zD130, zD131, zD132, zD133⟩ := row4z hD13
  refine callT (i := 10) _ rfl (by rfl) (by kernel_rfl) (fun K hK => ?_)
  go_simp
  have P := put4 (.int .u64 (w0 (subf m v u) : Nat)) (.int .u64 (w1 (subf m v u) : Nat)) (.int .u64 (w2 (subf m v u) : Nat)) (.int .u64 (w3 (subf m v u) : Nat)) hD13
  replace P := put_hid P
  obtain ⟨C4b, hW, P⟩ := P
  rw [hW]
  replace hD13 := P.here
  replace hRA := (P.there (w.heap.size) (by omega)).trans (show _ = some (.cells #[.int .u64 (w0 (x1) : Nat), .int .u64 (w1 (x1) : Nat), .int .u64 (w2 (x1) : Nat), .int .u64 (w3 (x1) : Nat), .int .u64 (w0 (y1) : Nat), .int .u64 (w1 (y1) : Nat), .int .u64 (w2 (y1) : Nat), .int .u64 (w3 (y1) : Nat), .int .u64 (w0 (z1) : Nat), .int .u64 (w1 (z1) : Nat), .int .u64 (w2 (z1) : Nat), .int .u64 (w3 (z1) : Nat)] 103 (0, 0)) from hRA)
  replace hRO := (P.there (w.heap.size + 1) (by omega)).trans (show _ = some (.cells #[.int .u64 (w0 (x2) : Nat), .int .u64 (w1 (x2) : Nat), .int .u64 (w2 (x2) : Nat), .int .u64 (w3 (x2) : Nat), .int .u64 (w0 (y2) : Nat), .int .u64 (w1 (y2) : Nat), .int .u64 (w2 (y2) : Nat), .int .u64 (w3 (y2) : Nat), .int .u64 (w0 (z2) : Nat), .int .u64 (w1 (z2) : Nat), .int .u64 (w2 (z2) : Nat), .int .u64 (w3 (z2) : Nat)] 103 (0, 0)) from hRO)
  replace hRR := (P.there (w.heap.size + 2) (by omega)).trans (show _ = some (.cells #[.int .u64 0, .int .u64 0, .int .u64 0, .int .u64 0, .int .u64 0, .int .u64 0, .int .u64 0, .int .u64 0, .int .u64 0, .int .u64 0, .int .u64 0, .int .u64 0] 103 (0, 0)) from hRR)
  replace hD7 := (P.there (bd7) (by omega)).trans (show _ = some (.cells #[.int .u64 (w0 (rz) : Nat), .int .u64 (w1 (rz) : Nat), .int .u64 (w2 (rz) : Nat), .int .u64 (w3 (rz) : Nat)] 24 (0, 0)) from hD7)
  replace hD8 := (P.there (bd8) (by omega)).trans (show _ = some (.cells #[.int .u64 (w0 (oz) : Nat), .int .u64 (w1 (oz) : Nat), .int .u64 (w2 (oz) : Nat), .int .u64 (w3 (oz) : Nat)] 24 (0, 0)) from hD8)
  replace hD9 := (P.there (bd9) (by omega)).trans (show _ = some (.cells #[.int .u64 (w0 (u) : Nat), .int .u64 (w1 (u) : Nat), .int .u64 (w2 (u) : Nat), .int .u64 (w3 (u) : Nat)] 24 (0, 0)) from hD9)
  replace hD10 := (P.there (bd10) (by omega)).trans (show _ = some (.cells #[.int .u64 (w0 (v) : Nat), .int .u64 (w1 (v) : Nat), .int .u64 (w2 (v) : Nat), .int .u64 (w3 (v) : Nat)] 24 (0, 0)) from hD10)
  replace hD11 := (P.there (bd11) (by omega)).trans (show _ = some (.cells #[.int .u64 (w0 (s) : Nat), .int .u64 (w1 (s) : Nat), .int .u64 (w2 (s) : Nat), .int .u64 (w3 (s) : Nat)] 24 (0, 0)) from hD11)
  replace hD12 := (P.there (bd12) (by omega)).trans (show _ = some (.cells #[.int .u64 (w0 (t) : Nat), .int .u64 (w1 (t) : Nat), .int .u64 (w2 (t) : Nat), .int .u64 (w3 (t) : Nat)] 24 (0, 0)) from hD12)
  replace hD14 := (P.there (bd14) (by omega)).trans (show _ = some (.cells #[.int .u64 0, .int .u64 0, .int .u64 0, .int .u64 0] 24 (0, 0)) from hD14)
  replace kk := P.below (by omega) (show Below w.heap.size w C4a from by first | exact kk | exact kk.drew | exact below_drewN kk _)
  replace fF := HF.out.keep kk
  clear cD130 zD130 cD131 zD131 cD132 zD132 cD133 zD133
  clear P hW
  refine hK.out _ _ (Or.inr (by rw [hS0]; exact ⟨hD9, hD10, hD11, hD12⟩)) ?_
  clear hK K
  try simp only [ptr, Act.put, List.setIfInBounds_toArray, List.set_cons_zero, List.set_cons_succ]
  obtain ⟨cD140, cD141, cD142, cD143⟩ := row4c hD14
  obtain ⟨zD140, zD141, zD142, zD143⟩ := row4z hD14
  refine callT (i := 11) _ rfl (by rfl) (by kernel_rfl) (fun K hK => ?_)
  go_simp
  have P := put4 (.int .u64 (w0 (subf m t s) : Nat)) (.int .u64 (w1 (subf m t s) : Nat)) (.int .u64 (w2 (subf m t s) : Nat)) (.int .u64 (w3 (subf m t s) : Nat)) hD14
  replace P := put_hid P
  obtain ⟨C4, hW, P⟩ := P
  rw [hW]
  replace hD14 := P.here
  replace hRA := (P.there (w.heap.size) (by omega)).trans (show _ = some (.cells #[.int .u64 (w0 (x1) : Nat), .int .u64 (w1 (x1) : Nat), .int .u64 (w2 (x1) : Nat), .int .u64 (w3 (x1) : Nat), .int .u64 (w0 (y1) : Nat), .int .u64 (w1 (y1) : Nat), .int .u64 (w2 (y1) : Nat), .int .u64 (w3 (y1) : Nat), .int .u64 (w0 (z1) : Nat), .int .u64 (w1 (z1) : Nat), .int .u64 (w2 (z1) : Nat), .int .u64 (w3 (z1) : Nat)] 103 (0, 0)) from hRA)
  replace hRO := (P.there (w.heap.size + 1) (by omega)).trans (show _ = some (.cells #[.int .u64 (w0 (x2) : Nat), .int .u64 (w1 (x2) : Nat), .int .u64 (w2 (x2) : Nat), .int .u64 (w3 (x2) : Nat), .int .u64 (w0 (y2) : Nat), .int .u64 (w1 (y2) : Nat), .int .u64 (w2 (y2) : Nat), .int .u64 (w3 (y2) : Nat), .int .u64 (w0 (z2) : Nat), .int .u64 (w1 (z2) : Nat), .int .u64 (w2 (z2) : Nat), .int .u64 (w3 (z2) : Nat)] 103 (0, 0)) from hRO)
  replace hRR := (P.there (w.heap.size + 2) (by omega)).trans (show _ = some (.cells #[.int .u64 0, .int .u64 0, .int .u64 0, .int .u64 0, .int .u64 0, .int .u64 0, .int .u64 0, .int .u64 0, .int .u64 0, .int .u64 0, .int .u64 0, .int .u64 0] 103 (0, 0)) from hRR)
  replace hD7 := (P.there (bd7) (by omega)).trans (show _ = some (.cells #[.int .u64 (w0 (rz) : Nat), .int .u64 (w1 (rz) : Nat), .int .u64 (w2 (rz) : Nat), .int .u64 (w3 (rz) : Nat)] 24 (0, 0)) from hD7)
  replace hD8 := (P.there (bd8) (by omega)).trans (show _ = some (.cells #[.int .u64 (w0 (oz) : Nat), .int .u64 (w1 (oz) : Nat), .int .u64 (w2 (oz) : Nat), .int .u64 (w3 (oz) : Nat)] 24 (0, 0)) from hD8)
  replace hD9 := (P.there (bd9) (by omega)).trans (show _ = some (.cells #[.int .u64 (w0 (u) : Nat), .int .u64 (w1 (u) : Nat), .int .u64 (w2 (u) : Nat), .int .u64 (w3 (u) : Nat)] 24 (0, 0)) from hD9)
  replace hD10 := (P.there (bd10) (by omega)).trans (show _ = some (.cells #[.int .u64 (w0 (v) : Nat), .int .u64 (w1 (v) : Nat), .int .u64 (w2 (v) : Nat), .int .u64 (w3 (v) : Nat)] 24 (0, 0)) from hD10)
  replace hD11 := (P.there (bd11) (by omega)).trans (show _ = some (.cells #[.int .u64 (w0 (s) : Nat), .int .u64 (w1 (s) : Nat), .int .u64 (w2 (s) : Nat), .int .u64 (w3 (s) : Nat)] 24 (0, 0)) from hD11)
  replace hD12 := (P.there (bd12) (by omega)).trans (show _ = some (.cells #[.int .u64 (w0 (t) : Nat), .int .u64 (w1 (t) : Nat), .int .u64 (w2 (t) : Nat), .int .u64 (w3 (t) : Nat)] 24 (0, 0)) from hD12)
  replace hD13 := (P.there (bd13) (by omega)).trans (show _ = some (.cells #[.int .u64 (w0 (subf m v u) : Nat), .int .u64 (w1 (subf m v u) : Nat), .int .u64 (w2 (subf m v u) : Nat), .int .u64 (w3 (subf m v u) : Nat)] 24 (0, 0)) from hD13)
  replace kk := P.below (by omega) (show Below w.heap.size w C4b from by first | exact kk | exact kk.drew | exact below_drewN kk _)
  replace fF := HF.out.keep kk
  clear cD140 zD140 cD141 zD141 cD142 zD142 cD143 zD143
  clear P hW
  refine hK.out _ _ (Or.inl (by kernel_rfl)) ?_
  clear hK K
  try simp only [ptr, Act.put, List.setIfInBounds_toArray, List.set_cons_zero, List.set_cons_succ]
  refine doneT (by kernel_rfl) ?_ _
  clear hHeld hSJ hS0 S0
  go_simp
  obtain ⟨h, eqh⟩ : ∃ n, subf m v u = n := ⟨_, rfl⟩
  rw [eqh] at hD13
  have Hh := Lib.hid eqh
  have Gh := Lib.hid (show h < 2 ^ 256 by rw [← eqh]; exact Nat.lt_trans (Nat.mod_lt _ hpos) HM.out)
  clear eqh
  obtain ⟨k, eqk⟩ : ∃ n, subf m t s = n := ⟨_, rfl⟩
  rw [eqk] at hD14
  have Hk := Lib.hid eqk
  have Gk := Lib.hid (show k < 2 ^ 256 by rw [← eqk]; exact Nat.lt_trans (Nat.mod_lt _ hpos) HM.out)
  clear eqk
  by_cases hh0 : h = 0
  · skip
    have q3 := eql_t (W4.mk' Gh.out) W4.zero hh0
    have HH0 := Lib.hid hh0
    clear hh0
    by_cases hk0 : k = 0
    · have q4 := eql_t (W4.mk' Gk.out) W4.zero hk0
      have HK0 := Lib.hid hk0
      clear hk0
      obtain ⟨cD130, cD131, cD132, cD133⟩ := row4c hD13
      obtain ⟨zD130, zD131, zD132, zD133⟩ := row4z hD13
      obtain ⟨cD140, cD141, cD142, cD143⟩ := row4c hD14
      obtain ⟨zD140, zD141, zD142, zD143⟩ := row4z hD14
      obtain ⟨cRA0, cRA1, cRA2, cRA3, cRA4, cRA5, cRA6, cRA7, cRA8, cRA9, cRA10, cRA11⟩ := row12c hRA
      obtain ⟨zRA0, zRA1, zRA2, zRA3, zRA4, zRA5, zRA6, zRA7, zRA8, zRA9, zRA10, zRA11⟩ := row12z hRA
      go_wp2_with fail
      refine (twice_any (t := ⟨x1, y1, z1⟩) (W4.mk' Gx1.out) (W4.mk' Gy1.out) (W4.mk' Gz1.out) _ fF).mono ?_
      rintro e U1 ⟨rfl, hb⟩
      replace hRA := below_get hb hRA
      replace hRO := below_get hb hRO
      replace hRR := below_get hb hRR
      replace hD7 := below_get hb hD7
      replace hD8 := below_get hb hD8
      replace hD9 := below_get hb hD9
      replace hD10 := below_get hb hD10
      replace hD11 := below_get hb hD11
      replace hD12 := below_get hb hD12
      replace hD13 := below_get hb hD13
      replace hD14 := below_get hb hD14
      replace kk := bcl (by first | exact kk | exact kk.drew | exact below_drewN kk _) hb
      replace fF := HF.out.keep kk
      clear cD130 zD130 cD131 zD131 cD132 zD132 cD133 zD133 cD140 zD140 cD141 zD141 cD142 zD142 cD143 zD143 cRA0 zRA0 cRA1 zRA1 cRA2 zRA2 cRA3 zRA3 cRA4 zRA4 cRA5 zRA5 cRA6 zRA6 cRA7 zRA7 cRA8 zRA8 cRA9 zRA9 cRA10 zRA10 cRA11 zRA11
      clear hb
      obtain ⟨cRR0, cRR1, cRR2, cRR3, cRR4, cRR5, cRR6, cRR7, cRR8, cRR9, cRR10, cRR11⟩ := row12c hRR
      obtain ⟨zRR0, zRR1, zRR2, zRR3, zRR4, zRR5, zRR6, zRR7, zRR8, zRR9, zRR10, zRR11⟩ := row12z hRR
      go_wp2_with fail
      have P := put12 (.int .u64 (w0 ((ntwice m ⟨x1, y1, z1⟩).x) : Nat)) (.int .u64 (w1 ((ntwice m ⟨x1, y1, z1⟩).x) : Nat)) (.int .u64 (w2 ((ntwice m ⟨x1, y1, z1⟩).x) : Nat)) (.int .u64 (w3 ((ntwice m ⟨x1, y1, z1⟩).x) : Nat)) (.int .u64 (w0 ((ntwice m ⟨x1, y1, z1⟩).y) : Nat)) (.int .u64 (w1 ((ntwice m ⟨x1, y1, z1⟩).y) : Nat)) (.int .u64 (w2 ((ntwice m ⟨x1, y1, z1⟩).y) : Nat)) (.int .u64 (w3 ((ntwice m ⟨x1, y1, z1⟩).y) : Nat)) (.int .u64 (w0 ((ntwice m ⟨x1, y1, z1⟩).z) : Nat)) (.int .u64 (w1 ((ntwice m ⟨x1, y1, z1⟩).z) : Nat)) (.int .u64 (w2 ((ntwice m ⟨x1, y1, z1⟩).z) : Nat)) (.int .u64 (w3 ((ntwice m ⟨x1, y1, z1⟩).z) : Nat)) hRR
      replace P := put_hid P
      obtain ⟨V9, hV9, P⟩ := P
      rw [hV9]
      have P9 := P.here
      have k9 := P.below (by omega) (show Below w.heap.size w U1 from by first | exact kk | exact kk.drew | exact below_drewN kk _)
      obtain ⟨v0, v1, v2, v3, v4, v5, v6, v7, v8, v9, v10, v11⟩ := row12c P9
      refine bodyPost_ret (v := _) (by simp [results, Try.results76, go_sem, v0, v1, v2, v3, v4, v5, v6, v7, v8, v9, v10, v11]; rfl) rfl ?_
      have e : naddr m ⟨x1, y1, z1⟩ ⟨x2, y2, z2⟩ = ntwice m ⟨x1, y1, z1⟩ := by
        unfold naddr; rw [if_neg HZ1.out, if_neg HZ2.out]; dsimp only
        rw [Hrz.out, Hoz.out, Hu.out, Hv.out, Hs.out, Ht.out, Hh.out, Hk.out, if_pos HH0.out, if_pos HK0.out]
      rw [e]
      exact ⟨rfl, k9⟩
    · have q4 := eql_f (W4.mk' Gk.out) W4.zero hk0
      have HK0 := Lib.hid hk0
      clear hk0
      obtain ⟨cD130, cD131, cD132, cD133⟩ := row4c hD13
      obtain ⟨zD130, zD131, zD132, zD133⟩ := row4z hD13
      obtain ⟨cD140, cD141, cD142, cD143⟩ := row4c hD14
      obtain ⟨zD140, zD141, zD142, zD143⟩ := row4z hD14
      go_wp2_with fail
      refine (ray_none (b0 := 0) (b1 := 0) (b2 := 0) (b3 := 0) (a0 := 0) (a1 := 0) (a2 := 0) (a3 := 0) _).mono ?_
      rintro e U1 ⟨rfl, hb⟩
      replace hRA := below_get hb hRA
      replace hRO := below_get hb hRO
      replace hRR := below_get hb hRR
      replace hD7 := below_get hb hD7
      replace hD8 := below_get hb hD8
      replace hD9 := below_get hb hD9
      replace hD10 := below_get hb hD10
      replace hD11 := below_get hb hD11
      replace hD12 := below_get hb hD12
      replace hD13 := below_get hb hD13
      replace hD14 := below_get hb hD14
      replace kk := bcl (by first | exact kk | exact kk.drew | exact below_drewN kk _) hb
      replace fF := HF.out.keep kk
      clear cD130 zD130 cD131 zD131 cD132 zD132 cD133 zD133 cD140 zD140 cD141 zD141 cD142 zD142 cD143 zD143
      clear hb
      obtain ⟨cRR0, cRR1, cRR2, cRR3, cRR4, cRR5, cRR6, cRR7, cRR8, cRR9, cRR10, cRR11⟩ := row12c hRR
      obtain ⟨zRR0, zRR1, zRR2, zRR3, zRR4, zRR5, zRR6, zRR7, zRR8, zRR9, zRR10, zRR11⟩ := row12z hRR
      go_wp2_with fail
      have P := put12 (.int .u64 (w0 (1) : Nat)) (.int .u64 (w1 (1) : Nat)) (.int .u64 (w2 (1) : Nat)) (.int .u64 (w3 (1) : Nat)) (.int .u64 (w0 (1) : Nat)) (.int .u64 (w1 (1) : Nat)) (.int .u64 (w2 (1) : Nat)) (.int .u64 (w3 (1) : Nat)) (.int .u64 (w0 (0) : Nat)) (.int .u64 (w1 (0) : Nat)) (.int .u64 (w2 (0) : Nat)) (.int .u64 (w3 (0) : Nat)) hRR
      replace P := put_hid P
      obtain ⟨V9, hV9, P⟩ := P
      rw [hV9]
      have P9 := P.here
      have k9 := P.below (by omega) (show Below w.heap.size w U1 from by first | exact kk | exact kk.drew | exact below_drewN kk _)
      obtain ⟨v0, v1, v2, v3, v4, v5, v6, v7, v8, v9, v10, v11⟩ := row12c P9
      refine bodyPost_ret (v := _) (by simp [results, Try.results76, go_sem, v0, v1, v2, v3, v4, v5, v6, v7, v8, v9, v10, v11]; rfl) rfl ?_
      have e : naddr m ⟨x1, y1, z1⟩ ⟨x2, y2, z2⟩ = ⟨1, 1, 0⟩ := by
        unfold naddr; rw [if_neg HZ1.out, if_neg HZ2.out]; dsimp only
        rw [Hrz.out, Hoz.out, Hu.out, Hv.out, Hs.out, Ht.out, Hh.out, Hk.out, if_pos HH0.out, if_neg HK0.out]
      rw [e]
      exact ⟨rfl, k9⟩
  have q3 := eql_f (W4.mk' Gh.out) W4.zero hh0
  have HH0 := Lib.hid hh0
  clear hh0
  obtain ⟨cD130, cD131, cD132, cD133⟩ := row4c hD13
  obtain ⟨zD130, zD131, zD132, zD133⟩ := row4z hD13
  go_wp2_with fail
  refine (mulG_any (W4.mk' Gh.out) (W4.mk' Gh.out) _ fF).mono ?_
  rintro e U1 ⟨rfl, hb⟩
  replace hRA := below_get hb hRA
  replace hRO := below_get hb hRO
  replace hRR := below_get hb hRR
  replace hD7 := below_get hb hD7
  replace hD8 := below_get hb hD8
  replace hD9 := below_get hb hD9
  replace hD10 := below_get hb hD10
  replace hD11 := below_get hb hD11
  replace hD12 := below_get hb hD12
  replace hD13 := below_get hb hD13
  replace hD14 := below_get hb hD14
  replace kk := bcl (by first | exact kk | exact kk.drew | exact below_drewN kk _) hb
  replace fF := HF.out.keep kk
  clear cD130 zD130 cD131 zD131 cD132 zD132 cD133 zD133
  clear hb
  obtain ⟨hh, eqhh⟩ : ∃ n, mulm m h h = n := ⟨_, rfl⟩
  rw [eqhh]
  have Hhh := Lib.hid eqhh
  have Ghh := Lib.hid (show hh < 2 ^ 256 by rw [← eqhh]; exact Nat.lt_trans (Nat.mod_lt _ hpos) HM.out)
  clear eqhh
  go_upto_region 14 with fail
  obtain ⟨U2, hW⟩ : ∃ V, U1.alloc (.cells #[.int .u64 (w0 (hh) : Nat), .int .u64 (w1 (hh) : Nat), .int .u64 (w2 (hh) : Nat), .int .u64 (w3 (hh) : Nat)] 24 (0, 0)) = V := ⟨_, rfl⟩
  rw [hW]
  obtain ⟨d15, hbx⟩ : ∃ n, U1.heap.size = n := ⟨_, rfl⟩
  rw [hbx]
  have hNEW : U2.heap[d15]? = some (.cells #[.int .u64 (w0 (hh) : Nat), .int .u64 (w1 (hh) : Nat), .int .u64 (w2 (hh) : Nat), .int .u64 (w3 (hh) : Nat)] 24 (0, 0)) := by rw [← hW, ← hbx]; exact heap_alloc_new _ _
  have lD15RA : w.heap.size < d15 := by rw [← hbx]; exact lt_of_heap hRA
  replace hRA : U2.heap[w.heap.size]? = some (.cells #[.int .u64 (w0 (x1) : Nat), .int .u64 (w1 (x1) : Nat), .int .u64 (w2 (x1) : Nat), .int .u64 (w3 (x1) : Nat), .int .u64 (w0 (y1) : Nat), .int .u64 (w1 (y1) : Nat), .int .u64 (w2 (y1) : Nat), .int .u64 (w3 (y1) : Nat), .int .u64 (w0 (z1) : Nat), .int .u64 (w1 (z1) : Nat), .int .u64 (w2 (z1) : Nat), .int .u64 (w3 (z1) : Nat)] 103 (0, 0)) := by rw [← hW]; exact ak hRA
  have lD15RO : w.heap.size + 1 < d15 := by rw [← hbx]; exact lt_of_heap hRO
  replace hRO : U2.heap[w.heap.size + 1]? = some (.cells #[.int .u64 (w0 (x2) : Nat), .int .u64 (w1 (x2) : Nat), .int .u64 (w2 (x2) : Nat), .int .u64 (w3 (x2) : Nat), .int .u64 (w0 (y2) : Nat), .int .u64 (w1 (y2) : Nat), .int .u64 (w2 (y2) : Nat), .int .u64 (w3 (y2) : Nat), .int .u64 (w0 (z2) : Nat), .int .u64 (w1 (z2) : Nat), .int .u64 (w2 (z2) : Nat), .int .u64 (w3 (z2) : Nat)] 103 (0, 0)) := by rw [← hW]; exact ak hRO
  have lD15RR : w.heap.size + 2 < d15 := by rw [← hbx]; exact lt_of_heap hRR
  replace hRR : U2.heap[w.heap.size + 2]? = some (.cells #[.int .u64 0, .int .u64 0, .int .u64 0, .int .u64 0, .int .u64 0, .int .u64 0, .int .u64 0, .int .u64 0, .int .u64 0, .int .u64 0, .int .u64 0, .int .u64 0] 103 (0, 0)) := by rw [← hW]; exact ak hRR
  have lD15D7 : bd7 < d15 := by rw [← hbx]; exact lt_of_heap hD7
  replace hD7 : U2.heap[bd7]? = some (.cells #[.int .u64 (w0 (rz) : Nat), .int .u64 (w1 (rz) : Nat), .int .u64 (w2 (rz) : Nat), .int .u64 (w3 (rz) : Nat)] 24 (0, 0)) := by rw [← hW]; exact ak hD7
  have lD15D8 : bd8 < d15 := by rw [← hbx]; exact lt_of_heap hD8
  replace hD8 : U2.heap[bd8]? = some (.cells #[.int .u64 (w0 (oz) : Nat), .int .u64 (w1 (oz) : Nat), .int .u64 (w2 (oz) : Nat), .int .u64 (w3 (oz) : Nat)] 24 (0, 0)) := by rw [← hW]; exact ak hD8
  have lD15D9 : bd9 < d15 := by rw [← hbx]; exact lt_of_heap hD9
  replace hD9 : U2.heap[bd9]? = some (.cells #[.int .u64 (w0 (u) : Nat), .int .u64 (w1 (u) : Nat), .int .u64 (w2 (u) : Nat), .int .u64 (w3 (u) : Nat)] 24 (0, 0)) := by rw [← hW]; exact ak hD9
  have lD15D10 : bd10 < d15 := by rw [← hbx]; exact lt_of_heap hD10
  replace hD10 : U2.heap[bd10]? = some (.cells #[.int .u64 (w0 (v) : Nat), .int .u64 (w1 (v) : Nat), .int .u64 (w2 (v) : Nat), .int .u64 (w3 (v) : Nat)] 24 (0, 0)) := by rw [← hW]; exact ak hD10
  have lD15D11 : bd11 < d15 := by rw [← hbx]; exact lt_of_heap hD11
  replace hD11 : U2.heap[bd11]? = some (.cells #[.int .u64 (w0 (s) : Nat), .int .u64 (w1 (s) : Nat), .int .u64 (w2 (s) : Nat), .int .u64 (w3 (s) : Nat)] 24 (0, 0)) := by rw [← hW]; exact ak hD11
  have lD15D12 : bd12 < d15 := by rw [← hbx]; exact lt_of_heap hD12
  replace hD12 : U2.heap[bd12]? = some (.cells #[.int .u64 (w0 (t) : Nat), .int .u64 (w1 (t) : Nat), .int .u64 (w2 (t) : Nat), .int .u64 (w3 (t) : Nat)] 24 (0, 0)) := by rw [← hW]; exact ak hD12
  have lD15D13 : bd13 < d15 := by rw [← hbx]; exact lt_of_heap hD13
  replace hD13 : U2.heap[bd13]? = some (.cells #[.int .u64 (w0 (h) : Nat), .int .u64 (w1 (h) : Nat), .int .u64 (w2 (h) : Nat), .int .u64 (w3 (h) : Nat)] 24 (0, 0)) := by rw [← hW]; exact ak hD13
  have lD15D14 : bd14 < d15 := by rw [← hbx]; exact lt_of_heap hD14
  replace hD14 : U2.heap[bd14]? = some (.cells #[.int .u64 (w0 (k) : Nat), .int .u64 (w1 (k) : Nat), .int .u64 (w2 (k) : Nat), .int .u64 (w3 (k) : Nat)] 24 (0, 0)) := by rw [← hW]; exact ak hD14
  have lD15 : w.heap.size ≤ d15 := by rw [← hbx]; exact kk.size
  replace kk : Below w.heap.size w U2 := by rw [← hW]; exact bal kk _
  have hD15 := hNEW
  replace fF := HF.out.keep kk
  clear hNEW hW hbx
  obtain ⟨cD150, cD151, cD152, cD153⟩ := row4c hD15
  obtain ⟨zD150, zD151, zD152, zD153⟩ := row4z hD15
  obtain ⟨cD130, cD131, cD132, cD133⟩ := row4c hD13
  obtain ⟨zD130, zD131, zD132, zD133⟩ := row4z hD13
  go_wp2_with fail
  refine (mulG_any (W4.mk' Ghh.out) (W4.mk' Gh.out) _ fF).mono ?_
  rintro e U3 ⟨rfl, hb⟩
  replace hRA := below_get hb hRA
  replace hRO := below_get hb hRO
  replace hRR := below_get hb hRR
  replace hD7 := below_get hb hD7
  replace hD8 := below_get hb hD8
  replace hD9 := below_get hb hD9
  replace hD10 := below_get hb hD10
  replace hD11 := below_get hb hD11
  replace hD12 := below_get hb hD12
  replace hD13 := below_get hb hD13
  replace hD14 := below_get hb hD14
  replace hD15 := below_get hb hD15
  replace kk := bcl (by first | exact kk | exact kk.drew | exact below_drewN kk _) hb
  replace fF := HF.out.keep kk
  clear cD150 zD150 cD151 zD151 cD152 zD152 cD153 zD153 cD130 zD130 cD131 zD131 cD132 zD132 cD133 zD133
  clear hb
  obtain ⟨hhh, eqhhh⟩ : ∃ n, mulm m hh h = n := ⟨_, rfl⟩
  rw [eqhhh]
  have Hhhh := Lib.hid eqhhh
  have Ghhh := Lib.hid (show hhh < 2 ^ 256 by rw [← eqhhh]; exact Nat.lt_trans (Nat.mod_lt _ hpos) HM.out)
  clear eqhhh
  go_upto_region 15 with fail
  obtain ⟨U4, hW⟩ : ∃ V, U3.alloc (.cells #[.int .u64 (w0 (hhh) : Nat), .int .u64 (w1 (hhh) : Nat), .int .u64 (w2 (hhh) : Nat), .int .u64 (w3 (hhh) : Nat)] 24 (0, 0)) = V := ⟨_, rfl⟩
  rw [hW]
  obtain ⟨d16, hbx⟩ : ∃ n, U3.heap.size = n := ⟨_, rfl⟩
  rw [hbx]
  have hNEW : U4.heap[d16]? = some (.cells #[.int .u64 (w0 (hhh) : Nat), .int .u64 (w1 (hhh) : Nat), .int .u64 (w2 (hhh) : Nat), .int .u64 (w3 (hhh) : Nat)] 24 (0, 0)) := by rw [← hW, ← hbx]; exact heap_alloc_new _ _
  have lD16RA : w.heap.size < d16 := by rw [← hbx]; exact lt_of_heap hRA
  replace hRA : U4.heap[w.heap.size]? = some (.cells #[.int .u64 (w0 (x1) : Nat), .int .u64 (w1 (x1) : Nat), .int .u64 (w2 (x1) : Nat), .int .u64 (w3 (x1) : Nat), .int .u64 (w0 (y1) : Nat), .int .u64 (w1 (y1) : Nat), .int .u64 (w2 (y1) : Nat), .int .u64 (w3 (y1) : Nat), .int .u64 (w0 (z1) : Nat), .int .u64 (w1 (z1) : Nat), .int .u64 (w2 (z1) : Nat), .int .u64 (w3 (z1) : Nat)] 103 (0, 0)) := by rw [← hW]; exact ak hRA
  have lD16RO : w.heap.size + 1 < d16 := by rw [← hbx]; exact lt_of_heap hRO
  replace hRO : U4.heap[w.heap.size + 1]? = some (.cells #[.int .u64 (w0 (x2) : Nat), .int .u64 (w1 (x2) : Nat), .int .u64 (w2 (x2) : Nat), .int .u64 (w3 (x2) : Nat), .int .u64 (w0 (y2) : Nat), .int .u64 (w1 (y2) : Nat), .int .u64 (w2 (y2) : Nat), .int .u64 (w3 (y2) : Nat), .int .u64 (w0 (z2) : Nat), .int .u64 (w1 (z2) : Nat), .int .u64 (w2 (z2) : Nat), .int .u64 (w3 (z2) : Nat)] 103 (0, 0)) := by rw [← hW]; exact ak hRO
  have lD16RR : w.heap.size + 2 < d16 := by rw [← hbx]; exact lt_of_heap hRR
  replace hRR : U4.heap[w.heap.size + 2]? = some (.cells #[.int .u64 0, .int .u64 0, .int .u64 0, .int .u64 0, .int .u64 0, .int .u64 0, .int .u64 0, .int .u64 0, .int .u64 0, .int .u64 0, .int .u64 0, .int .u64 0] 103 (0, 0)) := by rw [← hW]; exact ak hRR
  have lD16D7 : bd7 < d16 := by rw [← hbx]; exact lt_of_heap hD7
  replace hD7 : U4.heap[bd7]? = some (.cells #[.int .u64 (w0 (rz) : Nat), .int .u64 (w1 (rz) : Nat), .int .u64 (w2 (rz) : Nat), .int .u64 (w3 (rz) : Nat)] 24 (0, 0)) := by rw [← hW]; exact ak hD7
  have lD16D8 : bd8 < d16 := by rw [← hbx]; exact lt_of_heap hD8
  replace hD8 : U4.heap[bd8]? = some (.cells #[.int .u64 (w0 (oz) : Nat), .int .u64 (w1 (oz) : Nat), .int .u64 (w2 (oz) : Nat), .int .u64 (w3 (oz) : Nat)] 24 (0, 0)) := by rw [← hW]; exact ak hD8
  have lD16D9 : bd9 < d16 := by rw [← hbx]; exact lt_of_heap hD9
  replace hD9 : U4.heap[bd9]? = some (.cells #[.int .u64 (w0 (u) : Nat), .int .u64 (w1 (u) : Nat), .int .u64 (w2 (u) : Nat), .int .u64 (w3 (u) : Nat)] 24 (0, 0)) := by rw [← hW]; exact ak hD9
  have lD16D10 : bd10 < d16 := by rw [← hbx]; exact lt_of_heap hD10
  replace hD10 : U4.heap[bd10]? = some (.cells #[.int .u64 (w0 (v) : Nat), .int .u64 (w1 (v) : Nat), .int .u64 (w2 (v) : Nat), .int .u64 (w3 (v) : Nat)] 24 (0, 0)) := by rw [← hW]; exact ak hD10
  have lD16D11 : bd11 < d16 := by rw [← hbx]; exact lt_of_heap hD11
  replace hD11 : U4.heap[bd11]? = some (.cells #[.int .u64 (w0 (s) : Nat), .int .u64 (w1 (s) : Nat), .int .u64 (w2 (s) : Nat), .int .u64 (w3 (s) : Nat)] 24 (0, 0)) := by rw [← hW]; exact ak hD11
  have lD16D12 : bd12 < d16 := by rw [← hbx]; exact lt_of_heap hD12
  replace hD12 : U4.heap[bd12]? = some (.cells #[.int .u64 (w0 (t) : Nat), .int .u64 (w1 (t) : Nat), .int .u64 (w2 (t) : Nat), .int .u64 (w3 (t) : Nat)] 24 (0, 0)) := by rw [← hW]; exact ak hD12
  have lD16D13 : bd13 < d16 := by rw [← hbx]; exact lt_of_heap hD13
  replace hD13 : U4.heap[bd13]? = some (.cells #[.int .u64 (w0 (h) : Nat), .int .u64 (w1 (h) : Nat), .int .u64 (w2 (h) : Nat), .int .u64 (w3 (h) : Nat)] 24 (0, 0)) := by rw [← hW]; exact ak hD13
  have lD16D14 : bd14 < d16 := by rw [← hbx]; exact lt_of_heap hD14
  replace hD14 : U4.heap[bd14]? = some (.cells #[.int .u64 (w0 (k) : Nat), .int .u64 (w1 (k) : Nat), .int .u64 (w2 (k) : Nat), .int .u64 (w3 (k) : Nat)] 24 (0, 0)) := by rw [← hW]; exact ak hD14
  have lD16D15 : d15 < d16 := by rw [← hbx]; exact lt_of_heap hD15
  replace hD15 : U4.heap[d15]? = some (.cells #[.int .u64 (w0 (hh) : Nat), .int .u64 (w1 (hh) : Nat), .int .u64 (w2 (hh) : Nat), .int .u64 (w3 (hh) : Nat)] 24 (0, 0)) := by rw [← hW]; exact ak hD15
  have lD16 : w.heap.size ≤ d16 := by rw [← hbx]; exact kk.size
  replace kk : Below w.heap.size w U4 := by rw [← hW]; exact bal kk _
  have hD16 := hNEW
  replace fF := HF.out.keep kk
  clear hNEW hW hbx
  obtain ⟨cD90, cD91, cD92, cD93⟩ := row4c hD9
  obtain ⟨zD90, zD91, zD92, zD93⟩ := row4z hD9
  obtain ⟨cD150, cD151, cD152, cD153⟩ := row4c hD15
  obtain ⟨zD150, zD151, zD152, zD153⟩ := row4z hD15
  go_wp2_with fail
  refine (mulG_any (W4.mk' Gu.out) (W4.mk' Ghh.out) _ fF).mono ?_
  rintro e U5 ⟨rfl, hb⟩
  replace hRA := below_get hb hRA
  replace hRO := below_get hb hRO
  replace hRR := below_get hb hRR
  replace hD7 := below_get hb hD7
  replace hD8 := below_get hb hD8
  replace hD9 := below_get hb hD9
  replace hD10 := below_get hb hD10
  replace hD11 := below_get hb hD11
  replace hD12 := below_get hb hD12
  replace hD13 := below_get hb hD13
  replace hD14 := below_get hb hD14
  replace hD15 := below_get hb hD15
  replace hD16 := below_get hb hD16
  replace kk := bcl (by first | exact kk | exact kk.drew | exact below_drewN kk _) hb
  replace fF := HF.out.keep kk
  clear cD90 zD90 cD91 zD91 cD92 zD92 cD93 zD93 cD150 zD150 cD151 zD151 cD152 zD152 cD153 zD153
  clear hb
  obtain ⟨ww, eqww⟩ : ∃ n, mulm m u hh = n := ⟨_, rfl⟩
  rw [eqww]
  have Hww := Lib.hid eqww
  have Gww := Lib.hid (show ww < 2 ^ 256 by rw [← eqww]; exact Nat.lt_trans (Nat.mod_lt _ hpos) HM.out)
  clear eqww
  go_upto_region 16 with fail
  obtain ⟨U6, hW⟩ : ∃ V, U5.alloc (.cells #[.int .u64 (w0 (ww) : Nat), .int .u64 (w1 (ww) : Nat), .int .u64 (w2 (ww) : Nat), .int .u64 (w3 (ww) : Nat)] 24 (0, 0)) = V := ⟨_, rfl⟩
  rw [hW]
  obtain ⟨d17, hbx⟩ : ∃ n, U5.heap.size = n := ⟨_, rfl⟩
  rw [hbx]
  have hNEW : U6.heap[d17]? = some (.cells #[.int .u64 (w0 (ww) : Nat), .int .u64 (w1 (ww) : Nat), .int .u64 (w2 (ww) : Nat), .int .u64 (w3 (ww) : Nat)] 24 (0, 0)) := by rw [← hW, ← hbx]; exact heap_alloc_new _ _
  have lD17RA : w.heap.size < d17 := by rw [← hbx]; exact lt_of_heap hRA
  replace hRA : U6.heap[w.heap.size]? = some (.cells #[.int .u64 (w0 (x1) : Nat), .int .u64 (w1 (x1) : Nat), .int .u64 (w2 (x1) : Nat), .int .u64 (w3 (x1) : Nat), .int .u64 (w0 (y1) : Nat), .int .u64 (w1 (y1) : Nat), .int .u64 (w2 (y1) : Nat), .int .u64 (w3 (y1) : Nat), .int .u64 (w0 (z1) : Nat), .int .u64 (w1 (z1) : Nat), .int .u64 (w2 (z1) : Nat), .int .u64 (w3 (z1) : Nat)] 103 (0, 0)) := by rw [← hW]; exact ak hRA
  have lD17RO : w.heap.size + 1 < d17 := by rw [← hbx]; exact lt_of_heap hRO
  replace hRO : U6.heap[w.heap.size + 1]? = some (.cells #[.int .u64 (w0 (x2) : Nat), .int .u64 (w1 (x2) : Nat), .int .u64 (w2 (x2) : Nat), .int .u64 (w3 (x2) : Nat), .int .u64 (w0 (y2) : Nat), .int .u64 (w1 (y2) : Nat), .int .u64 (w2 (y2) : Nat), .int .u64 (w3 (y2) : Nat), .int .u64 (w0 (z2) : Nat), .int .u64 (w1 (z2) : Nat), .int .u64 (w2 (z2) : Nat), .int .u64 (w3 (z2) : Nat)] 103 (0, 0)) := by rw [← hW]; exact ak hRO
  have lD17RR : w.heap.size + 2 < d17 := by rw [← hbx]; exact lt_of_heap hRR
  replace hRR : U6.heap[w.heap.size + 2]? = some (.cells #[.int .u64 0, .int .u64 0, .int .u64 0, .int .u64 0, .int .u64 0, .int .u64 0, .int .u64 0, .int .u64 0, .int .u64 0, .int .u64 0, .int .u64 0, .int .u64 0] 103 (0, 0)) := by rw [← hW]; exact ak hRR
  have lD17D7 : bd7 < d17 := by rw [← hbx]; exact lt_of_heap hD7
  replace hD7 : U6.heap[bd7]? = some (.cells #[.int .u64 (w0 (rz) : Nat), .int .u64 (w1 (rz) : Nat), .int .u64 (w2 (rz) : Nat), .int .u64 (w3 (rz) : Nat)] 24 (0, 0)) := by rw [← hW]; exact ak hD7
  have lD17D8 : bd8 < d17 := by rw [← hbx]; exact lt_of_heap hD8
  replace hD8 : U6.heap[bd8]? = some (.cells #[.int .u64 (w0 (oz) : Nat), .int .u64 (w1 (oz) : Nat), .int .u64 (w2 (oz) : Nat), .int .u64 (w3 (oz) : Nat)] 24 (0, 0)) := by rw [← hW]; exact ak hD8
  have lD17D9 : bd9 < d17 := by rw [← hbx]; exact lt_of_heap hD9
  replace hD9 : U6.heap[bd9]? = some (.cells #[.int .u64 (w0 (u) : Nat), .int .u64 (w1 (u) : Nat), .int .u64 (w2 (u) : Nat), .int .u64 (w3 (u) : Nat)] 24 (0, 0)) := by rw [← hW]; exact ak hD9
  have lD17D10 : bd10 < d17 := by rw [← hbx]; exact lt_of_heap hD10
  replace hD10 : U6.heap[bd10]? = some (.cells #[.int .u64 (w0 (v) : Nat), .int .u64 (w1 (v) : Nat), .int .u64 (w2 (v) : Nat), .int .u64 (w3 (v) : Nat)] 24 (0, 0)) := by rw [← hW]; exact ak hD10
  have lD17D11 : bd11 < d17 := by rw [← hbx]; exact lt_of_heap hD11
  replace hD11 : U6.heap[bd11]? = some (.cells #[.int .u64 (w0 (s) : Nat), .int .u64 (w1 (s) : Nat), .int .u64 (w2 (s) : Nat), .int .u64 (w3 (s) : Nat)] 24 (0, 0)) := by rw [← hW]; exact ak hD11
  have lD17D12 : bd12 < d17 := by rw [← hbx]; exact lt_of_heap hD12
  replace hD12 : U6.heap[bd12]? = some (.cells #[.int .u64 (w0 (t) : Nat), .int .u64 (w1 (t) : Nat), .int .u64 (w2 (t) : Nat), .int .u64 (w3 (t) : Nat)] 24 (0, 0)) := by rw [← hW]; exact ak hD12
  have lD17D13 : bd13 < d17 := by rw [← hbx]; exact lt_of_heap hD13
  replace hD13 : U6.heap[bd13]? = some (.cells #[.int .u64 (w0 (h) : Nat), .int .u64 (w1 (h) : Nat), .int .u64 (w2 (h) : Nat), .int .u64 (w3 (h) : Nat)] 24 (0, 0)) := by rw [← hW]; exact ak hD13
  have lD17D14 : bd14 < d17 := by rw [← hbx]; exact lt_of_heap hD14
  replace hD14 : U6.heap[bd14]? = some (.cells #[.int .u64 (w0 (k) : Nat), .int .u64 (w1 (k) : Nat), .int .u64 (w2 (k) : Nat), .int .u64 (w3 (k) : Nat)] 24 (0, 0)) := by rw [← hW]; exact ak hD14
  have lD17D15 : d15 < d17 := by rw [← hbx]; exact lt_of_heap hD15
  replace hD15 : U6.heap[d15]? = some (.cells #[.int .u64 (w0 (hh) : Nat), .int .u64 (w1 (hh) : Nat), .int .u64 (w2 (hh) : Nat), .int .u64 (w3 (hh) : Nat)] 24 (0, 0)) := by rw [← hW]; exact ak hD15
  have lD17D16 : d16 < d17 := by rw [← hbx]; exact lt_of_heap hD16
  replace hD16 : U6.heap[d16]? = some (.cells #[.int .u64 (w0 (hhh) : Nat), .int .u64 (w1 (hhh) : Nat), .int .u64 (w2 (hhh) : Nat), .int .u64 (w3 (hhh) : Nat)] 24 (0, 0)) := by rw [← hW]; exact ak hD16
  have lD17 : w.heap.size ≤ d17 := by rw [← hbx]; exact kk.size
  replace kk : Below w.heap.size w U6 := by rw [← hW]; exact bal kk _
  have hD17 := hNEW
  replace fF := HF.out.keep kk
  clear hNEW hW hbx
  obtain ⟨S0, hS0⟩ : ∃ S : World → Prop, S = (fun w' => w'.heap[bd14]? = some (.cells #[.int .u64 (w0 (k) : Nat), .int .u64 (w1 (k) : Nat), .int .u64 (w2 (k) : Nat), .int .u64 (w3 (k) : Nat)] 24 (0, 0)) ∧ w'.heap[d16]? = some (.cells #[.int .u64 (w0 (hhh) : Nat), .int .u64 (w1 (hhh) : Nat), .int .u64 (w2 (hhh) : Nat), .int .u64 (w3 (hhh) : Nat)] 24 (0, 0)) ∧ w'.heap[d17]? = some (.cells #[.int .u64 (w0 (ww) : Nat), .int .u64 (w1 (ww) : Nat), .int .u64 (w2 (ww) : Nat), .int .u64 (w3 (ww) : Nat)] 24 (0, 0))) := ⟨_, rfl⟩
  have hSJ : ∀ w', Below U6.heap.size U6 w' → S0 w' := by intro w' hb; rw [hS0]; exact ⟨below_get hb hD14, below_get hb hD16, below_get hb hD17⟩
  refine startT (S := S0) 14 (by kernel_rfl) (by rw [hS0]; exact ⟨hD14, hD16, hD17⟩) (fun hHeld => ?_)
  refine takeT (i := 0) (d := some 103) (v := ?_) _ rfl rfl (by rfl) (by kernel_rfl) (by decide) (by kernel_rfl) (by kernel_rfl) (by kernel_rfl) (fun _ _ _ h => h) (by assumption) (by kernel_rfl) ?_ ?_
  rotate_left
  · (first | (intro w' hSw; clear hSw; go_simp; try (with_reducible rfl)) | (intro w'; go_simp; try (with_reducible rfl)))
  try simp only [ptr, Act.put, List.setIfInBounds_toArray, List.set_cons_zero, List.set_cons_succ]
  refine takeT (i := 1) (d := some 104) (v := ?_) _ rfl rfl (by rfl) (by kernel_rfl) (by decide) (by kernel_rfl) (by kernel_rfl) (by kernel_rfl) (fun _ _ _ h => h) (by assumption) (by kernel_rfl) ?_ ?_
  rotate_left
  · (first | (intro w' hSw; clear hSw; go_simp; try (with_reducible rfl)) | (intro w'; go_simp; try (with_reducible rfl)))
  try simp only [ptr, Act.put, List.setIfInBounds_toArray, List.set_cons_zero, List.set_cons_succ]
  refine takeT (i := 2) (d := some 105) (v := ?_) _ rfl rfl (by rfl) (by kernel_rfl) (by decide) (by kernel_rfl) (by kernel_rfl) (by kernel_rfl) (fun _ _ _ h => h) (by assumption) (by kernel_rfl) ?_ ?_
  rotate_left
  · (first | (intro w' hSw; clear hSw; go_simp; try (with_reducible rfl)) | (intro w'; go_simp; try (with_reducible rfl)))
  try simp only [ptr, Act.put, List.setIfInBounds_toArray, List.set_cons_zero, List.set_cons_succ]
  refine takeT (i := 3) (d := some 106) (v := ?_) _ rfl rfl (by rfl) (by kernel_rfl) (by decide) (by kernel_rfl) (by kernel_rfl) (by kernel_rfl) (fun _ _ _ h => h) (by assumption) (by kernel_rfl) ?_ ?_
  rotate_left
  · (intro w' hSw; (rw [hS0] at hSw); (have hSw' := hSw); (first | (obtain ⟨svD14, svD16, svD17⟩ := hSw'; obtain ⟨cvD140, cvD141, cvD142, cvD143⟩ := row4c svD14; obtain ⟨cvD160, cvD161, cvD162, cvD163⟩ := row4c svD16; obtain ⟨cvD170, cvD171, cvD172, cvD173⟩ := row4c svD17; go_simp)); try (with_reducible rfl))
  try simp only [ptr, Act.put, List.setIfInBounds_toArray, List.set_cons_zero, List.set_cons_succ]
  refine takeT (i := 4) (d := some 107) (v := ?_) _ rfl rfl (by rfl) (by kernel_rfl) (by decide) (by kernel_rfl) (by kernel_rfl) (by kernel_rfl) (fun _ _ _ h => h) (by assumption) (by kernel_rfl) ?_ ?_
  rotate_left
  · (intro w' hSw; (rw [hS0] at hSw); (have hSw' := hSw); (first | (obtain ⟨svD14, svD16, svD17⟩ := hSw'; obtain ⟨cvD140, cvD141, cvD142, cvD143⟩ := row4c svD14; obtain ⟨cvD160, cvD161, cvD162, cvD163⟩ := row4c svD16; obtain ⟨cvD170, cvD171, cvD172, cvD173⟩ := row4c svD17; go_simp)); try (with_reducible rfl))
  try simp only [ptr, Act.put, List.setIfInBounds_toArray, List.set_cons_zero, List.set_cons_succ]
  refine takeT (i := 6) (d := some 109) (v := ?_) _ rfl rfl (by rfl) (by kernel_rfl) (by decide) (by kernel_rfl) (by kernel_rfl) (by kernel_rfl) (fun _ _ _ h => h) (by assumption) (by kernel_rfl) ?_ ?_
  rotate_left
  · (intro w' hSw; (rw [hS0] at hSw); (have hSw' := hSw); (first | (obtain ⟨svD14, svD16, svD17⟩ := hSw'; obtain ⟨cvD140, cvD141, cvD142, cvD143⟩ := row4c svD14; obtain ⟨cvD160, cvD161, cvD162, cvD163⟩ := row4c svD16; obtain ⟨cvD170, cvD171, cvD172, cvD173⟩ := row4c svD17; go_simp)); try (with_reducible rfl))
  try simp only [ptr, Act.put, List.setIfInBounds_toArray, List.set_cons_zero, List.set_cons_succ]
  refine takeT (i := 8) (d := some 111) (v := ?_) _ rfl rfl (by rfl) (by kernel_rfl) (by decide) (by kernel_rfl) (by kernel_rfl) (by kernel_rfl) (fun _ _ _ h => h) (by assumption) (by kernel_rfl) ?_ ?_
  rotate_left
  · (first | (intro w' hSw; clear hSw; go_simp; try (with_reducible rfl)) | (intro w'; go_simp; try (with_reducible rfl)))
  try simp only [ptr, Act.put, List.setIfInBounds_toArray, List.set_cons_zero, List.set_cons_succ]
  refine takeT (i := 9) (d := some 112) (v := ?_) _ rfl rfl (by rfl) (by kernel_rfl) (by decide) (by kernel_rfl) (by kernel_rfl) (by kernel_rfl) (fun _ _ _ h => h) (by assumption) (by kernel_rfl) ?_ ?_
  rotate_left
  · (intro w' hSw; (rw [hS0] at hSw); (have hSw' := hSw); (first | (obtain ⟨svD14, svD16, svD17⟩ := hSw'; obtain ⟨cvD140, cvD141, cvD142, cvD143⟩ := row4c svD14; obtain ⟨cvD160, cvD161, cvD162, cvD163⟩ := row4c svD16; obtain ⟨cvD170, cvD171, cvD172, cvD173⟩ := row4c svD17; go_simp)); try (with_reducible rfl))
  try simp only [ptr, Act.put, List.setIfInBounds_toArray, List.set_cons_zero, List.set_cons_succ]
  refine takeT (i := 10) (d := some 113) (v := ?_) _ rfl rfl (by rfl) (by kernel_rfl) (by decide) (by kernel_rfl) (by kernel_rfl) (by kernel_rfl) (fun _ _ _ h => h) (by assumption) (by kernel_rfl) ?_ ?_
  rotate_left
  · (intro w' hSw; (rw [hS0] at hSw); (have hSw' := hSw); (first | (obtain ⟨svD14, svD16, svD17⟩ := hSw'; obtain ⟨cvD140, cvD141, cvD142, cvD143⟩ := row4c svD14; obtain ⟨cvD160, cvD161, cvD162, cvD163⟩ := row4c svD16; obtain ⟨cvD170, cvD171, cvD172, cvD173⟩ := row4c svD17; go_simp)); try (with_reducible rfl))
  try simp only [ptr, Act.put, List.setIfInBounds_toArray, List.set_cons_zero, List.set_cons_succ]
  refine NK1.start (w0 := U6) (x1 := undef) 13 18 (.cells #[.int .u64 0, .int .u64 0, .int .u64 0, .int .u64 0] 24 (0, 0)) (Below.refl _ _).drew (by (simp only [Act.put, List.setIfInBounds_toArray, List.set_cons_zero, List.set_cons_succ])) ⟨⟨_, rfl, fun _ => rfl, fun a1 w1 K hK => by go_simp; exact hK⟩⟩ (fun m1 => ?_)
  refine NK1.step (i := 5) (d := 108) (F := fun vv => vv = .agg #[.int .u64 (w0 (mulm m k k) : Nat), .int .u64 (w1 (mulm m k k) : Nat), .int .u64 (w2 (mulm m k k) : Nat), .int .u64 (w3 (mulm m k k) : Nat)]) m1  hSJ (by decide) (by decide) (by kernel_rfl) (by kernel_rfl) ⟨⟨_, rfl, fun _ => rfl, fun yv1 w1 hJ1 K hK => ?_⟩⟩ ?_
  · try simp only [ptr, Act.put, List.setIfInBounds_toArray, List.set_cons_zero, List.set_cons_succ]
    go_simp
    have fF := fF.keep hJ1
    refine (mulG_any (by first | exact W4.mk' Gx1.out | exact W4.mk' Gy1.out | exact W4.mk' Gz1.out | exact W4.mk' Gx2.out | exact W4.mk' Gy2.out | exact W4.mk' Gz2.out | exact W4.mk' HM.out | exact W4.mk' Grz.out | exact W4.mk' Goz.out | exact W4.mk' Gu.out | exact W4.mk' Gv.out | exact W4.mk' Gs.out | exact W4.mk' Gt.out | exact W4.mk' Gh.out | exact W4.mk' Gk.out | exact W4.mk' Ghh.out | exact W4.mk' Ghhh.out | exact W4.mk' Gww.out | exact W4.mk' Gxx.out | exact W4.mk' Gyy.out | exact W4.mk' (Nat.lt_trans (Nat.mod_lt _ hpos) HM.out) | exact W4.zero | exact W4.small (n := 1) rfl (by decide) | exact W4.small (n := 2) rfl (by decide) | exact W4.small (n := 3) rfl (by decide) | exact W4.small (n := 4) rfl (by decide) | exact W4.small (n := 5) rfl (by decide) | exact W4.small (n := 7) rfl (by decide)) (by first | exact W4.mk' Gx1.out | exact W4.mk' Gy1.out | exact W4.mk' Gz1.out | exact W4.mk' Gx2.out | exact W4.mk' Gy2.out | exact W4.mk' Gz2.out | exact W4.mk' HM.out | exact W4.mk' Grz.out | exact W4.mk' Goz.out | exact W4.mk' Gu.out | exact W4.mk' Gv.out | exact W4.mk' Gs.out | exact W4.mk' Gt.out | exact W4.mk' Gh.out | exact W4.mk' Gk.out | exact W4.mk' Ghh.out | exact W4.mk' Ghhh.out | exact W4.mk' Gww.out | exact W4.mk' Gxx.out | exact W4.mk' Gyy.out | exact W4.mk' (Nat.lt_trans (Nat.mod_lt _ hpos) HM.out) | exact W4.zero | exact W4.small (n := 1) rfl (by decide) | exact W4.small (n := 2) rfl (by decide) | exact W4.small (n := 3) rfl (by decide) | exact W4.small (n := 4) rfl (by decide) | exact W4.small (n := 5) rfl (by decide) | exact W4.small (n := 7) rfl (by decide)) _ (show IsF _ (g) (m) from (by first | exact fF | exact ⟨fF.blk, fF.odd, fF.three, fF.lt⟩ | exact ⟨ak fF.blk, fF.odd, fF.three, fF.lt⟩ | exact ⟨ak (ak fF.blk), fF.odd, fF.three, fF.lt⟩))).mono ?_
    rintro e U ⟨rfl, hb⟩
    have h2 := hK.out _ _ rfl hb
    try simp only [ptr, Act.put, List.setIfInBounds_toArray, List.set_cons_zero, List.set_cons_succ] at h2
    exact h2
  rintro vv rfl
  refine NK1.step (i := 7) (d := 110) (F := fun vv => vv = .agg #[.int .u64 (w0 (subf m (mulm m k k) hhh) : Nat), .int .u64 (w1 (subf m (mulm m k k) hhh) : Nat), .int .u64 (w2 (subf m (mulm m k k) hhh) : Nat), .int .u64 (w3 (subf m (mulm m k k) hhh) : Nat)]) m1  hSJ (by decide) (by decide) (by kernel_rfl) (by kernel_rfl) ⟨⟨_, rfl, fun _ => rfl, fun yv1 w1 hJ1 K hK => ?_⟩⟩ ?_
  · try simp only [ptr, Act.put, List.setIfInBounds_toArray, List.set_cons_zero, List.set_cons_succ]
    go_simp
    have fF := fF.keep hJ1
    refine (subG_any (by first | exact W4.mk' Gx1.out | exact W4.mk' Gy1.out | exact W4.mk' Gz1.out | exact W4.mk' Gx2.out | exact W4.mk' Gy2.out | exact W4.mk' Gz2.out | exact W4.mk' HM.out | exact W4.mk' Grz.out | exact W4.mk' Goz.out | exact W4.mk' Gu.out | exact W4.mk' Gv.out | exact W4.mk' Gs.out | exact W4.mk' Gt.out | exact W4.mk' Gh.out | exact W4.mk' Gk.out | exact W4.mk' Ghh.out | exact W4.mk' Ghhh.out | exact W4.mk' Gww.out | exact W4.mk' Gxx.out | exact W4.mk' Gyy.out | exact W4.mk' (Nat.lt_trans (Nat.mod_lt _ hpos) HM.out) | exact W4.zero | exact W4.small (n := 1) rfl (by decide) | exact W4.small (n := 2) rfl (by decide) | exact W4.small (n := 3) rfl (by decide) | exact W4.small (n := 4) rfl (by decide) | exact W4.small (n := 5) rfl (by decide) | exact W4.small (n := 7) rfl (by decide)) (by first | exact W4.mk' Gx1.out | exact W4.mk' Gy1.out | exact W4.mk' Gz1.out | exact W4.mk' Gx2.out | exact W4.mk' Gy2.out | exact W4.mk' Gz2.out | exact W4.mk' HM.out | exact W4.mk' Grz.out | exact W4.mk' Goz.out | exact W4.mk' Gu.out | exact W4.mk' Gv.out | exact W4.mk' Gs.out | exact W4.mk' Gt.out | exact W4.mk' Gh.out | exact W4.mk' Gk.out | exact W4.mk' Ghh.out | exact W4.mk' Ghhh.out | exact W4.mk' Gww.out | exact W4.mk' Gxx.out | exact W4.mk' Gyy.out | exact W4.mk' (Nat.lt_trans (Nat.mod_lt _ hpos) HM.out) | exact W4.zero | exact W4.small (n := 1) rfl (by decide) | exact W4.small (n := 2) rfl (by decide) | exact W4.small (n := 3) rfl (by decide) | exact W4.small (n := 4) rfl (by decide) | exact W4.small (n := 5) rfl (by decide) | exact W4.small (n := 7) rfl (by decide)) _ (show IsF _ (g) (m) from (by first | exact fF | exact ⟨fF.blk, fF.odd, fF.three, fF.lt⟩ | exact ⟨ak fF.blk, fF.odd, fF.three, fF.lt⟩ | exact ⟨ak (ak fF.blk), fF.odd, fF.three, fF.lt⟩))).mono ?_
    rintro e U ⟨rfl, hb⟩
    have h2 := hK.out _ _ rfl hb
    try simp only [ptr, Act.put, List.setIfInBounds_toArray, List.set_cons_zero, List.set_cons_succ] at h2
    exact h2
  rintro vv rfl
  refine NK1.step (i := 11) (d := 114) (F := fun vv => vv = .agg #[.int .u64 (w0 (addf m ww ww) : Nat), .int .u64 (w1 (addf m ww ww) : Nat), .int .u64 (w2 (addf m ww ww) : Nat), .int .u64 (w3 (addf m ww ww) : Nat)]) m1  hSJ (by decide) (by decide) (by kernel_rfl) (by kernel_rfl) ⟨⟨_, rfl, fun _ => rfl, fun yv1 w1 hJ1 K hK => ?_⟩⟩ ?_
  · try simp only [ptr, Act.put, List.setIfInBounds_toArray, List.set_cons_zero, List.set_cons_succ]
    go_simp
    have fF := fF.keep hJ1
    refine (addG_any (by first | exact W4.mk' Gx1.out | exact W4.mk' Gy1.out | exact W4.mk' Gz1.out | exact W4.mk' Gx2.out | exact W4.mk' Gy2.out | exact W4.mk' Gz2.out | exact W4.mk' HM.out | exact W4.mk' Grz.out | exact W4.mk' Goz.out | exact W4.mk' Gu.out | exact W4.mk' Gv.out | exact W4.mk' Gs.out | exact W4.mk' Gt.out | exact W4.mk' Gh.out | exact W4.mk' Gk.out | exact W4.mk' Ghh.out | exact W4.mk' Ghhh.out | exact W4.mk' Gww.out | exact W4.mk' Gxx.out | exact W4.mk' Gyy.out | exact W4.mk' (Nat.lt_trans (Nat.mod_lt _ hpos) HM.out) | exact W4.zero | exact W4.small (n := 1) rfl (by decide) | exact W4.small (n := 2) rfl (by decide) | exact W4.small (n := 3) rfl (by decide) | exact W4.small (n := 4) rfl (by decide) | exact W4.small (n := 5) rfl (by decide) | exact W4.small (n := 7) rfl (by decide)) (by first | exact W4.mk' Gx1.out | exact W4.mk' Gy1.out | exact W4.mk' Gz1.out | exact W4.mk' Gx2.out | exact W4.mk' Gy2.out | exact W4.mk' Gz2.out | exact W4.mk' HM.out | exact W4.mk' Grz.out | exact W4.mk' Goz.out | exact W4.mk' Gu.out | exact W4.mk' Gv.out | exact W4.mk' Gs.out | exact W4.mk' Gt.out | exact W4.mk' Gh.out | exact W4.mk' Gk.out | exact W4.mk' Ghh.out | exact W4.mk' Ghhh.out | exact W4.mk' Gww.out | exact W4.mk' Gxx.out | exact W4.mk' Gyy.out | exact W4.mk' (Nat.lt_trans (Nat.mod_lt _ hpos) HM.out) | exact W4.zero | exact W4.small (n := 1) rfl (by decide) | exact W4.small (n := 2) rfl (by decide) | exact W4.small (n := 3) rfl (by decide) | exact W4.small (n := 4) rfl (by decide) | exact W4.small (n := 5) rfl (by decide) | exact W4.small (n := 7) rfl (by decide)) _ (show IsF _ (g) (m) from (by first | exact fF | exact ⟨fF.blk, fF.odd, fF.three, fF.lt⟩ | exact ⟨ak fF.blk, fF.odd, fF.three, fF.lt⟩ | exact ⟨ak (ak fF.blk), fF.odd, fF.three, fF.lt⟩))).mono ?_
    rintro e U ⟨rfl, hb⟩
    have h2 := hK.out _ _ rfl hb
    try simp only [ptr, Act.put, List.setIfInBounds_toArray, List.set_cons_zero, List.set_cons_succ] at h2
    exact h2
  rintro vv rfl
  refine NK1.step (i := 12) (d := 115) (F := fun vv => vv = .agg #[.int .u64 (w0 (subf m (subf m (mulm m k k) hhh) (addf m ww ww)) : Nat), .int .u64 (w1 (subf m (subf m (mulm m k k) hhh) (addf m ww ww)) : Nat), .int .u64 (w2 (subf m (subf m (mulm m k k) hhh) (addf m ww ww)) : Nat), .int .u64 (w3 (subf m (subf m (mulm m k k) hhh) (addf m ww ww)) : Nat)]) m1  hSJ (by decide) (by decide) (by kernel_rfl) (by kernel_rfl) ⟨⟨_, rfl, fun _ => rfl, fun yv1 w1 hJ1 K hK => ?_⟩⟩ ?_
  · try simp only [ptr, Act.put, List.setIfInBounds_toArray, List.set_cons_zero, List.set_cons_succ]
    go_simp
    have fF := fF.keep hJ1
    refine (subG_any (by first | exact W4.mk' Gx1.out | exact W4.mk' Gy1.out | exact W4.mk' Gz1.out | exact W4.mk' Gx2.out | exact W4.mk' Gy2.out | exact W4.mk' Gz2.out | exact W4.mk' HM.out | exact W4.mk' Grz.out | exact W4.mk' Goz.out | exact W4.mk' Gu.out | exact W4.mk' Gv.out | exact W4.mk' Gs.out | exact W4.mk' Gt.out | exact W4.mk' Gh.out | exact W4.mk' Gk.out | exact W4.mk' Ghh.out | exact W4.mk' Ghhh.out | exact W4.mk' Gww.out | exact W4.mk' Gxx.out | exact W4.mk' Gyy.out | exact W4.mk' (Nat.lt_trans (Nat.mod_lt _ hpos) HM.out) | exact W4.zero | exact W4.small (n := 1) rfl (by decide) | exact W4.small (n := 2) rfl (by decide) | exact W4.small (n := 3) rfl (by decide) | exact W4.small (n := 4) rfl (by decide) | exact W4.small (n := 5) rfl (by decide) | exact W4.small (n := 7) rfl (by decide)) (by first | exact W4.mk' Gx1.out | exact W4.mk' Gy1.out | exact W4.mk' Gz1.out | exact W4.mk' Gx2.out | exact W4.mk' Gy2.out | exact W4.mk' Gz2.out | exact W4.mk' HM.out | exact W4.mk' Grz.out | exact W4.mk' Goz.out | exact W4.mk' Gu.out | exact W4.mk' Gv.out | exact W4.mk' Gs.out | exact W4.mk' Gt.out | exact W4.mk' Gh.out | exact W4.mk' Gk.out | exact W4.mk' Ghh.out | exact W4.mk' Ghhh.out | exact W4.mk' Gww.out | exact W4.mk' Gxx.out | exact W4.mk' Gyy.out | exact W4.mk' (Nat.lt_trans (Nat.mod_lt _ hpos) HM.out) | exact W4.zero | exact W4.small (n := 1) rfl (by decide) | exact W4.small (n := 2) rfl (by decide) | exact W4.small (n := 3) rfl (by decide) | exact W4.small (n := 4) rfl (by decide) | exact W4.small (n := 5) rfl (by decide) | exact W4.small (n := 7) rfl (by decide)) _ (show IsF _ (g) (m) from (by first | exact fF | exact ⟨fF.blk, fF.odd, fF.three, fF.lt⟩ | exact ⟨ak fF.blk, fF.odd, fF.three, fF.lt⟩ | exact ⟨ak (ak fF.blk), fF.odd, fF.three, fF.lt⟩))).mono ?_
    rintro e U ⟨rfl, hb⟩
    have h2 := hK.out _ _ rfl hb
    try simp only [ptr, Act.put, List.setIfInBounds_toArray, List.set_cons_zero, List.set_cons_succ] at h2
    exact h2
  rintro vv rfl
  refine NK1.last m1  hSJ (by kernel_rfl) (fun C5a bd18 hb o1  => ?_)
  clear m1
  try simp only [ptr, Act.put, List.setIfInBounds_toArray, List.set_cons_zero, List.set_cons_succ]
  have lD18RA := Nat.lt_of_lt_of_le (lt_of_heap hRA) o1.new
  have lD18RO := Nat.lt_of_lt_of_le (lt_of_heap hRO) o1.new
  have lD18RR := Nat.lt_of_lt_of_le (lt_of_heap hRR) o1.new
  have lD18D7 := Nat.lt_of_lt_of_le (lt_of_heap hD7) o1.new
  have lD18D8 := Nat.lt_of_lt_of_le (lt_of_heap hD8) o1.new
  have lD18D9 := Nat.lt_of_lt_of_le (lt_of_heap hD9) o1.new
  have lD18D10 := Nat.lt_of_lt_of_le (lt_of_heap hD10) o1.new
  have lD18D11 := Nat.lt_of_lt_of_le (lt_of_heap hD11) o1.new
  have lD18D12 := Nat.lt_of_lt_of_le (lt_of_heap hD12) o1.new
  have lD18D13 := Nat.lt_of_lt_of_le (lt_of_heap hD13) o1.new
  have lD18D14 := Nat.lt_of_lt_of_le (lt_of_heap hD14) o1.new
  have lD18D15 := Nat.lt_of_lt_of_le (lt_of_heap hD15) o1.new
  have lD18D16 := Nat.lt_of_lt_of_le (lt_of_heap hD16) o1.new
  have lD18D17 := Nat.lt_of_lt_of_le (lt_of_heap hD17) o1.new
  have lD18 := Nat.le_trans kk.size o1.new
  replace hRA := below_get hb hRA
  replace hRO := below_get hb hRO
  replace hRR := below_get hb hRR
  replace hD7 := below_get hb hD7
  replace hD8 := below_get hb hD8
  replace hD9 := below_get hb hD9
  replace hD10 := below_get hb hD10
  replace hD11 := below_get hb hD11
  replace hD12 := below_get hb hD12
  replace hD13 := below_get hb hD13
  replace hD14 := below_get hb hD14
  replace hD15 := below_get hb hD15
  replace hD16 := below_get hb hD16
  replace hD17 := below_get hb hD17
  have hD18 := o1.here
  replace kk := bcl kk hb
  replace fF := HF.out.keep kk
  clear hb o1
  obtain ⟨cD180, cD181, cD182, cD183⟩ := row4c hD18
  obtain ⟨zD180, zD181, zD182, zD183⟩ := row4z hD18
  refine callT (i := 14) _ rfl (by rfl) (by kernel_rfl) (fun K hK => ?_)
  go_simp
  have P := put4 (.int .u64 (w0 (subf m (subf m (mulm m k k) hhh) (addf m ww ww)) : Nat)) (.int .u64 (w1 (subf m (subf m (mulm m k k) hhh) (addf m ww ww)) : Nat)) (.int .u64 (w2 (subf m (subf m (mulm m k k) hhh) (addf m ww ww)) : Nat)) (.int .u64 (w3 (subf m (subf m (mulm m k k) hhh) (addf m ww ww)) : Nat)) hD18
  replace P := put_hid P
  obtain ⟨C5, hW, P⟩ := P
  rw [hW]
  replace hD18 := P.here
  replace hRA := (P.there (w.heap.size) (by omega)).trans (show _ = some (.cells #[.int .u64 (w0 (x1) : Nat), .int .u64 (w1 (x1) : Nat), .int .u64 (w2 (x1) : Nat), .int .u64 (w3 (x1) : Nat), .int .u64 (w0 (y1) : Nat), .int .u64 (w1 (y1) : Nat), .int .u64 (w2 (y1) : Nat), .int .u64 (w3 (y1) : Nat), .int .u64 (w0 (z1) : Nat), .int .u64 (w1 (z1) : Nat), .int .u64 (w2 (z1) : Nat), .int .u64 (w3 (z1) : Nat)] 103 (0, 0)) from hRA)
  replace hRO := (P.there (w.heap.size + 1) (by omega)).trans (show _ = some (.cells #[.int .u64 (w0 (x2) : Nat), .int .u64 (w1 (x2) : Nat), .int .u64 (w2 (x2) : Nat), .int .u64 (w3 (x2) : Nat), .int .u64 (w0 (y2) : Nat), .int .u64 (w1 (y2) : Nat), .int .u64 (w2 (y2) : Nat), .int .u64 (w3 (y2) : Nat), .int .u64 (w0 (z2) : Nat), .int .u64 (w1 (z2) : Nat), .int .u64 (w2 (z2) : Nat), .int .u64 (w3 (z2) : Nat)] 103 (0, 0)) from hRO)
  replace hRR := (P.there (w.heap.size + 2) (by omega)).trans (show _ = some (.cells #[.int .u64 0, .int .u64 0, .int .u64 0, .int .u64 0, .int .u64 0, .int .u64 0, .int .u64 0, .int .u64 0, .int .u64 0, .int .u64 0, .int .u64 0, .int .u64 0] 103 (0, 0)) from hRR)
  replace hD7 := (P.there (bd7) (by omega)).trans (show _ = some (.cells #[.int .u64 (w0 (rz) : Nat), .int .u64 (w1 (rz) : Nat), .int .u64 (w2 (rz) : Nat), .int .u64 (w3 (rz) : Nat)] 24 (0, 0)) from hD7)
  replace hD8 := (P.there (bd8) (by omega)).trans (show _ = some (.cells #[.int .u64 (w0 (oz) : Nat), .int .u64 (w1 (oz) : Nat), .int .u64 (w2 (oz) : Nat), .int .u64 (w3 (oz) : Nat)] 24 (0, 0)) from hD8)
  replace hD9 := (P.there (bd9) (by omega)).trans (show _ = some (.cells #[.int .u64 (w0 (u) : Nat), .int .u64 (w1 (u) : Nat), .int .u64 (w2 (u) : Nat), .int .u64 (w3 (u) : Nat)] 24 (0, 0)) from hD9)
  replace hD10 := (P.there (bd10) (by omega)).trans (show _ = some (.cells #[.int .u64 (w0 (v) : Nat), .int .u64 (w1 (v) : Nat), .int .u64 (w2 (v) : Nat), .int .u64 (w3 (v) : Nat)] 24 (0, 0)) from hD10)
  replace hD11 := (P.there (bd11) (by omega)).trans (show _ = some (.cells #[.int .u64 (w0 (s) : Nat), .int .u64 (w1 (s) : Nat), .int .u64 (w2 (s) : Nat), .int .u64 (w3 (s) : Nat)] 24 (0, 0)) from hD11)
  replace hD12 := (P.there (bd12) (by omega)).trans (show _ = some (.cells #[.int .u64 (w0 (t) : Nat), .int .u64 (w1 (t) : Nat), .int .u64 (w2 (t) : Nat), .int .u64 (w3 (t) : Nat)] 24 (0, 0)) from hD12)
  replace hD13 := (P.there (bd13) (by omega)).trans (show _ = some (.cells #[.int .u64 (w0 (h) : Nat), .int .u64 (w1 (h) : Nat), .int .u64 (w2 (h) : Nat), .int .u64 (w3 (h) : Nat)] 24 (0, 0)) from hD13)
  replace hD14 := (P.there (bd14) (by omega)).trans (show _ = some (.cells #[.int .u64 (w0 (k) : Nat), .int .u64 (w1 (k) : Nat), .int .u64 (w2 (k) : Nat), .int .u64 (w3 (k) : Nat)] 24 (0, 0)) from hD14)
  replace hD15 := (P.there (d15) (by omega)).trans (show _ = some (.cells #[.int .u64 (w0 (hh) : Nat), .int .u64 (w1 (hh) : Nat), .int .u64 (w2 (hh) : Nat), .int .u64 (w3 (hh) : Nat)] 24 (0, 0)) from hD15)
  replace hD16 := (P.there (d16) (by omega)).trans (show _ = some (.cells #[.int .u64 (w0 (hhh) : Nat), .int .u64 (w1 (hhh) : Nat), .int .u64 (w2 (hhh) : Nat), .int .u64 (w3 (hhh) : Nat)] 24 (0, 0)) from hD16)
  replace hD17 := (P.there (d17) (by omega)).trans (show _ = some (.cells #[.int .u64 (w0 (ww) : Nat), .int .u64 (w1 (ww) : Nat), .int .u64 (w2 (ww) : Nat), .int .u64 (w3 (ww) : Nat)] 24 (0, 0)) from hD17)
  replace kk := P.below (by omega) (show Below w.heap.size w C5a from by first | exact kk | exact kk.drew | exact below_drewN kk _)
  replace fF := HF.out.keep kk
  clear cD180 zD180 cD181 zD181 cD182 zD182 cD183 zD183
  clear P hW
  refine hK.out _ _ (Or.inl (by kernel_rfl)) ?_
  clear hK K
  try simp only [ptr, Act.put, List.setIfInBounds_toArray, List.set_cons_zero, List.set_cons_succ]
  refine doneT (by kernel_rfl) ?_ _
  clear hHeld hSJ hS0 S0
  go_simp
  obtain ⟨xx, eqxx⟩ : ∃ n, subf m (subf m (mulm m k k) hhh) (addf m ww ww) = n := ⟨_, rfl⟩
  rw [eqxx] at hD18
  have Hxx := Lib.hid eqxx
  have Gxx := Lib.hid (show xx < 2 ^ 256 by rw [← eqxx]; exact Nat.lt_trans (Nat.mod_lt _ hpos) HM.out)
  clear eqxx
  go_upto_region 17 with fail
  obtain ⟨S0, hS0⟩ : ∃ S : World → Prop, S = (fun w' => w'.heap[bd14]? = some (.cells #[.int .u64 (w0 (k) : Nat), .int .u64 (w1 (k) : Nat), .int .u64 (w2 (k) : Nat), .int .u64 (w3 (k) : Nat)] 24 (0, 0)) ∧ w'.heap[d17]? = some (.cells #[.int .u64 (w0 (ww) : Nat), .int .u64 (w1 (ww) : Nat), .int .u64 (w2 (ww) : Nat), .int .u64 (w3 (ww) : Nat)] 24 (0, 0)) ∧ w'.heap[bd18]? = some (.cells #[.int .u64 (w0 (xx) : Nat), .int .u64 (w1 (xx) : Nat), .int .u64 (w2 (xx) : Nat), .int .u64 (w3 (xx) : Nat)] 24 (0, 0)) ∧ w'.heap[bd11]? = some (.cells #[.int .u64 (w0 (s) : Nat), .int .u64 (w1 (s) : Nat), .int .u64 (w2 (s) : Nat), .int .u64 (w3 (s) : Nat)] 24 (0, 0)) ∧ w'.heap[d16]? = some (.cells #[.int .u64 (w0 (hhh) : Nat), .int .u64 (w1 (hhh) : Nat), .int .u64 (w2 (hhh) : Nat), .int .u64 (w3 (hhh) : Nat)] 24 (0, 0))) := ⟨_, rfl⟩
  have hSJ : ∀ w', Below C5.heap.size C5 w' → S0 w' := by intro w' hb; rw [hS0]; exact ⟨below_get hb hD14, below_get hb hD17, below_get hb hD18, below_get hb hD11, below_get hb hD16⟩
  refine startT (S := S0) 14 (by kernel_rfl) (by rw [hS0]; exact ⟨hD14, hD17, hD18, hD11, hD16⟩) (fun hHeld => ?_)
  refine takeT (i := 0) (d := some 116) (v := ?_) _ rfl rfl (by rfl) (by kernel_rfl) (by decide) (by kernel_rfl) (by kernel_rfl) (by kernel_rfl) (fun _ _ _ h => h) (by assumption) (by kernel_rfl) ?_ ?_
  rotate_left
  · (first | (intro w' hSw; clear hSw; go_simp; try (with_reducible rfl)) | (intro w'; go_simp; try (with_reducible rfl)))
  try simp only [ptr, Act.put, List.setIfInBounds_toArray, List.set_cons_zero, List.set_cons_succ]
  refine takeT (i := 1) (d := some 117) (v := ?_) _ rfl rfl (by rfl) (by kernel_rfl) (by decide) (by kernel_rfl) (by kernel_rfl) (by kernel_rfl) (fun _ _ _ h => h) (by assumption) (by kernel_rfl) ?_ ?_
  rotate_left
  · (first | (intro w' hSw; clear hSw; go_simp; try (with_reducible rfl)) | (intro w'; go_simp; try (with_reducible rfl)))
  try simp only [ptr, Act.put, List.setIfInBounds_toArray, List.set_cons_zero, List.set_cons_succ]
  refine takeT (i := 2) (d := some 118) (v := ?_) _ rfl rfl (by rfl) (by kernel_rfl) (by decide) (by kernel_rfl) (by kernel_rfl) (by kernel_rfl) (fun _ _ _ h => h) (by assumption) (by kernel_rfl) ?_ ?_
  rotate_left
  · (intro w' hSw; (rw [hS0] at hSw); (have hSw' := hSw); (first | (obtain ⟨svD14, svD17, svD18, svD11, svD16⟩ := hSw'; obtain ⟨cvD140, cvD141, cvD142, cvD143⟩ := row4c svD14; obtain ⟨cvD170, cvD171, cvD172, cvD173⟩ := row4c svD17; obtain ⟨cvD180, cvD181, cvD182, cvD183⟩ := row4c svD18; obtain ⟨cvD110, cvD111, cvD112, cvD113⟩ := row4c svD11; obtain ⟨cvD160, cvD161, cvD162, cvD163⟩ := row4c svD16; go_simp)); try (with_reducible rfl))
  try simp only [ptr, Act.put, List.setIfInBounds_toArray, List.set_cons_zero, List.set_cons_succ]
  refine takeT (i := 3) (d := some 119) (v := ?_) _ rfl rfl (by rfl) (by kernel_rfl) (by decide) (by kernel_rfl) (by kernel_rfl) (by kernel_rfl) (fun _ _ _ h => h) (by assumption) (by kernel_rfl) ?_ ?_
  rotate_left
  · (first | (intro w' hSw; clear hSw; go_simp; try (with_reducible rfl)) | (intro w'; go_simp; try (with_reducible rfl)))
  try simp only [ptr, Act.put, List.setIfInBounds_toArray, List.set_cons_zero, List.set_cons_succ]
  refine takeT (i := 4) (d := some 120) (v := ?_) _ rfl rfl (by rfl) (by kernel_rfl) (by decide) (by kernel_rfl) (by kernel_rfl) (by kernel_rfl) (fun _ _ _ h => h) (by assumption) (by kernel_rfl) ?_ ?_
  rotate_left
  · (intro w' hSw; (rw [hS0] at hSw); (have hSw' := hSw); (first | (obtain ⟨svD14, svD17, svD18, svD11, svD16⟩ := hSw'; obtain ⟨cvD140, cvD141, cvD142, cvD143⟩ := row4c svD14; obtain ⟨cvD170, cvD171, cvD172, cvD173⟩ := row4c svD17; obtain ⟨cvD180, cvD181, cvD182, cvD183⟩ := row4c svD18; obtain ⟨cvD110, cvD111, cvD112, cvD113⟩ := row4c svD11; obtain ⟨cvD160, cvD161, cvD162, cvD163⟩ := row4c svD16; go_simp)); try (with_reducible rfl))
  try simp only [ptr, Act.put, List.setIfInBounds_toArray, List.set_cons_zero, List.set_cons_succ]
  refine takeT (i := 5) (d := some 121) (v := ?_) _ rfl rfl (by rfl) (by kernel_rfl) (by decide) (by kernel_rfl) (by kernel_rfl) (by kernel_rfl) (fun _ _ _ h => h) (by assumption) (by kernel_rfl) ?_ ?_
  rotate_left
  · (intro w' hSw; (rw [hS0] at hSw); (have hSw' := hSw); (first | (obtain ⟨svD14, svD17, svD18, svD11, svD16⟩ := hSw'; obtain ⟨cvD140, cvD141, cvD142, cvD143⟩ := row4c svD14; obtain ⟨cvD170, cvD171, cvD172, cvD173⟩ := row4c svD17; obtain ⟨cvD180, cvD181, cvD182, cvD183⟩ := row4c svD18; obtain ⟨cvD110, cvD111, cvD112, cvD113⟩ := row4c svD11; obtain ⟨cvD160, cvD161, cvD162, cvD163⟩ := row4c svD16; go_simp)); try (with_reducible rfl))
  try simp only [ptr, Act.put, List.setIfInBounds_toArray, List.set_cons_zero, List.set_cons_succ]
  refine takeT (i := 8) (d := some 124) (v := ?_) _ rfl rfl (by rfl) (by kernel_rfl) (by decide) (by kernel_rfl) (by kernel_rfl) (by kernel_rfl) (fun _ _ _ h => h) (by assumption) (by kernel_rfl) ?_ ?_
  rotate_left
  · (first | (intro w' hSw; clear hSw; go_simp; try (with_reducible rfl)) | (intro w'; go_simp; try (with_reducible rfl)))
  try simp only [ptr, Act.put, List.setIfInBounds_toArray, List.set_cons_zero, List.set_cons_succ]
  refine takeT (i := 9) (d := some 125) (v := ?_) _ rfl rfl (by rfl) (by kernel_rfl) (by decide) (by kernel_rfl) (by kernel_rfl) (by kernel_rfl) (fun _ _ _ h => h) (by assumption) (by kernel_rfl) ?_ ?_
  rotate_left
  · (intro w' hSw; (rw [hS0] at hSw); (have hSw' := hSw); (first | (obtain ⟨svD14, svD17, svD18, svD11, svD16⟩ := hSw'; obtain ⟨cvD140, cvD141, cvD142, cvD143⟩ := row4c svD14; obtain ⟨cvD170, cvD171, cvD172, cvD173⟩ := row4c svD17; obtain ⟨cvD180, cvD181, cvD182, cvD183⟩ := row4c svD18; obtain ⟨cvD110, cvD111, cvD112, cvD113⟩ := row4c svD11; obtain ⟨cvD160, cvD161, cvD162, cvD163⟩ := row4c svD16; go_simp)); try (with_reducible rfl))
  try simp only [ptr, Act.put, List.setIfInBounds_toArray, List.set_cons_zero, List.set_cons_succ]
  refine takeT (i := 10) (d := some 126) (v := ?_) _ rfl rfl (by rfl) (by kernel_rfl) (by decide) (by kernel_rfl) (by kernel_rfl) (by kernel_rfl) (fun _ _ _ h => h) (by assumption) (by kernel_rfl) ?_ ?_
  rotate_left
  · (intro w' hSw; (rw [hS0] at hSw); (have hSw' := hSw); (first | (obtain ⟨svD14, svD17, svD18, svD11, svD16⟩ := hSw'; obtain ⟨cvD140, cvD141, cvD142, cvD143⟩ := row4c svD14; obtain ⟨cvD170, cvD171, cvD172, cvD173⟩ := row4c svD17; obtain ⟨cvD180, cvD181, cvD182, cvD183⟩ := row4c svD18; obtain ⟨cvD110, cvD111, cvD112, cvD113⟩ := row4c svD11; obtain ⟨cvD160, cvD161, cvD162, cvD163⟩ := row4c svD16; go_simp)); try (with_reducible rfl))
  try simp only [ptr, Act.put, List.setIfInBounds_toArray, List.set_cons_zero, List.set_cons_succ]
  refine NK1.start (w0 := C5) (x1 := undef) 13 19 (.cells #[.int .u64 0, .int .u64 0, .int .u64 0, .int .u64 0] 24 (0, 0)) (Below.refl _ _).drew (by (simp only [Act.put, List.setIfInBounds_toArray, List.set_cons_zero, List.set_cons_succ])) ⟨⟨_, rfl, fun _ => rfl, fun a1 w1 K hK => by go_simp; exact hK⟩⟩ (fun m1 => ?_)
  refine NK1.step (i := 6) (d := 122) (F := fun vv => vv = .agg #[.int .u64 (w0 (subf m ww xx) : Nat), .int .u64 (w1 (subf m ww xx) : Nat), .int .u64 (w2 (subf m ww xx) : Nat), .int .u64 (w3 (subf m ww xx) : Nat)]) m1  hSJ (by decide) (by decide) (by kernel_rfl) (by kernel_rfl) ⟨⟨_, rfl, fun _ => rfl, fun yv1 w1 hJ1 K hK => ?_⟩⟩ ?_
  · try simp only [ptr, Act.put, List.setIfInBounds_toArray, List.set_cons_zero, List.set_cons_succ]
    go_simp
    have fF := fF.keep hJ1
    refine (subG_any (by first | exact W4.mk' Gx1.out | exact W4.mk' Gy1.out | exact W4.mk' Gz1.out | exact W4.mk' Gx2.out | exact W4.mk' Gy2.out | exact W4.mk' Gz2.out | exact W4.mk' HM.out | exact W4.mk' Grz.out | exact W4.mk' Goz.out | exact W4.mk' Gu.out | exact W4.mk' Gv.out | exact W4.mk' Gs.out | exact W4.mk' Gt.out | exact W4.mk' Gh.out | exact W4.mk' Gk.out | exact W4.mk' Ghh.out | exact W4.mk' Ghhh.out | exact W4.mk' Gww.out | exact W4.mk' Gxx.out | exact W4.mk' Gyy.out | exact W4.mk' (Nat.lt_trans (Nat.mod_lt _ hpos) HM.out) | exact W4.zero | exact W4.small (n := 1) rfl (by decide) | exact W4.small (n := 2) rfl (by decide) | exact W4.small (n := 3) rfl (by decide) | exact W4.small (n := 4) rfl (by decide) | exact W4.small (n := 5) rfl (by decide) | exact W4.small (n := 7) rfl (by decide)) (by first | exact W4.mk' Gx1.out | exact W4.mk' Gy1.out | exact W4.mk' Gz1.out | exact W4.mk' Gx2.out | exact W4.mk' Gy2.out | exact W4.mk' Gz2.out | exact W4.mk' HM.out | exact W4.mk' Grz.out | exact W4.mk' Goz.out | exact W4.mk' Gu.out | exact W4.mk' Gv.out | exact W4.mk' Gs.out | exact W4.mk' Gt.out | exact W4.mk' Gh.out | exact W4.mk' Gk.out | exact W4.mk' Ghh.out | exact W4.mk' Ghhh.out | exact W4.mk' Gww.out | exact W4.mk' Gxx.out | exact W4.mk' Gyy.out | exact W4.mk' (Nat.lt_trans (Nat.mod_lt _ hpos) HM.out) | exact W4.zero | exact W4.small (n := 1) rfl (by decide) | exact W4.small (n := 2) rfl (by decide) | exact W4.small (n := 3) rfl (by decide) | exact W4.small (n := 4) rfl (by decide) | exact W4.small (n := 5) rfl (by decide) | exact W4.small (n := 7) rfl (by decide)) _ (show IsF _ (g) (m) from (by first | exact fF | exact ⟨fF.blk, fF.odd, fF.three, fF.lt⟩ | exact ⟨ak fF.blk, fF.odd, fF.three, fF.lt⟩ | exact ⟨ak (ak fF.blk), fF.odd, fF.three, fF.lt⟩))).mono ?_
    rintro e U ⟨rfl, hb⟩
    have h2 := hK.out _ _ rfl hb
    try simp only [ptr, Act.put, List.setIfInBounds_toArray, List.set_cons_zero, List.set_cons_succ] at h2
    exact h2
  rintro vv rfl
  refine NK1.step (i := 7) (d := 123) (F := fun vv => vv = .agg #[.int .u64 (w0 (mulm m k (subf m ww xx)) : Nat), .int .u64 (w1 (mulm m k (subf m ww xx)) : Nat), .int .u64 (w2 (mulm m k (subf m ww xx)) : Nat), .int .u64 (w3 (mulm m k (subf m ww xx)) : Nat)]) m1  hSJ (by decide) (by decide) (by kernel_rfl) (by kernel_rfl) ⟨⟨_, rfl, fun _ => rfl, fun yv1 w1 hJ1 K hK => ?_⟩⟩ ?_
  · try simp only [ptr, Act.put, List.setIfInBounds_toArray, List.set_cons_zero, List.set_cons_succ]
    go_simp
    have fF := fF.keep hJ1
    refine (mulG_any (by first | exact W4.mk' Gx1.out | exact W4.mk' Gy1.out | exact W4.mk' Gz1.out | exact W4.mk' Gx2.out | exact W4.mk' Gy2.out | exact W4.mk' Gz2.out | exact W4.mk' HM.out | exact W4.mk' Grz.out | exact W4.mk' Goz.out | exact W4.mk' Gu.out | exact W4.mk' Gv.out | exact W4.mk' Gs.out | exact W4.mk' Gt.out | exact W4.mk' Gh.out | exact W4.mk' Gk.out | exact W4.mk' Ghh.out | exact W4.mk' Ghhh.out | exact W4.mk' Gww.out | exact W4.mk' Gxx.out | exact W4.mk' Gyy.out | exact W4.mk' (Nat.lt_trans (Nat.mod_lt _ hpos) HM.out) | exact W4.zero | exact W4.small (n := 1) rfl (by decide) | exact W4.small (n := 2) rfl (by decide) | exact W4.small (n := 3) rfl (by decide) | exact W4.small (n := 4) rfl (by decide) | exact W4.small (n := 5) rfl (by decide) | exact W4.small (n := 7) rfl (by decide)) (by first | exact W4.mk' Gx1.out | exact W4.mk' Gy1.out | exact W4.mk' Gz1.out | exact W4.mk' Gx2.out | exact W4.mk' Gy2.out | exact W4.mk' Gz2.out | exact W4.mk' HM.out | exact W4.mk' Grz.out | exact W4.mk' Goz.out | exact W4.mk' Gu.out | exact W4.mk' Gv.out | exact W4.mk' Gs.out | exact W4.mk' Gt.out | exact W4.mk' Gh.out | exact W4.mk' Gk.out | exact W4.mk' Ghh.out | exact W4.mk' Ghhh.out | exact W4.mk' Gww.out | exact W4.mk' Gxx.out | exact W4.mk' Gyy.out | exact W4.mk' (Nat.lt_trans (Nat.mod_lt _ hpos) HM.out) | exact W4.zero | exact W4.small (n := 1) rfl (by decide) | exact W4.small (n := 2) rfl (by decide) | exact W4.small (n := 3) rfl (by decide) | exact W4.small (n := 4) rfl (by decide) | exact W4.small (n := 5) rfl (by decide) | exact W4.small (n := 7) rfl (by decide)) _ (show IsF _ (g) (m) from (by first | exact fF | exact ⟨fF.blk, fF.odd, fF.three, fF.lt⟩ | exact ⟨ak fF.blk, fF.odd, fF.three, fF.lt⟩ | exact ⟨ak (ak fF.blk), fF.odd, fF.three, fF.lt⟩))).mono ?_
    rintro e U ⟨rfl, hb⟩
    have h2 := hK.out _ _ rfl hb
    try simp only [ptr, Act.put, List.setIfInBounds_toArray, List.set_cons_zero, List.set_cons_succ] at h2
    exact h2
  rintro vv rfl
  refine NK1.step (i := 11) (d := 127) (F := fun vv => vv = .agg #[.int .u64 (w0 (mulm m s hhh) : Nat), .int .u64 (w1 (mulm m s hhh) : Nat), .int .u64 (w2 (mulm m s hhh) : Nat), .int .u64 (w3 (mulm m s hhh) : Nat)]) m1  hSJ (by decide) (by decide) (by kernel_rfl) (by kernel_rfl) ⟨⟨_, rfl, fun _ => rfl, fun yv1 w1 hJ1 K hK => ?_⟩⟩ ?_
  · try simp only [ptr, Act.put, List.setIfInBounds_toArray, List.set_cons_zero, List.set_cons_succ]
    go_simp
    have fF := fF.keep hJ1
    refine (mulG_any (by first | exact W4.mk' Gx1.out | exact W4.mk' Gy1.out | exact W4.mk' Gz1.out | exact W4.mk' Gx2.out | exact W4.mk' Gy2.out | exact W4.mk' Gz2.out | exact W4.mk' HM.out | exact W4.mk' Grz.out | exact W4.mk' Goz.out | exact W4.mk' Gu.out | exact W4.mk' Gv.out | exact W4.mk' Gs.out | exact W4.mk' Gt.out | exact W4.mk' Gh.out | exact W4.mk' Gk.out | exact W4.mk' Ghh.out | exact W4.mk' Ghhh.out | exact W4.mk' Gww.out | exact W4.mk' Gxx.out | exact W4.mk' Gyy.out | exact W4.mk' (Nat.lt_trans (Nat.mod_lt _ hpos) HM.out) | exact W4.zero | exact W4.small (n := 1) rfl (by decide) | exact W4.small (n := 2) rfl (by decide) | exact W4.small (n := 3) rfl (by decide) | exact W4.small (n := 4) rfl (by decide) | exact W4.small (n := 5) rfl (by decide) | exact W4.small (n := 7) rfl (by decide)) (by first | exact W4.mk' Gx1.out | exact W4.mk' Gy1.out | exact W4.mk' Gz1.out | exact W4.mk' Gx2.out | exact W4.mk' Gy2.out | exact W4.mk' Gz2.out | exact W4.mk' HM.out | exact W4.mk' Grz.out | exact W4.mk' Goz.out | exact W4.mk' Gu.out | exact W4.mk' Gv.out | exact W4.mk' Gs.out | exact W4.mk' Gt.out | exact W4.mk' Gh.out | exact W4.mk' Gk.out | exact W4.mk' Ghh.out | exact W4.mk' Ghhh.out | exact W4.mk' Gww.out | exact W4.mk' Gxx.out | exact W4.mk' Gyy.out | exact W4.mk' (Nat.lt_trans (Nat.mod_lt _ hpos) HM.out) | exact W4.zero | exact W4.small (n := 1) rfl (by decide) | exact W4.small (n := 2) rfl (by decide) | exact W4.small (n := 3) rfl (by decide) | exact W4.small (n := 4) rfl (by decide) | exact W4.small (n := 5) rfl (by decide) | exact W4.small (n := 7) rfl (by decide)) _ (show IsF _ (g) (m) from (by first | exact fF | exact ⟨fF.blk, fF.odd, fF.three, fF.lt⟩ | exact ⟨ak fF.blk, fF.odd, fF.three, fF.lt⟩ | exact ⟨ak (ak fF.blk), fF.odd, fF.three, fF.lt⟩))).mono ?_
    rintro e U ⟨rfl, hb⟩
    have h2 := hK.out _ _ rfl hb
    try simp only [ptr, Act.put, List.setIfInBounds_toArray, List.set_cons_zero, List.set_cons_succ] at h2
    exact h2
  rintro vv rfl
  refine NK1.step (i := 12) (d := 128) (F := fun vv => vv = .agg #[.int .u64 (w0 (subf m (mulm m k (subf m ww xx)) (mulm m s hhh)) : Nat), .int .u64 (w1 (subf m (mulm m k (subf m ww xx)) (mulm m s hhh)) : Nat), .int .u64 (w2 (subf m (mulm m k (subf m ww xx)) (mulm m s hhh)) : Nat), .int .u64 (w3 (subf m (mulm m k (subf m ww xx)) (mulm m s hhh)) : Nat)]) m1  hSJ (by decide) (by decide) (by kernel_rfl) (by kernel_rfl) ⟨⟨_, rfl, fun _ => rfl, fun yv1 w1 hJ1 K hK => ?_⟩⟩ ?_
  · try simp only [ptr, Act.put, List.setIfInBounds_toArray, List.set_cons_zero, List.set_cons_succ]
    go_simp
    have fF := fF.keep hJ1
    refine (subG_any (by first | exact W4.mk' Gx1.out | exact W4.mk' Gy1.out | exact W4.mk' Gz1.out | exact W4.mk' Gx2.out | exact W4.mk' Gy2.out | exact W4.mk' Gz2.out | exact W4.mk' HM.out | exact W4.mk' Grz.out | exact W4.mk' Goz.out | exact W4.mk' Gu.out | exact W4.mk' Gv.out | exact W4.mk' Gs.out | exact W4.mk' Gt.out | exact W4.mk' Gh.out | exact W4.mk' Gk.out | exact W4.mk' Ghh.out | exact W4.mk' Ghhh.out | exact W4.mk' Gww.out | exact W4.mk' Gxx.out | exact W4.mk' Gyy.out | exact W4.mk' (Nat.lt_trans (Nat.mod_lt _ hpos) HM.out) | exact W4.zero | exact W4.small (n := 1) rfl (by decide) | exact W4.small (n := 2) rfl (by decide) | exact W4.small (n := 3) rfl (by decide) | exact W4.small (n := 4) rfl (by decide) | exact W4.small (n := 5) rfl (by decide) | exact W4.small (n := 7) rfl (by decide)) (by first | exact W4.mk' Gx1.out | exact W4.mk' Gy1.out | exact W4.mk' Gz1.out | exact W4.mk' Gx2.out | exact W4.mk' Gy2.out | exact W4.mk' Gz2.out | exact W4.mk' HM.out | exact W4.mk' Grz.out | exact W4.mk' Goz.out | exact W4.mk' Gu.out | exact W4.mk' Gv.out | exact W4.mk' Gs.out | exact W4.mk' Gt.out | exact W4.mk' Gh.out | exact W4.mk' Gk.out | exact W4.mk' Ghh.out | exact W4.mk' Ghhh.out | exact W4.mk' Gww.out | exact W4.mk' Gxx.out | exact W4.mk' Gyy.out | exact W4.mk' (Nat.lt_trans (Nat.mod_lt _ hpos) HM.out) | exact W4.zero | exact W4.small (n := 1) rfl (by decide) | exact W4.small (n := 2) rfl (by decide) | exact W4.small (n := 3) rfl (by decide) | exact W4.small (n := 4) rfl (by decide) | exact W4.small (n := 5) rfl (by decide) | exact W4.small (n := 7) rfl (by decide)) _ (show IsF _ (g) (m) from (by first | exact fF | exact ⟨fF.blk, fF.odd, fF.three, fF.lt⟩ | exact ⟨ak fF.blk, fF.odd, fF.three, fF.lt⟩ | exact ⟨ak (ak fF.blk), fF.odd, fF.three, fF.lt⟩))).mono ?_
    rintro e U ⟨rfl, hb⟩
    have h2 := hK.out _ _ rfl hb
    try simp only [ptr, Act.put, List.setIfInBounds_toArray, List.set_cons_zero, List.set_cons_succ] at h2
    exact h2
  rintro vv rfl
  refine NK1.last m1  hSJ (by kernel_rfl) (fun C6a bd19 hb o1  => ?_)
  clear m1
  try simp only [ptr, Act.put, List.setIfInBounds_toArray, List.set_cons_zero, List.set_cons_succ]
  have lD19RA := Nat.lt_of_lt_of_le (lt_of_heap hRA) o1.new
  have lD19RO := Nat.lt_of_lt_of_le (lt_of_heap hRO) o1.new
  have lD19RR := Nat.lt_of_lt_of_le (lt_of_heap hRR) o1.new
  have lD19D7 := Nat.lt_of_lt_of_le (lt_of_heap hD7) o1.new
  have lD19D8 := Nat.lt_of_lt_of_le (lt_of_heap hD8) o1.new
  have lD19D9 := Nat.lt_of_lt_of_le (lt_of_heap hD9) o1.new
  have lD19D10 := Nat.lt_of_lt_of_le (lt_of_heap hD10) o1.new
  have lD19D11 := Nat.lt_of_lt_of_le (lt_of_heap hD11) o1.new
  have lD19D12 := Nat.lt_of_lt_of_le (lt_of_heap hD12) o1.new
  have lD19D13 := Nat.lt_of_lt_of_le (lt_of_heap hD13) o1.new
  have lD19D14 := Nat.lt_of_lt_of_le (lt_of_heap hD14) o1.new
  have lD19D15 := Nat.lt_of_lt_of_le (lt_of_heap hD15) o1.new
  have lD19D16 := Nat.lt_of_lt_of_le (lt_of_heap hD16) o1.new
  have lD19D17 := Nat.lt_of_lt_of_le (lt_of_heap hD17) o1.new
  have lD19D18 := Nat.lt_of_lt_of_le (lt_of_heap hD18) o1.new
  have lD19 := Nat.le_trans kk.size o1.new
  replace hRA := below_get hb hRA
  replace hRO := below_get hb hRO
  replace hRR := below_get hb hRR
  replace hD7 := below_get hb hD7
  replace hD8 := below_get hb hD8
  replace hD9 := below_get hb hD9
  replace hD10 := below_get hb hD10
  replace hD11 := below_get hb hD11
  replace hD12 := below_get hb hD12
  replace hD13 := below_get hb hD13
  replace hD14 := below_get hb hD14
  replace hD15 := below_get hb hD15
  replace hD16 := below_get hb hD16
  replace hD17 := below_get hb hD17
  replace hD18 := below_get hb hD18
  have hD19 := o1.here
  replace kk := bcl kk hb
  replace fF := HF.out.keep kk
  clear hb o1
  obtain ⟨cD190, cD191, cD192, cD193⟩ := row4c hD19
  obtain ⟨zD190, zD191, zD192, zD193⟩ := row4z hD19
  refine callT (i := 14) _ rfl (by rfl) (by kernel_rfl) (fun K hK => ?_)
  go_simp
  have P := put4 (.int .u64 (w0 (subf m (mulm m k (subf m ww xx)) (mulm m s hhh)) : Nat)) (.int .u64 (w1 (subf m (mulm m k (subf m ww xx)) (mulm m s hhh)) : Nat)) (.int .u64 (w2 (subf m (mulm m k (subf m ww xx)) (mulm m s hhh)) : Nat)) (.int .u64 (w3 (subf m (mulm m k (subf m ww xx)) (mulm m s hhh)) : Nat)) hD19
  replace P := put_hid P
  obtain ⟨C6, hW, P⟩ := P
  rw [hW]
  replace hD19 := P.here
  replace hRA := (P.there (w.heap.size) (by omega)).trans (show _ = some (.cells #[.int .u64 (w0 (x1) : Nat), .int .u64 (w1 (x1) : Nat), .int .u64 (w2 (x1) : Nat), .int .u64 (w3 (x1) : Nat), .int .u64 (w0 (y1) : Nat), .int .u64 (w1 (y1) : Nat), .int .u64 (w2 (y1) : Nat), .int .u64 (w3 (y1) : Nat), .int .u64 (w0 (z1) : Nat), .int .u64 (w1 (z1) : Nat), .int .u64 (w2 (z1) : Nat), .int .u64 (w3 (z1) : Nat)] 103 (0, 0)) from hRA)
  replace hRO := (P.there (w.heap.size + 1) (by omega)).trans (show _ = some (.cells #[.int .u64 (w0 (x2) : Nat), .int .u64 (w1 (x2) : Nat), .int .u64 (w2 (x2) : Nat), .int .u64 (w3 (x2) : Nat), .int .u64 (w0 (y2) : Nat), .int .u64 (w1 (y2) : Nat), .int .u64 (w2 (y2) : Nat), .int .u64 (w3 (y2) : Nat), .int .u64 (w0 (z2) : Nat), .int .u64 (w1 (z2) : Nat), .int .u64 (w2 (z2) : Nat), .int .u64 (w3 (z2) : Nat)] 103 (0, 0)) from hRO)
  replace hRR := (P.there (w.heap.size + 2) (by omega)).trans (show _ = some (.cells #[.int .u64 0, .int .u64 0, .int .u64 0, .int .u64 0, .int .u64 0, .int .u64 0, .int .u64 0, .int .u64 0, .int .u64 0, .int .u64 0, .int .u64 0, .int .u64 0] 103 (0, 0)) from hRR)
  replace hD7 := (P.there (bd7) (by omega)).trans (show _ = some (.cells #[.int .u64 (w0 (rz) : Nat), .int .u64 (w1 (rz) : Nat), .int .u64 (w2 (rz) : Nat), .int .u64 (w3 (rz) : Nat)] 24 (0, 0)) from hD7)
  replace hD8 := (P.there (bd8) (by omega)).trans (show _ = some (.cells #[.int .u64 (w0 (oz) : Nat), .int .u64 (w1 (oz) : Nat), .int .u64 (w2 (oz) : Nat), .int .u64 (w3 (oz) : Nat)] 24 (0, 0)) from hD8)
  replace hD9 := (P.there (bd9) (by omega)).trans (show _ = some (.cells #[.int .u64 (w0 (u) : Nat), .int .u64 (w1 (u) : Nat), .int .u64 (w2 (u) : Nat), .int .u64 (w3 (u) : Nat)] 24 (0, 0)) from hD9)
  replace hD10 := (P.there (bd10) (by omega)).trans (show _ = some (.cells #[.int .u64 (w0 (v) : Nat), .int .u64 (w1 (v) : Nat), .int .u64 (w2 (v) : Nat), .int .u64 (w3 (v) : Nat)] 24 (0, 0)) from hD10)
  replace hD11 := (P.there (bd11) (by omega)).trans (show _ = some (.cells #[.int .u64 (w0 (s) : Nat), .int .u64 (w1 (s) : Nat), .int .u64 (w2 (s) : Nat), .int .u64 (w3 (s) : Nat)] 24 (0, 0)) from hD11)
  replace hD12 := (P.there (bd12) (by omega)).trans (show _ = some (.cells #[.int .u64 (w0 (t) : Nat), .int .u64 (w1 (t) : Nat), .int .u64 (w2 (t) : Nat), .int .u64 (w3 (t) : Nat)] 24 (0, 0)) from hD12)
  replace hD13 := (P.there (bd13) (by omega)).trans (show _ = some (.cells #[.int .u64 (w0 (h) : Nat), .int .u64 (w1 (h) : Nat), .int .u64 (w2 (h) : Nat), .int .u64 (w3 (h) : Nat)] 24 (0, 0)) from hD13)
  replace hD14 := (P.there (bd14) (by omega)).trans (show _ = some (.cells #[.int .u64 (w0 (k) : Nat), .int .u64 (w1 (k) : Nat), .int .u64 (w2 (k) : Nat), .int .u64 (w3 (k) : Nat)] 24 (0, 0)) from hD14)
  replace hD15 := (P.there (d15) (by omega)).trans (show _ = some (.cells #[.int .u64 (w0 (hh) : Nat), .int .u64 (w1 (hh) : Nat), .int .u64 (w2 (hh) : Nat), .int .u64 (w3 (hh) : Nat)] 24 (0, 0)) from hD15)
  replace hD16 := (P.there (d16) (by omega)).trans (show _ = some (.cells #[.int .u64 (w0 (hhh) : Nat), .int .u64 (w1 (hhh) : Nat), .int .u64 (w2 (hhh) : Nat), .int .u64 (w3 (hhh) : Nat)] 24 (0, 0)) from hD16)
  replace hD17 := (P.there (d17) (by omega)).trans (show _ = some (.cells #[.int .u64 (w0 (ww) : Nat), .int .u64 (w1 (ww) : Nat), .int .u64 (w2 (ww) : Nat), .int .u64 (w3 (ww) : Nat)] 24 (0, 0)) from hD17)
  replace hD18 := (P.there (bd18) (by omega)).trans (show _ = some (.cells #[.int .u64 (w0 (xx) : Nat), .int .u64 (w1 (xx) : Nat), .int .u64 (w2 (xx) : Nat), .int .u64 (w3 (xx) : Nat)] 24 (0, 0)) from hD18)
  replace kk := P.below (by omega) (show Below w.heap.size w C6a from by first | exact kk | exact kk.drew | exact below_drewN kk _)
  replace fF := HF.out.keep kk
  clear cD190 zD190 cD191 zD191 cD192 zD192 cD193 zD193
  clear P hW
  refine hK.out _ _ (Or.inl (by kernel_rfl)) ?_
  clear hK K
  try simp only [ptr, Act.put, List.setIfInBounds_toArray, List.set_cons_zero, List.set_cons_succ]
  refine doneT (by kernel_rfl) ?_ _
  clear hHeld hSJ hS0 S0
  go_simp
  obtain ⟨yy, eqyy⟩ : ∃ n, subf m (mulm m k (subf m ww xx)) (mulm m s hhh) = n := ⟨_, rfl⟩
  rw [eqyy] at hD19
  have Hyy := Lib.hid eqyy
  have Gyy := Lib.hid (show yy < 2 ^ 256 by rw [← eqyy]; exact Nat.lt_trans (Nat.mod_lt _ hpos) HM.out)
  clear eqyy
  go_upto_region 18 with fail
  have hQ := fF.blk
  try clear cRA8 cRA9 cRA10 cRA11
  obtain ⟨-, -, -, -, -, -, -, -, cRA8, cRA9, cRA10, cRA11⟩ := row12c hRA
  try clear cRO8 cRO9 cRO10 cRO11
  obtain ⟨-, -, -, -, -, -, -, -, cRO8, cRO9, cRO10, cRO11⟩ := row12c hRO
  try clear cD130 cD131 cD132 cD133
  obtain ⟨cD130, cD131, cD132, cD133⟩ := row4c hD13
  try clear cD180 cD181 cD182 cD183
  obtain ⟨cD180, cD181, cD182, cD183⟩ := row4c hD18
  try clear cD190 cD191 cD192 cD193
  obtain ⟨cD190, cD191, cD192, cD193⟩ := row4c hD19
  have neRRRA : w.heap.size ≠ w.heap.size + 2 := by omega
  have nfRRRA := neRRRA.symm
  have neRRRO : w.heap.size + 1 ≠ w.heap.size + 2 := by omega
  have nfRRRO := neRRRO.symm
  have neRRD13 : bd13 ≠ w.heap.size + 2 := by omega
  have nfRRD13 := neRRD13.symm
  have neRRD18 : bd18 ≠ w.heap.size + 2 := by omega
  have nfRRD18 := neRRD18.symm
  have neRRD19 : bd19 ≠ w.heap.size + 2 := by omega
  have nfRRD19 := neRRD19.symm
  go_region_held3 (fun w' => w'.cell? ⟨w.heap.size, 8, none⟩ = some (.int .u64 (w0 (z1) : Nat)) ∧ w'.cell? ⟨w.heap.size, 9, none⟩ = some (.int .u64 (w1 (z1) : Nat)) ∧ w'.cell? ⟨w.heap.size, 10, none⟩ = some (.int .u64 (w2 (z1) : Nat)) ∧ w'.cell? ⟨w.heap.size, 11, none⟩ = some (.int .u64 (w3 (z1) : Nat)) ∧ w'.cell? ⟨w.heap.size + 1, 8, none⟩ = some (.int .u64 (w0 (z2) : Nat)) ∧ w'.cell? ⟨w.heap.size + 1, 9, none⟩ = some (.int .u64 (w1 (z2) : Nat)) ∧ w'.cell? ⟨w.heap.size + 1, 10, none⟩ = some (.int .u64 (w2 (z2) : Nat)) ∧ w'.cell? ⟨w.heap.size + 1, 11, none⟩ = some (.int .u64 (w3 (z2) : Nat)) ∧ w'.cell? ⟨bd13, 0, none⟩ = some (.int .u64 (w0 (h) : Nat)) ∧ w'.cell? ⟨bd13, 1, none⟩ = some (.int .u64 (w1 (h) : Nat)) ∧ w'.cell? ⟨bd13, 2, none⟩ = some (.int .u64 (w2 (h) : Nat)) ∧ w'.cell? ⟨bd13, 3, none⟩ = some (.int .u64 (w3 (h) : Nat)) ∧ w'.cell? ⟨bd18, 0, none⟩ = some (.int .u64 (w0 (xx) : Nat)) ∧ w'.cell? ⟨bd18, 1, none⟩ = some (.int .u64 (w1 (xx) : Nat)) ∧ w'.cell? ⟨bd18, 2, none⟩ = some (.int .u64 (w2 (xx) : Nat)) ∧ w'.cell? ⟨bd18, 3, none⟩ = some (.int .u64 (w3 (xx) : Nat)) ∧ w'.cell? ⟨bd19, 0, none⟩ = some (.int .u64 (w0 (yy) : Nat)) ∧ w'.cell? ⟨bd19, 1, none⟩ = some (.int .u64 (w1 (yy) : Nat)) ∧ w'.cell? ⟨bd19, 2, none⟩ = some (.int .u64 (w2 (yy) : Nat)) ∧ w'.cell? ⟨bd19, 3, none⟩ = some (.int .u64 (w3 (yy) : Nat))) (first | (with_reducible exact ⟨cRA8, cRA9, cRA10, cRA11, cRO8, cRO9, cRO10, cRO11, cD130, cD131, cD132, cD133, cD180, cD181, cD182, cD183, cD190, cD191, cD192, cD193⟩) | go_keep) (first | (go_at_call 26; refine (mulG_any (by first | exact W4.mk' Gx1.out | exact W4.mk' Gy1.out | exact W4.mk' Gz1.out | exact W4.mk' Gx2.out | exact W4.mk' Gy2.out | exact W4.mk' Gz2.out | exact W4.mk' HM.out | exact W4.mk' Grz.out | exact W4.mk' Goz.out | exact W4.mk' Gu.out | exact W4.mk' Gv.out | exact W4.mk' Gs.out | exact W4.mk' Gt.out | exact W4.mk' Gh.out | exact W4.mk' Gk.out | exact W4.mk' Ghh.out | exact W4.mk' Ghhh.out | exact W4.mk' Gww.out | exact W4.mk' Gxx.out | exact W4.mk' Gyy.out | exact W4.mk' (Nat.lt_trans (Nat.mod_lt _ hpos) HM.out) | exact W4.zero | exact W4.small (n := 1) rfl (by decide) | exact W4.small (n := 2) rfl (by decide) | exact W4.small (n := 3) rfl (by decide) | exact W4.small (n := 4) rfl (by decide) | exact W4.small (n := 5) rfl (by decide) | exact W4.small (n := 7) rfl (by decide)) (by first | exact W4.mk' Gx1.out | exact W4.mk' Gy1.out | exact W4.mk' Gz1.out | exact W4.mk' Gx2.out | exact W4.mk' Gy2.out | exact W4.mk' Gz2.out | exact W4.mk' HM.out | exact W4.mk' Grz.out | exact W4.mk' Goz.out | exact W4.mk' Gu.out | exact W4.mk' Gv.out | exact W4.mk' Gs.out | exact W4.mk' Gt.out | exact W4.mk' Gh.out | exact W4.mk' Gk.out | exact W4.mk' Ghh.out | exact W4.mk' Ghhh.out | exact W4.mk' Gww.out | exact W4.mk' Gxx.out | exact W4.mk' Gyy.out | exact W4.mk' (Nat.lt_trans (Nat.mod_lt _ hpos) HM.out) | exact W4.zero | exact W4.small (n := 1) rfl (by decide) | exact W4.small (n := 2) rfl (by decide) | exact W4.small (n := 3) rfl (by decide) | exact W4.small (n := 4) rfl (by decide) | exact W4.small (n := 5) rfl (by decide) | exact W4.small (n := 7) rfl (by decide)) _ (show IsF _ (g) (m) from (by first | exact fF | exact ⟨fF.blk, fF.odd, fF.three, fF.lt⟩ | exact ⟨ak fF.blk, fF.odd, fF.three, fF.lt⟩ | exact ⟨ak (ak fF.blk), fF.odd, fF.three, fF.lt⟩))).mono ?_; rintro e W ⟨rfl, hb⟩; (first | replace hRA := below_get hb hRA | replace hRA := below_get hb (ak hRA)); (first | replace hRO := below_get hb hRO | replace hRO := below_get hb (ak hRO)); (first | replace hRR := below_get hb hRR | replace hRR := below_get hb (ak hRR)); (first | replace hD7 := below_get hb hD7 | replace hD7 := below_get hb (ak hD7)); (first | replace hD8 := below_get hb hD8 | replace hD8 := below_get hb (ak hD8)); (first | replace hD9 := below_get hb hD9 | replace hD9 := below_get hb (ak hD9)); (first | replace hD10 := below_get hb hD10 | replace hD10 := below_get hb (ak hD10)); (first | replace hD11 := below_get hb hD11 | replace hD11 := below_get hb (ak hD11)); (first | replace hD12 := below_get hb hD12 | replace hD12 := below_get hb (ak hD12)); (first | replace hD13 := below_get hb hD13 | replace hD13 := below_get hb (ak hD13)); (first | replace hD14 := below_get hb hD14 | replace hD14 := below_get hb (ak hD14)); (first | replace hD15 := below_get hb hD15 | replace hD15 := below_get hb (ak hD15)); (first | replace hD16 := below_get hb hD16 | replace hD16 := below_get hb (ak hD16)); (first | replace hD17 := below_get hb hD17 | replace hD17 := below_get hb (ak hD17)); (first | replace hD18 := below_get hb hD18 | replace hD18 := below_get hb (ak hD18)); (first | replace hD19 := below_get hb hD19 | replace hD19 := below_get hb (ak hD19)); (replace kk := bcl (by first | exact kk | exact kk.drew | exact bal kk _ | exact (bal kk _).drew) hb); (replace fF := HF.out.keep kk); (replace hQ := fF.blk); (try clear cRA8 cRA9 cRA10 cRA11); (obtain ⟨-, -, -, -, -, -, -, -, cRA8, cRA9, cRA10, cRA11⟩ := row12c hRA); (try clear cRO8 cRO9 cRO10 cRO11); (obtain ⟨-, -, -, -, -, -, -, -, cRO8, cRO9, cRO10, cRO11⟩ := row12c hRO); (try clear cD130 cD131 cD132 cD133); (obtain ⟨cD130, cD131, cD132, cD133⟩ := row4c hD13); (try clear cD180 cD181 cD182 cD183); (obtain ⟨cD180, cD181, cD182, cD183⟩ := row4c hD18); (try clear cD190 cD191 cD192 cD193); (obtain ⟨cD190, cD191, cD192, cD193⟩ := row4c hD19); (try clear cRR0 cRR1 cRR2 cRR3 cRR4 cRR5 cRR6 cRR7 cRR8 cRR9 cRR10 cRR11); (obtain ⟨cRR0, cRR1, cRR2, cRR3, cRR4, cRR5, cRR6, cRR7, cRR8, cRR9, cRR10, cRR11⟩ := row12c hRR); (obtain ⟨zRR0, zRR1, zRR2, zRR3, zRR4, zRR5, zRR6, zRR7, zRR8, zRR9, zRR10, zRR11⟩ := row12z hRR); clear hb))
  go_simp
  go_wp2_with fail
  have P := put12 (.int .u64 (w0 (xx) : Nat)) (.int .u64 (w1 (xx) : Nat)) (.int .u64 (w2 (xx) : Nat)) (.int .u64 (w3 (xx) : Nat)) (.int .u64 (w0 (yy) : Nat)) (.int .u64 (w1 (yy) : Nat)) (.int .u64 (w2 (yy) : Nat)) (.int .u64 (w3 (yy) : Nat)) (.int .u64 (w0 (mulm m h (mulm m z1 z2)) : Nat)) (.int .u64 (w1 (mulm m h (mulm m z1 z2)) : Nat)) (.int .u64 (w2 (mulm m h (mulm m z1 z2)) : Nat)) (.int .u64 (w3 (mulm m h (mulm m z1 z2)) : Nat)) hRR
  replace P := put_hid P
  obtain ⟨V9, hV9, P⟩ := P
  rw [hV9]
  have P9 := P.here
  have k9 := P.below (by omega) (show Below w.heap.size w W from by first | exact kk | exact kk.drew | exact below_drewN kk _)
  obtain ⟨v0, v1, v2, v3, v4, v5, v6, v7, v8, v9, v10, v11⟩ := row12c P9
  refine bodyPost_ret (v := _) (by simp [results, Try.results76, go_sem, v0, v1, v2, v3, v4, v5, v6, v7, v8, v9, v10, v11]; rfl) rfl ?_
  have e : naddr m ⟨x1, y1, z1⟩ ⟨x2, y2, z2⟩ = ⟨xx, yy, mulm m h (mulm m z1 z2)⟩ := by
    unfold naddr; rw [if_neg HZ1.out, if_neg HZ2.out]; dsimp only
    rw [Hrz.out, Hoz.out, Hu.out, Hv.out, Hs.out, Ht.out, Hh.out, Hk.out, if_neg HH0.out, Hhh.out, Hhhh.out, Hww.out, Hxx.out, Hyy.out]
  rw [e]
  exact ⟨rfl, k9⟩
  done
end Go.Proofs.Ytgghopmlcpcpkaa
