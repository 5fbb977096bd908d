/- Sums of points hang on no order: of any three points that some names, through the walks of On, Lift, the rays and the sums; without conditions. -/
import Derived.Test.YtgghopmlcpcpkaaPtM
import Derived.Test.YtgghopmlcpcpkaaHeldV
import Derived.Test.YtgghopmlcpcpkaaFrame
namespace Go.Proofs.Ytgghopmlcpcpkaa
open Go.RowKit PlainK
set_option linter.unusedVariables false
set_option linter.unusedSimpArgs false
set_option maxRecDepth 10000 in
set_option maxHeartbeats 16000000 in
theorem groups_any {a0 a1 a2 a3 b0 b1 b2 b3 c0 c1 c2 c3 : Int} {x y z : Nat} (ha : W4 a0 a1 a2 a3 x) (hb : W4 b0 b1 b2 b3 y) (hc : W4 c0 c1 c2 c3 z) (o1 o2 o3 : Bool) (w : World) :
   Calls Try.prog 10 #[.agg #[.int .u64 a0, .int .u64 a1, .int .u64 a2, .int .u64 a3], .agg #[.int .u64 b0, .int .u64 b1, .int .u64 b2, .int .u64 b3], .agg #[.int .u64 c0, .int .u64 c1, .int .u64 c2, .int .u64 c3], .bool o1, .bool o2, .bool o3] w fun e w' => e = .returned (.bool true) ∧ Below w.heap.size w w' := by
  obtain ⟨rfl, rfl, rfl, rfl, la⟩ := ha
  obtain ⟨rfl, rfl, rfl, rfl, lb⟩ := hb
  obtain ⟨rfl, rfl, rfl, rfl, lc⟩ := hc
  have hla := Lib.hid la
  have hlb := Lib.hid lb
  have hlc := Lib.hid lc
  clear la lb lc
  go_enter Try.func10, Try.ntmps10
  go_upto_region 1 with fail
  obtain ⟨V0, hW⟩ : ∃ V, ((w.alloc (.cells #[.int .u64 (w0 (x) : Nat), .int .u64 (w1 (x) : Nat), .int .u64 (w2 (x) : Nat), .int .u64 (w3 (x) : Nat)] 24)).alloc (.cells #[.int .u64 (w0 (y) : Nat), .int .u64 (w1 (y) : Nat), .int .u64 (w2 (y) : Nat), .int .u64 (w3 (y) : Nat)] 24)).alloc (.cells #[.int .u64 (w0 (z) : Nat), .int .u64 (w1 (z) : Nat), .int .u64 (w2 (z) : Nat), .int .u64 (w3 (z) : Nat)] 24) = V := ⟨_, rfl⟩
  rw [hW]
  have hA : V0.heap[w.heap.size]? = some (.cells #[.int .u64 (w0 (x) : Nat), .int .u64 (w1 (x) : Nat), .int .u64 (w2 (x) : Nat), .int .u64 (w3 (x) : Nat)] 24 (0, 0)) := by
    rw [← hW]; simp only [alloc_at, World.size_alloc]; repeat (first | rw [if_pos trivial] | rw [if_pos (by omega)] | rw [if_neg (by omega)])
  have hB : V0.heap[w.heap.size + 1]? = some (.cells #[.int .u64 (w0 (y) : Nat), .int .u64 (w1 (y) : Nat), .int .u64 (w2 (y) : Nat), .int .u64 (w3 (y) : Nat)] 24 (0, 0)) := by
    rw [← hW]; simp only [alloc_at, World.size_alloc]; repeat (first | rw [if_pos trivial] | rw [if_pos (by omega)] | rw [if_neg (by omega)])
  have hC : V0.heap[w.heap.size + 2]? = some (.cells #[.int .u64 (w0 (z) : Nat), .int .u64 (w1 (z) : Nat), .int .u64 (w2 (z) : Nat), .int .u64 (w3 (z) : Nat)] 24 (0, 0)) := by
    rw [← hW]; simp only [alloc_at, World.size_alloc]; repeat (first | rw [if_pos trivial] | rw [if_pos (by omega)] | rw [if_neg (by omega)])
  have kk : Below w.heap.size w V0 := by
    rw [← hW]
    repeat (first | exact Below.refl _ _ | refine Below.drew ?_ | refine bal ?_ _)
  clear hW
  go_wp2_with fail
  refine (livesC_any _).mono ?_
  rintro e V1 ⟨rfl, hb⟩
  replace hA := below_get hb hA
  replace hB := below_get hb hB
  replace hC := below_get hb hC
  replace kk := bcl (by first | exact kk | exact kk.drew | exact below_drewN kk _) hb
  clear hb
  go_upto_region 3 with fail
  obtain ⟨S0, hS0⟩ : ∃ S : World → Prop, S = (fun w' => w'.heap[w.heap.size]? = some (.cells #[.int .u64 (w0 (x) : Nat), .int .u64 (w1 (x) : Nat), .int .u64 (w2 (x) : Nat), .int .u64 (w3 (x) : Nat)] 24 (0, 0)) ∧ w'.heap[w.heap.size + 1]? = some (.cells #[.int .u64 (w0 (y) : Nat), .int .u64 (w1 (y) : Nat), .int .u64 (w2 (y) : Nat), .int .u64 (w3 (y) : Nat)] 24 (0, 0)) ∧ w'.heap[w.heap.size + 2]? = some (.cells #[.int .u64 (w0 (z) : Nat), .int .u64 (w1 (z) : Nat), .int .u64 (w2 (z) : Nat), .int .u64 (w3 (z) : Nat)] 24 (0, 0))) := ⟨_, rfl⟩
  have hSJ : ∀ w', Below V1.heap.size V1 w' → S0 w' := by intro w' hb; rw [hS0]; exact ⟨below_get hb hA, below_get hb hB, below_get hb hC⟩
  refine startT (S := S0) 14 (by kernel_rfl) (by rw [hS0]; exact ⟨hA, hB, hC⟩) (fun hHeld => ?_)
  refine takeT (i := 0) (d := some 18) (v := ?_) _ rfl rfl (by rfl) (by kernel_rfl) (by decide) (by kernel_rfl) (by kernel_rfl) (by kernel_rfl) (fun _ _ _ h => h) (by assumption) (by kernel_rfl) ?_ ?_
  rotate_left
  · (intro w' hSw; (rw [hS0] at hSw); (have hSw' := hSw); (first | (obtain ⟨svA, svB, svC⟩ := hSw'; obtain ⟨cvA0, cvA1, cvA2, cvA3⟩ := row4c svA; obtain ⟨cvB0, cvB1, cvB2, cvB3⟩ := row4c svB; obtain ⟨cvC0, cvC1, cvC2, cvC3⟩ := row4c svC; go_simp)); try (with_reducible rfl))
  try simp only [ptr, Act.put, List.setIfInBounds_toArray, List.set_cons_zero, List.set_cons_succ]
  refine takeT (i := 1) (d := some 19) (v := ?_) _ rfl rfl (by rfl) (by kernel_rfl) (by decide) (by kernel_rfl) (by kernel_rfl) (by kernel_rfl) (fun _ _ _ h => h) (by assumption) (by kernel_rfl) ?_ ?_
  rotate_left
  · (first | (intro w' hSw; clear hSw; go_simp; try (with_reducible rfl)) | (intro w'; go_simp; try (with_reducible rfl)))
  try simp only [ptr, Act.put, List.setIfInBounds_toArray, List.set_cons_zero, List.set_cons_succ]
  refine takeT (i := 3) (d := some 21) (v := ?_) _ rfl rfl (by rfl) (by kernel_rfl) (by decide) (by kernel_rfl) (by kernel_rfl) (by kernel_rfl) (fun _ _ _ h => h) (by assumption) (by kernel_rfl) ?_ ?_
  rotate_left
  · (intro w' hSw; (rw [hS0] at hSw); (have hSw' := hSw); (first | (obtain ⟨svA, svB, svC⟩ := hSw'; obtain ⟨cvA0, cvA1, cvA2, cvA3⟩ := row4c svA; obtain ⟨cvB0, cvB1, cvB2, cvB3⟩ := row4c svB; obtain ⟨cvC0, cvC1, cvC2, cvC3⟩ := row4c svC; go_simp)); try (with_reducible rfl))
  try simp only [ptr, Act.put, List.setIfInBounds_toArray, List.set_cons_zero, List.set_cons_succ]
  refine takeT (i := 4) (d := some 22) (v := ?_) _ rfl rfl (by rfl) (by kernel_rfl) (by decide) (by kernel_rfl) (by kernel_rfl) (by kernel_rfl) (fun _ _ _ h => h) (by assumption) (by kernel_rfl) ?_ ?_
  rotate_left
  · (first | (intro w' hSw; clear hSw; go_simp; try (with_reducible rfl)) | (intro w'; go_simp; try (with_reducible rfl)))
  try simp only [ptr, Act.put, List.setIfInBounds_toArray, List.set_cons_zero, List.set_cons_succ]
  refine takeT (i := 6) (d := some 24) (v := ?_) _ rfl rfl (by rfl) (by kernel_rfl) (by decide) (by kernel_rfl) (by kernel_rfl) (by kernel_rfl) (fun _ _ _ h => h) (by assumption) (by kernel_rfl) ?_ ?_
  rotate_left
  · (intro w' hSw; (rw [hS0] at hSw); (have hSw' := hSw); (first | (obtain ⟨svA, svB, svC⟩ := hSw'; obtain ⟨cvA0, cvA1, cvA2, cvA3⟩ := row4c svA; obtain ⟨cvB0, cvB1, cvB2, cvB3⟩ := row4c svB; obtain ⟨cvC0, cvC1, cvC2, cvC3⟩ := row4c svC; go_simp)); try (with_reducible rfl))
  try simp only [ptr, Act.put, List.setIfInBounds_toArray, List.set_cons_zero, List.set_cons_succ]
  refine takeT (i := 7) (d := some 25) (v := ?_) _ rfl rfl (by rfl) (by kernel_rfl) (by decide) (by kernel_rfl) (by kernel_rfl) (by kernel_rfl) (fun _ _ _ h => h) (by assumption) (by kernel_rfl) ?_ ?_
  rotate_left
  · (first | (intro w' hSw; clear hSw; go_simp; try (with_reducible rfl)) | (intro w'; go_simp; try (with_reducible rfl)))
  try simp only [ptr, Act.put, List.setIfInBounds_toArray, List.set_cons_zero, List.set_cons_succ]
  refine NK3.start (w0 := V1) (x1 := undef) (x2 := undef) (x3 := undef) 9 10 11 13 14 15 (.cells #[.int .u64 0, .int .u64 0, .int .u64 0, .int .u64 0, .int .u64 0, .int .u64 0, .int .u64 0, .int .u64 0, .bool false] 52 (0, 0)) (.cells #[.int .u64 0, .int .u64 0, .int .u64 0, .int .u64 0, .int .u64 0, .int .u64 0, .int .u64 0, .int .u64 0, .bool false] 52 (0, 0)) (.cells #[.int .u64 0, .int .u64 0, .int .u64 0, .int .u64 0, .int .u64 0, .int .u64 0, .int .u64 0, .int .u64 0, .bool false] 52 (0, 0)) (Below.refl _ _).drew (by (simp only [Act.put, List.setIfInBounds_toArray, List.set_cons_zero, List.set_cons_succ])) ⟨⟨_, rfl, fun _ => rfl, fun a1 w1 K hK => by go_simp; exact hK⟩⟩ ⟨⟨_, rfl, fun _ => rfl, fun a1 w1 K hK => by go_simp; exact hK⟩⟩ ⟨⟨_, rfl, fun _ => rfl, fun a1 w1 K hK => by go_simp; exact hK⟩⟩ (fun m1 m2 m3 => ?_)
  refine NK3.step (i := 2) (d := 20) (F := fun vv => ∃ (p : Pt PP) (x y : Nat) (b : Bool), PtN p x y b ∧ vv = .agg #[.int .u64 (w0 (x) : Nat), .int .u64 (w1 (x) : Nat), .int .u64 (w2 (x) : Nat), .int .u64 (w3 (x) : Nat), .int .u64 (w0 (y) : Nat), .int .u64 (w1 (y) : Nat), .int .u64 (w2 (y) : Nat), .int .u64 (w3 (y) : Nat), .bool b]) m1 m2 m3 (by decide) (by decide) (by decide) (by decide) (by decide) (by decide) hSJ (by decide) (by decide) (by decide) (by decide) (by decide) (by decide) (by kernel_rfl) (by kernel_rfl) (by kernel_rfl) (by kernel_rfl) (by kernel_rfl) (by kernel_rfl) (by kernel_rfl) (by kernel_rfl) ⟨⟨_, rfl, fun _ => rfl, fun yv1 yv2 yv3 w1 hJ1 K hK => ?_⟩⟩ ?_
  · try simp only [ptr, Act.put, List.setIfInBounds_toArray, List.set_cons_zero, List.set_cons_succ]
    go_simp
    refine (someQ_any o1 (W4.mk' hla.out) _).mono ?_
    rintro e U ⟨p, x, y, b, hP, rfl, hb⟩
    have h2 := hK.out _ _ ⟨p, x, y, b, hP, rfl⟩ hb
    try simp only [ptr, Act.put, List.setIfInBounds_toArray, List.set_cons_zero, List.set_cons_succ] at h2
    exact h2
  rintro vv ⟨p, xp, yp, bp, hp, rfl⟩
  refine NK3.step (i := 5) (d := 23) (F := fun vv => ∃ (p : Pt PP) (x y : Nat) (b : Bool), PtN p x y b ∧ vv = .agg #[.int .u64 (w0 (x) : Nat), .int .u64 (w1 (x) : Nat), .int .u64 (w2 (x) : Nat), .int .u64 (w3 (x) : Nat), .int .u64 (w0 (y) : Nat), .int .u64 (w1 (y) : Nat), .int .u64 (w2 (y) : Nat), .int .u64 (w3 (y) : Nat), .bool b]) m1 m2 m3 (by decide) (by decide) (by decide) (by decide) (by decide) (by decide) hSJ (by decide) (by decide) (by decide) (by decide) (by decide) (by decide) (by kernel_rfl) (by kernel_rfl) (by kernel_rfl) (by kernel_rfl) (by kernel_rfl) (by kernel_rfl) (by kernel_rfl) (by kernel_rfl) ⟨⟨_, rfl, fun _ => rfl, fun yv1 yv2 yv3 w1 hJ1 K hK => ?_⟩⟩ ?_
  · try simp only [ptr, Act.put, List.setIfInBounds_toArray, List.set_cons_zero, List.set_cons_succ]
    go_simp
    refine (someQ_any o2 (W4.mk' hlb.out) _).mono ?_
    rintro e U ⟨p, x, y, b, hP, rfl, hb⟩
    have h2 := hK.out _ _ ⟨p, x, y, b, hP, rfl⟩ hb
    try simp only [ptr, Act.put, List.setIfInBounds_toArray, List.set_cons_zero, List.set_cons_succ] at h2
    exact h2
  rintro vv ⟨q, xq, yq, bq, hq, rfl⟩
  refine NK3.step (i := 8) (d := 26) (F := fun vv => ∃ (p : Pt PP) (x y : Nat) (b : Bool), PtN p x y b ∧ vv = .agg #[.int .u64 (w0 (x) : Nat), .int .u64 (w1 (x) : Nat), .int .u64 (w2 (x) : Nat), .int .u64 (w3 (x) : Nat), .int .u64 (w0 (y) : Nat), .int .u64 (w1 (y) : Nat), .int .u64 (w2 (y) : Nat), .int .u64 (w3 (y) : Nat), .bool b]) m1 m2 m3 (by decide) (by decide) (by decide) (by decide) (by decide) (by decide) hSJ (by decide) (by decide) (by decide) (by decide) (by decide) (by decide) (by kernel_rfl) (by kernel_rfl) (by kernel_rfl) (by kernel_rfl) (by kernel_rfl) (by kernel_rfl) (by kernel_rfl) (by kernel_rfl) ⟨⟨_, rfl, fun _ => rfl, fun yv1 yv2 yv3 w1 hJ1 K hK => ?_⟩⟩ ?_
  · try simp only [ptr, Act.put, List.setIfInBounds_toArray, List.set_cons_zero, List.set_cons_succ]
    go_simp
    refine (someQ_any o3 (W4.mk' hlc.out) _).mono ?_
    rintro e U ⟨p, x, y, b, hP, rfl, hb⟩
    have h2 := hK.out _ _ ⟨p, x, y, b, hP, rfl⟩ hb
    try simp only [ptr, Act.put, List.setIfInBounds_toArray, List.set_cons_zero, List.set_cons_succ] at h2
    exact h2
  rintro vv ⟨r, xr, yr, br, hr, rfl⟩
  refine NK3.last m1 m2 m3 (by decide) (by decide) (by decide) (by decide) (by decide) (by decide) hSJ (by kernel_rfl) (by kernel_rfl) (by kernel_rfl) (by kernel_rfl) (by kernel_rfl) (by kernel_rfl) (by kernel_rfl) (fun C1a bd13 bd14 bd15 hb o1 o2 o3 n12 n13 n23 => ?_)
  clear m1 m2 m3
  try simp only [ptr, Act.put, List.setIfInBounds_toArray, List.set_cons_zero, List.set_cons_succ]
  have lD13A := Nat.lt_of_lt_of_le (lt_of_heap hA) o1.new
  have lD13B := Nat.lt_of_lt_of_le (lt_of_heap hB) o1.new
  have lD13C := Nat.lt_of_lt_of_le (lt_of_heap hC) o1.new
  have lD13 := Nat.le_trans kk.size o1.new
  have lD14A := Nat.lt_of_lt_of_le (lt_of_heap hA) o2.new
  have lD14B := Nat.lt_of_lt_of_le (lt_of_heap hB) o2.new
  have lD14C := Nat.lt_of_lt_of_le (lt_of_heap hC) o2.new
  have lD14 := Nat.le_trans kk.size o2.new
  have lD15A := Nat.lt_of_lt_of_le (lt_of_heap hA) o3.new
  have lD15B := Nat.lt_of_lt_of_le (lt_of_heap hB) o3.new
  have lD15C := Nat.lt_of_lt_of_le (lt_of_heap hC) o3.new
  have lD15 := Nat.le_trans kk.size o3.new
  replace hA := below_get hb hA
  replace hB := below_get hb hB
  replace hC := below_get hb hC
  have hD13 := o1.here
  have hD14 := o2.here
  have hD15 := o3.here
  replace kk := bcl kk hb
  clear hb o1 o2 o3
  obtain ⟨cD130, cD131, cD132, cD133, cD134, cD135, cD136, cD137, cD138⟩ := row9c hD13
  obtain ⟨zD130, zD131, zD132, zD133, zD134, zD135, zD136, zD137, zD138⟩ := row9z hD13
  refine callT (i := 12) _ rfl (by rfl) (by kernel_rfl) (fun K hK => ?_)
  go_simp
  have P := put9 (.int .u64 (w0 (xp) : Nat)) (.int .u64 (w1 (xp) : Nat)) (.int .u64 (w2 (xp) : Nat)) (.int .u64 (w3 (xp) : Nat)) (.int .u64 (w0 (yp) : Nat)) (.int .u64 (w1 (yp) : Nat)) (.int .u64 (w2 (yp) : Nat)) (.int .u64 (w3 (yp) : Nat)) (.bool bp) hD13
  obtain ⟨C1b, hW⟩ : ∃ V, (World.setCell (World.setCell (World.setCell (World.setCell (World.setCell (World.setCell (World.setCell (World.setCell (World.setCell C1a ⟨bd13, 0, none⟩ (.int .u64 (w0 (xp) : Nat))) ⟨bd13, 1, none⟩ (.int .u64 (w1 (xp) : Nat))) ⟨bd13, 2, none⟩ (.int .u64 (w2 (xp) : Nat))) ⟨bd13, 3, none⟩ (.int .u64 (w3 (xp) : Nat))) ⟨bd13, 4, none⟩ (.int .u64 (w0 (yp) : Nat))) ⟨bd13, 5, none⟩ (.int .u64 (w1 (yp) : Nat))) ⟨bd13, 6, none⟩ (.int .u64 (w2 (yp) : Nat))) ⟨bd13, 7, none⟩ (.int .u64 (w3 (yp) : Nat))) ⟨bd13, 8, none⟩ (.bool bp)) = V := ⟨_, rfl⟩
  rw [hW] at P ⊢
  replace hD13 := P.here
  replace hA := (P.there (w.heap.size) (by omega)).trans (show _ = some (.cells #[.int .u64 (w0 (x) : Nat), .int .u64 (w1 (x) : Nat), .int .u64 (w2 (x) : Nat), .int .u64 (w3 (x) : Nat)] 24 (0, 0)) from hA)
  replace hB := (P.there (w.heap.size + 1) (by omega)).trans (show _ = some (.cells #[.int .u64 (w0 (y) : Nat), .int .u64 (w1 (y) : Nat), .int .u64 (w2 (y) : Nat), .int .u64 (w3 (y) : Nat)] 24 (0, 0)) from hB)
  replace hC := (P.there (w.heap.size + 2) (by omega)).trans (show _ = some (.cells #[.int .u64 (w0 (z) : Nat), .int .u64 (w1 (z) : Nat), .int .u64 (w2 (z) : Nat), .int .u64 (w3 (z) : Nat)] 24 (0, 0)) from hC)
  replace hD14 := (P.there (bd14) (by omega)).trans (show _ = some (.cells #[.int .u64 0, .int .u64 0, .int .u64 0, .int .u64 0, .int .u64 0, .int .u64 0, .int .u64 0, .int .u64 0, .bool false] 52 (0, 0)) from hD14)
  replace hD15 := (P.there (bd15) (by omega)).trans (show _ = some (.cells #[.int .u64 0, .int .u64 0, .int .u64 0, .int .u64 0, .int .u64 0, .int .u64 0, .int .u64 0, .int .u64 0, .bool false] 52 (0, 0)) from hD15)
  replace kk := P.below (by omega) (show Below w.heap.size w C1a from by first | exact kk | exact kk.drew | exact below_drewN kk _)
  clear cD130 zD130 cD131 zD131 cD132 zD132 cD133 zD133 cD134 zD134 cD135 zD135 cD136 zD136 cD137 zD137 cD138 zD138
  clear P hW
  refine hK.out _ _ (Or.inr (by rw [hS0]; exact ⟨hA, hB, hC⟩)) ?_
  clear hK K
  try simp only [ptr, Act.put, List.setIfInBounds_toArray, List.set_cons_zero, List.set_cons_succ]
  obtain ⟨cD140, cD141, cD142, cD143, cD144, cD145, cD146, cD147, cD148⟩ := row9c hD14
  obtain ⟨zD140, zD141, zD142, zD143, zD144, zD145, zD146, zD147, zD148⟩ := row9z hD14
  refine callT (i := 13) _ rfl (by rfl) (by kernel_rfl) (fun K hK => ?_)
  go_simp
  have P := put9 (.int .u64 (w0 (xq) : Nat)) (.int .u64 (w1 (xq) : Nat)) (.int .u64 (w2 (xq) : Nat)) (.int .u64 (w3 (xq) : Nat)) (.int .u64 (w0 (yq) : Nat)) (.int .u64 (w1 (yq) : Nat)) (.int .u64 (w2 (yq) : Nat)) (.int .u64 (w3 (yq) : Nat)) (.bool bq) hD14
  obtain ⟨C1c, hW⟩ : ∃ V, (World.setCell (World.setCell (World.setCell (World.setCell (World.setCell (World.setCell (World.setCell (World.setCell (World.setCell C1b ⟨bd14, 0, none⟩ (.int .u64 (w0 (xq) : Nat))) ⟨bd14, 1, none⟩ (.int .u64 (w1 (xq) : Nat))) ⟨bd14, 2, none⟩ (.int .u64 (w2 (xq) : Nat))) ⟨bd14, 3, none⟩ (.int .u64 (w3 (xq) : Nat))) ⟨bd14, 4, none⟩ (.int .u64 (w0 (yq) : Nat))) ⟨bd14, 5, none⟩ (.int .u64 (w1 (yq) : Nat))) ⟨bd14, 6, none⟩ (.int .u64 (w2 (yq) : Nat))) ⟨bd14, 7, none⟩ (.int .u64 (w3 (yq) : Nat))) ⟨bd14, 8, none⟩ (.bool bq)) = V := ⟨_, rfl⟩
  rw [hW] at P ⊢
  replace hD14 := P.here
  replace hA := (P.there (w.heap.size) (by omega)).trans (show _ = some (.cells #[.int .u64 (w0 (x) : Nat), .int .u64 (w1 (x) : Nat), .int .u64 (w2 (x) : Nat), .int .u64 (w3 (x) : Nat)] 24 (0, 0)) from hA)
  replace hB := (P.there (w.heap.size + 1) (by omega)).trans (show _ = some (.cells #[.int .u64 (w0 (y) : Nat), .int .u64 (w1 (y) : Nat), .int .u64 (w2 (y) : Nat), .int .u64 (w3 (y) : Nat)] 24 (0, 0)) from hB)
  replace hC := (P.there (w.heap.size + 2) (by omega)).trans (show _ = some (.cells #[.int .u64 (w0 (z) : Nat), .int .u64 (w1 (z) : Nat), .int .u64 (w2 (z) : Nat), .int .u64 (w3 (z) : Nat)] 24 (0, 0)) from hC)
  replace hD13 := (P.there (bd13) (by omega)).trans (show _ = some (.cells #[.int .u64 (w0 (xp) : Nat), .int .u64 (w1 (xp) : Nat), .int .u64 (w2 (xp) : Nat), .int .u64 (w3 (xp) : Nat), .int .u64 (w0 (yp) : Nat), .int .u64 (w1 (yp) : Nat), .int .u64 (w2 (yp) : Nat), .int .u64 (w3 (yp) : Nat), .bool bp] 52 (0, 0)) from hD13)
  replace hD15 := (P.there (bd15) (by omega)).trans (show _ = some (.cells #[.int .u64 0, .int .u64 0, .int .u64 0, .int .u64 0, .int .u64 0, .int .u64 0, .int .u64 0, .int .u64 0, .bool false] 52 (0, 0)) from hD15)
  replace kk := P.below (by omega) (show Below w.heap.size w C1b from by first | exact kk | exact kk.drew | exact below_drewN kk _)
  clear cD140 zD140 cD141 zD141 cD142 zD142 cD143 zD143 cD144 zD144 cD145 zD145 cD146 zD146 cD147 zD147 cD148 zD148
  clear P hW
  refine hK.out _ _ (Or.inr (by rw [hS0]; exact ⟨hA, hB, hC⟩)) ?_
  clear hK K
  try simp only [ptr, Act.put, List.setIfInBounds_toArray, List.set_cons_zero, List.set_cons_succ]
  obtain ⟨cD150, cD151, cD152, cD153, cD154, cD155, cD156, cD157, cD158⟩ := row9c hD15
  obtain ⟨zD150, zD151, zD152, zD153, zD154, zD155, zD156, zD157, zD158⟩ := row9z hD15
  refine callT (i := 14) _ rfl (by rfl) (by kernel_rfl) (fun K hK => ?_)
  go_simp
  have P := put9 (.int .u64 (w0 (xr) : Nat)) (.int .u64 (w1 (xr) : Nat)) (.int .u64 (w2 (xr) : Nat)) (.int .u64 (w3 (xr) : Nat)) (.int .u64 (w0 (yr) : Nat)) (.int .u64 (w1 (yr) : Nat)) (.int .u64 (w2 (yr) : Nat)) (.int .u64 (w3 (yr) : Nat)) (.bool br) hD15
  obtain ⟨C1, hW⟩ : ∃ V, (World.setCell (World.setCell (World.setCell (World.setCell (World.setCell (World.setCell (World.setCell (World.setCell (World.setCell C1c ⟨bd15, 0, none⟩ (.int .u64 (w0 (xr) : Nat))) ⟨bd15, 1, none⟩ (.int .u64 (w1 (xr) : Nat))) ⟨bd15, 2, none⟩ (.int .u64 (w2 (xr) : Nat))) ⟨bd15, 3, none⟩ (.int .u64 (w3 (xr) : Nat))) ⟨bd15, 4, none⟩ (.int .u64 (w0 (yr) : Nat))) ⟨bd15, 5, none⟩ (.int .u64 (w1 (yr) : Nat))) ⟨bd15, 6, none⟩ (.int .u64 (w2 (yr) : Nat))) ⟨bd15, 7, none⟩ (.int .u64 (w3 (yr) : Nat))) ⟨bd15, 8, none⟩ (.bool br)) = V := ⟨_, rfl⟩
  rw [hW] at P ⊢
  replace hD15 := P.here
  replace hA := (P.there (w.heap.size) (by omega)).trans (show _ = some (.cells #[.int .u64 (w0 (x) : Nat), .int .u64 (w1 (x) : Nat), .int .u64 (w2 (x) : Nat), .int .u64 (w3 (x) : Nat)] 24 (0, 0)) from hA)
  replace hB := (P.there (w.heap.size + 1) (by omega)).trans (show _ = some (.cells #[.int .u64 (w0 (y) : Nat), .int .u64 (w1 (y) : Nat), .int .u64 (w2 (y) : Nat), .int .u64 (w3 (y) : Nat)] 24 (0, 0)) from hB)
  replace hC := (P.there (w.heap.size + 2) (by omega)).trans (show _ = some (.cells #[.int .u64 (w0 (z) : Nat), .int .u64 (w1 (z) : Nat), .int .u64 (w2 (z) : Nat), .int .u64 (w3 (z) : Nat)] 24 (0, 0)) from hC)
  replace hD13 := (P.there (bd13) (by omega)).trans (show _ = some (.cells #[.int .u64 (w0 (xp) : Nat), .int .u64 (w1 (xp) : Nat), .int .u64 (w2 (xp) : Nat), .int .u64 (w3 (xp) : Nat), .int .u64 (w0 (yp) : Nat), .int .u64 (w1 (yp) : Nat), .int .u64 (w2 (yp) : Nat), .int .u64 (w3 (yp) : Nat), .bool bp] 52 (0, 0)) from hD13)
  replace hD14 := (P.there (bd14) (by omega)).trans (show _ = some (.cells #[.int .u64 (w0 (xq) : Nat), .int .u64 (w1 (xq) : Nat), .int .u64 (w2 (xq) : Nat), .int .u64 (w3 (xq) : Nat), .int .u64 (w0 (yq) : Nat), .int .u64 (w1 (yq) : Nat), .int .u64 (w2 (yq) : Nat), .int .u64 (w3 (yq) : Nat), .bool bq] 52 (0, 0)) from hD14)
  replace kk := P.below (by omega) (show Below w.heap.size w C1c from by first | exact kk | exact kk.drew | exact below_drewN kk _)
  clear cD150 zD150 cD151 zD151 cD152 zD152 cD153 zD153 cD154 zD154 cD155 zD155 cD156 zD156 cD157 zD157 cD158 zD158
  clear P hW
  refine hK.out _ _ (Or.inl (by kernel_rfl)) ?_
  clear hK K
  try simp only [ptr, Act.put, List.setIfInBounds_toArray, List.set_cons_zero, List.set_cons_succ]
  refine doneT (by kernel_rfl) ?_ _
  clear hHeld hSJ hS0 S0
  go_simp
  obtain ⟨s1, t1, k1, h1⟩ := PtN.ex (padd_on good hp.on hq.on)
  obtain ⟨s2, t2, k2, h2⟩ := PtN.ex (padd_on good h1.on hr.on)
  obtain ⟨s3, t3, k3, h3⟩ := PtN.ex (padd_on good hq.on hr.on)
  obtain ⟨s4, t4, k4, h4⟩ := PtN.ex (padd_on good hp.on h3.on)
  have q := eqlQ h2 h4 true (decide_eq_true (padd_assoc good hp.on hq.on hr.on))
  go_upto_region 4 with fail
  try clear cD130 cD131 cD132 cD133 cD134 cD135 cD136 cD137 cD138
  obtain ⟨cD130, cD131, cD132, cD133, cD134, cD135, cD136, cD137, cD138⟩ := row9c hD13
  try clear cD140 cD141 cD142 cD143 cD144 cD145 cD146 cD147 cD148
  obtain ⟨cD140, cD141, cD142, cD143, cD144, cD145, cD146, cD147, cD148⟩ := row9c hD14
  try clear cD150 cD151 cD152 cD153 cD154 cD155 cD156 cD157 cD158
  obtain ⟨cD150, cD151, cD152, cD153, cD154, cD155, cD156, cD157, cD158⟩ := row9c hD15
  go_region_held3 (fun w' => w'.cell? ⟨bd13, 0, none⟩ = some (.int .u64 (w0 (xp) : Nat)) ∧ w'.cell? ⟨bd13, 1, none⟩ = some (.int .u64 (w1 (xp) : Nat)) ∧ w'.cell? ⟨bd13, 2, none⟩ = some (.int .u64 (w2 (xp) : Nat)) ∧ w'.cell? ⟨bd13, 3, none⟩ = some (.int .u64 (w3 (xp) : Nat)) ∧ w'.cell? ⟨bd13, 4, none⟩ = some (.int .u64 (w0 (yp) : Nat)) ∧ w'.cell? ⟨bd13, 5, none⟩ = some (.int .u64 (w1 (yp) : Nat)) ∧ w'.cell? ⟨bd13, 6, none⟩ = some (.int .u64 (w2 (yp) : Nat)) ∧ w'.cell? ⟨bd13, 7, none⟩ = some (.int .u64 (w3 (yp) : Nat)) ∧ w'.cell? ⟨bd13, 8, none⟩ = some (.bool bp) ∧ w'.cell? ⟨bd14, 0, none⟩ = some (.int .u64 (w0 (xq) : Nat)) ∧ w'.cell? ⟨bd14, 1, none⟩ = some (.int .u64 (w1 (xq) : Nat)) ∧ w'.cell? ⟨bd14, 2, none⟩ = some (.int .u64 (w2 (xq) : Nat)) ∧ w'.cell? ⟨bd14, 3, none⟩ = some (.int .u64 (w3 (xq) : Nat)) ∧ w'.cell? ⟨bd14, 4, none⟩ = some (.int .u64 (w0 (yq) : Nat)) ∧ w'.cell? ⟨bd14, 5, none⟩ = some (.int .u64 (w1 (yq) : Nat)) ∧ w'.cell? ⟨bd14, 6, none⟩ = some (.int .u64 (w2 (yq) : Nat)) ∧ w'.cell? ⟨bd14, 7, none⟩ = some (.int .u64 (w3 (yq) : Nat)) ∧ w'.cell? ⟨bd14, 8, none⟩ = some (.bool bq) ∧ w'.cell? ⟨bd15, 0, none⟩ = some (.int .u64 (w0 (xr) : Nat)) ∧ w'.cell? ⟨bd15, 1, none⟩ = some (.int .u64 (w1 (xr) : Nat)) ∧ w'.cell? ⟨bd15, 2, none⟩ = some (.int .u64 (w2 (xr) : Nat)) ∧ w'.cell? ⟨bd15, 3, none⟩ = some (.int .u64 (w3 (xr) : Nat)) ∧ w'.cell? ⟨bd15, 4, none⟩ = some (.int .u64 (w0 (yr) : Nat)) ∧ w'.cell? ⟨bd15, 5, none⟩ = some (.int .u64 (w1 (yr) : Nat)) ∧ w'.cell? ⟨bd15, 6, none⟩ = some (.int .u64 (w2 (yr) : Nat)) ∧ w'.cell? ⟨bd15, 7, none⟩ = some (.int .u64 (w3 (yr) : Nat)) ∧ w'.cell? ⟨bd15, 8, none⟩ = some (.bool br)) (first | (with_reducible exact ⟨cD130, cD131, cD132, cD133, cD134, cD135, cD136, cD137, cD138, cD140, cD141, cD142, cD143, cD144, cD145, cD146, cD147, cD148, cD150, cD151, cD152, cD153, cD154, cD155, cD156, cD157, cD158⟩) | go_keep) (first | (go_at_call 43; with_reducible refine (addQ_any hp hq h1 _).mono ?_; rintro e W ⟨rfl, hb⟩; (first | replace hA := below_get hb hA | replace hA := below_get hb (ak hA)); (first | replace hB := below_get hb hB | replace hB := below_get hb (ak hB)); (first | replace hC := below_get hb hC | replace hC := below_get hb (ak hC)); (first | replace hD13 := below_get hb hD13 | replace hD13 := below_get hb (ak hD13)); (first | replace hD14 := below_get hb hD14 | replace hD14 := below_get hb (ak hD14)); (first | replace hD15 := below_get hb hD15 | replace hD15 := below_get hb (ak hD15)); (replace kk := bcl (by first | exact kk | exact kk.drew | exact bal kk _ | exact (bal kk _).drew) hb); (try clear cD130 cD131 cD132 cD133 cD134 cD135 cD136 cD137 cD138); (obtain ⟨cD130, cD131, cD132, cD133, cD134, cD135, cD136, cD137, cD138⟩ := row9c hD13); (try clear cD140 cD141 cD142 cD143 cD144 cD145 cD146 cD147 cD148); (obtain ⟨cD140, cD141, cD142, cD143, cD144, cD145, cD146, cD147, cD148⟩ := row9c hD14); (try clear cD150 cD151 cD152 cD153 cD154 cD155 cD156 cD157 cD158); (obtain ⟨cD150, cD151, cD152, cD153, cD154, cD155, cD156, cD157, cD158⟩ := row9c hD15); clear hb) | (go_at_call 43; with_reducible refine (addQ_any h1 hr h2 _).mono ?_; rintro e W ⟨rfl, hb⟩; (first | replace hA := below_get hb hA | replace hA := below_get hb (ak hA)); (first | replace hB := below_get hb hB | replace hB := below_get hb (ak hB)); (first | replace hC := below_get hb hC | replace hC := below_get hb (ak hC)); (first | replace hD13 := below_get hb hD13 | replace hD13 := below_get hb (ak hD13)); (first | replace hD14 := below_get hb hD14 | replace hD14 := below_get hb (ak hD14)); (first | replace hD15 := below_get hb hD15 | replace hD15 := below_get hb (ak hD15)); (replace kk := bcl (by first | exact kk | exact kk.drew | exact bal kk _ | exact (bal kk _).drew) hb); (try clear cD130 cD131 cD132 cD133 cD134 cD135 cD136 cD137 cD138); (obtain ⟨cD130, cD131, cD132, cD133, cD134, cD135, cD136, cD137, cD138⟩ := row9c hD13); (try clear cD140 cD141 cD142 cD143 cD144 cD145 cD146 cD147 cD148); (obtain ⟨cD140, cD141, cD142, cD143, cD144, cD145, cD146, cD147, cD148⟩ := row9c hD14); (try clear cD150 cD151 cD152 cD153 cD154 cD155 cD156 cD157 cD158); (obtain ⟨cD150, cD151, cD152, cD153, cD154, cD155, cD156, cD157, cD158⟩ := row9c hD15); clear hb) | (go_at_call 43; with_reducible refine (addQ_any hq hr h3 _).mono ?_; rintro e W ⟨rfl, hb⟩; (first | replace hA := below_get hb hA | replace hA := below_get hb (ak hA)); (first | replace hB := below_get hb hB | replace hB := below_get hb (ak hB)); (first | replace hC := below_get hb hC | replace hC := below_get hb (ak hC)); (first | replace hD13 := below_get hb hD13 | replace hD13 := below_get hb (ak hD13)); (first | replace hD14 := below_get hb hD14 | replace hD14 := below_get hb (ak hD14)); (first | replace hD15 := below_get hb hD15 | replace hD15 := below_get hb (ak hD15)); (replace kk := bcl (by first | exact kk | exact kk.drew | exact bal kk _ | exact (bal kk _).drew) hb); (try clear cD130 cD131 cD132 cD133 cD134 cD135 cD136 cD137 cD138); (obtain ⟨cD130, cD131, cD132, cD133, cD134, cD135, cD136, cD137, cD138⟩ := row9c hD13); (try clear cD140 cD141 cD142 cD143 cD144 cD145 cD146 cD147 cD148); (obtain ⟨cD140, cD141, cD142, cD143, cD144, cD145, cD146, cD147, cD148⟩ := row9c hD14); (try clear cD150 cD151 cD152 cD153 cD154 cD155 cD156 cD157 cD158); (obtain ⟨cD150, cD151, cD152, cD153, cD154, cD155, cD156, cD157, cD158⟩ := row9c hD15); clear hb) | (go_at_call 43; with_reducible refine (addQ_any hp h3 h4 _).mono ?_; rintro e W ⟨rfl, hb⟩; (first | replace hA := below_get hb hA | replace hA := below_get hb (ak hA)); (first | replace hB := below_get hb hB | replace hB := below_get hb (ak hB)); (first | replace hC := below_get hb hC | replace hC := below_get hb (ak hC)); (first | replace hD13 := below_get hb hD13 | replace hD13 := below_get hb (ak hD13)); (first | replace hD14 := below_get hb hD14 | replace hD14 := below_get hb (ak hD14)); (first | replace hD15 := below_get hb hD15 | replace hD15 := below_get hb (ak hD15)); (replace kk := bcl (by first | exact kk | exact kk.drew | exact bal kk _ | exact (bal kk _).drew) hb); (try clear cD130 cD131 cD132 cD133 cD134 cD135 cD136 cD137 cD138); (obtain ⟨cD130, cD131, cD132, cD133, cD134, cD135, cD136, cD137, cD138⟩ := row9c hD13); (try clear cD140 cD141 cD142 cD143 cD144 cD145 cD146 cD147 cD148); (obtain ⟨cD140, cD141, cD142, cD143, cD144, cD145, cD146, cD147, cD148⟩ := row9c hD14); (try clear cD150 cD151 cD152 cD153 cD154 cD155 cD156 cD157 cD158); (obtain ⟨cD150, cD151, cD152, cD153, cD154, cD155, cD156, cD157, cD158⟩ := row9c hD15); clear hb))
  go_simp
  go_wp2_with fail
  refine bodyPost_ret (v := _) (by simp [results, Try.results10, go_sem]; rfl) rfl ?_
  exact ⟨rfl, kk⟩
end Go.Proofs.Ytgghopmlcpcpkaa
namespace Go.Proofs.Ytgghopmlcpcpkaa
open Go.ChangeShapes Go.WideShapes Go.ChangeAt Go.RowKit PlainK
set_option linter.unusedVariables false
set_option linter.unusedSimpArgs false
set_option maxHeartbeats 1000000 in
set_option maxRecDepth 100000 in
theorem curveGroups_lifted (os : Os) (started : os.Started) (H : Type) (enc : TypeId × Value → H) :
    ReturnsInHanded {} Try.checked os 10 .any (Rows.curveGroupsSpec.pre6 enc Try.prog Try.f10 Rows.curveGroupsRow.domain false) (Rows.curveGroupsSpec.post enc Try.prog Try.f10 false true false false) := by
  refine returnsInHanded_of_change (C := Try.checked) Try.own started (by kernel_rfl) Try.func10
    (ChangeSpec.witness6 (enc := enc) (C := Try.checked) false ⟨#[], #[.agg #[.int .u64 0, .int .u64 0, .int .u64 0, .int .u64 0], .agg #[.int .u64 0, .int .u64 0, .int .u64 0, .int .u64 0], .agg #[.int .u64 0, .int .u64 0, .int .u64 0, .int .u64 0], .bool false, .bool false, .bool false], []⟩ 8 (by kernel_rfl) (by kernel_rfl) (by kernel_rfl) (by kernel_rfl)) ?_
  intro W base args ds gs before hval0 hW hcnd _
  have hval : ∀ (j : Nat) t v, Try.f10.params[j]? = some t → args[j]? = some v → Value.okWide Try.prog W .any base t v := hval0
  have hW' := hW
  obtain ⟨p, q, hA0, hV, rfl, hfz, hnd⟩ := hW
  have hA : DataW.TrodAll enc Try.prog W 0 (fun _ => true) true Try.f10.params.toList args.toList ds p := hA0
  rw [Try.params10] at hA hval
  obtain ⟨v0, vs0, d0, ds0, p0, q0, hargs, rfl, rfl, h0, r0⟩ := trodAll_cons hA
  obtain ⟨v1, vs1, d1, ds1, p1, q1, rfl, rfl, rfl, h1, r1⟩ := trodAll_cons r0
  obtain ⟨v2, vs2, d2, ds2, p2, q2, rfl, rfl, rfl, h2, r2⟩ := trodAll_cons r1
  obtain ⟨v3, vs3, d3, ds3, p3, q3, rfl, rfl, rfl, h3, r3⟩ := trodAll_cons r2
  obtain ⟨v4, vs4, d4, ds4, p4, q4, rfl, rfl, rfl, h4, r4⟩ := trodAll_cons r3
  obtain ⟨v5, vs5, d5, ds5, p5, q5, rfl, rfl, rfl, h5, r5⟩ := trodAll_cons r4
  obtain ⟨rfl, rfl, rfl⟩ := trodAll_nil r5
  obtain rfl : args = #[v0, v1, v2, v3, v4, v5] := by cases args; simp_all
  obtain ⟨rfl, rfl⟩ := trodVars_none hV
  obtain ⟨x00, x01, x02, x03, rfl, rfl, rfl, y00, y01, y02, y03⟩ := open_arr4 (hval 0 24 v0 rfl rfl) h0
  obtain ⟨n0, hn0⟩ := W4.of_wf y00 y01 y02 y03
  obtain ⟨x10, x11, x12, x13, rfl, rfl, rfl, y10, y11, y12, y13⟩ := open_arr4 (hval 1 24 v1 rfl rfl) h1
  obtain ⟨n1, hn1⟩ := W4.of_wf y10 y11 y12 y13
  obtain ⟨x20, x21, x22, x23, rfl, rfl, rfl, y20, y21, y22, y23⟩ := open_arr4 (hval 2 24 v2 rfl rfl) h2
  obtain ⟨n2, hn2⟩ := W4.of_wf y20 y21 y22 y23
  obtain ⟨x3, rfl, rfl, rfl⟩ := open_bool Try.underlying4 (hval 3 4 v3 rfl rfl) h3
  obtain ⟨x4, rfl, rfl, rfl⟩ := open_bool Try.underlying4 (hval 4 4 v4 rfl rfl) h4
  obtain ⟨x5, rfl, rfl, rfl⟩ := open_bool Try.underlying4 (hval 5 4 v5 rfl rfl) h5
  clear hA0 hval0
  simp only [List.append_nil] at hW'
  refine (groups_any hn0 hn1 hn2 x3 x4 x5 W).mono fun e W' ⟨he, hg⟩ => ?_
  subst he
  exact ⟨_, rfl, post_law (pa := []) (pv := []) hW' (fun _ _ _ => (trodAll_cons_mk (shut_bool Try.underlying4 _) trodAll_mk0)) (fun sp _ => (trodAll_cons_mk (shut_arr4 y00 y01 y02 y03) (trodAll_cons_mk (shut_arr4 y10 y11 y12 y13) (trodAll_cons_mk (shut_arr4 y20 y21 y22 y23) (trodAll_cons_mk (shut_bool Try.underlying4 x3) (trodAll_cons_mk (shut_bool Try.underlying4 x4) (trodAll_cons_mk (shut_bool Try.underlying4 x5) trodAll_mk0))))))) (fun _ _ => rfl) rfl (hg.frame _)⟩

theorem curveGroups_proved : Rows.CurveGroupsSaid :=
  OpenClaim.holds_of_wide 10 Try.f10 rfl rfl rfl rfl rfl rfl rfl ⟨rfl, rfl, rfl, rfl, rfl⟩ rfl rfl rfl rfl rfl (by kernel_rfl) Try.func10 (by kernel_rfl)
    (of_decide_eq_true (by kernel_rfl)) (by unfold Func.isWrapper; first | (rw [if_pos (by decide +kernel)]; kernel_rfl) | (rw [if_neg (by decide +kernel)]; exact ⟨rfl, rfl⟩))
    (fun os started H enc _ => curveGroups_lifted os started H enc)
#print axioms curveGroups_proved
end Go.Proofs.Ytgghopmlcpcpkaa
