/- A step of the proof: what a function of the program computes, or a plain law of numbers. -/
import Derived.Test.YtgghopmlcpcpkaaAddRM
import Derived.Test.YtgghopmlcpcpkaaNegM
import Derived.Test.YtgghopmlcpcpkaaHeldT
import Derived.Test.YtgghopmlcpcpkaaPut12
namespace Go.Proofs.Ytgghopmlcpcpkaa
open Go.RowKit PlainK
set_option linter.unusedVariables false
set_option linter.unusedSimpArgs false
theorem rayP_any {a0 a1 a2 a3 b0 b1 b2 b3 : Int} {a : Pt PP} (ha : W4 a0 a1 a2 a3 (px a)) (hb : W4 b0 b1 b2 b3 (py a)) (w : World) :
   Calls Try.prog 74 #[.agg #[.int .u64 a0, .int .u64 a1, .int .u64 a2, .int .u64 a3, .int .u64 b0, .int .u64 b1, .int .u64 b2, .int .u64 b3, .bool (pn a)]] w fun e w' => e = .returned (.agg #[.int .u64 (w0 ((rayN a).x) : Nat), .int .u64 (w1 ((rayN a).x) : Nat), .int .u64 (w2 ((rayN a).x) : Nat), .int .u64 (w3 ((rayN a).x) : Nat), .int .u64 (w0 ((rayN a).y) : Nat), .int .u64 (w1 ((rayN a).y) : Nat), .int .u64 (w2 ((rayN a).y) : Nat), .int .u64 (w3 ((rayN a).y) : Nat), .int .u64 (w0 ((rayN a).z) : Nat), .int .u64 (w1 ((rayN a).z) : Nat), .int .u64 (w2 ((rayN a).z) : Nat), .int .u64 (w3 ((rayN a).z) : Nat)]) ∧ Below w.heap.size w w' := by
  cases a with
  | o => exact ray_none w
  | pt X Y => exact ray_pt ha hb w
theorem rayO_any (w : World) :
   Calls Try.prog 74 #[.agg #[.int .u64 0, .int .u64 0, .int .u64 0, .int .u64 0, .int .u64 0, .int .u64 0, .int .u64 0, .int .u64 0, .bool true]] w fun e w' => e = .returned (.agg #[.int .u64 (w0 ((rayN .o).x) : Nat), .int .u64 (w1 ((rayN .o).x) : Nat), .int .u64 (w2 ((rayN .o).x) : Nat), .int .u64 (w3 ((rayN .o).x) : Nat), .int .u64 (w0 ((rayN .o).y) : Nat), .int .u64 (w1 ((rayN .o).y) : Nat), .int .u64 (w2 ((rayN .o).y) : Nat), .int .u64 (w3 ((rayN .o).y) : Nat), .int .u64 (w0 ((rayN .o).z) : Nat), .int .u64 (w1 ((rayN .o).z) : Nat), .int .u64 (w2 ((rayN .o).z) : Nat), .int .u64 (w3 ((rayN .o).z) : Nat)]) ∧ Below w.heap.size w w' := ray_none w
theorem pointP_any {a0 a1 a2 a3 b0 b1 b2 b3 c0 c1 c2 c3 : Int} {t : T3} {a : Pt PP} {g : Nat} (hr : RayN t a) (ha : W4 a0 a1 a2 a3 t.x) (hb : W4 b0 b1 b2 b3 t.y) (hc : W4 c0 c1 c2 c3 t.z) (w : World) (hF : IsF w g PP) :
   Calls Try.prog 77 #[.agg #[.int .u64 a0, .int .u64 a1, .int .u64 a2, .int .u64 a3, .int .u64 b0, .int .u64 b1, .int .u64 b2, .int .u64 b3, .int .u64 c0, .int .u64 c1, .int .u64 c2, .int .u64 c3], .pointer (some ⟨g, 0, none⟩)] w fun e w' => e = .returned (.agg #[.int .u64 (w0 (px a) : Nat), .int .u64 (w1 (px a) : Nat), .int .u64 (w2 (px a) : Nat), .int .u64 (w3 (px a) : Nat), .int .u64 (w0 (py a) : Nat), .int .u64 (w1 (py a) : Nat), .int .u64 (w2 (py a) : Nat), .int .u64 (w3 (py a) : Nat), .bool (pn a)]) ∧ Below w.heap.size w w' := by
  by_cases hz : t.z % PP = 0
  · obtain rfl := (ray_z hr).1 hz
    exact point_none ha hb hc w hF hz
  · obtain ⟨e1, e2, e3⟩ := ray_pt_x hr hz
    rw [← e1, ← e2, e3]
    exact point_pt ha hb hc w hF hz
theorem rayE_any {a : Pt PP} {x y : Nat} {b : Bool} (hx : px a = x) (hy : py a = y) (hb : pn a = b) (lx : x < 2 ^ 256) (ly : y < 2 ^ 256) (w : World) :
   Calls Try.prog 74 #[.agg #[.int .u64 (w0 (x) : Nat), .int .u64 (w1 (x) : Nat), .int .u64 (w2 (x) : Nat), .int .u64 (w3 (x) : Nat), .int .u64 (w0 (y) : Nat), .int .u64 (w1 (y) : Nat), .int .u64 (w2 (y) : Nat), .int .u64 (w3 (y) : Nat), .bool b]] w fun e w' => e = .returned (.agg #[.int .u64 (w0 ((rayN a).x) : Nat), .int .u64 (w1 ((rayN a).x) : Nat), .int .u64 (w2 ((rayN a).x) : Nat), .int .u64 (w3 ((rayN a).x) : Nat), .int .u64 (w0 ((rayN a).y) : Nat), .int .u64 (w1 ((rayN a).y) : Nat), .int .u64 (w2 ((rayN a).y) : Nat), .int .u64 (w3 ((rayN a).y) : Nat), .int .u64 (w0 ((rayN a).z) : Nat), .int .u64 (w1 ((rayN a).z) : Nat), .int .u64 (w2 ((rayN a).z) : Nat), .int .u64 (w3 ((rayN a).z) : Nat)]) ∧ Below w.heap.size w w' := by
  subst hx hy hb
  exact rayP_any (W4.mk' lx) (W4.mk' ly) w
theorem times_step {a : Pt PP} (ha : a.on) (n i : Nat) : times finv (n / 2 ^ i) a = if n / 2 ^ i % 2 = 1 then padd' finv (padd' finv (times finv (n / 2 ^ (i + 1)) a) (times finv (n / 2 ^ (i + 1)) a)) a else padd' finv (times finv (n / 2 ^ (i + 1)) a) (times finv (n / 2 ^ (i + 1)) a) := by
  have h : n / 2 ^ i = 2 * (n / 2 ^ (i + 1)) + n / 2 ^ i % 2 := by
    have : n / 2 ^ (i + 1) = n / 2 ^ i / 2 := by rw [Nat.pow_succ, Nat.div_div_eq_div_mul]
    omega
  conv => lhs; rw [h]
  exact times_bit good ha _ _ (Nat.mod_lt _ (by decide))
set_option maxRecDepth 10000 in
set_option maxHeartbeats 8000000 in
theorem times_off {a0 a1 a2 a3 b0 b1 b2 b3 c0 c1 c2 c3 : Int} {x y k : Nat} (n : Bool) (ha : W4 a0 a1 a2 a3 x) (hb : W4 b0 b1 b2 b3 y) (hc : W4 c0 c1 c2 c3 k) (h : onB x y n = false) (w : World) :
   Calls Try.prog 40 #[.agg #[.int .u64 a0, .int .u64 a1, .int .u64 a2, .int .u64 a3, .int .u64 b0, .int .u64 b1, .int .u64 b2, .int .u64 b3, .bool n], .agg #[.int .u64 c0, .int .u64 c1, .int .u64 c2, .int .u64 c3]] w fun e w' => e = .returned (.agg #[.int .u64 0, .int .u64 0, .int .u64 0, .int .u64 0, .int .u64 0, .int .u64 0, .int .u64 0, .int .u64 0, .bool true]) ∧ Below w.heap.size w w' := by
  obtain ⟨rfl, rfl, rfl, rfl, la⟩ := ha
  obtain ⟨rfl, rfl, rfl, rfl, lb⟩ := hb
  obtain ⟨rfl, rfl, rfl, rfl, lc⟩ := hc
  have hla := Lib.hid la
  have hlb := Lib.hid lb
  have HB := Lib.hid h
  clear la lb lc h
  go_enter Try.func40, Try.ntmps40
  go_upto_region 1 with fail
  obtain ⟨V0, hW⟩ : ∃ V, ((w.alloc (.cells #[.int .u64 (w0 (x) : Nat), .int .u64 (w1 (x) : Nat), .int .u64 (w2 (x) : Nat), .int .u64 (w3 (x) : Nat), .int .u64 (w0 (y) : Nat), .int .u64 (w1 (y) : Nat), .int .u64 (w2 (y) : Nat), .int .u64 (w3 (y) : Nat), .bool n] 52)).alloc (.cells #[.int .u64 (w0 (k) : Nat), .int .u64 (w1 (k) : Nat), .int .u64 (w2 (k) : Nat), .int .u64 (w3 (k) : Nat)] 24)).alloc (.cells #[.int .u64 0, .int .u64 0, .int .u64 0, .int .u64 0, .int .u64 0, .int .u64 0, .int .u64 0, .int .u64 0, .bool false] 52) = V := ⟨_, rfl⟩
  rw [hW]
  have hA : V0.heap[w.heap.size]? = some (.cells #[.int .u64 (w0 (x) : Nat), .int .u64 (w1 (x) : Nat), .int .u64 (w2 (x) : Nat), .int .u64 (w3 (x) : Nat), .int .u64 (w0 (y) : Nat), .int .u64 (w1 (y) : Nat), .int .u64 (w2 (y) : Nat), .int .u64 (w3 (y) : Nat), .bool n] 52 (0, 0)) := by
    rw [← hW]; simp only [alloc_at, World.size_alloc]; repeat (first | rw [if_pos trivial] | rw [if_pos (by omega)] | rw [if_neg (by omega)])
  have hR : V0.heap[w.heap.size + 2]? = some (.cells #[.int .u64 0, .int .u64 0, .int .u64 0, .int .u64 0, .int .u64 0, .int .u64 0, .int .u64 0, .int .u64 0, .bool false] 52 (0, 0)) := by
    rw [← hW]; simp only [alloc_at, World.size_alloc]; repeat (first | rw [if_pos trivial] | rw [if_pos (by omega)] | rw [if_neg (by omega)])
  have kk : Below w.heap.size w V0 := by
    rw [← hW]
    repeat (first | exact Below.refl _ _ | refine Below.drew ?_ | refine bal ?_ _)
  clear hW
  obtain ⟨cA0, cA1, cA2, cA3, cA4, cA5, cA6, cA7, cA8⟩ := row9c hA
  obtain ⟨zA0, zA1, zA2, zA3, zA4, zA5, zA6, zA7, zA8⟩ := row9z hA
  go_wp2_with fail
  refine (on_any n (W4.mk' hla.out) (W4.mk' hlb.out) _).mono ?_
  rintro e V1 ⟨rfl, hb⟩
  replace hA := below_get hb hA
  replace hR := below_get hb hR
  replace kk := bcl (by first | exact kk | exact kk.drew | exact below_drewN kk _) hb
  clear cA0 zA0 cA1 zA1 cA2 zA2 cA3 zA3 cA4 zA4 cA5 zA5 cA6 zA6 cA7 zA7 cA8 zA8
  clear hb
  rw [HB.out]
  obtain ⟨cR0, cR1, cR2, cR3, cR4, cR5, cR6, cR7, cR8⟩ := row9c hR
  obtain ⟨zR0, zR1, zR2, zR3, zR4, zR5, zR6, zR7, zR8⟩ := row9z hR
  go_wp2_with fail
  have P := put9 (.int .u64 0) (.int .u64 0) (.int .u64 0) (.int .u64 0) (.int .u64 0) (.int .u64 0) (.int .u64 0) (.int .u64 0) (.bool true) hR
  replace P := put_hid P
  obtain ⟨V9, hV9, P⟩ := P
  rw [hV9]
  have P9 := P.here
  have k9 := P.below (by omega) (show Below w.heap.size w V1 from by first | exact kk | exact kk.drew | exact below_drewN kk _)
  obtain ⟨v0, v1, v2, v3, v4, v5, v6, v7, v8⟩ := row9c P9
  refine bodyPost_ret (v := _) (by simp [results, Try.results40, go_sem, v0, v1, v2, v3, v4, v5, v6, v7, v8]; rfl) rfl ?_
  exact ⟨rfl, k9⟩
set_option maxRecDepth 10000 in
set_option maxHeartbeats 16000000 in
theorem timesN_any {a0 a1 a2 a3 b0 b1 b2 b3 c0 c1 c2 c3 : Int} {a : Pt PP} {k : Nat} (hon : a.on) (ha : W4 a0 a1 a2 a3 (px a)) (hb : W4 b0 b1 b2 b3 (py a)) (hc : W4 c0 c1 c2 c3 k) (w : World) :
   Calls Try.prog 40 #[.agg #[.int .u64 a0, .int .u64 a1, .int .u64 a2, .int .u64 a3, .int .u64 b0, .int .u64 b1, .int .u64 b2, .int .u64 b3, .bool (pn a)], .agg #[.int .u64 c0, .int .u64 c1, .int .u64 c2, .int .u64 c3]] w fun e w' => e = .returned (.agg #[.int .u64 (w0 (px (times finv (k % NN) a)) : Nat), .int .u64 (w1 (px (times finv (k % NN) a)) : Nat), .int .u64 (w2 (px (times finv (k % NN) a)) : Nat), .int .u64 (w3 (px (times finv (k % NN) a)) : Nat), .int .u64 (w0 (py (times finv (k % NN) a)) : Nat), .int .u64 (w1 (py (times finv (k % NN) a)) : Nat), .int .u64 (w2 (py (times finv (k % NN) a)) : Nat), .int .u64 (w3 (py (times finv (k % NN) a)) : Nat), .bool (pn (times finv (k % NN) a))]) ∧ Below w.heap.size w w' := by
  obtain ⟨rfl, rfl, rfl, rfl, la⟩ := ha
  obtain ⟨rfl, rfl, rfl, rfl, lb⟩ := hb
  obtain ⟨rfl, rfl, rfl, rfl, lc⟩ := hc
  have HB := Lib.hid (onB_enc hon)
  have HO := Lib.hid hon
  have hlc := Lib.hid lc
  have HR := Lib.hid (RayN.of a)
  obtain ⟨x, hx⟩ : ∃ x, px a = x := ⟨_, rfl⟩
  obtain ⟨y, hy⟩ : ∃ y, py a = y := ⟨_, rfl⟩
  obtain ⟨b, hbn⟩ : ∃ b, pn a = b := ⟨_, rfl⟩
  rw [hx] at la HB ⊢
  rw [hy] at lb HB ⊢
  rw [hbn] at HB ⊢
  have hla := Lib.hid la
  have hlb := Lib.hid lb
  have HX := Lib.hid hx
  have HY := Lib.hid hy
  have HBN := Lib.hid hbn
  clear la lb lc hon hx hy hbn
  have hNpos : 0 < NN := Nat.lt_of_lt_of_le (by decide) (show 2 ≤ NN by decide +kernel)
  have HNl := Lib.hid NN_lt
  go_enter Try.func40, Try.ntmps40
  go_upto_region 1 with fail
  obtain ⟨V0, hW⟩ : ∃ V, ((w.alloc (.cells #[.int .u64 (w0 (x) : Nat), .int .u64 (w1 (x) : Nat), .int .u64 (w2 (x) : Nat), .int .u64 (w3 (x) : Nat), .int .u64 (w0 (y) : Nat), .int .u64 (w1 (y) : Nat), .int .u64 (w2 (y) : Nat), .int .u64 (w3 (y) : Nat), .bool b] 52)).alloc (.cells #[.int .u64 (w0 (k) : Nat), .int .u64 (w1 (k) : Nat), .int .u64 (w2 (k) : Nat), .int .u64 (w3 (k) : Nat)] 24)).alloc (.cells #[.int .u64 0, .int .u64 0, .int .u64 0, .int .u64 0, .int .u64 0, .int .u64 0, .int .u64 0, .int .u64 0, .bool false] 52) = V := ⟨_, rfl⟩
  rw [hW]
  have hA : V0.heap[w.heap.size]? = some (.cells #[.int .u64 (w0 (x) : Nat), .int .u64 (w1 (x) : Nat), .int .u64 (w2 (x) : Nat), .int .u64 (w3 (x) : Nat), .int .u64 (w0 (y) : Nat), .int .u64 (w1 (y) : Nat), .int .u64 (w2 (y) : Nat), .int .u64 (w3 (y) : Nat), .bool b] 52 (0, 0)) := by
    rw [← hW]; simp only [alloc_at, World.size_alloc]; repeat (first | rw [if_pos trivial] | rw [if_pos (by omega)] | rw [if_neg (by omega)])
  have hK1 : V0.heap[w.heap.size + 1]? = some (.cells #[.int .u64 (w0 (k) : Nat), .int .u64 (w1 (k) : Nat), .int .u64 (w2 (k) : Nat), .int .u64 (w3 (k) : Nat)] 24 (0, 0)) := by
    rw [← hW]; simp only [alloc_at, World.size_alloc]; repeat (first | rw [if_pos trivial] | rw [if_pos (by omega)] | rw [if_neg (by omega)])
  have hR : V0.heap[w.heap.size + 2]? = some (.cells #[.int .u64 0, .int .u64 0, .int .u64 0, .int .u64 0, .int .u64 0, .int .u64 0, .int .u64 0, .int .u64 0, .bool false] 52 (0, 0)) := by
    rw [← hW]; simp only [alloc_at, World.size_alloc]; repeat (first | rw [if_pos trivial] | rw [if_pos (by omega)] | rw [if_neg (by omega)])
  have kk : Below w.heap.size w V0 := by
    rw [← hW]
    repeat (first | exact Below.refl _ _ | refine Below.drew ?_ | refine bal ?_ _)
  clear hW
  obtain ⟨cA0, cA1, cA2, cA3, cA4, cA5, cA6, cA7, cA8⟩ := row9c hA
  obtain ⟨zA0, zA1, zA2, zA3, zA4, zA5, zA6, zA7, zA8⟩ := row9z hA
  go_wp2_with fail
  refine (on_any b (W4.mk' hla.out) (W4.mk' hlb.out) _).mono ?_
  rintro e V1 ⟨rfl, hb⟩
  replace hA := below_get hb hA
  replace hK1 := below_get hb hK1
  replace hR := below_get hb hR
  replace kk := bcl (by first | exact kk | exact kk.drew | exact below_drewN kk _) hb
  clear cA0 zA0 cA1 zA1 cA2 zA2 cA3 zA3 cA4 zA4 cA5 zA5 cA6 zA6 cA7 zA7 cA8 zA8
  clear hb
  rw [HB.out]
  go_wp2_with fail
  refine (prime_any _).mono ?_
  rintro e V2 ⟨g, hg, rfl, hF, hb⟩
  have lR := lt_of_heap hR
  replace hA := below_get hb hA
  replace hK1 := below_get hb hK1
  replace hR := below_get hb hR
  replace kk := bcl (by first | exact kk | exact kk.drew | exact below_drewN kk _) hb
  clear hb
  have HF := Lib.hid hF
  have hQ := hF.blk
  have fF := hF
  have hpos : 0 < PP := Nat.lt_trans (by decide) PP_pos
  have HM := Lib.hid PP_lt
  clear hF
  go_upto_region 4 with fail
  try clear cK10 cK11 cK12 cK13
  obtain ⟨cK10, cK11, cK12, cK13⟩ := row4c hK1
  refine startT (S := (fun w' => w'.cell? ⟨w.heap.size + 1, 0, none⟩ = some (.int .u64 (w0 (k) : Nat)) ∧ w'.cell? ⟨w.heap.size + 1, 1, none⟩ = some (.int .u64 (w1 (k) : Nat)) ∧ w'.cell? ⟨w.heap.size + 1, 2, none⟩ = some (.int .u64 (w2 (k) : Nat)) ∧ w'.cell? ⟨w.heap.size + 1, 3, none⟩ = some (.int .u64 (w3 (k) : Nat)))) 3 (by kernel_rfl) (by (try dsimp only); first | (with_reducible exact ⟨cK10, cK11, cK12, cK13⟩) | exact ⟨cK10, cK11, cK12, cK13⟩ | go_keep) (fun hHeld => ?_)
  refine takeT (i := 1) (d := some 15) (v := ?_) _ rfl rfl (by rfl) (by kernel_rfl) (by decide) (by kernel_rfl) (by kernel_rfl) (by kernel_rfl) (fun _ _ _ h => h) (by assumption) (by kernel_rfl) ?_ ?_
  rotate_left
  · (first | (intro w' hSw; (try dsimp only at hSw); go_simp; try (with_reducible rfl)) | (intro w'; go_simp; try (with_reducible rfl)))
  try simp only [Act.put, List.setIfInBounds_toArray, List.set_cons_zero, List.set_cons_succ]
  refine callT (i := 0) _ rfl (by rfl) (by kernel_rfl) (fun K hK => ?_)
  go_simp
  first | (go_at_call 41; refine (order_any _).mono ?_; rintro e W ⟨g2, hg2, rfl, fN, hb⟩; (first | replace hA := below_get hb hA | replace hA := below_get hb (ak hA)); (first | replace hK1 := below_get hb hK1 | replace hK1 := below_get hb (ak hK1)); (first | replace hR := below_get hb hR | replace hR := below_get hb (ak hR)); (first | replace hQ := below_get hb hQ | replace hQ := below_get hb (ak hQ)); (replace kk := bcl (by first | exact kk | exact kk.drew | exact bal kk _ | exact (bal kk _).drew) hb); (replace fF := IsF.of HF.out hQ); (try clear cK10 cK11 cK12 cK13); (obtain ⟨cK10, cK11, cK12, cK13⟩ := row4c hK1); (try clear cK10 cK11 cK12 cK13); (obtain ⟨cK10, cK11, cK12, cK13⟩ := row4c hK1); (obtain ⟨zK10, zK11, zK12, zK13⟩ := row4z hK1); clear hb) | (go_at_call 19; refine (reduce_any (by first | exact W4.mk' hla.out | exact W4.mk' hlb.out | exact W4.mk' hlc.out | exact W4.mk' HM.out | exact W4.mk' (Nat.lt_trans (Nat.mod_lt _ hpos) HM.out) | exact W4.zero | exact W4.small (n := 1) rfl (by decide) | exact W4.small (n := 2) rfl (by decide) | exact W4.small (n := 3) rfl (by decide) | exact W4.small (n := 4) rfl (by decide) | exact W4.small (n := 5) rfl (by decide) | exact W4.small (n := 7) rfl (by decide)) _ (show IsF _ _ NN from by exact fN).toM).mono ?_; rintro e W ⟨rfl, hb⟩; (first | replace hA := below_get hb hA | replace hA := below_get hb (ak hA)); (first | replace hK1 := below_get hb hK1 | replace hK1 := below_get hb (ak hK1)); (first | replace hR := below_get hb hR | replace hR := below_get hb (ak hR)); (first | replace hQ := below_get hb hQ | replace hQ := below_get hb (ak hQ)); (replace kk := bcl (by first | exact kk | exact kk.drew | exact bal kk _ | exact (bal kk _).drew) hb); (replace fF := IsF.of HF.out hQ); (try clear cK10 cK11 cK12 cK13); (obtain ⟨cK10, cK11, cK12, cK13⟩ := row4c hK1); (try clear cK10 cK11 cK12 cK13); (obtain ⟨cK10, cK11, cK12, cK13⟩ := row4c hK1); (obtain ⟨zK10, zK11, zK12, zK13⟩ := row4z hK1); clear hb)
  try go_wp2_with fail
  replace hHeld : (fun w' => w'.cell? ⟨w.heap.size + 1, 0, none⟩ = some (.int .u64 (w0 (k) : Nat)) ∧ w'.cell? ⟨w.heap.size + 1, 1, none⟩ = some (.int .u64 (w1 (k) : Nat)) ∧ w'.cell? ⟨w.heap.size + 1, 2, none⟩ = some (.int .u64 (w2 (k) : Nat)) ∧ w'.cell? ⟨w.heap.size + 1, 3, none⟩ = some (.int .u64 (w3 (k) : Nat))) W := (by (try dsimp only); first | (with_reducible exact ⟨cK10, cK11, cK12, cK13⟩) | exact ⟨cK10, cK11, cK12, cK13⟩ | go_keep)
  refine hK.out _ _ (Or.inr hHeld) ?_
  clear hK K
  try simp only [Act.put, List.setIfInBounds_toArray, List.set_cons_zero, List.set_cons_succ]
  refine callT (i := 2) _ rfl (by rfl) (by kernel_rfl) (fun K hK => ?_)
  go_simp
  first | (go_at_call 41; refine (order_any _).mono ?_; rintro e W ⟨g2, hg2, rfl, fN, hb⟩; (first | replace hA := below_get hb hA | replace hA := below_get hb (ak hA)); (first | replace hK1 := below_get hb hK1 | replace hK1 := below_get hb (ak hK1)); (first | replace hR := below_get hb hR | replace hR := below_get hb (ak hR)); (first | replace hQ := below_get hb hQ | replace hQ := below_get hb (ak hQ)); (replace kk := bcl (by first | exact kk | exact kk.drew | exact bal kk _ | exact (bal kk _).drew) hb); (replace fF := IsF.of HF.out hQ); (try clear cK10 cK11 cK12 cK13); (obtain ⟨cK10, cK11, cK12, cK13⟩ := row4c hK1); (try clear cK10 cK11 cK12 cK13); (obtain ⟨cK10, cK11, cK12, cK13⟩ := row4c hK1); (obtain ⟨zK10, zK11, zK12, zK13⟩ := row4z hK1); clear hb) | (go_at_call 19; refine (reduce_any (by first | exact W4.mk' hla.out | exact W4.mk' hlb.out | exact W4.mk' hlc.out | exact W4.mk' HM.out | exact W4.mk' (Nat.lt_trans (Nat.mod_lt _ hpos) HM.out) | exact W4.zero | exact W4.small (n := 1) rfl (by decide) | exact W4.small (n := 2) rfl (by decide) | exact W4.small (n := 3) rfl (by decide) | exact W4.small (n := 4) rfl (by decide) | exact W4.small (n := 5) rfl (by decide) | exact W4.small (n := 7) rfl (by decide)) _ (show IsF _ _ NN from by exact fN).toM).mono ?_; rintro e W ⟨rfl, hb⟩; (first | replace hA := below_get hb hA | replace hA := below_get hb (ak hA)); (first | replace hK1 := below_get hb hK1 | replace hK1 := below_get hb (ak hK1)); (first | replace hR := below_get hb hR | replace hR := below_get hb (ak hR)); (first | replace hQ := below_get hb hQ | replace hQ := below_get hb (ak hQ)); (replace kk := bcl (by first | exact kk | exact kk.drew | exact bal kk _ | exact (bal kk _).drew) hb); (replace fF := IsF.of HF.out hQ); (try clear cK10 cK11 cK12 cK13); (obtain ⟨cK10, cK11, cK12, cK13⟩ := row4c hK1); (try clear cK10 cK11 cK12 cK13); (obtain ⟨cK10, cK11, cK12, cK13⟩ := row4c hK1); (obtain ⟨zK10, zK11, zK12, zK13⟩ := row4z hK1); clear hb)
  try go_wp2_with fail
  replace hHeld : (fun w' => w'.cell? ⟨w.heap.size + 1, 0, none⟩ = some (.int .u64 (w0 (k) : Nat)) ∧ w'.cell? ⟨w.heap.size + 1, 1, none⟩ = some (.int .u64 (w1 (k) : Nat)) ∧ w'.cell? ⟨w.heap.size + 1, 2, none⟩ = some (.int .u64 (w2 (k) : Nat)) ∧ w'.cell? ⟨w.heap.size + 1, 3, none⟩ = some (.int .u64 (w3 (k) : Nat))) W := (by (try dsimp only); first | (with_reducible exact ⟨cK10, cK11, cK12, cK13⟩) | exact ⟨cK10, cK11, cK12, cK13⟩ | go_keep)
  refine hK.out _ _ (Or.inr hHeld) ?_
  clear hK K
  try simp only [Act.put, List.setIfInBounds_toArray, List.set_cons_zero, List.set_cons_succ]
  refine callT (i := 3) _ rfl (by rfl) (by kernel_rfl) (fun K hK => ?_)
  go_simp
  refine hK.out _ _ (Or.inl (by kernel_rfl)) ?_
  clear hK K
  try simp only [Act.put, List.setIfInBounds_toArray, List.set_cons_zero, List.set_cons_succ]
  refine doneT (by kernel_rfl) ?_ _
  go_simp
  go_wp2_with fail
  have P := put4 (.int .u64 (w0 (k % NN) : Nat)) (.int .u64 (w1 (k % NN) : Nat)) (.int .u64 (w2 (k % NN) : Nat)) (.int .u64 (w3 (k % NN) : Nat)) hK1
  replace P := put_hid P
  obtain ⟨V4, hW, P⟩ := P
  rw [hW]
  replace hK1 := P.here
  replace hA := (P.there (w.heap.size) (by omega)).trans (show _ = some (.cells #[.int .u64 (w0 (x) : Nat), .int .u64 (w1 (x) : Nat), .int .u64 (w2 (x) : Nat), .int .u64 (w3 (x) : Nat), .int .u64 (w0 (y) : Nat), .int .u64 (w1 (y) : Nat), .int .u64 (w2 (y) : Nat), .int .u64 (w3 (y) : Nat), .bool b] 52 (0, 0)) from hA)
  replace hR := (P.there (w.heap.size + 2) (by omega)).trans (show _ = some (.cells #[.int .u64 0, .int .u64 0, .int .u64 0, .int .u64 0, .int .u64 0, .int .u64 0, .int .u64 0, .int .u64 0, .bool false] 52 (0, 0)) from hR)
  replace hQ := (P.there (g) (by omega)).trans (show _ = some (.cells #[.int .u64 (w0 (PP) : Nat), .int .u64 (w1 (PP) : Nat), .int .u64 (w2 (PP) : Nat), .int .u64 (w3 (PP) : Nat), .int .u64 (finv1 (PP) : Nat), .int .u64 (w0 (fsq (PP)) : Nat), .int .u64 (w1 (fsq (PP)) : Nat), .int .u64 (w2 (fsq (PP)) : Nat), .int .u64 (w3 (fsq (PP)) : Nat)] 90 (0, 0)) from hQ)
  replace kk := P.below (by omega) (show Below w.heap.size w W from by first | exact kk | exact kk.drew | exact below_drewN kk _)
  replace fF := IsF.of HF.out hQ
  clear P hW
  obtain ⟨q, hq⟩ : ∃ q, k % NN = q := ⟨_, rfl⟩
  rw [hq] at hK1
  have HQ := Lib.hid hq
  have GQ := Lib.hid (show q < 2 ^ 256 by rw [← hq]; exact Nat.lt_trans (Nat.mod_lt _ hNpos) HNl.out)
  clear hq
  go_upto_region 5 with fail
  go_cut [6, 7] (fun s6 s7 wx => ∃ d6 d7 : Nat, s6 = .pointer (some ⟨d6, 0, none⟩) ∧ s7 = .pointer (some ⟨d7, 0, none⟩) ∧ wx.heap[d6]? = some (.cells #[.int .u64 (w0 ((rayN .o).x) : Nat), .int .u64 (w1 ((rayN .o).x) : Nat), .int .u64 (w2 ((rayN .o).x) : Nat), .int .u64 (w3 ((rayN .o).x) : Nat), .int .u64 (w0 ((rayN .o).y) : Nat), .int .u64 (w1 ((rayN .o).y) : Nat), .int .u64 (w2 ((rayN .o).y) : Nat), .int .u64 (w3 ((rayN .o).y) : Nat), .int .u64 (w0 ((rayN .o).z) : Nat), .int .u64 (w1 ((rayN .o).z) : Nat), .int .u64 (w2 ((rayN .o).z) : Nat), .int .u64 (w3 ((rayN .o).z) : Nat)] 103 (0, 0)) ∧ wx.heap[d7]? = some (.cells #[.int .u64 (w0 ((rayN a).x) : Nat), .int .u64 (w1 ((rayN a).x) : Nat), .int .u64 (w2 ((rayN a).x) : Nat), .int .u64 (w3 ((rayN a).x) : Nat), .int .u64 (w0 ((rayN a).y) : Nat), .int .u64 (w1 ((rayN a).y) : Nat), .int .u64 (w2 ((rayN a).y) : Nat), .int .u64 (w3 ((rayN a).y) : Nat), .int .u64 (w0 ((rayN a).z) : Nat), .int .u64 (w1 ((rayN a).z) : Nat), .int .u64 (w2 ((rayN a).z) : Nat), .int .u64 (w3 ((rayN a).z) : Nat)] 103 (0, 0)) ∧ wx.heap[w.heap.size]? = some (.cells #[.int .u64 (w0 (x) : Nat), .int .u64 (w1 (x) : Nat), .int .u64 (w2 (x) : Nat), .int .u64 (w3 (x) : Nat), .int .u64 (w0 (y) : Nat), .int .u64 (w1 (y) : Nat), .int .u64 (w2 (y) : Nat), .int .u64 (w3 (y) : Nat), .bool b] 52 (0, 0)) ∧ wx.heap[w.heap.size+1]? = some (.cells #[.int .u64 (w0 (q) : Nat), .int .u64 (w1 (q) : Nat), .int .u64 (w2 (q) : Nat), .int .u64 (w3 (q) : Nat)] 24 (0, 0)) ∧ wx.heap[w.heap.size + 2]? = some (.cells #[.int .u64 0, .int .u64 0, .int .u64 0, .int .u64 0, .int .u64 0, .int .u64 0, .int .u64 0, .int .u64 0, .bool false] 52 (0, 0)) ∧ wx.heap[g]? = some (.cells #[.int .u64 (w0 (PP) : Nat), .int .u64 (w1 (PP) : Nat), .int .u64 (w2 (PP) : Nat), .int .u64 (w3 (PP) : Nat), .int .u64 (finv1 (PP) : Nat), .int .u64 (w0 (fsq (PP)) : Nat), .int .u64 (w1 (fsq (PP)) : Nat), .int .u64 (w2 (fsq (PP)) : Nat), .int .u64 (w3 (fsq (PP)) : Nat)] 90 (0, 0)) ∧ d6 ≥ w.heap.size ∧ d7 ≥ w.heap.size ∧ (w.heap.size) ≠ d6 ∧ (w.heap.size+1) ≠ d6 ∧ (w.heap.size + 2) ≠ d6 ∧ (g) ≠ d6 ∧ (w.heap.size) ≠ d7 ∧ (w.heap.size+1) ≠ d7 ∧ (w.heap.size + 2) ≠ d7 ∧ (g) ≠ d7 ∧ d7 ≠ d6 ∧ Below w.heap.size w wx)
  case first =>
    have lF := lt_of_heap hQ
    have nF := Nat.ne_of_lt lF
    have mF := nF.symm
    have lK := kk.size
    have lA := lt_of_heap hA
    have nA := Nat.ne_of_lt lA
    have mA := nA.symm
    have nA9 : _ ≠ V4.heap.size + 1 := Nat.ne_of_lt (Nat.lt_succ_of_lt lA)
    have mA9 := nA9.symm
    have lK1 := lt_of_heap hK1
    have nK1 := Nat.ne_of_lt lK1
    have mK1 := nK1.symm
    have nK19 : _ ≠ V4.heap.size + 1 := Nat.ne_of_lt (Nat.lt_succ_of_lt lK1)
    have mK19 := nK19.symm
    have lR := lt_of_heap hR
    have nR := Nat.ne_of_lt lR
    have mR := nR.symm
    have nR9 : _ ≠ V4.heap.size + 1 := Nat.ne_of_lt (Nat.lt_succ_of_lt lR)
    have mR9 := nR9.symm
    have lQ := lt_of_heap hQ
    have nQ := Nat.ne_of_lt lQ
    have mQ := nQ.symm
    have nQ9 : _ ≠ V4.heap.size + 1 := Nat.ne_of_lt (Nat.lt_succ_of_lt lQ)
    have mQ9 := nQ9.symm
    have nF9 : _ ≠ V4.heap.size + 1 := Nat.ne_of_lt (Nat.lt_succ_of_lt lF)
    have mF9 := nF9.symm
    try clear cA0 cA1 cA2 cA3 cA4 cA5 cA6 cA7 cA8
    obtain ⟨cA0, cA1, cA2, cA3, cA4, cA5, cA6, cA7, cA8⟩ := row9c hA
    go_region_held3 (fun w' => w'.cell? ⟨w.heap.size, 0, none⟩ = some (.int .u64 (w0 (x) : Nat)) ∧ w'.cell? ⟨w.heap.size, 1, none⟩ = some (.int .u64 (w1 (x) : Nat)) ∧ w'.cell? ⟨w.heap.size, 2, none⟩ = some (.int .u64 (w2 (x) : Nat)) ∧ w'.cell? ⟨w.heap.size, 3, none⟩ = some (.int .u64 (w3 (x) : Nat)) ∧ w'.cell? ⟨w.heap.size, 4, none⟩ = some (.int .u64 (w0 (y) : Nat)) ∧ w'.cell? ⟨w.heap.size, 5, none⟩ = some (.int .u64 (w1 (y) : Nat)) ∧ w'.cell? ⟨w.heap.size, 6, none⟩ = some (.int .u64 (w2 (y) : Nat)) ∧ w'.cell? ⟨w.heap.size, 7, none⟩ = some (.int .u64 (w3 (y) : Nat)) ∧ w'.cell? ⟨w.heap.size, 8, none⟩ = some (.bool b)) (first | (with_reducible exact ⟨cA0, cA1, cA2, cA3, cA4, cA5, cA6, cA7, cA8⟩) | go_keep) (first | (have wchk : W1 = W1 := rfl; clear wchk; go_at_call 74; refine (rayE_any HX.out HY.out HBN.out hla.out hlb.out _).mono ?_; rintro e W2 ⟨rfl, hb⟩; (first | replace hA := below_get hb hA | replace hA := below_get hb (ak hA) | replace hA := below_get hb (ak (ak hA))); (first | replace hK1 := below_get hb hK1 | replace hK1 := below_get hb (ak hK1) | replace hK1 := below_get hb (ak (ak hK1))); (first | replace hR := below_get hb hR | replace hR := below_get hb (ak hR) | replace hR := below_get hb (ak (ak hR))); (first | replace hQ := below_get hb hQ | replace hQ := below_get hb (ak hQ) | replace hQ := below_get hb (ak (ak hQ))); (replace kk := bcl (by first | exact kk | exact kk.drew | exact bal kk _ | exact (bal kk _).drew | exact bal (bal kk _) _ | exact (bal (bal kk _) _).drew) hb); (replace fF := IsF.of HF.out hQ); (have lA := lt_of_heap hA); (have nA := Nat.ne_of_lt lA); (have mA := nA.symm); (have nA9 : _ ≠ W2.heap.size + 1 := Nat.ne_of_lt (Nat.lt_succ_of_lt lA)); (have mA9 := nA9.symm); (have lK1 := lt_of_heap hK1); (have nK1 := Nat.ne_of_lt lK1); (have mK1 := nK1.symm); (have nK19 : _ ≠ W2.heap.size + 1 := Nat.ne_of_lt (Nat.lt_succ_of_lt lK1)); (have mK19 := nK19.symm); (have lR := lt_of_heap hR); (have nR := Nat.ne_of_lt lR); (have mR := nR.symm); (have nR9 : _ ≠ W2.heap.size + 1 := Nat.ne_of_lt (Nat.lt_succ_of_lt lR)); (have mR9 := nR9.symm); (have lQ := lt_of_heap hQ); (have nQ := Nat.ne_of_lt lQ); (have mQ := nQ.symm); (have nQ9 : _ ≠ W2.heap.size + 1 := Nat.ne_of_lt (Nat.lt_succ_of_lt lQ)); (have mQ9 := nQ9.symm); (have lF := lt_of_heap hQ); (have nF := Nat.ne_of_lt lF); (have mF := nF.symm); (have nF9 : _ ≠ W2.heap.size + 1 := Nat.ne_of_lt (Nat.lt_succ_of_lt lF)); (have mF9 := nF9.symm); (try (first | (replace hB := below_get hb hB; replace hC := below_get hb hC; obtain ⟨cB0, cB1, cB2, cB3, cB4, cB5, cB6, cB7, cB8, cB9, cB10, cB11⟩ := row12c hB; obtain ⟨zB0, zB1, zB2, zB3, zB4, zB5, zB6, zB7, zB8, zB9, zB10, zB11⟩ := row12z hB; have lB := lt_of_heap hB; (have nB := Nat.ne_of_lt lB); (have mB := nB.symm); (have nB9 : _ ≠ W2.heap.size + 1 := Nat.ne_of_lt (Nat.lt_succ_of_lt lB)); (have mB9 := nB9.symm); obtain ⟨cC0, cC1, cC2, cC3, cC4, cC5, cC6, cC7, cC8, cC9, cC10, cC11⟩ := row12c hC; obtain ⟨zC0, zC1, zC2, zC3, zC4, zC5, zC6, zC7, zC8, zC9, zC10, zC11⟩ := row12z hC; have lC := lt_of_heap hC; (have nC := Nat.ne_of_lt lC); (have mC := nC.symm); (have nC9 : _ ≠ W2.heap.size + 1 := Nat.ne_of_lt (Nat.lt_succ_of_lt lC)); (have mC9 := nC9.symm)) | (have hC := below_get hb (heap_alloc_new W1 _); replace hB := below_get hb (ak hB); obtain ⟨cB0, cB1, cB2, cB3, cB4, cB5, cB6, cB7, cB8, cB9, cB10, cB11⟩ := row12c hB; obtain ⟨zB0, zB1, zB2, zB3, zB4, zB5, zB6, zB7, zB8, zB9, zB10, zB11⟩ := row12z hB; have lB := lt_of_heap hB; (have nB := Nat.ne_of_lt lB); (have mB := nB.symm); (have nB9 : _ ≠ W2.heap.size + 1 := Nat.ne_of_lt (Nat.lt_succ_of_lt lB)); (have mB9 := nB9.symm); obtain ⟨cC0, cC1, cC2, cC3, cC4, cC5, cC6, cC7, cC8, cC9, cC10, cC11⟩ := row12c hC; obtain ⟨zC0, zC1, zC2, zC3, zC4, zC5, zC6, zC7, zC8, zC9, zC10, zC11⟩ := row12z hC; have lC := lt_of_heap hC; (have nC := Nat.ne_of_lt lC); (have mC := nC.symm); (have nC9 : _ ≠ W2.heap.size + 1 := Nat.ne_of_lt (Nat.lt_succ_of_lt lC)); (have mC9 := nC9.symm)) | (replace hB := below_get hb hB; obtain ⟨cB0, cB1, cB2, cB3, cB4, cB5, cB6, cB7, cB8, cB9, cB10, cB11⟩ := row12c hB; obtain ⟨zB0, zB1, zB2, zB3, zB4, zB5, zB6, zB7, zB8, zB9, zB10, zB11⟩ := row12z hB; have lB := lt_of_heap hB; (have nB := Nat.ne_of_lt lB); (have mB := nB.symm); (have nB9 : _ ≠ W2.heap.size + 1 := Nat.ne_of_lt (Nat.lt_succ_of_lt lB)); (have mB9 := nB9.symm)) | (have hC := below_get hb (heap_new2 W1 _ _); have hB := below_get hb (ak (heap_alloc_new W1 _)); obtain ⟨cB0, cB1, cB2, cB3, cB4, cB5, cB6, cB7, cB8, cB9, cB10, cB11⟩ := row12c hB; obtain ⟨zB0, zB1, zB2, zB3, zB4, zB5, zB6, zB7, zB8, zB9, zB10, zB11⟩ := row12z hB; have lB := lt_of_heap hB; (have nB := Nat.ne_of_lt lB); (have mB := nB.symm); (have nB9 : _ ≠ W2.heap.size + 1 := Nat.ne_of_lt (Nat.lt_succ_of_lt lB)); (have mB9 := nB9.symm); obtain ⟨cC0, cC1, cC2, cC3, cC4, cC5, cC6, cC7, cC8, cC9, cC10, cC11⟩ := row12c hC; obtain ⟨zC0, zC1, zC2, zC3, zC4, zC5, zC6, zC7, zC8, zC9, zC10, zC11⟩ := row12z hC; have lC := lt_of_heap hC; (have nC := Nat.ne_of_lt lC); (have mC := nC.symm); (have nC9 : _ ≠ W2.heap.size + 1 := Nat.ne_of_lt (Nat.lt_succ_of_lt lC)); (have mC9 := nC9.symm)) | (have hB := below_get hb (heap_alloc_new W1 _); obtain ⟨cB0, cB1, cB2, cB3, cB4, cB5, cB6, cB7, cB8, cB9, cB10, cB11⟩ := row12c hB; obtain ⟨zB0, zB1, zB2, zB3, zB4, zB5, zB6, zB7, zB8, zB9, zB10, zB11⟩ := row12z hB; have lB := lt_of_heap hB; (have nB := Nat.ne_of_lt lB); (have mB := nB.symm); (have nB9 : _ ≠ W2.heap.size + 1 := Nat.ne_of_lt (Nat.lt_succ_of_lt lB)); (have mB9 := nB9.symm)))); (try clear cA0 cA1 cA2 cA3 cA4 cA5 cA6 cA7 cA8); (obtain ⟨cA0, cA1, cA2, cA3, cA4, cA5, cA6, cA7, cA8⟩ := row9c hA); clear hb) | (have wchk : V4 = V4 := rfl; clear wchk; go_at_call 74; refine (rayO_any _).mono ?_; rintro e W1 ⟨rfl, hb⟩; (first | replace hA := below_get hb hA | replace hA := below_get hb (ak hA) | replace hA := below_get hb (ak (ak hA))); (first | replace hK1 := below_get hb hK1 | replace hK1 := below_get hb (ak hK1) | replace hK1 := below_get hb (ak (ak hK1))); (first | replace hR := below_get hb hR | replace hR := below_get hb (ak hR) | replace hR := below_get hb (ak (ak hR))); (first | replace hQ := below_get hb hQ | replace hQ := below_get hb (ak hQ) | replace hQ := below_get hb (ak (ak hQ))); (replace kk := bcl (by first | exact kk | exact kk.drew | exact bal kk _ | exact (bal kk _).drew | exact bal (bal kk _) _ | exact (bal (bal kk _) _).drew) hb); (replace fF := IsF.of HF.out hQ); (have lA := lt_of_heap hA); (have nA := Nat.ne_of_lt lA); (have mA := nA.symm); (have nA9 : _ ≠ W1.heap.size + 1 := Nat.ne_of_lt (Nat.lt_succ_of_lt lA)); (have mA9 := nA9.symm); (have lK1 := lt_of_heap hK1); (have nK1 := Nat.ne_of_lt lK1); (have mK1 := nK1.symm); (have nK19 : _ ≠ W1.heap.size + 1 := Nat.ne_of_lt (Nat.lt_succ_of_lt lK1)); (have mK19 := nK19.symm); (have lR := lt_of_heap hR); (have nR := Nat.ne_of_lt lR); (have mR := nR.symm); (have nR9 : _ ≠ W1.heap.size + 1 := Nat.ne_of_lt (Nat.lt_succ_of_lt lR)); (have mR9 := nR9.symm); (have lQ := lt_of_heap hQ); (have nQ := Nat.ne_of_lt lQ); (have mQ := nQ.symm); (have nQ9 : _ ≠ W1.heap.size + 1 := Nat.ne_of_lt (Nat.lt_succ_of_lt lQ)); (have mQ9 := nQ9.symm); (have lF := lt_of_heap hQ); (have nF := Nat.ne_of_lt lF); (have mF := nF.symm); (have nF9 : _ ≠ W1.heap.size + 1 := Nat.ne_of_lt (Nat.lt_succ_of_lt lF)); (have mF9 := nF9.symm); (try (first | (replace hB := below_get hb hB; replace hC := below_get hb hC; obtain ⟨cB0, cB1, cB2, cB3, cB4, cB5, cB6, cB7, cB8, cB9, cB10, cB11⟩ := row12c hB; obtain ⟨zB0, zB1, zB2, zB3, zB4, zB5, zB6, zB7, zB8, zB9, zB10, zB11⟩ := row12z hB; have lB := lt_of_heap hB; (have nB := Nat.ne_of_lt lB); (have mB := nB.symm); (have nB9 : _ ≠ W1.heap.size + 1 := Nat.ne_of_lt (Nat.lt_succ_of_lt lB)); (have mB9 := nB9.symm); obtain ⟨cC0, cC1, cC2, cC3, cC4, cC5, cC6, cC7, cC8, cC9, cC10, cC11⟩ := row12c hC; obtain ⟨zC0, zC1, zC2, zC3, zC4, zC5, zC6, zC7, zC8, zC9, zC10, zC11⟩ := row12z hC; have lC := lt_of_heap hC; (have nC := Nat.ne_of_lt lC); (have mC := nC.symm); (have nC9 : _ ≠ W1.heap.size + 1 := Nat.ne_of_lt (Nat.lt_succ_of_lt lC)); (have mC9 := nC9.symm)) | (have hC := below_get hb (heap_alloc_new V4 _); replace hB := below_get hb (ak hB); obtain ⟨cB0, cB1, cB2, cB3, cB4, cB5, cB6, cB7, cB8, cB9, cB10, cB11⟩ := row12c hB; obtain ⟨zB0, zB1, zB2, zB3, zB4, zB5, zB6, zB7, zB8, zB9, zB10, zB11⟩ := row12z hB; have lB := lt_of_heap hB; (have nB := Nat.ne_of_lt lB); (have mB := nB.symm); (have nB9 : _ ≠ W1.heap.size + 1 := Nat.ne_of_lt (Nat.lt_succ_of_lt lB)); (have mB9 := nB9.symm); obtain ⟨cC0, cC1, cC2, cC3, cC4, cC5, cC6, cC7, cC8, cC9, cC10, cC11⟩ := row12c hC; obtain ⟨zC0, zC1, zC2, zC3, zC4, zC5, zC6, zC7, zC8, zC9, zC10, zC11⟩ := row12z hC; have lC := lt_of_heap hC; (have nC := Nat.ne_of_lt lC); (have mC := nC.symm); (have nC9 : _ ≠ W1.heap.size + 1 := Nat.ne_of_lt (Nat.lt_succ_of_lt lC)); (have mC9 := nC9.symm)) | (replace hB := below_get hb hB; obtain ⟨cB0, cB1, cB2, cB3, cB4, cB5, cB6, cB7, cB8, cB9, cB10, cB11⟩ := row12c hB; obtain ⟨zB0, zB1, zB2, zB3, zB4, zB5, zB6, zB7, zB8, zB9, zB10, zB11⟩ := row12z hB; have lB := lt_of_heap hB; (have nB := Nat.ne_of_lt lB); (have mB := nB.symm); (have nB9 : _ ≠ W1.heap.size + 1 := Nat.ne_of_lt (Nat.lt_succ_of_lt lB)); (have mB9 := nB9.symm)) | (have hC := below_get hb (heap_new2 V4 _ _); have hB := below_get hb (ak (heap_alloc_new V4 _)); obtain ⟨cB0, cB1, cB2, cB3, cB4, cB5, cB6, cB7, cB8, cB9, cB10, cB11⟩ := row12c hB; obtain ⟨zB0, zB1, zB2, zB3, zB4, zB5, zB6, zB7, zB8, zB9, zB10, zB11⟩ := row12z hB; have lB := lt_of_heap hB; (have nB := Nat.ne_of_lt lB); (have mB := nB.symm); (have nB9 : _ ≠ W1.heap.size + 1 := Nat.ne_of_lt (Nat.lt_succ_of_lt lB)); (have mB9 := nB9.symm); obtain ⟨cC0, cC1, cC2, cC3, cC4, cC5, cC6, cC7, cC8, cC9, cC10, cC11⟩ := row12c hC; obtain ⟨zC0, zC1, zC2, zC3, zC4, zC5, zC6, zC7, zC8, zC9, zC10, zC11⟩ := row12z hC; have lC := lt_of_heap hC; (have nC := Nat.ne_of_lt lC); (have mC := nC.symm); (have nC9 : _ ≠ W1.heap.size + 1 := Nat.ne_of_lt (Nat.lt_succ_of_lt lC)); (have mC9 := nC9.symm)) | (have hB := below_get hb (heap_alloc_new V4 _); obtain ⟨cB0, cB1, cB2, cB3, cB4, cB5, cB6, cB7, cB8, cB9, cB10, cB11⟩ := row12c hB; obtain ⟨zB0, zB1, zB2, zB3, zB4, zB5, zB6, zB7, zB8, zB9, zB10, zB11⟩ := row12z hB; have lB := lt_of_heap hB; (have nB := Nat.ne_of_lt lB); (have mB := nB.symm); (have nB9 : _ ≠ W1.heap.size + 1 := Nat.ne_of_lt (Nat.lt_succ_of_lt lB)); (have mB9 := nB9.symm)))); (try clear cA0 cA1 cA2 cA3 cA4 cA5 cA6 cA7 cA8); (obtain ⟨cA0, cA1, cA2, cA3, cA4, cA5, cA6, cA7, cA8⟩ := row9c hA); clear hb))
    all_goals go_wp2_with fail
    all_goals go_meet
    all_goals have lK := kk.size
    all_goals first | (have K := two12_both (.int .u64 (w0 ((rayN .o).x) : Nat)) (.int .u64 (w1 ((rayN .o).x) : Nat)) (.int .u64 (w2 ((rayN .o).x) : Nat)) (.int .u64 (w3 ((rayN .o).x) : Nat)) (.int .u64 (w0 ((rayN .o).y) : Nat)) (.int .u64 (w1 ((rayN .o).y) : Nat)) (.int .u64 (w2 ((rayN .o).y) : Nat)) (.int .u64 (w3 ((rayN .o).y) : Nat)) (.int .u64 (w0 ((rayN .o).z) : Nat)) (.int .u64 (w1 ((rayN .o).z) : Nat)) (.int .u64 (w2 ((rayN .o).z) : Nat)) (.int .u64 (w3 ((rayN .o).z) : Nat)) (.int .u64 (w0 ((rayN a).x) : Nat)) (.int .u64 (w1 ((rayN a).x) : Nat)) (.int .u64 (w2 ((rayN a).x) : Nat)) (.int .u64 (w3 ((rayN a).x) : Nat)) (.int .u64 (w0 ((rayN a).y) : Nat)) (.int .u64 (w1 ((rayN a).y) : Nat)) (.int .u64 (w2 ((rayN a).y) : Nat)) (.int .u64 (w3 ((rayN a).y) : Nat)) (.int .u64 (w0 ((rayN a).z) : Nat)) (.int .u64 (w1 ((rayN a).z) : Nat)) (.int .u64 (w2 ((rayN a).z) : Nat)) (.int .u64 (w3 ((rayN a).z) : Nat)) hB hC (by omega); with_reducible refine ⟨_, _, rfl, rfl, K.one, K.two, K.keep _ _ ?_ ?_ hA, K.keep _ _ ?_ ?_ hK1, K.keep _ _ ?_ ?_ hR, K.keep _ _ ?_ ?_ hQ, ?_, ?_, ?_, ?_, ?_, ?_, ?_, ?_, ?_, ?_, ?_, K.below ?_ ?_ kk⟩) | (have K := two12_both (.int .u64 (w0 ((rayN .o).x) : Nat)) (.int .u64 (w1 ((rayN .o).x) : Nat)) (.int .u64 (w2 ((rayN .o).x) : Nat)) (.int .u64 (w3 ((rayN .o).x) : Nat)) (.int .u64 (w0 ((rayN .o).y) : Nat)) (.int .u64 (w1 ((rayN .o).y) : Nat)) (.int .u64 (w2 ((rayN .o).y) : Nat)) (.int .u64 (w3 ((rayN .o).y) : Nat)) (.int .u64 (w0 ((rayN .o).z) : Nat)) (.int .u64 (w1 ((rayN .o).z) : Nat)) (.int .u64 (w2 ((rayN .o).z) : Nat)) (.int .u64 (w3 ((rayN .o).z) : Nat)) (.int .u64 (w0 ((rayN a).x) : Nat)) (.int .u64 (w1 ((rayN a).x) : Nat)) (.int .u64 (w2 ((rayN a).x) : Nat)) (.int .u64 (w3 ((rayN a).x) : Nat)) (.int .u64 (w0 ((rayN a).y) : Nat)) (.int .u64 (w1 ((rayN a).y) : Nat)) (.int .u64 (w2 ((rayN a).y) : Nat)) (.int .u64 (w3 ((rayN a).y) : Nat)) (.int .u64 (w0 ((rayN a).z) : Nat)) (.int .u64 (w1 ((rayN a).z) : Nat)) (.int .u64 (w2 ((rayN a).z) : Nat)) (.int .u64 (w3 ((rayN a).z) : Nat)) hC hB (by omega); with_reducible refine ⟨_, _, rfl, rfl, K.one, K.two, K.keep _ _ ?_ ?_ hA, K.keep _ _ ?_ ?_ hK1, K.keep _ _ ?_ ?_ hR, K.keep _ _ ?_ ?_ hQ, ?_, ?_, ?_, ?_, ?_, ?_, ?_, ?_, ?_, ?_, ?_, K.below ?_ ?_ kk⟩) | (have K := two12_fst (.int .u64 (w0 ((rayN .o).x) : Nat)) (.int .u64 (w1 ((rayN .o).x) : Nat)) (.int .u64 (w2 ((rayN .o).x) : Nat)) (.int .u64 (w3 ((rayN .o).x) : Nat)) (.int .u64 (w0 ((rayN .o).y) : Nat)) (.int .u64 (w1 ((rayN .o).y) : Nat)) (.int .u64 (w2 ((rayN .o).y) : Nat)) (.int .u64 (w3 ((rayN .o).y) : Nat)) (.int .u64 (w0 ((rayN .o).z) : Nat)) (.int .u64 (w1 ((rayN .o).z) : Nat)) (.int .u64 (w2 ((rayN .o).z) : Nat)) (.int .u64 (w3 ((rayN .o).z) : Nat)) (.int .u64 (w0 ((rayN a).x) : Nat)) (.int .u64 (w1 ((rayN a).x) : Nat)) (.int .u64 (w2 ((rayN a).x) : Nat)) (.int .u64 (w3 ((rayN a).x) : Nat)) (.int .u64 (w0 ((rayN a).y) : Nat)) (.int .u64 (w1 ((rayN a).y) : Nat)) (.int .u64 (w2 ((rayN a).y) : Nat)) (.int .u64 (w3 ((rayN a).y) : Nat)) (.int .u64 (w0 ((rayN a).z) : Nat)) (.int .u64 (w1 ((rayN a).z) : Nat)) (.int .u64 (w2 ((rayN a).z) : Nat)) (.int .u64 (w3 ((rayN a).z) : Nat)) hB; with_reducible refine ⟨_, _, rfl, rfl, K.one, K.two, K.keep _ _ ?_ ?_ hA, K.keep _ _ ?_ ?_ hK1, K.keep _ _ ?_ ?_ hR, K.keep _ _ ?_ ?_ hQ, ?_, ?_, ?_, ?_, ?_, ?_, ?_, ?_, ?_, ?_, ?_, K.below ?_ ?_ kk⟩) | (have K := two12_snd (.int .u64 (w0 ((rayN .o).x) : Nat)) (.int .u64 (w1 ((rayN .o).x) : Nat)) (.int .u64 (w2 ((rayN .o).x) : Nat)) (.int .u64 (w3 ((rayN .o).x) : Nat)) (.int .u64 (w0 ((rayN .o).y) : Nat)) (.int .u64 (w1 ((rayN .o).y) : Nat)) (.int .u64 (w2 ((rayN .o).y) : Nat)) (.int .u64 (w3 ((rayN .o).y) : Nat)) (.int .u64 (w0 ((rayN .o).z) : Nat)) (.int .u64 (w1 ((rayN .o).z) : Nat)) (.int .u64 (w2 ((rayN .o).z) : Nat)) (.int .u64 (w3 ((rayN .o).z) : Nat)) (.int .u64 (w0 ((rayN a).x) : Nat)) (.int .u64 (w1 ((rayN a).x) : Nat)) (.int .u64 (w2 ((rayN a).x) : Nat)) (.int .u64 (w3 ((rayN a).x) : Nat)) (.int .u64 (w0 ((rayN a).y) : Nat)) (.int .u64 (w1 ((rayN a).y) : Nat)) (.int .u64 (w2 ((rayN a).y) : Nat)) (.int .u64 (w3 ((rayN a).y) : Nat)) (.int .u64 (w0 ((rayN a).z) : Nat)) (.int .u64 (w1 ((rayN a).z) : Nat)) (.int .u64 (w2 ((rayN a).z) : Nat)) (.int .u64 (w3 ((rayN a).z) : Nat)) hB; with_reducible refine ⟨_, _, rfl, rfl, K.one, K.two, K.keep _ _ ?_ ?_ hA, K.keep _ _ ?_ ?_ hK1, K.keep _ _ ?_ ?_ hR, K.keep _ _ ?_ ?_ hQ, ?_, ?_, ?_, ?_, ?_, ?_, ?_, ?_, ?_, ?_, ?_, K.below ?_ ?_ kk⟩) | (have K := two12_new W2 (.int .u64 (w0 ((rayN .o).x) : Nat)) (.int .u64 (w1 ((rayN .o).x) : Nat)) (.int .u64 (w2 ((rayN .o).x) : Nat)) (.int .u64 (w3 ((rayN .o).x) : Nat)) (.int .u64 (w0 ((rayN .o).y) : Nat)) (.int .u64 (w1 ((rayN .o).y) : Nat)) (.int .u64 (w2 ((rayN .o).y) : Nat)) (.int .u64 (w3 ((rayN .o).y) : Nat)) (.int .u64 (w0 ((rayN .o).z) : Nat)) (.int .u64 (w1 ((rayN .o).z) : Nat)) (.int .u64 (w2 ((rayN .o).z) : Nat)) (.int .u64 (w3 ((rayN .o).z) : Nat)) (.int .u64 (w0 ((rayN a).x) : Nat)) (.int .u64 (w1 ((rayN a).x) : Nat)) (.int .u64 (w2 ((rayN a).x) : Nat)) (.int .u64 (w3 ((rayN a).x) : Nat)) (.int .u64 (w0 ((rayN a).y) : Nat)) (.int .u64 (w1 ((rayN a).y) : Nat)) (.int .u64 (w2 ((rayN a).y) : Nat)) (.int .u64 (w3 ((rayN a).y) : Nat)) (.int .u64 (w0 ((rayN a).z) : Nat)) (.int .u64 (w1 ((rayN a).z) : Nat)) (.int .u64 (w2 ((rayN a).z) : Nat)) (.int .u64 (w3 ((rayN a).z) : Nat)); with_reducible refine ⟨_, _, rfl, rfl, K.one, K.two, K.keep _ _ ?_ ?_ hA, K.keep _ _ ?_ ?_ hK1, K.keep _ _ ?_ ?_ hR, K.keep _ _ ?_ ?_ hQ, ?_, ?_, ?_, ?_, ?_, ?_, ?_, ?_, ?_, ?_, ?_, K.below ?_ ?_ kk⟩) | (have K := two12_rev W2 (.int .u64 (w0 ((rayN .o).x) : Nat)) (.int .u64 (w1 ((rayN .o).x) : Nat)) (.int .u64 (w2 ((rayN .o).x) : Nat)) (.int .u64 (w3 ((rayN .o).x) : Nat)) (.int .u64 (w0 ((rayN .o).y) : Nat)) (.int .u64 (w1 ((rayN .o).y) : Nat)) (.int .u64 (w2 ((rayN .o).y) : Nat)) (.int .u64 (w3 ((rayN .o).y) : Nat)) (.int .u64 (w0 ((rayN .o).z) : Nat)) (.int .u64 (w1 ((rayN .o).z) : Nat)) (.int .u64 (w2 ((rayN .o).z) : Nat)) (.int .u64 (w3 ((rayN .o).z) : Nat)) (.int .u64 (w0 ((rayN a).x) : Nat)) (.int .u64 (w1 ((rayN a).x) : Nat)) (.int .u64 (w2 ((rayN a).x) : Nat)) (.int .u64 (w3 ((rayN a).x) : Nat)) (.int .u64 (w0 ((rayN a).y) : Nat)) (.int .u64 (w1 ((rayN a).y) : Nat)) (.int .u64 (w2 ((rayN a).y) : Nat)) (.int .u64 (w3 ((rayN a).y) : Nat)) (.int .u64 (w0 ((rayN a).z) : Nat)) (.int .u64 (w1 ((rayN a).z) : Nat)) (.int .u64 (w2 ((rayN a).z) : Nat)) (.int .u64 (w3 ((rayN a).z) : Nat)); with_reducible refine ⟨_, _, rfl, rfl, K.one, K.two, K.keep _ _ ?_ ?_ hA, K.keep _ _ ?_ ?_ hK1, K.keep _ _ ?_ ?_ hR, K.keep _ _ ?_ ?_ hQ, ?_, ?_, ?_, ?_, ?_, ?_, ?_, ?_, ?_, ?_, ?_, K.below ?_ ?_ kk⟩)
    all_goals omega
  case rest =>
    obtain ⟨d6, d7, rfl, rfl, hD6, hD7, hA, hK1, hR, hQ, gD6, gD7, nD6A, nD6K1, nD6R, nD6Q, nD7A, nD7K1, nD7R, nD7Q, nD7D6, kk⟩ := hcut
    replace fF := IsF.of HF.out hQ
    obtain ⟨cK10, cK11, cK12, cK13⟩ := row4c hK1
    obtain ⟨zK10, zK11, zK12, zK13⟩ := row4z hK1
    go_wp2_with fail
    refine (bits_any (W4.mk' GQ.out) _).mono ?_
    rintro e V6 ⟨rfl, hb⟩
    replace hA := below_get hb hA
    replace hK1 := below_get hb hK1
    replace hR := below_get hb hR
    replace hQ := below_get hb hQ
    replace hD6 := below_get hb hD6
    replace hD7 := below_get hb hD7
    replace kk := bcl (by first | exact kk | exact kk.drew | exact below_drewN kk _) hb
    replace fF := IsF.of HF.out hQ
    clear cK10 zK10 cK11 zK11 cK12 zK12 cK13 zK13
    clear hb
    have hbl := bitsN_le q
    have hw1 : IntKind.i64.wrap ((bitsN q : Nat) - 1 : Int) = ((bitsN q : Nat) - 1 : Int) := IntWalk.i64_in _ (by omega)
    have h0 : q / 2 ^ bitsN q = 0 := Nat.div_eq_of_lt (bitsN_lt GQ.out)
    have hA' := hA
    go_wp2_with fail
    go_loopw [8] (fun i wr => ∃ (j : Nat) (t : T3), j ≤ bitsN q ∧ i = .int .i64 ((j : Int) - 1) ∧ RayN t (times finv (q / 2 ^ j) a) ∧ wr.heap[w.heap.size + 1]? = some (.cells #[.int .u64 (w0 (q) : Nat), .int .u64 (w1 (q) : Nat), .int .u64 (w2 (q) : Nat), .int .u64 (w3 (q) : Nat)] 24 (0, 0)) ∧ wr.heap[w.heap.size + 2]? = some (.cells #[.int .u64 0, .int .u64 0, .int .u64 0, .int .u64 0, .int .u64 0, .int .u64 0, .int .u64 0, .int .u64 0, .bool false] 52 (0, 0)) ∧ wr.heap[g]? = some (.cells #[.int .u64 (w0 (PP) : Nat), .int .u64 (w1 (PP) : Nat), .int .u64 (w2 (PP) : Nat), .int .u64 (w3 (PP) : Nat), .int .u64 (finv1 (PP) : Nat), .int .u64 (w0 (fsq (PP)) : Nat), .int .u64 (w1 (fsq (PP)) : Nat), .int .u64 (w2 (fsq (PP)) : Nat), .int .u64 (w3 (fsq (PP)) : Nat)] 90 (0, 0)) ∧ wr.heap[d6]? = some (.cells #[.int .u64 (w0 (t.x) : Nat), .int .u64 (w1 (t.x) : Nat), .int .u64 (w2 (t.x) : Nat), .int .u64 (w3 (t.x) : Nat), .int .u64 (w0 (t.y) : Nat), .int .u64 (w1 (t.y) : Nat), .int .u64 (w2 (t.y) : Nat), .int .u64 (w3 (t.y) : Nat), .int .u64 (w0 (t.z) : Nat), .int .u64 (w1 (t.z) : Nat), .int .u64 (w2 (t.z) : Nat), .int .u64 (w3 (t.z) : Nat)] 103 (0, 0)) ∧ wr.heap[d7]? = some (.cells #[.int .u64 (w0 ((rayN a).x) : Nat), .int .u64 (w1 ((rayN a).x) : Nat), .int .u64 (w2 ((rayN a).x) : Nat), .int .u64 (w3 ((rayN a).x) : Nat), .int .u64 (w0 ((rayN a).y) : Nat), .int .u64 (w1 ((rayN a).y) : Nat), .int .u64 (w2 ((rayN a).y) : Nat), .int .u64 (w3 ((rayN a).y) : Nat), .int .u64 (w0 ((rayN a).z) : Nat), .int .u64 (w1 ((rayN a).z) : Nat), .int .u64 (w2 ((rayN a).z) : Nat), .int .u64 (w3 ((rayN a).z) : Nat)] 103 (0, 0)) ∧ Below w.heap.size w wr) (fun i wr => (intOf i + 1).toNat)
    case atStart =>
      refine ⟨bitsN q, rayN .o, Nat.le_refl _, rfl, ?_, hK1, hR, hQ, hD6, hD7, kk⟩
      rw [h0]; exact RayN.of .o
    case round =>
      clear hA hA' hK1 hR hQ hD6 hD7 kk fF h0 hw1
      obtain ⟨j, t, hj, rfl, hray, hK1, hR, hQ, hD6, hD7, kk⟩ := hrel
      have fF := IsF.of HF.out hQ
      have HRAY := Lib.hid hray
      obtain ⟨bx, by', bz⟩ := hray.big
      have GX := Lib.hid bx
      have GY := Lib.hid by'
      have GZ := Lib.hid bz
      clear hray bx by' bz
      by_cases hj0 : j = 0
      · subst hj0
        obtain ⟨cD60, cD61, cD62, cD63, cD64, cD65, cD66, cD67, cD68, cD69, cD610, cD611⟩ := row12c hD6
        obtain ⟨zD60, zD61, zD62, zD63, zD64, zD65, zD66, zD67, zD68, zD69, zD610, zD611⟩ := row12z hD6
        go_wp2_with fail
        refine (pointP_any HRAY.out (W4.mk' GX.out) (W4.mk' GY.out) (W4.mk' GZ.out) _ fF).mono ?_
        rintro e V7 ⟨rfl, hb⟩
        replace hK1 := below_get hb hK1
        replace hR := below_get hb hR
        replace hQ := below_get hb hQ
        replace hD6 := below_get hb hD6
        replace hD7 := below_get hb hD7
        replace kk := bcl (by first | exact kk | exact kk.drew | exact below_drewN kk _) hb
        replace fF := IsF.of HF.out hQ
        clear cD60 zD60 cD61 zD61 cD62 zD62 cD63 zD63 cD64 zD64 cD65 zD65 cD66 zD66 cD67 zD67 cD68 zD68 cD69 zD69 cD610 zD610 cD611 zD611
        clear hb
        obtain ⟨pX, hpX⟩ : ∃ n, px (times finv (q / 2 ^ 0) a) = n := ⟨_, rfl⟩
        obtain ⟨pY, hpY⟩ : ∃ n, py (times finv (q / 2 ^ 0) a) = n := ⟨_, rfl⟩
        obtain ⟨pB, hpB⟩ : ∃ n, pn (times finv (q / 2 ^ 0) a) = n := ⟨_, rfl⟩
        rw [hpX, hpY, hpB]
        have HPX := Lib.hid hpX
        have HPY := Lib.hid hpY
        have HPB := Lib.hid hpB
        clear hpX hpY hpB
        obtain ⟨cR0, cR1, cR2, cR3, cR4, cR5, cR6, cR7, cR8⟩ := row9c hR
        obtain ⟨zR0, zR1, zR2, zR3, zR4, zR5, zR6, zR7, zR8⟩ := row9z hR
        go_wp2_with fail
        have P := put9 (.int .u64 (w0 (pX) : Nat)) (.int .u64 (w1 (pX) : Nat)) (.int .u64 (w2 (pX) : Nat)) (.int .u64 (w3 (pX) : Nat)) (.int .u64 (w0 (pY) : Nat)) (.int .u64 (w1 (pY) : Nat)) (.int .u64 (w2 (pY) : Nat)) (.int .u64 (w3 (pY) : Nat)) (.bool pB) hR
        replace P := put_hid P
        obtain ⟨V9, hV9, P⟩ := P
        rw [hV9]
        have P9 := P.here
        have k9 := P.below (by omega) (show Below w.heap.size w V7 from by first | exact kk | exact kk.drew | exact below_drewN kk _)
        obtain ⟨v0, v1, v2, v3, v4, v5, v6, v7, v8⟩ := row9c P9
        refine bodyPost_ret (v := _) (by simp [results, Try.results40, go_sem, v0, v1, v2, v3, v4, v5, v6, v7, v8]; rfl) rfl ?_
        rw [HQ.out, ← HPX.out, ← HPY.out, ← HPB.out, Nat.pow_zero, Nat.div_one]
        exact ⟨rfl, k9⟩
      · obtain ⟨i, rfl⟩ : ∃ i, j = i + 1 := ⟨j - 1, by omega⟩
        have hi : i < 256 := by omega
        have q1 : (0 : Int) ≤ ((i + 1 : Nat) : Int) - 1 := by omega
        have q2 : ((i + 1 : Nat) : Int) - 1 = (i : Int) := by omega
        rw [q2]
        have q3 : (0 : Int) ≤ (i : Int) := by omega
        have HT := Lib.hid (times_step HO.out q i)
        have hT := times_on good HO.out (inv := finv) (q / 2 ^ (i + 1))
        have R2 := Lib.hid (RayN.twice hT HRAY.out)
        obtain ⟨s, hs⟩ : ∃ s, ntwice PP t = s := ⟨_, rfl⟩
        rw [hs] at R2
        have hT2 := Lib.hid (padd_on good hT hT)
        obtain ⟨cx, cy, cz⟩ := R2.out.big
        have CX := Lib.hid cx
        have CY := Lib.hid cy
        have CZ := Lib.hid cz
        clear cx cy cz hT
        obtain ⟨cD60, cD61, cD62, cD63, cD64, cD65, cD66, cD67, cD68, cD69, cD610, cD611⟩ := row12c hD6
        obtain ⟨zD60, zD61, zD62, zD63, zD64, zD65, zD66, zD67, zD68, zD69, zD610, zD611⟩ := row12z hD6
        go_wp2_with fail
        refine (twice_any (t := t) (W4.mk' GX.out) (W4.mk' GY.out) (W4.mk' GZ.out) _ fF).mono ?_
        rintro e V7 ⟨rfl, hb⟩
        replace hK1 := below_get hb hK1
        replace hR := below_get hb hR
        replace hQ := below_get hb hQ
        replace hD6 := below_get hb hD6
        replace hD7 := below_get hb hD7
        replace kk := bcl (by first | exact kk | exact kk.drew | exact below_drewN kk _) hb
        replace fF := IsF.of HF.out hQ
        clear cD60 zD60 cD61 zD61 cD62 zD62 cD63 zD63 cD64 zD64 cD65 zD65 cD66 zD66 cD67 zD67 cD68 zD68 cD69 zD69 cD610 zD610 cD611 zD611
        clear hb
        rw [hs]
        clear hs
        obtain ⟨cD60, cD61, cD62, cD63, cD64, cD65, cD66, cD67, cD68, cD69, cD610, cD611⟩ := row12c hD6
        obtain ⟨zD60, zD61, zD62, zD63, zD64, zD65, zD66, zD67, zD68, zD69, zD610, zD611⟩ := row12z hD6
        go_upto_region 10 with fail
        have P := put12 (.int .u64 (w0 (s.x) : Nat)) (.int .u64 (w1 (s.x) : Nat)) (.int .u64 (w2 (s.x) : Nat)) (.int .u64 (w3 (s.x) : Nat)) (.int .u64 (w0 (s.y) : Nat)) (.int .u64 (w1 (s.y) : Nat)) (.int .u64 (w2 (s.y) : Nat)) (.int .u64 (w3 (s.y) : Nat)) (.int .u64 (w0 (s.z) : Nat)) (.int .u64 (w1 (s.z) : Nat)) (.int .u64 (w2 (s.z) : Nat)) (.int .u64 (w3 (s.z) : Nat)) hD6
        replace P := put_hid P
        obtain ⟨V8, hW, P⟩ := P
        rw [hW]
        replace hD6 := P.here
        replace hK1 := (P.there (w.heap.size + 1) (by omega)).trans (show _ = some (.cells #[.int .u64 (w0 (q) : Nat), .int .u64 (w1 (q) : Nat), .int .u64 (w2 (q) : Nat), .int .u64 (w3 (q) : Nat)] 24 (0, 0)) from hK1)
        replace hR := (P.there (w.heap.size + 2) (by omega)).trans (show _ = some (.cells #[.int .u64 0, .int .u64 0, .int .u64 0, .int .u64 0, .int .u64 0, .int .u64 0, .int .u64 0, .int .u64 0, .bool false] 52 (0, 0)) from hR)
        replace hQ := (P.there (g) (by omega)).trans (show _ = some (.cells #[.int .u64 (w0 (PP) : Nat), .int .u64 (w1 (PP) : Nat), .int .u64 (w2 (PP) : Nat), .int .u64 (w3 (PP) : Nat), .int .u64 (finv1 (PP) : Nat), .int .u64 (w0 (fsq (PP)) : Nat), .int .u64 (w1 (fsq (PP)) : Nat), .int .u64 (w2 (fsq (PP)) : Nat), .int .u64 (w3 (fsq (PP)) : Nat)] 90 (0, 0)) from hQ)
        replace hD7 := (P.there (d7) (by omega)).trans (show _ = some (.cells #[.int .u64 (w0 ((rayN a).x) : Nat), .int .u64 (w1 ((rayN a).x) : Nat), .int .u64 (w2 ((rayN a).x) : Nat), .int .u64 (w3 ((rayN a).x) : Nat), .int .u64 (w0 ((rayN a).y) : Nat), .int .u64 (w1 ((rayN a).y) : Nat), .int .u64 (w2 ((rayN a).y) : Nat), .int .u64 (w3 ((rayN a).y) : Nat), .int .u64 (w0 ((rayN a).z) : Nat), .int .u64 (w1 ((rayN a).z) : Nat), .int .u64 (w2 ((rayN a).z) : Nat), .int .u64 (w3 ((rayN a).z) : Nat)] 103 (0, 0)) from hD7)
        replace kk := P.below (by omega) (show Below w.heap.size w V7 from by first | exact kk | exact kk.drew | exact below_drewN kk _)
        replace fF := IsF.of HF.out hQ
        clear cD60 zD60 cD61 zD61 cD62 zD62 cD63 zD63 cD64 zD64 cD65 zD65 cD66 zD66 cD67 zD67 cD68 zD68 cD69 zD69 cD610 zD610 cD611 zD611
        clear P hW
        have hqi : i / 64 < 4 := by omega
        have cb := wAt_cell hK1 hqi
        have bw := bit_word (a := q) hi GQ.out
        have t1 : IntKind.i64.wrap ((i : Int).tdiv 64) = ((i / 64 : Nat) : Int) := by rw [show (i : Int).tdiv 64 = ((i / 64 : Nat) : Int) from by rw [Int.tdiv_eq_ediv_of_nonneg (by omega)]; omega]; exact IntWalk.i64_in _ (by omega)
        have t2 : (i : Int).tmod 64 = ((i % 64 : Nat) : Int) := by rw [Int.tmod_eq_emod_of_nonneg (by omega)]; omega
        by_cases hbt : q / 2 ^ i % 2 = 1
        · have bw' : (bits .and .u64 ((wAt q (i / 64) : Nat) / 2 ^ (i % 64) : Int) 1 == 1) = true := by rw [bw, decide_eq_true hbt]
          obtain ⟨ax, ay, az⟩ := HR.out.big
          have AX := Lib.hid ax
          have AY := Lib.hid ay
          have AZ := Lib.hid az
          clear ax ay az
          obtain ⟨cD60, cD61, cD62, cD63, cD64, cD65, cD66, cD67, cD68, cD69, cD610, cD611⟩ := row12c hD6
          obtain ⟨zD60, zD61, zD62, zD63, zD64, zD65, zD66, zD67, zD68, zD69, zD610, zD611⟩ := row12z hD6
          obtain ⟨cD70, cD71, cD72, cD73, cD74, cD75, cD76, cD77, cD78, cD79, cD710, cD711⟩ := row12c hD7
          obtain ⟨zD70, zD71, zD72, zD73, zD74, zD75, zD76, zD77, zD78, zD79, zD710, zD711⟩ := row12z hD7
          go_wp2_with fail
          refine (addR_any (r := s) (o := rayN a) (W4.mk' CX.out) (W4.mk' CY.out) (W4.mk' CZ.out) (W4.mk' AX.out) (W4.mk' AY.out) (W4.mk' AZ.out) _ fF).mono ?_
          rintro e V9 ⟨rfl, hb⟩
          replace hK1 := below_get hb hK1
          replace hR := below_get hb hR
          replace hQ := below_get hb hQ
          replace hD6 := below_get hb hD6
          replace hD7 := below_get hb hD7
          replace kk := bcl (by first | exact kk | exact kk.drew | exact below_drewN kk _) hb
          replace fF := IsF.of HF.out hQ
          clear cD60 zD60 cD61 zD61 cD62 zD62 cD63 zD63 cD64 zD64 cD65 zD65 cD66 zD66 cD67 zD67 cD68 zD68 cD69 zD69 cD610 zD610 cD611 zD611 cD70 zD70 cD71 zD71 cD72 zD72 cD73 zD73 cD74 zD74 cD75 zD75 cD76 zD76 cD77 zD77 cD78 zD78 cD79 zD79 cD710 zD710 cD711 zD711
          clear hb
          have RA := Lib.hid (RayN.add hT2.out HO.out R2.out HR.out)
          obtain ⟨u, hu⟩ : ∃ u, naddr PP s (rayN a) = u := ⟨_, rfl⟩
          rw [hu] at RA ⊢
          clear hu
          obtain ⟨cD60, cD61, cD62, cD63, cD64, cD65, cD66, cD67, cD68, cD69, cD610, cD611⟩ := row12c hD6
          obtain ⟨zD60, zD61, zD62, zD63, zD64, zD65, zD66, zD67, zD68, zD69, zD610, zD611⟩ := row12z hD6
          go_wp2_with fail
          have P := put12 (.int .u64 (w0 u.x : Nat)) (.int .u64 (w1 u.x : Nat)) (.int .u64 (w2 u.x : Nat)) (.int .u64 (w3 u.x : Nat)) (.int .u64 (w0 u.y : Nat)) (.int .u64 (w1 u.y : Nat)) (.int .u64 (w2 u.y : Nat)) (.int .u64 (w3 u.y : Nat)) (.int .u64 (w0 u.z : Nat)) (.int .u64 (w1 u.z : Nat)) (.int .u64 (w2 u.z : Nat)) (.int .u64 (w3 u.z : Nat)) hD6
          refine ⟨⟨i, u, by omega, rfl, ?_, (P.there _ (by omega)).trans hK1, (P.there _ (by omega)).trans hR, (P.there _ (by omega)).trans hQ, P.here, (P.there _ (by omega)).trans hD7, P.below (by omega) kk⟩, ?_⟩
          · rw [HT.out, if_pos hbt]; exact RA.out
          · simp only [intOf]; omega
        · have bw' : (bits .and .u64 ((wAt q (i / 64) : Nat) / 2 ^ (i % 64) : Int) 1 == 1) = false := by rw [bw, decide_eq_false hbt]
          go_wp2_with fail
          refine ⟨⟨i, s, by omega, rfl, ?_, hK1, hR, hQ, hD6, hD7, kk⟩, ?_⟩
          · rw [HT.out, if_neg hbt]; exact R2.out
          · simp only [intOf]; omega
end Go.Proofs.Ytgghopmlcpcpkaa
