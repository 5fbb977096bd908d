/- A step of the proof: what a function of the program computes, or a plain law of numbers. -/
import Derived.Test.YtgghopmlcpcpkaaTimesM
import Derived.Test.YtgghopmlcpcpkaaSomeM
import Derived.Test.YtgghopmlcpcpkaaNegM
namespace Go.Proofs.Ytgghopmlcpcpkaa
open Go.RowKit PlainK
set_option linter.unusedVariables false
set_option linter.unusedSimpArgs false
set_option maxRecDepth 10000 in
set_option maxHeartbeats 8000000 in
theorem addP_off {a0 a1 a2 a3 b0 b1 b2 b3 c0 c1 c2 c3 d0 d1 d2 d3 : Int} {x y u v : Nat} (n k : Bool) (ha : W4 a0 a1 a2 a3 x) (hb : W4 b0 b1 b2 b3 y) (hc : W4 c0 c1 c2 c3 u) (hd : W4 d0 d1 d2 d3 v) (h : onB x y n = false ∨ onB u v k = false) (w : World) :
   Calls Try.prog 43 #[.agg #[.int .u64 a0, .int .u64 a1, .int .u64 a2, .int .u64 a3, .int .u64 b0, .int .u64 b1, .int .u64 b2, .int .u64 b3, .bool n], .agg #[.int .u64 c0, .int .u64 c1, .int .u64 c2, .int .u64 c3, .int .u64 d0, .int .u64 d1, .int .u64 d2, .int .u64 d3, .bool k]] w fun e w' => e = .returned (.agg #[.int .u64 0, .int .u64 0, .int .u64 0, .int .u64 0, .int .u64 0, .int .u64 0, .int .u64 0, .int .u64 0, .bool true]) ∧ Below w.heap.size w w' := by
  obtain ⟨rfl, rfl, rfl, rfl, la⟩ := ha
  obtain ⟨rfl, rfl, rfl, rfl, lb⟩ := hb
  obtain ⟨rfl, rfl, rfl, rfl, lc⟩ := hc
  obtain ⟨rfl, rfl, rfl, rfl, ld⟩ := hd
  have hla := Lib.hid la
  have hlb := Lib.hid lb
  have hlc := Lib.hid lc
  have hld := Lib.hid ld
  have HO := Lib.hid h
  clear la lb lc ld h
  go_enter Try.func43, Try.ntmps43
  go_upto_region 1 with fail
  obtain ⟨V0, hW⟩ : ∃ V, ((w.alloc (.cells #[.int .u64 (w0 (x) : Nat), .int .u64 (w1 (x) : Nat), .int .u64 (w2 (x) : Nat), .int .u64 (w3 (x) : Nat), .int .u64 (w0 (y) : Nat), .int .u64 (w1 (y) : Nat), .int .u64 (w2 (y) : Nat), .int .u64 (w3 (y) : Nat), .bool n] 52)).alloc (.cells #[.int .u64 (w0 (u) : Nat), .int .u64 (w1 (u) : Nat), .int .u64 (w2 (u) : Nat), .int .u64 (w3 (u) : Nat), .int .u64 (w0 (v) : Nat), .int .u64 (w1 (v) : Nat), .int .u64 (w2 (v) : Nat), .int .u64 (w3 (v) : Nat), .bool k] 52)).alloc (.cells #[.int .u64 0, .int .u64 0, .int .u64 0, .int .u64 0, .int .u64 0, .int .u64 0, .int .u64 0, .int .u64 0, .bool false] 52) = V := ⟨_, rfl⟩
  rw [hW]
  have hA : V0.heap[w.heap.size]? = some (.cells #[.int .u64 (w0 (x) : Nat), .int .u64 (w1 (x) : Nat), .int .u64 (w2 (x) : Nat), .int .u64 (w3 (x) : Nat), .int .u64 (w0 (y) : Nat), .int .u64 (w1 (y) : Nat), .int .u64 (w2 (y) : Nat), .int .u64 (w3 (y) : Nat), .bool n] 52 (0, 0)) := by
    rw [← hW]; simp only [alloc_at, World.size_alloc]; repeat (first | rw [if_pos trivial] | rw [if_pos (by omega)] | rw [if_neg (by omega)])
  have hB : V0.heap[w.heap.size + 1]? = some (.cells #[.int .u64 (w0 (u) : Nat), .int .u64 (w1 (u) : Nat), .int .u64 (w2 (u) : Nat), .int .u64 (w3 (u) : Nat), .int .u64 (w0 (v) : Nat), .int .u64 (w1 (v) : Nat), .int .u64 (w2 (v) : Nat), .int .u64 (w3 (v) : Nat), .bool k] 52 (0, 0)) := by
    rw [← hW]; simp only [alloc_at, World.size_alloc]; repeat (first | rw [if_pos trivial] | rw [if_pos (by omega)] | rw [if_neg (by omega)])
  have hR : V0.heap[w.heap.size + 2]? = some (.cells #[.int .u64 0, .int .u64 0, .int .u64 0, .int .u64 0, .int .u64 0, .int .u64 0, .int .u64 0, .int .u64 0, .bool false] 52 (0, 0)) := by
    rw [← hW]; simp only [alloc_at, World.size_alloc]; repeat (first | rw [if_pos trivial] | rw [if_pos (by omega)] | rw [if_neg (by omega)])
  have kk : Below w.heap.size w V0 := by
    rw [← hW]
    repeat (first | exact Below.refl _ _ | refine Below.drew ?_ | refine bal ?_ _)
  clear hW
  obtain ⟨cA0, cA1, cA2, cA3, cA4, cA5, cA6, cA7, cA8⟩ := row9c hA
  obtain ⟨zA0, zA1, zA2, zA3, zA4, zA5, zA6, zA7, zA8⟩ := row9z hA
  go_wp2_with fail
  refine (on_any n (W4.mk' hla.out) (W4.mk' hlb.out) _).mono ?_
  rintro e V1 ⟨rfl, hb⟩
  replace hA := below_get hb hA
  replace hB := below_get hb hB
  replace hR := below_get hb hR
  replace kk := bcl (by first | exact kk | exact kk.drew | exact below_drewN kk _) hb
  clear cA0 zA0 cA1 zA1 cA2 zA2 cA3 zA3 cA4 zA4 cA5 zA5 cA6 zA6 cA7 zA7 cA8 zA8
  clear hb
  cases hBt : onB x y n with
  | false =>
    obtain ⟨cR0, cR1, cR2, cR3, cR4, cR5, cR6, cR7, cR8⟩ := row9c hR
    obtain ⟨zR0, zR1, zR2, zR3, zR4, zR5, zR6, zR7, zR8⟩ := row9z hR
    go_wp2_with fail
    have P := put9 (.int .u64 0) (.int .u64 0) (.int .u64 0) (.int .u64 0) (.int .u64 0) (.int .u64 0) (.int .u64 0) (.int .u64 0) (.bool true) hR
    replace P := put_hid P
    obtain ⟨V9, hV9, P⟩ := P
    rw [hV9]
    have P9 := P.here
    have k9 := P.below (by omega) (show Below w.heap.size w V1 from by first | exact kk | exact kk.drew | exact below_drewN kk _)
    obtain ⟨v0, v1, v2, v3, v4, v5, v6, v7, v8⟩ := row9c P9
    refine bodyPost_ret (v := _) (by simp [results, Try.results43, go_sem, v0, v1, v2, v3, v4, v5, v6, v7, v8]; rfl) rfl ?_
    exact ⟨rfl, k9⟩
  | true =>
    have HK := Lib.hid (HO.out.resolve_left (by rw [hBt]; simp))
    obtain ⟨cB0, cB1, cB2, cB3, cB4, cB5, cB6, cB7, cB8⟩ := row9c hB
    obtain ⟨zB0, zB1, zB2, zB3, zB4, zB5, zB6, zB7, zB8⟩ := row9z hB
    go_wp2_with fail
    refine (on_any k (W4.mk' hlc.out) (W4.mk' hld.out) _).mono ?_
    rintro e V2 ⟨rfl, hb⟩
    replace hA := below_get hb hA
    replace hB := below_get hb hB
    replace hR := below_get hb hR
    replace kk := bcl (by first | exact kk | exact kk.drew | exact below_drewN kk _) hb
    clear cB0 zB0 cB1 zB1 cB2 zB2 cB3 zB3 cB4 zB4 cB5 zB5 cB6 zB6 cB7 zB7 cB8 zB8
    clear hb
    rw [HK.out]
    obtain ⟨cR0, cR1, cR2, cR3, cR4, cR5, cR6, cR7, cR8⟩ := row9c hR
    obtain ⟨zR0, zR1, zR2, zR3, zR4, zR5, zR6, zR7, zR8⟩ := row9z hR
    go_wp2_with fail
    have P := put9 (.int .u64 0) (.int .u64 0) (.int .u64 0) (.int .u64 0) (.int .u64 0) (.int .u64 0) (.int .u64 0) (.int .u64 0) (.bool true) hR
    replace P := put_hid P
    obtain ⟨V9, hV9, P⟩ := P
    rw [hV9]
    have P9 := P.here
    have k9 := P.below (by omega) (show Below w.heap.size w V2 from by first | exact kk | exact kk.drew | exact below_drewN kk _)
    obtain ⟨v0, v1, v2, v3, v4, v5, v6, v7, v8⟩ := row9c P9
    refine bodyPost_ret (v := _) (by simp [results, Try.results43, go_sem, v0, v1, v2, v3, v4, v5, v6, v7, v8]; rfl) rfl ?_
    exact ⟨rfl, k9⟩
set_option maxRecDepth 10000 in
set_option maxHeartbeats 16000000 in
theorem addP_any {a0 a1 a2 a3 b0 b1 b2 b3 c0 c1 c2 c3 d0 d1 d2 d3 : Int} {a b : Pt PP} (hoa : a.on) (hob : b.on) (ha : W4 a0 a1 a2 a3 (px a)) (hb : W4 b0 b1 b2 b3 (py a)) (hc : W4 c0 c1 c2 c3 (px b)) (hd : W4 d0 d1 d2 d3 (py b)) (w : World) :
   Calls Try.prog 43 #[.agg #[.int .u64 a0, .int .u64 a1, .int .u64 a2, .int .u64 a3, .int .u64 b0, .int .u64 b1, .int .u64 b2, .int .u64 b3, .bool (pn a)], .agg #[.int .u64 c0, .int .u64 c1, .int .u64 c2, .int .u64 c3, .int .u64 d0, .int .u64 d1, .int .u64 d2, .int .u64 d3, .bool (pn b)]] w fun e w' => e = .returned (.agg #[.int .u64 (w0 (px (padd' finv a b)) : Nat), .int .u64 (w1 (px (padd' finv a b)) : Nat), .int .u64 (w2 (px (padd' finv a b)) : Nat), .int .u64 (w3 (px (padd' finv a b)) : Nat), .int .u64 (w0 (py (padd' finv a b)) : Nat), .int .u64 (w1 (py (padd' finv a b)) : Nat), .int .u64 (w2 (py (padd' finv a b)) : Nat), .int .u64 (w3 (py (padd' finv a b)) : Nat), .bool (pn (padd' finv a b))]) ∧ Below w.heap.size w w' := by
  obtain ⟨rfl, rfl, rfl, rfl, la⟩ := ha
  obtain ⟨rfl, rfl, rfl, rfl, lb⟩ := hb
  obtain ⟨rfl, rfl, rfl, rfl, lc⟩ := hc
  obtain ⟨rfl, rfl, rfl, rfl, ld⟩ := hd
  have HB := Lib.hid (onB_enc hoa)
  have HB2 := Lib.hid (onB_enc hob)
  have HSUM := Lib.hid (RayN.add hoa hob (RayN.of a) (RayN.of b))
  obtain ⟨ax, ay, az⟩ := (RayN.of a).big
  obtain ⟨bx, by', bz⟩ := (RayN.of b).big
  obtain ⟨sx, sy, sz⟩ := HSUM.out.big
  have AX := Lib.hid ax
  have AY := Lib.hid ay
  have AZ := Lib.hid az
  have BX := Lib.hid bx
  have BY := Lib.hid by'
  have BZ := Lib.hid bz
  have SX := Lib.hid sx
  have SY := Lib.hid sy
  have SZ := Lib.hid sz
  clear ax ay az bx by' bz sx sy sz
  obtain ⟨pX, hpX⟩ : ∃ n, px (padd' finv a b) = n := ⟨_, rfl⟩
  obtain ⟨pY, hpY⟩ : ∃ n, py (padd' finv a b) = n := ⟨_, rfl⟩
  obtain ⟨pB, hpB⟩ : ∃ n, pn (padd' finv a b) = n := ⟨_, rfl⟩
  rw [hpX, hpY, hpB]
  have HPX := Lib.hid hpX
  have HPY := Lib.hid hpY
  have HPB := Lib.hid hpB
  clear hpX hpY hpB
  obtain ⟨x, hx⟩ : ∃ x, px a = x := ⟨_, rfl⟩
  obtain ⟨y, hy⟩ : ∃ y, py a = y := ⟨_, rfl⟩
  obtain ⟨n, hbnn⟩ : ∃ n, pn a = n := ⟨_, rfl⟩
  rw [hx] at la HB ⊢
  rw [hy] at lb HB ⊢
  rw [hbnn] at HB ⊢
  have hla := Lib.hid la
  have hlb := Lib.hid lb
  have HX := Lib.hid hx
  have HY := Lib.hid hy
  have HBN := Lib.hid hbnn
  clear la lb hx hy hbnn
  obtain ⟨u, hu⟩ : ∃ u, px b = u := ⟨_, rfl⟩
  obtain ⟨v, hv⟩ : ∃ v, py b = v := ⟨_, rfl⟩
  obtain ⟨k, hbnk⟩ : ∃ k, pn b = k := ⟨_, rfl⟩
  rw [hu] at lc HB2 ⊢
  rw [hv] at ld HB2 ⊢
  rw [hbnk] at HB2 ⊢
  have hlc := Lib.hid lc
  have hld := Lib.hid ld
  have HX2 := Lib.hid hu
  have HY2 := Lib.hid hv
  have HBN2 := Lib.hid hbnk
  clear lc ld hu hv hbnk
  go_enter Try.func43, Try.ntmps43
  go_upto_region 1 with fail
  obtain ⟨V0, hW⟩ : ∃ V, ((w.alloc (.cells #[.int .u64 (w0 (x) : Nat), .int .u64 (w1 (x) : Nat), .int .u64 (w2 (x) : Nat), .int .u64 (w3 (x) : Nat), .int .u64 (w0 (y) : Nat), .int .u64 (w1 (y) : Nat), .int .u64 (w2 (y) : Nat), .int .u64 (w3 (y) : Nat), .bool n] 52)).alloc (.cells #[.int .u64 (w0 (u) : Nat), .int .u64 (w1 (u) : Nat), .int .u64 (w2 (u) : Nat), .int .u64 (w3 (u) : Nat), .int .u64 (w0 (v) : Nat), .int .u64 (w1 (v) : Nat), .int .u64 (w2 (v) : Nat), .int .u64 (w3 (v) : Nat), .bool k] 52)).alloc (.cells #[.int .u64 0, .int .u64 0, .int .u64 0, .int .u64 0, .int .u64 0, .int .u64 0, .int .u64 0, .int .u64 0, .bool false] 52) = V := ⟨_, rfl⟩
  rw [hW]
  have hA : V0.heap[w.heap.size]? = some (.cells #[.int .u64 (w0 (x) : Nat), .int .u64 (w1 (x) : Nat), .int .u64 (w2 (x) : Nat), .int .u64 (w3 (x) : Nat), .int .u64 (w0 (y) : Nat), .int .u64 (w1 (y) : Nat), .int .u64 (w2 (y) : Nat), .int .u64 (w3 (y) : Nat), .bool n] 52 (0, 0)) := by
    rw [← hW]; simp only [alloc_at, World.size_alloc]; repeat (first | rw [if_pos trivial] | rw [if_pos (by omega)] | rw [if_neg (by omega)])
  have hB : V0.heap[w.heap.size + 1]? = some (.cells #[.int .u64 (w0 (u) : Nat), .int .u64 (w1 (u) : Nat), .int .u64 (w2 (u) : Nat), .int .u64 (w3 (u) : Nat), .int .u64 (w0 (v) : Nat), .int .u64 (w1 (v) : Nat), .int .u64 (w2 (v) : Nat), .int .u64 (w3 (v) : Nat), .bool k] 52 (0, 0)) := by
    rw [← hW]; simp only [alloc_at, World.size_alloc]; repeat (first | rw [if_pos trivial] | rw [if_pos (by omega)] | rw [if_neg (by omega)])
  have hR : V0.heap[w.heap.size + 2]? = some (.cells #[.int .u64 0, .int .u64 0, .int .u64 0, .int .u64 0, .int .u64 0, .int .u64 0, .int .u64 0, .int .u64 0, .bool false] 52 (0, 0)) := by
    rw [← hW]; simp only [alloc_at, World.size_alloc]; repeat (first | rw [if_pos trivial] | rw [if_pos (by omega)] | rw [if_neg (by omega)])
  have kk : Below w.heap.size w V0 := by
    rw [← hW]
    repeat (first | exact Below.refl _ _ | refine Below.drew ?_ | refine bal ?_ _)
  clear hW
  obtain ⟨cA0, cA1, cA2, cA3, cA4, cA5, cA6, cA7, cA8⟩ := row9c hA
  obtain ⟨zA0, zA1, zA2, zA3, zA4, zA5, zA6, zA7, zA8⟩ := row9z hA
  go_wp2_with fail
  refine (on_any n (W4.mk' hla.out) (W4.mk' hlb.out) _).mono ?_
  rintro e V1 ⟨rfl, hb⟩
  replace hA := below_get hb hA
  replace hB := below_get hb hB
  replace hR := below_get hb hR
  replace kk := bcl (by first | exact kk | exact kk.drew | exact below_drewN kk _) hb
  clear cA0 zA0 cA1 zA1 cA2 zA2 cA3 zA3 cA4 zA4 cA5 zA5 cA6 zA6 cA7 zA7 cA8 zA8
  clear hb
  rw [HB.out]
  obtain ⟨cB0, cB1, cB2, cB3, cB4, cB5, cB6, cB7, cB8⟩ := row9c hB
  obtain ⟨zB0, zB1, zB2, zB3, zB4, zB5, zB6, zB7, zB8⟩ := row9z hB
  go_wp2_with fail
  refine (on_any k (W4.mk' hlc.out) (W4.mk' hld.out) _).mono ?_
  rintro e V2 ⟨rfl, hb⟩
  replace hA := below_get hb hA
  replace hB := below_get hb hB
  replace hR := below_get hb hR
  replace kk := bcl (by first | exact kk | exact kk.drew | exact below_drewN kk _) hb
  clear cB0 zB0 cB1 zB1 cB2 zB2 cB3 zB3 cB4 zB4 cB5 zB5 cB6 zB6 cB7 zB7 cB8 zB8
  clear hb
  rw [HB2.out]
  go_wp2_with fail
  refine (prime_any _).mono ?_
  rintro e V3 ⟨g, hg, rfl, hF, hb⟩
  have lR := lt_of_heap hR
  replace hA := below_get hb hA
  replace hB := below_get hb hB
  replace hR := below_get hb hR
  replace kk := bcl (by first | exact kk | exact kk.drew | exact below_drewN kk _) hb
  clear hb
  have HF := Lib.hid hF
  have hQ := hF.blk
  have fF := hF
  have hpos : 0 < PP := Nat.lt_trans (by decide) PP_pos
  have HM := Lib.hid PP_lt
  clear hF
  go_upto_region 4 with fail
  try clear cA0 cA1 cA2 cA3 cA4 cA5 cA6 cA7 cA8
  obtain ⟨cA0, cA1, cA2, cA3, cA4, cA5, cA6, cA7, cA8⟩ := row9c hA
  try clear cB0 cB1 cB2 cB3 cB4 cB5 cB6 cB7 cB8
  obtain ⟨cB0, cB1, cB2, cB3, cB4, cB5, cB6, cB7, cB8⟩ := row9c hB
  have neRA : w.heap.size ≠ w.heap.size + 2 := by omega
  have nfRA := neRA.symm
  have neRB : w.heap.size + 1 ≠ w.heap.size + 2 := by omega
  have nfRB := neRB.symm
  go_region_held3 (fun w' => w'.cell? ⟨w.heap.size, 0, none⟩ = some (.int .u64 (w0 (x) : Nat)) ∧ w'.cell? ⟨w.heap.size, 1, none⟩ = some (.int .u64 (w1 (x) : Nat)) ∧ w'.cell? ⟨w.heap.size, 2, none⟩ = some (.int .u64 (w2 (x) : Nat)) ∧ w'.cell? ⟨w.heap.size, 3, none⟩ = some (.int .u64 (w3 (x) : Nat)) ∧ w'.cell? ⟨w.heap.size, 4, none⟩ = some (.int .u64 (w0 (y) : Nat)) ∧ w'.cell? ⟨w.heap.size, 5, none⟩ = some (.int .u64 (w1 (y) : Nat)) ∧ w'.cell? ⟨w.heap.size, 6, none⟩ = some (.int .u64 (w2 (y) : Nat)) ∧ w'.cell? ⟨w.heap.size, 7, none⟩ = some (.int .u64 (w3 (y) : Nat)) ∧ w'.cell? ⟨w.heap.size, 8, none⟩ = some (.bool n) ∧ w'.cell? ⟨w.heap.size + 1, 0, none⟩ = some (.int .u64 (w0 (u) : Nat)) ∧ w'.cell? ⟨w.heap.size + 1, 1, none⟩ = some (.int .u64 (w1 (u) : Nat)) ∧ w'.cell? ⟨w.heap.size + 1, 2, none⟩ = some (.int .u64 (w2 (u) : Nat)) ∧ w'.cell? ⟨w.heap.size + 1, 3, none⟩ = some (.int .u64 (w3 (u) : Nat)) ∧ w'.cell? ⟨w.heap.size + 1, 4, none⟩ = some (.int .u64 (w0 (v) : Nat)) ∧ w'.cell? ⟨w.heap.size + 1, 5, none⟩ = some (.int .u64 (w1 (v) : Nat)) ∧ w'.cell? ⟨w.heap.size + 1, 6, none⟩ = some (.int .u64 (w2 (v) : Nat)) ∧ w'.cell? ⟨w.heap.size + 1, 7, none⟩ = some (.int .u64 (w3 (v) : Nat)) ∧ w'.cell? ⟨w.heap.size + 1, 8, none⟩ = some (.bool k)) (first | (with_reducible exact ⟨cA0, cA1, cA2, cA3, cA4, cA5, cA6, cA7, cA8, cB0, cB1, cB2, cB3, cB4, cB5, cB6, cB7, cB8⟩) | go_keep) (first | (go_at_call 74; with_reducible refine (rayE_any HX.out HY.out HBN.out hla.out hlb.out _).mono ?_; rintro e W ⟨rfl, hb⟩; (first | replace hA := below_get hb hA | replace hA := below_get hb (ak hA)); (first | replace hB := below_get hb hB | replace hB := below_get hb (ak hB)); (first | replace hR := below_get hb hR | replace hR := below_get hb (ak hR)); (first | replace hQ := below_get hb hQ | replace hQ := below_get hb (ak hQ)); (replace kk := bcl (by first | exact kk | exact kk.drew | exact bal kk _ | exact (bal kk _).drew) hb); (replace fF := IsF.of HF.out hQ); (try clear cA0 cA1 cA2 cA3 cA4 cA5 cA6 cA7 cA8); (obtain ⟨cA0, cA1, cA2, cA3, cA4, cA5, cA6, cA7, cA8⟩ := row9c hA); (try clear cB0 cB1 cB2 cB3 cB4 cB5 cB6 cB7 cB8); (obtain ⟨cB0, cB1, cB2, cB3, cB4, cB5, cB6, cB7, cB8⟩ := row9c hB); (try clear cR0 cR1 cR2 cR3 cR4 cR5 cR6 cR7 cR8); (obtain ⟨cR0, cR1, cR2, cR3, cR4, cR5, cR6, cR7, cR8⟩ := row9c hR); (obtain ⟨zR0, zR1, zR2, zR3, zR4, zR5, zR6, zR7, zR8⟩ := row9z hR); clear hb) | (go_at_call 74; with_reducible refine (rayE_any HX2.out HY2.out HBN2.out hlc.out hld.out _).mono ?_; rintro e W ⟨rfl, hb⟩; (first | replace hA := below_get hb hA | replace hA := below_get hb (ak hA)); (first | replace hB := below_get hb hB | replace hB := below_get hb (ak hB)); (first | replace hR := below_get hb hR | replace hR := below_get hb (ak hR)); (first | replace hQ := below_get hb hQ | replace hQ := below_get hb (ak hQ)); (replace kk := bcl (by first | exact kk | exact kk.drew | exact bal kk _ | exact (bal kk _).drew) hb); (replace fF := IsF.of HF.out hQ); (try clear cA0 cA1 cA2 cA3 cA4 cA5 cA6 cA7 cA8); (obtain ⟨cA0, cA1, cA2, cA3, cA4, cA5, cA6, cA7, cA8⟩ := row9c hA); (try clear cB0 cB1 cB2 cB3 cB4 cB5 cB6 cB7 cB8); (obtain ⟨cB0, cB1, cB2, cB3, cB4, cB5, cB6, cB7, cB8⟩ := row9c hB); (try clear cR0 cR1 cR2 cR3 cR4 cR5 cR6 cR7 cR8); (obtain ⟨cR0, cR1, cR2, cR3, cR4, cR5, cR6, cR7, cR8⟩ := row9c hR); (obtain ⟨zR0, zR1, zR2, zR3, zR4, zR5, zR6, zR7, zR8⟩ := row9z hR); clear hb) | (go_at_call 76; with_reducible refine (addR_any (r := rayN a) (o := rayN b) (W4.mk' AX.out) (W4.mk' AY.out) (W4.mk' AZ.out) (W4.mk' BX.out) (W4.mk' BY.out) (W4.mk' BZ.out) _ (show IsF _ (g) (PP) from (by first | exact fF | exact ⟨fF.blk, fF.odd, fF.three, fF.lt⟩ | exact ⟨ak fF.blk, fF.odd, fF.three, fF.lt⟩ | exact ⟨ak (ak fF.blk), fF.odd, fF.three, fF.lt⟩))).mono ?_; rintro e W ⟨rfl, hb⟩; (first | replace hA := below_get hb hA | replace hA := below_get hb (ak hA)); (first | replace hB := below_get hb hB | replace hB := below_get hb (ak hB)); (first | replace hR := below_get hb hR | replace hR := below_get hb (ak hR)); (first | replace hQ := below_get hb hQ | replace hQ := below_get hb (ak hQ)); (replace kk := bcl (by first | exact kk | exact kk.drew | exact bal kk _ | exact (bal kk _).drew) hb); (replace fF := IsF.of HF.out hQ); (try clear cA0 cA1 cA2 cA3 cA4 cA5 cA6 cA7 cA8); (obtain ⟨cA0, cA1, cA2, cA3, cA4, cA5, cA6, cA7, cA8⟩ := row9c hA); (try clear cB0 cB1 cB2 cB3 cB4 cB5 cB6 cB7 cB8); (obtain ⟨cB0, cB1, cB2, cB3, cB4, cB5, cB6, cB7, cB8⟩ := row9c hB); (try clear cR0 cR1 cR2 cR3 cR4 cR5 cR6 cR7 cR8); (obtain ⟨cR0, cR1, cR2, cR3, cR4, cR5, cR6, cR7, cR8⟩ := row9c hR); (obtain ⟨zR0, zR1, zR2, zR3, zR4, zR5, zR6, zR7, zR8⟩ := row9z hR); clear hb) | (go_at_call 77; with_reducible refine (pointP_any HSUM.out (W4.mk' SX.out) (W4.mk' SY.out) (W4.mk' SZ.out) _ (show IsF _ (g) (PP) from (by first | exact fF | exact ⟨fF.blk, fF.odd, fF.three, fF.lt⟩ | exact ⟨ak fF.blk, fF.odd, fF.three, fF.lt⟩ | exact ⟨ak (ak fF.blk), fF.odd, fF.three, fF.lt⟩))).mono ?_; rintro e W ⟨rfl, hb⟩; (first | replace hA := below_get hb hA | replace hA := below_get hb (ak hA)); (first | replace hB := below_get hb hB | replace hB := below_get hb (ak hB)); (first | replace hR := below_get hb hR | replace hR := below_get hb (ak hR)); (first | replace hQ := below_get hb hQ | replace hQ := below_get hb (ak hQ)); (replace kk := bcl (by first | exact kk | exact kk.drew | exact bal kk _ | exact (bal kk _).drew) hb); (replace fF := IsF.of HF.out hQ); (try clear cA0 cA1 cA2 cA3 cA4 cA5 cA6 cA7 cA8); (obtain ⟨cA0, cA1, cA2, cA3, cA4, cA5, cA6, cA7, cA8⟩ := row9c hA); (try clear cB0 cB1 cB2 cB3 cB4 cB5 cB6 cB7 cB8); (obtain ⟨cB0, cB1, cB2, cB3, cB4, cB5, cB6, cB7, cB8⟩ := row9c hB); (try clear cR0 cR1 cR2 cR3 cR4 cR5 cR6 cR7 cR8); (obtain ⟨cR0, cR1, cR2, cR3, cR4, cR5, cR6, cR7, cR8⟩ := row9c hR); (obtain ⟨zR0, zR1, zR2, zR3, zR4, zR5, zR6, zR7, zR8⟩ := row9z hR); clear hb; rw [HPX.out, HPY.out, HPB.out]))
  go_simp
  go_wp2_with fail
  have P := put9 (.int .u64 (w0 (pX) : Nat)) (.int .u64 (w1 (pX) : Nat)) (.int .u64 (w2 (pX) : Nat)) (.int .u64 (w3 (pX) : Nat)) (.int .u64 (w0 (pY) : Nat)) (.int .u64 (w1 (pY) : Nat)) (.int .u64 (w2 (pY) : Nat)) (.int .u64 (w3 (pY) : Nat)) (.bool pB) hR
  replace P := put_hid P
  obtain ⟨V9, hV9, P⟩ := P
  rw [hV9]
  have P9 := P.here
  have k9 := P.below (by omega) (show Below w.heap.size w W from by first | exact kk | exact kk.drew | exact below_drewN kk _)
  obtain ⟨v0, v1, v2, v3, v4, v5, v6, v7, v8⟩ := row9c P9
  refine bodyPost_ret (v := _) (by simp [results, Try.results43, go_sem, v0, v1, v2, v3, v4, v5, v6, v7, v8]; rfl) rfl ?_
  exact ⟨rfl, k9⟩
end Go.Proofs.Ytgghopmlcpcpkaa
namespace Go.Proofs.Ytgghopmlcpcpkaa
open Go.RowKit PlainK
set_option linter.unusedVariables false
set_option linter.unusedSimpArgs false
/-- a point of the curve and its numbers -/
structure PtN (a : Pt PP) (x y : Nat) (b : Bool) : Prop where
  on : a.on
  hx : px a = x
  hy : py a = y
  hb : pn a = b
section
variable {a b : Pt PP} {x y u v : Nat} {n k : Bool}
theorem PtN.of (h : a.on) : PtN a (px a) (py a) (pn a) := ⟨h, rfl, rfl, rfl⟩
theorem PtN.ex (h : a.on) : ∃ x y n, PtN a x y n := ⟨_, _, _, PtN.of h⟩
theorem PtN.lx (h : PtN a x y n) : x < 2 ^ 256 := h.hx ▸ px_big a
theorem PtN.ly (h : PtN a x y n) : y < 2 ^ 256 := h.hy ▸ py_big a
theorem PtN.wx (h : PtN a x y n) : W4 (w0 x : Nat) (w1 x : Nat) (w2 x : Nat) (w3 x : Nat) x := W4.mk' h.lx
theorem PtN.wy (h : PtN a x y n) : W4 (w0 y : Nat) (w1 y : Nat) (w2 y : Nat) (w3 y : Nat) y := W4.mk' h.ly
theorem PtN.zero : PtN (.o : Pt PP) 0 0 true := ⟨trivial, rfl, rfl, rfl⟩
theorem PtN.eq (h : PtN a x y n) (k' : PtN b x y n) : a = b := enc_inj (h.hx.trans k'.hx.symm) (h.hy.trans k'.hy.symm) (h.hb.trans k'.hb.symm)
theorem PtN.same (h : PtN a x y n) (h' : PtN a u v k) : x = u ∧ y = v ∧ n = k := ⟨h.hx.symm.trans h'.hx, h.hy.symm.trans h'.hy, h.hb.symm.trans h'.hb⟩
theorem PtN.dec (h : PtN a x y n) (h' : PtN b u v k) : (decide (x = u) && (decide (y = v) && (n == k))) = decide (a = b) := by
  by_cases e : a = b
  · subst e
    obtain ⟨rfl, rfl, rfl⟩ := h.same h'
    simp
  · rw [decide_eq_false e]
    by_cases hh : x = u ∧ y = v ∧ n = k
    · obtain ⟨rfl, rfl, rfl⟩ := hh
      exact absurd (h.eq h') e
    · cases hd : (decide (x = u) && (decide (y = v) && (n == k))) with
      | false => rfl
      | true =>
        simp only [Bool.and_eq_true, decide_eq_true_eq, beq_iff_eq] at hd
        exact absurd hd hh
theorem eqlQ (h : PtN a x y n) (h' : PtN b u v k) (r : Bool) (e : decide (a = b) = r) (w : World) :
  (binOp .eql 52 (.agg #[.int .u64 (w0 (x) : Nat), .int .u64 (w1 (x) : Nat), .int .u64 (w2 (x) : Nat), .int .u64 (w3 (x) : Nat), .int .u64 (w0 (y) : Nat), .int .u64 (w1 (y) : Nat), .int .u64 (w2 (y) : Nat), .int .u64 (w3 (y) : Nat), .bool n]) (.agg #[.int .u64 (w0 (u) : Nat), .int .u64 (w1 (u) : Nat), .int .u64 (w2 (u) : Nat), .int .u64 (w3 (u) : Nat), .int .u64 (w0 (v) : Nat), .int .u64 (w1 (v) : Nat), .int .u64 (w2 (v) : Nat), .int .u64 (w3 (v) : Nat), .bool k])).run Try.prog w = .ok (.bool r) w :=
  eql_np n k r h.wx h.wy h'.wx h'.wy ((h.dec h').trans e) w
theorem neq_of_eql {t : TypeId} {xs ys : Array Value} {r : Bool} {w : World} (h : (binOp .eql t (.agg xs) (.agg ys)).run Try.prog w = .ok (.bool r) w) :
  (binOp .neq t (.agg xs) (.agg ys)).run Try.prog w = .ok (.bool (!r)) w := by
  rw [run_eql_struct] at h
  rw [run_neq_struct]
  revert h
  cases (Op.equalIn 10000 t (.agg xs) (.agg ys)).run Try.prog w with
  | ok b w' => intro h; injection h with h1 h2; injection h1 with h1; subst h1; subst h2; rfl
  | halt x w' => intro h; cases h
theorem neqQ (h : PtN a x y n) (h' : PtN b u v k) (r : Bool) (e : decide (a = b) = r) (w : World) :
  (binOp .neq 52 (.agg #[.int .u64 (w0 (x) : Nat), .int .u64 (w1 (x) : Nat), .int .u64 (w2 (x) : Nat), .int .u64 (w3 (x) : Nat), .int .u64 (w0 (y) : Nat), .int .u64 (w1 (y) : Nat), .int .u64 (w2 (y) : Nat), .int .u64 (w3 (y) : Nat), .bool n]) (.agg #[.int .u64 (w0 (u) : Nat), .int .u64 (w1 (u) : Nat), .int .u64 (w2 (u) : Nat), .int .u64 (w3 (u) : Nat), .int .u64 (w0 (v) : Nat), .int .u64 (w1 (v) : Nat), .int .u64 (w2 (v) : Nat), .int .u64 (w3 (v) : Nat), .bool k])).run Try.prog w = .ok (.bool (!r)) w :=
  neq_of_eql (eqlQ h h' r e w)
/-- the base -/
theorem PtN.base : PtN G gx gy false := ⟨G_on, val_ft (by decide +kernel), val_ft (by decide +kernel), rfl⟩
def sl2 : Nat := 91914383230618135761690975197207778399550061809281766160147273830617914855857
def gx2 : Nat := 89565891926547004231252920425935692360644145829622209833684329913297188986597
theorem sl2_num : mulm PP sl2 (addf PP gy gy) = mulm PP 3 (mulm PP gx gx) := by decide +kernel
theorem gx2_num : subf PP (subf PP (mulm PP sl2 sl2) gx) gx = gx2 := by decide +kernel
theorem twice_G : px (times finv 2 G) = gx2 := by
  have e : times finv 2 G = padd' finv G G := by
    show padd' finv (times finv 1 G) G = _
    rw [times_one]
  rw [e]
  have hy : (ft gy : Fin PP) ≠ 0 := by
    intro h
    have := (ft_zero (p := PP) (a := gy) (by decide +kernel)).1 h
    revert this; decide +kernel
  have hl : (3 * (ft gx * ft gx) * finv (ft gy + ft gy) : Fin PP) = ft sl2 := by
    have h1 := twice_slope good hy (x := ft gx)
    have h2 : (ft sl2 : Fin PP) * (ft gy + ft gy) = 3 * (ft gx * ft gx) := by
      have := congrArg (fun n => (ft n : Fin PP)) sl2_num
      simp only [ft_mulm, ft_addf] at this
      rw [this, (ft_num PP).2.2.1]
    have h3 : (ft gy + ft gy : Fin PP) ≠ 0 := by
      intro h; apply hy
      exact eq_zero_of_mul good (show (2 : Fin PP) * ft gy = 0 by grind) two_ne
    have h4 := good.inv _ h3
    grind
  show px (if (ft gx : Fin PP) = ft gx then if (ft gy : Fin PP) = ft gy ∧ (ft gy : Fin PP) ≠ 0 then third (ft gx) (ft gy) (ft gx) (3 * (ft gx * ft gx) * finv (ft gy + ft gy)) else .o else third (ft gx) (ft gy) (ft gx) ((ft gy - ft gy) * finv (ft gx - ft gx))) = gx2
  rw [if_pos rfl, if_pos ⟨rfl, hy⟩, hl]
  show (ft sl2 * ft sl2 - ft gx - ft gx : Fin PP).val = gx2
  rw [← ft_mulm, ← ft_subf, ← ft_subf, gx2_num]
  exact val_ft (by decide +kernel)
end
end Go.Proofs.Ytgghopmlcpcpkaa
namespace Go.Proofs.Ytgghopmlcpcpkaa
open Go.RowKit PlainK
set_option linter.unusedVariables false
set_option linter.unusedSimpArgs false
section
variable {a b : Pt PP} {x y u v s t : Nat} {n k r : Bool}
theorem onQ_any (h : PtN a x y n) (w : World) : Calls Try.prog 44 #[.agg #[.int .u64 (w0 (x) : Nat), .int .u64 (w1 (x) : Nat), .int .u64 (w2 (x) : Nat), .int .u64 (w3 (x) : Nat), .int .u64 (w0 (y) : Nat), .int .u64 (w1 (y) : Nat), .int .u64 (w2 (y) : Nat), .int .u64 (w3 (y) : Nat), .bool n]] w fun e w' => e = .returned (.bool true) ∧ Below w.heap.size w w' := by
  have := on_any n h.wx h.wy w
  have e := onB_enc h.on
  rw [h.hx, h.hy, h.hb] at e
  rwa [e] at this
theorem addQ_any (hp : PtN a x y n) (hq : PtN b u v k) (hs : PtN (padd' finv a b) s t r) (w : World) : Calls Try.prog 43 #[.agg #[.int .u64 (w0 (x) : Nat), .int .u64 (w1 (x) : Nat), .int .u64 (w2 (x) : Nat), .int .u64 (w3 (x) : Nat), .int .u64 (w0 (y) : Nat), .int .u64 (w1 (y) : Nat), .int .u64 (w2 (y) : Nat), .int .u64 (w3 (y) : Nat), .bool n], .agg #[.int .u64 (w0 (u) : Nat), .int .u64 (w1 (u) : Nat), .int .u64 (w2 (u) : Nat), .int .u64 (w3 (u) : Nat), .int .u64 (w0 (v) : Nat), .int .u64 (w1 (v) : Nat), .int .u64 (w2 (v) : Nat), .int .u64 (w3 (v) : Nat), .bool k]] w fun e w' => e = .returned (.agg #[.int .u64 (w0 (s) : Nat), .int .u64 (w1 (s) : Nat), .int .u64 (w2 (s) : Nat), .int .u64 (w3 (s) : Nat), .int .u64 (w0 (t) : Nat), .int .u64 (w1 (t) : Nat), .int .u64 (w2 (t) : Nat), .int .u64 (w3 (t) : Nat), .bool r]) ∧ Below w.heap.size w w' := by
  have := addP_any hp.on hq.on (W4.mk' (px_big a)) (W4.mk' (py_big a)) (W4.mk' (px_big b)) (W4.mk' (py_big b)) w
  rwa [hp.hx, hp.hy, hp.hb, hq.hx, hq.hy, hq.hb, hs.hx, hs.hy, hs.hb] at this
theorem timesQ_any {c0 c1 c2 c3 : Int} {m : Nat} (hp : PtN a x y n) (hc : W4 c0 c1 c2 c3 m) (hs : PtN (times finv m a) s t r) (w : World) : Calls Try.prog 40 #[.agg #[.int .u64 (w0 (x) : Nat), .int .u64 (w1 (x) : Nat), .int .u64 (w2 (x) : Nat), .int .u64 (w3 (x) : Nat), .int .u64 (w0 (y) : Nat), .int .u64 (w1 (y) : Nat), .int .u64 (w2 (y) : Nat), .int .u64 (w3 (y) : Nat), .bool n], .agg #[.int .u64 c0, .int .u64 c1, .int .u64 c2, .int .u64 c3]] w fun e w' => e = .returned (.agg #[.int .u64 (w0 (s) : Nat), .int .u64 (w1 (s) : Nat), .int .u64 (w2 (s) : Nat), .int .u64 (w3 (s) : Nat), .int .u64 (w0 (t) : Nat), .int .u64 (w1 (t) : Nat), .int .u64 (w2 (t) : Nat), .int .u64 (w3 (t) : Nat), .bool r]) ∧ Below w.heap.size w w' := by
  have := timesN_any hp.on (W4.mk' (px_big a)) (W4.mk' (py_big a)) hc w
  rwa [times_order hp.on, hp.hx, hp.hy, hp.hb, hs.hx, hs.hy, hs.hb] at this
theorem negQ_any (hp : PtN a x y n) (hs : PtN (pneg' a) s t r) (w : World) : Calls Try.prog 42 #[.agg #[.int .u64 (w0 (x) : Nat), .int .u64 (w1 (x) : Nat), .int .u64 (w2 (x) : Nat), .int .u64 (w3 (x) : Nat), .int .u64 (w0 (y) : Nat), .int .u64 (w1 (y) : Nat), .int .u64 (w2 (y) : Nat), .int .u64 (w3 (y) : Nat), .bool n]] w fun e w' => e = .returned (.agg #[.int .u64 (w0 (s) : Nat), .int .u64 (w1 (s) : Nat), .int .u64 (w2 (s) : Nat), .int .u64 (w3 (s) : Nat), .int .u64 (w0 (t) : Nat), .int .u64 (w1 (t) : Nat), .int .u64 (w2 (t) : Nat), .int .u64 (w3 (t) : Nat), .bool r]) ∧ Below w.heap.size w w' := by
  have := neg_any hp.on (W4.mk' (px_big a)) (W4.mk' (py_big a)) w
  rwa [hp.hx, hp.hy, hp.hb, hs.hx, hs.hy, hs.hb] at this
theorem someQ_any {a0 a1 a2 a3 : Int} (odd : Bool) (ha : W4 a0 a1 a2 a3 x) (w : World) : Calls Try.prog 37 #[.agg #[.int .u64 a0, .int .u64 a1, .int .u64 a2, .int .u64 a3], .bool odd] w fun e w' => ∃ (p : Pt PP) (x y : Nat) (b : Bool), PtN p x y b ∧ e = .returned (.agg #[.int .u64 (w0 (x) : Nat), .int .u64 (w1 (x) : Nat), .int .u64 (w2 (x) : Nat), .int .u64 (w3 (x) : Nat), .int .u64 (w0 (y) : Nat), .int .u64 (w1 (y) : Nat), .int .u64 (w2 (y) : Nat), .int .u64 (w3 (y) : Nat), .bool b]) ∧ Below w.heap.size w w' :=
  (some_any odd ha w).mono fun e w' ⟨p, hon, he, hb⟩ => ⟨p, _, _, _, PtN.of hon, he, hb⟩
theorem W4_gx : W4 6481385041966929816 188021827762530521 6170039885052185351 8772561819708210092 gx := ⟨by decide +kernel, by decide +kernel, by decide +kernel, by decide +kernel, by decide +kernel⟩
theorem W4_gy : W4 11261198710074299576 18237243440184513561 6747795201694173352 5204712524664259685 gy := ⟨by decide +kernel, by decide +kernel, by decide +kernel, by decide +kernel, by decide +kernel⟩
theorem W4_gx2 : W4 12370272968204394213 6662950628856118439 3478257130916576472 14268669794154544493 gx2 := ⟨by decide +kernel, by decide +kernel, by decide +kernel, by decide +kernel, by decide +kernel⟩
set_option maxRecDepth 10000 in
set_option maxHeartbeats 8000000 in
theorem baseQ_any (hg : PtN G s t r) (w : World) : Calls Try.prog 54 #[] w fun e w' => e = .returned (.agg #[.int .u64 (w0 (s) : Nat), .int .u64 (w1 (s) : Nat), .int .u64 (w2 (s) : Nat), .int .u64 (w3 (s) : Nat), .int .u64 (w0 (t) : Nat), .int .u64 (w1 (t) : Nat), .int .u64 (w2 (t) : Nat), .int .u64 (w3 (t) : Nat), .bool r]) ∧ Below w.heap.size w w' := by
  obtain ⟨rfl, rfl, rfl⟩ := PtN.base.same hg
  rw [← W4_gx.e0, ← W4_gx.e1, ← W4_gx.e2, ← W4_gx.e3, ← W4_gy.e0, ← W4_gy.e1, ← W4_gy.e2, ← W4_gy.e3]
  clear hg
  go_enter Try.func54, Try.ntmps54
  go_upto_region 1 with fail
  obtain ⟨V0, hW⟩ : ∃ V, w.alloc (.cells #[.int .u64 0, .int .u64 0, .int .u64 0, .int .u64 0, .int .u64 0, .int .u64 0, .int .u64 0, .int .u64 0, .bool false] 52) = V := ⟨_, rfl⟩
  rw [hW]
  have hR : V0.heap[w.heap.size]? = some (.cells #[.int .u64 0, .int .u64 0, .int .u64 0, .int .u64 0, .int .u64 0, .int .u64 0, .int .u64 0, .int .u64 0, .bool false] 52 (0, 0)) := by
    rw [← hW]; simp only [alloc_at, World.size_alloc]; repeat (first | rw [if_pos trivial] | rw [if_pos (by omega)] | rw [if_neg (by omega)])
  have kk : Below w.heap.size w V0 := by
    rw [← hW]
    repeat (first | exact Below.refl _ _ | refine Below.drew ?_ | refine bal ?_ _)
  clear hW
  obtain ⟨cR0, cR1, cR2, cR3, cR4, cR5, cR6, cR7, cR8⟩ := row9c hR
  obtain ⟨zR0, zR1, zR2, zR3, zR4, zR5, zR6, zR7, zR8⟩ := row9z hR
  go_wp2_with fail
  have P := put9 (.int .u64 6481385041966929816) (.int .u64 188021827762530521) (.int .u64 6170039885052185351) (.int .u64 8772561819708210092) (.int .u64 11261198710074299576) (.int .u64 18237243440184513561) (.int .u64 6747795201694173352) (.int .u64 5204712524664259685) (.bool false) hR
  replace P := put_hid P
  obtain ⟨V9, hV9, P⟩ := P
  rw [hV9]
  have P9 := P.here
  have k9 := P.below (by omega) (show Below w.heap.size w V0 from by first | exact kk | exact kk.drew | exact below_drewN kk _)
  obtain ⟨v0, v1, v2, v3, v4, v5, v6, v7, v8⟩ := row9c P9
  refine bodyPost_ret (v := _) (by simp [results, Try.results54, go_sem, v0, v1, v2, v3, v4, v5, v6, v7, v8]; rfl) rfl ?_
  exact ⟨rfl, k9⟩
set_option maxRecDepth 10000 in
set_option maxHeartbeats 8000000 in
theorem livesC_any (w : World) : Calls Try.prog 36 #[] w fun e w' => e = .returned (.bool true) ∧ Below w.heap.size w w' := by
  obtain ⟨x, y, n, hG⟩ := PtN.ex G_on
  obtain ⟨u, v, k, hH⟩ := PtN.ex (times_on good G_on 2 (inv := finv))
  have q := eql_t hH.wx W4_gx2 (hH.hx.symm.trans twice_G)
  have HG := Lib.hid hG
  have HH := Lib.hid hH
  clear hG hH
  go_enter Try.func36, Try.ntmps36
  go_upto_region 1 with fail
  have kk : Below w.heap.size w w := Below.refl _ _
  go_wp2_with fail
  refine (baseQ_any HG.out _).mono ?_
  rintro e V1 ⟨rfl, hb⟩
  replace kk := bcl (by first | exact kk | exact kk.drew | exact below_drewN kk _) hb
  clear hb
  go_wp2_with fail
  refine (of_any _ _).mono ?_
  rintro e V2 ⟨rfl, hb⟩
  replace kk := bcl (by first | exact kk | exact kk.drew | exact below_drewN kk _) hb
  clear hb
  go_wp2_with fail
  refine (timesQ_any HG.out (W4.small (n := 2) rfl (by decide)) HH.out _).mono ?_
  rintro e V3 ⟨rfl, hb⟩
  replace kk := bcl (by first | exact kk | exact kk.drew | exact below_drewN kk _) hb
  clear hb
  go_upto_region 2 with fail
  obtain ⟨V4, hW⟩ : ∃ V, V3.alloc (.cells #[.int .u64 (w0 (u) : Nat), .int .u64 (w1 (u) : Nat), .int .u64 (w2 (u) : Nat), .int .u64 (w3 (u) : Nat), .int .u64 (w0 (v) : Nat), .int .u64 (w1 (v) : Nat), .int .u64 (w2 (v) : Nat), .int .u64 (w3 (v) : Nat), .bool k] 52 (0, 0)) = V := ⟨_, rfl⟩
  rw [hW]
  obtain ⟨d1, hbx⟩ : ∃ n, V3.heap.size = n := ⟨_, rfl⟩
  rw [hbx]
  have hNEW : V4.heap[d1]? = some (.cells #[.int .u64 (w0 (u) : Nat), .int .u64 (w1 (u) : Nat), .int .u64 (w2 (u) : Nat), .int .u64 (w3 (u) : Nat), .int .u64 (w0 (v) : Nat), .int .u64 (w1 (v) : Nat), .int .u64 (w2 (v) : Nat), .int .u64 (w3 (v) : Nat), .bool k] 52 (0, 0)) := by rw [← hW, ← hbx]; exact heap_alloc_new _ _
  have lD1 : w.heap.size ≤ d1 := by rw [← hbx]; exact kk.size
  replace kk : Below w.heap.size w V4 := by rw [← hW]; exact bal kk _
  have hD1 := hNEW
  clear hNEW hW hbx
  go_wp2_with fail
  refine (baseQ_any HG.out _).mono ?_
  rintro e V5 ⟨rfl, hb⟩
  replace hD1 := below_get hb hD1
  replace kk := bcl (by first | exact kk | exact kk.drew | exact below_drewN kk _) hb
  clear hb
  go_wp2_with fail
  refine (onQ_any HG.out _).mono ?_
  rintro e V6 ⟨rfl, hb⟩
  replace hD1 := below_get hb hD1
  replace kk := bcl (by first | exact kk | exact kk.drew | exact below_drewN kk _) hb
  clear hb
  obtain ⟨cD10, cD11, cD12, cD13, cD14, cD15, cD16, cD17, cD18⟩ := row9c hD1
  obtain ⟨zD10, zD11, zD12, zD13, zD14, zD15, zD16, zD17, zD18⟩ := row9z hD1
  go_wp2_with fail
  refine (onQ_any HH.out _).mono ?_
  rintro e V7 ⟨rfl, hb⟩
  replace hD1 := below_get hb hD1
  replace kk := bcl (by first | exact kk | exact kk.drew | exact below_drewN kk _) hb
  clear cD10 zD10 cD11 zD11 cD12 zD12 cD13 zD13 cD14 zD14 cD15 zD15 cD16 zD16 cD17 zD17 cD18 zD18
  clear hb
  obtain ⟨cD10, cD11, cD12, cD13, cD14, cD15, cD16, cD17, cD18⟩ := row9c hD1
  obtain ⟨zD10, zD11, zD12, zD13, zD14, zD15, zD16, zD17, zD18⟩ := row9z hD1
  go_wp2_with fail
  refine bodyPost_ret (v := _) (by simp [results, Try.results36, go_sem]; rfl) rfl ?_
  exact ⟨rfl, kk⟩
end
end Go.Proofs.Ytgghopmlcpcpkaa
