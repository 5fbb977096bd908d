/- A point's bytes, written and read; without conditions. -/
import Derived.Test.YtgghopmlcpcpkaaFrame
import Derived.Test.YtgghopmlcpcpkaaBytesL
import Derived.ChangeOld
import Derived.ChangeSlices
import Derived.Below
namespace Go.Proofs.Ytgghopmlcpcpkaa
open Go.ChangeShapes Go.WideShapes Go.ChangeAt Go.RowKit PlainK
set_option linter.unusedVariables false
set_option linter.unusedSimpArgs false
theorem Try.laidOut : laidOutB Try.prog = true := by kernel_rfl
theorem Try.cells52 : Try.prog.cellsOf 52 = 9 := by kernel_rfl
theorem Try.cells4 : Try.prog.cellsOf 4 = 1 := by kernel_rfl
theorem l9 {α : Type} (l : List α) (h : (⟨l⟩ : Array α).size = 9) : ∃ a b c d e f g i j, l = [a, b, c, d, e, f, g, i, j] := by
  match l, h with
  | [a, b, c, d, e, f, g, i, j], _ => exact ⟨a, b, c, d, e, f, g, i, j, rfl⟩
variable {H : Type} {enc : TypeId × Value → H}
theorem tL {W : World} {b : Nat} {s : Nat → Bool} {e : Bool} {t : TypeId} {v : Value} {d : DataW H} {p : List MemPlace} : DataW.Trod enc Try.prog W b s e t v d p → ∀ x ∈ p, x.block < W.heap.size := fun ⟨m, hm⟩ => DataW.trod_lt m _ _ _ hm
theorem oW {W : World} {base n : Nat} {sp : Nat → Bool} {hd : Bool} {c0 c1 c2 c3 : Value} {x : DataW H × List MemPlace} (h : DataW.trod enc Try.prog W base sp hd n 24 [c0, c1, c2, c3] = some x) :
    ∃ x0 x1 x2 x3 : Int, c0 = .int .u64 x0 ∧ c1 = .int .u64 x1 ∧ c2 = .int .u64 x2 ∧ c3 = .int .u64 x3 ∧
      (Lit.int .u64 x0).wf = true ∧ (Lit.int .u64 x1).wf = true ∧ (Lit.int .u64 x2).wf = true ∧ (Lit.int .u64 x3).wf = true := by
  obtain ⟨y0, y1, y2, y3, m, hx, hy0, hy1, hy2, hy3⟩ := trod_array4 Try.underlying24 Try.cells22 h
  obtain ⟨x0, e0, rfl, w0⟩ := DataW.trod_int Try.underlying22 hy0
  obtain ⟨x1, e1, rfl, w1⟩ := DataW.trod_int Try.underlying22 hy1
  obtain ⟨x2, e2, rfl, w2⟩ := DataW.trod_int Try.underlying22 hy2
  obtain ⟨x3, e3, rfl, w3⟩ := DataW.trod_int Try.underlying22 hy3
  simp at e0 e1 e2 e3
  exact ⟨x0, x1, x2, x3, e0, e1, e2, e3, w0, w1, w2, w3⟩
set_option maxHeartbeats 400000 in
set_option maxRecDepth 100000 in
theorem open_pt {W : World} {r : Reach} {base b0 : Nat} {sp : Nat → Bool} {hd : Bool} {v : Value} {d : DataW H} {ps : List MemPlace} (hval : Value.okWide Try.prog W r b0 52 v) (h : DataW.Trod enc Try.prog W base sp hd 52 v d ps) :
    ∃ (x0 x1 x2 x3 y0 y1 y2 y3 : Int) (m : Bool) (x y : Nat), v = .agg #[.int .u64 x0, .int .u64 x1, .int .u64 x2, .int .u64 x3, .int .u64 y0, .int .u64 y1, .int .u64 y2, .int .u64 y3, .bool m] ∧ W4 x0 x1 x2 x3 x ∧ W4 y0 y1 y2 y3 y := by
  obtain ⟨cs, rfl, hsz, _⟩ : ∃ cs, v = .agg cs ∧ cs.size = Try.prog.cellsOf 52 ∧ Row.okWide Try.prog W r b0 52 cs := by
    simpa [Value.okWide, under52] using hval
  rw [Try.cells52] at hsz
  obtain ⟨l⟩ := cs
  obtain ⟨c0, c1, c2, c3, c4, c5, c6, c7, c8, rfl⟩ := l9 l hsz
  obtain ⟨fuel, hf⟩ := h
  obtain ⟨xs, n, _, hx, hl, hlen, hfs⟩ := DataW.trod_struct under52 hf
  have hl3 : xs.length = 3 := by rw [hlen, ← Array.length_toList, fields52]; rfl
  have g : ∀ i f, (Try.prog.fieldsOf 52).toList[i]? = some f → (Try.prog.fieldsOf 52)[i]? = some f := fun i f hh => by rw [← Array.getElem?_toList]; exact hh
  rw [fields52] at g
  have e0 := hfs 0 _ (g 0 _ rfl)
  have e1 := hfs 1 _ (g 1 _ rfl)
  have e2 := hfs 2 _ (g 2 _ rfl)
  match xs, hl3 with
  | [z0, z1, z2], _ =>
    simp [Try.cells24, Try.cells4, Value.cells] at e0 e1 e2
    obtain ⟨x0, x1, x2, x3, rfl, rfl, rfl, rfl, w0, w1, w2, w3⟩ := oW e0
    obtain ⟨y0, y1, y2, y3, rfl, rfl, rfl, rfl, u0, u1, u2, u3⟩ := oW e1
    obtain ⟨m, e3, _⟩ := DataW.trod_bool Try.underlying4 e2
    simp at e3
    subst e3
    obtain ⟨x, hx⟩ := W4.of_wf w0 w1 w2 w3
    obtain ⟨y, hy⟩ := W4.of_wf u0 u1 u2 u3
    exact ⟨x0, x1, x2, x3, y0, y1, y2, y3, m, x, y, rfl, hx, hy⟩
set_option maxHeartbeats 1000000 in
set_option maxRecDepth 100000 in
theorem cBL (os : Os) (started : os.Started) (H : Type) (enc : TypeId × Value → H) :
    ReturnsInHanded {} Try.checked os 12 .any (Rows.curveBytesSpec.pre6 enc Try.prog Try.f12 Rows.curveBytesRow.domain false) (Rows.curveBytesSpec.post enc Try.prog Try.f12 false true false false) := by
  refine returnsInHanded_of_change (C := Try.checked) Try.own started (by kernel_rfl) Try.func12
    (ChangeSpec.witness6 (enc := enc) (C := Try.checked) false ⟨#[], #[.agg #[.int .u64 0, .int .u64 0, .int .u64 0, .int .u64 0], .bool false, .agg #[.int .u64 0, .int .u64 0, .int .u64 0, .int .u64 0, .int .u64 0, .int .u64 0, .int .u64 0, .int .u64 0, .bool false], .slice none 0 0], []⟩ 8 (by kernel_rfl) (by kernel_rfl) (by kernel_rfl) (by kernel_rfl)) ?_
  intro W base args ds gs before hval0 hW hcnd _
  have hval : ∀ (j : Nat) t v, Try.f12.params[j]? = some t → args[j]? = some v → Value.okWide Try.prog W .any base t v := hval0
  have hW' := hW
  obtain ⟨p, q, hA0, hV, rfl, hfz, hnd⟩ := hW
  have hA : DataW.TrodAll enc Try.prog W 0 (fun _ => true) true Try.f12.params.toList args.toList ds p := hA0
  rw [Try.params12] at hA hval
  obtain ⟨v0, vs0, d0, ds0, p0, q0, hargs, rfl, rfl, h0, r0⟩ := trodAll_cons hA
  obtain ⟨v1, vs1, d1, ds1, p1, q1, rfl, rfl, rfl, h1, r1⟩ := trodAll_cons r0
  obtain ⟨v2, vs2, d2, ds2, p2, q2, rfl, rfl, rfl, h2, r2⟩ := trodAll_cons r1
  obtain ⟨v3, vs3, d3, ds3, p3, q3, rfl, rfl, rfl, h3, r3⟩ := trodAll_cons r2
  obtain ⟨rfl, rfl, rfl⟩ := trodAll_nil r3
  obtain rfl : args = #[v0, v1, v2, v3] := by cases args; simp_all
  obtain ⟨rfl, rfl⟩ := trodVars_none hV
  obtain ⟨x00, x01, x02, x03, rfl, hd0, hp0, y00, y01, y02, y03⟩ := open_arr4 (hval 0 24 v0 rfl rfl) h0
  obtain ⟨n0, hn0⟩ := W4.of_wf y00 y01 y02 y03
  obtain ⟨x1, rfl, hd1, hp1⟩ := open_bool Try.underlying4 (hval 1 4 v1 rfl rfl) h1
  obtain ⟨a0, a1, a2, a3, b0, b1, b2, b3, m, u, v, rfl, hu, hv⟩ := open_pt (hval 2 52 v2 rfl rfl) h2
  obtain ⟨sa, len, cap, rfl⟩ := okWide_slice Try.underlying63 (hval 3 63 v3 rfl rfl)
  have walk : Calls Try.prog 12 #[.agg #[.int .u64 x00, .int .u64 x01, .int .u64 x02, .int .u64 x03], .bool x1, .agg #[.int .u64 a0, .int .u64 a1, .int .u64 a2, .int .u64 a3, .int .u64 b0, .int .u64 b1, .int .u64 b2, .int .u64 b3, .bool m], .slice sa len cap] W fun e W' => e = .returned (.bool true) ∧ Below W.heap.size W W' := by
    obtain ⟨fuel, hf⟩ := h3
    rcases open_ints Try.underlying63 Try.underlying5 (by kernel_rfl) hf with ⟨hcs, _⟩ | ⟨x, l, c, zs, hcs, _, hl, hm, hz, _, hcell, hwz⟩
    · simp [Value.cells] at hcs
      obtain ⟨rfl, rfl, rfl⟩ := hcs
      exact cbytes_any hn0 x1 hu hv m (bb := 0) (bo := 0) (f := fun _ => 0) (.inl rfl) (fun _ => by omega) (Nat.le_refl _) W (fun i hi => by omega)
    · simp [Value.cells] at hcs
      obtain ⟨rfl, rfl, rfl⟩ := hcs
      have hz' : zs.length = cap := by simpa using hz
      by_cases hl0 : len = 0
      · subst hl0
        exact cbytes_any hn0 x1 hu hv m (bb := 0) (bo := 0) (f := fun _ => 0) (.inl rfl) (fun _ => by omega) hl W (fun i hi => by omega)
      · obtain ⟨b, off, spot⟩ := x
        have hc := hcell 0 (by omega)
        have hp9 : spot = none := by simpa [Addr.add] using World.cell?_spot hc
        subst hp9
        have hu8 : ∀ i, 0 ≤ zs.getD i 0 ∧ zs.getD i 0 < 256 := fun i => by
          by_cases h : i < zs.length
          · have h2 := hwz (zs.getD i 0) (by rw [List.getD_eq_getElem?_getD, List.getElem?_eq_getElem h]; exact List.getElem_mem h)
            simp [Lit.wf, IntKind.min, IntKind.max, IntKind.signed, IntKind.bits] at h2
            simp only [List.getD_eq_getElem?_getD]
            omega
          · rw [List.getD_eq_getElem?_getD, List.getElem?_eq_none (by omega)]; exact ⟨by decide, by decide⟩
        refine cbytes_any hn0 x1 hu hv m (bb := b) (bo := off) (f := fun i => (zs.getD i 0).toNat) (Or.inr rfl) (fun i => by have := hu8 i; show (zs.getD i 0).toNat < 256; omega) hl W (fun i hi => ?_)
        have h5 := hcell i (by omega)
        have hadd : (⟨b, off, none⟩ : Addr).add i = ⟨b, off + i, none⟩ := by unfold Addr.add; split <;> simp_all
        rw [hadd] at h5
        rw [h5]
        show some (Value.int .u8 (zs.getD i 0)) = some (.int .u8 ((zs.getD i 0).toNat : Nat))
        rw [Int.toNat_of_nonneg (hu8 i).1]
  clear hA0 hval0
  refine walk.mono fun e W' ⟨he, bel⟩ => ?_
  subst he
  exact ⟨_, rfl, _, _, _, [], _, [], hW', trodAll_mk1 (shut_bool Try.underlying4 _), (trodAll_cons_mk (Below.trod Try.laidOut (by kernel_rfl) (of_decide_eq_true (by kernel_rfl)) h0 bel (tL h0)) (trodAll_cons_mk (Below.trod Try.laidOut (by kernel_rfl) (of_decide_eq_true (by kernel_rfl)) h1 bel (tL h1)) (trodAll_cons_mk (Below.trod Try.laidOut (by kernel_rfl) (of_decide_eq_true (by kernel_rfl)) h2 bel (tL h2)) (trodAll_cons_mk (Below.trod Try.laidOut (by kernel_rfl) (of_decide_eq_true (by kernel_rfl)) h3 bel (tL h3)) trodAll_mk0)))), rfl, bel.frame _, fun h => by cases h⟩

theorem curveBytes_proved : Rows.CurveBytesSaid :=
  OpenClaim.holds_of_wide 12 Try.f12 rfl rfl rfl rfl rfl rfl rfl ⟨rfl, rfl, rfl, rfl, rfl⟩ rfl rfl rfl rfl rfl (by kernel_rfl) Try.func12 (by kernel_rfl)
    (of_decide_eq_true (by kernel_rfl)) (by unfold Func.isWrapper; first | (rw [if_pos (by decide +kernel)]; kernel_rfl) | (rw [if_neg (by decide +kernel)]; exact ⟨rfl, rfl⟩))
    (fun os started H enc _ => cBL os started H enc)
#print axioms curveBytes_proved
end Go.Proofs.Ytgghopmlcpcpkaa
