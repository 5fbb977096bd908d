/- The sum of any two points, also of one twice and of one and itself turned about, is the document's by lines, and is on the curve; without conditions. -/
import Derived.Test.YtgghopmlcpcpkaaPtM
import Derived.Test.YtgghopmlcpcpkaaHeldV
import Derived.Deep.CutBlock
import Derived.Test.YtgghopmlcpcpkaaFrame
namespace Go.Proofs.Ytgghopmlcpcpkaa
open Go.RowKit PlainK
set_option linter.unusedVariables false
set_option linter.unusedSimpArgs false
section
variable {a b : Pt PP} {x y u v s t : Nat} {n k r : Bool}
theorem PtN.none (h : PtN a x y true) : a = .o := by
  cases a with
  | o => rfl
  | pt X Y => cases h.hb
theorem PtN.pt (h : PtN a x y false) : a = .pt (ft x) (ft y) ∧ x < PP ∧ y < PP := by
  cases a with
  | o => cases h.hb
  | pt X Y =>
    have h1 : X.val = x := h.hx
    have h2 : Y.val = y := h.hy
    subst h1 h2
    exact ⟨by rw [ft_val, ft_val], X.isLt, Y.isLt⟩
def slN (up dn : Nat) : Nat := mulm PP up (invN dn PP)
def tx (sl x u : Nat) : Nat := subf PP (subf PP (mulm PP sl sl) x) u
def ty (sl x y X : Nat) : Nat := subf PP (mulm PP sl (subf PP x X)) y
theorem third_num {up dn : Nat} (lx : x < PP) (lu : u < PP) (ld : dn < PP) (hd : dn ≠ 0) (c : Pt PP) (hc : c = third (ft x) (ft y) (ft u) (ft up * finv (ft dn))) (hs : PtN c s t r) :
   s = tx (slN up dn) x u ∧ t = ty (slN up dn) x y (tx (slN up dn) x u) ∧ r = false := by
  subst hc
  have hp : 0 < PP := Nat.lt_trans (by decide) PP_pos
  have e : (ft up * finv (ft dn) : Fin PP) = ft (slN up dn) := by
    unfold slN; rw [ft_mulm, ft_inv ld, if_neg hd]
  rw [e] at hs
  have ex : (ft (slN up dn) * ft (slN up dn) - ft x - ft u : Fin PP) = ft (tx (slN up dn) x u) := by
    unfold tx; rw [ft_subf, ft_subf, ft_mulm]
  have ey : (ft (slN up dn) * (ft x - ft (tx (slN up dn) x u)) - ft y : Fin PP) = ft (ty (slN up dn) x y (tx (slN up dn) x u)) := by
    unfold ty; rw [ft_subf, ft_mulm, ft_subf]
  have hx : (ft (slN up dn) * ft (slN up dn) - ft x - ft u : Fin PP).val = s := hs.hx
  have hy : (ft (slN up dn) * (ft x - (ft (slN up dn) * ft (slN up dn) - ft x - ft u)) - ft y : Fin PP).val = t := hs.hy
  rw [ex] at hx hy
  rw [ey] at hy
  refine ⟨?_, ?_, hs.hb.symm⟩
  · rw [← hx]; exact val_ft (subf_lt hp _ _)
  · rw [← hy]; exact val_ft (subf_lt hp _ _)
theorem sum_far (hp : PtN a x y false) (hq : PtN b u v false) (hs : PtN (padd' finv a b) s t r) (h : x ≠ u) :
   s = tx (slN (subf PP v y) (subf PP u x)) x u ∧ t = ty (slN (subf PP v y) (subf PP u x)) x y (tx (slN (subf PP v y) (subf PP u x)) x u) ∧ r = false := by
  obtain ⟨rfl, lx, ly⟩ := hp.pt
  obtain ⟨rfl, lu, lv⟩ := hq.pt
  have h0 : 0 < PP := Nat.lt_trans (by decide) PP_pos
  have hne : (ft x : Fin PP) ≠ ft u := fun e => h (by have := ft_eq e; rwa [Nat.mod_eq_of_lt lx, Nat.mod_eq_of_lt lu] at this)
  refine third_num lx lu (subf_lt h0 _ _) ?_ _ ?_ hs
  · intro e
    have := congrArg (fun n => (ft n : Fin PP)) e
    simp only [ft_subf] at this
    apply hne
    have h2 : (ft 0 : Fin PP) = 0 := rfl
    rw [h2] at this
    grind
  · show (if (ft x : Fin PP) = ft u then _ else third (ft x) (ft y) (ft u) ((ft v - ft y) * finv (ft u - ft x))) = _
    rw [if_neg hne, ft_subf, ft_subf]
theorem sum_same (hp : PtN a x y false) (hq : PtN b x y false) (hs : PtN (padd' finv a b) s t r) (h : y ≠ 0) :
   s = tx (slN (mulm PP 3 (mulm PP x x)) (addf PP y y)) x x ∧ t = ty (slN (mulm PP 3 (mulm PP x x)) (addf PP y y)) x y (tx (slN (mulm PP 3 (mulm PP x x)) (addf PP y y)) x x) ∧ r = false := by
  obtain ⟨rfl, lx, ly⟩ := hp.pt
  obtain ⟨rfl, lu, lv⟩ := hq.pt
  have h0 : 0 < PP := Nat.lt_trans (by decide) PP_pos
  have hne : (ft y : Fin PP) ≠ 0 := fun e => h ((ft_zero ly).1 e)
  refine third_num lx lu (addf_lt h0 _ _) ?_ _ ?_ hs
  · intro e
    have := congrArg (fun n => (ft n : Fin PP)) e
    simp only [ft_addf] at this
    apply hne
    have h2 : (ft 0 : Fin PP) = 0 := rfl
    rw [h2] at this
    exact eq_zero_of_mul good (show (2 : Fin PP) * ft y = 0 by grind) two_ne
  · show (if (ft x : Fin PP) = ft x then if (ft y : Fin PP) = ft y ∧ (ft y : Fin PP) ≠ 0 then third (ft x) (ft y) (ft x) (3 * (ft x * ft x) * finv (ft y + ft y)) else .o else _) = _
    rw [if_pos rfl, if_pos ⟨rfl, hne⟩, ft_addf, ft_mulm, ft_mulm, (ft_num PP).2.2.1]
theorem sum_none (hp : PtN a x y false) (hq : PtN b x v false) (hs : PtN (padd' finv a b) s t r) (h : y ≠ v ∨ y = 0) : s = 0 ∧ t = 0 ∧ r = true := by
  obtain ⟨rfl, lx, ly⟩ := hp.pt
  obtain ⟨rfl, lu, lv⟩ := hq.pt
  have e : padd' finv (.pt (ft x) (ft y)) (.pt (ft x) (ft v)) = (.o : Pt PP) := by
    show (if (ft x : Fin PP) = ft x then if (ft y : Fin PP) = ft v ∧ (ft y : Fin PP) ≠ 0 then third (ft x) (ft y) (ft x) (3 * (ft x * ft x) * finv (ft y + ft y)) else Pt.o else third (ft x) (ft y) (ft x) ((ft v - ft y) * finv (ft x - ft x))) = _
    rw [if_pos rfl, if_neg]
    rintro ⟨h1, h2⟩
    rcases h with h | h
    · apply h
      have := ft_eq h1
      rwa [Nat.mod_eq_of_lt ly, Nat.mod_eq_of_lt lv] at this
    · exact h2 ((ft_zero ly).2 h)
  rw [e] at hs
  exact hs.same PtN.zero
end
set_option maxRecDepth 10000 in
set_option maxHeartbeats 32000000 in
theorem sumQ_any {a b : Pt PP} {x y u v s t : Nat} {n k r : Bool} (hp : PtN a x y n) (hq : PtN b u v k) (hs : PtN (padd' finv a b) s t r) (w : World) :
   Calls Try.prog 39 #[.agg #[.int .u64 (w0 (x) : Nat), .int .u64 (w1 (x) : Nat), .int .u64 (w2 (x) : Nat), .int .u64 (w3 (x) : Nat), .int .u64 (w0 (y) : Nat), .int .u64 (w1 (y) : Nat), .int .u64 (w2 (y) : Nat), .int .u64 (w3 (y) : Nat), .bool n], .agg #[.int .u64 (w0 (u) : Nat), .int .u64 (w1 (u) : Nat), .int .u64 (w2 (u) : Nat), .int .u64 (w3 (u) : Nat), .int .u64 (w0 (v) : Nat), .int .u64 (w1 (v) : Nat), .int .u64 (w2 (v) : Nat), .int .u64 (w3 (v) : Nat), .bool k]] w fun e w' => e = .returned (.agg #[.int .u64 (w0 (s) : Nat), .int .u64 (w1 (s) : Nat), .int .u64 (w2 (s) : Nat), .int .u64 (w3 (s) : Nat), .int .u64 (w0 (t) : Nat), .int .u64 (w1 (t) : Nat), .int .u64 (w2 (t) : Nat), .int .u64 (w3 (t) : Nat), .bool r]) ∧ Below w.heap.size w w' := by
  have hla := Lib.hid hp.lx
  have hlb := Lib.hid hp.ly
  have hlc := Lib.hid hq.lx
  have hld := Lib.hid hq.ly
  have HP := Lib.hid hp
  have HQ2 := Lib.hid hq
  have HS := Lib.hid hs
  clear hp hq hs
  go_enter Try.func39, Try.ntmps39
  go_upto_region 1 with fail
  obtain ⟨V0, hW⟩ : ∃ V, ((w.alloc (.cells #[.int .u64 (w0 (x) : Nat), .int .u64 (w1 (x) : Nat), .int .u64 (w2 (x) : Nat), .int .u64 (w3 (x) : Nat), .int .u64 (w0 (y) : Nat), .int .u64 (w1 (y) : Nat), .int .u64 (w2 (y) : Nat), .int .u64 (w3 (y) : Nat), .bool n] 52)).alloc (.cells #[.int .u64 (w0 (u) : Nat), .int .u64 (w1 (u) : Nat), .int .u64 (w2 (u) : Nat), .int .u64 (w3 (u) : Nat), .int .u64 (w0 (v) : Nat), .int .u64 (w1 (v) : Nat), .int .u64 (w2 (v) : Nat), .int .u64 (w3 (v) : Nat), .bool k] 52)).alloc (.cells #[.int .u64 0, .int .u64 0, .int .u64 0, .int .u64 0, .int .u64 0, .int .u64 0, .int .u64 0, .int .u64 0, .bool false] 52) = V := ⟨_, rfl⟩
  rw [hW]
  have hA : V0.heap[w.heap.size]? = some (.cells #[.int .u64 (w0 (x) : Nat), .int .u64 (w1 (x) : Nat), .int .u64 (w2 (x) : Nat), .int .u64 (w3 (x) : Nat), .int .u64 (w0 (y) : Nat), .int .u64 (w1 (y) : Nat), .int .u64 (w2 (y) : Nat), .int .u64 (w3 (y) : Nat), .bool n] 52 (0, 0)) := by
    rw [← hW]; simp only [alloc_at, World.size_alloc]; repeat (first | rw [if_pos trivial] | rw [if_pos (by omega)] | rw [if_neg (by omega)])
  have hB : V0.heap[w.heap.size + 1]? = some (.cells #[.int .u64 (w0 (u) : Nat), .int .u64 (w1 (u) : Nat), .int .u64 (w2 (u) : Nat), .int .u64 (w3 (u) : Nat), .int .u64 (w0 (v) : Nat), .int .u64 (w1 (v) : Nat), .int .u64 (w2 (v) : Nat), .int .u64 (w3 (v) : Nat), .bool k] 52 (0, 0)) := by
    rw [← hW]; simp only [alloc_at, World.size_alloc]; repeat (first | rw [if_pos trivial] | rw [if_pos (by omega)] | rw [if_neg (by omega)])
  have hR : V0.heap[w.heap.size + 2]? = some (.cells #[.int .u64 0, .int .u64 0, .int .u64 0, .int .u64 0, .int .u64 0, .int .u64 0, .int .u64 0, .int .u64 0, .bool false] 52 (0, 0)) := by
    rw [← hW]; simp only [alloc_at, World.size_alloc]; repeat (first | rw [if_pos trivial] | rw [if_pos (by omega)] | rw [if_neg (by omega)])
  have kk : Below w.heap.size w V0 := by
    rw [← hW]
    repeat (first | exact Below.refl _ _ | refine Below.drew ?_ | refine bal ?_ _)
  clear hW
  go_wp2_with fail
  refine (prime_any _).mono ?_
  rintro e V1 ⟨g, hg, rfl, hF, hb⟩
  have lR := lt_of_heap hR
  replace hA := below_get hb hA
  replace hB := below_get hb hB
  replace hR := below_get hb hR
  replace kk := bcl (by first | exact kk | exact kk.drew | exact below_drewN kk _) hb
  clear hb
  have HF := Lib.hid hF
  have hQ := hF.blk
  have fF := hF
  have hpos : 0 < PP := Nat.lt_trans (by decide) PP_pos
  have HM := Lib.hid PP_lt
  clear hF
  obtain ⟨cA0, cA1, cA2, cA3, cA4, cA5, cA6, cA7, cA8⟩ := row9c hA
  obtain ⟨zA0, zA1, zA2, zA3, zA4, zA5, zA6, zA7, zA8⟩ := row9z hA
  obtain ⟨cB0, cB1, cB2, cB3, cB4, cB5, cB6, cB7, cB8⟩ := row9c hB
  obtain ⟨zB0, zB1, zB2, zB3, zB4, zB5, zB6, zB7, zB8⟩ := row9z hB
  obtain ⟨cR0, cR1, cR2, cR3, cR4, cR5, cR6, cR7, cR8⟩ := row9c hR
  obtain ⟨zR0, zR1, zR2, zR3, zR4, zR5, zR6, zR7, zR8⟩ := row9z hR
  cases n with
  | true =>
    have E := Lib.hid (HQ2.out.same (show PtN _ s t r from (by have := HS.out; rwa [HP.out.none, o_padd] at this)))
    go_wp2_with fail
    have P := put9 (.int .u64 (w0 (u) : Nat)) (.int .u64 (w1 (u) : Nat)) (.int .u64 (w2 (u) : Nat)) (.int .u64 (w3 (u) : Nat)) (.int .u64 (w0 (v) : Nat)) (.int .u64 (w1 (v) : Nat)) (.int .u64 (w2 (v) : Nat)) (.int .u64 (w3 (v) : Nat)) (.bool k) hR
    obtain ⟨V9, hV9⟩ : ∃ V, (World.setCell (World.setCell (World.setCell (World.setCell (World.setCell (World.setCell (World.setCell (World.setCell (World.setCell V1 ⟨w.heap.size + 2, 0, none⟩ (.int .u64 (w0 (u) : Nat))) ⟨w.heap.size + 2, 1, none⟩ (.int .u64 (w1 (u) : Nat))) ⟨w.heap.size + 2, 2, none⟩ (.int .u64 (w2 (u) : Nat))) ⟨w.heap.size + 2, 3, none⟩ (.int .u64 (w3 (u) : Nat))) ⟨w.heap.size + 2, 4, none⟩ (.int .u64 (w0 (v) : Nat))) ⟨w.heap.size + 2, 5, none⟩ (.int .u64 (w1 (v) : Nat))) ⟨w.heap.size + 2, 6, none⟩ (.int .u64 (w2 (v) : Nat))) ⟨w.heap.size + 2, 7, none⟩ (.int .u64 (w3 (v) : Nat))) ⟨w.heap.size + 2, 8, none⟩ (.bool k)) = V := ⟨_, rfl⟩
    rw [hV9] at P ⊢
    have P9 : V9.heap[w.heap.size + 2]? = some (.cells #[.int .u64 (w0 (u) : Nat), .int .u64 (w1 (u) : Nat), .int .u64 (w2 (u) : Nat), .int .u64 (w3 (u) : Nat), .int .u64 (w0 (v) : Nat), .int .u64 (w1 (v) : Nat), .int .u64 (w2 (v) : Nat), .int .u64 (w3 (v) : Nat), .bool k] 52 (0, 0)) := P.here
    have k9 := P.below (by omega) (show Below w.heap.size w V1 from by first | exact kk | exact kk.drew | exact below_drewN kk _)
    have v0 : V9.cell? ⟨w.heap.size + 2, 0, none⟩ = some (.int .u64 (w0 (u) : Nat)) := by rw [cell_of_row _ _ _ _ _ _ P9]; rfl
    have v1 : V9.cell? ⟨w.heap.size + 2, 1, none⟩ = some (.int .u64 (w1 (u) : Nat)) := by rw [cell_of_row _ _ _ _ _ _ P9]; rfl
    have v2 : V9.cell? ⟨w.heap.size + 2, 2, none⟩ = some (.int .u64 (w2 (u) : Nat)) := by rw [cell_of_row _ _ _ _ _ _ P9]; rfl
    have v3 : V9.cell? ⟨w.heap.size + 2, 3, none⟩ = some (.int .u64 (w3 (u) : Nat)) := by rw [cell_of_row _ _ _ _ _ _ P9]; rfl
    have v4 : V9.cell? ⟨w.heap.size + 2, 4, none⟩ = some (.int .u64 (w0 (v) : Nat)) := by rw [cell_of_row _ _ _ _ _ _ P9]; rfl
    have v5 : V9.cell? ⟨w.heap.size + 2, 5, none⟩ = some (.int .u64 (w1 (v) : Nat)) := by rw [cell_of_row _ _ _ _ _ _ P9]; rfl
    have v6 : V9.cell? ⟨w.heap.size + 2, 6, none⟩ = some (.int .u64 (w2 (v) : Nat)) := by rw [cell_of_row _ _ _ _ _ _ P9]; rfl
    have v7 : V9.cell? ⟨w.heap.size + 2, 7, none⟩ = some (.int .u64 (w3 (v) : Nat)) := by rw [cell_of_row _ _ _ _ _ _ P9]; rfl
    have v8 : V9.cell? ⟨w.heap.size + 2, 8, none⟩ = some (.bool k) := by rw [cell_of_row _ _ _ _ _ _ P9]; rfl
    refine bodyPost_ret (v := _) (by simp [results, Try.results39, go_sem, v0, v1, v2, v3, v4, v5, v6, v7, v8]; rfl) rfl ?_
    obtain ⟨e1, e2, e3⟩ := E.out
    rw [e1, e2, e3]
    exact ⟨rfl, k9⟩
  | false =>
  cases k with
  | true =>
    have E := Lib.hid (HP.out.same (show PtN _ s t r from (by have := HS.out; rwa [HQ2.out.none, padd_o] at this)))
    go_wp2_with fail
    have P := put9 (.int .u64 (w0 (x) : Nat)) (.int .u64 (w1 (x) : Nat)) (.int .u64 (w2 (x) : Nat)) (.int .u64 (w3 (x) : Nat)) (.int .u64 (w0 (y) : Nat)) (.int .u64 (w1 (y) : Nat)) (.int .u64 (w2 (y) : Nat)) (.int .u64 (w3 (y) : Nat)) (.bool false) hR
    obtain ⟨V9, hV9⟩ : ∃ V, (World.setCell (World.setCell (World.setCell (World.setCell (World.setCell (World.setCell (World.setCell (World.setCell (World.setCell V1 ⟨w.heap.size + 2, 0, none⟩ (.int .u64 (w0 (x) : Nat))) ⟨w.heap.size + 2, 1, none⟩ (.int .u64 (w1 (x) : Nat))) ⟨w.heap.size + 2, 2, none⟩ (.int .u64 (w2 (x) : Nat))) ⟨w.heap.size + 2, 3, none⟩ (.int .u64 (w3 (x) : Nat))) ⟨w.heap.size + 2, 4, none⟩ (.int .u64 (w0 (y) : Nat))) ⟨w.heap.size + 2, 5, none⟩ (.int .u64 (w1 (y) : Nat))) ⟨w.heap.size + 2, 6, none⟩ (.int .u64 (w2 (y) : Nat))) ⟨w.heap.size + 2, 7, none⟩ (.int .u64 (w3 (y) : Nat))) ⟨w.heap.size + 2, 8, none⟩ (.bool false)) = V := ⟨_, rfl⟩
    rw [hV9] at P ⊢
    have P9 : V9.heap[w.heap.size + 2]? = some (.cells #[.int .u64 (w0 (x) : Nat), .int .u64 (w1 (x) : Nat), .int .u64 (w2 (x) : Nat), .int .u64 (w3 (x) : Nat), .int .u64 (w0 (y) : Nat), .int .u64 (w1 (y) : Nat), .int .u64 (w2 (y) : Nat), .int .u64 (w3 (y) : Nat), .bool false] 52 (0, 0)) := P.here
    have k9 := P.below (by omega) (show Below w.heap.size w V1 from by first | exact kk | exact kk.drew | exact below_drewN kk _)
    have v0 : V9.cell? ⟨w.heap.size + 2, 0, none⟩ = some (.int .u64 (w0 (x) : Nat)) := by rw [cell_of_row _ _ _ _ _ _ P9]; rfl
    have v1 : V9.cell? ⟨w.heap.size + 2, 1, none⟩ = some (.int .u64 (w1 (x) : Nat)) := by rw [cell_of_row _ _ _ _ _ _ P9]; rfl
    have v2 : V9.cell? ⟨w.heap.size + 2, 2, none⟩ = some (.int .u64 (w2 (x) : Nat)) := by rw [cell_of_row _ _ _ _ _ _ P9]; rfl
    have v3 : V9.cell? ⟨w.heap.size + 2, 3, none⟩ = some (.int .u64 (w3 (x) : Nat)) := by rw [cell_of_row _ _ _ _ _ _ P9]; rfl
    have v4 : V9.cell? ⟨w.heap.size + 2, 4, none⟩ = some (.int .u64 (w0 (y) : Nat)) := by rw [cell_of_row _ _ _ _ _ _ P9]; rfl
    have v5 : V9.cell? ⟨w.heap.size + 2, 5, none⟩ = some (.int .u64 (w1 (y) : Nat)) := by rw [cell_of_row _ _ _ _ _ _ P9]; rfl
    have v6 : V9.cell? ⟨w.heap.size + 2, 6, none⟩ = some (.int .u64 (w2 (y) : Nat)) := by rw [cell_of_row _ _ _ _ _ _ P9]; rfl
    have v7 : V9.cell? ⟨w.heap.size + 2, 7, none⟩ = some (.int .u64 (w3 (y) : Nat)) := by rw [cell_of_row _ _ _ _ _ _ P9]; rfl
    have v8 : V9.cell? ⟨w.heap.size + 2, 8, none⟩ = some (.bool false) := by rw [cell_of_row _ _ _ _ _ _ P9]; rfl
    refine bodyPost_ret (v := _) (by simp [results, Try.results39, go_sem, v0, v1, v2, v3, v4, v5, v6, v7, v8]; rfl) rfl ?_
    obtain ⟨e1, e2, e3⟩ := E.out
    rw [e1, e2, e3]
    exact ⟨rfl, k9⟩
  | false =>
  go_upto_region 8 with fail
  obtain ⟨V3, hW⟩ : ∃ V, (V1.alloc (.cells #[.int .u64 0, .int .u64 0, .int .u64 0, .int .u64 0] 24 (0, 0))).alloc (.cells #[.int .u64 0, .int .u64 0, .int .u64 0, .int .u64 0] 24 (0, 0)) = V := ⟨_, rfl⟩
  rw [hW]
  obtain ⟨d6, hbx⟩ : ∃ n, V1.heap.size = n := ⟨_, rfl⟩
  rw [hbx]
  have hNEW1 : V3.heap[d6]? = some (.cells #[.int .u64 0, .int .u64 0, .int .u64 0, .int .u64 0] 24 (0, 0)) := by rw [← hW, ← hbx]; simp only [alloc_at, World.size_alloc]; repeat (first | rw [if_pos trivial] | rw [if_pos (by omega)] | rw [if_neg (by omega)])
  have hNEW2 : V3.heap[d6 + 1]? = some (.cells #[.int .u64 0, .int .u64 0, .int .u64 0, .int .u64 0] 24 (0, 0)) := by rw [← hW, ← hbx]; simp only [alloc_at, World.size_alloc]; repeat (first | rw [if_pos trivial] | rw [if_pos (by omega)] | rw [if_neg (by omega)])
  have lD6A : w.heap.size < d6 := by rw [← hbx]; exact lt_of_heap hA
  replace hA : V3.heap[w.heap.size]? = some (.cells #[.int .u64 (w0 (x) : Nat), .int .u64 (w1 (x) : Nat), .int .u64 (w2 (x) : Nat), .int .u64 (w3 (x) : Nat), .int .u64 (w0 (y) : Nat), .int .u64 (w1 (y) : Nat), .int .u64 (w2 (y) : Nat), .int .u64 (w3 (y) : Nat), .bool false] 52 (0, 0)) := by rw [← hW]; exact ak (ak hA)
  have lD6B : w.heap.size+1 < d6 := by rw [← hbx]; exact lt_of_heap hB
  replace hB : V3.heap[w.heap.size+1]? = some (.cells #[.int .u64 (w0 (u) : Nat), .int .u64 (w1 (u) : Nat), .int .u64 (w2 (u) : Nat), .int .u64 (w3 (u) : Nat), .int .u64 (w0 (v) : Nat), .int .u64 (w1 (v) : Nat), .int .u64 (w2 (v) : Nat), .int .u64 (w3 (v) : Nat), .bool false] 52 (0, 0)) := by rw [← hW]; exact ak (ak hB)
  have lD6R : w.heap.size + 2 < d6 := by rw [← hbx]; exact lt_of_heap hR
  replace hR : V3.heap[w.heap.size + 2]? = some (.cells #[.int .u64 0, .int .u64 0, .int .u64 0, .int .u64 0, .int .u64 0, .int .u64 0, .int .u64 0, .int .u64 0, .bool false] 52 (0, 0)) := by rw [← hW]; exact ak (ak hR)
  have lD6Q : g < d6 := by rw [← hbx]; exact lt_of_heap hQ
  replace hQ : V3.heap[g]? = some (.cells #[.int .u64 (w0 (PP) : Nat), .int .u64 (w1 (PP) : Nat), .int .u64 (w2 (PP) : Nat), .int .u64 (w3 (PP) : Nat), .int .u64 (finv1 (PP) : Nat), .int .u64 (w0 (fsq (PP)) : Nat), .int .u64 (w1 (fsq (PP)) : Nat), .int .u64 (w2 (fsq (PP)) : Nat), .int .u64 (w3 (fsq (PP)) : Nat)] 90 (0, 0)) := by rw [← hW]; exact ak (ak hQ)
  have lD6 : w.heap.size ≤ d6 := by rw [← hbx]; exact kk.size
  replace kk : Below w.heap.size w V3 := by rw [← hW]; exact bal (bal kk _) _
  have hD6 := hNEW1
  have hD7 := hNEW2
  replace fF := IsF.of HF.out hQ
  clear cA0 zA0 cA1 zA1 cA2 zA2 cA3 zA3 cA4 zA4 cA5 zA5 cA6 zA6 cA7 zA7 cA8 zA8 cB0 zB0 cB1 zB1 cB2 zB2 cB3 zB3 cB4 zB4 cB5 zB5 cB6 zB6 cB7 zB7 cB8 zB8 cR0 zR0 cR1 zR1 cR2 zR2 cR3 zR3 cR4 zR4 cR5 zR5 cR6 zR6 cR7 zR7 cR8 zR8
  clear hNEW1 hNEW2 hW hbx
  by_cases hxu : x = u
  · subst hxu
    have q1 := fun w => neq_of_eql (eqlG hla.out hla.out rfl w)
    by_cases hy : y ≠ v ∨ y = 0
    · have E := Lib.hid (sum_none HP.out HQ2.out HS.out hy)
      by_cases hyv : y = v
      · subst hyv
        have hy0 : y = 0 := hy.resolve_left (by simp)
        have q2 := fun w => neq_of_eql (eqlG hlb.out hlb.out rfl w)
        have q3 := eql_t (W4.mk' hlb.out) W4.zero hy0
        clear hy hy0
        obtain ⟨cA0, cA1, cA2, cA3, cA4, cA5, cA6, cA7, cA8⟩ := row9c hA
        obtain ⟨zA0, zA1, zA2, zA3, zA4, zA5, zA6, zA7, zA8⟩ := row9z hA
        obtain ⟨cB0, cB1, cB2, cB3, cB4, cB5, cB6, cB7, cB8⟩ := row9c hB
        obtain ⟨zB0, zB1, zB2, zB3, zB4, zB5, zB6, zB7, zB8⟩ := row9z hB
        go_wp2_with fail
        refine (nonep_any _).mono ?_
        rintro e V4 ⟨rfl, hb⟩
        replace hA := below_get hb hA
        replace hB := below_get hb hB
        replace hR := below_get hb hR
        replace hQ := below_get hb hQ
        replace hD6 := below_get hb hD6
        replace hD7 := below_get hb hD7
        replace kk := bcl (by first | exact kk | exact kk.drew | exact below_drewN kk _) hb
        replace fF := IsF.of HF.out hQ
        clear cA0 zA0 cA1 zA1 cA2 zA2 cA3 zA3 cA4 zA4 cA5 zA5 cA6 zA6 cA7 zA7 cA8 zA8 cB0 zB0 cB1 zB1 cB2 zB2 cB3 zB3 cB4 zB4 cB5 zB5 cB6 zB6 cB7 zB7 cB8 zB8
        clear hb
        obtain ⟨cR0, cR1, cR2, cR3, cR4, cR5, cR6, cR7, cR8⟩ := row9c hR
        obtain ⟨zR0, zR1, zR2, zR3, zR4, zR5, zR6, zR7, zR8⟩ := row9z hR
        go_wp2_with fail
        have P := put9 (.int .u64 0) (.int .u64 0) (.int .u64 0) (.int .u64 0) (.int .u64 0) (.int .u64 0) (.int .u64 0) (.int .u64 0) (.bool true) hR
        obtain ⟨V9, hV9⟩ : ∃ V, (World.setCell (World.setCell (World.setCell (World.setCell (World.setCell (World.setCell (World.setCell (World.setCell (World.setCell V4 ⟨w.heap.size + 2, 0, none⟩ (.int .u64 0)) ⟨w.heap.size + 2, 1, none⟩ (.int .u64 0)) ⟨w.heap.size + 2, 2, none⟩ (.int .u64 0)) ⟨w.heap.size + 2, 3, none⟩ (.int .u64 0)) ⟨w.heap.size + 2, 4, none⟩ (.int .u64 0)) ⟨w.heap.size + 2, 5, none⟩ (.int .u64 0)) ⟨w.heap.size + 2, 6, none⟩ (.int .u64 0)) ⟨w.heap.size + 2, 7, none⟩ (.int .u64 0)) ⟨w.heap.size + 2, 8, none⟩ (.bool true)) = V := ⟨_, rfl⟩
        rw [hV9] at P ⊢
        have P9 : V9.heap[w.heap.size + 2]? = some (.cells #[.int .u64 0, .int .u64 0, .int .u64 0, .int .u64 0, .int .u64 0, .int .u64 0, .int .u64 0, .int .u64 0, .bool true] 52 (0, 0)) := P.here
        have k9 := P.below (by omega) (show Below w.heap.size w V4 from by first | exact kk | exact kk.drew | exact below_drewN kk _)
        have v0 : V9.cell? ⟨w.heap.size + 2, 0, none⟩ = some (.int .u64 0) := by rw [cell_of_row _ _ _ _ _ _ P9]; rfl
        have v1 : V9.cell? ⟨w.heap.size + 2, 1, none⟩ = some (.int .u64 0) := by rw [cell_of_row _ _ _ _ _ _ P9]; rfl
        have v2 : V9.cell? ⟨w.heap.size + 2, 2, none⟩ = some (.int .u64 0) := by rw [cell_of_row _ _ _ _ _ _ P9]; rfl
        have v3 : V9.cell? ⟨w.heap.size + 2, 3, none⟩ = some (.int .u64 0) := by rw [cell_of_row _ _ _ _ _ _ P9]; rfl
        have v4 : V9.cell? ⟨w.heap.size + 2, 4, none⟩ = some (.int .u64 0) := by rw [cell_of_row _ _ _ _ _ _ P9]; rfl
        have v5 : V9.cell? ⟨w.heap.size + 2, 5, none⟩ = some (.int .u64 0) := by rw [cell_of_row _ _ _ _ _ _ P9]; rfl
        have v6 : V9.cell? ⟨w.heap.size + 2, 6, none⟩ = some (.int .u64 0) := by rw [cell_of_row _ _ _ _ _ _ P9]; rfl
        have v7 : V9.cell? ⟨w.heap.size + 2, 7, none⟩ = some (.int .u64 0) := by rw [cell_of_row _ _ _ _ _ _ P9]; rfl
        have v8 : V9.cell? ⟨w.heap.size + 2, 8, none⟩ = some (.bool true) := by rw [cell_of_row _ _ _ _ _ _ P9]; rfl
        refine bodyPost_ret (v := _) (by simp [results, Try.results39, go_sem, v0, v1, v2, v3, v4, v5, v6, v7, v8]; rfl) rfl ?_
        obtain ⟨e1, e2, e3⟩ := E.out
        rw [e1, e2, e3]
        exact ⟨rfl, k9⟩
      · have q2 := fun w => neq_of_eql (eqlGn hlb.out hld.out hyv w)
        clear hy hyv
        obtain ⟨cA0, cA1, cA2, cA3, cA4, cA5, cA6, cA7, cA8⟩ := row9c hA
        obtain ⟨zA0, zA1, zA2, zA3, zA4, zA5, zA6, zA7, zA8⟩ := row9z hA
        obtain ⟨cB0, cB1, cB2, cB3, cB4, cB5, cB6, cB7, cB8⟩ := row9c hB
        obtain ⟨zB0, zB1, zB2, zB3, zB4, zB5, zB6, zB7, zB8⟩ := row9z hB
        go_wp2_with fail
        refine (nonep_any _).mono ?_
        rintro e V4 ⟨rfl, hb⟩
        replace hA := below_get hb hA
        replace hB := below_get hb hB
        replace hR := below_get hb hR
        replace hQ := below_get hb hQ
        replace hD6 := below_get hb hD6
        replace hD7 := below_get hb hD7
        replace kk := bcl (by first | exact kk | exact kk.drew | exact below_drewN kk _) hb
        replace fF := IsF.of HF.out hQ
        clear cA0 zA0 cA1 zA1 cA2 zA2 cA3 zA3 cA4 zA4 cA5 zA5 cA6 zA6 cA7 zA7 cA8 zA8 cB0 zB0 cB1 zB1 cB2 zB2 cB3 zB3 cB4 zB4 cB5 zB5 cB6 zB6 cB7 zB7 cB8 zB8
        clear hb
        obtain ⟨cR0, cR1, cR2, cR3, cR4, cR5, cR6, cR7, cR8⟩ := row9c hR
        obtain ⟨zR0, zR1, zR2, zR3, zR4, zR5, zR6, zR7, zR8⟩ := row9z hR
        go_wp2_with fail
        have P := put9 (.int .u64 0) (.int .u64 0) (.int .u64 0) (.int .u64 0) (.int .u64 0) (.int .u64 0) (.int .u64 0) (.int .u64 0) (.bool true) hR
        obtain ⟨V9, hV9⟩ : ∃ V, (World.setCell (World.setCell (World.setCell (World.setCell (World.setCell (World.setCell (World.setCell (World.setCell (World.setCell V4 ⟨w.heap.size + 2, 0, none⟩ (.int .u64 0)) ⟨w.heap.size + 2, 1, none⟩ (.int .u64 0)) ⟨w.heap.size + 2, 2, none⟩ (.int .u64 0)) ⟨w.heap.size + 2, 3, none⟩ (.int .u64 0)) ⟨w.heap.size + 2, 4, none⟩ (.int .u64 0)) ⟨w.heap.size + 2, 5, none⟩ (.int .u64 0)) ⟨w.heap.size + 2, 6, none⟩ (.int .u64 0)) ⟨w.heap.size + 2, 7, none⟩ (.int .u64 0)) ⟨w.heap.size + 2, 8, none⟩ (.bool true)) = V := ⟨_, rfl⟩
        rw [hV9] at P ⊢
        have P9 : V9.heap[w.heap.size + 2]? = some (.cells #[.int .u64 0, .int .u64 0, .int .u64 0, .int .u64 0, .int .u64 0, .int .u64 0, .int .u64 0, .int .u64 0, .bool true] 52 (0, 0)) := P.here
        have k9 := P.below (by omega) (show Below w.heap.size w V4 from by first | exact kk | exact kk.drew | exact below_drewN kk _)
        have v0 : V9.cell? ⟨w.heap.size + 2, 0, none⟩ = some (.int .u64 0) := by rw [cell_of_row _ _ _ _ _ _ P9]; rfl
        have v1 : V9.cell? ⟨w.heap.size + 2, 1, none⟩ = some (.int .u64 0) := by rw [cell_of_row _ _ _ _ _ _ P9]; rfl
        have v2 : V9.cell? ⟨w.heap.size + 2, 2, none⟩ = some (.int .u64 0) := by rw [cell_of_row _ _ _ _ _ _ P9]; rfl
        have v3 : V9.cell? ⟨w.heap.size + 2, 3, none⟩ = some (.int .u64 0) := by rw [cell_of_row _ _ _ _ _ _ P9]; rfl
        have v4 : V9.cell? ⟨w.heap.size + 2, 4, none⟩ = some (.int .u64 0) := by rw [cell_of_row _ _ _ _ _ _ P9]; rfl
        have v5 : V9.cell? ⟨w.heap.size + 2, 5, none⟩ = some (.int .u64 0) := by rw [cell_of_row _ _ _ _ _ _ P9]; rfl
        have v6 : V9.cell? ⟨w.heap.size + 2, 6, none⟩ = some (.int .u64 0) := by rw [cell_of_row _ _ _ _ _ _ P9]; rfl
        have v7 : V9.cell? ⟨w.heap.size + 2, 7, none⟩ = some (.int .u64 0) := by rw [cell_of_row _ _ _ _ _ _ P9]; rfl
        have v8 : V9.cell? ⟨w.heap.size + 2, 8, none⟩ = some (.bool true) := by rw [cell_of_row _ _ _ _ _ _ P9]; rfl
        refine bodyPost_ret (v := _) (by simp [results, Try.results39, go_sem, v0, v1, v2, v3, v4, v5, v6, v7, v8]; rfl) rfl ?_
        obtain ⟨e1, e2, e3⟩ := E.out
        rw [e1, e2, e3]
        exact ⟨rfl, k9⟩
    · have hyv : y = v := by apply Classical.byContradiction; intro h; exact hy (Or.inl h)
      subst hyv
      have hy0 : y ≠ 0 := fun h => hy (Or.inr h)
      have E := Lib.hid (sum_same HP.out HQ2.out HS.out hy0)
      have q2 := fun w => neq_of_eql (eqlG hlb.out hlb.out rfl w)
      have q3 := eql_f (W4.mk' hlb.out) W4.zero hy0
      clear hy hy0
      obtain ⟨cA0, cA1, cA2, cA3, cA4, cA5, cA6, cA7, cA8⟩ := row9c hA
      obtain ⟨zA0, zA1, zA2, zA3, zA4, zA5, zA6, zA7, zA8⟩ := row9z hA
      obtain ⟨cB0, cB1, cB2, cB3, cB4, cB5, cB6, cB7, cB8⟩ := row9c hB
      obtain ⟨zB0, zB1, zB2, zB3, zB4, zB5, zB6, zB7, zB8⟩ := row9z hB
      go_upto_region 7 with fail
      clear q1 q2 q3
      have M0 := Lib.hid (show mulm PP x x < 2 ^ 256 from Nat.lt_trans (Nat.mod_lt _ hpos) HM.out)
      clear cA0 zA0 cA1 zA1 cA2 zA2 cA3 zA3 cA4 zA4 cA5 zA5 cA6 zA6 cA7 zA7 cA8 zA8 cB0 zB0 cB1 zB1 cB2 zB2 cB3 zB3 cB4 zB4 cB5 zB5 cB6 zB6 cB7 zB7 cB8 zB8
      obtain ⟨S0, hS0⟩ : ∃ S : World → Prop, S = (fun w' => w'.heap[w.heap.size]? = some (.cells #[.int .u64 (w0 (x) : Nat), .int .u64 (w1 (x) : Nat), .int .u64 (w2 (x) : Nat), .int .u64 (w3 (x) : Nat), .int .u64 (w0 (y) : Nat), .int .u64 (w1 (y) : Nat), .int .u64 (w2 (y) : Nat), .int .u64 (w3 (y) : Nat), .bool false] 52 (0, 0))) := ⟨_, rfl⟩
      refine startT (S := S0) 16 (by kernel_rfl) (by rw [hS0]; exact hA) (fun hHeld => ?_)
      refine takeT (i := 0) (d := some 19) (v := ?_) _ rfl rfl (by rfl) (by kernel_rfl) (by decide) (by kernel_rfl) (by kernel_rfl) (by kernel_rfl) (fun _ _ _ h => h) (by assumption) (by kernel_rfl) ?_ ?_
      rotate_left
      · (first | (intro w' hSw; clear hSw; go_simp; try (with_reducible rfl)) | (intro w'; go_simp; try (with_reducible rfl)))
      try simp only [Act.put, List.setIfInBounds_toArray, List.set_cons_zero, List.set_cons_succ]
      refine takeT (i := 2) (d := some 21) (v := ?_) _ rfl rfl (by rfl) (by kernel_rfl) (by decide) (by kernel_rfl) (by kernel_rfl) (by kernel_rfl) (fun _ _ _ h => h) (by assumption) (by kernel_rfl) ?_ ?_
      rotate_left
      · (first | (intro w' hSw; clear hSw; go_simp; try (with_reducible rfl)) | (intro w'; go_simp; try (with_reducible rfl)))
      try simp only [Act.put, List.setIfInBounds_toArray, List.set_cons_zero, List.set_cons_succ]
      refine takeT (i := 3) (d := some 22) (v := ?_) _ rfl rfl (by rfl) (by kernel_rfl) (by decide) (by kernel_rfl) (by kernel_rfl) (by kernel_rfl) (fun _ _ _ h => h) (by assumption) (by kernel_rfl) ?_ ?_
      rotate_left
      · (first | (intro w' hSw; clear hSw; go_simp; try (with_reducible rfl)) | (intro w'; go_simp; try (with_reducible rfl)))
      try simp only [Act.put, List.setIfInBounds_toArray, List.set_cons_zero, List.set_cons_succ]
      refine takeT (i := 4) (d := some 23) (v := ?_) _ rfl rfl (by rfl) (by kernel_rfl) (by decide) (by kernel_rfl) (by kernel_rfl) (by kernel_rfl) (fun _ _ _ h => h) (by assumption) (by kernel_rfl) ?_ ?_
      rotate_left
      · (intro w' hSw; (rw [hS0] at hSw); (have hSw' := hSw); (first | (have svA := hSw'; obtain ⟨cvA0, cvA1, cvA2, cvA3, cvA4, cvA5, cvA6, cvA7, cvA8⟩ := row9c svA; go_simp)); try (with_reducible rfl))
      try simp only [Act.put, List.setIfInBounds_toArray, List.set_cons_zero, List.set_cons_succ]
      refine takeT (i := 5) (d := some 24) (v := ?_) _ rfl rfl (by rfl) (by kernel_rfl) (by decide) (by kernel_rfl) (by kernel_rfl) (by kernel_rfl) (fun _ _ _ h => h) (by assumption) (by kernel_rfl) ?_ ?_
      rotate_left
      · (first | (intro w' hSw; clear hSw; go_simp; try (with_reducible rfl)) | (intro w'; go_simp; try (with_reducible rfl)))
      try simp only [Act.put, List.setIfInBounds_toArray, List.set_cons_zero, List.set_cons_succ]
      refine takeT (i := 6) (d := some 25) (v := ?_) _ rfl rfl (by rfl) (by kernel_rfl) (by decide) (by kernel_rfl) (by kernel_rfl) (by kernel_rfl) (fun _ _ _ h => h) (by assumption) (by kernel_rfl) ?_ ?_
      rotate_left
      · (intro w' hSw; (rw [hS0] at hSw); (have hSw' := hSw); (first | (have svA := hSw'; obtain ⟨cvA0, cvA1, cvA2, cvA3, cvA4, cvA5, cvA6, cvA7, cvA8⟩ := row9c svA; go_simp)); try (with_reducible rfl))
      try simp only [Act.put, List.setIfInBounds_toArray, List.set_cons_zero, List.set_cons_succ]
      refine takeT (i := 9) (d := some 28) (v := ?_) _ rfl rfl (by rfl) (by kernel_rfl) (by decide) (by kernel_rfl) (by kernel_rfl) (by kernel_rfl) (fun _ _ _ h => h) (by assumption) (by kernel_rfl) ?_ ?_
      rotate_left
      · (first | (intro w' hSw; clear hSw; go_simp; try (with_reducible rfl)) | (intro w'; go_simp; try (with_reducible rfl)))
      try simp only [Act.put, List.setIfInBounds_toArray, List.set_cons_zero, List.set_cons_succ]
      refine takeT (i := 10) (d := some 29) (v := ?_) _ rfl rfl (by rfl) (by kernel_rfl) (by decide) (by kernel_rfl) (by kernel_rfl) (by kernel_rfl) (fun _ _ _ h => h) (by assumption) (by kernel_rfl) ?_ ?_
      rotate_left
      · (first | (intro w' hSw; clear hSw; go_simp; try (with_reducible rfl)) | (intro w'; go_simp; try (with_reducible rfl)))
      try simp only [Act.put, List.setIfInBounds_toArray, List.set_cons_zero, List.set_cons_succ]
      refine takeT (i := 11) (d := some 30) (v := ?_) _ rfl rfl (by rfl) (by kernel_rfl) (by decide) (by kernel_rfl) (by kernel_rfl) (by kernel_rfl) (fun _ _ _ h => h) (by assumption) (by kernel_rfl) ?_ ?_
      rotate_left
      · (intro w' hSw; (rw [hS0] at hSw); (have hSw' := hSw); (first | (have svA := hSw'; obtain ⟨cvA0, cvA1, cvA2, cvA3, cvA4, cvA5, cvA6, cvA7, cvA8⟩ := row9c svA; go_simp)); try (with_reducible rfl))
      try simp only [Act.put, List.setIfInBounds_toArray, List.set_cons_zero, List.set_cons_succ]
      refine takeT (i := 12) (d := some 31) (v := ?_) _ rfl rfl (by rfl) (by kernel_rfl) (by decide) (by kernel_rfl) (by kernel_rfl) (by kernel_rfl) (fun _ _ _ h => h) (by assumption) (by kernel_rfl) ?_ ?_
      rotate_left
      · (first | (intro w' hSw; clear hSw; go_simp; try (with_reducible rfl)) | (intro w'; go_simp; try (with_reducible rfl)))
      try simp only [Act.put, List.setIfInBounds_toArray, List.set_cons_zero, List.set_cons_succ]
      refine takeT (i := 13) (d := some 32) (v := ?_) _ rfl rfl (by rfl) (by kernel_rfl) (by decide) (by kernel_rfl) (by kernel_rfl) (by kernel_rfl) (fun _ _ _ h => h) (by assumption) (by kernel_rfl) ?_ ?_
      rotate_left
      · (intro w' hSw; (rw [hS0] at hSw); (have hSw' := hSw); (first | (have svA := hSw'; obtain ⟨cvA0, cvA1, cvA2, cvA3, cvA4, cvA5, cvA6, cvA7, cvA8⟩ := row9c svA; go_simp)); try (with_reducible rfl))
      try simp only [Act.put, List.setIfInBounds_toArray, List.set_cons_zero, List.set_cons_succ]
      refine callT (i := 1) _ rfl (by rfl) (by kernel_rfl) (fun K hK => ?_)
      go_simp
      refine (of_any _ _).mono ?_
      rintro e V41 ⟨rfl, hb⟩
      replace hA := below_get hb hA
      replace hB := below_get hb hB
      replace hR := below_get hb hR
      replace hQ := below_get hb hQ
      replace hD6 := below_get hb hD6
      replace hD7 := below_get hb hD7
      replace kk := bcl (by first | exact kk | exact kk.drew | exact below_drewN kk _) hb
      replace fF := IsF.of HF.out hQ
      clear hb
      refine hK.out _ _ (Or.inr (by rw [hS0]; exact hA)) ?_
      clear hK K
      try simp only [Act.put, List.setIfInBounds_toArray, List.set_cons_zero, List.set_cons_succ]
      refine callT (i := 7) _ rfl (by rfl) (by kernel_rfl) (fun K hK => ?_)
      go_simp
      refine (mulG_any (W4.mk' hla.out) (W4.mk' hla.out) _ (show IsF _ (g) (PP) from (by first | exact fF | exact fFd | exact ⟨fF.blk, fF.odd, fF.three, fF.lt⟩ | exact ⟨ak fF.blk, fF.odd, fF.three, fF.lt⟩ | exact ⟨ak (ak fF.blk), fF.odd, fF.three, fF.lt⟩))).mono ?_
      rintro e V42 ⟨rfl, hb⟩
      replace hA := below_get hb hA
      replace hB := below_get hb hB
      replace hR := below_get hb hR
      replace hQ := below_get hb hQ
      replace hD6 := below_get hb hD6
      replace hD7 := below_get hb hD7
      replace kk := bcl (by first | exact kk | exact kk.drew | exact below_drewN kk _) hb
      replace fF := IsF.of HF.out hQ
      clear hb
      refine hK.out _ _ (Or.inr (by rw [hS0]; exact hA)) ?_
      clear hK K
      try simp only [Act.put, List.setIfInBounds_toArray, List.set_cons_zero, List.set_cons_succ]
      refine callT (i := 8) _ rfl (by rfl) (by kernel_rfl) (fun K hK => ?_)
      go_simp
      refine (mulG_any (W4.small (n := 3) rfl (by decide)) (W4.mk' M0.out) _ (show IsF _ (g) (PP) from (by first | exact fF | exact fFd | exact ⟨fF.blk, fF.odd, fF.three, fF.lt⟩ | exact ⟨ak fF.blk, fF.odd, fF.three, fF.lt⟩ | exact ⟨ak (ak fF.blk), fF.odd, fF.three, fF.lt⟩))).mono ?_
      rintro e V43 ⟨rfl, hb⟩
      replace hA := below_get hb hA
      replace hB := below_get hb hB
      replace hR := below_get hb hR
      replace hQ := below_get hb hQ
      replace hD6 := below_get hb hD6
      replace hD7 := below_get hb hD7
      replace kk := bcl (by first | exact kk | exact kk.drew | exact below_drewN kk _) hb
      replace fF := IsF.of HF.out hQ
      clear hb
      refine hK.out _ _ (Or.inr (by rw [hS0]; exact hA)) ?_
      clear hK K
      try simp only [Act.put, List.setIfInBounds_toArray, List.set_cons_zero, List.set_cons_succ]
      refine callT (i := 14) _ rfl (by rfl) (by kernel_rfl) (fun K hK => ?_)
      go_simp
      refine (addG_any (W4.mk' hlb.out) (W4.mk' hlb.out) _ (show IsF _ (g) (PP) from (by first | exact fF | exact fFd | exact ⟨fF.blk, fF.odd, fF.three, fF.lt⟩ | exact ⟨ak fF.blk, fF.odd, fF.three, fF.lt⟩ | exact ⟨ak (ak fF.blk), fF.odd, fF.three, fF.lt⟩))).mono ?_
      rintro e V44 ⟨rfl, hb⟩
      replace hA := below_get hb hA
      replace hB := below_get hb hB
      replace hR := below_get hb hR
      replace hQ := below_get hb hQ
      replace hD6 := below_get hb hD6
      replace hD7 := below_get hb hD7
      replace kk := bcl (by first | exact kk | exact kk.drew | exact below_drewN kk _) hb
      replace fF := IsF.of HF.out hQ
      clear hb
      refine hK.out _ _ (Or.inr (by rw [hS0]; exact hA)) ?_
      clear hK K
      try simp only [Act.put, List.setIfInBounds_toArray, List.set_cons_zero, List.set_cons_succ]
      refine callT (i := 15) _ rfl (by rfl) (by kernel_rfl) (fun K hK => ?_)
      obtain ⟨cD60, cD61, cD62, cD63⟩ := row4c hD6
      obtain ⟨zD60, zD61, zD62, zD63⟩ := row4z hD6
      go_simp
      have P := put4 (.int .u64 (w0 (mulm PP 3 (mulm PP x x)) : Nat)) (.int .u64 (w1 (mulm PP 3 (mulm PP x x)) : Nat)) (.int .u64 (w2 (mulm PP 3 (mulm PP x x)) : Nat)) (.int .u64 (w3 (mulm PP 3 (mulm PP x x)) : Nat)) hD6
      obtain ⟨V4b, hW⟩ : ∃ V, (World.setCell (World.setCell (World.setCell (World.setCell V44 ⟨d6, 0, none⟩ (.int .u64 (w0 (mulm PP 3 (mulm PP x x)) : Nat))) ⟨d6, 1, none⟩ (.int .u64 (w1 (mulm PP 3 (mulm PP x x)) : Nat))) ⟨d6, 2, none⟩ (.int .u64 (w2 (mulm PP 3 (mulm PP x x)) : Nat))) ⟨d6, 3, none⟩ (.int .u64 (w3 (mulm PP 3 (mulm PP x x)) : Nat))) = V := ⟨_, rfl⟩
      rw [hW] at P ⊢
      replace hD6 := P.here
      replace hA := (P.there (w.heap.size) (by omega)).trans (show _ = some (.cells #[.int .u64 (w0 (x) : Nat), .int .u64 (w1 (x) : Nat), .int .u64 (w2 (x) : Nat), .int .u64 (w3 (x) : Nat), .int .u64 (w0 (y) : Nat), .int .u64 (w1 (y) : Nat), .int .u64 (w2 (y) : Nat), .int .u64 (w3 (y) : Nat), .bool false] 52 (0, 0)) from hA)
      replace hB := (P.there (w.heap.size+1) (by omega)).trans (show _ = some (.cells #[.int .u64 (w0 (x) : Nat), .int .u64 (w1 (x) : Nat), .int .u64 (w2 (x) : Nat), .int .u64 (w3 (x) : Nat), .int .u64 (w0 (y) : Nat), .int .u64 (w1 (y) : Nat), .int .u64 (w2 (y) : Nat), .int .u64 (w3 (y) : Nat), .bool false] 52 (0, 0)) from hB)
      replace hR := (P.there (w.heap.size + 2) (by omega)).trans (show _ = some (.cells #[.int .u64 0, .int .u64 0, .int .u64 0, .int .u64 0, .int .u64 0, .int .u64 0, .int .u64 0, .int .u64 0, .bool false] 52 (0, 0)) from hR)
      replace hQ := (P.there (g) (by omega)).trans (show _ = some (.cells #[.int .u64 (w0 (PP) : Nat), .int .u64 (w1 (PP) : Nat), .int .u64 (w2 (PP) : Nat), .int .u64 (w3 (PP) : Nat), .int .u64 (finv1 (PP) : Nat), .int .u64 (w0 (fsq (PP)) : Nat), .int .u64 (w1 (fsq (PP)) : Nat), .int .u64 (w2 (fsq (PP)) : Nat), .int .u64 (w3 (fsq (PP)) : Nat)] 90 (0, 0)) from hQ)
      replace hD7 := (P.there (d6 + 1) (by omega)).trans (show _ = some (.cells #[.int .u64 0, .int .u64 0, .int .u64 0, .int .u64 0] 24 (0, 0)) from hD7)
      replace kk := P.below (by omega) (show Below w.heap.size w V44 from by first | exact kk | exact kk.drew | exact below_drewN kk _)
      replace fF := IsF.of HF.out hQ
      clear cD60 zD60 cD61 zD61 cD62 zD62 cD63 zD63
      clear P hW
      refine hK.out _ _ (Or.inr (by rw [hS0]; exact hA)) ?_
      clear hK K
      try simp only [Act.put, List.setIfInBounds_toArray, List.set_cons_zero, List.set_cons_succ]
      refine callT (i := 16) _ rfl (by rfl) (by kernel_rfl) (fun K hK => ?_)
      obtain ⟨cD70, cD71, cD72, cD73⟩ := row4c hD7
      obtain ⟨zD70, zD71, zD72, zD73⟩ := row4z hD7
      go_simp
      have P := put4 (.int .u64 (w0 (addf PP y y) : Nat)) (.int .u64 (w1 (addf PP y y) : Nat)) (.int .u64 (w2 (addf PP y y) : Nat)) (.int .u64 (w3 (addf PP y y) : Nat)) hD7
      obtain ⟨V4, hW⟩ : ∃ V, (World.setCell (World.setCell (World.setCell (World.setCell V4b ⟨d6 + 1, 0, none⟩ (.int .u64 (w0 (addf PP y y) : Nat))) ⟨d6 + 1, 1, none⟩ (.int .u64 (w1 (addf PP y y) : Nat))) ⟨d6 + 1, 2, none⟩ (.int .u64 (w2 (addf PP y y) : Nat))) ⟨d6 + 1, 3, none⟩ (.int .u64 (w3 (addf PP y y) : Nat))) = V := ⟨_, rfl⟩
      rw [hW] at P ⊢
      replace hD7 := P.here
      replace hA := (P.there (w.heap.size) (by omega)).trans (show _ = some (.cells #[.int .u64 (w0 (x) : Nat), .int .u64 (w1 (x) : Nat), .int .u64 (w2 (x) : Nat), .int .u64 (w3 (x) : Nat), .int .u64 (w0 (y) : Nat), .int .u64 (w1 (y) : Nat), .int .u64 (w2 (y) : Nat), .int .u64 (w3 (y) : Nat), .bool false] 52 (0, 0)) from hA)
      replace hB := (P.there (w.heap.size+1) (by omega)).trans (show _ = some (.cells #[.int .u64 (w0 (x) : Nat), .int .u64 (w1 (x) : Nat), .int .u64 (w2 (x) : Nat), .int .u64 (w3 (x) : Nat), .int .u64 (w0 (y) : Nat), .int .u64 (w1 (y) : Nat), .int .u64 (w2 (y) : Nat), .int .u64 (w3 (y) : Nat), .bool false] 52 (0, 0)) from hB)
      replace hR := (P.there (w.heap.size + 2) (by omega)).trans (show _ = some (.cells #[.int .u64 0, .int .u64 0, .int .u64 0, .int .u64 0, .int .u64 0, .int .u64 0, .int .u64 0, .int .u64 0, .bool false] 52 (0, 0)) from hR)
      replace hQ := (P.there (g) (by omega)).trans (show _ = some (.cells #[.int .u64 (w0 (PP) : Nat), .int .u64 (w1 (PP) : Nat), .int .u64 (w2 (PP) : Nat), .int .u64 (w3 (PP) : Nat), .int .u64 (finv1 (PP) : Nat), .int .u64 (w0 (fsq (PP)) : Nat), .int .u64 (w1 (fsq (PP)) : Nat), .int .u64 (w2 (fsq (PP)) : Nat), .int .u64 (w3 (fsq (PP)) : Nat)] 90 (0, 0)) from hQ)
      replace hD6 := (P.there (d6) (by omega)).trans (show _ = some (.cells #[.int .u64 (w0 (mulm PP 3 (mulm PP x x)) : Nat), .int .u64 (w1 (mulm PP 3 (mulm PP x x)) : Nat), .int .u64 (w2 (mulm PP 3 (mulm PP x x)) : Nat), .int .u64 (w3 (mulm PP 3 (mulm PP x x)) : Nat)] 24 (0, 0)) from hD6)
      replace kk := P.below (by omega) (show Below w.heap.size w V4b from by first | exact kk | exact kk.drew | exact below_drewN kk _)
      replace fF := IsF.of HF.out hQ
      clear cD70 zD70 cD71 zD71 cD72 zD72 cD73 zD73
      clear P hW
      refine hK.out _ _ (Or.inl (by kernel_rfl)) ?_
      clear hK K
      try simp only [Act.put, List.setIfInBounds_toArray, List.set_cons_zero, List.set_cons_succ]
      refine doneT (by kernel_rfl) ?_ _
      clear hHeld hS0 S0
      go_simp
      obtain ⟨up, hup⟩ : ∃ n, mulm PP 3 (mulm PP x x) = n := ⟨_, rfl⟩
      obtain ⟨dn, hdn⟩ : ∃ n, addf PP y y = n := ⟨_, rfl⟩
      rw [hup] at hD6
      rw [hdn] at hD7
      have Gup := Lib.hid (show up < 2 ^ 256 by rw [← hup]; exact Nat.lt_trans (Nat.mod_lt _ hpos) HM.out)
      have Gdn := Lib.hid (show dn < 2 ^ 256 by rw [← hdn]; exact Nat.lt_trans (Nat.mod_lt _ hpos) HM.out)
      have E2 := E.out
      rw [hup, hdn] at E2
      replace E := Lib.hid E2
      clear E2 hup hdn
      obtain ⟨cD70, cD71, cD72, cD73⟩ := row4c hD7
      obtain ⟨zD70, zD71, zD72, zD73⟩ := row4z hD7
      go_wp2_with fail
      refine (inv_any (W4.mk' Gdn.out) _ fF).mono ?_
      rintro e V5 ⟨rfl, hb⟩
      replace hA := below_get hb hA
      replace hB := below_get hb hB
      replace hR := below_get hb hR
      replace hQ := below_get hb hQ
      replace hD6 := below_get hb hD6
      replace hD7 := below_get hb hD7
      replace kk := bcl (by first | exact kk | exact kk.drew | exact below_drewN kk _) hb
      replace fF := IsF.of HF.out hQ
      clear cD70 zD70 cD71 zD71 cD72 zD72 cD73 zD73
      clear hb
      have Gi := Lib.hid (invN_lt (a := dn) HM.out hpos)
      go_upto_region 13 with fail
      obtain ⟨V6, hW⟩ : ∃ V, V5.alloc (.cells #[.int .u64 (w0 (invN dn PP) : Nat), .int .u64 (w1 (invN dn PP) : Nat), .int .u64 (w2 (invN dn PP) : Nat), .int .u64 (w3 (invN dn PP) : Nat)] 24 (0, 0)) = V := ⟨_, rfl⟩
      rw [hW]
      obtain ⟨d8, hbx⟩ : ∃ n, V5.heap.size = n := ⟨_, rfl⟩
      rw [hbx]
      have hNEW : V6.heap[d8]? = some (.cells #[.int .u64 (w0 (invN dn PP) : Nat), .int .u64 (w1 (invN dn PP) : Nat), .int .u64 (w2 (invN dn PP) : Nat), .int .u64 (w3 (invN dn PP) : Nat)] 24 (0, 0)) := by rw [← hW, ← hbx]; exact heap_alloc_new _ _
      have lD8A : w.heap.size < d8 := by rw [← hbx]; exact lt_of_heap hA
      replace hA : V6.heap[w.heap.size]? = some (.cells #[.int .u64 (w0 (x) : Nat), .int .u64 (w1 (x) : Nat), .int .u64 (w2 (x) : Nat), .int .u64 (w3 (x) : Nat), .int .u64 (w0 (y) : Nat), .int .u64 (w1 (y) : Nat), .int .u64 (w2 (y) : Nat), .int .u64 (w3 (y) : Nat), .bool false] 52 (0, 0)) := by rw [← hW]; exact ak hA
      have lD8B : w.heap.size+1 < d8 := by rw [← hbx]; exact lt_of_heap hB
      replace hB : V6.heap[w.heap.size+1]? = some (.cells #[.int .u64 (w0 (x) : Nat), .int .u64 (w1 (x) : Nat), .int .u64 (w2 (x) : Nat), .int .u64 (w3 (x) : Nat), .int .u64 (w0 (y) : Nat), .int .u64 (w1 (y) : Nat), .int .u64 (w2 (y) : Nat), .int .u64 (w3 (y) : Nat), .bool false] 52 (0, 0)) := by rw [← hW]; exact ak hB
      have lD8R : w.heap.size + 2 < d8 := by rw [← hbx]; exact lt_of_heap hR
      replace hR : V6.heap[w.heap.size + 2]? = some (.cells #[.int .u64 0, .int .u64 0, .int .u64 0, .int .u64 0, .int .u64 0, .int .u64 0, .int .u64 0, .int .u64 0, .bool false] 52 (0, 0)) := by rw [← hW]; exact ak hR
      have lD8Q : g < d8 := by rw [← hbx]; exact lt_of_heap hQ
      replace hQ : V6.heap[g]? = some (.cells #[.int .u64 (w0 (PP) : Nat), .int .u64 (w1 (PP) : Nat), .int .u64 (w2 (PP) : Nat), .int .u64 (w3 (PP) : Nat), .int .u64 (finv1 (PP) : Nat), .int .u64 (w0 (fsq (PP)) : Nat), .int .u64 (w1 (fsq (PP)) : Nat), .int .u64 (w2 (fsq (PP)) : Nat), .int .u64 (w3 (fsq (PP)) : Nat)] 90 (0, 0)) := by rw [← hW]; exact ak hQ
      have lD8D6 : d6 < d8 := by rw [← hbx]; exact lt_of_heap hD6
      replace hD6 : V6.heap[d6]? = some (.cells #[.int .u64 (w0 (up) : Nat), .int .u64 (w1 (up) : Nat), .int .u64 (w2 (up) : Nat), .int .u64 (w3 (up) : Nat)] 24 (0, 0)) := by rw [← hW]; exact ak hD6
      have lD8D7 : d6+1 < d8 := by rw [← hbx]; exact lt_of_heap hD7
      replace hD7 : V6.heap[d6+1]? = some (.cells #[.int .u64 (w0 (dn) : Nat), .int .u64 (w1 (dn) : Nat), .int .u64 (w2 (dn) : Nat), .int .u64 (w3 (dn) : Nat)] 24 (0, 0)) := by rw [← hW]; exact ak hD7
      have lD8 : w.heap.size ≤ d8 := by rw [← hbx]; exact kk.size
      replace kk : Below w.heap.size w V6 := by rw [← hW]; exact bal kk _
      have hD8 := hNEW
      replace fF := IsF.of HF.out hQ
      clear hNEW hW hbx
      obtain ⟨cD60, cD61, cD62, cD63⟩ := row4c hD6
      obtain ⟨zD60, zD61, zD62, zD63⟩ := row4z hD6
      obtain ⟨cD80, cD81, cD82, cD83⟩ := row4c hD8
      obtain ⟨zD80, zD81, zD82, zD83⟩ := row4z hD8
      go_wp2_with fail
      refine (mulG_any (W4.mk' Gup.out) (W4.mk' Gi.out) _ fF).mono ?_
      rintro e V7 ⟨rfl, hb⟩
      replace hA := below_get hb hA
      replace hB := below_get hb hB
      replace hR := below_get hb hR
      replace hQ := below_get hb hQ
      replace hD6 := below_get hb hD6
      replace hD7 := below_get hb hD7
      replace hD8 := below_get hb hD8
      replace kk := bcl (by first | exact kk | exact kk.drew | exact below_drewN kk _) hb
      replace fF := IsF.of HF.out hQ
      clear cD60 zD60 cD61 zD61 cD62 zD62 cD63 zD63 cD80 zD80 cD81 zD81 cD82 zD82 cD83 zD83
      clear hb
      have E2 := E.out
      obtain ⟨sl, hsl⟩ : ∃ n, mulm PP up (invN dn PP) = n := ⟨_, rfl⟩
      rw [show slN up dn = sl from hsl] at E2
      rw [hsl]
      have Gsl := Lib.hid (show sl < 2 ^ 256 by rw [← hsl]; exact Nat.lt_trans (Nat.mod_lt _ hpos) HM.out)
      replace E := Lib.hid E2
      clear E2 hsl
      go_upto_region 14 with fail
      obtain ⟨V8, hW⟩ : ∃ V, V7.alloc (.cells #[.int .u64 (w0 (sl) : Nat), .int .u64 (w1 (sl) : Nat), .int .u64 (w2 (sl) : Nat), .int .u64 (w3 (sl) : Nat)] 24 (0, 0)) = V := ⟨_, rfl⟩
      rw [hW]
      obtain ⟨d10, hbx⟩ : ∃ n, V7.heap.size = n := ⟨_, rfl⟩
      rw [hbx]
      have hNEW : V8.heap[d10]? = some (.cells #[.int .u64 (w0 (sl) : Nat), .int .u64 (w1 (sl) : Nat), .int .u64 (w2 (sl) : Nat), .int .u64 (w3 (sl) : Nat)] 24 (0, 0)) := by rw [← hW, ← hbx]; exact heap_alloc_new _ _
      have lD10A : w.heap.size < d10 := by rw [← hbx]; exact lt_of_heap hA
      replace hA : V8.heap[w.heap.size]? = some (.cells #[.int .u64 (w0 (x) : Nat), .int .u64 (w1 (x) : Nat), .int .u64 (w2 (x) : Nat), .int .u64 (w3 (x) : Nat), .int .u64 (w0 (y) : Nat), .int .u64 (w1 (y) : Nat), .int .u64 (w2 (y) : Nat), .int .u64 (w3 (y) : Nat), .bool false] 52 (0, 0)) := by rw [← hW]; exact ak hA
      have lD10B : w.heap.size+1 < d10 := by rw [← hbx]; exact lt_of_heap hB
      replace hB : V8.heap[w.heap.size+1]? = some (.cells #[.int .u64 (w0 (x) : Nat), .int .u64 (w1 (x) : Nat), .int .u64 (w2 (x) : Nat), .int .u64 (w3 (x) : Nat), .int .u64 (w0 (y) : Nat), .int .u64 (w1 (y) : Nat), .int .u64 (w2 (y) : Nat), .int .u64 (w3 (y) : Nat), .bool false] 52 (0, 0)) := by rw [← hW]; exact ak hB
      have lD10R : w.heap.size + 2 < d10 := by rw [← hbx]; exact lt_of_heap hR
      replace hR : V8.heap[w.heap.size + 2]? = some (.cells #[.int .u64 0, .int .u64 0, .int .u64 0, .int .u64 0, .int .u64 0, .int .u64 0, .int .u64 0, .int .u64 0, .bool false] 52 (0, 0)) := by rw [← hW]; exact ak hR
      have lD10Q : g < d10 := by rw [← hbx]; exact lt_of_heap hQ
      replace hQ : V8.heap[g]? = some (.cells #[.int .u64 (w0 (PP) : Nat), .int .u64 (w1 (PP) : Nat), .int .u64 (w2 (PP) : Nat), .int .u64 (w3 (PP) : Nat), .int .u64 (finv1 (PP) : Nat), .int .u64 (w0 (fsq (PP)) : Nat), .int .u64 (w1 (fsq (PP)) : Nat), .int .u64 (w2 (fsq (PP)) : Nat), .int .u64 (w3 (fsq (PP)) : Nat)] 90 (0, 0)) := by rw [← hW]; exact ak hQ
      have lD10D6 : d6 < d10 := by rw [← hbx]; exact lt_of_heap hD6
      replace hD6 : V8.heap[d6]? = some (.cells #[.int .u64 (w0 (up) : Nat), .int .u64 (w1 (up) : Nat), .int .u64 (w2 (up) : Nat), .int .u64 (w3 (up) : Nat)] 24 (0, 0)) := by rw [← hW]; exact ak hD6
      have lD10D7 : d6+1 < d10 := by rw [← hbx]; exact lt_of_heap hD7
      replace hD7 : V8.heap[d6+1]? = some (.cells #[.int .u64 (w0 (dn) : Nat), .int .u64 (w1 (dn) : Nat), .int .u64 (w2 (dn) : Nat), .int .u64 (w3 (dn) : Nat)] 24 (0, 0)) := by rw [← hW]; exact ak hD7
      have lD10D8 : d8 < d10 := by rw [← hbx]; exact lt_of_heap hD8
      replace hD8 : V8.heap[d8]? = some (.cells #[.int .u64 (w0 (invN dn PP) : Nat), .int .u64 (w1 (invN dn PP) : Nat), .int .u64 (w2 (invN dn PP) : Nat), .int .u64 (w3 (invN dn PP) : Nat)] 24 (0, 0)) := by rw [← hW]; exact ak hD8
      have lD10 : w.heap.size ≤ d10 := by rw [← hbx]; exact kk.size
      replace kk : Below w.heap.size w V8 := by rw [← hW]; exact bal kk _
      have hD10 := hNEW
      replace fF := IsF.of HF.out hQ
      clear hNEW hW hbx
      have M1 := Lib.hid (show mulm PP sl sl < 2 ^ 256 from Nat.lt_trans (Nat.mod_lt _ hpos) HM.out)
      have M2 := Lib.hid (show subf PP (mulm PP sl sl) x < 2 ^ 256 from Nat.lt_trans (Nat.mod_lt _ hpos) HM.out)
      obtain ⟨S0, hS0⟩ : ∃ S : World → Prop, S = (fun w' => w'.heap[w.heap.size]? = some (.cells #[.int .u64 (w0 (x) : Nat), .int .u64 (w1 (x) : Nat), .int .u64 (w2 (x) : Nat), .int .u64 (w3 (x) : Nat), .int .u64 (w0 (y) : Nat), .int .u64 (w1 (y) : Nat), .int .u64 (w2 (y) : Nat), .int .u64 (w3 (y) : Nat), .bool false] 52 (0, 0)) ∧ w'.heap[w.heap.size+1]? = some (.cells #[.int .u64 (w0 (x) : Nat), .int .u64 (w1 (x) : Nat), .int .u64 (w2 (x) : Nat), .int .u64 (w3 (x) : Nat), .int .u64 (w0 (y) : Nat), .int .u64 (w1 (y) : Nat), .int .u64 (w2 (y) : Nat), .int .u64 (w3 (y) : Nat), .bool false] 52 (0, 0)) ∧ w'.heap[d10]? = some (.cells #[.int .u64 (w0 (sl) : Nat), .int .u64 (w1 (sl) : Nat), .int .u64 (w2 (sl) : Nat), .int .u64 (w3 (sl) : Nat)] 24 (0, 0))) := ⟨_, rfl⟩
      have hSJ : ∀ w', Below V8.heap.size V8 w' → S0 w' := by intro w' hb; rw [hS0]; exact ⟨below_get hb hA, below_get hb hB, below_get hb hD10⟩
      refine startT (S := S0) 13 (by kernel_rfl) (by rw [hS0]; exact ⟨hA, hB, hD10⟩) (fun hHeld => ?_)
      refine takeT (i := 0) (d := some 75) (v := ?_) _ rfl rfl (by rfl) (by kernel_rfl) (by decide) (by kernel_rfl) (by kernel_rfl) (by kernel_rfl) (fun _ _ _ h => h) (by assumption) (by kernel_rfl) ?_ ?_
      rotate_left
      · (first | (intro w' hSw; clear hSw; go_simp; try (with_reducible rfl)) | (intro w'; go_simp; try (with_reducible rfl)))
      try simp only [ptr, Act.put, List.setIfInBounds_toArray, List.set_cons_zero, List.set_cons_succ]
      refine takeT (i := 1) (d := some 76) (v := ?_) _ rfl rfl (by rfl) (by kernel_rfl) (by decide) (by kernel_rfl) (by kernel_rfl) (by kernel_rfl) (fun _ _ _ h => h) (by assumption) (by kernel_rfl) ?_ ?_
      rotate_left
      · (first | (intro w' hSw; clear hSw; go_simp; try (with_reducible rfl)) | (intro w'; go_simp; try (with_reducible rfl)))
      try simp only [ptr, Act.put, List.setIfInBounds_toArray, List.set_cons_zero, List.set_cons_succ]
      refine takeT (i := 2) (d := some 77) (v := ?_) _ rfl rfl (by rfl) (by kernel_rfl) (by decide) (by kernel_rfl) (by kernel_rfl) (by kernel_rfl) (fun _ _ _ h => h) (by assumption) (by kernel_rfl) ?_ ?_
      rotate_left
      · (first | (intro w' hSw; clear hSw; go_simp; try (with_reducible rfl)) | (intro w'; go_simp; try (with_reducible rfl)))
      try simp only [ptr, Act.put, List.setIfInBounds_toArray, List.set_cons_zero, List.set_cons_succ]
      refine takeT (i := 3) (d := some 78) (v := ?_) _ rfl rfl (by rfl) (by kernel_rfl) (by decide) (by kernel_rfl) (by kernel_rfl) (by kernel_rfl) (fun _ _ _ h => h) (by assumption) (by kernel_rfl) ?_ ?_
      rotate_left
      · (intro w' hSw; (rw [hS0] at hSw); (have hSw' := hSw); (first | (obtain ⟨svA, svB, svD10⟩ := hSw'; obtain ⟨cvA0, cvA1, cvA2, cvA3, cvA4, cvA5, cvA6, cvA7, cvA8⟩ := row9c svA; obtain ⟨cvB0, cvB1, cvB2, cvB3, cvB4, cvB5, cvB6, cvB7, cvB8⟩ := row9c svB; obtain ⟨cvD100, cvD101, cvD102, cvD103⟩ := row4c svD10; go_simp)); try (with_reducible rfl))
      try simp only [ptr, Act.put, List.setIfInBounds_toArray, List.set_cons_zero, List.set_cons_succ]
      refine takeT (i := 4) (d := some 79) (v := ?_) _ rfl rfl (by rfl) (by kernel_rfl) (by decide) (by kernel_rfl) (by kernel_rfl) (by kernel_rfl) (fun _ _ _ h => h) (by assumption) (by kernel_rfl) ?_ ?_
      rotate_left
      · (intro w' hSw; (rw [hS0] at hSw); (have hSw' := hSw); (first | (obtain ⟨svA, svB, svD10⟩ := hSw'; obtain ⟨cvA0, cvA1, cvA2, cvA3, cvA4, cvA5, cvA6, cvA7, cvA8⟩ := row9c svA; obtain ⟨cvB0, cvB1, cvB2, cvB3, cvB4, cvB5, cvB6, cvB7, cvB8⟩ := row9c svB; obtain ⟨cvD100, cvD101, cvD102, cvD103⟩ := row4c svD10; go_simp)); try (with_reducible rfl))
      try simp only [ptr, Act.put, List.setIfInBounds_toArray, List.set_cons_zero, List.set_cons_succ]
      refine takeT (i := 6) (d := some 81) (v := ?_) _ rfl rfl (by rfl) (by kernel_rfl) (by decide) (by kernel_rfl) (by kernel_rfl) (by kernel_rfl) (fun _ _ _ h => h) (by assumption) (by kernel_rfl) ?_ ?_
      rotate_left
      · (first | (intro w' hSw; clear hSw; go_simp; try (with_reducible rfl)) | (intro w'; go_simp; try (with_reducible rfl)))
      try simp only [ptr, Act.put, List.setIfInBounds_toArray, List.set_cons_zero, List.set_cons_succ]
      refine takeT (i := 7) (d := some 82) (v := ?_) _ rfl rfl (by rfl) (by kernel_rfl) (by decide) (by kernel_rfl) (by kernel_rfl) (by kernel_rfl) (fun _ _ _ h => h) (by assumption) (by kernel_rfl) ?_ ?_
      rotate_left
      · (intro w' hSw; (rw [hS0] at hSw); (have hSw' := hSw); (first | (obtain ⟨svA, svB, svD10⟩ := hSw'; obtain ⟨cvA0, cvA1, cvA2, cvA3, cvA4, cvA5, cvA6, cvA7, cvA8⟩ := row9c svA; obtain ⟨cvB0, cvB1, cvB2, cvB3, cvB4, cvB5, cvB6, cvB7, cvB8⟩ := row9c svB; obtain ⟨cvD100, cvD101, cvD102, cvD103⟩ := row4c svD10; go_simp)); try (with_reducible rfl))
      try simp only [ptr, Act.put, List.setIfInBounds_toArray, List.set_cons_zero, List.set_cons_succ]
      refine takeT (i := 9) (d := some 84) (v := ?_) _ rfl rfl (by rfl) (by kernel_rfl) (by decide) (by kernel_rfl) (by kernel_rfl) (by kernel_rfl) (fun _ _ _ h => h) (by assumption) (by kernel_rfl) ?_ ?_
      rotate_left
      · (first | (intro w' hSw; clear hSw; go_simp; try (with_reducible rfl)) | (intro w'; go_simp; try (with_reducible rfl)))
      try simp only [ptr, Act.put, List.setIfInBounds_toArray, List.set_cons_zero, List.set_cons_succ]
      refine takeT (i := 10) (d := some 85) (v := ?_) _ rfl rfl (by rfl) (by kernel_rfl) (by decide) (by kernel_rfl) (by kernel_rfl) (by kernel_rfl) (fun _ _ _ h => h) (by assumption) (by kernel_rfl) ?_ ?_
      rotate_left
      · (intro w' hSw; (rw [hS0] at hSw); (have hSw' := hSw); (first | (obtain ⟨svA, svB, svD10⟩ := hSw'; obtain ⟨cvA0, cvA1, cvA2, cvA3, cvA4, cvA5, cvA6, cvA7, cvA8⟩ := row9c svA; obtain ⟨cvB0, cvB1, cvB2, cvB3, cvB4, cvB5, cvB6, cvB7, cvB8⟩ := row9c svB; obtain ⟨cvD100, cvD101, cvD102, cvD103⟩ := row4c svD10; go_simp)); try (with_reducible rfl))
      try simp only [ptr, Act.put, List.setIfInBounds_toArray, List.set_cons_zero, List.set_cons_succ]
      refine NK1.start (w0 := V8) (x1 := undef) 12 11 (.cells #[.int .u64 0, .int .u64 0, .int .u64 0, .int .u64 0] 24 (0, 0)) (Below.refl _ _).drew (by (simp only [Act.put, List.setIfInBounds_toArray, List.set_cons_zero, List.set_cons_succ])) ⟨⟨_, rfl, fun _ => rfl, fun a1 w1 K hK => by go_simp; exact hK⟩⟩ (fun m1 => ?_)
      refine NK1.step (i := 5) (d := 80) (F := fun vv => vv = .agg #[.int .u64 (w0 (mulm PP sl sl) : Nat), .int .u64 (w1 (mulm PP sl sl) : Nat), .int .u64 (w2 (mulm PP sl sl) : Nat), .int .u64 (w3 (mulm PP sl sl) : Nat)]) m1  hSJ (by decide) (by decide) (by kernel_rfl) (by kernel_rfl) ⟨⟨_, rfl, fun _ => rfl, fun yv1 w1 hJ1 K hK => ?_⟩⟩ ?_
      · try simp only [ptr, Act.put, List.setIfInBounds_toArray, List.set_cons_zero, List.set_cons_succ]
        go_simp
        have fF := fF.keep hJ1
        refine (mulG_any (W4.mk' Gsl.out) (W4.mk' Gsl.out) _ (show IsF _ (g) (PP) from (by first | exact fF | exact fFd | exact ⟨fF.blk, fF.odd, fF.three, fF.lt⟩ | exact ⟨ak fF.blk, fF.odd, fF.three, fF.lt⟩ | exact ⟨ak (ak fF.blk), fF.odd, fF.three, fF.lt⟩))).mono ?_
        rintro e U ⟨rfl, hb⟩
        have h2 := hK.out _ _ rfl hb
        try simp only [ptr, Act.put, List.setIfInBounds_toArray, List.set_cons_zero, List.set_cons_succ] at h2
        exact h2
      rintro vv rfl
      refine NK1.step (i := 8) (d := 83) (F := fun vv => vv = .agg #[.int .u64 (w0 (subf PP (mulm PP sl sl) x) : Nat), .int .u64 (w1 (subf PP (mulm PP sl sl) x) : Nat), .int .u64 (w2 (subf PP (mulm PP sl sl) x) : Nat), .int .u64 (w3 (subf PP (mulm PP sl sl) x) : Nat)]) m1  hSJ (by decide) (by decide) (by kernel_rfl) (by kernel_rfl) ⟨⟨_, rfl, fun _ => rfl, fun yv1 w1 hJ1 K hK => ?_⟩⟩ ?_
      · try simp only [ptr, Act.put, List.setIfInBounds_toArray, List.set_cons_zero, List.set_cons_succ]
        go_simp
        have fF := fF.keep hJ1
        refine (subG_any (W4.mk' M1.out) (W4.mk' hla.out) _ (show IsF _ (g) (PP) from (by first | exact fF | exact fFd | exact ⟨fF.blk, fF.odd, fF.three, fF.lt⟩ | exact ⟨ak fF.blk, fF.odd, fF.three, fF.lt⟩ | exact ⟨ak (ak fF.blk), fF.odd, fF.three, fF.lt⟩))).mono ?_
        rintro e U ⟨rfl, hb⟩
        have h2 := hK.out _ _ rfl hb
        try simp only [ptr, Act.put, List.setIfInBounds_toArray, List.set_cons_zero, List.set_cons_succ] at h2
        exact h2
      rintro vv rfl
      refine NK1.step (i := 11) (d := 86) (F := fun vv => vv = .agg #[.int .u64 (w0 (subf PP (subf PP (mulm PP sl sl) x) x) : Nat), .int .u64 (w1 (subf PP (subf PP (mulm PP sl sl) x) x) : Nat), .int .u64 (w2 (subf PP (subf PP (mulm PP sl sl) x) x) : Nat), .int .u64 (w3 (subf PP (subf PP (mulm PP sl sl) x) x) : Nat)]) m1  hSJ (by decide) (by decide) (by kernel_rfl) (by kernel_rfl) ⟨⟨_, rfl, fun _ => rfl, fun yv1 w1 hJ1 K hK => ?_⟩⟩ ?_
      · try simp only [ptr, Act.put, List.setIfInBounds_toArray, List.set_cons_zero, List.set_cons_succ]
        go_simp
        have fF := fF.keep hJ1
        refine (subG_any (W4.mk' M2.out) (W4.mk' hla.out) _ (show IsF _ (g) (PP) from (by first | exact fF | exact fFd | exact ⟨fF.blk, fF.odd, fF.three, fF.lt⟩ | exact ⟨ak fF.blk, fF.odd, fF.three, fF.lt⟩ | exact ⟨ak (ak fF.blk), fF.odd, fF.three, fF.lt⟩))).mono ?_
        rintro e U ⟨rfl, hb⟩
        have h2 := hK.out _ _ rfl hb
        try simp only [ptr, Act.put, List.setIfInBounds_toArray, List.set_cons_zero, List.set_cons_succ] at h2
        exact h2
      rintro vv rfl
      refine NK1.last m1  hSJ (by kernel_rfl) (fun V9a bd11 hb o1  => ?_)
      clear m1
      try simp only [ptr, Act.put, List.setIfInBounds_toArray, List.set_cons_zero, List.set_cons_succ]
      have lD11A := Nat.lt_of_lt_of_le (lt_of_heap hA) o1.new
      have lD11B := Nat.lt_of_lt_of_le (lt_of_heap hB) o1.new
      have lD11R := Nat.lt_of_lt_of_le (lt_of_heap hR) o1.new
      have lD11Q := Nat.lt_of_lt_of_le (lt_of_heap hQ) o1.new
      have lD11D6 := Nat.lt_of_lt_of_le (lt_of_heap hD6) o1.new
      have lD11D7 := Nat.lt_of_lt_of_le (lt_of_heap hD7) o1.new
      have lD11D8 := Nat.lt_of_lt_of_le (lt_of_heap hD8) o1.new
      have lD11D10 := Nat.lt_of_lt_of_le (lt_of_heap hD10) o1.new
      have lD11 := Nat.le_trans kk.size o1.new
      replace hA := below_get hb hA
      replace hB := below_get hb hB
      replace hR := below_get hb hR
      replace hQ := below_get hb hQ
      replace hD6 := below_get hb hD6
      replace hD7 := below_get hb hD7
      replace hD8 := below_get hb hD8
      replace hD10 := below_get hb hD10
      have hD11 := o1.here
      replace kk := bcl kk hb
      replace fF := IsF.of HF.out hQ
      clear hb o1
      obtain ⟨cD110, cD111, cD112, cD113⟩ := row4c hD11
      obtain ⟨zD110, zD111, zD112, zD113⟩ := row4z hD11
      refine callT (i := 13) _ rfl (by rfl) (by kernel_rfl) (fun K hK => ?_)
      go_simp
      have P := put4 (.int .u64 (w0 (subf PP (subf PP (mulm PP sl sl) x) x) : Nat)) (.int .u64 (w1 (subf PP (subf PP (mulm PP sl sl) x) x) : Nat)) (.int .u64 (w2 (subf PP (subf PP (mulm PP sl sl) x) x) : Nat)) (.int .u64 (w3 (subf PP (subf PP (mulm PP sl sl) x) x) : Nat)) hD11
      obtain ⟨V9, hW⟩ : ∃ V, (World.setCell (World.setCell (World.setCell (World.setCell V9a ⟨bd11, 0, none⟩ (.int .u64 (w0 (subf PP (subf PP (mulm PP sl sl) x) x) : Nat))) ⟨bd11, 1, none⟩ (.int .u64 (w1 (subf PP (subf PP (mulm PP sl sl) x) x) : Nat))) ⟨bd11, 2, none⟩ (.int .u64 (w2 (subf PP (subf PP (mulm PP sl sl) x) x) : Nat))) ⟨bd11, 3, none⟩ (.int .u64 (w3 (subf PP (subf PP (mulm PP sl sl) x) x) : Nat))) = V := ⟨_, rfl⟩
      rw [hW] at P ⊢
      replace hD11 := P.here
      replace hA := (P.there (w.heap.size) (by omega)).trans (show _ = some (.cells #[.int .u64 (w0 (x) : Nat), .int .u64 (w1 (x) : Nat), .int .u64 (w2 (x) : Nat), .int .u64 (w3 (x) : Nat), .int .u64 (w0 (y) : Nat), .int .u64 (w1 (y) : Nat), .int .u64 (w2 (y) : Nat), .int .u64 (w3 (y) : Nat), .bool false] 52 (0, 0)) from hA)
      replace hB := (P.there (w.heap.size+1) (by omega)).trans (show _ = some (.cells #[.int .u64 (w0 (x) : Nat), .int .u64 (w1 (x) : Nat), .int .u64 (w2 (x) : Nat), .int .u64 (w3 (x) : Nat), .int .u64 (w0 (y) : Nat), .int .u64 (w1 (y) : Nat), .int .u64 (w2 (y) : Nat), .int .u64 (w3 (y) : Nat), .bool false] 52 (0, 0)) from hB)
      replace hR := (P.there (w.heap.size + 2) (by omega)).trans (show _ = some (.cells #[.int .u64 0, .int .u64 0, .int .u64 0, .int .u64 0, .int .u64 0, .int .u64 0, .int .u64 0, .int .u64 0, .bool false] 52 (0, 0)) from hR)
      replace hQ := (P.there (g) (by omega)).trans (show _ = some (.cells #[.int .u64 (w0 (PP) : Nat), .int .u64 (w1 (PP) : Nat), .int .u64 (w2 (PP) : Nat), .int .u64 (w3 (PP) : Nat), .int .u64 (finv1 (PP) : Nat), .int .u64 (w0 (fsq (PP)) : Nat), .int .u64 (w1 (fsq (PP)) : Nat), .int .u64 (w2 (fsq (PP)) : Nat), .int .u64 (w3 (fsq (PP)) : Nat)] 90 (0, 0)) from hQ)
      replace hD6 := (P.there (d6) (by omega)).trans (show _ = some (.cells #[.int .u64 (w0 (up) : Nat), .int .u64 (w1 (up) : Nat), .int .u64 (w2 (up) : Nat), .int .u64 (w3 (up) : Nat)] 24 (0, 0)) from hD6)
      replace hD7 := (P.there (d6+1) (by omega)).trans (show _ = some (.cells #[.int .u64 (w0 (dn) : Nat), .int .u64 (w1 (dn) : Nat), .int .u64 (w2 (dn) : Nat), .int .u64 (w3 (dn) : Nat)] 24 (0, 0)) from hD7)
      replace hD8 := (P.there (d8) (by omega)).trans (show _ = some (.cells #[.int .u64 (w0 (invN dn PP) : Nat), .int .u64 (w1 (invN dn PP) : Nat), .int .u64 (w2 (invN dn PP) : Nat), .int .u64 (w3 (invN dn PP) : Nat)] 24 (0, 0)) from hD8)
      replace hD10 := (P.there (d10) (by omega)).trans (show _ = some (.cells #[.int .u64 (w0 (sl) : Nat), .int .u64 (w1 (sl) : Nat), .int .u64 (w2 (sl) : Nat), .int .u64 (w3 (sl) : Nat)] 24 (0, 0)) from hD10)
      replace kk := P.below (by omega) (show Below w.heap.size w V9a from by first | exact kk | exact kk.drew | exact below_drewN kk _)
      replace fF := IsF.of HF.out hQ
      clear cD110 zD110 cD111 zD111 cD112 zD112 cD113 zD113
      clear P hW
      refine hK.out _ _ (Or.inl (by kernel_rfl)) ?_
      clear hK K
      try simp only [ptr, Act.put, List.setIfInBounds_toArray, List.set_cons_zero, List.set_cons_succ]
      refine doneT (by kernel_rfl) ?_ _
      clear hHeld hSJ hS0 S0
      go_simp
      have E2 := E.out
      obtain ⟨xx, hxx⟩ : ∃ n, subf PP (subf PP (mulm PP sl sl) x) x = n := ⟨_, rfl⟩
      rw [hxx] at hD11
      unfold ty tx at E2
      rw [hxx] at E2
      have Gxx := Lib.hid (show xx < 2 ^ 256 by rw [← hxx]; exact Nat.lt_trans (Nat.mod_lt _ hpos) HM.out)
      replace E := Lib.hid E2
      clear E2 hxx
      go_upto_region 15 with fail
      have M3 := Lib.hid (show subf PP x xx < 2 ^ 256 from Nat.lt_trans (Nat.mod_lt _ hpos) HM.out)
      have M4 := Lib.hid (show mulm PP sl (subf PP x xx) < 2 ^ 256 from Nat.lt_trans (Nat.mod_lt _ hpos) HM.out)
      have fFd : IsF (World.drew V9) (g) (PP) := ⟨fF.blk, fF.odd, fF.three, fF.lt⟩
      try clear cA0 cA1 cA2 cA3 cA4 cA5 cA6 cA7 cA8
      obtain ⟨cA0, cA1, cA2, cA3, cA4, cA5, cA6, cA7, cA8⟩ := row9c hA
      try clear cD100 cD101 cD102 cD103
      obtain ⟨cD100, cD101, cD102, cD103⟩ := row4c hD10
      try clear cD110 cD111 cD112 cD113
      obtain ⟨cD110, cD111, cD112, cD113⟩ := row4c hD11
      have neRA : w.heap.size ≠ w.heap.size + 2 := by omega
      have nfRA := neRA.symm
      have neRD10 : d10 ≠ w.heap.size + 2 := by omega
      have nfRD10 := neRD10.symm
      have neRD11 : bd11 ≠ w.heap.size + 2 := by omega
      have nfRD11 := neRD11.symm
      go_region_held3 (fun w' => w'.cell? ⟨w.heap.size, 0, none⟩ = some (.int .u64 (w0 (x) : Nat)) ∧ w'.cell? ⟨w.heap.size, 1, none⟩ = some (.int .u64 (w1 (x) : Nat)) ∧ w'.cell? ⟨w.heap.size, 2, none⟩ = some (.int .u64 (w2 (x) : Nat)) ∧ w'.cell? ⟨w.heap.size, 3, none⟩ = some (.int .u64 (w3 (x) : Nat)) ∧ w'.cell? ⟨w.heap.size, 4, none⟩ = some (.int .u64 (w0 (y) : Nat)) ∧ w'.cell? ⟨w.heap.size, 5, none⟩ = some (.int .u64 (w1 (y) : Nat)) ∧ w'.cell? ⟨w.heap.size, 6, none⟩ = some (.int .u64 (w2 (y) : Nat)) ∧ w'.cell? ⟨w.heap.size, 7, none⟩ = some (.int .u64 (w3 (y) : Nat)) ∧ w'.cell? ⟨w.heap.size, 8, none⟩ = some (.bool false) ∧ w'.cell? ⟨d10, 0, none⟩ = some (.int .u64 (w0 (sl) : Nat)) ∧ w'.cell? ⟨d10, 1, none⟩ = some (.int .u64 (w1 (sl) : Nat)) ∧ w'.cell? ⟨d10, 2, none⟩ = some (.int .u64 (w2 (sl) : Nat)) ∧ w'.cell? ⟨d10, 3, none⟩ = some (.int .u64 (w3 (sl) : Nat)) ∧ w'.cell? ⟨bd11, 0, none⟩ = some (.int .u64 (w0 (xx) : Nat)) ∧ w'.cell? ⟨bd11, 1, none⟩ = some (.int .u64 (w1 (xx) : Nat)) ∧ w'.cell? ⟨bd11, 2, none⟩ = some (.int .u64 (w2 (xx) : Nat)) ∧ w'.cell? ⟨bd11, 3, none⟩ = some (.int .u64 (w3 (xx) : Nat))) (first | (with_reducible exact ⟨cA0, cA1, cA2, cA3, cA4, cA5, cA6, cA7, cA8, cD100, cD101, cD102, cD103, cD110, cD111, cD112, cD113⟩) | go_keep) (first | (go_at_call 33; with_reducible refine (subG_any (W4.mk' hla.out) (W4.mk' Gxx.out) _ (show IsF _ (g) (PP) from (by first | exact fF | exact fFd | exact ⟨fF.blk, fF.odd, fF.three, fF.lt⟩ | exact ⟨ak fF.blk, fF.odd, fF.three, fF.lt⟩ | exact ⟨ak (ak fF.blk), fF.odd, fF.three, fF.lt⟩))).mono ?_; rintro e W ⟨rfl, hb⟩; (first | replace hA := below_get hb hA | replace hA := below_get hb (ak hA)); (first | replace hB := below_get hb hB | replace hB := below_get hb (ak hB)); (first | replace hR := below_get hb hR | replace hR := below_get hb (ak hR)); (first | replace hQ := below_get hb hQ | replace hQ := below_get hb (ak hQ)); (first | replace hD6 := below_get hb hD6 | replace hD6 := below_get hb (ak hD6)); (first | replace hD7 := below_get hb hD7 | replace hD7 := below_get hb (ak hD7)); (first | replace hD8 := below_get hb hD8 | replace hD8 := below_get hb (ak hD8)); (first | replace hD10 := below_get hb hD10 | replace hD10 := below_get hb (ak hD10)); (first | replace hD11 := below_get hb hD11 | replace hD11 := below_get hb (ak hD11)); (replace kk := bcl (by first | exact kk | exact kk.drew | exact bal kk _ | exact (bal kk _).drew) hb); (replace fF := IsF.of HF.out hQ); (try clear cA0 cA1 cA2 cA3 cA4 cA5 cA6 cA7 cA8); (obtain ⟨cA0, cA1, cA2, cA3, cA4, cA5, cA6, cA7, cA8⟩ := row9c hA); (try clear cD100 cD101 cD102 cD103); (obtain ⟨cD100, cD101, cD102, cD103⟩ := row4c hD10); (try clear cD110 cD111 cD112 cD113); (obtain ⟨cD110, cD111, cD112, cD113⟩ := row4c hD11); (try clear cR0 cR1 cR2 cR3 cR4 cR5 cR6 cR7 cR8); (obtain ⟨cR0, cR1, cR2, cR3, cR4, cR5, cR6, cR7, cR8⟩ := row9c hR); (obtain ⟨zR0, zR1, zR2, zR3, zR4, zR5, zR6, zR7, zR8⟩ := row9z hR); clear hb) | (go_at_call 26; with_reducible refine (mulG_any (W4.mk' Gsl.out) (W4.mk' M3.out) _ (show IsF _ (g) (PP) from (by first | exact fF | exact fFd | exact ⟨fF.blk, fF.odd, fF.three, fF.lt⟩ | exact ⟨ak fF.blk, fF.odd, fF.three, fF.lt⟩ | exact ⟨ak (ak fF.blk), fF.odd, fF.three, fF.lt⟩))).mono ?_; rintro e W ⟨rfl, hb⟩; (first | replace hA := below_get hb hA | replace hA := below_get hb (ak hA)); (first | replace hB := below_get hb hB | replace hB := below_get hb (ak hB)); (first | replace hR := below_get hb hR | replace hR := below_get hb (ak hR)); (first | replace hQ := below_get hb hQ | replace hQ := below_get hb (ak hQ)); (first | replace hD6 := below_get hb hD6 | replace hD6 := below_get hb (ak hD6)); (first | replace hD7 := below_get hb hD7 | replace hD7 := below_get hb (ak hD7)); (first | replace hD8 := below_get hb hD8 | replace hD8 := below_get hb (ak hD8)); (first | replace hD10 := below_get hb hD10 | replace hD10 := below_get hb (ak hD10)); (first | replace hD11 := below_get hb hD11 | replace hD11 := below_get hb (ak hD11)); (replace kk := bcl (by first | exact kk | exact kk.drew | exact bal kk _ | exact (bal kk _).drew) hb); (replace fF := IsF.of HF.out hQ); (try clear cA0 cA1 cA2 cA3 cA4 cA5 cA6 cA7 cA8); (obtain ⟨cA0, cA1, cA2, cA3, cA4, cA5, cA6, cA7, cA8⟩ := row9c hA); (try clear cD100 cD101 cD102 cD103); (obtain ⟨cD100, cD101, cD102, cD103⟩ := row4c hD10); (try clear cD110 cD111 cD112 cD113); (obtain ⟨cD110, cD111, cD112, cD113⟩ := row4c hD11); (try clear cR0 cR1 cR2 cR3 cR4 cR5 cR6 cR7 cR8); (obtain ⟨cR0, cR1, cR2, cR3, cR4, cR5, cR6, cR7, cR8⟩ := row9c hR); (obtain ⟨zR0, zR1, zR2, zR3, zR4, zR5, zR6, zR7, zR8⟩ := row9z hR); clear hb) | (go_at_call 33; with_reducible refine (subG_any (W4.mk' M4.out) (W4.mk' hlb.out) _ (show IsF _ (g) (PP) from (by first | exact fF | exact fFd | exact ⟨fF.blk, fF.odd, fF.three, fF.lt⟩ | exact ⟨ak fF.blk, fF.odd, fF.three, fF.lt⟩ | exact ⟨ak (ak fF.blk), fF.odd, fF.three, fF.lt⟩))).mono ?_; rintro e W ⟨rfl, hb⟩; (first | replace hA := below_get hb hA | replace hA := below_get hb (ak hA)); (first | replace hB := below_get hb hB | replace hB := below_get hb (ak hB)); (first | replace hR := below_get hb hR | replace hR := below_get hb (ak hR)); (first | replace hQ := below_get hb hQ | replace hQ := below_get hb (ak hQ)); (first | replace hD6 := below_get hb hD6 | replace hD6 := below_get hb (ak hD6)); (first | replace hD7 := below_get hb hD7 | replace hD7 := below_get hb (ak hD7)); (first | replace hD8 := below_get hb hD8 | replace hD8 := below_get hb (ak hD8)); (first | replace hD10 := below_get hb hD10 | replace hD10 := below_get hb (ak hD10)); (first | replace hD11 := below_get hb hD11 | replace hD11 := below_get hb (ak hD11)); (replace kk := bcl (by first | exact kk | exact kk.drew | exact bal kk _ | exact (bal kk _).drew) hb); (replace fF := IsF.of HF.out hQ); (try clear cA0 cA1 cA2 cA3 cA4 cA5 cA6 cA7 cA8); (obtain ⟨cA0, cA1, cA2, cA3, cA4, cA5, cA6, cA7, cA8⟩ := row9c hA); (try clear cD100 cD101 cD102 cD103); (obtain ⟨cD100, cD101, cD102, cD103⟩ := row4c hD10); (try clear cD110 cD111 cD112 cD113); (obtain ⟨cD110, cD111, cD112, cD113⟩ := row4c hD11); (try clear cR0 cR1 cR2 cR3 cR4 cR5 cR6 cR7 cR8); (obtain ⟨cR0, cR1, cR2, cR3, cR4, cR5, cR6, cR7, cR8⟩ := row9c hR); (obtain ⟨zR0, zR1, zR2, zR3, zR4, zR5, zR6, zR7, zR8⟩ := row9z hR); clear hb))
      go_simp
      go_wp2_with fail
      have P := put9 (.int .u64 (w0 (xx) : Nat)) (.int .u64 (w1 (xx) : Nat)) (.int .u64 (w2 (xx) : Nat)) (.int .u64 (w3 (xx) : Nat)) (.int .u64 (w0 (subf PP (mulm PP sl (subf PP x xx)) y) : Nat)) (.int .u64 (w1 (subf PP (mulm PP sl (subf PP x xx)) y) : Nat)) (.int .u64 (w2 (subf PP (mulm PP sl (subf PP x xx)) y) : Nat)) (.int .u64 (w3 (subf PP (mulm PP sl (subf PP x xx)) y) : Nat)) (.bool false) hR
      obtain ⟨V9, hV9⟩ : ∃ V, (World.setCell (World.setCell (World.setCell (World.setCell (World.setCell (World.setCell (World.setCell (World.setCell (World.setCell W ⟨w.heap.size + 2, 0, none⟩ (.int .u64 (w0 (xx) : Nat))) ⟨w.heap.size + 2, 1, none⟩ (.int .u64 (w1 (xx) : Nat))) ⟨w.heap.size + 2, 2, none⟩ (.int .u64 (w2 (xx) : Nat))) ⟨w.heap.size + 2, 3, none⟩ (.int .u64 (w3 (xx) : Nat))) ⟨w.heap.size + 2, 4, none⟩ (.int .u64 (w0 (subf PP (mulm PP sl (subf PP x xx)) y) : Nat))) ⟨w.heap.size + 2, 5, none⟩ (.int .u64 (w1 (subf PP (mulm PP sl (subf PP x xx)) y) : Nat))) ⟨w.heap.size + 2, 6, none⟩ (.int .u64 (w2 (subf PP (mulm PP sl (subf PP x xx)) y) : Nat))) ⟨w.heap.size + 2, 7, none⟩ (.int .u64 (w3 (subf PP (mulm PP sl (subf PP x xx)) y) : Nat))) ⟨w.heap.size + 2, 8, none⟩ (.bool false)) = V := ⟨_, rfl⟩
      rw [hV9] at P ⊢
      have P9 : V9.heap[w.heap.size + 2]? = some (.cells #[.int .u64 (w0 (xx) : Nat), .int .u64 (w1 (xx) : Nat), .int .u64 (w2 (xx) : Nat), .int .u64 (w3 (xx) : Nat), .int .u64 (w0 (subf PP (mulm PP sl (subf PP x xx)) y) : Nat), .int .u64 (w1 (subf PP (mulm PP sl (subf PP x xx)) y) : Nat), .int .u64 (w2 (subf PP (mulm PP sl (subf PP x xx)) y) : Nat), .int .u64 (w3 (subf PP (mulm PP sl (subf PP x xx)) y) : Nat), .bool false] 52 (0, 0)) := P.here
      have k9 := P.below (by omega) (show Below w.heap.size w W from by first | exact kk | exact kk.drew | exact below_drewN kk _)
      have v0 : V9.cell? ⟨w.heap.size + 2, 0, none⟩ = some (.int .u64 (w0 (xx) : Nat)) := by rw [cell_of_row _ _ _ _ _ _ P9]; rfl
      have v1 : V9.cell? ⟨w.heap.size + 2, 1, none⟩ = some (.int .u64 (w1 (xx) : Nat)) := by rw [cell_of_row _ _ _ _ _ _ P9]; rfl
      have v2 : V9.cell? ⟨w.heap.size + 2, 2, none⟩ = some (.int .u64 (w2 (xx) : Nat)) := by rw [cell_of_row _ _ _ _ _ _ P9]; rfl
      have v3 : V9.cell? ⟨w.heap.size + 2, 3, none⟩ = some (.int .u64 (w3 (xx) : Nat)) := by rw [cell_of_row _ _ _ _ _ _ P9]; rfl
      have v4 : V9.cell? ⟨w.heap.size + 2, 4, none⟩ = some (.int .u64 (w0 (subf PP (mulm PP sl (subf PP x xx)) y) : Nat)) := by rw [cell_of_row _ _ _ _ _ _ P9]; rfl
      have v5 : V9.cell? ⟨w.heap.size + 2, 5, none⟩ = some (.int .u64 (w1 (subf PP (mulm PP sl (subf PP x xx)) y) : Nat)) := by rw [cell_of_row _ _ _ _ _ _ P9]; rfl
      have v6 : V9.cell? ⟨w.heap.size + 2, 6, none⟩ = some (.int .u64 (w2 (subf PP (mulm PP sl (subf PP x xx)) y) : Nat)) := by rw [cell_of_row _ _ _ _ _ _ P9]; rfl
      have v7 : V9.cell? ⟨w.heap.size + 2, 7, none⟩ = some (.int .u64 (w3 (subf PP (mulm PP sl (subf PP x xx)) y) : Nat)) := by rw [cell_of_row _ _ _ _ _ _ P9]; rfl
      have v8 : V9.cell? ⟨w.heap.size + 2, 8, none⟩ = some (.bool false) := by rw [cell_of_row _ _ _ _ _ _ P9]; rfl
      refine bodyPost_ret (v := _) (by simp [results, Try.results39, go_sem, v0, v1, v2, v3, v4, v5, v6, v7, v8]; rfl) rfl ?_
      obtain ⟨e1, e2, e3⟩ := E.out
      rw [e1, e2, e3]
      exact ⟨rfl, k9⟩
  · have q1 := fun w => neq_of_eql (eqlGn hla.out hlc.out hxu w)
    have E := Lib.hid (sum_far HP.out HQ2.out HS.out hxu)
    clear hxu
    obtain ⟨cA0, cA1, cA2, cA3, cA4, cA5, cA6, cA7, cA8⟩ := row9c hA
    obtain ⟨zA0, zA1, zA2, zA3, zA4, zA5, zA6, zA7, zA8⟩ := row9z hA
    obtain ⟨cB0, cB1, cB2, cB3, cB4, cB5, cB6, cB7, cB8⟩ := row9c hB
    obtain ⟨zB0, zB1, zB2, zB3, zB4, zB5, zB6, zB7, zB8⟩ := row9z hB
    go_upto_region 9 with fail
    clear q1
    clear cA0 zA0 cA1 zA1 cA2 zA2 cA3 zA3 cA4 zA4 cA5 zA5 cA6 zA6 cA7 zA7 cA8 zA8 cB0 zB0 cB1 zB1 cB2 zB2 cB3 zB3 cB4 zB4 cB5 zB5 cB6 zB6 cB7 zB7 cB8 zB8
    obtain ⟨S0, hS0⟩ : ∃ S : World → Prop, S = (fun w' => w'.heap[w.heap.size]? = some (.cells #[.int .u64 (w0 (x) : Nat), .int .u64 (w1 (x) : Nat), .int .u64 (w2 (x) : Nat), .int .u64 (w3 (x) : Nat), .int .u64 (w0 (y) : Nat), .int .u64 (w1 (y) : Nat), .int .u64 (w2 (y) : Nat), .int .u64 (w3 (y) : Nat), .bool false] 52 (0, 0)) ∧ w'.heap[w.heap.size+1]? = some (.cells #[.int .u64 (w0 (u) : Nat), .int .u64 (w1 (u) : Nat), .int .u64 (w2 (u) : Nat), .int .u64 (w3 (u) : Nat), .int .u64 (w0 (v) : Nat), .int .u64 (w1 (v) : Nat), .int .u64 (w2 (v) : Nat), .int .u64 (w3 (v) : Nat), .bool false] 52 (0, 0))) := ⟨_, rfl⟩
    refine startT (S := S0) 13 (by kernel_rfl) (by rw [hS0]; exact ⟨hA, hB⟩) (fun hHeld => ?_)
    refine takeT (i := 0) (d := some 40) (v := ?_) _ rfl rfl (by rfl) (by kernel_rfl) (by decide) (by kernel_rfl) (by kernel_rfl) (by kernel_rfl) (fun _ _ _ h => h) (by assumption) (by kernel_rfl) ?_ ?_
    rotate_left
    · (first | (intro w' hSw; clear hSw; go_simp; try (with_reducible rfl)) | (intro w'; go_simp; try (with_reducible rfl)))
    try simp only [Act.put, List.setIfInBounds_toArray, List.set_cons_zero, List.set_cons_succ]
    refine takeT (i := 1) (d := some 41) (v := ?_) _ rfl rfl (by rfl) (by kernel_rfl) (by decide) (by kernel_rfl) (by kernel_rfl) (by kernel_rfl) (fun _ _ _ h => h) (by assumption) (by kernel_rfl) ?_ ?_
    rotate_left
    · (first | (intro w' hSw; clear hSw; go_simp; try (with_reducible rfl)) | (intro w'; go_simp; try (with_reducible rfl)))
    try simp only [Act.put, List.setIfInBounds_toArray, List.set_cons_zero, List.set_cons_succ]
    refine takeT (i := 2) (d := some 42) (v := ?_) _ rfl rfl (by rfl) (by kernel_rfl) (by decide) (by kernel_rfl) (by kernel_rfl) (by kernel_rfl) (fun _ _ _ h => h) (by assumption) (by kernel_rfl) ?_ ?_
    rotate_left
    · (intro w' hSw; (rw [hS0] at hSw); (have hSw' := hSw); (first | (obtain ⟨svA, svB⟩ := hSw'; obtain ⟨cvA0, cvA1, cvA2, cvA3, cvA4, cvA5, cvA6, cvA7, cvA8⟩ := row9c svA; obtain ⟨cvB0, cvB1, cvB2, cvB3, cvB4, cvB5, cvB6, cvB7, cvB8⟩ := row9c svB; go_simp)); try (with_reducible rfl))
    try simp only [Act.put, List.setIfInBounds_toArray, List.set_cons_zero, List.set_cons_succ]
    refine takeT (i := 3) (d := some 43) (v := ?_) _ rfl rfl (by rfl) (by kernel_rfl) (by decide) (by kernel_rfl) (by kernel_rfl) (by kernel_rfl) (fun _ _ _ h => h) (by assumption) (by kernel_rfl) ?_ ?_
    rotate_left
    · (first | (intro w' hSw; clear hSw; go_simp; try (with_reducible rfl)) | (intro w'; go_simp; try (with_reducible rfl)))
    try simp only [Act.put, List.setIfInBounds_toArray, List.set_cons_zero, List.set_cons_succ]
    refine takeT (i := 4) (d := some 44) (v := ?_) _ rfl rfl (by rfl) (by kernel_rfl) (by decide) (by kernel_rfl) (by kernel_rfl) (by kernel_rfl) (fun _ _ _ h => h) (by assumption) (by kernel_rfl) ?_ ?_
    rotate_left
    · (intro w' hSw; (rw [hS0] at hSw); (have hSw' := hSw); (first | (obtain ⟨svA, svB⟩ := hSw'; obtain ⟨cvA0, cvA1, cvA2, cvA3, cvA4, cvA5, cvA6, cvA7, cvA8⟩ := row9c svA; obtain ⟨cvB0, cvB1, cvB2, cvB3, cvB4, cvB5, cvB6, cvB7, cvB8⟩ := row9c svB; go_simp)); try (with_reducible rfl))
    try simp only [Act.put, List.setIfInBounds_toArray, List.set_cons_zero, List.set_cons_succ]
    refine takeT (i := 6) (d := some 46) (v := ?_) _ rfl rfl (by rfl) (by kernel_rfl) (by decide) (by kernel_rfl) (by kernel_rfl) (by kernel_rfl) (fun _ _ _ h => h) (by assumption) (by kernel_rfl) ?_ ?_
    rotate_left
    · (first | (intro w' hSw; clear hSw; go_simp; try (with_reducible rfl)) | (intro w'; go_simp; try (with_reducible rfl)))
    try simp only [Act.put, List.setIfInBounds_toArray, List.set_cons_zero, List.set_cons_succ]
    refine takeT (i := 7) (d := some 47) (v := ?_) _ rfl rfl (by rfl) (by kernel_rfl) (by decide) (by kernel_rfl) (by kernel_rfl) (by kernel_rfl) (fun _ _ _ h => h) (by assumption) (by kernel_rfl) ?_ ?_
    rotate_left
    · (first | (intro w' hSw; clear hSw; go_simp; try (with_reducible rfl)) | (intro w'; go_simp; try (with_reducible rfl)))
    try simp only [Act.put, List.setIfInBounds_toArray, List.set_cons_zero, List.set_cons_succ]
    refine takeT (i := 8) (d := some 48) (v := ?_) _ rfl rfl (by rfl) (by kernel_rfl) (by decide) (by kernel_rfl) (by kernel_rfl) (by kernel_rfl) (fun _ _ _ h => h) (by assumption) (by kernel_rfl) ?_ ?_
    rotate_left
    · (intro w' hSw; (rw [hS0] at hSw); (have hSw' := hSw); (first | (obtain ⟨svA, svB⟩ := hSw'; obtain ⟨cvA0, cvA1, cvA2, cvA3, cvA4, cvA5, cvA6, cvA7, cvA8⟩ := row9c svA; obtain ⟨cvB0, cvB1, cvB2, cvB3, cvB4, cvB5, cvB6, cvB7, cvB8⟩ := row9c svB; go_simp)); try (with_reducible rfl))
    try simp only [Act.put, List.setIfInBounds_toArray, List.set_cons_zero, List.set_cons_succ]
    refine takeT (i := 9) (d := some 49) (v := ?_) _ rfl rfl (by rfl) (by kernel_rfl) (by decide) (by kernel_rfl) (by kernel_rfl) (by kernel_rfl) (fun _ _ _ h => h) (by assumption) (by kernel_rfl) ?_ ?_
    rotate_left
    · (first | (intro w' hSw; clear hSw; go_simp; try (with_reducible rfl)) | (intro w'; go_simp; try (with_reducible rfl)))
    try simp only [Act.put, List.setIfInBounds_toArray, List.set_cons_zero, List.set_cons_succ]
    refine takeT (i := 10) (d := some 50) (v := ?_) _ rfl rfl (by rfl) (by kernel_rfl) (by decide) (by kernel_rfl) (by kernel_rfl) (by kernel_rfl) (fun _ _ _ h => h) (by assumption) (by kernel_rfl) ?_ ?_
    rotate_left
    · (intro w' hSw; (rw [hS0] at hSw); (have hSw' := hSw); (first | (obtain ⟨svA, svB⟩ := hSw'; obtain ⟨cvA0, cvA1, cvA2, cvA3, cvA4, cvA5, cvA6, cvA7, cvA8⟩ := row9c svA; obtain ⟨cvB0, cvB1, cvB2, cvB3, cvB4, cvB5, cvB6, cvB7, cvB8⟩ := row9c svB; go_simp)); try (with_reducible rfl))
    try simp only [Act.put, List.setIfInBounds_toArray, List.set_cons_zero, List.set_cons_succ]
    refine callT (i := 5) _ rfl (by rfl) (by kernel_rfl) (fun K hK => ?_)
    go_simp
    refine (subG_any (W4.mk' hld.out) (W4.mk' hlb.out) _ (show IsF _ (g) (PP) from (by first | exact fF | exact fFd | exact ⟨fF.blk, fF.odd, fF.three, fF.lt⟩ | exact ⟨ak fF.blk, fF.odd, fF.three, fF.lt⟩ | exact ⟨ak (ak fF.blk), fF.odd, fF.three, fF.lt⟩))).mono ?_
    rintro e V41 ⟨rfl, hb⟩
    replace hA := below_get hb hA
    replace hB := below_get hb hB
    replace hR := below_get hb hR
    replace hQ := below_get hb hQ
    replace hD6 := below_get hb hD6
    replace hD7 := below_get hb hD7
    replace kk := bcl (by first | exact kk | exact kk.drew | exact below_drewN kk _) hb
    replace fF := IsF.of HF.out hQ
    clear hb
    refine hK.out _ _ (Or.inr (by rw [hS0]; exact ⟨hA, hB⟩)) ?_
    clear hK K
    try simp only [Act.put, List.setIfInBounds_toArray, List.set_cons_zero, List.set_cons_succ]
    refine callT (i := 11) _ rfl (by rfl) (by kernel_rfl) (fun K hK => ?_)
    go_simp
    refine (subG_any (W4.mk' hlc.out) (W4.mk' hla.out) _ (show IsF _ (g) (PP) from (by first | exact fF | exact fFd | exact ⟨fF.blk, fF.odd, fF.three, fF.lt⟩ | exact ⟨ak fF.blk, fF.odd, fF.three, fF.lt⟩ | exact ⟨ak (ak fF.blk), fF.odd, fF.three, fF.lt⟩))).mono ?_
    rintro e V42 ⟨rfl, hb⟩
    replace hA := below_get hb hA
    replace hB := below_get hb hB
    replace hR := below_get hb hR
    replace hQ := below_get hb hQ
    replace hD6 := below_get hb hD6
    replace hD7 := below_get hb hD7
    replace kk := bcl (by first | exact kk | exact kk.drew | exact below_drewN kk _) hb
    replace fF := IsF.of HF.out hQ
    clear hb
    refine hK.out _ _ (Or.inr (by rw [hS0]; exact ⟨hA, hB⟩)) ?_
    clear hK K
    try simp only [Act.put, List.setIfInBounds_toArray, List.set_cons_zero, List.set_cons_succ]
    refine callT (i := 12) _ rfl (by rfl) (by kernel_rfl) (fun K hK => ?_)
    obtain ⟨cD60, cD61, cD62, cD63⟩ := row4c hD6
    obtain ⟨zD60, zD61, zD62, zD63⟩ := row4z hD6
    go_simp
    have P := put4 (.int .u64 (w0 (subf PP v y) : Nat)) (.int .u64 (w1 (subf PP v y) : Nat)) (.int .u64 (w2 (subf PP v y) : Nat)) (.int .u64 (w3 (subf PP v y) : Nat)) hD6
    obtain ⟨V4b, hW⟩ : ∃ V, (World.setCell (World.setCell (World.setCell (World.setCell V42 ⟨d6, 0, none⟩ (.int .u64 (w0 (subf PP v y) : Nat))) ⟨d6, 1, none⟩ (.int .u64 (w1 (subf PP v y) : Nat))) ⟨d6, 2, none⟩ (.int .u64 (w2 (subf PP v y) : Nat))) ⟨d6, 3, none⟩ (.int .u64 (w3 (subf PP v y) : Nat))) = V := ⟨_, rfl⟩
    rw [hW] at P ⊢
    replace hD6 := P.here
    replace hA := (P.there (w.heap.size) (by omega)).trans (show _ = some (.cells #[.int .u64 (w0 (x) : Nat), .int .u64 (w1 (x) : Nat), .int .u64 (w2 (x) : Nat), .int .u64 (w3 (x) : Nat), .int .u64 (w0 (y) : Nat), .int .u64 (w1 (y) : Nat), .int .u64 (w2 (y) : Nat), .int .u64 (w3 (y) : Nat), .bool false] 52 (0, 0)) from hA)
    replace hB := (P.there (w.heap.size+1) (by omega)).trans (show _ = some (.cells #[.int .u64 (w0 (u) : Nat), .int .u64 (w1 (u) : Nat), .int .u64 (w2 (u) : Nat), .int .u64 (w3 (u) : Nat), .int .u64 (w0 (v) : Nat), .int .u64 (w1 (v) : Nat), .int .u64 (w2 (v) : Nat), .int .u64 (w3 (v) : Nat), .bool false] 52 (0, 0)) from hB)
    replace hR := (P.there (w.heap.size + 2) (by omega)).trans (show _ = some (.cells #[.int .u64 0, .int .u64 0, .int .u64 0, .int .u64 0, .int .u64 0, .int .u64 0, .int .u64 0, .int .u64 0, .bool false] 52 (0, 0)) from hR)
    replace hQ := (P.there (g) (by omega)).trans (show _ = some (.cells #[.int .u64 (w0 (PP) : Nat), .int .u64 (w1 (PP) : Nat), .int .u64 (w2 (PP) : Nat), .int .u64 (w3 (PP) : Nat), .int .u64 (finv1 (PP) : Nat), .int .u64 (w0 (fsq (PP)) : Nat), .int .u64 (w1 (fsq (PP)) : Nat), .int .u64 (w2 (fsq (PP)) : Nat), .int .u64 (w3 (fsq (PP)) : Nat)] 90 (0, 0)) from hQ)
    replace hD7 := (P.there (d6 + 1) (by omega)).trans (show _ = some (.cells #[.int .u64 0, .int .u64 0, .int .u64 0, .int .u64 0] 24 (0, 0)) from hD7)
    replace kk := P.below (by omega) (show Below w.heap.size w V42 from by first | exact kk | exact kk.drew | exact below_drewN kk _)
    replace fF := IsF.of HF.out hQ
    clear cD60 zD60 cD61 zD61 cD62 zD62 cD63 zD63
    clear P hW
    refine hK.out _ _ (Or.inr (by rw [hS0]; exact ⟨hA, hB⟩)) ?_
    clear hK K
    try simp only [Act.put, List.setIfInBounds_toArray, List.set_cons_zero, List.set_cons_succ]
    refine callT (i := 13) _ rfl (by rfl) (by kernel_rfl) (fun K hK => ?_)
    obtain ⟨cD70, cD71, cD72, cD73⟩ := row4c hD7
    obtain ⟨zD70, zD71, zD72, zD73⟩ := row4z hD7
    go_simp
    have P := put4 (.int .u64 (w0 (subf PP u x) : Nat)) (.int .u64 (w1 (subf PP u x) : Nat)) (.int .u64 (w2 (subf PP u x) : Nat)) (.int .u64 (w3 (subf PP u x) : Nat)) hD7
    obtain ⟨V4, hW⟩ : ∃ V, (World.setCell (World.setCell (World.setCell (World.setCell V4b ⟨d6 + 1, 0, none⟩ (.int .u64 (w0 (subf PP u x) : Nat))) ⟨d6 + 1, 1, none⟩ (.int .u64 (w1 (subf PP u x) : Nat))) ⟨d6 + 1, 2, none⟩ (.int .u64 (w2 (subf PP u x) : Nat))) ⟨d6 + 1, 3, none⟩ (.int .u64 (w3 (subf PP u x) : Nat))) = V := ⟨_, rfl⟩
    rw [hW] at P ⊢
    replace hD7 := P.here
    replace hA := (P.there (w.heap.size) (by omega)).trans (show _ = some (.cells #[.int .u64 (w0 (x) : Nat), .int .u64 (w1 (x) : Nat), .int .u64 (w2 (x) : Nat), .int .u64 (w3 (x) : Nat), .int .u64 (w0 (y) : Nat), .int .u64 (w1 (y) : Nat), .int .u64 (w2 (y) : Nat), .int .u64 (w3 (y) : Nat), .bool false] 52 (0, 0)) from hA)
    replace hB := (P.there (w.heap.size+1) (by omega)).trans (show _ = some (.cells #[.int .u64 (w0 (u) : Nat), .int .u64 (w1 (u) : Nat), .int .u64 (w2 (u) : Nat), .int .u64 (w3 (u) : Nat), .int .u64 (w0 (v) : Nat), .int .u64 (w1 (v) : Nat), .int .u64 (w2 (v) : Nat), .int .u64 (w3 (v) : Nat), .bool false] 52 (0, 0)) from hB)
    replace hR := (P.there (w.heap.size + 2) (by omega)).trans (show _ = some (.cells #[.int .u64 0, .int .u64 0, .int .u64 0, .int .u64 0, .int .u64 0, .int .u64 0, .int .u64 0, .int .u64 0, .bool false] 52 (0, 0)) from hR)
    replace hQ := (P.there (g) (by omega)).trans (show _ = some (.cells #[.int .u64 (w0 (PP) : Nat), .int .u64 (w1 (PP) : Nat), .int .u64 (w2 (PP) : Nat), .int .u64 (w3 (PP) : Nat), .int .u64 (finv1 (PP) : Nat), .int .u64 (w0 (fsq (PP)) : Nat), .int .u64 (w1 (fsq (PP)) : Nat), .int .u64 (w2 (fsq (PP)) : Nat), .int .u64 (w3 (fsq (PP)) : Nat)] 90 (0, 0)) from hQ)
    replace hD6 := (P.there (d6) (by omega)).trans (show _ = some (.cells #[.int .u64 (w0 (subf PP v y) : Nat), .int .u64 (w1 (subf PP v y) : Nat), .int .u64 (w2 (subf PP v y) : Nat), .int .u64 (w3 (subf PP v y) : Nat)] 24 (0, 0)) from hD6)
    replace kk := P.below (by omega) (show Below w.heap.size w V4b from by first | exact kk | exact kk.drew | exact below_drewN kk _)
    replace fF := IsF.of HF.out hQ
    clear cD70 zD70 cD71 zD71 cD72 zD72 cD73 zD73
    clear P hW
    refine hK.out _ _ (Or.inl (by kernel_rfl)) ?_
    clear hK K
    try simp only [Act.put, List.setIfInBounds_toArray, List.set_cons_zero, List.set_cons_succ]
    refine doneT (by kernel_rfl) ?_ _
    clear hHeld hS0 S0
    go_simp
    obtain ⟨up, hup⟩ : ∃ n, subf PP v y = n := ⟨_, rfl⟩
    obtain ⟨dn, hdn⟩ : ∃ n, subf PP u x = n := ⟨_, rfl⟩
    rw [hup] at hD6
    rw [hdn] at hD7
    have Gup := Lib.hid (show up < 2 ^ 256 by rw [← hup]; exact Nat.lt_trans (Nat.mod_lt _ hpos) HM.out)
    have Gdn := Lib.hid (show dn < 2 ^ 256 by rw [← hdn]; exact Nat.lt_trans (Nat.mod_lt _ hpos) HM.out)
    have E2 := E.out
    rw [hup, hdn] at E2
    replace E := Lib.hid E2
    clear E2 hup hdn
    obtain ⟨cD70, cD71, cD72, cD73⟩ := row4c hD7
    obtain ⟨zD70, zD71, zD72, zD73⟩ := row4z hD7
    go_wp2_with fail
    refine (inv_any (W4.mk' Gdn.out) _ fF).mono ?_
    rintro e V5 ⟨rfl, hb⟩
    replace hA := below_get hb hA
    replace hB := below_get hb hB
    replace hR := below_get hb hR
    replace hQ := below_get hb hQ
    replace hD6 := below_get hb hD6
    replace hD7 := below_get hb hD7
    replace kk := bcl (by first | exact kk | exact kk.drew | exact below_drewN kk _) hb
    replace fF := IsF.of HF.out hQ
    clear cD70 zD70 cD71 zD71 cD72 zD72 cD73 zD73
    clear hb
    have Gi := Lib.hid (invN_lt (a := dn) HM.out hpos)
    go_upto_region 13 with fail
    obtain ⟨V6, hW⟩ : ∃ V, V5.alloc (.cells #[.int .u64 (w0 (invN dn PP) : Nat), .int .u64 (w1 (invN dn PP) : Nat), .int .u64 (w2 (invN dn PP) : Nat), .int .u64 (w3 (invN dn PP) : Nat)] 24 (0, 0)) = V := ⟨_, rfl⟩
    rw [hW]
    obtain ⟨d8, hbx⟩ : ∃ n, V5.heap.size = n := ⟨_, rfl⟩
    rw [hbx]
    have hNEW : V6.heap[d8]? = some (.cells #[.int .u64 (w0 (invN dn PP) : Nat), .int .u64 (w1 (invN dn PP) : Nat), .int .u64 (w2 (invN dn PP) : Nat), .int .u64 (w3 (invN dn PP) : Nat)] 24 (0, 0)) := by rw [← hW, ← hbx]; exact heap_alloc_new _ _
    have lD8A : w.heap.size < d8 := by rw [← hbx]; exact lt_of_heap hA
    replace hA : V6.heap[w.heap.size]? = some (.cells #[.int .u64 (w0 (x) : Nat), .int .u64 (w1 (x) : Nat), .int .u64 (w2 (x) : Nat), .int .u64 (w3 (x) : Nat), .int .u64 (w0 (y) : Nat), .int .u64 (w1 (y) : Nat), .int .u64 (w2 (y) : Nat), .int .u64 (w3 (y) : Nat), .bool false] 52 (0, 0)) := by rw [← hW]; exact ak hA
    have lD8B : w.heap.size+1 < d8 := by rw [← hbx]; exact lt_of_heap hB
    replace hB : V6.heap[w.heap.size+1]? = some (.cells #[.int .u64 (w0 (u) : Nat), .int .u64 (w1 (u) : Nat), .int .u64 (w2 (u) : Nat), .int .u64 (w3 (u) : Nat), .int .u64 (w0 (v) : Nat), .int .u64 (w1 (v) : Nat), .int .u64 (w2 (v) : Nat), .int .u64 (w3 (v) : Nat), .bool false] 52 (0, 0)) := by rw [← hW]; exact ak hB
    have lD8R : w.heap.size + 2 < d8 := by rw [← hbx]; exact lt_of_heap hR
    replace hR : V6.heap[w.heap.size + 2]? = some (.cells #[.int .u64 0, .int .u64 0, .int .u64 0, .int .u64 0, .int .u64 0, .int .u64 0, .int .u64 0, .int .u64 0, .bool false] 52 (0, 0)) := by rw [← hW]; exact ak hR
    have lD8Q : g < d8 := by rw [← hbx]; exact lt_of_heap hQ
    replace hQ : V6.heap[g]? = some (.cells #[.int .u64 (w0 (PP) : Nat), .int .u64 (w1 (PP) : Nat), .int .u64 (w2 (PP) : Nat), .int .u64 (w3 (PP) : Nat), .int .u64 (finv1 (PP) : Nat), .int .u64 (w0 (fsq (PP)) : Nat), .int .u64 (w1 (fsq (PP)) : Nat), .int .u64 (w2 (fsq (PP)) : Nat), .int .u64 (w3 (fsq (PP)) : Nat)] 90 (0, 0)) := by rw [← hW]; exact ak hQ
    have lD8D6 : d6 < d8 := by rw [← hbx]; exact lt_of_heap hD6
    replace hD6 : V6.heap[d6]? = some (.cells #[.int .u64 (w0 (up) : Nat), .int .u64 (w1 (up) : Nat), .int .u64 (w2 (up) : Nat), .int .u64 (w3 (up) : Nat)] 24 (0, 0)) := by rw [← hW]; exact ak hD6
    have lD8D7 : d6+1 < d8 := by rw [← hbx]; exact lt_of_heap hD7
    replace hD7 : V6.heap[d6+1]? = some (.cells #[.int .u64 (w0 (dn) : Nat), .int .u64 (w1 (dn) : Nat), .int .u64 (w2 (dn) : Nat), .int .u64 (w3 (dn) : Nat)] 24 (0, 0)) := by rw [← hW]; exact ak hD7
    have lD8 : w.heap.size ≤ d8 := by rw [← hbx]; exact kk.size
    replace kk : Below w.heap.size w V6 := by rw [← hW]; exact bal kk _
    have hD8 := hNEW
    replace fF := IsF.of HF.out hQ
    clear hNEW hW hbx
    obtain ⟨cD60, cD61, cD62, cD63⟩ := row4c hD6
    obtain ⟨zD60, zD61, zD62, zD63⟩ := row4z hD6
    obtain ⟨cD80, cD81, cD82, cD83⟩ := row4c hD8
    obtain ⟨zD80, zD81, zD82, zD83⟩ := row4z hD8
    go_wp2_with fail
    refine (mulG_any (W4.mk' Gup.out) (W4.mk' Gi.out) _ fF).mono ?_
    rintro e V7 ⟨rfl, hb⟩
    replace hA := below_get hb hA
    replace hB := below_get hb hB
    replace hR := below_get hb hR
    replace hQ := below_get hb hQ
    replace hD6 := below_get hb hD6
    replace hD7 := below_get hb hD7
    replace hD8 := below_get hb hD8
    replace kk := bcl (by first | exact kk | exact kk.drew | exact below_drewN kk _) hb
    replace fF := IsF.of HF.out hQ
    clear cD60 zD60 cD61 zD61 cD62 zD62 cD63 zD63 cD80 zD80 cD81 zD81 cD82 zD82 cD83 zD83
    clear hb
    have E2 := E.out
    obtain ⟨sl, hsl⟩ : ∃ n, mulm PP up (invN dn PP) = n := ⟨_, rfl⟩
    rw [show slN up dn = sl from hsl] at E2
    rw [hsl]
    have Gsl := Lib.hid (show sl < 2 ^ 256 by rw [← hsl]; exact Nat.lt_trans (Nat.mod_lt _ hpos) HM.out)
    replace E := Lib.hid E2
    clear E2 hsl
    go_upto_region 14 with fail
    obtain ⟨V8, hW⟩ : ∃ V, V7.alloc (.cells #[.int .u64 (w0 (sl) : Nat), .int .u64 (w1 (sl) : Nat), .int .u64 (w2 (sl) : Nat), .int .u64 (w3 (sl) : Nat)] 24 (0, 0)) = V := ⟨_, rfl⟩
    rw [hW]
    obtain ⟨d10, hbx⟩ : ∃ n, V7.heap.size = n := ⟨_, rfl⟩
    rw [hbx]
    have hNEW : V8.heap[d10]? = some (.cells #[.int .u64 (w0 (sl) : Nat), .int .u64 (w1 (sl) : Nat), .int .u64 (w2 (sl) : Nat), .int .u64 (w3 (sl) : Nat)] 24 (0, 0)) := by rw [← hW, ← hbx]; exact heap_alloc_new _ _
    have lD10A : w.heap.size < d10 := by rw [← hbx]; exact lt_of_heap hA
    replace hA : V8.heap[w.heap.size]? = some (.cells #[.int .u64 (w0 (x) : Nat), .int .u64 (w1 (x) : Nat), .int .u64 (w2 (x) : Nat), .int .u64 (w3 (x) : Nat), .int .u64 (w0 (y) : Nat), .int .u64 (w1 (y) : Nat), .int .u64 (w2 (y) : Nat), .int .u64 (w3 (y) : Nat), .bool false] 52 (0, 0)) := by rw [← hW]; exact ak hA
    have lD10B : w.heap.size+1 < d10 := by rw [← hbx]; exact lt_of_heap hB
    replace hB : V8.heap[w.heap.size+1]? = some (.cells #[.int .u64 (w0 (u) : Nat), .int .u64 (w1 (u) : Nat), .int .u64 (w2 (u) : Nat), .int .u64 (w3 (u) : Nat), .int .u64 (w0 (v) : Nat), .int .u64 (w1 (v) : Nat), .int .u64 (w2 (v) : Nat), .int .u64 (w3 (v) : Nat), .bool false] 52 (0, 0)) := by rw [← hW]; exact ak hB
    have lD10R : w.heap.size + 2 < d10 := by rw [← hbx]; exact lt_of_heap hR
    replace hR : V8.heap[w.heap.size + 2]? = some (.cells #[.int .u64 0, .int .u64 0, .int .u64 0, .int .u64 0, .int .u64 0, .int .u64 0, .int .u64 0, .int .u64 0, .bool false] 52 (0, 0)) := by rw [← hW]; exact ak hR
    have lD10Q : g < d10 := by rw [← hbx]; exact lt_of_heap hQ
    replace hQ : V8.heap[g]? = some (.cells #[.int .u64 (w0 (PP) : Nat), .int .u64 (w1 (PP) : Nat), .int .u64 (w2 (PP) : Nat), .int .u64 (w3 (PP) : Nat), .int .u64 (finv1 (PP) : Nat), .int .u64 (w0 (fsq (PP)) : Nat), .int .u64 (w1 (fsq (PP)) : Nat), .int .u64 (w2 (fsq (PP)) : Nat), .int .u64 (w3 (fsq (PP)) : Nat)] 90 (0, 0)) := by rw [← hW]; exact ak hQ
    have lD10D6 : d6 < d10 := by rw [← hbx]; exact lt_of_heap hD6
    replace hD6 : V8.heap[d6]? = some (.cells #[.int .u64 (w0 (up) : Nat), .int .u64 (w1 (up) : Nat), .int .u64 (w2 (up) : Nat), .int .u64 (w3 (up) : Nat)] 24 (0, 0)) := by rw [← hW]; exact ak hD6
    have lD10D7 : d6+1 < d10 := by rw [← hbx]; exact lt_of_heap hD7
    replace hD7 : V8.heap[d6+1]? = some (.cells #[.int .u64 (w0 (dn) : Nat), .int .u64 (w1 (dn) : Nat), .int .u64 (w2 (dn) : Nat), .int .u64 (w3 (dn) : Nat)] 24 (0, 0)) := by rw [← hW]; exact ak hD7
    have lD10D8 : d8 < d10 := by rw [← hbx]; exact lt_of_heap hD8
    replace hD8 : V8.heap[d8]? = some (.cells #[.int .u64 (w0 (invN dn PP) : Nat), .int .u64 (w1 (invN dn PP) : Nat), .int .u64 (w2 (invN dn PP) : Nat), .int .u64 (w3 (invN dn PP) : Nat)] 24 (0, 0)) := by rw [← hW]; exact ak hD8
    have lD10 : w.heap.size ≤ d10 := by rw [← hbx]; exact kk.size
    replace kk : Below w.heap.size w V8 := by rw [← hW]; exact bal kk _
    have hD10 := hNEW
    replace fF := IsF.of HF.out hQ
    clear hNEW hW hbx
    have M1 := Lib.hid (show mulm PP sl sl < 2 ^ 256 from Nat.lt_trans (Nat.mod_lt _ hpos) HM.out)
    have M2 := Lib.hid (show subf PP (mulm PP sl sl) x < 2 ^ 256 from Nat.lt_trans (Nat.mod_lt _ hpos) HM.out)
    obtain ⟨S0, hS0⟩ : ∃ S : World → Prop, S = (fun w' => w'.heap[w.heap.size]? = some (.cells #[.int .u64 (w0 (x) : Nat), .int .u64 (w1 (x) : Nat), .int .u64 (w2 (x) : Nat), .int .u64 (w3 (x) : Nat), .int .u64 (w0 (y) : Nat), .int .u64 (w1 (y) : Nat), .int .u64 (w2 (y) : Nat), .int .u64 (w3 (y) : Nat), .bool false] 52 (0, 0)) ∧ w'.heap[w.heap.size+1]? = some (.cells #[.int .u64 (w0 (u) : Nat), .int .u64 (w1 (u) : Nat), .int .u64 (w2 (u) : Nat), .int .u64 (w3 (u) : Nat), .int .u64 (w0 (v) : Nat), .int .u64 (w1 (v) : Nat), .int .u64 (w2 (v) : Nat), .int .u64 (w3 (v) : Nat), .bool false] 52 (0, 0)) ∧ w'.heap[d10]? = some (.cells #[.int .u64 (w0 (sl) : Nat), .int .u64 (w1 (sl) : Nat), .int .u64 (w2 (sl) : Nat), .int .u64 (w3 (sl) : Nat)] 24 (0, 0))) := ⟨_, rfl⟩
    have hSJ : ∀ w', Below V8.heap.size V8 w' → S0 w' := by intro w' hb; rw [hS0]; exact ⟨below_get hb hA, below_get hb hB, below_get hb hD10⟩
    refine startT (S := S0) 13 (by kernel_rfl) (by rw [hS0]; exact ⟨hA, hB, hD10⟩) (fun hHeld => ?_)
    refine takeT (i := 0) (d := some 75) (v := ?_) _ rfl rfl (by rfl) (by kernel_rfl) (by decide) (by kernel_rfl) (by kernel_rfl) (by kernel_rfl) (fun _ _ _ h => h) (by assumption) (by kernel_rfl) ?_ ?_
    rotate_left
    · (first | (intro w' hSw; clear hSw; go_simp; try (with_reducible rfl)) | (intro w'; go_simp; try (with_reducible rfl)))
    try simp only [ptr, Act.put, List.setIfInBounds_toArray, List.set_cons_zero, List.set_cons_succ]
    refine takeT (i := 1) (d := some 76) (v := ?_) _ rfl rfl (by rfl) (by kernel_rfl) (by decide) (by kernel_rfl) (by kernel_rfl) (by kernel_rfl) (fun _ _ _ h => h) (by assumption) (by kernel_rfl) ?_ ?_
    rotate_left
    · (first | (intro w' hSw; clear hSw; go_simp; try (with_reducible rfl)) | (intro w'; go_simp; try (with_reducible rfl)))
    try simp only [ptr, Act.put, List.setIfInBounds_toArray, List.set_cons_zero, List.set_cons_succ]
    refine takeT (i := 2) (d := some 77) (v := ?_) _ rfl rfl (by rfl) (by kernel_rfl) (by decide) (by kernel_rfl) (by kernel_rfl) (by kernel_rfl) (fun _ _ _ h => h) (by assumption) (by kernel_rfl) ?_ ?_
    rotate_left
    · (first | (intro w' hSw; clear hSw; go_simp; try (with_reducible rfl)) | (intro w'; go_simp; try (with_reducible rfl)))
    try simp only [ptr, Act.put, List.setIfInBounds_toArray, List.set_cons_zero, List.set_cons_succ]
    refine takeT (i := 3) (d := some 78) (v := ?_) _ rfl rfl (by rfl) (by kernel_rfl) (by decide) (by kernel_rfl) (by kernel_rfl) (by kernel_rfl) (fun _ _ _ h => h) (by assumption) (by kernel_rfl) ?_ ?_
    rotate_left
    · (intro w' hSw; (rw [hS0] at hSw); (have hSw' := hSw); (first | (obtain ⟨svA, svB, svD10⟩ := hSw'; obtain ⟨cvA0, cvA1, cvA2, cvA3, cvA4, cvA5, cvA6, cvA7, cvA8⟩ := row9c svA; obtain ⟨cvB0, cvB1, cvB2, cvB3, cvB4, cvB5, cvB6, cvB7, cvB8⟩ := row9c svB; obtain ⟨cvD100, cvD101, cvD102, cvD103⟩ := row4c svD10; go_simp)); try (with_reducible rfl))
    try simp only [ptr, Act.put, List.setIfInBounds_toArray, List.set_cons_zero, List.set_cons_succ]
    refine takeT (i := 4) (d := some 79) (v := ?_) _ rfl rfl (by rfl) (by kernel_rfl) (by decide) (by kernel_rfl) (by kernel_rfl) (by kernel_rfl) (fun _ _ _ h => h) (by assumption) (by kernel_rfl) ?_ ?_
    rotate_left
    · (intro w' hSw; (rw [hS0] at hSw); (have hSw' := hSw); (first | (obtain ⟨svA, svB, svD10⟩ := hSw'; obtain ⟨cvA0, cvA1, cvA2, cvA3, cvA4, cvA5, cvA6, cvA7, cvA8⟩ := row9c svA; obtain ⟨cvB0, cvB1, cvB2, cvB3, cvB4, cvB5, cvB6, cvB7, cvB8⟩ := row9c svB; obtain ⟨cvD100, cvD101, cvD102, cvD103⟩ := row4c svD10; go_simp)); try (with_reducible rfl))
    try simp only [ptr, Act.put, List.setIfInBounds_toArray, List.set_cons_zero, List.set_cons_succ]
    refine takeT (i := 6) (d := some 81) (v := ?_) _ rfl rfl (by rfl) (by kernel_rfl) (by decide) (by kernel_rfl) (by kernel_rfl) (by kernel_rfl) (fun _ _ _ h => h) (by assumption) (by kernel_rfl) ?_ ?_
    rotate_left
    · (first | (intro w' hSw; clear hSw; go_simp; try (with_reducible rfl)) | (intro w'; go_simp; try (with_reducible rfl)))
    try simp only [ptr, Act.put, List.setIfInBounds_toArray, List.set_cons_zero, List.set_cons_succ]
    refine takeT (i := 7) (d := some 82) (v := ?_) _ rfl rfl (by rfl) (by kernel_rfl) (by decide) (by kernel_rfl) (by kernel_rfl) (by kernel_rfl) (fun _ _ _ h => h) (by assumption) (by kernel_rfl) ?_ ?_
    rotate_left
    · (intro w' hSw; (rw [hS0] at hSw); (have hSw' := hSw); (first | (obtain ⟨svA, svB, svD10⟩ := hSw'; obtain ⟨cvA0, cvA1, cvA2, cvA3, cvA4, cvA5, cvA6, cvA7, cvA8⟩ := row9c svA; obtain ⟨cvB0, cvB1, cvB2, cvB3, cvB4, cvB5, cvB6, cvB7, cvB8⟩ := row9c svB; obtain ⟨cvD100, cvD101, cvD102, cvD103⟩ := row4c svD10; go_simp)); try (with_reducible rfl))
    try simp only [ptr, Act.put, List.setIfInBounds_toArray, List.set_cons_zero, List.set_cons_succ]
    refine takeT (i := 9) (d := some 84) (v := ?_) _ rfl rfl (by rfl) (by kernel_rfl) (by decide) (by kernel_rfl) (by kernel_rfl) (by kernel_rfl) (fun _ _ _ h => h) (by assumption) (by kernel_rfl) ?_ ?_
    rotate_left
    · (first | (intro w' hSw; clear hSw; go_simp; try (with_reducible rfl)) | (intro w'; go_simp; try (with_reducible rfl)))
    try simp only [ptr, Act.put, List.setIfInBounds_toArray, List.set_cons_zero, List.set_cons_succ]
    refine takeT (i := 10) (d := some 85) (v := ?_) _ rfl rfl (by rfl) (by kernel_rfl) (by decide) (by kernel_rfl) (by kernel_rfl) (by kernel_rfl) (fun _ _ _ h => h) (by assumption) (by kernel_rfl) ?_ ?_
    rotate_left
    · (intro w' hSw; (rw [hS0] at hSw); (have hSw' := hSw); (first | (obtain ⟨svA, svB, svD10⟩ := hSw'; obtain ⟨cvA0, cvA1, cvA2, cvA3, cvA4, cvA5, cvA6, cvA7, cvA8⟩ := row9c svA; obtain ⟨cvB0, cvB1, cvB2, cvB3, cvB4, cvB5, cvB6, cvB7, cvB8⟩ := row9c svB; obtain ⟨cvD100, cvD101, cvD102, cvD103⟩ := row4c svD10; go_simp)); try (with_reducible rfl))
    try simp only [ptr, Act.put, List.setIfInBounds_toArray, List.set_cons_zero, List.set_cons_succ]
    refine NK1.start (w0 := V8) (x1 := undef) 12 11 (.cells #[.int .u64 0, .int .u64 0, .int .u64 0, .int .u64 0] 24 (0, 0)) (Below.refl _ _).drew (by (simp only [Act.put, List.setIfInBounds_toArray, List.set_cons_zero, List.set_cons_succ])) ⟨⟨_, rfl, fun _ => rfl, fun a1 w1 K hK => by go_simp; exact hK⟩⟩ (fun m1 => ?_)
    refine NK1.step (i := 5) (d := 80) (F := fun vv => vv = .agg #[.int .u64 (w0 (mulm PP sl sl) : Nat), .int .u64 (w1 (mulm PP sl sl) : Nat), .int .u64 (w2 (mulm PP sl sl) : Nat), .int .u64 (w3 (mulm PP sl sl) : Nat)]) m1  hSJ (by decide) (by decide) (by kernel_rfl) (by kernel_rfl) ⟨⟨_, rfl, fun _ => rfl, fun yv1 w1 hJ1 K hK => ?_⟩⟩ ?_
    · try simp only [ptr, Act.put, List.setIfInBounds_toArray, List.set_cons_zero, List.set_cons_succ]
      go_simp
      have fF := fF.keep hJ1
      refine (mulG_any (W4.mk' Gsl.out) (W4.mk' Gsl.out) _ (show IsF _ (g) (PP) from (by first | exact fF | exact fFd | exact ⟨fF.blk, fF.odd, fF.three, fF.lt⟩ | exact ⟨ak fF.blk, fF.odd, fF.three, fF.lt⟩ | exact ⟨ak (ak fF.blk), fF.odd, fF.three, fF.lt⟩))).mono ?_
      rintro e U ⟨rfl, hb⟩
      have h2 := hK.out _ _ rfl hb
      try simp only [ptr, Act.put, List.setIfInBounds_toArray, List.set_cons_zero, List.set_cons_succ] at h2
      exact h2
    rintro vv rfl
    refine NK1.step (i := 8) (d := 83) (F := fun vv => vv = .agg #[.int .u64 (w0 (subf PP (mulm PP sl sl) x) : Nat), .int .u64 (w1 (subf PP (mulm PP sl sl) x) : Nat), .int .u64 (w2 (subf PP (mulm PP sl sl) x) : Nat), .int .u64 (w3 (subf PP (mulm PP sl sl) x) : Nat)]) m1  hSJ (by decide) (by decide) (by kernel_rfl) (by kernel_rfl) ⟨⟨_, rfl, fun _ => rfl, fun yv1 w1 hJ1 K hK => ?_⟩⟩ ?_
    · try simp only [ptr, Act.put, List.setIfInBounds_toArray, List.set_cons_zero, List.set_cons_succ]
      go_simp
      have fF := fF.keep hJ1
      refine (subG_any (W4.mk' M1.out) (W4.mk' hla.out) _ (show IsF _ (g) (PP) from (by first | exact fF | exact fFd | exact ⟨fF.blk, fF.odd, fF.three, fF.lt⟩ | exact ⟨ak fF.blk, fF.odd, fF.three, fF.lt⟩ | exact ⟨ak (ak fF.blk), fF.odd, fF.three, fF.lt⟩))).mono ?_
      rintro e U ⟨rfl, hb⟩
      have h2 := hK.out _ _ rfl hb
      try simp only [ptr, Act.put, List.setIfInBounds_toArray, List.set_cons_zero, List.set_cons_succ] at h2
      exact h2
    rintro vv rfl
    refine NK1.step (i := 11) (d := 86) (F := fun vv => vv = .agg #[.int .u64 (w0 (subf PP (subf PP (mulm PP sl sl) x) u) : Nat), .int .u64 (w1 (subf PP (subf PP (mulm PP sl sl) x) u) : Nat), .int .u64 (w2 (subf PP (subf PP (mulm PP sl sl) x) u) : Nat), .int .u64 (w3 (subf PP (subf PP (mulm PP sl sl) x) u) : Nat)]) m1  hSJ (by decide) (by decide) (by kernel_rfl) (by kernel_rfl) ⟨⟨_, rfl, fun _ => rfl, fun yv1 w1 hJ1 K hK => ?_⟩⟩ ?_
    · try simp only [ptr, Act.put, List.setIfInBounds_toArray, List.set_cons_zero, List.set_cons_succ]
      go_simp
      have fF := fF.keep hJ1
      refine (subG_any (W4.mk' M2.out) (W4.mk' hlc.out) _ (show IsF _ (g) (PP) from (by first | exact fF | exact fFd | exact ⟨fF.blk, fF.odd, fF.three, fF.lt⟩ | exact ⟨ak fF.blk, fF.odd, fF.three, fF.lt⟩ | exact ⟨ak (ak fF.blk), fF.odd, fF.three, fF.lt⟩))).mono ?_
      rintro e U ⟨rfl, hb⟩
      have h2 := hK.out _ _ rfl hb
      try simp only [ptr, Act.put, List.setIfInBounds_toArray, List.set_cons_zero, List.set_cons_succ] at h2
      exact h2
    rintro vv rfl
    refine NK1.last m1  hSJ (by kernel_rfl) (fun V9a bd11 hb o1  => ?_)
    clear m1
    try simp only [ptr, Act.put, List.setIfInBounds_toArray, List.set_cons_zero, List.set_cons_succ]
    have lD11A := Nat.lt_of_lt_of_le (lt_of_heap hA) o1.new
    have lD11B := Nat.lt_of_lt_of_le (lt_of_heap hB) o1.new
    have lD11R := Nat.lt_of_lt_of_le (lt_of_heap hR) o1.new
    have lD11Q := Nat.lt_of_lt_of_le (lt_of_heap hQ) o1.new
    have lD11D6 := Nat.lt_of_lt_of_le (lt_of_heap hD6) o1.new
    have lD11D7 := Nat.lt_of_lt_of_le (lt_of_heap hD7) o1.new
    have lD11D8 := Nat.lt_of_lt_of_le (lt_of_heap hD8) o1.new
    have lD11D10 := Nat.lt_of_lt_of_le (lt_of_heap hD10) o1.new
    have lD11 := Nat.le_trans kk.size o1.new
    replace hA := below_get hb hA
    replace hB := below_get hb hB
    replace hR := below_get hb hR
    replace hQ := below_get hb hQ
    replace hD6 := below_get hb hD6
    replace hD7 := below_get hb hD7
    replace hD8 := below_get hb hD8
    replace hD10 := below_get hb hD10
    have hD11 := o1.here
    replace kk := bcl kk hb
    replace fF := IsF.of HF.out hQ
    clear hb o1
    obtain ⟨cD110, cD111, cD112, cD113⟩ := row4c hD11
    obtain ⟨zD110, zD111, zD112, zD113⟩ := row4z hD11
    refine callT (i := 13) _ rfl (by rfl) (by kernel_rfl) (fun K hK => ?_)
    go_simp
    have P := put4 (.int .u64 (w0 (subf PP (subf PP (mulm PP sl sl) x) u) : Nat)) (.int .u64 (w1 (subf PP (subf PP (mulm PP sl sl) x) u) : Nat)) (.int .u64 (w2 (subf PP (subf PP (mulm PP sl sl) x) u) : Nat)) (.int .u64 (w3 (subf PP (subf PP (mulm PP sl sl) x) u) : Nat)) hD11
    obtain ⟨V9, hW⟩ : ∃ V, (World.setCell (World.setCell (World.setCell (World.setCell V9a ⟨bd11, 0, none⟩ (.int .u64 (w0 (subf PP (subf PP (mulm PP sl sl) x) u) : Nat))) ⟨bd11, 1, none⟩ (.int .u64 (w1 (subf PP (subf PP (mulm PP sl sl) x) u) : Nat))) ⟨bd11, 2, none⟩ (.int .u64 (w2 (subf PP (subf PP (mulm PP sl sl) x) u) : Nat))) ⟨bd11, 3, none⟩ (.int .u64 (w3 (subf PP (subf PP (mulm PP sl sl) x) u) : Nat))) = V := ⟨_, rfl⟩
    rw [hW] at P ⊢
    replace hD11 := P.here
    replace hA := (P.there (w.heap.size) (by omega)).trans (show _ = some (.cells #[.int .u64 (w0 (x) : Nat), .int .u64 (w1 (x) : Nat), .int .u64 (w2 (x) : Nat), .int .u64 (w3 (x) : Nat), .int .u64 (w0 (y) : Nat), .int .u64 (w1 (y) : Nat), .int .u64 (w2 (y) : Nat), .int .u64 (w3 (y) : Nat), .bool false] 52 (0, 0)) from hA)
    replace hB := (P.there (w.heap.size+1) (by omega)).trans (show _ = some (.cells #[.int .u64 (w0 (u) : Nat), .int .u64 (w1 (u) : Nat), .int .u64 (w2 (u) : Nat), .int .u64 (w3 (u) : Nat), .int .u64 (w0 (v) : Nat), .int .u64 (w1 (v) : Nat), .int .u64 (w2 (v) : Nat), .int .u64 (w3 (v) : Nat), .bool false] 52 (0, 0)) from hB)
    replace hR := (P.there (w.heap.size + 2) (by omega)).trans (show _ = some (.cells #[.int .u64 0, .int .u64 0, .int .u64 0, .int .u64 0, .int .u64 0, .int .u64 0, .int .u64 0, .int .u64 0, .bool false] 52 (0, 0)) from hR)
    replace hQ := (P.there (g) (by omega)).trans (show _ = some (.cells #[.int .u64 (w0 (PP) : Nat), .int .u64 (w1 (PP) : Nat), .int .u64 (w2 (PP) : Nat), .int .u64 (w3 (PP) : Nat), .int .u64 (finv1 (PP) : Nat), .int .u64 (w0 (fsq (PP)) : Nat), .int .u64 (w1 (fsq (PP)) : Nat), .int .u64 (w2 (fsq (PP)) : Nat), .int .u64 (w3 (fsq (PP)) : Nat)] 90 (0, 0)) from hQ)
    replace hD6 := (P.there (d6) (by omega)).trans (show _ = some (.cells #[.int .u64 (w0 (up) : Nat), .int .u64 (w1 (up) : Nat), .int .u64 (w2 (up) : Nat), .int .u64 (w3 (up) : Nat)] 24 (0, 0)) from hD6)
    replace hD7 := (P.there (d6+1) (by omega)).trans (show _ = some (.cells #[.int .u64 (w0 (dn) : Nat), .int .u64 (w1 (dn) : Nat), .int .u64 (w2 (dn) : Nat), .int .u64 (w3 (dn) : Nat)] 24 (0, 0)) from hD7)
    replace hD8 := (P.there (d8) (by omega)).trans (show _ = some (.cells #[.int .u64 (w0 (invN dn PP) : Nat), .int .u64 (w1 (invN dn PP) : Nat), .int .u64 (w2 (invN dn PP) : Nat), .int .u64 (w3 (invN dn PP) : Nat)] 24 (0, 0)) from hD8)
    replace hD10 := (P.there (d10) (by omega)).trans (show _ = some (.cells #[.int .u64 (w0 (sl) : Nat), .int .u64 (w1 (sl) : Nat), .int .u64 (w2 (sl) : Nat), .int .u64 (w3 (sl) : Nat)] 24 (0, 0)) from hD10)
    replace kk := P.below (by omega) (show Below w.heap.size w V9a from by first | exact kk | exact kk.drew | exact below_drewN kk _)
    replace fF := IsF.of HF.out hQ
    clear cD110 zD110 cD111 zD111 cD112 zD112 cD113 zD113
    clear P hW
    refine hK.out _ _ (Or.inl (by kernel_rfl)) ?_
    clear hK K
    try simp only [ptr, Act.put, List.setIfInBounds_toArray, List.set_cons_zero, List.set_cons_succ]
    refine doneT (by kernel_rfl) ?_ _
    clear hHeld hSJ hS0 S0
    go_simp
    have E2 := E.out
    obtain ⟨xx, hxx⟩ : ∃ n, subf PP (subf PP (mulm PP sl sl) x) u = n := ⟨_, rfl⟩
    rw [hxx] at hD11
    unfold ty tx at E2
    rw [hxx] at E2
    have Gxx := Lib.hid (show xx < 2 ^ 256 by rw [← hxx]; exact Nat.lt_trans (Nat.mod_lt _ hpos) HM.out)
    replace E := Lib.hid E2
    clear E2 hxx
    go_upto_region 15 with fail
    have M3 := Lib.hid (show subf PP x xx < 2 ^ 256 from Nat.lt_trans (Nat.mod_lt _ hpos) HM.out)
    have M4 := Lib.hid (show mulm PP sl (subf PP x xx) < 2 ^ 256 from Nat.lt_trans (Nat.mod_lt _ hpos) HM.out)
    have fFd : IsF (World.drew V9) (g) (PP) := ⟨fF.blk, fF.odd, fF.three, fF.lt⟩
    try clear cA0 cA1 cA2 cA3 cA4 cA5 cA6 cA7 cA8
    obtain ⟨cA0, cA1, cA2, cA3, cA4, cA5, cA6, cA7, cA8⟩ := row9c hA
    try clear cD100 cD101 cD102 cD103
    obtain ⟨cD100, cD101, cD102, cD103⟩ := row4c hD10
    try clear cD110 cD111 cD112 cD113
    obtain ⟨cD110, cD111, cD112, cD113⟩ := row4c hD11
    have neRA : w.heap.size ≠ w.heap.size + 2 := by omega
    have nfRA := neRA.symm
    have neRD10 : d10 ≠ w.heap.size + 2 := by omega
    have nfRD10 := neRD10.symm
    have neRD11 : bd11 ≠ w.heap.size + 2 := by omega
    have nfRD11 := neRD11.symm
    go_region_held3 (fun w' => w'.cell? ⟨w.heap.size, 0, none⟩ = some (.int .u64 (w0 (x) : Nat)) ∧ w'.cell? ⟨w.heap.size, 1, none⟩ = some (.int .u64 (w1 (x) : Nat)) ∧ w'.cell? ⟨w.heap.size, 2, none⟩ = some (.int .u64 (w2 (x) : Nat)) ∧ w'.cell? ⟨w.heap.size, 3, none⟩ = some (.int .u64 (w3 (x) : Nat)) ∧ w'.cell? ⟨w.heap.size, 4, none⟩ = some (.int .u64 (w0 (y) : Nat)) ∧ w'.cell? ⟨w.heap.size, 5, none⟩ = some (.int .u64 (w1 (y) : Nat)) ∧ w'.cell? ⟨w.heap.size, 6, none⟩ = some (.int .u64 (w2 (y) : Nat)) ∧ w'.cell? ⟨w.heap.size, 7, none⟩ = some (.int .u64 (w3 (y) : Nat)) ∧ w'.cell? ⟨w.heap.size, 8, none⟩ = some (.bool false) ∧ w'.cell? ⟨d10, 0, none⟩ = some (.int .u64 (w0 (sl) : Nat)) ∧ w'.cell? ⟨d10, 1, none⟩ = some (.int .u64 (w1 (sl) : Nat)) ∧ w'.cell? ⟨d10, 2, none⟩ = some (.int .u64 (w2 (sl) : Nat)) ∧ w'.cell? ⟨d10, 3, none⟩ = some (.int .u64 (w3 (sl) : Nat)) ∧ w'.cell? ⟨bd11, 0, none⟩ = some (.int .u64 (w0 (xx) : Nat)) ∧ w'.cell? ⟨bd11, 1, none⟩ = some (.int .u64 (w1 (xx) : Nat)) ∧ w'.cell? ⟨bd11, 2, none⟩ = some (.int .u64 (w2 (xx) : Nat)) ∧ w'.cell? ⟨bd11, 3, none⟩ = some (.int .u64 (w3 (xx) : Nat))) (first | (with_reducible exact ⟨cA0, cA1, cA2, cA3, cA4, cA5, cA6, cA7, cA8, cD100, cD101, cD102, cD103, cD110, cD111, cD112, cD113⟩) | go_keep) (first | (go_at_call 33; with_reducible refine (subG_any (W4.mk' hla.out) (W4.mk' Gxx.out) _ (show IsF _ (g) (PP) from (by first | exact fF | exact fFd | exact ⟨fF.blk, fF.odd, fF.three, fF.lt⟩ | exact ⟨ak fF.blk, fF.odd, fF.three, fF.lt⟩ | exact ⟨ak (ak fF.blk), fF.odd, fF.three, fF.lt⟩))).mono ?_; rintro e W ⟨rfl, hb⟩; (first | replace hA := below_get hb hA | replace hA := below_get hb (ak hA)); (first | replace hB := below_get hb hB | replace hB := below_get hb (ak hB)); (first | replace hR := below_get hb hR | replace hR := below_get hb (ak hR)); (first | replace hQ := below_get hb hQ | replace hQ := below_get hb (ak hQ)); (first | replace hD6 := below_get hb hD6 | replace hD6 := below_get hb (ak hD6)); (first | replace hD7 := below_get hb hD7 | replace hD7 := below_get hb (ak hD7)); (first | replace hD8 := below_get hb hD8 | replace hD8 := below_get hb (ak hD8)); (first | replace hD10 := below_get hb hD10 | replace hD10 := below_get hb (ak hD10)); (first | replace hD11 := below_get hb hD11 | replace hD11 := below_get hb (ak hD11)); (replace kk := bcl (by first | exact kk | exact kk.drew | exact bal kk _ | exact (bal kk _).drew) hb); (replace fF := IsF.of HF.out hQ); (try clear cA0 cA1 cA2 cA3 cA4 cA5 cA6 cA7 cA8); (obtain ⟨cA0, cA1, cA2, cA3, cA4, cA5, cA6, cA7, cA8⟩ := row9c hA); (try clear cD100 cD101 cD102 cD103); (obtain ⟨cD100, cD101, cD102, cD103⟩ := row4c hD10); (try clear cD110 cD111 cD112 cD113); (obtain ⟨cD110, cD111, cD112, cD113⟩ := row4c hD11); (try clear cR0 cR1 cR2 cR3 cR4 cR5 cR6 cR7 cR8); (obtain ⟨cR0, cR1, cR2, cR3, cR4, cR5, cR6, cR7, cR8⟩ := row9c hR); (obtain ⟨zR0, zR1, zR2, zR3, zR4, zR5, zR6, zR7, zR8⟩ := row9z hR); clear hb) | (go_at_call 26; with_reducible refine (mulG_any (W4.mk' Gsl.out) (W4.mk' M3.out) _ (show IsF _ (g) (PP) from (by first | exact fF | exact fFd | exact ⟨fF.blk, fF.odd, fF.three, fF.lt⟩ | exact ⟨ak fF.blk, fF.odd, fF.three, fF.lt⟩ | exact ⟨ak (ak fF.blk), fF.odd, fF.three, fF.lt⟩))).mono ?_; rintro e W ⟨rfl, hb⟩; (first | replace hA := below_get hb hA | replace hA := below_get hb (ak hA)); (first | replace hB := below_get hb hB | replace hB := below_get hb (ak hB)); (first | replace hR := below_get hb hR | replace hR := below_get hb (ak hR)); (first | replace hQ := below_get hb hQ | replace hQ := below_get hb (ak hQ)); (first | replace hD6 := below_get hb hD6 | replace hD6 := below_get hb (ak hD6)); (first | replace hD7 := below_get hb hD7 | replace hD7 := below_get hb (ak hD7)); (first | replace hD8 := below_get hb hD8 | replace hD8 := below_get hb (ak hD8)); (first | replace hD10 := below_get hb hD10 | replace hD10 := below_get hb (ak hD10)); (first | replace hD11 := below_get hb hD11 | replace hD11 := below_get hb (ak hD11)); (replace kk := bcl (by first | exact kk | exact kk.drew | exact bal kk _ | exact (bal kk _).drew) hb); (replace fF := IsF.of HF.out hQ); (try clear cA0 cA1 cA2 cA3 cA4 cA5 cA6 cA7 cA8); (obtain ⟨cA0, cA1, cA2, cA3, cA4, cA5, cA6, cA7, cA8⟩ := row9c hA); (try clear cD100 cD101 cD102 cD103); (obtain ⟨cD100, cD101, cD102, cD103⟩ := row4c hD10); (try clear cD110 cD111 cD112 cD113); (obtain ⟨cD110, cD111, cD112, cD113⟩ := row4c hD11); (try clear cR0 cR1 cR2 cR3 cR4 cR5 cR6 cR7 cR8); (obtain ⟨cR0, cR1, cR2, cR3, cR4, cR5, cR6, cR7, cR8⟩ := row9c hR); (obtain ⟨zR0, zR1, zR2, zR3, zR4, zR5, zR6, zR7, zR8⟩ := row9z hR); clear hb) | (go_at_call 33; with_reducible refine (subG_any (W4.mk' M4.out) (W4.mk' hlb.out) _ (show IsF _ (g) (PP) from (by first | exact fF | exact fFd | exact ⟨fF.blk, fF.odd, fF.three, fF.lt⟩ | exact ⟨ak fF.blk, fF.odd, fF.three, fF.lt⟩ | exact ⟨ak (ak fF.blk), fF.odd, fF.three, fF.lt⟩))).mono ?_; rintro e W ⟨rfl, hb⟩; (first | replace hA := below_get hb hA | replace hA := below_get hb (ak hA)); (first | replace hB := below_get hb hB | replace hB := below_get hb (ak hB)); (first | replace hR := below_get hb hR | replace hR := below_get hb (ak hR)); (first | replace hQ := below_get hb hQ | replace hQ := below_get hb (ak hQ)); (first | replace hD6 := below_get hb hD6 | replace hD6 := below_get hb (ak hD6)); (first | replace hD7 := below_get hb hD7 | replace hD7 := below_get hb (ak hD7)); (first | replace hD8 := below_get hb hD8 | replace hD8 := below_get hb (ak hD8)); (first | replace hD10 := below_get hb hD10 | replace hD10 := below_get hb (ak hD10)); (first | replace hD11 := below_get hb hD11 | replace hD11 := below_get hb (ak hD11)); (replace kk := bcl (by first | exact kk | exact kk.drew | exact bal kk _ | exact (bal kk _).drew) hb); (replace fF := IsF.of HF.out hQ); (try clear cA0 cA1 cA2 cA3 cA4 cA5 cA6 cA7 cA8); (obtain ⟨cA0, cA1, cA2, cA3, cA4, cA5, cA6, cA7, cA8⟩ := row9c hA); (try clear cD100 cD101 cD102 cD103); (obtain ⟨cD100, cD101, cD102, cD103⟩ := row4c hD10); (try clear cD110 cD111 cD112 cD113); (obtain ⟨cD110, cD111, cD112, cD113⟩ := row4c hD11); (try clear cR0 cR1 cR2 cR3 cR4 cR5 cR6 cR7 cR8); (obtain ⟨cR0, cR1, cR2, cR3, cR4, cR5, cR6, cR7, cR8⟩ := row9c hR); (obtain ⟨zR0, zR1, zR2, zR3, zR4, zR5, zR6, zR7, zR8⟩ := row9z hR); clear hb))
    go_simp
    go_wp2_with fail
    have P := put9 (.int .u64 (w0 (xx) : Nat)) (.int .u64 (w1 (xx) : Nat)) (.int .u64 (w2 (xx) : Nat)) (.int .u64 (w3 (xx) : Nat)) (.int .u64 (w0 (subf PP (mulm PP sl (subf PP x xx)) y) : Nat)) (.int .u64 (w1 (subf PP (mulm PP sl (subf PP x xx)) y) : Nat)) (.int .u64 (w2 (subf PP (mulm PP sl (subf PP x xx)) y) : Nat)) (.int .u64 (w3 (subf PP (mulm PP sl (subf PP x xx)) y) : Nat)) (.bool false) hR
    obtain ⟨V9, hV9⟩ : ∃ V, (World.setCell (World.setCell (World.setCell (World.setCell (World.setCell (World.setCell (World.setCell (World.setCell (World.setCell W ⟨w.heap.size + 2, 0, none⟩ (.int .u64 (w0 (xx) : Nat))) ⟨w.heap.size + 2, 1, none⟩ (.int .u64 (w1 (xx) : Nat))) ⟨w.heap.size + 2, 2, none⟩ (.int .u64 (w2 (xx) : Nat))) ⟨w.heap.size + 2, 3, none⟩ (.int .u64 (w3 (xx) : Nat))) ⟨w.heap.size + 2, 4, none⟩ (.int .u64 (w0 (subf PP (mulm PP sl (subf PP x xx)) y) : Nat))) ⟨w.heap.size + 2, 5, none⟩ (.int .u64 (w1 (subf PP (mulm PP sl (subf PP x xx)) y) : Nat))) ⟨w.heap.size + 2, 6, none⟩ (.int .u64 (w2 (subf PP (mulm PP sl (subf PP x xx)) y) : Nat))) ⟨w.heap.size + 2, 7, none⟩ (.int .u64 (w3 (subf PP (mulm PP sl (subf PP x xx)) y) : Nat))) ⟨w.heap.size + 2, 8, none⟩ (.bool false)) = V := ⟨_, rfl⟩
    rw [hV9] at P ⊢
    have P9 : V9.heap[w.heap.size + 2]? = some (.cells #[.int .u64 (w0 (xx) : Nat), .int .u64 (w1 (xx) : Nat), .int .u64 (w2 (xx) : Nat), .int .u64 (w3 (xx) : Nat), .int .u64 (w0 (subf PP (mulm PP sl (subf PP x xx)) y) : Nat), .int .u64 (w1 (subf PP (mulm PP sl (subf PP x xx)) y) : Nat), .int .u64 (w2 (subf PP (mulm PP sl (subf PP x xx)) y) : Nat), .int .u64 (w3 (subf PP (mulm PP sl (subf PP x xx)) y) : Nat), .bool false] 52 (0, 0)) := P.here
    have k9 := P.below (by omega) (show Below w.heap.size w W from by first | exact kk | exact kk.drew | exact below_drewN kk _)
    have v0 : V9.cell? ⟨w.heap.size + 2, 0, none⟩ = some (.int .u64 (w0 (xx) : Nat)) := by rw [cell_of_row _ _ _ _ _ _ P9]; rfl
    have v1 : V9.cell? ⟨w.heap.size + 2, 1, none⟩ = some (.int .u64 (w1 (xx) : Nat)) := by rw [cell_of_row _ _ _ _ _ _ P9]; rfl
    have v2 : V9.cell? ⟨w.heap.size + 2, 2, none⟩ = some (.int .u64 (w2 (xx) : Nat)) := by rw [cell_of_row _ _ _ _ _ _ P9]; rfl
    have v3 : V9.cell? ⟨w.heap.size + 2, 3, none⟩ = some (.int .u64 (w3 (xx) : Nat)) := by rw [cell_of_row _ _ _ _ _ _ P9]; rfl
    have v4 : V9.cell? ⟨w.heap.size + 2, 4, none⟩ = some (.int .u64 (w0 (subf PP (mulm PP sl (subf PP x xx)) y) : Nat)) := by rw [cell_of_row _ _ _ _ _ _ P9]; rfl
    have v5 : V9.cell? ⟨w.heap.size + 2, 5, none⟩ = some (.int .u64 (w1 (subf PP (mulm PP sl (subf PP x xx)) y) : Nat)) := by rw [cell_of_row _ _ _ _ _ _ P9]; rfl
    have v6 : V9.cell? ⟨w.heap.size + 2, 6, none⟩ = some (.int .u64 (w2 (subf PP (mulm PP sl (subf PP x xx)) y) : Nat)) := by rw [cell_of_row _ _ _ _ _ _ P9]; rfl
    have v7 : V9.cell? ⟨w.heap.size + 2, 7, none⟩ = some (.int .u64 (w3 (subf PP (mulm PP sl (subf PP x xx)) y) : Nat)) := by rw [cell_of_row _ _ _ _ _ _ P9]; rfl
    have v8 : V9.cell? ⟨w.heap.size + 2, 8, none⟩ = some (.bool false) := by rw [cell_of_row _ _ _ _ _ _ P9]; rfl
    refine bodyPost_ret (v := _) (by simp [results, Try.results39, go_sem, v0, v1, v2, v3, v4, v5, v6, v7, v8]; rfl) rfl ?_
    obtain ⟨e1, e2, e3⟩ := E.out
    rw [e1, e2, e3]
    exact ⟨rfl, k9⟩
end Go.Proofs.Ytgghopmlcpcpkaa
namespace Go.Proofs.Ytgghopmlcpcpkaa
open Go.RowKit PlainK
set_option linter.unusedVariables false
set_option linter.unusedSimpArgs false
theorem eqlZ {a : Pt PP} {x y : Nat} {n : Bool} (h : PtN a x y n) (r : Bool) (e : decide (a = .o) = r) (w : World) :
  (binOp .eql 52 (.agg #[.int .u64 (w0 (x) : Nat), .int .u64 (w1 (x) : Nat), .int .u64 (w2 (x) : Nat), .int .u64 (w3 (x) : Nat), .int .u64 (w0 (y) : Nat), .int .u64 (w1 (y) : Nat), .int .u64 (w2 (y) : Nat), .int .u64 (w3 (y) : Nat), .bool n]) (.agg #[.int .u64 0, .int .u64 0, .int .u64 0, .int .u64 0, .int .u64 0, .int .u64 0, .int .u64 0, .int .u64 0, .bool true])).run Try.prog w = .ok (.bool r) w :=
  eql_np n true r h.wx h.wy W4.zero W4.zero ((h.dec PtN.zero).trans e) w
set_option maxRecDepth 10000 in
set_option maxHeartbeats 16000000 in
theorem adds_any {a0 a1 a2 a3 b0 b1 b2 b3 s0 : Int} {x y : Nat} (ha : W4 a0 a1 a2 a3 x) (hb : W4 b0 b1 b2 b3 y) (o1 o2 : Bool) (hs : (Lit.int .u8 s0).wf = true) (w : World) :
   Calls Try.prog 11 #[.agg #[.int .u64 a0, .int .u64 a1, .int .u64 a2, .int .u64 a3], .agg #[.int .u64 b0, .int .u64 b1, .int .u64 b2, .int .u64 b3], .bool o1, .bool o2, .int .u8 s0] w fun e w' => e = .returned (.bool true) ∧ Below w.heap.size w w' := by
  obtain ⟨rfl, rfl, rfl, rfl, la⟩ := ha
  obtain ⟨rfl, rfl, rfl, rfl, lb⟩ := hb
  have hla := Lib.hid la
  have hlb := Lib.hid lb
  clear la lb
  have hs1 : 0 ≤ s0 ∧ s0 ≤ 255 := by
    simp [Lit.wf, IntKind.min, IntKind.max, IntKind.signed, IntKind.bits] at hs
    omega
  obtain ⟨s, rfl⟩ : ∃ s : Nat, s0 = s := ⟨s0.toNat, by omega⟩
  obtain ⟨c, hc⟩ : ∃ c, s % 4 = c := ⟨_, rfl⟩
  have t2 : (s : Int) % 4 = (c : Int) := by omega
  have t3 : (s : Int).tmod 4 = (c : Int) := by rw [Int.tmod_eq_emod_of_nonneg (by omega)]; omega
  have t1 : IntKind.u8.wrap (c : Int) = (c : Int) := IntWalk.u8_in _ (by omega)
  clear hs hs1 hc
  go_enter Try.func11, Try.ntmps11
  go_upto_region 1 with fail
  obtain ⟨V0, hW⟩ : ∃ V, (w.alloc (.cells #[.int .u64 (w0 (x) : Nat), .int .u64 (w1 (x) : Nat), .int .u64 (w2 (x) : Nat), .int .u64 (w3 (x) : Nat)] 24)).alloc (.cells #[.int .u64 (w0 (y) : Nat), .int .u64 (w1 (y) : Nat), .int .u64 (w2 (y) : Nat), .int .u64 (w3 (y) : Nat)] 24) = V := ⟨_, rfl⟩
  rw [hW]
  have hA : V0.heap[w.heap.size]? = some (.cells #[.int .u64 (w0 (x) : Nat), .int .u64 (w1 (x) : Nat), .int .u64 (w2 (x) : Nat), .int .u64 (w3 (x) : Nat)] 24 (0, 0)) := by
    rw [← hW]; simp only [alloc_at, World.size_alloc]; repeat (first | rw [if_pos trivial] | rw [if_pos (by omega)] | rw [if_neg (by omega)])
  have hB : V0.heap[w.heap.size + 1]? = some (.cells #[.int .u64 (w0 (y) : Nat), .int .u64 (w1 (y) : Nat), .int .u64 (w2 (y) : Nat), .int .u64 (w3 (y) : Nat)] 24 (0, 0)) := by
    rw [← hW]; simp only [alloc_at, World.size_alloc]; repeat (first | rw [if_pos trivial] | rw [if_pos (by omega)] | rw [if_neg (by omega)])
  have kk : Below w.heap.size w V0 := by
    rw [← hW]
    repeat (first | exact Below.refl _ _ | refine Below.drew ?_ | refine bal ?_ _)
  clear hW
  go_wp2_with fail
  refine (livesC_any _).mono ?_
  rintro e V1 ⟨rfl, hb⟩
  replace hA := below_get hb hA
  replace hB := below_get hb hB
  replace kk := bcl (by first | exact kk | exact kk.drew | exact below_drewN kk _) hb
  clear hb
  go_upto_region 3 with fail
  obtain ⟨S0, hS0⟩ : ∃ S : World → Prop, S = (fun w' => w'.heap[w.heap.size]? = some (.cells #[.int .u64 (w0 (x) : Nat), .int .u64 (w1 (x) : Nat), .int .u64 (w2 (x) : Nat), .int .u64 (w3 (x) : Nat)] 24 (0, 0)) ∧ w'.heap[w.heap.size + 1]? = some (.cells #[.int .u64 (w0 (y) : Nat), .int .u64 (w1 (y) : Nat), .int .u64 (w2 (y) : Nat), .int .u64 (w3 (y) : Nat)] 24 (0, 0))) := ⟨_, rfl⟩
  have hSJ : ∀ w', Below V1.heap.size V1 w' → S0 w' := by intro w' hb; rw [hS0]; exact ⟨below_get hb hA, below_get hb hB⟩
  refine startT (S := S0) 9 (by kernel_rfl) (by rw [hS0]; exact ⟨hA, hB⟩) (fun hHeld => ?_)
  refine takeT (i := 0) (d := some 16) (v := ?_) _ rfl rfl (by rfl) (by kernel_rfl) (by decide) (by kernel_rfl) (by kernel_rfl) (by kernel_rfl) (fun _ _ _ h => h) (by assumption) (by kernel_rfl) ?_ ?_
  rotate_left
  · (intro w' hSw; (rw [hS0] at hSw); (have hSw' := hSw); (first | (obtain ⟨svA, svB⟩ := hSw'; obtain ⟨cvA0, cvA1, cvA2, cvA3⟩ := row4c svA; obtain ⟨cvB0, cvB1, cvB2, cvB3⟩ := row4c svB; go_simp)); try (with_reducible rfl))
  try simp only [ptr, Act.put, List.setIfInBounds_toArray, List.set_cons_zero, List.set_cons_succ]
  refine takeT (i := 1) (d := some 17) (v := ?_) _ rfl rfl (by rfl) (by kernel_rfl) (by decide) (by kernel_rfl) (by kernel_rfl) (by kernel_rfl) (fun _ _ _ h => h) (by assumption) (by kernel_rfl) ?_ ?_
  rotate_left
  · (first | (intro w' hSw; clear hSw; go_simp; try (with_reducible rfl)) | (intro w'; go_simp; try (with_reducible rfl)))
  try simp only [ptr, Act.put, List.setIfInBounds_toArray, List.set_cons_zero, List.set_cons_succ]
  refine takeT (i := 3) (d := some 19) (v := ?_) _ rfl rfl (by rfl) (by kernel_rfl) (by decide) (by kernel_rfl) (by kernel_rfl) (by kernel_rfl) (fun _ _ _ h => h) (by assumption) (by kernel_rfl) ?_ ?_
  rotate_left
  · (intro w' hSw; (rw [hS0] at hSw); (have hSw' := hSw); (first | (obtain ⟨svA, svB⟩ := hSw'; obtain ⟨cvA0, cvA1, cvA2, cvA3⟩ := row4c svA; obtain ⟨cvB0, cvB1, cvB2, cvB3⟩ := row4c svB; go_simp)); try (with_reducible rfl))
  try simp only [ptr, Act.put, List.setIfInBounds_toArray, List.set_cons_zero, List.set_cons_succ]
  refine takeT (i := 4) (d := some 20) (v := ?_) _ rfl rfl (by rfl) (by kernel_rfl) (by decide) (by kernel_rfl) (by kernel_rfl) (by kernel_rfl) (fun _ _ _ h => h) (by assumption) (by kernel_rfl) ?_ ?_
  rotate_left
  · (first | (intro w' hSw; clear hSw; go_simp; try (with_reducible rfl)) | (intro w'; go_simp; try (with_reducible rfl)))
  try simp only [ptr, Act.put, List.setIfInBounds_toArray, List.set_cons_zero, List.set_cons_succ]
  refine NK2.start (w0 := V1) (x1 := undef) (x2 := undef) 6 7 11 12 (.cells #[.int .u64 0, .int .u64 0, .int .u64 0, .int .u64 0, .int .u64 0, .int .u64 0, .int .u64 0, .int .u64 0, .bool false] 52 (0, 0)) (.cells #[.int .u64 0, .int .u64 0, .int .u64 0, .int .u64 0, .int .u64 0, .int .u64 0, .int .u64 0, .int .u64 0, .bool false] 52 (0, 0)) (Below.refl _ _).drew (by (simp only [Act.put, List.setIfInBounds_toArray, List.set_cons_zero, List.set_cons_succ])) ⟨⟨_, rfl, fun _ => rfl, fun a1 w1 K hK => by go_simp; exact hK⟩⟩ ⟨⟨_, rfl, fun _ => rfl, fun a1 w1 K hK => by go_simp; exact hK⟩⟩ (fun m1 m2 => ?_)
  refine NK2.step (i := 2) (d := 18) (F := fun vv => ∃ (p : Pt PP) (x y : Nat) (b : Bool), PtN p x y b ∧ vv = .agg #[.int .u64 (w0 (x) : Nat), .int .u64 (w1 (x) : Nat), .int .u64 (w2 (x) : Nat), .int .u64 (w3 (x) : Nat), .int .u64 (w0 (y) : Nat), .int .u64 (w1 (y) : Nat), .int .u64 (w2 (y) : Nat), .int .u64 (w3 (y) : Nat), .bool b]) m1 m2 (by decide) (by decide) hSJ (by decide) (by decide) (by decide) (by decide) (by kernel_rfl) (by kernel_rfl) (by kernel_rfl) (by kernel_rfl) ⟨⟨_, rfl, fun _ => rfl, fun yv1 yv2 w1 hJ1 K hK => ?_⟩⟩ ?_
  · try simp only [ptr, Act.put, List.setIfInBounds_toArray, List.set_cons_zero, List.set_cons_succ]
    go_simp
    refine (someQ_any o1 (W4.mk' hla.out) _).mono ?_
    rintro e U ⟨p, x, y, b, hP, rfl, hb⟩
    have h2 := hK.out _ _ ⟨p, x, y, b, hP, rfl⟩ hb
    try simp only [ptr, Act.put, List.setIfInBounds_toArray, List.set_cons_zero, List.set_cons_succ] at h2
    exact h2
  rintro vv ⟨p, xp, yp, bp, hp, rfl⟩
  refine NK2.step (i := 5) (d := 21) (F := fun vv => ∃ (p : Pt PP) (x y : Nat) (b : Bool), PtN p x y b ∧ vv = .agg #[.int .u64 (w0 (x) : Nat), .int .u64 (w1 (x) : Nat), .int .u64 (w2 (x) : Nat), .int .u64 (w3 (x) : Nat), .int .u64 (w0 (y) : Nat), .int .u64 (w1 (y) : Nat), .int .u64 (w2 (y) : Nat), .int .u64 (w3 (y) : Nat), .bool b]) m1 m2 (by decide) (by decide) hSJ (by decide) (by decide) (by decide) (by decide) (by kernel_rfl) (by kernel_rfl) (by kernel_rfl) (by kernel_rfl) ⟨⟨_, rfl, fun _ => rfl, fun yv1 yv2 w1 hJ1 K hK => ?_⟩⟩ ?_
  · try simp only [ptr, Act.put, List.setIfInBounds_toArray, List.set_cons_zero, List.set_cons_succ]
    go_simp
    refine (someQ_any o2 (W4.mk' hlb.out) _).mono ?_
    rintro e U ⟨p, x, y, b, hP, rfl, hb⟩
    have h2 := hK.out _ _ ⟨p, x, y, b, hP, rfl⟩ hb
    try simp only [ptr, Act.put, List.setIfInBounds_toArray, List.set_cons_zero, List.set_cons_succ] at h2
    exact h2
  rintro vv ⟨q, xq, yq, bq, hq, rfl⟩
  refine NK2.last m1 m2 (by decide) (by decide) hSJ (by kernel_rfl) (by kernel_rfl) (by kernel_rfl) (fun C1a bd11 bd12 hb o1 o2 n12 => ?_)
  clear m1 m2
  try simp only [ptr, Act.put, List.setIfInBounds_toArray, List.set_cons_zero, List.set_cons_succ]
  have lD11A := Nat.lt_of_lt_of_le (lt_of_heap hA) o1.new
  have lD11B := Nat.lt_of_lt_of_le (lt_of_heap hB) o1.new
  have lD11 := Nat.le_trans kk.size o1.new
  have lD12A := Nat.lt_of_lt_of_le (lt_of_heap hA) o2.new
  have lD12B := Nat.lt_of_lt_of_le (lt_of_heap hB) o2.new
  have lD12 := Nat.le_trans kk.size o2.new
  replace hA := below_get hb hA
  replace hB := below_get hb hB
  have hD11 := o1.here
  have hD12 := o2.here
  replace kk := bcl kk hb
  clear hb o1 o2
  obtain ⟨cD110, cD111, cD112, cD113, cD114, cD115, cD116, cD117, cD118⟩ := row9c hD11
  obtain ⟨zD110, zD111, zD112, zD113, zD114, zD115, zD116, zD117, zD118⟩ := row9z hD11
  refine callT (i := 8) _ rfl (by rfl) (by kernel_rfl) (fun K hK => ?_)
  go_simp
  have P := put9 (.int .u64 (w0 (xp) : Nat)) (.int .u64 (w1 (xp) : Nat)) (.int .u64 (w2 (xp) : Nat)) (.int .u64 (w3 (xp) : Nat)) (.int .u64 (w0 (yp) : Nat)) (.int .u64 (w1 (yp) : Nat)) (.int .u64 (w2 (yp) : Nat)) (.int .u64 (w3 (yp) : Nat)) (.bool bp) hD11
  obtain ⟨C1b, hW⟩ : ∃ V, (World.setCell (World.setCell (World.setCell (World.setCell (World.setCell (World.setCell (World.setCell (World.setCell (World.setCell C1a ⟨bd11, 0, none⟩ (.int .u64 (w0 (xp) : Nat))) ⟨bd11, 1, none⟩ (.int .u64 (w1 (xp) : Nat))) ⟨bd11, 2, none⟩ (.int .u64 (w2 (xp) : Nat))) ⟨bd11, 3, none⟩ (.int .u64 (w3 (xp) : Nat))) ⟨bd11, 4, none⟩ (.int .u64 (w0 (yp) : Nat))) ⟨bd11, 5, none⟩ (.int .u64 (w1 (yp) : Nat))) ⟨bd11, 6, none⟩ (.int .u64 (w2 (yp) : Nat))) ⟨bd11, 7, none⟩ (.int .u64 (w3 (yp) : Nat))) ⟨bd11, 8, none⟩ (.bool bp)) = V := ⟨_, rfl⟩
  rw [hW] at P ⊢
  replace hD11 := P.here
  replace hA := (P.there (w.heap.size) (by omega)).trans (show _ = some (.cells #[.int .u64 (w0 (x) : Nat), .int .u64 (w1 (x) : Nat), .int .u64 (w2 (x) : Nat), .int .u64 (w3 (x) : Nat)] 24 (0, 0)) from hA)
  replace hB := (P.there (w.heap.size + 1) (by omega)).trans (show _ = some (.cells #[.int .u64 (w0 (y) : Nat), .int .u64 (w1 (y) : Nat), .int .u64 (w2 (y) : Nat), .int .u64 (w3 (y) : Nat)] 24 (0, 0)) from hB)
  replace hD12 := (P.there (bd12) (by omega)).trans (show _ = some (.cells #[.int .u64 0, .int .u64 0, .int .u64 0, .int .u64 0, .int .u64 0, .int .u64 0, .int .u64 0, .int .u64 0, .bool false] 52 (0, 0)) from hD12)
  replace kk := P.below (by omega) (show Below w.heap.size w C1a from by first | exact kk | exact kk.drew | exact below_drewN kk _)
  clear cD110 zD110 cD111 zD111 cD112 zD112 cD113 zD113 cD114 zD114 cD115 zD115 cD116 zD116 cD117 zD117 cD118 zD118
  clear P hW
  refine hK.out _ _ (Or.inr (by rw [hS0]; exact ⟨hA, hB⟩)) ?_
  clear hK K
  try simp only [ptr, Act.put, List.setIfInBounds_toArray, List.set_cons_zero, List.set_cons_succ]
  obtain ⟨cD120, cD121, cD122, cD123, cD124, cD125, cD126, cD127, cD128⟩ := row9c hD12
  obtain ⟨zD120, zD121, zD122, zD123, zD124, zD125, zD126, zD127, zD128⟩ := row9z hD12
  refine callT (i := 9) _ rfl (by rfl) (by kernel_rfl) (fun K hK => ?_)
  go_simp
  have P := put9 (.int .u64 (w0 (xq) : Nat)) (.int .u64 (w1 (xq) : Nat)) (.int .u64 (w2 (xq) : Nat)) (.int .u64 (w3 (xq) : Nat)) (.int .u64 (w0 (yq) : Nat)) (.int .u64 (w1 (yq) : Nat)) (.int .u64 (w2 (yq) : Nat)) (.int .u64 (w3 (yq) : Nat)) (.bool bq) hD12
  obtain ⟨C1, hW⟩ : ∃ V, (World.setCell (World.setCell (World.setCell (World.setCell (World.setCell (World.setCell (World.setCell (World.setCell (World.setCell C1b ⟨bd12, 0, none⟩ (.int .u64 (w0 (xq) : Nat))) ⟨bd12, 1, none⟩ (.int .u64 (w1 (xq) : Nat))) ⟨bd12, 2, none⟩ (.int .u64 (w2 (xq) : Nat))) ⟨bd12, 3, none⟩ (.int .u64 (w3 (xq) : Nat))) ⟨bd12, 4, none⟩ (.int .u64 (w0 (yq) : Nat))) ⟨bd12, 5, none⟩ (.int .u64 (w1 (yq) : Nat))) ⟨bd12, 6, none⟩ (.int .u64 (w2 (yq) : Nat))) ⟨bd12, 7, none⟩ (.int .u64 (w3 (yq) : Nat))) ⟨bd12, 8, none⟩ (.bool bq)) = V := ⟨_, rfl⟩
  rw [hW] at P ⊢
  replace hD12 := P.here
  replace hA := (P.there (w.heap.size) (by omega)).trans (show _ = some (.cells #[.int .u64 (w0 (x) : Nat), .int .u64 (w1 (x) : Nat), .int .u64 (w2 (x) : Nat), .int .u64 (w3 (x) : Nat)] 24 (0, 0)) from hA)
  replace hB := (P.there (w.heap.size + 1) (by omega)).trans (show _ = some (.cells #[.int .u64 (w0 (y) : Nat), .int .u64 (w1 (y) : Nat), .int .u64 (w2 (y) : Nat), .int .u64 (w3 (y) : Nat)] 24 (0, 0)) from hB)
  replace hD11 := (P.there (bd11) (by omega)).trans (show _ = some (.cells #[.int .u64 (w0 (xp) : Nat), .int .u64 (w1 (xp) : Nat), .int .u64 (w2 (xp) : Nat), .int .u64 (w3 (xp) : Nat), .int .u64 (w0 (yp) : Nat), .int .u64 (w1 (yp) : Nat), .int .u64 (w2 (yp) : Nat), .int .u64 (w3 (yp) : Nat), .bool bp] 52 (0, 0)) from hD11)
  replace kk := P.below (by omega) (show Below w.heap.size w C1b from by first | exact kk | exact kk.drew | exact below_drewN kk _)
  clear cD120 zD120 cD121 zD121 cD122 zD122 cD123 zD123 cD124 zD124 cD125 zD125 cD126 zD126 cD127 zD127 cD128 zD128
  clear P hW
  refine hK.out _ _ (Or.inl (by kernel_rfl)) ?_
  clear hK K
  try simp only [ptr, Act.put, List.setIfInBounds_toArray, List.set_cons_zero, List.set_cons_succ]
  refine doneT (by kernel_rfl) ?_ _
  clear hHeld hSJ hS0 S0
  go_simp
  go_upto_block 0 with fail
  go_cut [] (fun wx => ∃ (r : Pt PP) (xr yr : Nat) (br : Bool), PtN r xr yr br ∧ wx.heap[bd11]? = some (.cells #[.int .u64 (w0 (xp) : Nat), .int .u64 (w1 (xp) : Nat), .int .u64 (w2 (xp) : Nat), .int .u64 (w3 (xp) : Nat), .int .u64 (w0 (yp) : Nat), .int .u64 (w1 (yp) : Nat), .int .u64 (w2 (yp) : Nat), .int .u64 (w3 (yp) : Nat), .bool bp] 52 (0, 0)) ∧ wx.heap[bd12]? = some (.cells #[.int .u64 (w0 (xr) : Nat), .int .u64 (w1 (xr) : Nat), .int .u64 (w2 (xr) : Nat), .int .u64 (w3 (xr) : Nat), .int .u64 (w0 (yr) : Nat), .int .u64 (w1 (yr) : Nat), .int .u64 (w2 (yr) : Nat), .int .u64 (w3 (yr) : Nat), .bool br] 52 (0, 0)) ∧ Below w.heap.size w wx)
  case first =>
    by_cases c1 : c = 1
    · subst c1
      obtain ⟨cD110, cD111, cD112, cD113, cD114, cD115, cD116, cD117, cD118⟩ := row9c hD11
      obtain ⟨zD110, zD111, zD112, zD113, zD114, zD115, zD116, zD117, zD118⟩ := row9z hD11
      obtain ⟨cD120, cD121, cD122, cD123, cD124, cD125, cD126, cD127, cD128⟩ := row9c hD12
      obtain ⟨zD120, zD121, zD122, zD123, zD124, zD125, zD126, zD127, zD128⟩ := row9z hD12
      go_wp2_with fail
      have P := put9 (.int .u64 (w0 (xp) : Nat)) (.int .u64 (w1 (xp) : Nat)) (.int .u64 (w2 (xp) : Nat)) (.int .u64 (w3 (xp) : Nat)) (.int .u64 (w0 (yp) : Nat)) (.int .u64 (w1 (yp) : Nat)) (.int .u64 (w2 (yp) : Nat)) (.int .u64 (w3 (yp) : Nat)) (.bool bp) hD12
      obtain ⟨V9, hW⟩ : ∃ V, (World.setCell (World.setCell (World.setCell (World.setCell (World.setCell (World.setCell (World.setCell (World.setCell (World.setCell C1 ⟨bd12, 0, none⟩ (.int .u64 (w0 (xp) : Nat))) ⟨bd12, 1, none⟩ (.int .u64 (w1 (xp) : Nat))) ⟨bd12, 2, none⟩ (.int .u64 (w2 (xp) : Nat))) ⟨bd12, 3, none⟩ (.int .u64 (w3 (xp) : Nat))) ⟨bd12, 4, none⟩ (.int .u64 (w0 (yp) : Nat))) ⟨bd12, 5, none⟩ (.int .u64 (w1 (yp) : Nat))) ⟨bd12, 6, none⟩ (.int .u64 (w2 (yp) : Nat))) ⟨bd12, 7, none⟩ (.int .u64 (w3 (yp) : Nat))) ⟨bd12, 8, none⟩ (.bool bp)) = V := ⟨_, rfl⟩
      rw [hW] at P ⊢
      replace hD12 := P.here
      replace hA := (P.there (w.heap.size) (by omega)).trans (show _ = some (.cells #[.int .u64 (w0 (x) : Nat), .int .u64 (w1 (x) : Nat), .int .u64 (w2 (x) : Nat), .int .u64 (w3 (x) : Nat)] 24 (0, 0)) from hA)
      replace hB := (P.there (w.heap.size + 1) (by omega)).trans (show _ = some (.cells #[.int .u64 (w0 (y) : Nat), .int .u64 (w1 (y) : Nat), .int .u64 (w2 (y) : Nat), .int .u64 (w3 (y) : Nat)] 24 (0, 0)) from hB)
      replace hD11 := (P.there (bd11) (by omega)).trans (show _ = some (.cells #[.int .u64 (w0 (xp) : Nat), .int .u64 (w1 (xp) : Nat), .int .u64 (w2 (xp) : Nat), .int .u64 (w3 (xp) : Nat), .int .u64 (w0 (yp) : Nat), .int .u64 (w1 (yp) : Nat), .int .u64 (w2 (yp) : Nat), .int .u64 (w3 (yp) : Nat), .bool bp] 52 (0, 0)) from hD11)
      replace kk := P.below (by omega) (show Below w.heap.size w C1 from by first | exact kk | exact kk.drew | exact below_drewN kk _)
      clear cD110 zD110 cD111 zD111 cD112 zD112 cD113 zD113 cD114 zD114 cD115 zD115 cD116 zD116 cD117 zD117 cD118 zD118 cD120 zD120 cD121 zD121 cD122 zD122 cD123 zD123 cD124 zD124 cD125 zD125 cD126 zD126 cD127 zD127 cD128 zD128
      clear P hW
      go_meet
      exact ⟨p, xp, yp, bp, hp, hD11, hD12, kk⟩
    · by_cases c2 : c = 2
      · subst c2
        obtain ⟨s3, t3', k3, h3⟩ := PtN.ex (pneg_on hp.on)
        obtain ⟨cD110, cD111, cD112, cD113, cD114, cD115, cD116, cD117, cD118⟩ := row9c hD11
        obtain ⟨zD110, zD111, zD112, zD113, zD114, zD115, zD116, zD117, zD118⟩ := row9z hD11
        go_wp2_with fail
        refine (negQ_any hp h3 _).mono ?_
        rintro e V8 ⟨rfl, hb⟩
        replace hA := below_get hb hA
        replace hB := below_get hb hB
        replace hD11 := below_get hb hD11
        replace hD12 := below_get hb hD12
        replace kk := bcl (by first | exact kk | exact kk.drew | exact below_drewN kk _) hb
        clear cD110 zD110 cD111 zD111 cD112 zD112 cD113 zD113 cD114 zD114 cD115 zD115 cD116 zD116 cD117 zD117 cD118 zD118
        clear hb
        obtain ⟨cD120, cD121, cD122, cD123, cD124, cD125, cD126, cD127, cD128⟩ := row9c hD12
        obtain ⟨zD120, zD121, zD122, zD123, zD124, zD125, zD126, zD127, zD128⟩ := row9z hD12
        go_wp2_with fail
        have P := put9 (.int .u64 (w0 (s3) : Nat)) (.int .u64 (w1 (s3) : Nat)) (.int .u64 (w2 (s3) : Nat)) (.int .u64 (w3 (s3) : Nat)) (.int .u64 (w0 (t3') : Nat)) (.int .u64 (w1 (t3') : Nat)) (.int .u64 (w2 (t3') : Nat)) (.int .u64 (w3 (t3') : Nat)) (.bool k3) hD12
        obtain ⟨V9, hW⟩ : ∃ V, (World.setCell (World.setCell (World.setCell (World.setCell (World.setCell (World.setCell (World.setCell (World.setCell (World.setCell V8 ⟨bd12, 0, none⟩ (.int .u64 (w0 (s3) : Nat))) ⟨bd12, 1, none⟩ (.int .u64 (w1 (s3) : Nat))) ⟨bd12, 2, none⟩ (.int .u64 (w2 (s3) : Nat))) ⟨bd12, 3, none⟩ (.int .u64 (w3 (s3) : Nat))) ⟨bd12, 4, none⟩ (.int .u64 (w0 (t3') : Nat))) ⟨bd12, 5, none⟩ (.int .u64 (w1 (t3') : Nat))) ⟨bd12, 6, none⟩ (.int .u64 (w2 (t3') : Nat))) ⟨bd12, 7, none⟩ (.int .u64 (w3 (t3') : Nat))) ⟨bd12, 8, none⟩ (.bool k3)) = V := ⟨_, rfl⟩
        rw [hW] at P ⊢
        replace hD12 := P.here
        replace hA := (P.there (w.heap.size) (by omega)).trans (show _ = some (.cells #[.int .u64 (w0 (x) : Nat), .int .u64 (w1 (x) : Nat), .int .u64 (w2 (x) : Nat), .int .u64 (w3 (x) : Nat)] 24 (0, 0)) from hA)
        replace hB := (P.there (w.heap.size + 1) (by omega)).trans (show _ = some (.cells #[.int .u64 (w0 (y) : Nat), .int .u64 (w1 (y) : Nat), .int .u64 (w2 (y) : Nat), .int .u64 (w3 (y) : Nat)] 24 (0, 0)) from hB)
        replace hD11 := (P.there (bd11) (by omega)).trans (show _ = some (.cells #[.int .u64 (w0 (xp) : Nat), .int .u64 (w1 (xp) : Nat), .int .u64 (w2 (xp) : Nat), .int .u64 (w3 (xp) : Nat), .int .u64 (w0 (yp) : Nat), .int .u64 (w1 (yp) : Nat), .int .u64 (w2 (yp) : Nat), .int .u64 (w3 (yp) : Nat), .bool bp] 52 (0, 0)) from hD11)
        replace kk := P.below (by omega) (show Below w.heap.size w V8 from by first | exact kk | exact kk.drew | exact below_drewN kk _)
        clear cD120 zD120 cD121 zD121 cD122 zD122 cD123 zD123 cD124 zD124 cD125 zD125 cD126 zD126 cD127 zD127 cD128 zD128
        clear P hW
        go_meet
        exact ⟨_, s3, t3', k3, h3, hD11, hD12, kk⟩
      · have e1 : ¬ (c : Int) = 1 := by omega
        have e2 : ¬ (c : Int) = 2 := by omega
        clear c1 c2
        go_wp2_with fail
        go_meet
        exact ⟨q, xq, yq, bq, hq, hD11, hD12, kk⟩
  case rest =>
    clear hq hD11 hD12 kk hA hB t1 t2 t3
    obtain ⟨r, xr, yr, br, hr, hD11, hD12, kk⟩ := hcut
    obtain ⟨s1, t1, k1, h1⟩ := PtN.ex (padd_on good hp.on hr.on)
    obtain ⟨s2, t2, k2, h2⟩ := PtN.ex (padd_on good hr.on hp.on)
    obtain ⟨s3, t3, k3, h3⟩ := PtN.ex (pneg_on hp.on)
    obtain ⟨s4, t4, k4, h4⟩ := PtN.ex (padd_on good hp.on h3.on)
    obtain ⟨s5, t5, k5, h5⟩ := PtN.ex (pneg_on h3.on)
    have q1 := eqlQ h1 h1 true (decide_eq_true rfl)
    have q2 := eqlQ h1 h2 true (decide_eq_true (padd_comm good hp.on hr.on))
    have q3 := eqlZ h4 true (decide_eq_true (padd_neg good hp.on))
    have q4 := eqlQ h5 hp true (decide_eq_true (pneg_pneg p))
    obtain ⟨cD110, cD111, cD112, cD113, cD114, cD115, cD116, cD117, cD118⟩ := row9c hD11
    obtain ⟨zD110, zD111, zD112, zD113, zD114, zD115, zD116, zD117, zD118⟩ := row9z hD11
    obtain ⟨cD120, cD121, cD122, cD123, cD124, cD125, cD126, cD127, cD128⟩ := row9c hD12
    obtain ⟨zD120, zD121, zD122, zD123, zD124, zD125, zD126, zD127, zD128⟩ := row9z hD12
    go_wp2_with fail
    refine (addQ_any hp hr h1 _).mono ?_
    rintro e V5 ⟨rfl, hb⟩
    replace hD11 := below_get hb hD11
    replace hD12 := below_get hb hD12
    replace kk := bcl (by first | exact kk | exact kk.drew | exact below_drewN kk _) hb
    clear cD110 zD110 cD111 zD111 cD112 zD112 cD113 zD113 cD114 zD114 cD115 zD115 cD116 zD116 cD117 zD117 cD118 zD118 cD120 zD120 cD121 zD121 cD122 zD122 cD123 zD123 cD124 zD124 cD125 zD125 cD126 zD126 cD127 zD127 cD128 zD128
    clear hb
    go_upto_region 10 with fail
    obtain ⟨V6, hW⟩ : ∃ V, V5.alloc (.cells #[.int .u64 (w0 (s1) : Nat), .int .u64 (w1 (s1) : Nat), .int .u64 (w2 (s1) : Nat), .int .u64 (w3 (s1) : Nat), .int .u64 (w0 (t1) : Nat), .int .u64 (w1 (t1) : Nat), .int .u64 (w2 (t1) : Nat), .int .u64 (w3 (t1) : Nat), .bool k1] 52 (0, 0)) = V := ⟨_, rfl⟩
    rw [hW]
    obtain ⟨d13, hbx⟩ : ∃ n, V5.heap.size = n := ⟨_, rfl⟩
    rw [hbx]
    have hNEW : V6.heap[d13]? = some (.cells #[.int .u64 (w0 (s1) : Nat), .int .u64 (w1 (s1) : Nat), .int .u64 (w2 (s1) : Nat), .int .u64 (w3 (s1) : Nat), .int .u64 (w0 (t1) : Nat), .int .u64 (w1 (t1) : Nat), .int .u64 (w2 (t1) : Nat), .int .u64 (w3 (t1) : Nat), .bool k1] 52 (0, 0)) := by rw [← hW, ← hbx]; exact heap_alloc_new _ _
    have lD13D11 : bd11 < d13 := by rw [← hbx]; exact lt_of_heap hD11
    replace hD11 : V6.heap[bd11]? = some (.cells #[.int .u64 (w0 (xp) : Nat), .int .u64 (w1 (xp) : Nat), .int .u64 (w2 (xp) : Nat), .int .u64 (w3 (xp) : Nat), .int .u64 (w0 (yp) : Nat), .int .u64 (w1 (yp) : Nat), .int .u64 (w2 (yp) : Nat), .int .u64 (w3 (yp) : Nat), .bool bp] 52 (0, 0)) := by rw [← hW]; exact ak hD11
    have lD13D12 : bd12 < d13 := by rw [← hbx]; exact lt_of_heap hD12
    replace hD12 : V6.heap[bd12]? = some (.cells #[.int .u64 (w0 (xr) : Nat), .int .u64 (w1 (xr) : Nat), .int .u64 (w2 (xr) : Nat), .int .u64 (w3 (xr) : Nat), .int .u64 (w0 (yr) : Nat), .int .u64 (w1 (yr) : Nat), .int .u64 (w2 (yr) : Nat), .int .u64 (w3 (yr) : Nat), .bool br] 52 (0, 0)) := by rw [← hW]; exact ak hD12
    have lD13 : w.heap.size ≤ d13 := by rw [← hbx]; exact kk.size
    replace kk : Below w.heap.size w V6 := by rw [← hW]; exact bal kk _
    have hD13 := hNEW
    clear hNEW hW hbx
    try simp only [List.append]
    try clear cD110 cD111 cD112 cD113 cD114 cD115 cD116 cD117 cD118
    obtain ⟨cD110, cD111, cD112, cD113, cD114, cD115, cD116, cD117, cD118⟩ := row9c hD11
    try clear cD120 cD121 cD122 cD123 cD124 cD125 cD126 cD127 cD128
    obtain ⟨cD120, cD121, cD122, cD123, cD124, cD125, cD126, cD127, cD128⟩ := row9c hD12
    try clear cD130 cD131 cD132 cD133 cD134 cD135 cD136 cD137 cD138
    obtain ⟨cD130, cD131, cD132, cD133, cD134, cD135, cD136, cD137, cD138⟩ := row9c hD13
    go_region_held3 (fun w' => w'.cell? ⟨bd11, 0, none⟩ = some (.int .u64 (w0 (xp) : Nat)) ∧ w'.cell? ⟨bd11, 1, none⟩ = some (.int .u64 (w1 (xp) : Nat)) ∧ w'.cell? ⟨bd11, 2, none⟩ = some (.int .u64 (w2 (xp) : Nat)) ∧ w'.cell? ⟨bd11, 3, none⟩ = some (.int .u64 (w3 (xp) : Nat)) ∧ w'.cell? ⟨bd11, 4, none⟩ = some (.int .u64 (w0 (yp) : Nat)) ∧ w'.cell? ⟨bd11, 5, none⟩ = some (.int .u64 (w1 (yp) : Nat)) ∧ w'.cell? ⟨bd11, 6, none⟩ = some (.int .u64 (w2 (yp) : Nat)) ∧ w'.cell? ⟨bd11, 7, none⟩ = some (.int .u64 (w3 (yp) : Nat)) ∧ w'.cell? ⟨bd11, 8, none⟩ = some (.bool bp) ∧ w'.cell? ⟨bd12, 0, none⟩ = some (.int .u64 (w0 (xr) : Nat)) ∧ w'.cell? ⟨bd12, 1, none⟩ = some (.int .u64 (w1 (xr) : Nat)) ∧ w'.cell? ⟨bd12, 2, none⟩ = some (.int .u64 (w2 (xr) : Nat)) ∧ w'.cell? ⟨bd12, 3, none⟩ = some (.int .u64 (w3 (xr) : Nat)) ∧ w'.cell? ⟨bd12, 4, none⟩ = some (.int .u64 (w0 (yr) : Nat)) ∧ w'.cell? ⟨bd12, 5, none⟩ = some (.int .u64 (w1 (yr) : Nat)) ∧ w'.cell? ⟨bd12, 6, none⟩ = some (.int .u64 (w2 (yr) : Nat)) ∧ w'.cell? ⟨bd12, 7, none⟩ = some (.int .u64 (w3 (yr) : Nat)) ∧ w'.cell? ⟨bd12, 8, none⟩ = some (.bool br) ∧ w'.cell? ⟨d13, 0, none⟩ = some (.int .u64 (w0 (s1) : Nat)) ∧ w'.cell? ⟨d13, 1, none⟩ = some (.int .u64 (w1 (s1) : Nat)) ∧ w'.cell? ⟨d13, 2, none⟩ = some (.int .u64 (w2 (s1) : Nat)) ∧ w'.cell? ⟨d13, 3, none⟩ = some (.int .u64 (w3 (s1) : Nat)) ∧ w'.cell? ⟨d13, 4, none⟩ = some (.int .u64 (w0 (t1) : Nat)) ∧ w'.cell? ⟨d13, 5, none⟩ = some (.int .u64 (w1 (t1) : Nat)) ∧ w'.cell? ⟨d13, 6, none⟩ = some (.int .u64 (w2 (t1) : Nat)) ∧ w'.cell? ⟨d13, 7, none⟩ = some (.int .u64 (w3 (t1) : Nat)) ∧ w'.cell? ⟨d13, 8, none⟩ = some (.bool k1)) (first | (with_reducible exact ⟨cD110, cD111, cD112, cD113, cD114, cD115, cD116, cD117, cD118, cD120, cD121, cD122, cD123, cD124, cD125, cD126, cD127, cD128, cD130, cD131, cD132, cD133, cD134, cD135, cD136, cD137, cD138⟩) | go_keep) (first | (go_at_call 44; with_reducible refine (onQ_any hp _).mono ?_; rintro e W ⟨rfl, hb⟩; (first | replace hD11 := below_get hb hD11 | replace hD11 := below_get hb (ak hD11)); (first | replace hD12 := below_get hb hD12 | replace hD12 := below_get hb (ak hD12)); (first | replace hD13 := below_get hb hD13 | replace hD13 := below_get hb (ak hD13)); (replace kk := bcl (by first | exact kk | exact kk.drew | exact bal kk _ | exact (bal kk _).drew) hb); (try clear cD110 cD111 cD112 cD113 cD114 cD115 cD116 cD117 cD118); (obtain ⟨cD110, cD111, cD112, cD113, cD114, cD115, cD116, cD117, cD118⟩ := row9c hD11); (try clear cD120 cD121 cD122 cD123 cD124 cD125 cD126 cD127 cD128); (obtain ⟨cD120, cD121, cD122, cD123, cD124, cD125, cD126, cD127, cD128⟩ := row9c hD12); (try clear cD130 cD131 cD132 cD133 cD134 cD135 cD136 cD137 cD138); (obtain ⟨cD130, cD131, cD132, cD133, cD134, cD135, cD136, cD137, cD138⟩ := row9c hD13); clear hb) | (go_at_call 44; with_reducible refine (onQ_any hr _).mono ?_; rintro e W ⟨rfl, hb⟩; (first | replace hD11 := below_get hb hD11 | replace hD11 := below_get hb (ak hD11)); (first | replace hD12 := below_get hb hD12 | replace hD12 := below_get hb (ak hD12)); (first | replace hD13 := below_get hb hD13 | replace hD13 := below_get hb (ak hD13)); (replace kk := bcl (by first | exact kk | exact kk.drew | exact bal kk _ | exact (bal kk _).drew) hb); (try clear cD110 cD111 cD112 cD113 cD114 cD115 cD116 cD117 cD118); (obtain ⟨cD110, cD111, cD112, cD113, cD114, cD115, cD116, cD117, cD118⟩ := row9c hD11); (try clear cD120 cD121 cD122 cD123 cD124 cD125 cD126 cD127 cD128); (obtain ⟨cD120, cD121, cD122, cD123, cD124, cD125, cD126, cD127, cD128⟩ := row9c hD12); (try clear cD130 cD131 cD132 cD133 cD134 cD135 cD136 cD137 cD138); (obtain ⟨cD130, cD131, cD132, cD133, cD134, cD135, cD136, cD137, cD138⟩ := row9c hD13); clear hb) | (go_at_call 44; with_reducible refine (onQ_any h1 _).mono ?_; rintro e W ⟨rfl, hb⟩; (first | replace hD11 := below_get hb hD11 | replace hD11 := below_get hb (ak hD11)); (first | replace hD12 := below_get hb hD12 | replace hD12 := below_get hb (ak hD12)); (first | replace hD13 := below_get hb hD13 | replace hD13 := below_get hb (ak hD13)); (replace kk := bcl (by first | exact kk | exact kk.drew | exact bal kk _ | exact (bal kk _).drew) hb); (try clear cD110 cD111 cD112 cD113 cD114 cD115 cD116 cD117 cD118); (obtain ⟨cD110, cD111, cD112, cD113, cD114, cD115, cD116, cD117, cD118⟩ := row9c hD11); (try clear cD120 cD121 cD122 cD123 cD124 cD125 cD126 cD127 cD128); (obtain ⟨cD120, cD121, cD122, cD123, cD124, cD125, cD126, cD127, cD128⟩ := row9c hD12); (try clear cD130 cD131 cD132 cD133 cD134 cD135 cD136 cD137 cD138); (obtain ⟨cD130, cD131, cD132, cD133, cD134, cD135, cD136, cD137, cD138⟩ := row9c hD13); clear hb) | (go_at_call 39; with_reducible refine (sumQ_any hp hr h1 _).mono ?_; rintro e W ⟨rfl, hb⟩; (first | replace hD11 := below_get hb hD11 | replace hD11 := below_get hb (ak hD11)); (first | replace hD12 := below_get hb hD12 | replace hD12 := below_get hb (ak hD12)); (first | replace hD13 := below_get hb hD13 | replace hD13 := below_get hb (ak hD13)); (replace kk := bcl (by first | exact kk | exact kk.drew | exact bal kk _ | exact (bal kk _).drew) hb); (try clear cD110 cD111 cD112 cD113 cD114 cD115 cD116 cD117 cD118); (obtain ⟨cD110, cD111, cD112, cD113, cD114, cD115, cD116, cD117, cD118⟩ := row9c hD11); (try clear cD120 cD121 cD122 cD123 cD124 cD125 cD126 cD127 cD128); (obtain ⟨cD120, cD121, cD122, cD123, cD124, cD125, cD126, cD127, cD128⟩ := row9c hD12); (try clear cD130 cD131 cD132 cD133 cD134 cD135 cD136 cD137 cD138); (obtain ⟨cD130, cD131, cD132, cD133, cD134, cD135, cD136, cD137, cD138⟩ := row9c hD13); clear hb) | (go_at_call 43; with_reducible refine (addQ_any hr hp h2 _).mono ?_; rintro e W ⟨rfl, hb⟩; (first | replace hD11 := below_get hb hD11 | replace hD11 := below_get hb (ak hD11)); (first | replace hD12 := below_get hb hD12 | replace hD12 := below_get hb (ak hD12)); (first | replace hD13 := below_get hb hD13 | replace hD13 := below_get hb (ak hD13)); (replace kk := bcl (by first | exact kk | exact kk.drew | exact bal kk _ | exact (bal kk _).drew) hb); (try clear cD110 cD111 cD112 cD113 cD114 cD115 cD116 cD117 cD118); (obtain ⟨cD110, cD111, cD112, cD113, cD114, cD115, cD116, cD117, cD118⟩ := row9c hD11); (try clear cD120 cD121 cD122 cD123 cD124 cD125 cD126 cD127 cD128); (obtain ⟨cD120, cD121, cD122, cD123, cD124, cD125, cD126, cD127, cD128⟩ := row9c hD12); (try clear cD130 cD131 cD132 cD133 cD134 cD135 cD136 cD137 cD138); (obtain ⟨cD130, cD131, cD132, cD133, cD134, cD135, cD136, cD137, cD138⟩ := row9c hD13); clear hb) | (go_at_call 42; with_reducible refine (negQ_any hp h3 _).mono ?_; rintro e W ⟨rfl, hb⟩; (first | replace hD11 := below_get hb hD11 | replace hD11 := below_get hb (ak hD11)); (first | replace hD12 := below_get hb hD12 | replace hD12 := below_get hb (ak hD12)); (first | replace hD13 := below_get hb hD13 | replace hD13 := below_get hb (ak hD13)); (replace kk := bcl (by first | exact kk | exact kk.drew | exact bal kk _ | exact (bal kk _).drew) hb); (try clear cD110 cD111 cD112 cD113 cD114 cD115 cD116 cD117 cD118); (obtain ⟨cD110, cD111, cD112, cD113, cD114, cD115, cD116, cD117, cD118⟩ := row9c hD11); (try clear cD120 cD121 cD122 cD123 cD124 cD125 cD126 cD127 cD128); (obtain ⟨cD120, cD121, cD122, cD123, cD124, cD125, cD126, cD127, cD128⟩ := row9c hD12); (try clear cD130 cD131 cD132 cD133 cD134 cD135 cD136 cD137 cD138); (obtain ⟨cD130, cD131, cD132, cD133, cD134, cD135, cD136, cD137, cD138⟩ := row9c hD13); clear hb) | (go_at_call 43; with_reducible refine (addQ_any hp h3 h4 _).mono ?_; rintro e W ⟨rfl, hb⟩; (first | replace hD11 := below_get hb hD11 | replace hD11 := below_get hb (ak hD11)); (first | replace hD12 := below_get hb hD12 | replace hD12 := below_get hb (ak hD12)); (first | replace hD13 := below_get hb hD13 | replace hD13 := below_get hb (ak hD13)); (replace kk := bcl (by first | exact kk | exact kk.drew | exact bal kk _ | exact (bal kk _).drew) hb); (try clear cD110 cD111 cD112 cD113 cD114 cD115 cD116 cD117 cD118); (obtain ⟨cD110, cD111, cD112, cD113, cD114, cD115, cD116, cD117, cD118⟩ := row9c hD11); (try clear cD120 cD121 cD122 cD123 cD124 cD125 cD126 cD127 cD128); (obtain ⟨cD120, cD121, cD122, cD123, cD124, cD125, cD126, cD127, cD128⟩ := row9c hD12); (try clear cD130 cD131 cD132 cD133 cD134 cD135 cD136 cD137 cD138); (obtain ⟨cD130, cD131, cD132, cD133, cD134, cD135, cD136, cD137, cD138⟩ := row9c hD13); clear hb) | (go_at_call 38; with_reducible refine (nonep_any _).mono ?_; rintro e W ⟨rfl, hb⟩; (first | replace hD11 := below_get hb hD11 | replace hD11 := below_get hb (ak hD11)); (first | replace hD12 := below_get hb hD12 | replace hD12 := below_get hb (ak hD12)); (first | replace hD13 := below_get hb hD13 | replace hD13 := below_get hb (ak hD13)); (replace kk := bcl (by first | exact kk | exact kk.drew | exact bal kk _ | exact (bal kk _).drew) hb); (try clear cD110 cD111 cD112 cD113 cD114 cD115 cD116 cD117 cD118); (obtain ⟨cD110, cD111, cD112, cD113, cD114, cD115, cD116, cD117, cD118⟩ := row9c hD11); (try clear cD120 cD121 cD122 cD123 cD124 cD125 cD126 cD127 cD128); (obtain ⟨cD120, cD121, cD122, cD123, cD124, cD125, cD126, cD127, cD128⟩ := row9c hD12); (try clear cD130 cD131 cD132 cD133 cD134 cD135 cD136 cD137 cD138); (obtain ⟨cD130, cD131, cD132, cD133, cD134, cD135, cD136, cD137, cD138⟩ := row9c hD13); clear hb) | (go_at_call 42; with_reducible refine (negQ_any h3 h5 _).mono ?_; rintro e W ⟨rfl, hb⟩; (first | replace hD11 := below_get hb hD11 | replace hD11 := below_get hb (ak hD11)); (first | replace hD12 := below_get hb hD12 | replace hD12 := below_get hb (ak hD12)); (first | replace hD13 := below_get hb hD13 | replace hD13 := below_get hb (ak hD13)); (replace kk := bcl (by first | exact kk | exact kk.drew | exact bal kk _ | exact (bal kk _).drew) hb); (try clear cD110 cD111 cD112 cD113 cD114 cD115 cD116 cD117 cD118); (obtain ⟨cD110, cD111, cD112, cD113, cD114, cD115, cD116, cD117, cD118⟩ := row9c hD11); (try clear cD120 cD121 cD122 cD123 cD124 cD125 cD126 cD127 cD128); (obtain ⟨cD120, cD121, cD122, cD123, cD124, cD125, cD126, cD127, cD128⟩ := row9c hD12); (try clear cD130 cD131 cD132 cD133 cD134 cD135 cD136 cD137 cD138); (obtain ⟨cD130, cD131, cD132, cD133, cD134, cD135, cD136, cD137, cD138⟩ := row9c hD13); clear hb))
    go_simp
    go_wp2_with fail
    refine bodyPost_ret (v := _) (by simp [results, Try.results11, go_sem]; rfl) rfl ?_
    exact ⟨rfl, kk⟩
end Go.Proofs.Ytgghopmlcpcpkaa
namespace Go.Proofs.Ytgghopmlcpcpkaa
open Go.ChangeShapes Go.WideShapes Go.ChangeAt Go.RowKit PlainK
set_option linter.unusedVariables false
set_option linter.unusedSimpArgs false
set_option maxHeartbeats 1000000 in
set_option maxRecDepth 100000 in
theorem curveAdds_lifted (os : Os) (started : os.Started) (H : Type) (enc : TypeId × Value → H) :
    ReturnsInHanded {} Try.checked os 11 .any (Rows.curveAddsSpec.pre6 enc Try.prog Try.f11 Rows.curveAddsRow.domain false) (Rows.curveAddsSpec.post enc Try.prog Try.f11 false true false false) := by
  refine returnsInHanded_of_change (C := Try.checked) Try.own started (by kernel_rfl) Try.func11
    (ChangeSpec.witness6 (enc := enc) (C := Try.checked) false ⟨#[], #[.agg #[.int .u64 0, .int .u64 0, .int .u64 0, .int .u64 0], .agg #[.int .u64 0, .int .u64 0, .int .u64 0, .int .u64 0], .bool false, .bool false, .int .u8 0], []⟩ 8 (by kernel_rfl) (by kernel_rfl) (by kernel_rfl) (by kernel_rfl)) ?_
  intro W base args ds gs before hval0 hW hcnd _
  have hval : ∀ (j : Nat) t v, Try.f11.params[j]? = some t → args[j]? = some v → Value.okWide Try.prog W .any base t v := hval0
  have hW' := hW
  obtain ⟨p, q, hA0, hV, rfl, hfz, hnd⟩ := hW
  have hA : DataW.TrodAll enc Try.prog W 0 (fun _ => true) true Try.f11.params.toList args.toList ds p := hA0
  rw [Try.params11] at hA hval
  obtain ⟨v0, vs0, d0, ds0, p0, q0, hargs, rfl, rfl, h0, r0⟩ := trodAll_cons hA
  obtain ⟨v1, vs1, d1, ds1, p1, q1, rfl, rfl, rfl, h1, r1⟩ := trodAll_cons r0
  obtain ⟨v2, vs2, d2, ds2, p2, q2, rfl, rfl, rfl, h2, r2⟩ := trodAll_cons r1
  obtain ⟨v3, vs3, d3, ds3, p3, q3, rfl, rfl, rfl, h3, r3⟩ := trodAll_cons r2
  obtain ⟨v4, vs4, d4, ds4, p4, q4, rfl, rfl, rfl, h4, r4⟩ := trodAll_cons r3
  obtain ⟨rfl, rfl, rfl⟩ := trodAll_nil r4
  obtain rfl : args = #[v0, v1, v2, v3, v4] := by cases args; simp_all
  obtain ⟨rfl, rfl⟩ := trodVars_none hV
  obtain ⟨x00, x01, x02, x03, rfl, rfl, rfl, y00, y01, y02, y03⟩ := open_arr4 (hval 0 24 v0 rfl rfl) h0
  obtain ⟨n0, hn0⟩ := W4.of_wf y00 y01 y02 y03
  obtain ⟨x10, x11, x12, x13, rfl, rfl, rfl, y10, y11, y12, y13⟩ := open_arr4 (hval 1 24 v1 rfl rfl) h1
  obtain ⟨n1, hn1⟩ := W4.of_wf y10 y11 y12 y13
  obtain ⟨x2, rfl, rfl, rfl⟩ := open_bool Try.underlying4 (hval 2 4 v2 rfl rfl) h2
  obtain ⟨x3, rfl, rfl, rfl⟩ := open_bool Try.underlying4 (hval 3 4 v3 rfl rfl) h3
  obtain ⟨x4, rfl, rfl, rfl, y4⟩ := open_int Try.underlying5 (hval 4 5 v4 rfl rfl) h4
  clear hA0 hval0
  simp only [List.append_nil] at hW'
  refine (adds_any hn0 hn1 x2 x3 y4 W).mono fun e W' ⟨he, hg⟩ => ?_
  subst he
  exact ⟨_, rfl, post_law (pa := []) (pv := []) hW' (fun _ _ _ => (trodAll_cons_mk (shut_bool Try.underlying4 _) trodAll_mk0)) (fun sp _ => (trodAll_cons_mk (shut_arr4 y00 y01 y02 y03) (trodAll_cons_mk (shut_arr4 y10 y11 y12 y13) (trodAll_cons_mk (shut_bool Try.underlying4 x2) (trodAll_cons_mk (shut_bool Try.underlying4 x3) (trodAll_cons_mk (shut_int Try.underlying5 y4) trodAll_mk0)))))) (fun _ _ => rfl) rfl (hg.frame _)⟩

theorem curveAdds_proved : Rows.CurveAddsSaid :=
  OpenClaim.holds_of_wide 11 Try.f11 rfl rfl rfl rfl rfl rfl rfl ⟨rfl, rfl, rfl, rfl, rfl⟩ rfl rfl rfl rfl rfl (by kernel_rfl) Try.func11 (by kernel_rfl)
    (of_decide_eq_true (by kernel_rfl)) (by unfold Func.isWrapper; first | (rw [if_pos (by decide +kernel)]; kernel_rfl) | (rw [if_neg (by decide +kernel)]; exact ⟨rfl, rfl⟩))
    (fun os started H enc _ => curveAdds_lifted os started H enc)
#print axioms curveAdds_proved
end Go.Proofs.Ytgghopmlcpcpkaa
