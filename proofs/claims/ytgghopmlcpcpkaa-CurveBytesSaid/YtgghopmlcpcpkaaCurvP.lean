/- A step of the proof: what a function of the program computes, or a plain law of numbers. -/
import Derived.Test.YtgghopmlcpcpkaaOnM
namespace Go.Proofs.Ytgghopmlcpcpkaa
open Go.RowKit PlainK
set_option linter.unusedVariables false
set_option linter.unusedSimpArgs false
/-! points, in numbers -/
def px : Pt PP → Nat
  | .o => 0
  | .pt x _ => x.val
def py : Pt PP → Nat
  | .o => 0
  | .pt _ y => y.val
def pn : Pt PP → Bool
  | .o => true
  | .pt _ _ => false
theorem ft_val (x : Fin PP) : (ft x.val : Fin PP) = x := by
  apply Fin.ext; simp [ft, Fin.ofNat, Nat.mod_eq_of_lt x.isLt]
theorem val_ft {n : Nat} (h : n < PP) : (ft n : Fin PP).val = n := by simp [ft, Fin.ofNat, Nat.mod_eq_of_lt h]
theorem ft_eq {a b : Nat} (h : (ft a : Fin PP) = ft b) : a % PP = b % PP := by
  have := congrArg Fin.val h
  simpa [ft, Fin.ofNat] using this
theorem ft_of_mod {a b : Nat} (h : a % PP = b % PP) : (ft a : Fin PP) = ft b := by
  apply Fin.ext; simp only [ft, Fin.ofNat]; exact h
theorem px_lt (a : Pt PP) : px a < PP := by cases a with
  | o => exact Nat.lt_trans (by decide) PP_pos
  | pt x y => exact x.isLt
theorem py_lt (a : Pt PP) : py a < PP := by cases a with
  | o => exact Nat.lt_trans (by decide) PP_pos
  | pt x y => exact y.isLt
theorem px_big (a : Pt PP) : px a < 2 ^ 256 := Nat.lt_trans (px_lt a) PP_lt
theorem py_big (a : Pt PP) : py a < 2 ^ 256 := Nat.lt_trans (py_lt a) PP_lt
theorem enc_inj {a b : Pt PP} (hx : px a = px b) (hy : py a = py b) (hn : pn a = pn b) : a = b := by
  cases a <;> cases b
  · rfl
  · cases hn
  · cases hn
  · exact congr (congrArg Pt.pt (Fin.ext hx)) (Fin.ext hy)
theorem on_num {x y : Nat} : (ft y : Fin PP) * ft y = ft x * ft x * ft x + 7 ↔ mulm PP y y = rightN PP x := by
  have e1 : (ft (mulm PP y y) : Fin PP) = ft y * ft y := ft_mulm y y
  have e2 : (ft (rightN PP x) : Fin PP) = ft x * ft x * ft x + 7 := by
    unfold rightN; rw [ft_addf, ft_mulm, ft_mulm, (ft_num PP).2.2.2.2.2]
  rw [← e1, ← e2]
  have hp : 0 < PP := Nat.lt_trans (by decide) PP_pos
  constructor
  · intro h
    have := ft_eq h
    rwa [Nat.mod_eq_of_lt (mulm_lt hp _ _), Nat.mod_eq_of_lt (show rightN PP x < PP from addf_lt hp _ _)] at this
  · intro h; rw [h]
theorem onB_enc {a : Pt PP} (ha : a.on) : onB (px a) (py a) (pn a) = true := by
  cases a with
  | o => rfl
  | pt x y =>
    have h : mulm PP y.val y.val = rightN PP x.val := on_num.1 (by rw [ft_val, ft_val]; exact ha)
    show onB x.val y.val false = true
    unfold onB
    rw [if_neg (by decide), decide_eq_true x.isLt, decide_eq_true y.isLt, decide_eq_true h]; rfl
theorem onB_dec {x y : Nat} {n : Bool} (h : onB x y n = true) : ∃ a : Pt PP, a.on ∧ x = px a ∧ y = py a ∧ n = pn a := by
  unfold onB at h
  cases n with
  | true =>
    simp only [if_true, Bool.and_eq_true, decide_eq_true_eq] at h
    exact ⟨.o, trivial, h.1, h.2.1, rfl⟩
  | false =>
    simp only [Bool.false_eq_true, if_false, Bool.and_eq_true, decide_eq_true_eq] at h
    exact ⟨.pt (ft x) (ft y), on_num.2 h.2.2, (val_ft h.1).symm, (val_ft h.2.1).symm, rfl⟩
/-! rays -/
def rayN (a : Pt PP) : T3 := if pn a then ⟨1, 1, 0⟩ else ⟨px a, py a, 1⟩
theorem one_lt_PP : 1 < PP := Nat.lt_trans (by decide) PP_pos
theorem rayN_lt (a : Pt PP) : (rayN a).lt PP := by
  unfold rayN
  split
  · exact ⟨one_lt_PP, one_lt_PP, Nat.lt_trans (by decide) PP_pos⟩
  · exact ⟨px_lt a, py_lt a, one_lt_PP⟩
theorem rayN_ray (a : Pt PP) : Ray (ft3 PP (rayN a)) a := by
  have e : ft3 PP (rayN a) = rayOf a := by
    cases a with
    | o => rfl
    | pt x y => simp only [rayN, pn, px, py, ft3, rayOf, Bool.false_eq_true, if_false, ft_val]; rfl
  rw [e]; exact rayOf_ray good a
def RayN (t : T3) (a : Pt PP) : Prop := t.lt PP ∧ Ray (ft3 PP t) a
theorem RayN.of (a : Pt PP) : RayN (rayN a) a := ⟨rayN_lt a, rayN_ray a⟩
theorem RayN.twice {t : T3} {a : Pt PP} (ha : a.on) (h : RayN t a) : RayN (ntwice PP t) (padd' finv a a) :=
  ⟨ntwice_lt one_lt_PP, by rw [ft3_twice h.1]; exact jtwice_ray good ha h.2⟩
theorem RayN.add {r o : T3} {a b : Pt PP} (ha : a.on) (hb : b.on) (hr : RayN r a) (ho : RayN o b) : RayN (naddr PP r o) (padd' finv a b) :=
  ⟨naddr_lt one_lt_PP hr.1 ho.1, by rw [ft3_naddr hr.1 ho.1]; exact jadd_ray good ha hb hr.2 ho.2⟩
theorem RayN.big {t : T3} {a : Pt PP} (h : RayN t a) : t.x < 2 ^ 256 ∧ t.y < 2 ^ 256 ∧ t.z < 2 ^ 256 :=
  ⟨Nat.lt_trans h.1.1 PP_lt, Nat.lt_trans h.1.2.1 PP_lt, Nat.lt_trans h.1.2.2 PP_lt⟩
theorem ft_inv {z : Nat} (hz : z < PP) : (ft (invN z PP) : Fin PP) = if z = 0 then 0 else finv (ft z) := by
  by_cases h : z = 0
  · rw [if_pos h, invN_zero z PP (by rw [h]; rfl)]; rfl
  · rw [if_neg h]
    unfold invN
    rw [if_neg (by rw [Nat.mod_eq_of_lt hz]; exact h), Nat.mod_eq_of_lt hz]
    apply Fin.ext
    unfold finv
    rw [val_ft hz]
    simp only [ft, Fin.ofNat, Nat.mod_mod]
theorem ray_z {t : T3} {a : Pt PP} (h : RayN t a) : t.z % PP = 0 ↔ a = .o := by
  rw [Nat.mod_eq_of_lt h.1.2.2]
  have e := ft_zero (p := PP) h.1.2.2
  cases a with
  | o => exact ⟨fun _ => rfl, fun _ => e.1 h.2⟩
  | pt x y => exact ⟨fun k => absurd (e.2 k) h.2.1, fun k => by cases k⟩
theorem ray_pt_x {t : T3} {a : Pt PP} (h : RayN t a) (hz : ¬ t.z % PP = 0) : nptx PP t = px a ∧ npty PP t = py a ∧ pn a = false := by
  have hp : 0 < PP := Nat.lt_trans (by decide) PP_pos
  have hj := jpoint_eq good h.2
  have hzz : ¬ t.z = 0 := fun k => hz (by rw [k]; rfl)
  have hzf : ¬ (ft3 PP t).z = 0 := fun k => hzz ((ft_zero (p := PP) h.1.2.2).1 k)
  unfold jpoint at hj
  rw [if_neg hzf] at hj
  have hi : (ft (invN t.z PP) : Fin PP) = finv (ft3 PP t).z := by rw [ft_inv h.1.2.2, if_neg hzz]; rfl
  have ex : (ft (nptx PP t) : Fin PP) = (ft3 PP t).x * (finv (ft3 PP t).z * finv (ft3 PP t).z) := by
    unfold nptx; rw [ft_mulm, ft_mulm, hi]; rfl
  have ey : (ft (npty PP t) : Fin PP) = (ft3 PP t).y * (finv (ft3 PP t).z * finv (ft3 PP t).z * finv (ft3 PP t).z) := by
    unfold npty; rw [ft_mulm, ft_mulm, ft_mulm, hi]; rfl
  rw [← hj, ← ex, ← ey]
  exact ⟨(val_ft (mulm_lt hp _ _)).symm, (val_ft (mulm_lt hp _ _)).symm, rfl⟩
end Go.Proofs.Ytgghopmlcpcpkaa
