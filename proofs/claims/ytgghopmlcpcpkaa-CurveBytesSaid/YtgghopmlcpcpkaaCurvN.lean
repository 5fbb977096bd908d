/- A step of the proof: what a function of the program computes, or a plain law of numbers. -/
import Derived.Test.YtgghopmlcpcpkaaLawLib
import Derived.Test.YtgghopmlcpcpkaaJac
namespace Go.Proofs.Ytgghopmlcpcpkaa
open Go.RowKit PlainK
set_option linter.unusedVariables false
set_option linter.unusedSimpArgs false
/-! the program's reckoning of rays, in numbers -/
def ntwice (p : Nat) (t : T3) : T3 :=
  if t.z = 0 ∨ t.y = 0 then ⟨1, 1, 0⟩ else
  let a := mulm p t.x t.x
  let b := mulm p t.y t.y
  let c := mulm p b b
  let d0 := mulm p t.x b
  let d := addf p (addf p d0 d0) (addf p d0 d0)
  let e := addf p (addf p a a) a
  let x := subf p (mulm p e e) (addf p d d)
  let c1 := addf p c c
  let c2 := addf p c1 c1
  let c3 := addf p c2 c2
  let y := subf p (mulm p e (subf p d x)) c3
  let z := mulm p t.y t.z
  ⟨x, y, addf p z z⟩
def naddr (p : Nat) (r o : T3) : T3 :=
  if r.z = 0 then o else if o.z = 0 then r else
  let rz := mulm p r.z r.z
  let oz := mulm p o.z o.z
  let u := mulm p r.x oz
  let v := mulm p o.x rz
  let s := mulm p r.y (mulm p oz o.z)
  let t := mulm p o.y (mulm p rz r.z)
  let h := subf p v u
  let k := subf p t s
  if h = 0 then (if k = 0 then ntwice p r else ⟨1, 1, 0⟩) else
  let hh := mulm p h h
  let hhh := mulm p hh h
  let w := mulm p u hh
  let x := subf p (subf p (mulm p k k) hhh) (addf p w w)
  let y := subf p (mulm p k (subf p w x)) (mulm p s hhh)
  ⟨x, y, mulm p h (mulm p r.z o.z)⟩
section
variable {p : Nat} [NeZero p]
theorem pos_of (p : Nat) [NeZero p] : 0 < p := Nat.pos_of_ne_zero (NeZero.ne p)
theorem ft_mulm (a b : Nat) : (ft (mulm p a b) : Fin p) = ft a * ft b := ft_ml a b
theorem ft_addf (a b : Nat) : (ft (addf p a b) : Fin p) = ft a + ft b := ft_ad a b
theorem ft_subf (a b : Nat) : (ft (subf p a b) : Fin p) = ft a - ft b := by
  have h := ft_sb (p := p) (a % p) b
  have e : (ft (a % p) : Fin p) = ft a := by
    apply Fin.ext; simp [ft, Fin.ofNat]
  rw [e] at h
  exact h
theorem ft_zero {a : Nat} (ha : a < p) : (ft a : Fin p) = 0 ↔ a = 0 := by
  constructor
  · intro h
    have := congrArg Fin.val h
    simpa [ft, Fin.ofNat, Nat.mod_eq_of_lt ha] using this
  · rintro rfl; rfl
def _root_.PlainK.T3.lt (p : Nat) (t : T3) : Prop := t.x < p ∧ t.y < p ∧ t.z < p
theorem mulm_lt {p : Nat} (hp : 0 < p) (a b : Nat) : mulm p a b < p := Nat.mod_lt _ hp
theorem addf_lt {p : Nat} (hp : 0 < p) (a b : Nat) : addf p a b < p := Nat.mod_lt _ hp
theorem subf_lt {p : Nat} (hp : 0 < p) (a b : Nat) : subf p a b < p := Nat.mod_lt _ hp
theorem ntwice_lt {t : T3} (h1 : 1 < p) : (ntwice p t).lt p := by
  have hp := pos_of p
  unfold ntwice
  split
  · exact ⟨h1, h1, hp⟩
  · exact ⟨subf_lt hp _ _, subf_lt hp _ _, addf_lt hp _ _⟩
theorem naddr_lt {r o : T3} (h1 : 1 < p) (hr : r.lt p) (ho : o.lt p) : (naddr p r o).lt p := by
  have hp := pos_of p
  unfold naddr
  split
  · exact ho
  split
  · exact hr
  dsimp only
  split
  · split
    · exact ntwice_lt h1
    · exact ⟨h1, h1, hp⟩
  · exact ⟨subf_lt hp _ _, subf_lt hp _ _, mulm_lt hp _ _⟩
theorem ft_one : (ft 1 : Fin p) = 1 := (ft_num p).2.2.2.2.1
theorem ft3_twice {t : T3} (h : t.lt p) : ft3 p (ntwice p t) = jtwice (ft3 p t) := by
  unfold ntwice jtwice
  by_cases hz : t.z = 0 ∨ t.y = 0
  · rw [if_pos hz, if_pos (by rcases hz with e | e; exact Or.inl ((ft_zero h.2.2).2 e); exact Or.inr ((ft_zero h.2.1).2 e))]
    simp only [ft3, ft_one]; rfl
  · rw [if_neg hz, if_neg (by intro k; exact hz (k.imp (ft_zero h.2.2).1 (ft_zero h.2.1).1))]
    simp only [ft3, ft_mulm, ft_addf, ft_subf]
theorem ft3_naddr {r o : T3} (hr : r.lt p) (ho : o.lt p) : ft3 p (naddr p r o) = jadd (ft3 p r) (ft3 p o) := by
  unfold naddr jadd
  have hp := pos_of p
  have z1 : (ft3 p r).z = 0 ↔ r.z = 0 := ft_zero hr.2.2
  have z2 : (ft3 p o).z = 0 ↔ o.z = 0 := ft_zero ho.2.2
  by_cases h1 : r.z = 0
  · rw [if_pos h1, if_pos (z1.2 h1)]
  rw [if_neg h1, if_neg (fun k => h1 (z1.1 k))]
  by_cases h2 : o.z = 0
  · rw [if_pos h2, if_pos (z2.2 h2)]
  rw [if_neg h2, if_neg (fun k => h2 (z2.1 k))]
  dsimp only
  have z3 : (ft3 p o).x * ((ft3 p r).z * (ft3 p r).z) - (ft3 p r).x * ((ft3 p o).z * (ft3 p o).z) = 0 ↔ subf p (mulm p o.x (mulm p r.z r.z)) (mulm p r.x (mulm p o.z o.z)) = 0 := by
    have := ft_zero (p := p) (subf_lt hp (mulm p o.x (mulm p r.z r.z)) (mulm p r.x (mulm p o.z o.z)))
    simp only [ft_subf, ft_mulm] at this
    exact this
  have z4 : (ft3 p o).y * ((ft3 p r).z * (ft3 p r).z * (ft3 p r).z) - (ft3 p r).y * ((ft3 p o).z * (ft3 p o).z * (ft3 p o).z) = 0 ↔ subf p (mulm p o.y (mulm p (mulm p r.z r.z) r.z)) (mulm p r.y (mulm p (mulm p o.z o.z) o.z)) = 0 := by
    have := ft_zero (p := p) (subf_lt hp (mulm p o.y (mulm p (mulm p r.z r.z) r.z)) (mulm p r.y (mulm p (mulm p o.z o.z) o.z)))
    simp only [ft_subf, ft_mulm] at this
    exact this
  by_cases h3 : subf p (mulm p o.x (mulm p r.z r.z)) (mulm p r.x (mulm p o.z o.z)) = 0
  · rw [if_pos h3, if_pos (z3.2 h3)]
    by_cases h4 : subf p (mulm p o.y (mulm p (mulm p r.z r.z) r.z)) (mulm p r.y (mulm p (mulm p o.z o.z) o.z)) = 0
    · rw [if_pos h4, if_pos (z4.2 h4), ft3_twice hr]
    · rw [if_neg h4, if_neg (fun k => h4 (z4.1 k))]
      simp only [ft3, ft_one]; rfl
  · rw [if_neg h3, if_neg (fun k => h3 (z3.1 k))]
    simp only [ft3, ft_mulm, ft_addf, ft_subf]
end
end Go.Proofs.Ytgghopmlcpcpkaa
