/- A step of the proof: what a function of the program computes, or a plain law of numbers. -/
import Derived.Test.YtgghopmlcpcpkaaWide4
namespace Go.Proofs.Ytgghopmlcpcpkaa
open Go.RowKit PlainK
set_option linter.unusedVariables false
set_option linter.unusedSimpArgs false
theorem run_equalIn_arr {P : Program} (d : Nat) (t e : TypeId) (ht : P.underlying t = some (.array 4 e)) (he : P.underlying e = some (.int .u64)) (hs : ∀ w, (sizeOf e).run P w = .ok 1 w) (hg : ∀ w, (isAgg e).run P w = .ok false w) (x0 x1 x2 x3 y0 y1 y2 y3 : Int) (w : World) :
  (Op.equalIn (d + 2) t (.agg #[.int .u64 x0, .int .u64 x1, .int .u64 x2, .int .u64 x3]) (.agg #[.int .u64 y0, .int .u64 y1, .int .u64 y2, .int .u64 y3])).run P w = .ok (x0 == y0 && (x1 == y1 && (x2 == y2 && x3 == y3))) w := by
  rw [Op.equalIn]
  simp only [Sem.run_bind, run_underlying ht, Result.andThen_ok, hs]
  simp [Std.Legacy.Range.forIn_eq_forIn_range', List.range', go_sem, run_equalIn_int, he, hg]
  by_cases h0 : x0 = y0 <;> by_cases h1 : x1 = y1 <;> by_cases h2 : x2 = y2 <;> by_cases h3 : x3 = y3 <;> simp [h0, h1, h2, h3]
theorem eql_arr (x0 x1 x2 x3 y0 y1 y2 y3 : Int) (w : World) :
  (binOp .eql 24 (.agg #[.int .u64 x0, .int .u64 x1, .int .u64 x2, .int .u64 x3]) (.agg #[.int .u64 y0, .int .u64 y1, .int .u64 y2, .int .u64 y3])).run Try.prog w = .ok (.bool (x0 == y0 && (x1 == y1 && (x2 == y2 && x3 == y3)))) w := by
  rw [run_eql_struct, run_equalIn_arr 9998 24 22 Try.underlying24 Try.underlying22 (fun w => Try.sizeOf22 w) (fun w => Try.isAgg22 w)]; rfl
theorem neq_arr (x0 x1 x2 x3 y0 y1 y2 y3 : Int) (w : World) :
  (binOp .neq 24 (.agg #[.int .u64 x0, .int .u64 x1, .int .u64 x2, .int .u64 x3]) (.agg #[.int .u64 y0, .int .u64 y1, .int .u64 y2, .int .u64 y3])).run Try.prog w = .ok (.bool (!(x0 == y0 && (x1 == y1 && (x2 == y2 && x3 == y3))))) w := by
  rw [run_neq_struct, run_equalIn_arr 9998 24 22 Try.underlying24 Try.underlying22 (fun w => Try.sizeOf22 w) (fun w => Try.isAgg22 w)]; rfl
theorem words_beq {x0 x1 x2 x3 y0 y1 y2 y3 : Int} {a b : Nat} (ha : W4 x0 x1 x2 x3 a) (hb : W4 y0 y1 y2 y3 b) : (x0 == y0 && (x1 == y1 && (x2 == y2 && x3 == y3))) = decide (a = b) := by
  obtain ⟨rfl, rfl, rfl, rfl, la⟩ := ha
  obtain ⟨rfl, rfl, rfl, rfl, lb⟩ := hb
  rw [Bool.eq_iff_iff]
  simp only [Bool.and_eq_true, beq_iff_eq, decide_eq_true_eq]
  constructor
  · rintro ⟨h0, h1, h2, h3⟩
    exact cmp_eq la lb (by omega) (by omega) (by omega) (by omega)
  · rintro rfl; exact ⟨rfl, rfl, rfl, rfl⟩
theorem eql_t {x0 x1 x2 x3 y0 y1 y2 y3 : Int} {a b : Nat} (ha : W4 x0 x1 x2 x3 a) (hb : W4 y0 y1 y2 y3 b) (h : a = b) (w : World) :
  (binOp .eql 24 (.agg #[.int .u64 x0, .int .u64 x1, .int .u64 x2, .int .u64 x3]) (.agg #[.int .u64 y0, .int .u64 y1, .int .u64 y2, .int .u64 y3])).run Try.prog w = .ok (.bool true) w := by
  rw [eql_arr, words_beq ha hb, decide_eq_true h]
theorem eql_f {x0 x1 x2 x3 y0 y1 y2 y3 : Int} {a b : Nat} (ha : W4 x0 x1 x2 x3 a) (hb : W4 y0 y1 y2 y3 b) (h : a ≠ b) (w : World) :
  (binOp .eql 24 (.agg #[.int .u64 x0, .int .u64 x1, .int .u64 x2, .int .u64 x3]) (.agg #[.int .u64 y0, .int .u64 y1, .int .u64 y2, .int .u64 y3])).run Try.prog w = .ok (.bool false) w := by
  rw [eql_arr, words_beq ha hb, decide_eq_false h]
theorem neq_t {x0 x1 x2 x3 y0 y1 y2 y3 : Int} {a b : Nat} (ha : W4 x0 x1 x2 x3 a) (hb : W4 y0 y1 y2 y3 b) (h : a ≠ b) (w : World) :
  (binOp .neq 24 (.agg #[.int .u64 x0, .int .u64 x1, .int .u64 x2, .int .u64 x3]) (.agg #[.int .u64 y0, .int .u64 y1, .int .u64 y2, .int .u64 y3])).run Try.prog w = .ok (.bool true) w := by
  rw [neq_arr, words_beq ha hb, decide_eq_false h]; rfl
theorem neq_f {x0 x1 x2 x3 y0 y1 y2 y3 : Int} {a b : Nat} (ha : W4 x0 x1 x2 x3 a) (hb : W4 y0 y1 y2 y3 b) (h : a = b) (w : World) :
  (binOp .neq 24 (.agg #[.int .u64 x0, .int .u64 x1, .int .u64 x2, .int .u64 x3]) (.agg #[.int .u64 y0, .int .u64 y1, .int .u64 y2, .int .u64 y3])).run Try.prog w = .ok (.bool false) w := by
  rw [neq_arr, words_beq ha hb, decide_eq_true h]; rfl
theorem W4.zero : W4 0 0 0 0 0 := ⟨rfl, rfl, rfl, rfl, by decide⟩
theorem W4.small {x : Int} {n : Nat} (h : x = n) (hn : n < 18446744073709551616) : W4 x 0 0 0 n := by
  subst h; refine ⟨?_, ?_, ?_, ?_, by omega⟩ <;> simp only [w0, w1, w2, w3] <;> omega
end Go.Proofs.Ytgghopmlcpcpkaa
