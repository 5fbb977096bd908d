/- A step of the proof: what a function of the program computes, or a plain law of numbers. -/
import Derived.Test.YtgghopmlcpcpkaaArrEq
import Derived.Laws.StructEq
namespace Go.Proofs.Ytgghopmlcpcpkaa
open Go.RowKit PlainK
set_option linter.unusedVariables false
set_option linter.unusedSimpArgs false
theorem under52 : Try.prog.underlying 52 = some (.struct (Try.prog.fieldsOf 52)) := by kernel_rfl
theorem stood52 : Try.prog.stoodInHeld 52 = false := by kernel_rfl
theorem fields52 : (Try.prog.fieldsOf 52).toList = [{ name := "X", type := 24, offset := 0, embedded := false, tag := "", pkgPath := "", byteOffset := 0 }, { name := "Y", type := 24, offset := 4, embedded := false, tag := "", pkgPath := "", byteOffset := 32 }, { name := "None", type := 4, offset := 8, embedded := false, tag := "", pkgPath := "", byteOffset := 64 }] := by kernel_rfl
theorem part24 (vs : Array Value) (o : Nat) (a b c d : Value) (w : World) (h : vs.extract o (o + 4) = #[a, b, c, d]) : (part 24 vs o).run Try.prog w = .ok (.agg #[a, b, c, d]) w := by
  simp [part, go_sem, Try.sizeOf24, Try.isAgg24, h]
set_option maxHeartbeats 1000000 in
theorem eql_pt (x0 x1 x2 x3 y0 y1 y2 y3 u0 u1 u2 u3 v0 v1 v2 v3 : Int) (n k : Bool) (w : World) :
  (binOp .eql 52 (.agg #[.int .u64 x0, .int .u64 x1, .int .u64 x2, .int .u64 x3, .int .u64 y0, .int .u64 y1, .int .u64 y2, .int .u64 y3, .bool n]) (.agg #[.int .u64 u0, .int .u64 u1, .int .u64 u2, .int .u64 u3, .int .u64 v0, .int .u64 v1, .int .u64 v2, .int .u64 v3, .bool k])).run Try.prog w =
   .ok (.bool ((x0 == u0 && (x1 == u1 && (x2 == u2 && x3 == u3))) && ((y0 == v0 && (y1 == v1 && (y2 == v2 && y3 == v3))) && (n == k)))) w := by
  rw [run_eql_struct, run_equalIn_agg w 9999 52 _ _ under52 stood52, fields52]
  have hA := fun a b c d e f g h w => run_equalIn_arr (P := Try.prog) 9997 24 22 Try.underlying24 Try.underlying22 (fun w => Try.sizeOf22 w) (fun w => Try.isAgg22 w) a b c d e f g h w
  have hB := fun w a b => run_equalIn_bool (P := Try.prog) w 9998 4 a b Try.underlying4
  simp [Op.eqFields, go_sem, part, Try.sizeOf24, Try.isAgg24, hA, hB]
  split
  · rename_i h
    have e : (x0 == u0 && (x1 == u1 && (x2 == u2 && x3 == u3))) = false := by simpa using h
    rw [e]; rfl
  · rename_i h
    have e : (x0 == u0 && (x1 == u1 && (x2 == u2 && x3 == u3))) = true := by simpa using h
    rw [e]
    split
    · rename_i h'
      have e' : (y0 == v0 && (y1 == v1 && (y2 == v2 && y3 == v3))) = false := by simpa using h'
      rw [e']; rfl
    · rename_i h'
      have e' : (y0 == v0 && (y1 == v1 && (y2 == v2 && y3 == v3))) = true := by simpa using h'
      rw [e']
      cases n <;> cases k <;> rfl
/-- equality of points, by numbers -/
theorem eql_np {x0 x1 x2 x3 y0 y1 y2 y3 u0 u1 u2 u3 v0 v1 v2 v3 : Int} {x y u v : Nat} (n k : Bool) (r : Bool) (hx : W4 x0 x1 x2 x3 x) (hy : W4 y0 y1 y2 y3 y) (hu : W4 u0 u1 u2 u3 u) (hv : W4 v0 v1 v2 v3 v)
  (h : (decide (x = u) && (decide (y = v) && (n == k))) = r) (w : World) :
  (binOp .eql 52 (.agg #[.int .u64 x0, .int .u64 x1, .int .u64 x2, .int .u64 x3, .int .u64 y0, .int .u64 y1, .int .u64 y2, .int .u64 y3, .bool n]) (.agg #[.int .u64 u0, .int .u64 u1, .int .u64 u2, .int .u64 u3, .int .u64 v0, .int .u64 v1, .int .u64 v2, .int .u64 v3, .bool k])).run Try.prog w =
   .ok (.bool r) w := by
  rw [eql_pt, words_beq hx hu, words_beq hy hv, h]
end Go.Proofs.Ytgghopmlcpcpkaa
