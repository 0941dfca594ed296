/- '==' and '!=' of structs. -/
import Derived.Test.YthlgjipbpgaobaaDoorBase
import Derived.Laws.StructEq
namespace Go.Proofs.YthlgjipbpgaobaaDoor
open Go.RowKit

theorem eqA_of {P : Program} {w : World} {d : Nat} {t : TypeId} {xs ys : Array Value} {fs : Array Field} {r : Bool} (hu : P.underlying t = some (.struct fs)) (hp : P.stoodInHeld t = false) (h : (Op.eqFields d xs ys fs.toList).run P w = .ok r w) :
    (Op.equalIn (d + 1) t (.agg xs) (.agg ys)).run P w = .ok r w := by
  have hf : P.fieldsOf t = fs := by simp [Program.fieldsOf, hu]
  rw [run_equalIn_agg w d t xs ys (by rw [hf]; exact hu) hp, hf]; exact h
set_option maxRecDepth 100000 in
theorem pair_eqIn (d : Nat) (a b x y : Str) (w : World) : (Op.equalIn (d + 2) 33 (.agg #[S a, S b]) (.agg #[S x, S y])).run Tryd.prog w = .ok ((a, b) == (x, y)) w := by
  refine eqA_of Tryd.underlying33 (by kernel_rfl) ?_
  simp only [Op.eqFields]
  go_simp
  by_cases h1 : a = x
  · by_cases h2 : b = y
    · simp [h1, h2]
    · have h3 : ((a, b) == (x, y)) = false := by simp [h1, h2]
      rw [if_pos h1, if_neg h2, h3]
  · have h3 : ((a, b) == (x, y)) = false := by simp [h1]
    rw [if_neg h1, h3]
theorem pair_neq (a b x y : Str) (w : World) : (binOp .neq 33 (.agg #[S a, S b]) (.agg #[S x, S y])).run Tryd.prog w = .ok (.bool ((a, b) != (x, y))) w := by
  rw [run_neq_struct, pair_eqIn 9998]; rfl
theorem pair_eql (a b x y : Str) (w : World) : (binOp .eql 33 (.agg #[S a, S b]) (.agg #[S x, S y])).run Tryd.prog w = .ok (.bool ((a, b) == (x, y))) w := by
  rw [run_eql_struct, pair_eqIn 9998]; rfl

end Go.Proofs.YthlgjipbpgaobaaDoor
