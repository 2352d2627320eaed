/- Two arrays of three ints, held against each other. -/
import Derived.ChangeKeysEq
import Derived.Laws.StructEq
namespace Go.Proofs.Ytbefbkjhfkdihaa

theorem eq_arr3 {P : Program} {t e : TypeId} {i : TypeInfo} (ht : P.underlying t = some (.array 3 e)) (he : P.underlying e = some (.int .i64)) (hi : P.info? e = some i) (hc : P.cellsOf e = 1) (hp : P.plainKey e = true)
    (a b c x y z : Int) (w : World) :
    (Op.equalIn 10000 t (.agg #[.int .i64 a, .int .i64 b, .int .i64 c]) (.agg #[.int .i64 x, .int .i64 y, .int .i64 z])).run P w = .ok (decide (a = x ∧ b = y ∧ c = z)) w := by
  have hs := fun w => run_sizeOf (w := w) hi
  rw [hc] at hs
  have p0 : ∀ (xs : Array Value) (o : Nat) v w, xs[o]? = some v → (part e xs o).run P w = .ok v w := fun xs o v w h => run_part_plain w hp h
  unfold Op.equalIn
  simp only [Sem.run_bind, run_underlying ht, Result.andThen_ok, hs]
  simp only [Std.Legacy.Range.forIn_eq_forIn_range', Std.Legacy.Range.size, Nat.sub_zero, Nat.add_one_sub_one, Nat.div_one]
  simp only [List.range', List.forIn_cons, List.forIn_nil, Sem.run_bind]
  by_cases h1 : a = x <;> by_cases h2 : b = y <;> by_cases h3 : c = z <;> simp [p0, run_equalIn_int w _ e .i64 .i64 _ _ he, h1, h2, h3, Result.andThen]
end Go.Proofs.Ytbefbkjhfkdihaa
