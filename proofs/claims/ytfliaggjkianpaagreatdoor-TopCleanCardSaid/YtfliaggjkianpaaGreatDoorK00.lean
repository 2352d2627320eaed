import Derived.Lib.Hide
import Derived.WalkKit
set_option linter.unusedVariables false
set_option linter.unusedSimpArgs false
set_option maxRecDepth 100000
namespace Go.Proofs.YtfliaggjkianpaaGreatDoor
theorem HD {p : Prop} (h : p) : Go.RowKit.Hid p := h
theorem SM {P : Program} {f : FuncId} {a : Array Value} {w w1 : World} {v : Value} {Q : Ending → World → Prop} (h : Calls P f a w fun e w' => e = .returned v ∧ w' = w1) (hQ : Q (.returned v) w1) : Calls P f a w Q := h.mono (by rintro e w' ⟨rfl, rfl⟩; exact hQ)
end Go.Proofs.YtfliaggjkianpaaGreatDoor
