/-
  A region that draws its order, whose operations only read, and whose callees at most make new blocks: walked once, in the order of the text.
-/
import Derived.Test.YtjghmgpmaallfaaSim
import Derived.Deep.QuietTactic
import Derived.BigQuiet
namespace Go.Proofs.Ytjghmgpmaallfaa
open Go.RowKit
set_option linter.unusedVariables false
set_option linter.unusedSimpArgs false

/-- the worlds that differ from W by new blocks alone. -/
structure Good (W : World) where
  u : World
  b : Below W.heap.size W u
instance (W : World) : Nonempty (Good W) := ⟨⟨W, Below.refl _ _⟩⟩
theorem wp_region_good {P : Program} {id : Nat} {Q : Exit → Act → World → Prop} {a : Act} {w : World} {l : List Oper} (hm : P.follows .mixedOrders = true) (hB : Region.lexB .any l.toArray = true)
    (h : wpQuiet P l.toArray (fun w' => ∃ x : Good w, w' = x.u) (fun a' => ∀ w', (∃ x : Good w, w' = x.u) → Q .normal a' w') l a) : (Code.region id l.toArray true).wp P Q a w :=
  wp_region_quiet (C := fun w' => ∃ x : Good w, w' = x.u) hm hB ⟨⟨w.drew, (Below.refl _ _).drew⟩, rfl⟩ (by simpa using h)
/-- the same, the world ahead of the region under a name. -/
theorem wp_region_goodw {P : Program} {id : Nat} {Q : Exit → Act → World → Prop} {a : Act} {w : World} {l : List Oper} (hm : P.follows .mixedOrders = true) (hB : Region.lexB .any l.toArray = true)
    (h : ∀ W, W = w → wpQuiet P l.toArray (fun w' => ∃ x : Good W, w' = x.u) (fun a' => ∀ w', (∃ x : Good W, w' = x.u) → Q .normal a' w') l a) : (Code.region id l.toArray true).wp P Q a w :=
  wp_region_good hm hB (h w rfl)
/-- a callee that makes new blocks alone, met in such a region. -/
theorem Calls.good {P : Program} {f : FuncId} {args : Array Value} {W : World} {x : Good W} {v : Value} (h : Calls P f args x.u fun e w' => e = .returned v ∧ Below x.u.heap.size x.u w') :
    Calls P f args x.u fun e w'' => e = .returned v ∧ ∃ y : Good W, w'' = y.u :=
  h.mono fun e w'' ⟨he, hb⟩ => ⟨he, ⟨w'', below_step x.b x.b.size hb⟩, rfl⟩
theorem goodRow {W : World} {g : Nat} {o : Obj} (h : rowAt W g = some o) (x : Good W) : rowAt x.u g = some o := rowNext' x.b h
end Go.Proofs.Ytjghmgpmaallfaa
