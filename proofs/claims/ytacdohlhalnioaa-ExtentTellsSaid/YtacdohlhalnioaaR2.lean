/- A walk that doesn't panic, under any post: without the program. -/
import Derived.Test.YtacdohlhalnioaaR1
namespace Go.Proofs.Ytacdohlhalnioaa
open Go.RowKit

def NoPanic (Q : Exit → Act → World → Prop) : Exit → Act → World → Prop := fun e a w => (∀ c, e ≠ .panic c) ∧ Q e a w
theorem wp_noPanic {P : Program} {c : Code} {Q : Exit → Act → World → Prop} {a : Act} {w : World} (h : c.wp P (NoPanic Q) a w) : c.wp P Q a w := Code.wp_mono (fun _ _ _ h => h.2) h
theorem noPanic_normal {Q : Exit → Act → World → Prop} {a : Act} {w : World} (h : Q .normal a w) : NoPanic Q .normal a w := ⟨(by intro c hc; cases hc), h⟩
end Go.Proofs.Ytacdohlhalnioaa
