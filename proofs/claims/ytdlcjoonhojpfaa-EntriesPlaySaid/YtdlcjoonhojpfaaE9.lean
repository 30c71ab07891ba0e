/- The calls of the package entries, walked through operation by operation. -/
import Derived.Test.YtdlcjoonhojpfaaE0
import Derived.Test.YtdlcjoonhojpfaaT1
import Derived.Test.YtdlcjoonhojpfaaE1
import Derived.Test.YtdlcjoonhojpfaaE2
import Derived.Test.YtdlcjoonhojpfaaE3
import Derived.Test.YtdlcjoonhojpfaaE4
import Derived.Test.YtdlcjoonhojpfaaE5
import Derived.Test.YtdlcjoonhojpfaaE6
namespace Go.Proofs.Ytdlcjoonhojpfaa
open Go.RowKit Go.SL Go.E17
attribute [local irreducible] Go.SL.RW Go.SL.CW Go.SL.RD Go.SL.Hd Go.SL.St
set_option linter.unusedVariables false
set_option linter.unusedSimpArgs false



/-- entries that came in: their parts last -/
def ELas (p : Pers) (x : Ent) : Prop := Las p 1 (.slice x.X x.ns.length x.xc) x.ns.length (bv x.ns) ∧ Las p 1 (.slice x.Y x.ms.length x.yc) x.ms.length (iv x.ms)
def EsLas (p : Pers) (es : List Ent) : Prop := ∀ x ∈ es, ELas p x
theorem EsLas.le {p q : Pers} {es : List Ent} (h : EsLas p es) (l : p.le q) : EsLas q es := fun x hx => ⟨(h x hx).1.le l, (h x hx).2.le l⟩
theorem iv_take (ms : List Int) (k : Nat) : (iv ms).take k = iv (ms.take k) := by simp [iv]

end Go.Proofs.Ytdlcjoonhojpfaa
