/- region_set again, where what the quiet operations tell depends on what was drawn. It states nothing of any program. -/
import Derived.Test.YtkkpghlcmcaoiaaDoorVd
namespace Go.Vc
open Go

section
variable {F : Fence} {P : Program} {ops : Array Oper} {Q : Exit → Act → World → Prop} {a : Act} {w : World} {n : Nat} {ds : List Deferred} {m : Fm}

end
end Go.Vc
