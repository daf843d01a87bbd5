/- Strings, and arrays that are values, in the calculus of sparse frames. It states nothing of any program. -/
import Derived.Test.YtpglmeeledmkoaaVb
namespace Go.Vc
open Go

end Go.Vc
