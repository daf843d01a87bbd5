import Derived.Test.YtpglmeeledmkoaaProg
import Derived.Test.YtpglmeeledmkoaaVc
import Derived.Test.YtpglmeeledmkoaaCp
import Derived.Test.YtpglmeeledmkoaaT27
namespace Go.Proofs.Ytpglmeeledmkoaa
open Go.Vc

end Go.Proofs.Ytpglmeeledmkoaa
