import Derived.Test.YtpglmeeledmkoaaProg
import Derived.Test.YtpglmeeledmkoaaVc
import Derived.Test.YtpglmeeledmkoaaT8
namespace Go.Proofs.Ytpglmeeledmkoaa
open Go.Vc

end Go.Proofs.Ytpglmeeledmkoaa
