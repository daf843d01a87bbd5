import Derived.Test.YtkkpghlcmcaoiaaDoorS18
import Derived.Test.YtkkpghlcmcaoiaaDoorTn
namespace Go.Proofs.YtkkpghlcmcaoiaaDoor
open Go.Vc Go.Gm

end Go.Proofs.YtkkpghlcmcaoiaaDoor
