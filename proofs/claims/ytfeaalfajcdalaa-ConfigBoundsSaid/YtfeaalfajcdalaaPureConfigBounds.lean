/- fasciclelaw08.ConfigBounds holds: of any config, bytes and segment its bounds are the document's; for every input, no condition. -/
import Derived.Test.YtfeaalfajcdalaaGx2
import Derived.Test.YtfeaalfajcdalaaLConfig
namespace Go.Proofs.Ytfeaalfajcdalaa.Pure
open Go.RowKit Go.Proofs.Ytfeaalfajcdalaa.G Go.Proofs.YtfeaalfajcdalaaW.PrintWords Go.Proofs.YtfeaalfajcdalaaW.PrintLast

theorem ConfigBounds : fasciclelaw08_ConfigBounds.Pure := by
  intro e s n i he hs hn hi
  exact (LConfig.bounds e s n i (bounds_u64 hn) (bounds_u64 hi)).rounds

end Go.Proofs.Ytfeaalfajcdalaa.Pure
