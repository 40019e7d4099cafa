/- fasciclelaw08.ConfigWhere holds: a byte of any bytes stands within the bounds of its segment, so far from where that begins, and in no other segment's; for every input, no condition. -/
import Derived.Test.YtfeaalfajcdalaaGx2
import Derived.Test.YtfeaalfajcdalaaLConfig
namespace Go.Proofs.Ytfeaalfajcdalaa.Pure
open Go.RowKit Go.Proofs.Ytfeaalfajcdalaa.G Go.Proofs.YtfeaalfajcdalaaW.PrintWords Go.Proofs.YtfeaalfajcdalaaW.PrintLast

theorem ConfigWhere : fasciclelaw08_ConfigWhere.Pure := by
  intro e s n a o he hs hn ha ho
  exact LConfig.where_ e s n a o (bounds_u64 hn) (bounds_u64 ha) (bounds_u64 ho)

end Go.Proofs.Ytfeaalfajcdalaa.Pure
