/- fasciclelaw08.ConfigCounts holds: of any config whether it may be, a segment's bytes, and how many segments any bytes are, are the document's; for every input, no condition. -/
import Derived.Test.YtfeaalfajcdalaaGx2
import Derived.Test.YtfeaalfajcdalaaLConfig
namespace Go.Proofs.Ytfeaalfajcdalaa.Pure
open Go.RowKit Go.Proofs.Ytfeaalfajcdalaa.G Go.Proofs.YtfeaalfajcdalaaW.PrintWords Go.Proofs.YtfeaalfajcdalaaW.PrintLast

theorem ConfigCounts : fasciclelaw08_ConfigCounts.Pure := by
  intro e s n he hs hn
  exact (LConfig.counts e s n (bounds_u8 he) (bounds_u32 hs) (bounds_u64 hn)).rounds

end Go.Proofs.Ytfeaalfajcdalaa.Pure
