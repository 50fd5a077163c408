/- The plain law of LaneReserve. -/
import Derived.Test.YtjpajfgdbmeiiaaP12f

