/- The plain law of LaneZones. -/
import Derived.Test.YtjpajfgdbmeiiaaP12f

