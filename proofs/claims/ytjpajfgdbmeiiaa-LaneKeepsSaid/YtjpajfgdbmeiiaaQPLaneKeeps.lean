/- The plain law of LaneKeeps. -/
import Derived.Test.YtjpajfgdbmeiiaaP12f

