/- The plain law of LaneLess. -/
import Derived.Test.YtjpajfgdbmeiiaaP12f

