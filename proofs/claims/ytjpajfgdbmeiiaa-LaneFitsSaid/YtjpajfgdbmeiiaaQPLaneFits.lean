/- The plain law of LaneFits. -/
import Derived.Test.YtjpajfgdbmeiiaaP12e

