/- The plain law of LanePlans. -/
import Derived.Test.YtjpajfgdbmeiiaaP12e

