/- The plain law of PoolOne. -/
import Derived.Test.YtjpajfgdbmeiiaaP11f

