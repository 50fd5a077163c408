/- The plain law of PoolAll. -/
import Derived.Test.YtjpajfgdbmeiiaaP11e

