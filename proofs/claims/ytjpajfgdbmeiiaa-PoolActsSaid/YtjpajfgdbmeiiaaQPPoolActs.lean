/- The plain law of PoolActs. -/
import Derived.Test.YtjpajfgdbmeiiaaP11b

