/- The plain law of PoolKeeps. -/
import Derived.Test.YtjpajfgdbmeiiaaP11c

