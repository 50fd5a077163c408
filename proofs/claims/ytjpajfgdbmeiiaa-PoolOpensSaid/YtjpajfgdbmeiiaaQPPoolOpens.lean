/- The plain law of PoolOpens. -/
import Derived.Test.YtjpajfgdbmeiiaaP11d

