/- The plain law, and what it needs. -/
import Derived.Test.YtlebjdkabepmkaaP4d

