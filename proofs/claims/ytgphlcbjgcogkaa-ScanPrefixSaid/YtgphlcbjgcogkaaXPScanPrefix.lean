/- The plain law. -/
import Derived.Test.YtgphlcbjgcogkaaPp

