/- The walk of ElectionNil, whole. -/
import Derived.Test.YtngmfmmmkmmhbaaGreatPElectionNilx0
