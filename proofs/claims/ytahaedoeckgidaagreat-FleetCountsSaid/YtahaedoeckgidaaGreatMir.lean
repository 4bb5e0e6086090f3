/- The mirrors, whichever seat's. -/
import Derived.Test.YtahaedoeckgidaaGreatZgM
