/- The texts that the claims share. -/
import Derived.Test.YtaibkpbklfodiaaGreatDoorV30
import Derived.Test.YtaibkpbklfodiaaGreatDoorV36
import Derived.Test.YtaibkpbklfodiaaGreatDoorV19
import Derived.Test.YtaibkpbklfodiaaGreatDoorV1
import Derived.Test.YtaibkpbklfodiaaGreatDoorV25
set_option linter.all false
/- The texts that the claims share. -/
