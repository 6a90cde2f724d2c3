/- What the print of DraftDue leans on. -/
import Derived.Test.YtcmjgkmnbenniaaGreatDoorXx10
import Derived.Test.YtcmjgkmnbenniaaGreatDoorXx12
import Derived.Test.YtcmjgkmnbenniaaGreatDoorXx13
import Derived.Test.YtcmjgkmnbenniaaGreatDoorXx14
import Derived.Test.YtcmjgkmnbenniaaGreatDoorExtZ
import Derived.Test.YtcmjgkmnbenniaaGreatDoorText
