/- PassUnlike and its argument's opening. -/
import Derived.Test.YtklppplnkpnbhaaDoorUnlike
import Derived.Test.YtklppplnkpnbhaaDoorOpenP
