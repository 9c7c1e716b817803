/- PassExact, its arguments' opening, the errors that are laid. -/
import Derived.Test.YtklppplnkpnbhaaDoorRef20R
import Derived.Test.YtklppplnkpnbhaaDoorOpenP
import Derived.Test.YtklppplnkpnbhaaDoorErrL
