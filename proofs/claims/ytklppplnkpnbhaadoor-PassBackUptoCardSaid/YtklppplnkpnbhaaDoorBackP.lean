/- PassBack, its arguments' opening, the errors that are laid. -/
import Derived.Test.YtklppplnkpnbhaaDoorBack
import Derived.Test.YtklppplnkpnbhaaDoorOpenP
import Derived.Test.YtklppplnkpnbhaaDoorErrL
