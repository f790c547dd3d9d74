/- All models. -/
import Derived.Test.YteiaengicalapaaR60
import Derived.Test.YteiaengicalapaaR61
import Derived.Test.YteiaengicalapaaR62
import Derived.Test.YteiaengicalapaaR63
import Derived.Test.YteiaengicalapaaR64
import Derived.Test.YteiaengicalapaaR65
import Derived.Test.YteiaengicalapaaR66
import Derived.Test.YteiaengicalapaaR67
import Derived.Test.YteiaengicalapaaR68
import Derived.Test.YteiaengicalapaaR69
import Derived.Test.YteiaengicalapaaR610
import Derived.Test.YteiaengicalapaaR611
import Derived.Test.YteiaengicalapaaR612
import Derived.Test.YteiaengicalapaaR613
import Derived.Test.YteiaengicalapaaR614
