/- All models. -/
import Derived.Test.YtjdfekampbbkaaaR40
import Derived.Test.YtjdfekampbbkaaaR41
import Derived.Test.YtjdfekampbbkaaaR42
import Derived.Test.YtjdfekampbbkaaaR43
import Derived.Test.YtjdfekampbbkaaaR44
import Derived.Test.YtjdfekampbbkaaaR45
import Derived.Test.YtjdfekampbbkaaaR46
import Derived.Test.YtjdfekampbbkaaaR47
import Derived.Test.YtjdfekampbbkaaaR48
import Derived.Test.YtjdfekampbbkaaaR49
import Derived.Test.YtjdfekampbbkaaaR410
import Derived.Test.YtjdfekampbbkaaaR411
