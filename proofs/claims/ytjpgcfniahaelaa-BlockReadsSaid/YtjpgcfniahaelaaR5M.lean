/- All models. -/
import Derived.Test.YtjpgcfniahaelaaR50
import Derived.Test.YtjpgcfniahaelaaR51
import Derived.Test.YtjpgcfniahaelaaR52
import Derived.Test.YtjpgcfniahaelaaR53
import Derived.Test.YtjpgcfniahaelaaR54
import Derived.Test.YtjpgcfniahaelaaR55
import Derived.Test.YtjpgcfniahaelaaR56
import Derived.Test.YtjpgcfniahaelaaR57
import Derived.Test.YtjpgcfniahaelaaR58
import Derived.Test.YtjpgcfniahaelaaR59
import Derived.Test.YtjpgcfniahaelaaR510
import Derived.Test.YtjpgcfniahaelaaR511
import Derived.Test.YtjpgcfniahaelaaR512
import Derived.Test.YtjpgcfniahaelaaR513
import Derived.Test.YtjpgcfniahaelaaR514
