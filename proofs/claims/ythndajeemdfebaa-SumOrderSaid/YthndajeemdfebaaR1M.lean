/- All models. -/
import Derived.Test.YthndajeemdfebaaR10
import Derived.Test.YthndajeemdfebaaR11
import Derived.Test.YthndajeemdfebaaR12
