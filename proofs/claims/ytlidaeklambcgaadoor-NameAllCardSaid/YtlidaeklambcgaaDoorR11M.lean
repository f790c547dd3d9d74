/- All models. -/
import Derived.Test.YtlidaeklambcgaaDoorR110
import Derived.Test.YtlidaeklambcgaaDoorR111
import Derived.Test.YtlidaeklambcgaaDoorR112
import Derived.Test.YtlidaeklambcgaaDoorR113
import Derived.Test.YtlidaeklambcgaaDoorR114
import Derived.Test.YtlidaeklambcgaaDoorR115
