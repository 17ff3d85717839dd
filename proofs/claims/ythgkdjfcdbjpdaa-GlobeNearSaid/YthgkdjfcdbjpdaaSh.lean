/- All printed texts. -/
import Derived.Test.YthgkdjfcdbjpdaaSh0
import Derived.Test.YthgkdjfcdbjpdaaSh1
import Derived.Test.YthgkdjfcdbjpdaaSh2
import Derived.Test.YthgkdjfcdbjpdaaSh3
