/- All printed texts. -/
import Derived.Test.YtimdngcmbmamdaaSh0
import Derived.Test.YtimdngcmbmamdaaSh1
import Derived.Test.YtimdngcmbmamdaaSh2
import Derived.Test.YtimdngcmbmamdaaSh3
import Derived.Test.YtimdngcmbmamdaaSh4
import Derived.Test.YtimdngcmbmamdaaSh5
import Derived.Test.YtimdngcmbmamdaaSh6
import Derived.Test.YtimdngcmbmamdaaSh7
import Derived.Test.YtimdngcmbmamdaaSh8
