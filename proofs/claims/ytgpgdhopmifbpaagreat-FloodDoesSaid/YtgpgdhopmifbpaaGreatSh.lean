/- All printed texts. -/
import Derived.Test.YtgpgdhopmifbpaaGreatSh0
import Derived.Test.YtgpgdhopmifbpaaGreatSh1
import Derived.Test.YtgpgdhopmifbpaaGreatSh2
import Derived.Test.YtgpgdhopmifbpaaGreatSh3
import Derived.Test.YtgpgdhopmifbpaaGreatSh4
import Derived.Test.YtgpgdhopmifbpaaGreatSh5
import Derived.Test.YtgpgdhopmifbpaaGreatSh6
import Derived.Test.YtgpgdhopmifbpaaGreatSh7
