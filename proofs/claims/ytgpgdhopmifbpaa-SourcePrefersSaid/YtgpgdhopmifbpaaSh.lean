/- All printed texts. -/
import Derived.Test.YtgpgdhopmifbpaaSh0
import Derived.Test.YtgpgdhopmifbpaaSh1
import Derived.Test.YtgpgdhopmifbpaaSh2
import Derived.Test.YtgpgdhopmifbpaaSh3
import Derived.Test.YtgpgdhopmifbpaaSh4
import Derived.Test.YtgpgdhopmifbpaaSh5
import Derived.Test.YtgpgdhopmifbpaaSh6
