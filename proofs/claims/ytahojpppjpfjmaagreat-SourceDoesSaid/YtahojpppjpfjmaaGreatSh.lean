/- All printed texts. -/
import Derived.Test.YtahojpppjpfjmaaGreatSh0
import Derived.Test.YtahojpppjpfjmaaGreatSh1
import Derived.Test.YtahojpppjpfjmaaGreatSh2
import Derived.Test.YtahojpppjpfjmaaGreatSh3
import Derived.Test.YtahojpppjpfjmaaGreatSh4
import Derived.Test.YtahojpppjpfjmaaGreatSh5
import Derived.Test.YtahojpppjpfjmaaGreatSh6
import Derived.Test.YtahojpppjpfjmaaGreatSh7
