/- All printed texts. -/
import Derived.Test.YtnjmfbjgcfnanaaGreatSh0
import Derived.Test.YtnjmfbjgcfnanaaGreatSh1
import Derived.Test.YtnjmfbjgcfnanaaGreatSh2
import Derived.Test.YtnjmfbjgcfnanaaGreatSh3
