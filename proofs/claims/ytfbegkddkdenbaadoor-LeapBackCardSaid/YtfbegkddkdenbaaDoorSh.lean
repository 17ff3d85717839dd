/- All printed texts. -/
import Derived.Test.YtfbegkddkdenbaaDoorSh0
import Derived.Test.YtfbegkddkdenbaaDoorSh1
