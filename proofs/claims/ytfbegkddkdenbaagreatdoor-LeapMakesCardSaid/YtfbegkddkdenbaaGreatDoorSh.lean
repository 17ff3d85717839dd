/- All printed texts. -/
import Derived.Test.YtfbegkddkdenbaaGreatDoorSh0
