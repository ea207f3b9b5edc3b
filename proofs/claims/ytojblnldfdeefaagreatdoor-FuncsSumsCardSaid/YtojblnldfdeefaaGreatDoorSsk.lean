import Derived.Test.YtojblnldfdeefaaGreatDoorA2
-- shim
