import Derived.Test.YtbhljokhcmfgjaaLP
/-! the base of the texts behind -/
