import Derived.Test.YtjkbblnebpgpfaaLP
/-! the base of the texts behind -/
