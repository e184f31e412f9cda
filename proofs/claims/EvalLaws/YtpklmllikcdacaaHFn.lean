import Derived.Laws.EntriesVeiled
import Derived.Deep.WholeRow
import Derived.Test.YtpklmllikcdacaaWMore
