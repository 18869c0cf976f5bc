/- Nothing: the place of a text of layer 9. -/
import Derived.Test.YtoimgijhekahhaaPx0
