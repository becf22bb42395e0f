/- Own text: MP. -/
import Derived.Test.YtlljehkmemajkaaGenp0
