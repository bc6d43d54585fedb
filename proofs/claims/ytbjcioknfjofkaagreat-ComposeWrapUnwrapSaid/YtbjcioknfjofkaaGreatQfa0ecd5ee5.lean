/- Texts put together. -/
import Derived.Test.YtbjcioknfjofkaaGreatQd8f6b1ff92

