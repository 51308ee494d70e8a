/- Merged: RW9, RWA. -/
import Derived.Test.YtbdkgpcdkalfdaaGreatNcRWX
import Derived.Test.YtbdkgpcdkalfdaaGreatNcRBC
import Derived.Test.YtbdkgpcdkalfdaaGreatNcUA
import Derived.Test.YtbdkgpcdkalfdaaGreatNcUB
import Derived.Test.YtbdkgpcdkalfdaaGreatNcJE
namespace Go.Nc
open Go.Proofs
end Go.Nc