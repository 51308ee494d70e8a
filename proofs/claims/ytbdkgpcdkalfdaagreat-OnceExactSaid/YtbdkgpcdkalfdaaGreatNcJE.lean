import Derived.Test.YtbdkgpcdkalfdaaGreatNcJC
namespace Go.Nc
open Go.Proofs
end Go.Nc