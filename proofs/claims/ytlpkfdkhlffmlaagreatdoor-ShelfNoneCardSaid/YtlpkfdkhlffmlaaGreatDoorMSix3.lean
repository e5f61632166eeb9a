/-sixty:Decode-/
import Derived.Test.YtlpkfdkhlffmlaaGreatDoorMNc
import Derived.Test.YtlpkfdkhlffmlaaGreatDoorMGm
namespace Go.Proofs.YtlpkfdkhlffmlaaGreatDoor
set_option linter.unusedSimpArgs false
set_option linter.unusedVariables false
set_option maxRecDepth 100000
set_option maxHeartbeats 1600000
open Go.RowKit
def dec:Y8→Option (Y8)
 | []=>some []
 | [_]=>none
 | [x,y]=>(num x).bind fun p=>(num y).bind fun q=>if q<<<4=0#8 then some [p<<<2|||q>>>4]else none
 | [x,y,z]=>(num x).bind fun p=>(num y).bind fun q=>(num z).bind fun r=>if r<<<6=0#8 then some [p<<<2|||q>>>4,q<<<4|||r>>>2]else none
 |x::y::z::t::s=>(num x).bind fun p=>(num y).bind fun q=>(num z).bind fun r=>(num t).bind fun u=>(dec s).map fun o=>(p<<<2|||q>>>4)::(q<<<4|||r>>>2)::(r<<<6|||u)::o
section
variable {l:Y8} {j:Nat}
end
end Go.Proofs.YtlpkfdkhlffmlaaGreatDoor
