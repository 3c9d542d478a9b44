/- For every input StreetNets returns true and leaves its arguments as they were; no condition. -/
import Derived.Test.YtmedbghkldmlhaaP16
import Derived.Test.YtmedbghkldmlhaaP23
namespace Go.Proofs.Ytmedbghkldmlhaa

theorem streetNets_holds : Rows.StreetNetsSaid := nets_of awake_c
#print axioms streetNets_holds
end Go.Proofs.Ytmedbghkldmlhaa
