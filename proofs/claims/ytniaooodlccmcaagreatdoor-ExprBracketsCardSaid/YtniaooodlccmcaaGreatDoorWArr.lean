import Derived.Test.YtniaooodlccmcaaGreatDoorWWords
namespace Go.Proofs.YtniaooodlccmcaaGreatDoorW.PrintWords
open Go.RowKit
namespace Kd
end Kd
end Go.Proofs.YtniaooodlccmcaaGreatDoorW.PrintWords

