/- Texts as bytes: the reference's Encode, and the sizes. No conditions but sizes. -/
import Derived.Test.YtmpdggphhhljhaaDoorUtfSpec8
import Derived.Test.YtmpdggphhhljhaaDoorPCx5
namespace Go.Proofs.YtmpdggphhhljhaaDoor.UtfSpec
set_option linter.unusedSimpArgs false
set_option linter.unusedVariables false
open Go.RowKit Go.Proofs.YtmpdggphhhljhaaDoor.PC Go.Proofs.YtmpdggphhhljhaaDoorW.PrintWords Go.Proofs.YtmpdggphhhljhaaDoor.Aid Go.Proofs.YtmpdggphhhljhaaDoor.BrkFns
end Go.Proofs.YtmpdggphhhljhaaDoor.UtfSpec
