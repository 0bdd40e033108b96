/- The reference's May and Check. No conditions but sizes. -/
import Derived.Test.YtmpdggphhhljhaaDoorBrkFns
namespace Go.Proofs.YtmpdggphhhljhaaDoor.RefChk
set_option linter.unusedSimpArgs false
set_option linter.unusedVariables false
open Go.RowKit Go.Proofs.YtmpdggphhhljhaaDoor.PZ Go.Proofs.YtmpdggphhhljhaaDoorW.PrintWords Go.Proofs.YtmpdggphhhljhaaDoor.Aid Go.Proofs.YtmpdggphhhljhaaDoor.BrkFns


end Go.Proofs.YtmpdggphhhljhaaDoor.RefChk
