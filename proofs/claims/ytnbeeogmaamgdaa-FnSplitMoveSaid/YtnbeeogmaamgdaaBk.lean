/- Plain mathematics on what leads back, and on products of moves. No program in sight. -/
import Derived.Test.YtnbeeogmaamgdaaMat2
namespace Go.Proofs.Ytnbeeogmaamgdaa.Aid
open Go.RowKit Go.Proofs.YtnbeeogmaamgdaaW.PrintWords Go.Proofs.YtnbeeogmaamgdaaW.PrintLast Go.Proofs.YtnbeeogmaamgdaaW.PrintMore
end Go.Proofs.Ytnbeeogmaamgdaa.Aid
