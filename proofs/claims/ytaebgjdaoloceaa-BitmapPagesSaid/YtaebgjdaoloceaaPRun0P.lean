/- A lemma file: small facts on the program's tests. No condition. -/
import Derived.Test.YtaebgjdaoloceaaPRunP
import Derived.Test.YtaebgjdaoloceaaQBmpPx2
namespace Go.Proofs.Ytaebgjdaoloceaa.PureB
open Go.RowKit Go.Proofs.Ytaebgjdaoloceaa.QBmpP Go.Proofs.YtaebgjdaoloceaaW.PrintWords Go.Proofs.YtaebgjdaoloceaaV
end Go.Proofs.Ytaebgjdaoloceaa.PureB
