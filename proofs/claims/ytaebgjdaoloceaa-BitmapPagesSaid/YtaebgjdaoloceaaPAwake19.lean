/- A lemma file: 'awake' of chapter 19 answers true. No condition. -/
import Derived.Test.YtaebgjdaoloceaaVPlain
import Derived.Test.YtaebgjdaoloceaaQBmpPx2
namespace Go.Proofs.Ytaebgjdaoloceaa.Pure
open Go.RowKit Go.Proofs.Ytaebgjdaoloceaa.QBmpP Go.Proofs.YtaebgjdaoloceaaW.PrintWords Go.Proofs.YtaebgjdaoloceaaV
theorem ev_awake : Ev (fun k => dioramalaw19_awake.f k) true := Ev.of (fun k => dioramalaw19_awake.mono k) (k := 40) (by decide +kernel)
end Go.Proofs.Ytaebgjdaoloceaa.Pure
