/- A lemma file: 'awake' answers true. No condition. -/
import Derived.Test.YtlhdfdedhdcmiaaVPlain
import Derived.Test.YtlhdfdedhdcmiaaQBitsx7
namespace Go.Proofs.Ytlhdfdedhdcmiaa.Pure
open Go.RowKit Go.Proofs.Ytlhdfdedhdcmiaa.QBits Go.Proofs.YtlhdfdedhdcmiaaW.PrintWords Go.Proofs.YtlhdfdedhdcmiaaV
theorem awake_ok : dioramalaw01_awake.f 20 = some true := by decide +kernel
theorem awake_ev : Ev (fun k => dioramalaw01_awake.f k) true := Ev.of dioramalaw01_awake.mono awake_ok
end Go.Proofs.Ytlhdfdedhdcmiaa.Pure
