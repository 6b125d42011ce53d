/- A part of the proof that the text which Print makes of a parsed text is a normal form -/
import Derived.Test.YtbapfnpbamnmpaaGreatDoorP00
import Derived.Test.YtbapfnpbamnmpaaGreatDoorP10
import Derived.Test.YtbapfnpbamnmpaaGreatDoorP11
import Derived.Test.YtbapfnpbamnmpaaGreatDoorP12
import Derived.Test.YtbapfnpbamnmpaaGreatDoorP13
import Derived.Test.YtbapfnpbamnmpaaGreatDoorP14
import Derived.Test.YtbapfnpbamnmpaaGreatDoorP15
import Derived.Test.YtbapfnpbamnmpaaGreatDoorP16
import Derived.Test.YtbapfnpbamnmpaaGreatDoorP17
import Derived.Test.YtbapfnpbamnmpaaGreatDoorP08
set_option maxHeartbeats 8000000
set_option maxRecDepth 100000
namespace Go.Proofs.YtbapfnpbamnmpaaGreatDoor
open Go Go.RowKit Go.Dig Go.Deep Go.Eng Go.Proofs.Tryz
theorem fh{a b:Bool}(ha:a=true)(hb:b=true):(a&&b)=true:=by rw[ha,hb];rfl
theorem Yr:joinedFacts prog 5 Tryz.f5 (OpenSpec.ofChange Rows.claimNormalSpec).bare Rows.claimNormalRow=true:=by
 unfold joinedFacts;exact(fh (fh (fh (fh (fh (fh (fh (fh (fh (fh (fh (fh (fh (fh (fh (fh (fh (fh (fh (fh (fh (fh (fh (fh (fh (fh (fh (fh (fh (fh (fh cl0 laidOut) cl2) cl3) cl4) cl5) cl6) cl7) cl8) cl9) alr) als) alu) alA) alB) alC) alD) alE) alF) alG) alH) alI) alv) alJ) alw) alx) aly) alz) alK) alL) alM) alN)
end Go.Proofs.YtbapfnpbamnmpaaGreatDoor
