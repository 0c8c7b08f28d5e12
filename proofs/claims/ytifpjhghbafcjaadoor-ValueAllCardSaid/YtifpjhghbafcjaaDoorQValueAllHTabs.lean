/- Texts of ValueAll. Merged: HTabs. -/
import Derived.Test.YtifpjhghbafcjaaDoorQValueAllHText
import Derived.Test.YtifpjhghbafcjaaDoorQValueAllHDec
/- What the walks of Read ask of the world: strconv's table, and two variables that hold errors. -/
namespace Go.Proofs.YtifpjhghbafcjaaDoor.P
open Go.RowKit Go.Proofs.YtifpjhghbafcjaaDoorW.PrintWords Go.Proofs.YtifpjhghbafcjaaDoorW.PrintLast
structure TabsE (w : World) : Prop where
 t : Tabs w
 syn : HasErr w 2
 rng : HasErr w 3
theorem TabsE.on {w w1 : World} (h : TabsE w) (hb : Below w.heap.size w w1) : TabsE w1:=⟨h.t.on hb,h.syn.on h.syn.1 hb,h.rng.on h.rng.1 hb⟩
end Go.Proofs.YtifpjhghbafcjaaDoor.P

