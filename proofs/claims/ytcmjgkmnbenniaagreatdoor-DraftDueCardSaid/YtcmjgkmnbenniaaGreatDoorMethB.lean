/- More methods of a bill. Written by wip/meth.py. -/
import Derived.Test.YtcmjgkmnbenniaaGreatDoorMeth
namespace Go.Proofs.YtcmjgkmnbenniaaGreatDoor.Ext
open Go.RowKit Go.Proofs.YtcmjgkmnbenniaaGreatDoorW.PrintWords Go.Proofs.YtcmjgkmnbenniaaGreatDoorW.PrintLast
def holdCode (x : ByteArray) (day : Int) (b : St) : Int := chain [(1, nameB x && dayB day), (6, decide (b.last ≤ day)), (9, [(0 : Int), 1].contains b.state), (8, x.toList == b.holder.toList)]
def protestSt (c day : Int) (b : St) : St := if c = 0 then { b with state := 3, last := day } else b
end Go.Proofs.YtcmjgkmnbenniaaGreatDoor.Ext
