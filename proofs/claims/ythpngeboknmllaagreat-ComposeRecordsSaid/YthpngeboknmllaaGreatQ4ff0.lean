/- T -/
import Derived.Test.YthpngeboknmllaaGreatQ4f22
set_option linter.unusedVariables false
set_option linter.unusedSimpArgs false
namespace Go.Proofs.YthpngeboknmllaaGreat
open Go.RowKit
abbrev Zm (op:ZL) (vr vn:Value):Array Value :=
 #[.int .i64 op.kind,vr,.int .i64 op.at_,.int .i64 op.n,vn,.int .i64 op.slot,.string op.old,.string op.text]
structure ZL.Ok (op:ZL):Prop where
 at_:Bd 1099511627776 op.at_
 n:Bd 1099511627776 op.n
 slot:Bd 1099511627776 op.slot
 nodes:op.nodes.length<=1000000
 row:op.row.length<=1000
def Wu (op:ZL) (o:Int) (after:Bool):List Int :=
 if op.kind=1/\(op.at_<o\/o=op.at_/\after=true) then [o+op.nodes.length]
 else if op.kind=2/\op.at_<o then (if o<op.at_+op.nodes.length then [op.at_] else [o-op.nodes.length])
 else if op.kind=3/\op.at_<o then (if o<op.at_+op.n then [op.at_,op.slot,o-op.at_] else [o-op.n+1])
 else if op.kind=3/\o=op.at_/\op.n=0/\after=true then [op.at_+1]
 else if op.kind=4/\op.at_<o then [o-1+op.n]
 else [o]
