/- arrow.mover: path, left, right, home, up (where there is no caret). Written by wip/genarr.py. -/
import Derived.Test.YtmahiejfniaahaaDoorGF
import Derived.Test.YtmahiejfniaahaaDoorGR
import Derived.Test.YtmahiejfniaahaaDoorGI
import Derived.Test.YtmahiejfniaahaaDoorGM
set_option linter.unusedVariables false
set_option linter.unusedSimpArgs false
set_option maxRecDepth 100000
namespace Go.Proofs.YtmahiejfniaahaaDoor
open Go.RowKit

/-- The sixteen cells of a mover. -/
abbrev moverC (t : Tree) (b : Bx) (A Ak As Ap : Option Addr) (cap ck cs pn cp : Nat) : Array Value := #[.int .i64 t.kind, .string t.text, .int .i64 t.cols, .slice A t.kids.length cap, .int .i64 b.f.kind, .string b.f.name, .int .i64 b.f.size, .int .i64 b.f.w, .int .i64 b.f.h, .int .i64 b.f.d, .int .i64 b.f.x, .int .i64 b.f.y, .slice Ak b.kids.length ck, .int .i64 b.f.of_, .slice As b.f.src.length cs, .slice Ap pn cp]
/-- A mover's cells in a block. -/
def MovBox (W : World) (g : Nat) (arr : Array Value) : Prop := ∀ j u, arr[j]? = some u → W.cell? ⟨g, j, none⟩ = some u
theorem MovBox.below {W W' : World} {B g : Nat} {arr : Array Value} (h : MovBox W g arr) (hb : Below B W W') (hB : g < B) : MovBox W' g arr := fun j u hu => ((bcell hb).1 g j hB).trans (h j u hu)
theorem MovBox.new (w : World) (arr : Array Value) (T : TypeId) (g : Nat) (hg : g = w.heap.size) : MovBox (w.alloc (.cells arr T)) g arr := fun j u hu => (cNew _ _ _ _ _ hg).trans hu
section
variable (tk : Int) (tx : ByteArray) (tc : Int) (tn cap : Nat) (A Ak As Ap : Option Addr) (kind size bw bh bd bx by_ of_ : Int) (name : ByteArray) (kn ck sn cs pn cp : Nat)

end
end Go.Proofs.YtmahiejfniaahaaDoor
