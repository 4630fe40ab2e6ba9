/- Plain laws. -/
import Derived.Test.YtckhkfheimmffaaDoorTextA
set_option linter.unusedSimpArgs false
set_option linter.unusedVariables false
set_option maxRecDepth 100000
namespace Go.Rv
open Go.Lib
def DupP (k:Int) (a b:fn104):Prop:=a.Id=b.Id->xv30 a.Id k=true
theorem DupP.symm {k:Int} {a b:fn104} (h:DupP k a b):DupP k b a:=fun e=>by rw [e];exact h e.symm
structure OneP (k:Int) (p:fn104):Prop where
 f:forB p.Id k=true
 v:xv31 p.Id p.N p.A p.B=true
 a:p.A.length ≤ 100
 b:p.B.length ≤ 100
structure ManyP (k:Int) (l:List fn104):Prop where
 one:∀ p ∈ l,OneP k p
 dup:l.Pairwise (DupP k)
end Go.Rv
namespace Go.Rv
theorem OneP.ok {k:Int} {p:fn104} (h:OneP k p):okB p=true:=by
 have:=h.v
 simp only [xv31,Bool.and_eq_true] at this
 exact this.1
end Go.Rv
namespace Go.Rv
end Go.Rv
namespace Go.Rv
theorem xv101 (x:tyL Tb [.g (.f (.a (.n .i64))),.g (.f (.a (.sl 1))),.g (.f (.a .u8))]) (hx:yv721 tab 4 [.g (.f (.a (.n .i64))),.g (.f (.a (.sl 1))),.g (.f (.a .u8))] x):fn35 x.1 x.2.1 x.2.2.1=some true:=by
 have h:(L x.2.1).length ≤ maxLen:=hx.2.1.1
 unfold maxLen at h
 exact xv85 x.1 x.2.1 x.2.2.1 h
end Go.Rv
