/- Plain laws. -/
import Derived.Test.YtckhkfheimmffaaDoorTextA
set_option linter.unusedSimpArgs false
set_option linter.unusedVariables false
set_option maxRecDepth 100000
namespace Go.Rv
open Go.Lib
end Go.Rv
namespace Go.Rv
open Go.Lib
end Go.Rv
namespace Go.Rv
open Go.Lib
def DupP (k:Int) (a b:fn104):Prop:=a.Id=b.Id->xv80 a.Id k=true
theorem DupP.symm {k:Int} {a b:fn104} (h:DupP k a b):DupP k b a:=fun e=>by rw [e];exact h e.symm
structure OneP (k:Int) (p:fn104):Prop where
 f:forB p.Id k=true
 v:xv58 p.Id p.N p.A p.B=true
 a:p.A.length ≤ 100
 b:p.B.length ≤ 100
structure ManyP (k:Int) (l:List fn104):Prop where
 one:∀ p ∈ l,OneP k p
 dup:l.Pairwise (DupP k)
end Go.Rv
namespace Go.Rv
theorem OneP.ok {k:Int} {p:fn104} (h:OneP k p):okB p=true:=by
 have:=h.v
 simp only [xv58,Bool.and_eq_true] at this
 exact this.1
end Go.Rv
namespace Go.Rv
end Go.Rv
namespace Go.Rv
theorem xv120 (x:tyL Tb [.g (.f (.a (.sl 1)))]) (hx:yv721 tab 4 [.g (.f (.a (.sl 1)))] x):fn45 x.1=some true:=by
 have h:(L x.1).length ≤ maxLen:=hx.1.1
 unfold maxLen at h
 exact xv163 x.1 h
end Go.Rv
