/- That the program's functions are these plain functions. -/
import Derived.Test.YtckhkfheimmffaaDoorPure
import Derived.Test.YtckhkfheimmffaaDoorChecked
set_option linter.unusedSimpArgs false
set_option linter.unusedVariables false
set_option maxRecDepth 100000
namespace Go.Rv
open Go.Proofs
def Wp:World->Prop:=TrydWp
abbrev WK (o:Orc Tb) (f:Nat):Prop:=o.Ok Tryd.prog Wp tab f
abbrev CK (o:Cut Tb) (n:Nat) (c:TCode Tb):Prop:=o.Ok Tryd.prog Wp tab n c
abbrev RK (r:Orcs Tb):Prop:=yv39 Tryd.prog Wp tab r
def noCut:TCode Tb->Bool
 | .seq a b=>noCut a && noCut b
 | .cond _ a b=>noCut a && noCut b
 | .block _ b=>noCut b
 | .loop b=>noCut b
 | .drop _ c=>noCut c
 | .frz _ _ c=>noCut c
 | .fend _ c=>noCut c
 | .thw _ c=>noCut c
 | .rng _ _ a b=>noCut a && noCut b
 | .cut _ _ _=>false
 | .fin _ _ _=>false
 | _=>true
theorem no_cut {p:Nat->Cut Tb->TCode Tb->Prop}:∀ (c:TCode Tb),noCut c=true->allC p c
 | .seq a b,h=>by simp only [noCut,Bool.and_eq_true] at h;exact ⟨no_cut a h.1,no_cut b h.2⟩
 | .cond _ a b,h=>by simp only [noCut,Bool.and_eq_true] at h;exact ⟨no_cut a h.1,no_cut b h.2⟩
 | .block _ b,h=>no_cut b h
 | .loop b,h=>no_cut b h
 | .drop _ c,h=>no_cut c h
 | .frz _ _ c,h=>no_cut c h
 | .fend _ c,h=>no_cut c h
 | .thw _ c,h=>no_cut c h
 | .rng _ _ a b,h=>by simp only [noCut,Bool.and_eq_true] at h;exact ⟨no_cut a h.1,no_cut b h.2⟩
 | .cut _ _ _,h=>by cases h
 | .fin _ _ _,h=>by cases h
 | .skip,_=>trivial
 | .reg _ _,_=>trivial
 | .exit _,_=>trivial
 | .ret,_=>trivial
theorem uC {p:Nat->Cut Tb->TCode Tb->Prop} {c:TCode Tb} (h:noCut c=true:=by kernel_rfl):allC p c:=no_cut c h
theorem oneD {Y:Type} {sr:Sh} {sh:List (List Sh)} {tq:sr.ty Tb->tyH Tb sh->Y} {ofr:Y->sr.ty Tb} {ofh:Y->tyH Tb sh} (h1:∀ a b,ofr (tq a b)=a:=by intro _ _;kernel_rfl) (h2:∀ a b,ofh (tq a b)=b:=by intro _ _;kernel_rfl):(RSp.one tab sr sh tq ofr ofh).Ok:=RSp.one_ok tabOk h1 h2
structure OP:Type 1 where
 f:Nat
 w:Orc Tb
 k:WK w f
def op {f:Nat} {w:Orc Tb} (k:WK w f):OP:=⟨f,w,k⟩
def ors:List OP->Orcs Tb
 | []=>[]
 | o::l=>(o.f,o.w)::ors l
theorem orK:∀ l:List OP,RK (ors l)
 | []=>yv808
 | o::l=>yv782 o.k (orK l)
abbrev RO (s:Sh):RSp Tb tab (s.ty Tb):=RSp.one tab s [] (fun a b=>a) (fun y=>y) (fun y=>())
theorem cutJD (l:List OP) {c:TCode Tb} (hc:yv171 Tryd.prog Wp tab c) {n:Nat} {sh:SSh} {B:(ρ:Type)->sh.ty Tb->(SExit->TSt Tb->Option ρ)->Option ρ}
 (fact:∀ {ρ:Type} (x:sh.ty Tb) (k:SExit->TSt Tb->Option ρ),runS tab (ors l) c (injS tab sh x) k=B ρ x k:=by intro _ _ _;kernel_rfl):(cutJ tab n sh B).Ok Tryd.prog Wp tab n c:=yv817 tabOk (orK l) hc fact
theorem cutLD {Z Y:Type} (l:List OP) {c:TCode Tb} (hc:yv171 Tryd.prog Wp tab c) {n:Nat} {sh:SSh} {z0:sh.ty Tb->Z} {step:sh.ty Tb->Z->Option (Z ⊕ Y)} {EX:(ρ:Type)->sh.ty Tb->Y->(SExit->TSt Tb->Option ρ)->Option ρ}
 (B:(ρ:Type)->sh.ty Tb->Z->(Z->Option ρ)->(Y->Option ρ)->Option ρ) (up:sh.ty Tb->Z->TSt Tb) (ex:sh.ty Tb->Y->SExit × TSt Tb) (py:SExit->TSt Tb->Option Y)
 (h0:∀ x,injS tab sh x=up x (z0 x):=by intro _;kernel_rfl) (hstep:∀ x z,step x z=B _ x z (fun z=>some (.inl z)) (fun y=>some (.inr y)):=by intro _ _;kernel_rfl)
 (hEX:∀ {ρ:Type} x y (k:SExit->TSt Tb->Option ρ),EX _ x y k=k (ex x y).1 (ex x y).2:=by intro _ _ y _;kernel_rfl) (hne:∀ x y,(ex x y).1 ≠ .normal:=by intro _ y;exact nofun)
 (hpz:∀ x z,(prjS tab n sh (up x z)).map z0=some z:=by intro _ _;kernel_rfl) (hpy:∀ x y,py (ex x y).1 (ex x y).2=some y:=by intro _ y;kernel_rfl)
 (fact:∀ {ρ:Type} (x:sh.ty Tb) (z:Z) (k:SExit->TSt Tb->Option ρ),runS tab (ors l) c (up x z) k=B _ x z (fun z=>k .normal (up x z)) (fun y=>EX _ x y k):=by intro _ _ _ _;kernel_rfl):(cutL tab n sh z0 step EX).Ok Tryd.prog Wp tab n (.loop c):=yv818 tabOk (orK l) hc B up ex (fun t=>(prjS tab n sh t).map z0) py h0 hstep hEX hne hpz hpy fact
theorem cutLD2 {Z Y:Type} (l:List OP) {c:TCode Tb} (hc:yv171 Tryd.prog Wp tab c) {n:Nat} {sh:SSh} {z0:sh.ty Tb->Z} {step:sh.ty Tb->Z->Option (Z ⊕ Y)} {EX:(ρ:Type)->sh.ty Tb->Y->(SExit->TSt Tb->Option ρ)->Option ρ}
 (B:(ρ:Type)->sh.ty Tb->Z->(Z->Option ρ)->(Y->Option ρ)->Option ρ) (up:sh.ty Tb->Z->TSt Tb) (ex:sh.ty Tb->Y->SExit × TSt Tb) (py:SExit->TSt Tb->Option Y)
 (h0:∀ x,injS tab sh x=up x (z0 x):=by intro _;kernel_rfl) (hstep:∀ x z,step x z=B _ x z (fun z=>some (.inl z)) (fun y=>some (.inr y)):=by intro _ _;kernel_rfl)
 (hEX:∀ {ρ:Type} x y (k:SExit->TSt Tb->Option ρ),EX _ x y k=k (ex x y).1 (ex x y).2:=by intro _ _ y _;(rcases y with y|y)<;>kernel_rfl) (hne:∀ x y,(ex x y).1 ≠ .normal:=by intro _ y;(rcases y with y|y)<;>exact nofun)
 (hpz:∀ x z,(prjS tab n sh (up x z)).map z0=some z:=by intro _ _;kernel_rfl) (hpy:∀ x y,py (ex x y).1 (ex x y).2=some y:=by intro _ y;(rcases y with y|y)<;>kernel_rfl)
 (fact:∀ {ρ:Type} (x:sh.ty Tb) (z:Z) (k:SExit->TSt Tb->Option ρ),runS tab (ors l) c (up x z) k=B _ x z (fun z=>k .normal (up x z)) (fun y=>EX _ x y k):=by intro _ _ _ _;kernel_rfl):(cutL tab n sh z0 step EX).Ok Tryd.prog Wp tab n (.loop c):=yv818 tabOk (orK l) hc B up ex (fun t=>(prjS tab n sh t).map z0) py h0 hstep hEX hne hpz hpy fact
theorem orcD {Y:Type} {f:FuncId} {fn:Func} {c:TCode Tb} {res:List SRes} {n:Nat} {sa:List Sh} {sh:List (List Sh)} {F:tyL Tb sa->tyH Tb sh->Option Y} {RX:(ρ:Type)->Y->(TV Tb->THeap Tb->Option ρ)->Option ρ} {R:RSp Tb tab Y} (l:List OP) (hR:R.Ok)
 (hf:Tryd.prog.funcs[f]?=some fn) (hc:yv171 Tryd.prog Wp tab c) (hok:fnOk Tryd.prog fn ⟨erC tab c,res,n⟩=true:=by kernel_rfl) (hwk:wkOk sh.length (erC tab c)=true:=by kernel_rfl) (hen:yv25 Tryd.prog f=true:=by kernel_rfl) (hl:Nat.ble sa.length n=true:=by kernel_rfl)
 (hRX:∀ (ρ:Type) y (k:TV Tb->THeap Tb->Option ρ),RX ρ y k=k (R.rs y).1 (R.rs y).2:=by intro _ _ _;kernel_rfl) (hlen:∀ y,Nat.ble sh.length (R.rs y).2.length=true:=by intro _;kernel_rfl)
 (fact:∀ x z,runS tab (ors l) c ⟨argT 0 (injL tab sa x),injH tab sh z⟩ (kR R res)=F x z:=by intro _ _;kernel_rfl):WK (mkOrc tab sa sh F RX) f:=yv821 tabOk (orK l) hR hf hok hwk hen hl hc hRX hlen fact
def fn43_r:List OP:=[]
def fn43_p1:TCode Tb :=
(cn 25 (dp [2,7,25] (sq [(Mv 1 31),(Op (.ssl 1 true false) [.v 31,ki 1] 32),(Op (.build [.n .i64 0,.sl 2 none] [(0,1),(1,1)]) [ki 1,.m 32] 33),(Do (.store 2) [.v 6,.m 33])]
.ret))
(dp [25] (sq [(Bi .eql [.v 7,.k (.u8 (38:UInt8))] 35),(Mv 35 34)]
(cn 34 (dp [1,7,34] (sq [(Mv 2 36),(Op (.build [.n .i64 0,.sl 2 none] [(0,1),(1,1)]) [ki 7,.m 36] 37),(Do (.store 2) [.v 6,.m 37])]
.ret))
(dp [2,34] (sq [(Bi .eql [.m 7,.k (.u8 (39:UInt8))] 39),(Mv 39 38)]
(cn 38 (dp [38] (sq [(Mv 1 40),(Op (.build [.n .i64 0,.sl 2 none] [(0,1),(1,1)]) [ki 3,.m 40] 41),(Do (.store 2) [.v 6,.m 41])]
.ret))
(dp [1,38] .skip))))))))
def fn43_s1:SSh:=⟨[(1,lS 2),(2,lS 2),(6,rS 0 0),(7,u8S),(25,bS)],[[iS,wS 2]]⟩
def fn43_o1:Cut Tb:=cutJ tab 0 fn43_s1 (fun _ x k=>fn43_c1 x.1.1 x.1.2.1 x.1.2.2.2.1 x.1.2.2.2.2.1 (fun y15=>k .ret ⟨[(6,.ref 0 0),(31,.sl 2 x.1.1)],[[.n .i64 1,.sl 2 y15]]⟩) (fun y16=>k .ret ⟨[(6,.ref 0 0)],[[.n .i64 y16.kind,.sl 2 y16.kinds]]⟩) (k .normal ⟨[(6,.ref 0 0)],[[.n .i64 x.2.1.1,.ow 2 x.2.1.2.1]]⟩))
theorem fn43_q1:CK fn43_o1 0 fn43_p1:=cutJD fn43_r uC
def fn43_p0:TCode Tb :=
(cn 16 (dp [2,7,16] (sq [(Mv 1 19),(Op (.build [.n .i64 0,.sl 2 none] [(0,1),(1,1)]) [ki 2,.m 19] 20),(Do (.store 2) [.v 6,.m 20])]
.ret))
(dp [16] (sq [(Bi .eql [.v 7,.k (.u8 (35:UInt8))] 22),(Mv 22 21)]
(cn 21 (dp [1,2,7,21] (sq [(Op (.bslice 2 1 (0:Int) [0]) [ki 3] 23),(Op (.build [.n .i64 0,.sl 2 none] [(0,1),(1,1)]) [ki 2,.m 23] 24),(Do (.store 2) [.v 6,.m 24])]
.ret))
(dp [21] (se (sq [(Bi .eql [.v 7,.k (.u8 (36:UInt8))] 26),(Mv 26 25)]
(cn 25 .skip
(dp [25] (sq [(Bi .eql [.v 7,.k (.u8 (37:UInt8))] 27),(Mv 27 25)]
(cn 25 .skip
(dp [25] (sq [(Bi .eql [.v 7,.k (.u8 (40:UInt8))] 28),(Mv 28 25)]
(cn 25 .skip
(dp [25] (sq [(Bi .eql [.v 7,.k (.u8 (41:UInt8))] 29),(Mv 29 25)]
(cn 25 .skip
(dp [25] (rg [(Bi .eql [.v 7,.k (.u8 (42:UInt8))] 30),(Mv 30 25)])))))))))))))
(.cut 0 fn43_o1 fn43_p1)))))))
def fn43_s0:SSh:=⟨[(1,lS 2),(2,lS 2),(6,rS 0 0),(7,u8S),(16,bS)],[[iS,wS 2]]⟩
def fn43_o0:Cut Tb:=cutJ tab 0 fn43_s0 (fun _ x k=>fn43_c0 x.1.1 x.1.2.1 x.1.2.2.2.1 x.1.2.2.2.2.1 (fun y27=>k .ret ⟨[(6,.ref 0 0)],[[.n .i64 y27.kind,.sl 2 y27.kinds]]⟩) (fun y28=>k .ret ⟨[(6,.ref 0 0),(31,.sl 2 x.1.1)],[[.n .i64 1,.sl 2 y28]]⟩) (k .normal ⟨[(6,.ref 0 0)],[[.n .i64 x.2.1.1,.ow 2 x.2.1.2.1]]⟩))
theorem fn43_q0:CK fn43_o0 0 fn43_p0:=cutJD fn43_r (cC uC (cD (cS uC (cC uC (cD (cS uC (cT fn43_q1)))))))
def fn43_p:TCode Tb :=
(sq [(Op (.alloc [.n .i64 0,.sl 2 none]) [] 6)]
(se (sq [(Mv 0 7)]
(.block 0 (sq [(Bi .eql [.v 7,.k (.u8 (28:UInt8))] 9),(Mv 9 8)]
(cn 8 (dp [1,2,7,8] (sq [(Op (.bslice 2 2 (0:Int) [0,1]) [ki 2,ki 14] 10),(Op (.build [.n .i64 0,.sl 2 none] [(0,1),(1,1)]) [ki 5,.m 10] 11),(Do (.store 2) [.v 6,.m 11])]
.ret))
(dp [8] (sq [(Bi .eql [.v 7,.k (.u8 (31:UInt8))] 13),(Mv 13 12)]
(cn 12 (dp [1,2,7,12] (sq [(Op (.bslice 2 9 (0:Int) [0,1,2,3,4,5,6,7,8]) [ki 2,ki 4,ki 5,ki 6,ki 7,ki 9,ki 11,ki 14,ki 15] 14),(Op (.build [.n .i64 0,.sl 2 none] [(0,1),(1,1)]) [ki 5,.m 14] 15),(Do (.store 2) [.v 6,.m 15])]
.ret))
(dp [12] (se (sq [(Bi .eql [.v 7,.k (.u8 (33:UInt8))] 17),(Mv 17 16)]
(cn 16 .skip
(dp [16] (rg [(Bi .eql [.v 7,.k (.u8 (34:UInt8))] 18),(Mv 18 16)]))))
(.cut 0 fn43_o0 fn43_p0))))))))))
(sq [(Op (.build [.n .i64 0,.sl 2 none] []) [] 42),(Do (.store 2) [.v 6,.m 42])]
.ret)))
def fn43_w:Orc Tb:=mkOrc (Y:=fn105) tab [u8S,lS 2,lS 2] [] (fun x h=>fn43 x.1 x.2.1 x.2.2.1) (fun _ y k=>k (.agg [.n .i64 y.kind,.sl 2 y.kinds]) [])
theorem fn43_k:WK fn43_w 101:=orcD (Y:=fn105) (c:=fn43_p) (res:=[.cell 6 (some 2)]) (n:=43) (R:=(RSp.one (Y:=fn105) tab (.g (.st 3)) [] (fun a b=>(⟨a.kind,a.kinds⟩:fn105)) (fun y=>(⟨y.kind,y.kinds⟩:fn105)) (fun y=>()))) fn43_r oneD Tryd.func101 (cS uC (cS (cS uC (cB (cS uC (cC uC (cD (cS uC (cC uC (cD (cS uC (cT fn43_q0)))))))))) uC))
def fn56_r:List OP:=[op fn43_k]
def fn56_p0:TCode Tb :=
(se (sq [(Mw 6 10),(Bi .leq [.m 10,ki 16] 11)]
(cn 11 (dp [11] .skip)
(dp [6,11] (.exit 0))))
(se (.block 1 (sq [(Mw 6 14),(Bi .neq [.m 14,ki 12] 15),(Mv 15 16),(Yes .mv [.v 6] 17 16),(Yes (bi .neq) [.m 17,ki 13] 18 16),(Pf 16 18 19)]
(dp [17] (cn 19 (dp [19] (rg [(Mv 5 20),(Mw 6 21),(Op (.bslice 2 1 (0:Int) [0]) [.m 21] 22),(Op (.app 1 8) [.m 20,.m 22] 23),(Mv 23 5)]))
(dp [19] .skip)))))
(rg [(Mv 6 12),(Bi .add [.m 12,ki 1] 13),(Mv 13 6)])))
def fn56_s0:SSh:=⟨[(0,u8S),(2,rS 0 0),(3,wS 2),(4,wS 2),(5,wS 2),(6,iS)],[[iS,wS 2]]⟩
def fn56_o0:Cut Tb:=cutL tab 0 fn56_s0 (fun x=>(x.1.2.2.2.2.1,x.1.2.2.2.2.2.1)) (fun x=>fn56_l0) (fun _ x y k=>k (.exit 0) ⟨[(0,.u8 x.1.1),(2,.ref 0 0),(3,.ow 2 x.1.2.2.1),(4,.ow 2 x.1.2.2.2.1),(5,.ow 2 y)],[[.n .i64 x.2.1.1,.ow 2 x.2.1.2.1]]⟩)
theorem fn56_q0:CK fn56_o0 0 (.loop fn56_p0):=cutLD (Z:=(Option (List Int)) × Int) (Y:=(Option (List Int))) fn56_r uC (fun _ x z b e=>fn56_b0 z.1 z.2 (fun x5 x6=>b (x5,x6)) (fun y9=>e y9)) (fun x z=>⟨[(0,.u8 x.1.1),(2,.ref 0 0),(3,.ow 2 x.1.2.2.1),(4,.ow 2 x.1.2.2.2.1),(5,.ow 2 z.1),(6,.n .i64 z.2)],[[.n .i64 x.2.1.1,.ow 2 x.2.1.2.1]]⟩) (fun x y=>((.exit 0),⟨[(0,.u8 x.1.1),(2,.ref 0 0),(3,.ow 2 x.1.2.2.1),(4,.ow 2 x.1.2.2.2.1),(5,.ow 2 y)],[[.n .i64 x.2.1.1,.ow 2 x.2.1.2.1]]⟩)) (pyA tab 0 (.exit 0) ⟨[(0,u8S),(2,rS 0 0),(3,wS 2),(4,wS 2),(5,wS 2)],[[iS,wS 2]]⟩ (fun v=>v.1.2.2.2.2.1) pyN)
def fn56_p3:TCode Tb :=
(cn 75 (dp [0,3,5,24,75] (sq [(Mv 4 78),(Op (.ssl 1 false true) [.v 78,ki 1] 79),(Op (.build [.n .i64 0,.sl 2 none] [(0,1),(1,1)]) [ki 1,.m 79] 80),(Do (.store 2) [.v 2,.m 80])]
.ret))
(dp [75] (sq [(Bi .eql [.m 24,.k (.u8 (24:UInt8))] 82),(Mv 82 81)]
(cn 81 (dp [0,4,5,81] (sq [(Mv 3 83),(Op (.ssl 1 true false) [.v 83,ki 1] 84),(Op (.build [.n .i64 0,.sl 2 none] [(0,1),(1,1)]) [ki 3,.m 84] 85),(Do (.store 2) [.v 2,.m 85])]
.ret))
(dp [3,81] .skip)))))
def fn56_s3:SSh:=⟨[(0,u8S),(2,rS 0 0),(3,wS 2),(4,wS 2),(5,wS 2),(24,u8S),(75,bS)],[[iS,wS 2]]⟩
def fn56_o3:Cut Tb:=cutJ tab 0 fn56_s3 (fun _ x k=>fn56_c3 x.1.2.2.1 x.1.2.2.2.1 x.1.2.2.2.2.2.1 x.1.2.2.2.2.2.2.1 (fun y39=>k .ret ⟨[(2,.ref 0 0),(78,.ow 2 x.1.2.2.2.1)],[[.n .i64 1,.sl 2 y39]]⟩) (fun y40=>k .ret ⟨[(2,.ref 0 0),(83,.ow 2 x.1.2.2.1)],[[.n .i64 3,.sl 2 y40]]⟩) (k .normal ⟨[(0,.u8 x.1.1),(2,.ref 0 0),(4,.ow 2 x.1.2.2.2.1),(5,.ow 2 x.1.2.2.2.2.1)],[[.n .i64 x.2.1.1,.ow 2 x.2.1.2.1]]⟩))
theorem fn56_q3:CK fn56_o3 0 fn56_p3:=cutJD fn56_r uC
def fn56_p2:TCode Tb :=
(cn 52 (dp [0,3,5,24,52] (sq [(Mv 4 55),(Op (.ssl 1 true false) [.v 55,ki 1] 56),(Op (.build [.n .i64 0,.sl 2 none] [(0,1),(1,1)]) [ki 5,.m 56] 57),(Do (.store 2) [.v 2,.m 57])]
.ret))
(dp [52] (sq [(Bi .eql [.v 24,.k (.u8 (19:UInt8))] 59),(Mv 59 58)]
(cn 58 (dp [0,3,5,24,58] (sq [(Mv 4 60),(Op (.ssl 1 true false) [.v 60,ki 1] 61),(Op (.build [.n .i64 0,.sl 2 none] [(0,1),(1,1)]) [ki 2,.m 61] 62),(Do (.store 2) [.v 2,.m 62])]
.ret))
(dp [58] (sq [(Bi .eql [.v 24,.k (.u8 (21:UInt8))] 64),(Mv 64 63)]
(cn 63 (dp [0,3,5,24,63] (sq [(Mv 4 65),(Op (.bslice 2 1 (0:Int) [0]) [ki 15] 66),(Op (.app 1 8) [.m 65,.m 66] 67),(Op (.build [.n .i64 0,.sl 2 none] [(0,1),(1,1)]) [ki 5,.m 67] 68),(Do (.store 2) [.v 2,.m 68])]
.ret))
(dp [63] (sq [(Bi .eql [.v 24,.k (.u8 (22:UInt8))] 70),(Mv 70 69)]
(cn 69 (dp [0,3,5,24,69] (sq [(Mv 4 71),(Op (.bslice 2 1 (0:Int) [0]) [ki 15] 72),(Op (.app 1 8) [.m 71,.m 72] 73),(Op (.build [.n .i64 0,.sl 2 none] [(0,1),(1,1)]) [ki 6,.m 73] 74),(Do (.store 2) [.v 2,.m 74])]
.ret))
(dp [69] (se (sq [(Bi .eql [.v 24,.k (.u8 (23:UInt8))] 76),(Mv 76 75)]
(cn 75 .skip
(dp [75] (rg [(Bi .eql [.v 24,.k (.u8 (25:UInt8))] 77),(Mv 77 75)]))))
(.cut 0 fn56_o3 fn56_p3)))))))))))))
def fn56_s2:SSh:=⟨[(0,u8S),(2,rS 0 0),(3,wS 2),(4,wS 2),(5,wS 2),(24,u8S),(52,bS)],[[iS,wS 2]]⟩
def fn56_o2:Cut Tb:=cutJ tab 0 fn56_s2 (fun _ x k=>fn56_c2 x.1.2.2.1 x.1.2.2.2.1 x.1.2.2.2.2.2.1 x.1.2.2.2.2.2.2.1 (fun y45=>k .ret ⟨[(2,.ref 0 0),(55,.ow 2 x.1.2.2.2.1)],[[.n .i64 5,.sl 2 y45]]⟩) (fun y46=>k .ret ⟨[(2,.ref 0 0),(60,.ow 2 x.1.2.2.2.1)],[[.n .i64 2,.sl 2 y46]]⟩) (fun y47=>k .ret ⟨[(2,.ref 0 0)],[[.n .i64 y47.kind,.sl 2 y47.kinds]]⟩) (fun y48=>k .ret ⟨[(2,.ref 0 0),(78,.ow 2 x.1.2.2.2.1)],[[.n .i64 1,.sl 2 y48]]⟩) (fun y49=>k .ret ⟨[(2,.ref 0 0),(83,.ow 2 x.1.2.2.1)],[[.n .i64 3,.sl 2 y49]]⟩) (k .normal ⟨[(0,.u8 x.1.1),(2,.ref 0 0),(4,.ow 2 x.1.2.2.2.1),(5,.ow 2 x.1.2.2.2.2.1)],[[.n .i64 x.2.1.1,.ow 2 x.2.1.2.1]]⟩))
theorem fn56_q2:CK fn56_o2 0 fn56_p2:=cutJD fn56_r (cC uC (cD (cS uC (cC uC (cD (cS uC (cC uC (cD (cS uC (cC uC (cD (cS uC (cT fn56_q3)))))))))))))
def fn56_p1:TCode Tb :=
(cn 33 (dp [0,4,5,24,33] (sq [(Mv 3 36),(Op (.build [.n .i64 0,.sl 2 none] [(0,1),(1,1)]) [ki 5,.m 36] 37),(Do (.store 2) [.v 2,.m 37])]
.ret))
(dp [33] (sq [(Bi .eql [.v 24,.k (.u8 (9:UInt8))] 39),(Mv 39 38)]
(cn 38 (dp [0,4,5,24,38] (sq [(Mv 3 40),(Op (.build [.n .i64 0,.sl 2 none] [(0,1),(1,1)]) [ki 6,.m 40] 41),(Do (.store 2) [.v 2,.m 41])]
.ret))
(dp [38] (sq [(Bi .eql [.v 24,.k (.u8 (11:UInt8))] 43),(Mv 43 42)]
(cn 42 (dp [0,3,4,5,24,42] (sq [(Op (.bslice 2 2 (0:Int) [0,1]) [ki 3,ki 8] 44),(Op (.build [.n .i64 0,.sl 2 none] [(0,1),(1,1)]) [ki 4,.m 44] 45),(Do (.store 2) [.v 2,.m 45])]
.ret))
(dp [42] (sq [(Bi .eql [.v 24,.k (.u8 (17:UInt8))] 47),(Mv 47 46)]
(cn 46 (dp [0,3,5,24,46] (sq [(Mv 4 48),(Op (.bslice 2 1 (0:Int) [0]) [ki 14] 49),(Op (.app 1 8) [.m 48,.m 49] 50),(Op (.build [.n .i64 0,.sl 2 none] [(0,1),(1,1)]) [ki 3,.m 50] 51),(Do (.store 2) [.v 2,.m 51])]
.ret))
(dp [46] (se (sq [(Bi .eql [.v 24,.k (.u8 (18:UInt8))] 53),(Mv 53 52)]
(cn 52 .skip
(dp [52] (rg [(Bi .eql [.v 24,.k (.u8 (26:UInt8))] 54),(Mv 54 52)]))))
(.cut 0 fn56_o2 fn56_p2)))))))))))))
def fn56_s1:SSh:=⟨[(0,u8S),(2,rS 0 0),(3,wS 2),(4,wS 2),(5,wS 2),(24,u8S),(33,bS)],[[iS,wS 2]]⟩
def fn56_o1:Cut Tb:=cutJ tab 0 fn56_s1 (fun _ x k=>fn56_c1 x.1.2.2.1 x.1.2.2.2.1 x.1.2.2.2.2.2.1 x.1.2.2.2.2.2.2.1 (fun y60=>k .ret ⟨[(2,.ref 0 0)],[[.n .i64 y60.kind,.sl 2 y60.kinds]]⟩) (fun y61=>k .ret ⟨[(2,.ref 0 0),(55,.ow 2 x.1.2.2.2.1)],[[.n .i64 5,.sl 2 y61]]⟩) (fun y62=>k .ret ⟨[(2,.ref 0 0),(60,.ow 2 x.1.2.2.2.1)],[[.n .i64 2,.sl 2 y62]]⟩) (fun y63=>k .ret ⟨[(2,.ref 0 0),(78,.ow 2 x.1.2.2.2.1)],[[.n .i64 1,.sl 2 y63]]⟩) (fun y64=>k .ret ⟨[(2,.ref 0 0),(83,.ow 2 x.1.2.2.1)],[[.n .i64 3,.sl 2 y64]]⟩) (k .normal ⟨[(0,.u8 x.1.1),(2,.ref 0 0),(4,.ow 2 x.1.2.2.2.1),(5,.ow 2 x.1.2.2.2.2.1)],[[.n .i64 x.2.1.1,.ow 2 x.2.1.2.1]]⟩))
theorem fn56_q1:CK fn56_o1 0 fn56_p1:=cutJD fn56_r (cC uC (cD (cS uC (cC uC (cD (cS uC (cC uC (cD (cS uC (cC uC (cD (cS uC (cT fn56_q2)))))))))))))
def fn56_p4:TCode Tb :=
(sq [(Mv 0 86),(Mv 4 87),(Mv 5 88),(Cl 101 0 [.m 86,.m 87,.m 88] 89),(Do (.store 2) [.v 2,.m 89])]
.ret)
def fn56_s4:SSh:=⟨[(0,u8S),(2,rS 0 0),(4,wS 2),(5,wS 2)],[[iS,wS 2]]⟩
def fn56_o4:Cut Tb:=cutJ tab 0 fn56_s4 (fun _ x k=>fn56_c4 x.1.1 x.1.2.2.1 x.1.2.2.2.1 (fun y80=>k .ret ⟨[(2,.ref 0 0)],[[.n .i64 y80.kind,.sl 2 y80.kinds]]⟩))
theorem fn56_q4:CK fn56_o4 0 fn56_p4:=cutJD fn56_r uC
def fn56_p:TCode Tb :=
(sq [(Op (.alloc [.n .i64 0,.sl 2 none]) [] 2)]
(sq [(Op (.bslice 2 2 (0:Int) [0,1]) [ki 3,ki 16] 7),(Op (.bslice 2 2 (0:Int) [0,1]) [ki 1,ki 2] 8),(Op (.bslice 2 0 (0:Int) []) [] 9),(Mv 7 3),(Mv 8 4),(Mv 9 5)]
(se (sq [(Mk (ki 1) 6)]
(.block 0 (.cut 0 fn56_o0 (.loop fn56_p0))))
(se (sq [(Mw 0 24)]
(.block 2 (sq [(Bi .eql [.v 24,.k (.u8 (1:UInt8))] 26),(Mv 26 25)]
(cn 25 (dp [0,4,5,24,25] (sq [(Mv 3 27),(Op (.build [.n .i64 0,.sl 2 none] [(0,1),(1,1)]) [ki 1,.m 27] 28),(Do (.store 2) [.v 2,.m 28])]
.ret))
(dp [25] (sq [(Bi .eql [.v 24,.k (.u8 (2:UInt8))] 30),(Mv 30 29)]
(cn 29 (dp [0,4,5,24,29] (sq [(Mv 3 31),(Op (.build [.n .i64 0,.sl 2 none] [(0,1),(1,1)]) [ki 3,.m 31] 32),(Do (.store 2) [.v 2,.m 32])]
.ret))
(dp [29] (se (sq [(Bi .eql [.v 24,.k (.u8 (3:UInt8))] 34),(Mv 34 33)]
(cn 33 .skip
(dp [33] (rg [(Bi .eql [.v 24,.k (.u8 (8:UInt8))] 35),(Mv 35 33)]))))
(.cut 0 fn56_o1 fn56_p1))))))))))
(.cut 0 fn56_o4 fn56_p4)))))
def fn56_w:Orc Tb:=mkOrc (Y:=fn105) tab [u8S] [] (fun x h=>fn56 x.1) (fun _ y k=>k (.agg [.n .i64 y.kind,.sl 2 y.kinds]) [])
theorem fn56_k:WK fn56_w 85:=orcD (Y:=fn105) (c:=fn56_p) (res:=[.cell 2 (some 2)]) (n:=90) (R:=(RSp.one (Y:=fn105) tab (.g (.st 3)) [] (fun a b=>(⟨a.kind,a.kinds⟩:fn105)) (fun y=>(⟨y.kind,y.kinds⟩:fn105)) (fun y=>()))) fn56_r oneD Tryd.func85 (cS uC (cS uC (cS (cS uC (cB (cT fn56_q0))) (cS (cS uC (cB (cS uC (cC uC (cD (cS uC (cC uC (cD (cS uC (cT fn56_q1)))))))))) (cT fn56_q4)))))
def fn72_r:List OP:=[op fn56_k]
def fn72_p:TCode Tb :=
(sq [(Mk (ki 0) 2)]
(sq [(Mv 0 3),(Cl 85 0 [.m 3] 4),(Op (.fld 0 none) [.m 4] 5),(Mv 5 2)]
.ret))
def fn72_w:Orc Tb:=mkOrc (Y:=Int) tab [u8S] [] (fun x h=>fn72 x.1) (fun _ y k=>k (.n .i64 y) [])
theorem fn72_k:WK fn72_w 82:=orcD (Y:=Int) (c:=fn72_p) (res:=[.tmp 2]) (n:=6) (R:=(RSp.one (Y:=Int) tab (iS) [] (fun a b=>a) (fun y=>y) (fun y=>()))) fn72_r oneD Tryd.func82 uC
def fn19_w:Orc Tb:=mkOrc (Y:=Bool) tab [sS] [] (fun x h=>fn19 x.1) (fun _ y k=>k (.b y) [])
theorem fn19_k:WK fn19_w 103:=yv584 tabOk (by kernel_rfl) (fun _ h=>h) Tryd.utf8_ValidString
def fn20_w:Orc Tb:=mkOrc (Y:=Bool) tab [sS,sS] [] (fun x h=>fn20 x.1 x.2.1) (fun _ y k=>k (.b y) [])
theorem fn20_k:WK fn20_w 104:=yv724 tabOk (by kernel_rfl) Tryd.strings_Contains_one
def fn57_r:List OP:=[op fn19_k,op fn20_k]
def fn57_p:TCode Tb :=
(sq [(Mk kf 2)]
(sq [(Mw 0 3),(Op .lens [.m 3] 4),(Bi .leq [.m 4,ki 65535] 5),(Mv 5 6),(Yes .mv [.v 0] 7 6),(Yes (.call (some 103) 0) [.m 7] 8 6),(Pf 6 8 9),(Mv 9 10),(Yes .mv [.m 0] 11 10),(Yes (.call (some 104) 1) [.m 11,.k (.s [0])] 12 10),(Yes (.un .not) [.m 12] 13 10),(Pf 10 13 14),(Mv 14 2)]
(dp [0,7,11,12] .ret)))
def fn57_w:Orc Tb:=mkOrc (Y:=Bool) tab [sS] [] (fun x h=>fn57 x.1) (fun _ y k=>k (.b y) [])
theorem fn57_k:WK fn57_w 88:=orcD (Y:=Bool) (c:=fn57_p) (res:=[.tmp 2]) (n:=15) (R:=(RO (bS))) fn57_r oneD Tryd.func88 uC
def fn58_r:List OP:=[op fn72_k,op fn57_k]
def fn58_p0:TCode Tb :=
(se (sq [(Fav 0 1 16),(Ld 16 17),(Cl 82 0 [.m 17] 18)]
(.block 0 (sq [(Bi .eql [.v 18,ki 1] 20),(Mv 20 19)]
(cn 19 (dp [4,18,19] (sq [(Fam 1 1 21),(Ld 21 22),(Bi .lss [.m 22,.k (.u32 (256:UInt32))] 23),(Mv 23 24),(Yes .mv [.m 3] 25 24),(Pf 24 25 26),(Mv 26 2)]
(dp [3] .ret)))
(dp [19] (sq [(Bi .eql [.v 18,ki 2] 28),(Mv 28 27)]
(cn 27 (dp [4,18,27] (sq [(Fam 1 1 29),(Ld 29 30),(Bi .lss [.m 30,.k (.u32 (65536:UInt32))] 31),(Mv 31 32),(Yes .mv [.m 3] 33 32),(Pf 32 33 34),(Mv 34 2)]
(dp [3] .ret)))
(dp [27] (sq [(Bi .eql [.v 18,ki 3] 36),(Mv 36 35)]
(cn 35 (dp [1,4,18,35] (sq [(Mv 3 37),(Mv 37 2)]
.ret))
(dp [35] (sq [(Bi .eql [.v 18,ki 4] 39),(Mv 39 38)]
(cn 38 (dp [4,18,38] (sq [(Fam 1 1 40),(Ld 40 41),(Bi .leq [.m 41,.k (.u32 (268435455:UInt32))] 42),(Mv 42 43),(Yes .mv [.m 3] 44 43),(Pf 43 44 45),(Mv 45 2)]
(dp [3] .ret)))
(dp [3,38] (sq [(Bi .eql [.v 18,ki 5] 47),(Mv 47 46)]
(cn 46 (dp [18,46] (sq [(Mv 4 48),(Mv 48 49),(Yes (.fa 2) [.v 1] 50 49),(Yes ld [.m 50] 51 49),(Yes (.call (some 88) 1) [.m 51] 52 49),(Pf 49 52 53),(Mv 53 54),(Yes (.fa 3) [.m 1] 55 54),(Yes ld [.m 55] 56 54),(Yes (.bin .eql .s) [.m 56,.k (.s [])] 57 54),(Pf 54 57 58),(Mv 58 2)]
(dp [1,50,51,55,56] .ret)))
(dp [46] (sq [(Bi .eql [.v 18,ki 6] 60),(Mv 60 59)]
(cn 59 (dp [18,59] (sq [(Mv 4 61),(Mv 61 62),(Yes (.fa 2) [.v 1] 63 62),(Yes ld [.m 63] 64 62),(Yes .lens [.m 64] 65 62),(Yes (bi .leq) [.m 65,ki 65535] 66 62),(Pf 62 66 67),(Mv 67 68),(Yes (.fa 3) [.m 1] 69 68),(Yes ld [.m 69] 70 68),(Yes (.bin .eql .s) [.m 70,.k (.s [])] 71 68),(Pf 68 71 72),(Mv 72 2)]
(dp [1,63,64,65,69,70] .ret)))
(dp [59] (sq [(Bi .eql [.m 18,ki 7] 74),(Mv 74 73)]
(cn 73 (dp [73] (sq [(Mv 4 75),(Mv 75 76),(Yes (.fa 2) [.v 1] 77 76),(Yes ld [.m 77] 78 76),(Yes (.call (some 88) 1) [.m 78] 79 76),(Pf 76 79 80),(Mv 80 81),(Yes (.fa 3) [.m 1] 82 81),(Yes ld [.m 82] 83 81),(Yes (.call (some 88) 1) [.m 83] 84 81),(Pf 81 84 85),(Mv 85 2)]
(dp [1,77,78,82,83] .ret)))
(dp [1,4,73] .skip)))))))))))))))))))))))
(sq [(Mk kf 2)]
.ret))
def fn58_s0:SSh:=⟨[(1,rS 0 0),(3,bS),(4,bS)],[[u8S,u32S,sS,sS]]⟩
def fn58_o0:Cut Tb:=cutJ tab 0 fn58_s0 (fun _ x k=>fn58_c0 x.1.2.1 x.1.2.2.1 (tabBk 4 x.2.1:fn86) (fun y9=>k .ret ⟨[(2,.b y9)],[[.u8 x.2.1.1,.u32 x.2.1.2.1,.s x.2.1.2.2.1,.s x.2.1.2.2.2.1]]⟩))
theorem fn58_q0:CK fn58_o0 0 fn58_p0:=cutJD fn58_r uC
def fn58_p:TCode Tb :=
(sq [(Op .box [.m 0] 1),(Mk kf 2)]
(se (.reg [(Fav 2 1 5),(Ld 5 6),(Op (.bin .eql .s) [.m 6,.k (.s [])] 7),(Mv 7 8),(Yes (.fa 3) [.v 1] 9 8),(Yes ld [.m 9] 10 8),(Yes (.bin .eql .s) [.m 10,.k (.s [])] 11 8),(Pf 8 11 12),(Fav 1 1 13),(Ld 13 14),(Bi .eql [.m 14,.k (.u32 (0:UInt32))] 15),(Mv 12 3),(Mv 15 4)] (some [[],[],[],[],[],[],[],[],[],[1,5],[],[],[]]))
(dp [2,9,10] (.cut 0 fn58_o0 fn58_p0))))
def fn58_w:Orc Tb:=mkOrc (Y:=Bool) tab [.g (.st 4)] [] (fun x h=>fn58 (x.1:fn86)) (fun _ y k=>k (.b y) [])
theorem fn58_k:WK fn58_w 65:=orcD (Y:=Bool) (c:=fn58_p) (res:=[.tmp 2]) (n:=86) (R:=(RO (bS))) fn58_r oneD Tryd.func65 (cS uC (cS uC (cD (cT fn58_q0))))
def fn15_r:List OP:=[]
def fn15_p:TCode Tb :=
(sq [(Op .mv [.k (.nilS)] 2)]
(se (sq [(Mw 0 3),(Op (.bin .eql .sl) [.v 3,.k (.nilS)] 4)]
(cn 4 (dp [0,2,3,4] (sq [(Op .mv [.k (.nilS)] 2)]
.ret))
(dp [2,3,4] .skip)))
(sq [(Op (.b8 0 []) [] 5),(Mv 0 6),(Op (.app 1 1) [.m 5,.m 6] 7),(Mv 7 2)]
.ret)))
def fn15_w:Orc Tb:=mkOrc (Y:=(Option (List UInt8))) tab [bsS] [] (fun x h=>fn15 x.1) (fun _ y k=>k (.bo y) [])
theorem fn15_k:WK fn15_w 35:=orcD (Y:=(Option (List UInt8))) (c:=fn15_p) (res:=[.tmp 2]) (n:=8) (R:=(RO (boS))) fn15_r oneD Tryd.func35 uC
def fn73_r:List OP:=[op fn15_k]
def fn73_p:TCode Tb :=
(sq [(Op .mv [.k (.nilS)] 4)]
(sq [(Mv 0 5),(Cl 35 0 [.m 5] 6),(Mv 1 7),(Op (.b8 1 [0]) [.m 7] 8),(Op (.app 1 1) [.m 6,.m 8] 9),(Mv 9 4)]
.ret))
def fn73_w:Orc Tb:=mkOrc (Y:=(Option (List UInt8))) tab [bsS,u8S] [] (fun x h=>fn73 x.1 x.2.1) (fun _ y k=>k (.bo y) [])
theorem fn73_k:WK fn73_w 89:=orcD (Y:=(Option (List UInt8))) (c:=fn73_p) (res:=[.tmp 4]) (n:=10) (R:=(RO (boS))) fn73_r oneD Tryd.func89 uC
def fn87_r:List OP:=[op fn15_k]
def fn87_p:TCode Tb :=
(sq [(Op .mv [.k (.nilS)] 4)]
(sq [(Mv 0 5),(Cl 35 0 [.m 5] 6),(Mw 1 7),(Bi .shr [.m 7,.k (.u64 (8:UInt64))] 8),(Op (.cint .u8) [.m 8] 9),(Mv 1 10),(Op (.cint .u8) [.m 10] 11),(Op (.b8 2 [0,1]) [.m 9,.m 11] 12),(Op (.app 1 1) [.m 6,.m 12] 13),(Mv 13 4)]
.ret))
def fn87_w:Orc Tb:=mkOrc (Y:=(Option (List UInt8))) tab [bsS,u16S] [] (fun x h=>fn87 x.1 x.2.1) (fun _ y k=>k (.bo y) [])
theorem fn87_k:WK fn87_w 90:=orcD (Y:=(Option (List UInt8))) (c:=fn87_p) (res:=[.tmp 4]) (n:=14) (R:=(RO (boS))) fn87_r oneD Tryd.func90 uC
def fn74_r:List OP:=[op fn87_k]
def fn74_p:TCode Tb :=
(sq [(Op .mv [.k (.nilS)] 4)]
(sq [(Mv 0 5),(Mw 1 6),(Bi .shr [.m 6,.k (.u64 (16:UInt64))] 7),(Op (.cint .u16) [.m 7] 8),(Cl 90 0 [.m 5,.m 8] 9),(Mv 1 10),(Op (.cint .u16) [.m 10] 11),(Cl 90 0 [.m 9,.m 11] 12),(Mv 12 4)]
.ret))
def fn74_w:Orc Tb:=mkOrc (Y:=(Option (List UInt8))) tab [bsS,u32S] [] (fun x h=>fn74 x.1 x.2.1) (fun _ y k=>k (.bo y) [])
theorem fn74_k:WK fn74_w 91:=orcD (Y:=(Option (List UInt8))) (c:=fn74_p) (res:=[.tmp 4]) (n:=13) (R:=(RO (boS))) fn74_r oneD Tryd.func91 uC
def fn88_r:List OP:=[op fn15_k]
def fn88_p0:TCode Tb :=
(se (sq [(Mw 1 11),(Bi .geq [.m 11,.k (.u32 (128:UInt32))] 12)]
(cn 12 (dp [12] .skip)
(dp [12] (.exit 0))))
(se (.block 1 (rg [(Mv 5 15),(Mw 1 16),(Op (.cint .u8) [.m 16] 17),(Bi .or [.m 17,.k (.u8 (128:UInt8))] 18),(Op (.b8 1 [0]) [.m 18] 19),(Op (.app 1 1) [.m 15,.m 19] 20),(Mv 20 5)]))
(rg [(Mv 1 13),(Bi .shr [.m 13,.k (.u64 (7:UInt64))] 14),(Mv 14 1)])))
def fn88_s0:SSh:=⟨[(1,u32S),(5,boS)],[]⟩
def fn88_o0:Cut Tb:=cutL tab 0 fn88_s0 (fun x=>(x.1.1,x.1.2.1)) (fun x=>fn88_l0) (fun _ x y k=>k (.exit 0) ⟨[(1,.u32 y.1),(5,.bo y.2)],[]⟩)
theorem fn88_q0:CK fn88_o0 0 (.loop fn88_p0):=cutLD (Z:=UInt32 × (Option (List UInt8))) (Y:=UInt32 × (Option (List UInt8))) fn88_r uC (fun _ x z b e=>fn88_b0 z.1 z.2 (fun x4 x5=>b (x4,x5)) (fun y7 y8=>e (y7,y8))) (fun x z=>⟨[(1,.u32 z.1),(5,.bo z.2)],[]⟩) (fun x y=>((.exit 0),⟨[(1,.u32 y.1),(5,.bo y.2)],[]⟩)) (pyA tab 0 (.exit 0) ⟨[(1,u32S),(5,boS)],[]⟩ (fun v=>(v.1.1,v.1.2.1)) pyN)
def fn88_p:TCode Tb :=
(sq [(Op .mv [.k (.nilS)] 4)]
(sq [(Mv 0 6),(Cl 35 0 [.m 6] 7),(Mv 7 5)]
(se (sq [(Mw 1 8),(Bi .gtr [.m 8,.k (.u32 (268435455:UInt32))] 9)]
(cn 9 (dp [1,4,9] (sq [(Mv 5 10),(Mv 10 4)]
.ret))
(dp [4,9] .skip)))
(se (.block 0 (.cut 0 fn88_o0 (.loop fn88_p0)))
(sq [(Mv 5 21),(Mv 1 22),(Op (.cint .u8) [.m 22] 23),(Op (.b8 1 [0]) [.m 23] 24),(Op (.app 1 1) [.m 21,.m 24] 25),(Mv 25 4)]
.ret)))))
def fn88_w:Orc Tb:=mkOrc (Y:=(Option (List UInt8))) tab [bsS,u32S] [] (fun x h=>fn88 x.1 x.2.1) (fun _ y k=>k (.bo y) [])
theorem fn88_k:WK fn88_w 36:=orcD (Y:=(Option (List UInt8))) (c:=fn88_p) (res:=[.tmp 4]) (n:=26) (R:=(RO (boS))) fn88_r oneD Tryd.func36 (cS uC (cS uC (cS uC (cS (cB (cT fn88_q0)) uC))))
def fn89_r:List OP:=[op fn15_k,op fn87_k]
def fn89_p:TCode Tb :=
(sq [(Op .mv [.k (.nilS)] 4)]
(se (sq [(Mw 1 5),(Op .lens [.m 5] 6),(Bi .gtr [.m 6,ki 65535] 7)]
(cn 7 (dp [1,4,7] (sq [(Mv 0 8),(Cl 35 0 [.m 8] 9),(Mv 9 4)]
.ret))
(dp [4,7] .skip)))
(sq [(Mv 0 10),(Mw 1 11),(Op .lens [.m 11] 12),(Op (.cint .u16) [.m 12] 13),(Cl 90 1 [.m 10,.m 13] 14),(Mv 1 15),(Op .apps [.m 14,.m 15] 16),(Mv 16 4)]
.ret)))
def fn89_w:Orc Tb:=mkOrc (Y:=(Option (List UInt8))) tab [bsS,sS] [] (fun x h=>fn89 x.1 x.2.1) (fun _ y k=>k (.bo y) [])
theorem fn89_k:WK fn89_w 92:=orcD (Y:=(Option (List UInt8))) (c:=fn89_p) (res:=[.tmp 4]) (n:=17) (R:=(RO (boS))) fn89_r oneD Tryd.func92 uC
def fn75_r:List OP:=[op fn72_k,op fn73_k,op fn87_k,op fn74_k,op fn88_k,op fn89_k]
def fn75_p:TCode Tb :=
(sq [(Op .box [.m 1] 3),(Op .mv [.k (.nilS)] 4)]
(sq [(Mv 0 5),(Fav 0 3 6),(Ld 6 7),(Op (.b8 1 [0]) [.m 7] 8),(Op (.app 1 1) [.m 5,.m 8] 9),(Mv 9 0)]
(se (sq [(Fav 0 3 10),(Ld 10 11),(Cl 82 0 [.m 11] 12)]
(.block 0 (sq [(Bi .eql [.v 12,ki 1] 14),(Mv 14 13)]
(cn 13 (dp [4,12,13] (sq [(Mv 0 15),(Fam 1 3 16),(Ld 16 17),(Op (.cint .u8) [.m 17] 18),(Cl 89 1 [.m 15,.m 18] 19),(Mv 19 4)]
.ret))
(dp [4,13] (sq [(Bi .eql [.v 12,ki 2] 21),(Mv 21 20)]
(cn 20 (dp [12,20] (sq [(Mv 0 22),(Fam 1 3 23),(Ld 23 24),(Op (.cint .u16) [.m 24] 25),(Cl 90 2 [.m 22,.m 25] 26),(Mv 26 4)]
.ret))
(dp [20] (sq [(Bi .eql [.v 12,ki 3] 28),(Mv 28 27)]
(cn 27 (dp [12,27] (sq [(Mv 0 29),(Fam 1 3 30),(Ld 30 31),(Cl 91 3 [.m 29,.m 31] 32),(Mv 32 4)]
.ret))
(dp [27] (sq [(Bi .eql [.v 12,ki 4] 34),(Mv 34 33)]
(cn 33 (dp [12,33] (sq [(Mv 0 35),(Fam 1 3 36),(Ld 36 37),(Cl 36 4 [.m 35,.m 37] 38),(Mv 38 4)]
.ret))
(dp [33] (sq [(Bi .eql [.m 12,ki 7] 40),(Mv 40 39)]
(cn 39 (dp [39] (se (.reg [(Mv 0 41),(Fav 2 3 42),(Ld 42 43),(Cl 92 5 [.m 41,.m 43] 44),(Fav 3 3 45),(Ld 45 46),(Cl 92 5 [.m 44,.m 46] 47),(Mv 47 4)] (some [[],[],[],[],[],[2,3],[],[]]))
.ret))
(dp [39] .skip)))))))))))))))))
(sq [(Mv 0 48),(Fam 2 3 49),(Ld 49 50),(Cl 92 5 [.m 48,.m 50] 51),(Mv 51 4)]
.ret))))
def fn75_w:Orc Tb:=mkOrc (Y:=(Option (List UInt8))) tab [boS,.g (.st 4)] [] (fun x h=>fn75 x.1 (x.2.1:fn86)) (fun _ y k=>k (.bo y) [])
theorem fn75_k:WK fn75_w 66:=orcD (Y:=(Option (List UInt8))) (c:=fn75_p) (res:=[.tmp 4]) (n:=52) (R:=(RO (boS))) fn75_r oneD Tryd.func66 uC
def fn44_r:List OP:=[op fn58_k,op fn75_k]
def fn44_s1:SSh:=⟨[(4,boS),(7,lS 4),(8,iS),(9,iS)],[]⟩
def fn44_o1:Cut Tb:=cutJ tab 0 fn44_s1 (fun _ x k=>k .normal ⟨[(4,.bo x.1.1),(7,.sl 4 x.1.2.1),(8,.n .i64 x.1.2.2.1),(9,.n .i64 x.1.2.2.2.1)],[]⟩)
theorem fn44_q1:CK fn44_o1 0 .skip:=yv817 (c:=.skip) tabOk (orK fn44_r) trivial (fun _ _=>by kernel_rfl)
def fn44_p0:TCode Tb :=
(.fin 0 fn44_o1 (sq [(Bi .lss [.v 9,.v 8] 10)]
(se (cn 10 (dp [10] .skip)
(dp [7,8,9,10] (.exit 0)))
(se (.block 1 (sq [(Op (.ia 4) [.v 7,.v 9] 11),(Op (.load (some 4)) [.m 11] 12),(Op (.alloc [.u8 (0:UInt8),.u32 (0:UInt32),.s [],.s []]) [] 6),(Do (.store 4) [.v 6,.m 12])]
(se (sq [(Op (.load (some 4)) [.v 6] 13),(Cl 65 0 [.m 13] 14),(Op (.un .not) [.m 14] 15)]
(cn 15 (dp [4,6,7,8,9,15] (sq [(Op .mv [.k (.nilS)] 2),(Mk kf 3)]
.ret))
(dp [15] .skip)))
(rg [(Mv 4 16),(Op (.load (some 4)) [.m 6] 17),(Cl 66 1 [.m 16,.m 17] 18),(Mv 18 4)]))))
(rg [(Bi .add [.m 9,ki 1] 19),(Mv 19 9)])))))
def fn44_s0:SSh:=⟨[(4,boS),(7,lS 4),(8,iS),(9,iS)],[]⟩
def fn44_o0:Cut Tb:=cutL tab 0 fn44_s0 (fun x=>(x.1.1,x.1.2.2.2.1)) (fun x=>fn44_l0 x.1.2.1 x.1.2.2.1) (fun _ x y k=>match y with|.inl y=>k .ret ⟨[(2,.nilS),(3,.b false)],[[.u8 y.Id,.u32 y.N,.s y.A,.s y.B]]⟩|.inr y=>k (.exit 0) ⟨[(4,.bo y)],[]⟩)
theorem fn44_q0:CK fn44_o0 0 (.loop fn44_p0):=cutLD2 (Z:=(Option (List UInt8)) × Int) (Y:=fn86 ⊕ ((Option (List UInt8)))) fn44_r (cF fn44_q1 uC) (fun _ x z b e=>fn44_b0 x.1.2.1 x.1.2.2.1 z.1 z.2 (fun x2 x5=>b (x2,x5)) (fun y13=>e (.inl y13)) (fun y14=>e (.inr y14))) (fun x z=>⟨[(4,.bo z.1),(7,.sl 4 x.1.2.1),(8,.n .i64 x.1.2.2.1),(9,.n .i64 z.2)],[]⟩) (fun x y=>match y with|.inl y=>(.ret,⟨[(2,.nilS),(3,.b false)],[[.u8 y.Id,.u32 y.N,.s y.A,.s y.B]]⟩)|.inr y=>((.exit 0),⟨[(4,.bo y)],[]⟩)) (pyA tab 0 .ret ⟨[(2,bsS),(3,.g (.f (.cb false)))],[[u8S,u32S,sS,sS]]⟩ (fun v=>.inl (tabBk 4 v.2.1:fn86)) (pyA tab 0 (.exit 0) ⟨[(4,boS)],[]⟩ (fun v=>.inr v.1.1) pyN))
def fn44_p:TCode Tb :=
(sq [(Op .mv [.k (.nilS)] 2),(Mk kf 3)]
(sq [(Op .mv [.k (.nilS)] 4)]
(se (sq [(Mv 0 7),(Op .len [.v 7] 8),(Mk (ki 0) 9)]
(.block 0 (dp [2,3] (.cut 0 fn44_o0 (.loop fn44_p0)))))
(sq [(Mw 4 20),(Mv 4 21),(Op .len [.m 21] 22),(Bi .leq [.m 22,ki 268435455] 23),(Mv 20 2),(Mv 23 3)]
.ret))))
def fn44_w:Orc Tb:=mkOrc (Y:=(Option (List UInt8)) × Bool) tab [lS 4] [] (fun x h=>fn44 x.1) (fun _ y k=>k (.tup [.bs y.1,.b y.2]) [])
theorem fn44_k:WK fn44_w 34:=orcD (Y:=(Option (List UInt8)) × Bool) (c:=fn44_p) (res:=[.tmp 2,.tmp 3]) (n:=24) (R:=(RSp.one (Y:=(Option (List UInt8)) × Bool) tab (.tup [.f (.a .bs),.f (.a .b)]) [] (fun a b=>(a.1,a.2.1)) (fun y=>(y.1,y.2,())) (fun y=>()))) fn44_r oneD Tryd.func34 (cS uC (cS uC (cS (cS uC (cB (cD (cT fn44_q0)))) uC)))
def fn76_r:List OP:=[op fn44_k,op fn15_k,op fn88_k]
def fn76_p:TCode Tb :=
(sq [(Op .mv [.k (.nilS)] 4)]
(sq [(Mv 1 8),(Cl 34 0 [.m 8] 9),(Mv 9 7),(Op .extm [.c 7 0] 10),(Op (.ext 1) [.m 7] 11),(Mv 10 5),(Mv 11 6)]
(se (sq [(Mv 6 12),(Op (.un .not) [.m 12] 13)]
(cn 13 (dp [4,5,13] (sq [(Mv 0 14),(Cl 35 1 [.m 14] 15),(Mv 15 4)]
.ret))
(dp [4,13] .skip)))
(sq [(Mv 0 16),(Mw 5 17),(Op .len [.m 17] 18),(Op (.cint .u32) [.m 18] 19),(Cl 36 2 [.m 16,.m 19] 20),(Mv 5 21),(Op (.app 1 1) [.m 20,.m 21] 22),(Mv 22 4)]
.ret))))
def fn76_w:Orc Tb:=mkOrc (Y:=(Option (List UInt8))) tab [bsS,lS 4] [] (fun x h=>fn76 x.1 x.2.1) (fun _ y k=>k (.bo y) [])
theorem fn76_k:WK fn76_w 11:=orcD (Y:=(Option (List UInt8))) (c:=fn76_p) (res:=[.tmp 4]) (n:=23) (R:=(RO (boS))) fn76_r oneD Tryd.func11 uC
def fn77_r:List OP:=[]
def fn77_p:TCode Tb :=
(sq [(Op .mv [.k (.nilP)] 2)]
(sq [(Mv 0 3),(Op .b2s [.m 3] 4),(Op (.build [.s [],.n .i64 0] [(0,1)]) [.m 4] 5),(Op .box [.m 5] 6),(Mv 6 2)]
.ret))
def fn77_w:Orc Tb:=mkOrc (Y:=fn55) tab [bsS] [] (fun x h=>fn77 x.1) (fun _ y k=>k (.ref 0 0) [[.s y.b,.n .i64 y.err]])
theorem fn77_k:WK fn77_w 15:=orcD (Y:=fn55) (c:=fn77_p) (res:=[.tmp 2]) (n:=7) (R:=(RSp.one (Y:=fn55) tab (rS 0 0) [[sS,iS]] (fun a b=>(⟨b.1.1,b.1.2.1⟩:fn55)) (fun y=>()) (fun y=>((y.b,y.err,()),())))) fn77_r oneD Tryd.func15 uC
def fn26_r:List OP:=[]
def fn26_p:TCode Tb :=
(sq [(Mk (ki 0) 2)]
(se (sq [(Mw 0 3),(Op (.bin .eql .p) [.m 3,.k (.nilP)] 4)]
(cn 4 (dp [0,2,4] (sq [(Mk (ki 1) 2)]
.ret))
(dp [2,4] .skip)))
(sq [(Mv 0 5),(Op .nilck [.m 5] 6),(Fam 1 6 7),(Ld 7 8),(Mv 8 2)]
.ret)))
def fn26_w:Orc Tb:=mkOrc (Y:=Int × fn55) tab [rS 0 0] [[sS,iS]] (fun x h=>fn26 (⟨h.1.1,h.1.2.1⟩:fn55)) (fun _ y k=>k (.n .i64 y.1) [[.s y.2.b,.n .i64 y.2.err]])
theorem fn26_k:WK fn26_w 22:=orcD (Y:=Int × fn55) (c:=fn26_p) (res:=[.tmp 2]) (n:=9) (R:=(RSp.one (Y:=Int × fn55) tab (iS) [[sS,iS]] (fun a b=>(a,(⟨b.1.1,b.1.2.1⟩:fn55))) (fun y=>y.1) (fun y=>((y.2.b,y.2.err,()),())))) fn26_r oneD Tryd.func22 uC
def fn52_r:List OP:=[]
def fn52_p0:TCode Tb :=
(sq [(Bi .lss [.v 7,ki 4] 8)]
(se (cn 8 (dp [8] .skip)
(dp [0,2,7,8] (.exit 0)))
(se (.block 1 (sq [(Mw 7 9),(Mv 9 5)]
(se (sq [(Mw 5 10),(Mw 0 11),(Op .lens [.m 11] 12),(Bi .geq [.m 10,.m 12] 13)]
(cn 13 (dp [0,2,5,7,13] (sq [(Op .mv [.k (.u32 (0:UInt32))] 2),(Mk (ki 0) 3),(Mk (ki 2) 4)]
.ret))
(dp [13] .skip)))
(sq [(Mw 0 14),(Mw 5 15),(Op .sidx [.m 14,.m 15] 16),(Mv 16 6)]
(sq [(Mv 2 17),(Mw 6 18),(Bi .andNot [.m 18,.k (.u8 (128:UInt8))] 19),(Op (.cint .u32) [.m 19] 20),(Mw 5 21),(Bi .mul [ki 7,.m 21] 22),(Bi .shl [.m 20,.m 22] 23),(Bi .or [.m 17,.m 23] 24),(Mv 24 2)]
(se (.block 2 (sq [(Mw 6 26),(Bi .geq [.m 26,.k (.u8 (128:UInt8))] 27),(Mv 27 25)]
(cn 25 (dp [5,6,25] (.exit 1))
(dp [0,7,25] (sq [(Mv 6 29),(Bi .eql [.m 29,.k (.u8 (0:UInt8))] 30),(Mv 30 31),(Yes .mv [.v 5] 32 31),(Yes (bi .gtr) [.m 32,ki 0] 33 31),(Pf 31 33 34),(Mv 34 28)]
(dp [32] (cn 28 (dp [2,5,28] (sq [(Op .mv [.k (.u32 (0:UInt32))] 2),(Mk (ki 0) 3),(Mk (ki 3) 4)]
.ret))
(dp [28] .skip))))))))
(sq [(Mv 2 35),(Mv 5 36),(Bi .add [.m 36,ki 1] 37),(Mv 35 2),(Mv 37 3),(Mk (ki 0) 4)]
.ret)))))))
(rg [(Bi .add [.m 7,ki 1] 38),(Mv 38 7)]))))
def fn52_s0:SSh:=⟨[(0,sS),(2,u32S),(7,iS)],[]⟩
def fn52_o0:Cut Tb:=cutL tab 0 fn52_s0 (fun x=>(x.1.2.1,x.1.2.2.1)) (fun x=>fn52_l0 x.1.1) (fun _ x y k=>match y with|.inl y=>k .ret ⟨[(2,.u32 y.1),(3,.n .i64 y.2.1),(4,.n .i64 y.2.2)],[]⟩|.inr y=>k (.exit 0) ⟨[],[]⟩)
theorem fn52_q0:CK fn52_o0 0 (.loop fn52_p0):=cutLD2 (Z:=UInt32 × Int) (Y:=(UInt32 × Int × Int) ⊕ Unit) fn52_r uC (fun _ x z b e=>fn52_b0 x.1.1 z.1 z.2 (fun x3 x4=>b (x3,x4)) (fun y6 y7 y8=>e (.inl (y6,y7,y8))) (e (.inr ()))) (fun x z=>⟨[(0,.s x.1.1),(2,.u32 z.1),(7,.n .i64 z.2)],[]⟩) (fun x y=>match y with|.inl y=>(.ret,⟨[(2,.u32 y.1),(3,.n .i64 y.2.1),(4,.n .i64 y.2.2)],[]⟩)|.inr y=>((.exit 0),⟨[],[]⟩)) (pyA tab 0 .ret ⟨[(2,u32S),(3,iS),(4,iS)],[]⟩ (fun v=>.inl (v.1.1,v.1.2.1,v.1.2.2.1)) (pyA tab 0 (.exit 0) ⟨[],[]⟩ (fun v=>.inr ()) pyN))
def fn52_p:TCode Tb :=
(sq [(Op .mv [.k (.u32 (0:UInt32))] 2),(Mk (ki 0) 3),(Mk (ki 0) 4)]
(se (sq [(Mk (ki 0) 7)]
(.block 0 (dp [3,4] (.cut 0 fn52_o0 (.loop fn52_p0)))))
(sq [(Op .mv [.k (.u32 (0:UInt32))] 2),(Mk (ki 0) 3),(Mk (ki 3) 4)]
.ret)))
def fn52_w:Orc Tb:=mkOrc (Y:=UInt32 × Int × Int) tab [sS] [] (fun x h=>fn52 x.1) (fun _ y k=>k (.tup [.u32 y.1,.n .i64 y.2.1,.n .i64 y.2.2]) [])
theorem fn52_k:WK fn52_w 71:=orcD (Y:=UInt32 × Int × Int) (c:=fn52_p) (res:=[.tmp 2,.tmp 3,.tmp 4]) (n:=39) (R:=(RSp.one (Y:=UInt32 × Int × Int) tab (.tup [.f (.a .u32),.f (.a (.n .i64)),.f (.a (.n .i64))]) [] (fun a b=>(a.1,a.2.1,a.2.2.1)) (fun y=>(y.1,y.2.1,y.2.2,())) (fun y=>()))) fn52_r oneD Tryd.func71 (cS uC (cS (cS uC (cB (cD (cT fn52_q0)))) uC))
def fn27_r:List OP:=[op fn26_k,op fn52_k]
def fn27_p:TCode Tb :=
(sq [(Op .mv [.k (.u32 (0:UInt32))] 2)]
(se (sq [(Mw 0 6),(Cl 22 0 [.m 6] 7),(Bi .neq [.m 7,ki 0] 8)]
(cn 8 (dp [0,2,8] (sq [(Op .mv [.k (.u32 (0:UInt32))] 2)]
.ret))
(dp [2,8] .skip)))
(sq [(Mw 0 10),(Op .nilck [.m 10] 11),(Fam 0 11 12),(Ld 12 13),(Cl 71 1 [.m 13] 14),(Mv 14 9),(Op .extm [.c 9 0] 15),(Op .extm [.c 9 1] 16),(Op (.ext 2) [.m 9] 17),(Mv 15 3),(Mv 16 4),(Mv 17 5)]
(sq [(Mw 0 18),(Mv 5 19),(Op .nilck [.m 18] 20),(Fam 1 20 21),(Do (.store 1) [.m 21,.m 19])]
(sq [(Mw 0 22),(Mv 0 23),(Op .nilck [.m 23] 24),(Fam 0 24 25),(Ld 25 26),(Mv 4 27),(Op (.sstr true false) [.m 26,.m 27] 28),(Op .nilck [.m 22] 29),(Fam 0 29 30),(Do (.store 1) [.m 30,.m 28])]
(sq [(Mv 3 31),(Mv 31 2)]
.ret))))))
def fn27_w:Orc Tb:=mkOrc (Y:=UInt32 × fn55) tab [rS 0 0] [[sS,iS]] (fun x h=>fn27 (⟨h.1.1,h.1.2.1⟩:fn55)) (fun _ y k=>k (.u32 y.1) [[.s y.2.b,.n .i64 y.2.err]])
theorem fn27_k:WK fn27_w 43:=orcD (Y:=UInt32 × fn55) (c:=fn27_p) (res:=[.tmp 2]) (n:=32) (R:=(RSp.one (Y:=UInt32 × fn55) tab (u32S) [[sS,iS]] (fun a b=>(a,(⟨b.1.1,b.1.2.1⟩:fn55))) (fun y=>y.1) (fun y=>((y.2.b,y.2.err,()),())))) fn27_r oneD Tryd.func43 uC
def fn21_r:List OP:=[op fn26_k]
def fn21_p0:TCode Tb :=
(cn 20 (dp [1,20] (sq [(Mv 0 21),(Op .nilck [.m 21] 22),(Fam 1 22 23),(Do (.store 1) [.m 23,ki 2])]
(sq [(Op .mv [.k (.s [])] 4),(Mk kf 5)]
.ret)))
(dp [20] .skip))
def fn21_s0:SSh:=⟨[(0,rS 0 0),(1,iS),(20,bS)],[[sS,iS]]⟩
def fn21_o0:Cut Tb:=cutJ tab 1 fn21_s0 (fun _ x k=>fn21_c0 x.1.2.2.1 (k .ret ⟨[(4,.s []),(5,.b false)],[[.s x.2.1.1,.n .i64 2]]⟩) (k .normal ⟨[(0,.ref 0 0),(1,.n .i64 x.1.2.1)],[[.s x.2.1.1,.n .i64 x.2.1.2.1]]⟩))
theorem fn21_q0:CK fn21_o0 1 fn21_p0:=cutJD fn21_r uC
def fn21_p1:TCode Tb :=
(sq [(Mw 0 24),(Op .nilck [.m 24] 25),(Fam 0 25 26),(Ld 26 27),(Mw 1 28),(Op (.sstr false true) [.m 27,.m 28] 29),(Mv 29 6)]
(sq [(Mw 0 30),(Mv 0 31),(Op .nilck [.m 31] 32),(Fam 0 32 33),(Ld 33 34),(Mv 1 35),(Op (.sstr true false) [.m 34,.m 35] 36),(Op .nilck [.m 30] 37),(Fam 0 37 38),(Do (.store 1) [.m 38,.m 36])]
(sq [(Mv 6 39),(Mv 39 4),(Mk kt 5)]
.ret)))
def fn21_s1:SSh:=⟨[(0,rS 0 0),(1,iS)],[[sS,iS]]⟩
def fn21_o1:Cut Tb:=cutJ tab 1 fn21_s1 (fun _ x k=>fn21_c1 x.1.2.1 (⟨x.2.1.1,x.2.1.2.1⟩:fn55) (fun y12 y13=>k .ret ⟨[(4,.s y12),(5,.b true)],[[.s y13,.n .i64 x.2.1.2.1]]⟩))
theorem fn21_q1:CK fn21_o1 1 fn21_p1:=cutJD fn21_r uC
def fn21_p:TCode Tb :=
(sq [(Op .mv [.k (.s [])] 4),(Mk kf 5)]
(se (sq [(Mw 0 7),(Cl 22 0 [.m 7] 8),(Bi .neq [.m 8,ki 0] 9)]
(cn 9 (dp [0,1,4,5,9] (sq [(Op .mv [.k (.s [])] 4),(Mk kf 5)]
.ret))
(dp [4,5,9] .skip)))
(se (sq [(Mw 1 10),(Bi .lss [.m 10,ki 0] 11),(Mv 11 12),(No .mv [.v 1] 13 12),(No .mv [.v 0] 14 12),(No .nilck [.m 14] 15 12),(No (.fa 0) [.m 15] 16 12),(No ld [.m 16] 17 12),(No .lens [.m 17] 18 12),(No (bi .gtr) [.m 13,.m 18] 19 12),(Pt 12 19 20)]
(dp [13,14,15,16,17,18] (.cut 1 fn21_o0 fn21_p0)))
(.cut 1 fn21_o1 fn21_p1))))
def fn21_w:Orc Tb:=mkOrc (Y:=(List UInt8) × Bool × fn55) tab [rS 0 0,iS] [[sS,iS]] (fun x h=>fn21 x.2.1 (⟨h.1.1,h.1.2.1⟩:fn55)) (fun _ y k=>k (.tup [.s y.1,.b y.2.1]) [[.s y.2.2.b,.n .i64 y.2.2.err]])
theorem fn21_k:WK fn21_w 41:=orcD (Y:=(List UInt8) × Bool × fn55) (c:=fn21_p) (res:=[.tmp 4,.tmp 5]) (n:=40) (R:=(RSp.one (Y:=(List UInt8) × Bool × fn55) tab (.tup [.f (.a .s),.f (.a .b)]) [[sS,iS]] (fun a b=>(a.1,a.2.1,(⟨b.1.1,b.1.2.1⟩:fn55))) (fun y=>(y.1,y.2.1,())) (fun y=>((y.2.2.b,y.2.2.err,()),())))) fn21_r oneD Tryd.func41 (cS uC (cS uC (cS (cS uC (cD (cT fn21_q0))) (cT fn21_q1))))
def fn28_r:List OP:=[op fn21_k]
def fn28_p:TCode Tb :=
(sq [(Op .mv [.k (.nilP)] 4)]
(se (sq [(Mw 0 7),(Op (.bin .eql .p) [.m 7,.k (.nilP)] 8)]
(cn 8 (dp [0,1,4,8] (sq [(Op .mv [.k (.nilP)] 4)]
.ret))
(dp [4,8] .skip)))
(sq [(Mw 0 10),(Mv 1 11),(Cl 41 0 [.m 10,.m 11] 12),(Mv 12 9),(Op .extm [.c 9 0] 13),(Op (.ext 1) [.m 9] 14),(Mv 13 5),(Mv 14 6)]
(sq [(Mv 5 15),(Mv 0 16),(Op .nilck [.m 16] 17),(Fam 1 17 18),(Ld 18 19),(Op (.build [.s [],.n .i64 0] [(0,1),(1,1)]) [.m 15,.m 19] 20),(Op .box [.m 20] 21),(Mv 21 4)]
.ret))))
def fn28_w:Orc Tb:=mkOrc (Y:=fn55 × fn55) tab [rS 0 0,iS] [[sS,iS]] (fun x h=>fn28 x.2.1 (⟨h.1.1,h.1.2.1⟩:fn55)) (fun _ y k=>k (.ref 1 0) [[.s y.1.b,.n .i64 y.1.err],[.s y.2.b,.n .i64 y.2.err]])
theorem fn28_k:WK fn28_w 42:=orcD (Y:=fn55 × fn55) (c:=fn28_p) (res:=[.tmp 4]) (n:=22) (R:=(RSp.one (Y:=fn55 × fn55) tab (rS 1 0) [[sS,iS],[sS,iS]] (fun a b=>((⟨b.1.1,b.1.2.1⟩:fn55),(⟨b.2.1.1,b.2.1.2.1⟩:fn55))) (fun y=>()) (fun y=>((y.1.b,y.1.err,()),(y.2.b,y.2.err,()),())))) fn28_r oneD Tryd.func42 uC
def fn22_r:List OP:=[op fn26_k]
def fn22_p:TCode Tb :=
(sq [(Mk (ki 0) 2)]
(se (sq [(Mw 0 3),(Cl 22 0 [.m 3] 4),(Bi .neq [.m 4,ki 0] 5)]
(cn 5 (dp [0,2,5] (sq [(Mk (ki 0) 2)]
.ret))
(dp [2,5] .skip)))
(sq [(Mv 0 6),(Op .nilck [.m 6] 7),(Fam 0 7 8),(Ld 8 9),(Op .lens [.m 9] 10),(Mv 10 2)]
.ret)))
def fn22_w:Orc Tb:=mkOrc (Y:=Int × fn55) tab [rS 0 0] [[sS,iS]] (fun x h=>fn22 (⟨h.1.1,h.1.2.1⟩:fn55)) (fun _ y k=>k (.n .i64 y.1) [[.s y.2.b,.n .i64 y.2.err]])
theorem fn22_k:WK fn22_w 21:=orcD (Y:=Int × fn55) (c:=fn22_p) (res:=[.tmp 2]) (n:=11) (R:=(RSp.one (Y:=Int × fn55) tab (iS) [[sS,iS]] (fun a b=>(a,(⟨b.1.1,b.1.2.1⟩:fn55))) (fun y=>y.1) (fun y=>((y.2.b,y.2.err,()),())))) fn22_r oneD Tryd.func21 uC
def fn23_r:List OP:=[op fn22_k,op fn21_k]
def fn23_p:TCode Tb :=
(sq [(Op .mv [.k (.s [])] 2)]
(sq [(Mw 0 6),(Mv 0 7),(Cl 21 0 [.m 7] 8),(Cl 41 1 [.m 6,.m 8] 9),(Mv 9 5),(Op .extm [.c 5 0] 10),(Op (.ext 1) [.m 5] 11),(Mv 10 3),(Mv 11 4)]
(sq [(Mv 3 12),(Mv 12 2)]
.ret)))
def fn23_w:Orc Tb:=mkOrc (Y:=(List UInt8) × fn55) tab [rS 0 0] [[sS,iS]] (fun x h=>fn23 (⟨h.1.1,h.1.2.1⟩:fn55)) (fun _ y k=>k (.s y.1) [[.s y.2.b,.n .i64 y.2.err]])
theorem fn23_k:WK fn23_w 45:=orcD (Y:=(List UInt8) × fn55) (c:=fn23_p) (res:=[.tmp 2]) (n:=13) (R:=(RSp.one (Y:=(List UInt8) × fn55) tab (sS) [[sS,iS]] (fun a b=>(a,(⟨b.1.1,b.1.2.1⟩:fn55))) (fun y=>y.1) (fun y=>((y.2.b,y.2.err,()),())))) fn23_r oneD Tryd.func45 uC
def fn59_r:List OP:=[op fn15_k]
def fn59_p:TCode Tb :=
(sq [(Op .mv [.k (.nilF)] 2)]
(sq [(Mv 0 4),(Cl 35 0 [.m 4] 5),(Op (.alloc [.bs none]) [] 3),(Do (.store 1) [.v 3,.m 5])]
(sq [(Op (.mkf 72 0) [.m 3] 6),(Mv 6 2)]
.ret)))
def fn59_w:Orc Tb:=mkOrc (Y:=(Option (List UInt8))) tab [bsS] [] (fun x h=>fn59 x.1) (fun _ y k=>k (.clo 72 [] [.ref 0 0]) [[.bo y]])
theorem fn59_k:WK fn59_w 44:=orcD (Y:=(Option (List UInt8))) (c:=fn59_p) (res:=[.tmp 2]) (n:=7) (R:=(RSp.one (Y:=(Option (List UInt8))) tab (.g (.clo 72 [] [.ref 0 0])) [[boS]] (fun a b=>b.1.1) (fun y=>((),((),()))) (fun y=>((y,()),())))) fn59_r oneD Tryd.func44 uC
def fn24_r:List OP:=[op fn21_k]
def fn24_p:TCode Tb :=
(sq [(Op .mv [.k (.u8 (0:UInt8))] 2)]
(sq [(Mv 0 6),(Cl 41 0 [.m 6,ki 1] 7),(Mv 7 5),(Op .extm [.c 5 0] 8),(Op (.ext 1) [.m 5] 9),(Mv 8 3),(Mv 9 4)]
(se (sq [(Mv 4 10),(Op (.un .not) [.m 10] 11)]
(cn 11 (dp [2,3,11] (sq [(Op .mv [.k (.u8 (0:UInt8))] 2)]
.ret))
(dp [2,11] .skip)))
(sq [(Mv 3 12),(Op .sidx [.m 12,ki 0] 13),(Mv 13 2)]
.ret))))
def fn24_w:Orc Tb:=mkOrc (Y:=UInt8 × fn55) tab [rS 0 0] [[sS,iS]] (fun x h=>fn24 (⟨h.1.1,h.1.2.1⟩:fn55)) (fun _ y k=>k (.u8 y.1) [[.s y.2.b,.n .i64 y.2.err]])
theorem fn24_k:WK fn24_w 16:=orcD (Y:=UInt8 × fn55) (c:=fn24_p) (res:=[.tmp 2]) (n:=14) (R:=(RSp.one (Y:=UInt8 × fn55) tab (u8S) [[sS,iS]] (fun a b=>(a,(⟨b.1.1,b.1.2.1⟩:fn55))) (fun y=>y.1) (fun y=>((y.2.b,y.2.err,()),())))) fn24_r oneD Tryd.func16 uC
def fn29_r:List OP:=[op fn21_k]
def fn29_p:TCode Tb :=
(sq [(Op .mv [.k (.u16 (0:UInt16))] 2)]
(sq [(Mv 0 6),(Cl 41 0 [.m 6,ki 2] 7),(Mv 7 5),(Op .extm [.c 5 0] 8),(Op (.ext 1) [.m 5] 9),(Mv 8 3),(Mv 9 4)]
(se (sq [(Mv 4 10),(Op (.un .not) [.m 10] 11)]
(cn 11 (dp [2,3,11] (sq [(Op .mv [.k (.u16 (0:UInt16))] 2)]
.ret))
(dp [2,11] .skip)))
(se (.reg [(Mw 3 12),(Op .sidx [.m 12,ki 0] 13),(Op (.cint .u16) [.m 13] 14),(Bi .shl [.m 14,.k (.u64 (8:UInt64))] 15),(Mw 3 16),(Op .sidx [.m 16,ki 1] 17),(Op (.cint .u16) [.m 17] 18),(Bi .or [.m 15,.m 18] 19),(Mv 19 2)] (some [[],[],[],[],[],[],[],[],[]]))
.ret))))
def fn29_w:Orc Tb:=mkOrc (Y:=UInt16 × fn55) tab [rS 0 0] [[sS,iS]] (fun x h=>fn29 (⟨h.1.1,h.1.2.1⟩:fn55)) (fun _ y k=>k (.u16 y.1) [[.s y.2.b,.n .i64 y.2.err]])
theorem fn29_k:WK fn29_w 94:=orcD (Y:=UInt16 × fn55) (c:=fn29_p) (res:=[.tmp 2]) (n:=20) (R:=(RSp.one (Y:=UInt16 × fn55) tab (u16S) [[sS,iS]] (fun a b=>(a,(⟨b.1.1,b.1.2.1⟩:fn55))) (fun y=>y.1) (fun y=>((y.2.b,y.2.err,()),())))) fn29_r oneD Tryd.func94 uC
def fn25_r:List OP:=[op fn21_k]
def fn25_p:TCode Tb :=
(sq [(Op .mv [.k (.u32 (0:UInt32))] 2)]
(sq [(Mv 0 6),(Cl 41 0 [.m 6,ki 4] 7),(Mv 7 5),(Op .extm [.c 5 0] 8),(Op (.ext 1) [.m 5] 9),(Mv 8 3),(Mv 9 4)]
(se (sq [(Mv 4 10),(Op (.un .not) [.m 10] 11)]
(cn 11 (dp [2,3,11] (sq [(Op .mv [.k (.u32 (0:UInt32))] 2)]
.ret))
(dp [2,11] .skip)))
(se (.reg [(Mw 3 12),(Op .sidx [.m 12,ki 0] 13),(Op (.cint .u32) [.m 13] 14),(Bi .shl [.m 14,.k (.u64 (24:UInt64))] 15),(Mw 3 16),(Op .sidx [.m 16,ki 1] 17),(Op (.cint .u32) [.m 17] 18),(Bi .shl [.m 18,.k (.u64 (16:UInt64))] 19),(Bi .or [.m 15,.m 19] 20),(Mw 3 21),(Op .sidx [.m 21,ki 2] 22),(Op (.cint .u32) [.m 22] 23),(Bi .shl [.m 23,.k (.u64 (8:UInt64))] 24),(Bi .or [.m 20,.m 24] 25),(Mw 3 26),(Op .sidx [.m 26,ki 3] 27),(Op (.cint .u32) [.m 27] 28),(Bi .or [.m 25,.m 28] 29),(Mv 29 2)] (some [[],[],[],[],[],[],[],[],[],[],[],[],[],[],[],[],[],[],[]]))
.ret))))
def fn25_w:Orc Tb:=mkOrc (Y:=UInt32 × fn55) tab [rS 0 0] [[sS,iS]] (fun x h=>fn25 (⟨h.1.1,h.1.2.1⟩:fn55)) (fun _ y k=>k (.u32 y.1) [[.s y.2.b,.n .i64 y.2.err]])
theorem fn25_k:WK fn25_w 95:=orcD (Y:=UInt32 × fn55) (c:=fn25_p) (res:=[.tmp 2]) (n:=30) (R:=(RSp.one (Y:=UInt32 × fn55) tab (u32S) [[sS,iS]] (fun a b=>(a,(⟨b.1.1,b.1.2.1⟩:fn55))) (fun y=>y.1) (fun y=>((y.2.b,y.2.err,()),())))) fn25_r oneD Tryd.func95 uC
def fn30_r:List OP:=[op fn29_k,op fn21_k]
def fn30_p:TCode Tb :=
(sq [(Op .mv [.k (.s [])] 2)]
(sq [(Mw 0 6),(Mv 0 7),(Cl 94 0 [.m 7] 8),(Op (.cint .i64) [.m 8] 9),(Cl 41 1 [.m 6,.m 9] 10),(Mv 10 5),(Op .extm [.c 5 0] 11),(Op (.ext 1) [.m 5] 12),(Mv 11 3),(Mv 12 4)]
(sq [(Mv 3 13),(Mv 13 2)]
.ret)))
def fn30_w:Orc Tb:=mkOrc (Y:=(List UInt8) × fn55) tab [rS 0 0] [[sS,iS]] (fun x h=>fn30 (⟨h.1.1,h.1.2.1⟩:fn55)) (fun _ y k=>k (.s y.1) [[.s y.2.b,.n .i64 y.2.err]])
theorem fn30_k:WK fn30_w 96:=orcD (Y:=(List UInt8) × fn55) (c:=fn30_p) (res:=[.tmp 2]) (n:=14) (R:=(RSp.one (Y:=(List UInt8) × fn55) tab (sS) [[sS,iS]] (fun a b=>(a,(⟨b.1.1,b.1.2.1⟩:fn55))) (fun y=>y.1) (fun y=>((y.2.b,y.2.err,()),())))) fn30_r oneD Tryd.func96 uC
def fn60_r:List OP:=[op fn24_k,op fn72_k,op fn29_k,op fn25_k,op fn27_k,op fn30_k,op fn26_k,op fn58_k]
def fn60_p0:TCode Tb :=
(cn 33 (dp [10,33] (rg [(Mw 0 36),(Cl 96 5 [.m 36] 37),(Fav 2 4 38),(Do (.store 1) [.m 38,.m 37])]))
(dp [33] (sq [(Bi .eql [.m 10,ki 7] 40),(Mv 40 39)]
(cn 39 (dp [39] (sq [(Mw 0 41),(Cl 96 5 [.m 41] 42),(Fav 2 4 43),(Do (.store 1) [.m 43,.m 42])]
(rg [(Mw 0 44),(Cl 96 5 [.m 44] 45),(Fav 3 4 46),(Do (.store 1) [.m 46,.m 45])])))
(dp [39] .skip)))))
def fn60_s0:SSh:=⟨[(0,rS 0 0),(2,rS 1 0),(4,rS 2 0),(10,iS),(33,bS)],[[sS,iS],[u8S,u32S,sS,sS],[u8S,u32S,sS,sS]]⟩
def fn60_o0:Cut Tb:=cutJ tab 1 fn60_s0 (fun _ x k=>fn60_c0 x.1.2.2.2.1 x.1.2.2.2.2.1 (⟨x.2.1.1,x.2.1.2.1⟩:fn55) (tabBk 4 x.2.2.2.1:fn86) (fun y24 y25 y26=>k .normal ⟨[(0,.ref 0 0),(2,.ref 1 0),(4,.ref 2 0)],[[.s y24.b,.n .i64 y24.err],[.u8 x.2.2.1.1,.u32 x.2.2.1.2.1,.s x.2.2.1.2.2.1,.s x.2.2.1.2.2.2.1],[.u8 x.2.2.2.1.1,.u32 x.2.2.2.1.2.1,.s y25,.s y26]]⟩))
theorem fn60_q0:CK fn60_o0 1 fn60_p0:=cutJD fn60_r uC
def fn60_p1:TCode Tb :=
(se (sq [(Mv 0 47),(Cl 22 6 [.m 47] 48),(Bi .neq [.m 48,ki 0] 49),(Mv 49 50),(No (.load (some 4)) [.v 4] 51 50),(No (.call (some 65) 7) [.m 51] 52 50),(No (.un .not) [.m 52] 53 50),(Pt 50 53 54)]
(dp [51,52] (cn 54 (dp [4,54] (sq [(Op (.build [.u8 (0:UInt8),.u32 (0:UInt32),.s [],.s []] []) [] 55),(Do (.store 4) [.v 2,.m 55]),(Mk kf 3)]
.ret))
(dp [54] .skip))))
(sq [(Op (.load (some 4)) [.m 4] 56),(Do (.store 4) [.v 2,.m 56]),(Mk kt 3)]
.ret))
def fn60_s1:SSh:=⟨[(0,rS 0 0),(2,rS 1 0),(4,rS 2 0)],[[sS,iS],[u8S,u32S,sS,sS],[u8S,u32S,sS,sS]]⟩
def fn60_o1:Cut Tb:=cutJ tab 1 fn60_s1 (fun _ x k=>fn60_c1 (⟨x.2.1.1,x.2.1.2.1⟩:fn55) (tabBk 4 x.2.2.2.1:fn86) (fun y39 y40 y41=>k .ret ⟨[(2,.ref 1 0),(3,.b y39)],[[.s y40.b,.n .i64 y40.err],[.u8 y41.Id,.u32 y41.N,.s y41.A,.s y41.B],[.u8 x.2.2.2.1.1,.u32 x.2.2.2.1.2.1,.s x.2.2.2.1.2.2.1,.s x.2.2.2.1.2.2.2.1]]⟩))
theorem fn60_q1:CK fn60_o1 1 fn60_p1:=cutJD fn60_r uC
def fn60_p:TCode Tb :=
(sq [(Op (.alloc [.u8 (0:UInt8),.u32 (0:UInt32),.s [],.s []]) [] 2),(Mk kf 3)]
(sq [(Mw 0 5),(Cl 16 0 [.m 5] 6),(Op (.build [.u8 (0:UInt8),.u32 (0:UInt32),.s [],.s []] [(0,1)]) [.m 6] 7),(Op (.alloc [.u8 (0:UInt8),.u32 (0:UInt32),.s [],.s []]) [] 4),(Do (.store 4) [.v 4,.m 7])]
(se (sq [(Fav 0 4 8),(Ld 8 9),(Cl 82 1 [.m 9] 10)]
(.block 0 (sq [(Bi .eql [.v 10,ki 1] 12),(Mv 12 11)]
(cn 11 (dp [3,10,11] (rg [(Mw 0 13),(Cl 16 0 [.m 13] 14),(Op (.cint .u32) [.m 14] 15),(Fav 1 4 16),(Do (.store 1) [.m 16,.m 15])]))
(dp [3,11] (sq [(Bi .eql [.v 10,ki 2] 18),(Mv 18 17)]
(cn 17 (dp [10,17] (rg [(Mw 0 19),(Cl 94 2 [.m 19] 20),(Op (.cint .u32) [.m 20] 21),(Fav 1 4 22),(Do (.store 1) [.m 22,.m 21])]))
(dp [17] (sq [(Bi .eql [.v 10,ki 3] 24),(Mv 24 23)]
(cn 23 (dp [10,23] (rg [(Mw 0 25),(Cl 95 3 [.m 25] 26),(Fav 1 4 27),(Do (.store 1) [.m 27,.m 26])]))
(dp [23] (sq [(Bi .eql [.v 10,ki 4] 29),(Mv 29 28)]
(cn 28 (dp [10,28] (rg [(Mw 0 30),(Cl 43 4 [.m 30] 31),(Fav 1 4 32),(Do (.store 1) [.m 32,.m 31])]))
(dp [28] (se (sq [(Bi .eql [.v 10,ki 5] 34),(Mv 34 33)]
(cn 33 .skip
(dp [33] (rg [(Bi .eql [.v 10,ki 6] 35),(Mv 35 33)]))))
(.cut 1 fn60_o0 fn60_p0))))))))))))))))
(.cut 1 fn60_o1 fn60_p1))))
def fn60_w:Orc Tb:=mkOrc (Y:=fn86 × Bool × fn55) tab [rS 0 0] [[sS,iS]] (fun x h=>fn60 (⟨h.1.1,h.1.2.1⟩:fn55)) (fun _ y k=>k (.tup [.agg [.u8 y.1.Id,.u32 y.1.N,.s y.1.A,.s y.1.B],.b y.2.1]) [[.s y.2.2.b,.n .i64 y.2.2.err]])
theorem fn60_k:WK fn60_w 73:=orcD (Y:=fn86 × Bool × fn55) (c:=fn60_p) (res:=[.cell 2 (some 4),.tmp 3]) (n:=57) (R:=(RSp.one (Y:=fn86 × Bool × fn55) tab (.tup [.st 4,.f (.a .b)]) [[sS,iS]] (fun a b=>((a.1:fn86),a.2.1,(⟨b.1.1,b.1.2.1⟩:fn55))) (fun y=>((y.1:fn86),y.2.1,())) (fun y=>((y.2.2.b,y.2.2.err,()),())))) fn60_r oneD Tryd.func73 (cS uC (cS uC (cS (cS uC (cB (cS uC (cC uC (cD (cS uC (cC uC (cD (cS uC (cC uC (cD (cS uC (cC uC (cD (cS uC (cT fn60_q0)))))))))))))))) (cT fn60_q1))))
def fn48_r:List OP:=[op fn77_k,op fn22_k,op fn60_k]
def fn48_s1:SSh:=⟨[(0,.g (.f (.yl))),(3,rS 1 0)],[[boS],[sS,iS]]⟩
def fn48_o1:Cut Tb:=cutJ tab 1 fn48_s1 (fun _ x k=>k .normal ⟨[(0,.yl x.1.1),(3,.ref 1 0)],[[.bo x.2.1.1],[.s x.2.2.1.1,.n .i64 x.2.2.1.2.1]]⟩)
theorem fn48_q1:CK fn48_o1 1 .skip:=yv817 (c:=.skip) tabOk (orK fn48_r) trivial (fun _ _=>by kernel_rfl)
def fn48_a:TCode Tb :=
(rg [(Ld 1 6),(Cl 15 0 [.m 6] 7),(Mv 7 3)])
def fn48_p:TCode Tb :=
(.fin 1 fn48_o1 (se (sq [(Mw 3 8),(Cl 21 1 [.m 8] 9),(Bi .gtr [.m 9,ki 0] 10)]
(cn 10 (dp [10] .skip)
(dp [0,3,10] (.exit 0))))
(.block 1 (sq [(Mw 3 12),(Cl 73 2 [.m 12] 13),(Mv 13 11),(Op .extm [.c 11 0] 14),(Op (.ext 1) [.m 11] 15),(Op (.alloc [.u8 (0:UInt8),.u32 (0:UInt32),.s [],.s []]) [] 4),(Do (.store 4) [.v 4,.m 14]),(Mv 15 5)]
(sq [(Mw 0 16),(Op (.load (some 4)) [.m 4] 17),(Mw 5 18),(Op (.call none 999) [.m 16,.m 17,.m 18] 19),(Op (.un .not) [.m 19] 20),(Mv 20 21),(No .mv [.m 5] 22 21),(No (.un .not) [.m 22] 23 21),(Pt 21 23 24)]
(dp [5,22] (cn 24 (dp [0,3,24] .ret)
(dp [24] .skip))))))))
theorem fn48_it:ItOk Tryd.prog Wp tab 72 [rS 0 0] [[boS]] [.g (.st 4),bS] (fun c h=>fn48 h.1.1):=yv820 (a:=fn48_a) (b:=fn48_p) (i:=0) (n:=25) (ds:=[]) (Z:=(Option (List UInt8)) × fn55) (Y:=((Option (List UInt8)) × fn55 × fn86) ⊕ ((Option (List UInt8)) × fn55)) tabOk (orK fn48_r) Tryd.func72 (by kernel_rfl) (by kernel_rfl) (by kernel_rfl) trivial (cF fn48_q1 uC) fn48_l (fun _ z y b e=>fn48_b z.1 z.2 y (fun x4 x5=>b (x4,x5)) (fun y15 y16 y17=>e (.inl (y15,y16,y17))) (fun y18 y19=>e (.inr (y18,y19)))) (fun c h=>fn48_g h.1.1) (fun lb z=>⟨[(0,.yl lb),(3,.ref 1 0)],[[.bo z.1],[.s z.2.b,.n .i64 z.2.err]]⟩) (fun lb z=>⟨[(0,.yl lb),(3,.ref 1 0)],[[.bo z.1],[.s z.2.b,.n .i64 z.2.err]]⟩) (fun lb y=>match y with|.inl y=>(.ret,⟨[],[[.bo y.1],[.s y.2.1.b,.n .i64 y.2.1.err],[.u8 y.2.2.Id,.u32 y.2.2.N,.s y.2.2.A,.s y.2.2.B]]⟩)|.inr y=>((.exit 0),⟨[],[[.bo y.1],[.s y.2.b,.n .i64 y.2.err]]⟩)) (fun t=>(prjS tab 0 ⟨[(3,rS 1 0)],[[boS],[sS,iS]]⟩ ⟨rmT t.env 0,t.heap⟩).bind fun v=>some (v.2.1.1,(⟨v.2.2.1.1,v.2.2.1.2.1⟩:fn55))) (fun e t=>(pyA tab 0 .ret ⟨[],[[boS],[sS,iS],[u8S,u32S,sS,sS]]⟩ (fun v=>.inl (v.2.1.1,(⟨v.2.2.1.1,v.2.2.1.2.1⟩:fn55),(tabBk 4 v.2.2.2.1:fn86))) (pyA tab 0 (.exit 0) ⟨[],[[boS],[sS,iS]]⟩ (fun v=>.inr (v.2.1.1,(⟨v.2.2.1.1,v.2.2.1.2.1⟩:fn55))) pyN)) e ⟨rmT t.env 0,t.heap⟩) (fun lb c h=>by kernel_rfl) (fun lb c h y k=>by kernel_rfl) (fun lb z=>by kernel_rfl) (fun z=>by kernel_rfl) (fun i=>by kernel_rfl) (fun lb y=>by rcases y with y|y<;>kernel_rfl) (fun lb z=>by kernel_rfl) (fun lb y=>by rcases y with y|y<;>kernel_rfl) (fun lb z y k=>by kernel_rfl) (fun c h=>by kernel_rfl)
def fn5_r:List OP:=[]
def fn5_p:TCode Tb :=
(sq [(Op .mv [.k (.nilS)] 2)]
(se (sq [(Mw 0 3),(Op (.bin .eql .sl) [.v 3,.k (.nilS)] 4)]
(cn 4 (dp [0,2,3,4] (sq [(Op .mv [.k (.nilS)] 2)]
.ret))
(dp [2,3,4] .skip)))
(sq [⟨(.bslice 4 0 ((⟨(0:UInt8),(0:UInt32),[],[]⟩:fn86):fn86) []),[],some 5,none⟩,(Mv 0 6),(Op (.app 4 40) [.m 5,.m 6] 7),(Mv 7 2)]
.ret)))
def fn5_w:Orc Tb:=mkOrc (Y:=(Option (List fn86))) tab [lS 4] [] (fun x h=>fn5 x.1) (fun _ y k=>k (.ow 4 y) [])
theorem fn5_k:WK fn5_w 55:=orcD (Y:=(Option (List fn86))) (c:=fn5_p) (res:=[.tmp 2]) (n:=8) (R:=(RO (wS 4))) fn5_r oneD Tryd.func55 uC
def fn6_r:List OP:=[]
def fn6_p:TCode Tb :=
(sq [(Op .mv [.k (.nilS)] 2)]
(se (sq [(Mw 0 3),(Op (.bin .eql .sl) [.v 3,.k (.nilS)] 4)]
(cn 4 (dp [0,2,3,4] (sq [(Op .mv [.k (.nilS)] 2)]
.ret))
(dp [2,3,4] .skip)))
(sq [⟨(.bslice 4 0 ((⟨(0:UInt8),(0:UInt32),[],[]⟩:fn86):fn86) []),[],some 5,none⟩,(Mv 0 6),(Op (.appv 4 40) [.m 5,.m 6] 7),(Mv 7 2)]
.ret)))
def fn6_w:Orc Tb:=mkOrc (Y:=((Option (List fn86))) ⊕ (Nat × (List fn86))) tab [lS 4] [] (fun x h=>fn6 x.1) (fun _ y k=>match y with|.inl y=>k (.ow 4 y) []|.inr y=>k (.vw 4 0 y.1) [[.blk 4 y.2]])
theorem fn6_k:WK fn6_w 55:=yv821 (Y:=((Option (List fn86))) ⊕ (Nat × (List fn86))) (orcs:=ors fn6_r) (c:=fn6_p) (res:=[.tmp 2]) (n:=8) (R:=(RSp.or (RO (wS 4)) (RSp.one (Y:=Nat × (List fn86)) tab (.g (.f (.vw 4 0))) [[.g (.f (.blk 4))]] (fun a b=>(a,b.1.1)) (fun y=>y.1) (fun y=>((y.2,()),()))))) tabOk (orK fn6_r) (RSp.or_ok oneD oneD) Tryd.func55 (by kernel_rfl) (by kernel_rfl) (by kernel_rfl) (by kernel_rfl) uC (fun _ y k=>by rcases y with y|y<;>kernel_rfl) (fun y=>by rcases y with y|y<;>kernel_rfl) (fun x h=>by kernel_rfl)
def fn7_w:Orc Tb:=yv787 tab 4 40
theorem fn7_k:WK fn7_w 55:=yv788 (o1:=fn5_w) (o2:=fn6_w) tabOk fn5_k fn6_k (.ow 4 none) rfl (by kernel_rfl) (by kernel_rfl) (fun x xs hc=>⟨_,_,rfl,rfl,by
 have e:fn6 (some (x::xs))=some (.inr (xs.length + 1,x::xs)):=by
  show ((chk (decide ((xs.length + 1) * 40 ≤ room∧xs.length + 1 ≤ room))).bind fun _=>(some (.inr (xs.length + 1,x::xs)):Option ((Option (List fn86)) ⊕ (Nat × (List fn86)))))=_
  rw [show chk (decide ((xs.length + 1) * 40 ≤ room∧xs.length + 1 ≤ room))=some () by rw [decide_eq_true hc];rfl]
  rfl
 show (fn6 (some (x::xs))).bind (fun y=>match y with|.inl y=>(some (TV.ow 4 y,[]):Option (TV Tb × THeap Tb))|.inr y=>some (TV.vw 4 0 y.1,[[TV.blk 4 y.2]]))=_
 rw [e]
 rfl⟩)
def fn2_r:List OP:=[]
def fn2_p1:TCode Tb :=
(se (se (.reg [(Mw 9 18),(Mw 1 19),(Bi .gtr [.m 18,.m 19] 20),(Mv 20 21),(Yes .mv [.v 3] 22 21),(Yes .mv [.v 0] 23 21),(Yes .mv [.v 9] 24 21),(Yes (.ia 4) [.v 23,.m 24] 25 21),(Yes (.load (some 4)) [.m 25] 26 21),(Yes .mv [.v 0] 27 21),(Yes .mv [.v 9] 28 21),(Yes (bi .sub) [.m 28,ki 1] 29 21),(Yes (.ia 4) [.v 27,.m 29] 30 21),(Yes (.load (some 4)) [.m 30] 31 21),(Yes (.call none 999) [.m 22,.m 26,.m 31] 32 21),(Yes (bi .lss) [.m 32,ki 0] 33 21),(Pf 21 33 34)] (some [[],[],[],[],[],[],[],[],[],[],[],[],[],[8],[],[],[]]))
(dp [22,23,24,25,26,27,28,29,30,31,32] (cn 34 (dp [34] .skip)
(dp [9,34] (.exit 2)))))
(se (.block 3 (.reg [(Mw 0 37),(Mw 9 38),(Mw 0 39),(Mw 9 40),(Bi .sub [.m 40,ki 1] 41),(Mw 0 42),(Mw 9 43),(Bi .sub [.m 43,ki 1] 44),(Op (.ia 4) [.v 42,.m 44] 45),(Op (.load (some 4)) [.m 45] 46),(Mw 0 47),(Mw 9 48),(Op (.ia 4) [.v 47,.m 48] 49),(Op (.load (some 4)) [.m 49] 50),(Op (.ia 4) [.v 37,.m 38] 51),(Do (.store 4) [.m 51,.m 46]),(Op (.ia 4) [.v 39,.m 41] 52),(Do (.store 4) [.m 52,.m 50])] (some [[],[],[],[],[],[],[],[],[],[],[],[],[],[9],[],[],[],[]])))
(dp [37,39,42,47] (rg [(Mv 9 35),(Bi .sub [.m 35,ki 1] 36),(Mv 36 9)]))))
def fn2_o1:Cut Tb:=cutX tab (ors fn2_r) 0 fn2_p1
theorem fn2_q1:CK fn2_o1 0 (.loop fn2_p1):=yv819 (c:=fn2_p1) tabOk (orK fn2_r) uC
def fn2_p0:TCode Tb :=
(se (sq [(Mw 8 12),(Mw 2 13),(Bi .lss [.m 12,.m 13] 14)]
(cn 14 (dp [14] .skip)
(dp [0,1,2,3,8,14] (.exit 0))))
(se (.block 1 (sq [(Mw 8 17),(Mv 17 9)]
(.block 2 (.cut 0 fn2_o1 (.loop fn2_p1)))))
(rg [(Mv 8 15),(Bi .add [.m 15,ki 1] 16),(Mv 16 8)])))
def fn2_o0:Cut Tb:=cutX tab (ors fn2_r) 0 fn2_p0
theorem fn2_q0:CK fn2_o0 0 (.loop fn2_p0):=yv819 (c:=fn2_p0) tabOk (orK fn2_r) (cS uC (cS (cB (cS uC (cB (cT fn2_q1)))) uC))
def fn2_p:TCode Tb :=
(sq [(Mw 1 10),(Bi .add [.m 10,ki 1] 11),(Mv 11 8)]
(.block 0 (.cut 0 fn2_o0 (.loop fn2_p0))))
def fn2_w:Orc Tb:=mkOrc (Y:=Unit) tab [.g (.f (.nilS)),.g (.f (.ci .i64 0)),.g (.f (.ci .i64 0)),.g (.clo 57 [] [])] [] (fun x h=>fn2) (fun _ y k=>k (.tup []) [])
theorem fn2_k:WK fn2_w 97:=orcD (Y:=Unit) (c:=fn2_p) (res:=[]) (n:=53) (R:=(RSp.one (Y:=Unit) tab (.tup []) [] (fun a b=>()) (fun y=>()) (fun y=>()))) fn2_r oneD Tryd.func97 (cS uC (cB (cT fn2_q0)))
def fn10_r:List OP:=[op fn2_k]
def fn10_p0:TCode Tb :=
(.fin 0 (cutD 0 [18]) (se (sq [(Mw 8 11),(Mw 1 12),(Bi .leq [.m 11,.m 12] 13)]
(cn 13 (dp [13] .skip)
(dp [8,13] (.exit 0))))
(.block 1 (sq [(Mw 0 14),(Mv 7 15),(Mw 8 16),(Mw 2 17),(Cl 97 999 [.m 14,.m 15,.m 16,.m 17] 18)]
(sq [(Mw 8 19),(Mv 19 7)]
(rg [(Mv 8 20),(Mw 6 21),(Bi .add [.m 20,.m 21] 22),(Mv 22 8)]))))))
def fn10_o0:Cut Tb:=cutX tab (ors fn10_r) 0 fn10_p0
theorem fn10_q0:CK fn10_o0 0 (.loop fn10_p0):=yv819 (c:=fn10_p0) tabOk (orK fn10_r) (cF yv816 uC)
def fn10_p1:TCode Tb :=
(se (sq [(Mw 6 28),(Mw 1 29),(Bi .lss [.m 28,.m 29] 30)]
(cn 30 (dp [30] .skip)
(dp [0,1,2,6,30] (.exit 2))))
(.block 3 (sq [(Mw 6 31),(Bi .mul [ki 2,.m 31] 32),(Mk (ki 0) 7),(Mv 32 8)]
(se (.block 4 (.loop (.fin 0 (cutD 0 [43]) (se (sq [(Mw 8 33),(Mw 1 34),(Bi .leq [.m 33,.m 34] 35)]
(cn 35 (dp [35] .skip)
(dp [8,35] (.exit 4))))
(.block 5 (sq [(Mw 0 36),(Mw 7 37),(Mv 7 38),(Mw 6 39),(Bi .add [.m 38,.m 39] 40),(Mw 8 41),(Mw 2 42),(Cl 98 999 [.m 36,.m 37,.m 40,.m 41,.m 42] 43)]
(sq [(Mw 8 44),(Mv 44 7)]
(rg [(Mv 8 45),(Mw 6 46),(Bi .mul [ki 2,.m 46] 47),(Bi .add [.m 45,.m 47] 48),(Mv 48 8)]))))))))
(se (sq [(Mw 7 49),(Mw 6 50),(Bi .add [.m 49,.m 50] 51),(Mv 51 9)]
(sq [(Mw 9 52),(Mw 1 53),(Bi .lss [.m 52,.m 53] 54)]
(cn 54 (dp [54] (rg [(Mw 0 55),(Mv 7 56),(Mv 9 57),(Mw 1 58),(Mw 2 59),(Cl 98 999 [.m 55,.m 56,.m 57,.m 58,.m 59] 60)]))
(dp [7,9,54] .skip))))
(dp [60] (rg [(Mv 6 61),(Bi .mul [.m 61,ki 2] 62),(Mv 62 6)])))))))
def fn10_o1:Cut Tb:=cutX tab (ors fn10_r) 0 fn10_p1
theorem fn10_q1:CK fn10_o1 0 (.loop fn10_p1):=yv819 (c:=fn10_p1) tabOk (orK fn10_r) (cS uC (cB (cS uC (cS (cB (cL (cF yv816 uC))) uC))))
def fn10_p:TCode Tb :=
(sq [(Mk (ki 20) 6)]
(sq [(Mw 6 10),(Mk (ki 0) 7),(Mv 10 8)]
(se (.block 0 (.cut 0 fn10_o0 (.loop fn10_p0)))
(sq [(Mw 0 23),(Mv 7 24),(Mw 1 25),(Mw 2 26),(Cl 97 0 [.m 23,.m 24,.m 25,.m 26] 27)]
(.block 2 (dp [27] (.cut 0 fn10_o1 (.loop fn10_p1))))))))
def fn10_w:Orc Tb:=mkOrc (Y:=Unit) tab [.g (.f (.nilS)),.g (.f (.ci .i64 0)),.g (.clo 57 [] [])] [] (fun x h=>fn10) (fun _ y k=>k (.tup []) [])
theorem fn10_k:WK fn10_w 80:=orcD (Y:=Unit) (c:=fn10_p) (res:=[]) (n:=63) (R:=(RSp.one (Y:=Unit) tab (.tup []) [] (fun a b=>()) (fun y=>()) (fun y=>()))) fn10_r oneD Tryd.func80 (cS uC (cS uC (cS (cB (cT fn10_q0)) (cS uC (cB (cD (cT fn10_q1)))))))
def fn0_r:List OP:=[op fn10_k]
def fn0_p:TCode Tb :=
(rg [(Mw 0 4),(Mv 0 5),(Op .len [.m 5] 6),(Mv 1 7),(Cl 80 0 [.m 4,.m 6,.m 7] 8)])
def fn0_w:Orc Tb:=mkOrc (Y:=Unit) tab [.g (.f (.nilS)),.g (.clo 57 [] [])] [] (fun x h=>fn0) (fun _ y k=>k (.tup []) [])
theorem fn0_k:WK fn0_w 56:=orcD (Y:=Unit) (c:=fn0_p) (res:=[]) (n:=9) (R:=(RSp.one (Y:=Unit) tab (.tup []) [] (fun a b=>()) (fun y=>()) (fun y=>()))) fn0_r oneD Tryd.func56 trivial
def fn49_r:List OP:=[op fn7_k,op fn0_k]
def fn49_p:TCode Tb :=
(sq [(Op .mv [.k (.nilS)] 2)]
(sq [(Mv 0 4),(Cl 55 0 [.m 4] 5),(Mv 5 3)]
(sq [(Mw 3 6),(Op (.call (some 56) 1) [.m 6,.k (.clo 57 [] [])] 7)]
(sq [(Mv 3 8),(Mv 8 2)]
.ret))))
def fn49_w:Orc Tb:=mkOrc (Y:=(Option (List fn86))) tab [lS 4] [] (fun x h=>fn49 x.1) (fun _ y k=>k (.sl 4 y) [])
theorem fn49_k:WK fn49_w 29:=orcD (Y:=(Option (List fn86))) (c:=fn49_p) (res:=[.tmp 2]) (n:=9) (R:=(RSp.one (Y:=(Option (List fn86))) tab (lS 4) [] (fun a b=>a) (fun y=>y) (fun y=>()))) fn49_r oneD Tryd.func29 uC
def fn31_r:List OP:=[]
def fn31_p:TCode Tb :=
(sq [(Mk kf 2)]
(sq [(Mw 0 3),(Mv 0 4),(Bi .neq [.m 3,.m 4] 5),(Mv 5 2)]
.ret))
def fn31_w:Orc Tb:=mkOrc (Y:=Bool) tab [u8S] [] (fun x h=>fn31 x.1) (fun _ y k=>k (.b y) [])
theorem fn31_k:WK fn31_w 81:=orcD (Y:=Bool) (c:=fn31_p) (res:=[.tmp 2]) (n:=6) (R:=(RO (bS))) fn31_r oneD Tryd.func81 uC
def fn18_r:List OP:=[op fn31_k]
def fn18_p:TCode Tb :=
(sq [(Mk (ki 0) 4)]
(sq [(Mw 0 7),(Cl 81 0 [.m 7] 8),(Mv 8 5)]
(sq [(Mw 1 9),(Cl 81 0 [.m 9] 10),(Mv 10 6)]
(se (sq [(Mv 5 11)]
(cn 11 (dp [0,1,4,11] (se (sq [(Mv 6 12)]
(cn 12 (dp [12] (sq [(Mk (ki 0) 4)]
.ret))
(dp [12] .skip)))
(sq [(Op .mv [.k (.n .i64 (-1))] 4)]
.ret)))
(dp [4,11] .skip)))
(se (sq [(Mv 6 13)]
(cn 13 (dp [0,1,13] (sq [(Mk (ki 1) 4)]
.ret))
(dp [13] .skip)))
(se (sq [(Mw 0 14),(Mw 1 15),(Bi .lss [.m 14,.m 15] 16)]
(cn 16 (dp [0,1,16] (sq [(Op .mv [.k (.n .i64 (-1))] 4)]
.ret))
(dp [16] .skip)))
(se (sq [(Mv 0 17),(Mv 1 18),(Bi .gtr [.m 17,.m 18] 19)]
(cn 19 (dp [19] (sq [(Mk (ki 1) 4)]
.ret))
(dp [19] .skip)))
(sq [(Mk (ki 0) 4)]
.ret))))))))
def fn18_w:Orc Tb:=mkOrc (Y:=Int) tab [u8S,u8S] [] (fun x h=>fn18 x.1 x.2.1) (fun _ y k=>k (.n .i64 y) [])
theorem fn18_k:WK fn18_w 58:=orcD (Y:=Int) (c:=fn18_p) (res:=[.tmp 4]) (n:=20) (R:=(RSp.one (Y:=Int) tab (iS) [] (fun a b=>a) (fun y=>y) (fun y=>()))) fn18_r oneD Tryd.func58 uC
def fn50_r:List OP:=[op fn18_k]
def fn50_p:TCode Tb :=
(sq [(Op .box [.m 0] 2),(Op .box [.m 1] 3),(Mk (ki 0) 4)]
(sq [(Fam 0 2 5),(Ld 5 6),(Fam 0 3 7),(Ld 7 8),(Cl 58 0 [.m 6,.m 8] 9),(Mv 9 4)]
.ret))
def fn50_w:Orc Tb:=mkOrc (Y:=Int) tab [.g (.st 4),.g (.st 4)] [] (fun x h=>fn50 (x.1:fn86) (x.2.1:fn86)) (fun _ y k=>k (.n .i64 y) [])
theorem fn50_k:WK fn50_w 57:=orcD (Y:=Int) (c:=fn50_p) (res:=[.tmp 4]) (n:=10) (R:=(RSp.one (Y:=Int) tab (iS) [] (fun a b=>a) (fun y=>y) (fun y=>()))) fn50_r oneD Tryd.func57 uC
def fn4_r:List OP:=[op fn50_k]
def fn4_p1:TCode Tb :=
(se (se (.reg [(Mw 9 18),(Mw 1 19),(Bi .gtr [.m 18,.m 19] 20),(Mv 20 21),(Yes .mv [.v 3] 22 21),(Yes .mv [.v 0] 23 21),(Yes .mv [.v 9] 24 21),(Yes (.ia 4) [.v 23,.m 24] 25 21),(Yes (.load (some 4)) [.m 25] 26 21),(Yes .mv [.v 0] 27 21),(Yes .mv [.v 9] 28 21),(Yes (bi .sub) [.m 28,ki 1] 29 21),(Yes (.ia 4) [.v 27,.m 29] 30 21),(Yes (.load (some 4)) [.m 30] 31 21),(Yes (.call none 0) [.m 22,.m 26,.m 31] 32 21),(Yes (bi .lss) [.m 32,ki 0] 33 21),(Pf 21 33 34)] (some [[],[],[],[],[],[],[],[],[],[],[],[],[],[8],[],[],[]]))
(dp [22,23,24,25,26,27,28,29,30,31,32] (cn 34 (dp [34] .skip)
(dp [9,34] (.exit 2)))))
(se (.block 3 (.reg [(Mw 0 37),(Mw 9 38),(Mw 0 39),(Mw 9 40),(Bi .sub [.m 40,ki 1] 41),(Mw 0 42),(Mw 9 43),(Bi .sub [.m 43,ki 1] 44),(Op (.ia 4) [.v 42,.m 44] 45),(Op (.load (some 4)) [.m 45] 46),(Mw 0 47),(Mw 9 48),(Op (.ia 4) [.v 47,.m 48] 49),(Op (.load (some 4)) [.m 49] 50),(Op (.ia 4) [.v 37,.m 38] 51),(Do (.store 4) [.m 51,.m 46]),(Op (.ia 4) [.v 39,.m 41] 52),(Do (.store 4) [.m 52,.m 50])] (some [[],[],[],[],[],[],[],[],[],[],[],[],[],[9],[],[],[],[]])))
(dp [37,39,42,47] (rg [(Mv 9 35),(Bi .sub [.m 35,ki 1] 36),(Mv 36 9)]))))
def fn4_s1:SSh:=⟨[(0,.g (.f (.vw 4 0))),(1,iS),(2,iS),(3,.g (.clo 57 [] [])),(8,iS),(9,iS)],[[.g (.f (.blk 4))]]⟩
def fn4_o1:Cut Tb:=cutL tab 1 fn4_s1 (fun x=>(x.1.2.2.2.2.2.1,x.2.1.1)) (fun x=>fn4_l1 x.1.1 x.1.2.1) (fun _ x y k=>k (.exit 2) ⟨[(0,.vw 4 0 x.1.1),(1,.n .i64 x.1.2.1),(2,.n .i64 x.1.2.2.1),(3,.clo 57 [] []),(8,.n .i64 x.1.2.2.2.2.1)],[[.blk 4 y]]⟩)
theorem fn4_q1:CK fn4_o1 1 (.loop fn4_p1):=cutLD (Z:=Int × (List fn86)) (Y:=(List fn86)) fn4_r uC (fun _ x z b e=>fn4_b1 x.1.1 x.1.2.1 z.1 z.2 (fun x14 x15=>b (x14,x15)) (fun y25=>e y25)) (fun x z=>⟨[(0,.vw 4 0 x.1.1),(1,.n .i64 x.1.2.1),(2,.n .i64 x.1.2.2.1),(3,.clo 57 [] []),(8,.n .i64 x.1.2.2.2.2.1),(9,.n .i64 z.1)],[[.blk 4 z.2]]⟩) (fun x y=>((.exit 2),⟨[(0,.vw 4 0 x.1.1),(1,.n .i64 x.1.2.1),(2,.n .i64 x.1.2.2.1),(3,.clo 57 [] []),(8,.n .i64 x.1.2.2.2.2.1)],[[.blk 4 y]]⟩)) (pyA tab 1 (.exit 2) ⟨[(0,.g (.f (.vw 4 0))),(1,iS),(2,iS),(3,.g (.clo 57 [] [])),(8,iS)],[[.g (.f (.blk 4))]]⟩ (fun v=>v.2.1.1) pyN)
def fn4_p0:TCode Tb :=
(se (sq [(Mw 8 12),(Mw 2 13),(Bi .lss [.m 12,.m 13] 14)]
(cn 14 (dp [14] .skip)
(dp [0,1,2,3,8,14] (.exit 0))))
(se (.block 1 (sq [(Mw 8 17),(Mv 17 9)]
(.block 2 (.cut 1 fn4_o1 (.loop fn4_p1)))))
(rg [(Mv 8 15),(Bi .add [.m 15,ki 1] 16),(Mv 16 8)])))
def fn4_s0:SSh:=⟨[(0,.g (.f (.vw 4 0))),(1,iS),(2,iS),(3,.g (.clo 57 [] [])),(8,iS)],[[.g (.f (.blk 4))]]⟩
def fn4_o0:Cut Tb:=cutL tab 1 fn4_s0 (fun x=>(x.1.2.2.2.2.1,x.2.1.1)) (fun x=>fn4_l0 x.1.1 x.1.2.1 x.1.2.2.1) (fun _ x y k=>k (.exit 0) ⟨[],[[.blk 4 y]]⟩)
theorem fn4_q0:CK fn4_o0 1 (.loop fn4_p0):=cutLD (Z:=Int × (List fn86)) (Y:=(List fn86)) fn4_r (cS uC (cS (cB (cS uC (cB (cT fn4_q1)))) uC)) (fun _ x z b e=>fn4_b0 x.1.1 x.1.2.1 x.1.2.2.1 z.1 z.2 (fun x8 x9=>b (x8,x9)) (fun y27=>e y27)) (fun x z=>⟨[(0,.vw 4 0 x.1.1),(1,.n .i64 x.1.2.1),(2,.n .i64 x.1.2.2.1),(3,.clo 57 [] []),(8,.n .i64 z.1)],[[.blk 4 z.2]]⟩) (fun x y=>((.exit 0),⟨[],[[.blk 4 y]]⟩)) (pyA tab 1 (.exit 0) ⟨[],[[.g (.f (.blk 4))]]⟩ (fun v=>v.2.1.1) pyN)
def fn4_p:TCode Tb :=
(sq [(Mw 1 10),(Bi .add [.m 10,ki 1] 11),(Mv 11 8)]
(.block 0 (.cut 1 fn4_o0 (.loop fn4_p0))))
def fn4_w:Orc Tb:=mkOrc (Y:=(List fn86)) tab [.g (.f (.vw 4 0)),iS,iS,.g (.clo 57 [] [])] [[.g (.f (.blk 4))]] (fun x h=>fn4 x.1 x.2.1 x.2.2.1 h.1.1) (fun _ y k=>k (.tup []) [[.blk 4 y]])
theorem fn4_k:WK fn4_w 97:=orcD (Y:=(List fn86)) (c:=fn4_p) (res:=[]) (n:=53) (R:=(RSp.one (Y:=(List fn86)) tab (.tup []) [[.g (.f (.blk 4))]] (fun a b=>b.1.1) (fun y=>()) (fun y=>((y,()),())))) fn4_r oneD Tryd.func97 (cS uC (cB (cT fn4_q0)))
def fn9_r:List OP:=[]
def fn9_p0:TCode Tb :=
(se (sq [(Mw 10 11),(Mw 3 12),(Bi .lss [.m 11,.m 12] 13)]
(cn 13 (dp [13] .skip)
(dp [0,1,2,3,10,13] (.exit 0))))
(se (.block 1 (.reg [(Mw 0 16),(Mw 1 17),(Mw 10 18),(Bi .add [.m 17,.m 18] 19),(Mw 0 20),(Mw 2 21),(Mw 10 22),(Bi .add [.m 21,.m 22] 23),(Mw 0 24),(Mw 2 25),(Mw 10 26),(Bi .add [.m 25,.m 26] 27),(Op (.ia 4) [.v 24,.m 27] 28),(Op (.load (some 4)) [.m 28] 29),(Mw 0 30),(Mw 1 31),(Mw 10 32),(Bi .add [.m 31,.m 32] 33),(Op (.ia 4) [.v 30,.m 33] 34),(Op (.load (some 4)) [.m 34] 35),(Op (.ia 4) [.v 16,.m 19] 36),(Do (.store 4) [.m 36,.m 29]),(Op (.ia 4) [.v 20,.m 23] 37),(Do (.store 4) [.m 37,.m 35])] (some [[],[],[],[],[],[],[],[],[],[],[],[],[],[],[],[],[],[],[],[13],[],[],[],[]])))
(dp [16,20,24,30] (rg [(Mv 10 14),(Bi .add [.m 14,ki 1] 15),(Mv 15 10)]))))
def fn9_s0:SSh:=⟨[(0,.g (.f (.vw 4 0))),(1,iS),(2,iS),(3,iS),(10,iS)],[[.g (.f (.blk 4))]]⟩
def fn9_o0:Cut Tb:=cutL tab 1 fn9_s0 (fun x=>(x.1.2.2.2.2.1,x.2.1.1)) (fun x=>fn9_l0 x.1.1 x.1.2.1 x.1.2.2.1 x.1.2.2.2.1) (fun _ x y k=>k (.exit 0) ⟨[],[[.blk 4 y]]⟩)
theorem fn9_q0:CK fn9_o0 1 (.loop fn9_p0):=cutLD (Z:=Int × (List fn86)) (Y:=(List fn86)) fn9_r uC (fun _ x z b e=>fn9_b0 x.1.1 x.1.2.1 x.1.2.2.1 x.1.2.2.2.1 z.1 z.2 (fun x10 x11=>b (x10,x11)) (fun y18=>e y18)) (fun x z=>⟨[(0,.vw 4 0 x.1.1),(1,.n .i64 x.1.2.1),(2,.n .i64 x.1.2.2.1),(3,.n .i64 x.1.2.2.2.1),(10,.n .i64 z.1)],[[.blk 4 z.2]]⟩) (fun x y=>((.exit 0),⟨[],[[.blk 4 y]]⟩)) (pyA tab 1 (.exit 0) ⟨[],[[.g (.f (.blk 4))]]⟩ (fun v=>v.2.1.1) pyN)
def fn9_p:TCode Tb :=
(sq [(Mk (ki 0) 10)]
(.block 0 (dp [4] (.cut 1 fn9_o0 (.loop fn9_p0)))))
def fn9_w:Orc Tb:=mkOrc (Y:=(List fn86)) tab [.g (.f (.vw 4 0)),iS,iS,iS,.g (.clo 57 [] [])] [[.g (.f (.blk 4))]] (fun x h=>fn9 x.1 x.2.1 x.2.2.1 x.2.2.2.1 h.1.1) (fun _ y k=>k (.tup []) [[.blk 4 y]])
theorem fn9_k:WK fn9_w 111:=orcD (Y:=(List fn86)) (c:=fn9_p) (res:=[]) (n:=38) (R:=(RSp.one (Y:=(List fn86)) tab (.tup []) [[.g (.f (.blk 4))]] (fun a b=>b.1.1) (fun y=>()) (fun y=>((y,()),())))) fn9_r oneD Tryd.func111 (cS uC (cB (cD (cT fn9_q0))))
def fn12_r:List OP:=[op fn9_k]
def fn12_p0:TCode Tb :=
(.fin 1 (cutD 1 [31,46]) (se (sq [(Mw 10 18),(Mw 11 19),(Bi .neq [.m 18,.m 19] 20)]
(cn 20 (dp [20] .skip)
(dp [11,20] (.exit 0))))
(.block 1 (sq [(Mw 10 21),(Mw 11 22),(Bi .gtr [.m 21,.m 22] 23)]
(cn 23 (dp [23] (sq [(Mw 0 24),(Mw 2 25),(Mw 10 26),(Bi .sub [.m 25,.m 26] 27),(Mw 2 28),(Mw 11 29),(Mw 4 30),(Cl 111 0 [.m 24,.m 27,.m 28,.m 29,.m 30] 31)]
(rg [(Mv 10 32),(Mw 11 33),(Bi .sub [.m 32,.m 33] 34),(Mv 34 10)])))
(dp [23] (sq [(Mw 0 35),(Mw 2 36),(Mw 10 37),(Bi .sub [.m 36,.m 37] 38),(Mw 2 39),(Mw 11 40),(Bi .add [.m 39,.m 40] 41),(Mw 10 42),(Bi .sub [.m 41,.m 42] 43),(Mw 10 44),(Mw 4 45),(Cl 111 0 [.m 35,.m 38,.m 43,.m 44,.m 45] 46)]
(rg [(Mv 11 47),(Mw 10 48),(Bi .sub [.m 47,.m 48] 49),(Mv 49 11)]))))))))
def fn12_s0:SSh:=⟨[(0,.g (.f (.vw 4 0))),(2,iS),(4,.g (.clo 57 [] [])),(10,iS),(11,iS)],[[.g (.f (.blk 4))]]⟩
def fn12_o0:Cut Tb:=cutL tab 1 fn12_s0 (fun x=>(x.1.2.2.2.1,x.1.2.2.2.2.1,x.2.1.1)) (fun x=>fn12_l0 x.1.1 x.1.2.1) (fun _ x y k=>k (.exit 0) ⟨[(0,.vw 4 0 x.1.1),(2,.n .i64 x.1.2.1),(4,.clo 57 [] []),(10,.n .i64 y.1)],[[.blk 4 y.2]]⟩)
theorem fn12_q0:CK fn12_o0 1 (.loop fn12_p0):=cutLD (Z:=Int × Int × (List fn86)) (Y:=Int × (List fn86)) fn12_r (cF yv816 uC) (fun _ x z b e=>fn12_b0 x.1.1 x.1.2.1 z.1 z.2.1 z.2.2 (fun x8 x9 x10=>b (x8,x9,x10)) (fun y13 y14=>e (y13,y14))) (fun x z=>⟨[(0,.vw 4 0 x.1.1),(2,.n .i64 x.1.2.1),(4,.clo 57 [] []),(10,.n .i64 z.1),(11,.n .i64 z.2.1)],[[.blk 4 z.2.2]]⟩) (fun x y=>((.exit 0),⟨[(0,.vw 4 0 x.1.1),(2,.n .i64 x.1.2.1),(4,.clo 57 [] []),(10,.n .i64 y.1)],[[.blk 4 y.2]]⟩)) (pyA tab 1 (.exit 0) ⟨[(0,.g (.f (.vw 4 0))),(2,iS),(4,.g (.clo 57 [] [])),(10,iS)],[[.g (.f (.blk 4))]]⟩ (fun v=>(v.1.2.2.2.1,v.2.1.1)) pyN)
def fn12_p:TCode Tb :=
(sq [(Mw 2 12),(Mv 1 13),(Bi .sub [.m 12,.m 13] 14),(Mv 14 10)]
(sq [(Mv 3 15),(Mw 2 16),(Bi .sub [.m 15,.m 16] 17),(Mv 17 11)]
(se (.block 0 (.cut 1 fn12_o0 (.loop fn12_p0)))
(rg [(Mv 0 50),(Mw 2 51),(Mw 10 52),(Bi .sub [.m 51,.m 52] 53),(Mv 2 54),(Mv 10 55),(Mv 4 56),(Cl 111 0 [.m 50,.m 53,.m 54,.m 55,.m 56] 57)]))))
def fn12_w:Orc Tb:=mkOrc (Y:=(List fn86)) tab [.g (.f (.vw 4 0)),iS,iS,iS,.g (.clo 57 [] [])] [[.g (.f (.blk 4))]] (fun x h=>fn12 x.1 x.2.1 x.2.2.1 x.2.2.2.1 h.1.1) (fun _ y k=>k (.tup []) [[.blk 4 y]])
theorem fn12_k:WK fn12_w 106:=orcD (Y:=(List fn86)) (c:=fn12_p) (res:=[]) (n:=58) (R:=(RSp.one (Y:=(List fn86)) tab (.tup []) [[.g (.f (.blk 4))]] (fun a b=>b.1.1) (fun y=>()) (fun y=>((y,()),())))) fn12_r oneD Tryd.func106 (cS uC (cS uC (cS (cB (cT fn12_q0)) uC)))
def fn11_w (n_:Nat):Orc Tb:=mkOrc (Y:=(List fn86)) tab [.g (.f (.vw 4 0)),iS,iS,iS,.g (.clo 57 [] [])] [[.g (.f (.blk 4))]] (fun x h=>fn11 n_ x.1 x.2.1 x.2.2.1 x.2.2.2.1 h.1.1) (fun _ y k=>k (.tup []) [[.blk 4 y]])
def fn11_r (n_:Nat):Orcs Tb:=[(57,fn50_w),(106,fn12_w),(98,(fn11_w n_))]
theorem fn11_rk (n_:Nat) (ih:(fn11_w n_).Ok Tryd.prog Wp tab 98):RK (fn11_r n_):=(yv782 fn50_k (yv782 fn12_k (yv782 ih yv808)))
def fn11_p0 (n_:Nat):TCode Tb :=
(se (sq [(Mw 10 31),(Mw 11 32),(Bi .lss [.m 31,.m 32] 33)]
(cn 33 (dp [33] .skip)
(dp [4,11,33] (.exit 0))))
(.block 1 (sq [(Mw 10 34),(Mw 11 35),(Bi .add [.m 34,.m 35] 36),(Op (.cint .u64) [.m 36] 37),(Bi .shr [.m 37,.k (.u64 (1:UInt64))] 38),(Op (.cint .i64) [.m 38] 39),(Mv 39 12)]
(se (.reg [(Mw 4 40),(Mw 0 41),(Mw 12 42),(Op (.ia 4) [.v 41,.m 42] 43),(Op (.load (some 4)) [.m 43] 44),(Mw 0 45),(Mw 1 46),(Op (.ia 4) [.v 45,.m 46] 47),(Op (.load (some 4)) [.m 47] 48),(Op (.call none 0) [.m 40,.m 44,.m 48] 49),(Bi .lss [.m 49,ki 0] 50)] (some [[],[],[],[],[],[],[],[],[4],[],[]]))
(cn 50 (dp [10,41,45,50] (rg [(Mv 12 51),(Bi .add [.m 51,ki 1] 52),(Mv 52 10)]))
(dp [11,41,45,50] (rg [(Mv 12 53),(Mv 53 11)])))))))
def fn11_s0:SSh:=⟨[(0,.g (.f (.vw 4 0))),(1,iS),(4,.g (.clo 57 [] [])),(10,iS),(11,iS)],[[.g (.f (.blk 4))]]⟩
def fn11_o0 (n_:Nat):Cut Tb:=cutL tab 1 fn11_s0 (fun x=>(x.1.2.2.2.1,x.1.2.2.2.2.1)) (fun x=>fn11_l0 (fn11 n_) x.1.1 x.1.2.1 x.2.1.1) (fun _ x y k=>k (.exit 0) ⟨[(0,.vw 4 0 x.1.1),(1,.n .i64 x.1.2.1),(10,.n .i64 y)],[[.blk 4 x.2.1.1]]⟩)
theorem fn11_q0 (n_:Nat) (ih:(fn11_w n_).Ok Tryd.prog Wp tab 98):((fn11_o0 n_)).Ok Tryd.prog Wp tab 1 (.loop (fn11_p0 n_)):=yv818 (c:=(fn11_p0 n_)) (Z:=Int × Int) (Y:=Int) tabOk (fn11_rk n_ ih) uC (fun _ x z b e=>fn11_b0 (fn11 n_) x.1.1 x.1.2.1 x.2.1.1 z.1 z.2 (fun x8 x9=>b (x8,x9)) (fun y14=>e y14)) (fun x z=>⟨[(0,.vw 4 0 x.1.1),(1,.n .i64 x.1.2.1),(4,.clo 57 [] []),(10,.n .i64 z.1),(11,.n .i64 z.2)],[[.blk 4 x.2.1.1]]⟩) (fun x y=>((.exit 0),⟨[(0,.vw 4 0 x.1.1),(1,.n .i64 x.1.2.1),(10,.n .i64 y)],[[.blk 4 x.2.1.1]]⟩)) (fun t=>(prjS tab 1 fn11_s0 t).bind fun x=>some (x.1.2.2.2.1,x.1.2.2.2.2.1)) (pyA tab 1 (.exit 0) ⟨[(0,.g (.f (.vw 4 0))),(1,iS),(10,iS)],[[.g (.f (.blk 4))]]⟩ (fun v=>v.1.2.2.1) pyN) (fun x=>by kernel_rfl) (fun x z=>by kernel_rfl) (fun x y k=>by kernel_rfl) (fun x y=>by exact nofun) (fun x z=>by kernel_rfl) (fun x y=>by kernel_rfl) (fun x z k=>by kernel_rfl)
def fn11_p1 (n_:Nat):TCode Tb :=
(se (sq [(Mw 13 55),(Mw 10 56),(Bi .sub [.m 56,ki 1] 57),(Bi .lss [.m 55,.m 57] 58)]
(cn 58 (dp [58] .skip)
(dp [0,10,13,58] (.exit 2))))
(se (.block 3 (.reg [(Mw 0 61),(Mw 13 62),(Mw 0 63),(Mw 13 64),(Bi .add [.m 64,ki 1] 65),(Mw 0 66),(Mw 13 67),(Bi .add [.m 67,ki 1] 68),(Op (.ia 4) [.v 66,.m 68] 69),(Op (.load (some 4)) [.m 69] 70),(Mw 0 71),(Mw 13 72),(Op (.ia 4) [.v 71,.m 72] 73),(Op (.load (some 4)) [.m 73] 74),(Op (.ia 4) [.v 61,.m 62] 75),(Do (.store 4) [.m 75,.m 70]),(Op (.ia 4) [.v 63,.m 65] 76),(Do (.store 4) [.m 76,.m 74])] (some [[],[],[],[],[],[],[],[],[],[],[],[],[],[9],[],[],[],[]])))
(dp [61,63,66,71] (rg [(Mv 13 59),(Bi .add [.m 59,ki 1] 60),(Mv 60 13)]))))
def fn11_s1:SSh:=⟨[(0,.g (.f (.vw 4 0))),(10,iS),(13,iS)],[[.g (.f (.blk 4))]]⟩
def fn11_o1 (n_:Nat):Cut Tb:=cutL tab 1 fn11_s1 (fun x=>(x.1.2.2.1,x.2.1.1)) (fun x=>fn11_l1 (fn11 n_) x.1.1 x.1.2.1) (fun _ x y k=>k (.exit 2) ⟨[],[[.blk 4 y]]⟩)
theorem fn11_q1 (n_:Nat) (ih:(fn11_w n_).Ok Tryd.prog Wp tab 98):((fn11_o1 n_)).Ok Tryd.prog Wp tab 1 (.loop (fn11_p1 n_)):=yv818 (c:=(fn11_p1 n_)) (Z:=Int × (List fn86)) (Y:=(List fn86)) tabOk (fn11_rk n_ ih) uC (fun _ x z b e=>fn11_b1 (fn11 n_) x.1.1 x.1.2.1 z.1 z.2 (fun x18 x19=>b (x18,x19)) (fun y26=>e y26)) (fun x z=>⟨[(0,.vw 4 0 x.1.1),(10,.n .i64 x.1.2.1),(13,.n .i64 z.1)],[[.blk 4 z.2]]⟩) (fun x y=>((.exit 2),⟨[],[[.blk 4 y]]⟩)) (fun t=>(prjS tab 1 fn11_s1 t).bind fun x=>some (x.1.2.2.1,x.2.1.1)) (pyA tab 1 (.exit 2) ⟨[],[[.g (.f (.blk 4))]]⟩ (fun v=>v.2.1.1) pyN) (fun x=>by kernel_rfl) (fun x z=>by kernel_rfl) (fun x y k=>by kernel_rfl) (fun x y=>by exact nofun) (fun x z=>by kernel_rfl) (fun x y=>by kernel_rfl) (fun x z k=>by kernel_rfl)
def fn11_p2 (n_:Nat):TCode Tb :=
(se (sq [(Mw 14 83),(Mw 15 84),(Bi .lss [.m 83,.m 84] 85)]
(cn 85 (dp [85] .skip)
(dp [4,15,85] (.exit 4))))
(.block 5 (sq [(Mw 14 86),(Mw 15 87),(Bi .add [.m 86,.m 87] 88),(Op (.cint .u64) [.m 88] 89),(Bi .shr [.m 89,.k (.u64 (1:UInt64))] 90),(Op (.cint .i64) [.m 90] 91),(Mv 91 16)]
(se (.reg [(Mw 4 92),(Mw 0 93),(Mw 2 94),(Op (.ia 4) [.v 93,.m 94] 95),(Op (.load (some 4)) [.m 95] 96),(Mw 0 97),(Mw 16 98),(Op (.ia 4) [.v 97,.m 98] 99),(Op (.load (some 4)) [.m 99] 100),(Op (.call none 0) [.m 92,.m 96,.m 100] 101),(Bi .lss [.m 101,ki 0] 102),(Op (.un .not) [.m 102] 103)] (some [[],[],[],[],[],[],[],[],[4],[],[],[]]))
(cn 103 (dp [14,93,97,103] (rg [(Mv 16 104),(Bi .add [.m 104,ki 1] 105),(Mv 105 14)]))
(dp [15,93,97,103] (rg [(Mv 16 106),(Mv 106 15)])))))))
def fn11_s2:SSh:=⟨[(0,.g (.f (.vw 4 0))),(2,iS),(4,.g (.clo 57 [] [])),(14,iS),(15,iS)],[[.g (.f (.blk 4))]]⟩
def fn11_o2 (n_:Nat):Cut Tb:=cutL tab 1 fn11_s2 (fun x=>(x.1.2.2.2.1,x.1.2.2.2.2.1)) (fun x=>fn11_l2 (fn11 n_) x.1.1 x.1.2.1 x.2.1.1) (fun _ x y k=>k (.exit 4) ⟨[(0,.vw 4 0 x.1.1),(2,.n .i64 x.1.2.1),(14,.n .i64 y)],[[.blk 4 x.2.1.1]]⟩)
theorem fn11_q2 (n_:Nat) (ih:(fn11_w n_).Ok Tryd.prog Wp tab 98):((fn11_o2 n_)).Ok Tryd.prog Wp tab 1 (.loop (fn11_p2 n_)):=yv818 (c:=(fn11_p2 n_)) (Z:=Int × Int) (Y:=Int) tabOk (fn11_rk n_ ih) uC (fun _ x z b e=>fn11_b2 (fn11 n_) x.1.1 x.1.2.1 x.2.1.1 z.1 z.2 (fun x30 x31=>b (x30,x31)) (fun y36=>e y36)) (fun x z=>⟨[(0,.vw 4 0 x.1.1),(2,.n .i64 x.1.2.1),(4,.clo 57 [] []),(14,.n .i64 z.1),(15,.n .i64 z.2)],[[.blk 4 x.2.1.1]]⟩) (fun x y=>((.exit 4),⟨[(0,.vw 4 0 x.1.1),(2,.n .i64 x.1.2.1),(14,.n .i64 y)],[[.blk 4 x.2.1.1]]⟩)) (fun t=>(prjS tab 1 fn11_s2 t).bind fun x=>some (x.1.2.2.2.1,x.1.2.2.2.2.1)) (pyA tab 1 (.exit 4) ⟨[(0,.g (.f (.vw 4 0))),(2,iS),(14,iS)],[[.g (.f (.blk 4))]]⟩ (fun v=>v.1.2.2.1) pyN) (fun x=>by kernel_rfl) (fun x z=>by kernel_rfl) (fun x y k=>by kernel_rfl) (fun x y=>by exact nofun) (fun x z=>by kernel_rfl) (fun x y=>by kernel_rfl) (fun x z k=>by kernel_rfl)
def fn11_p3 (n_:Nat):TCode Tb :=
(se (sq [(Mw 17 108),(Mw 14 109),(Bi .gtr [.m 108,.m 109] 110)]
(cn 110 (dp [110] .skip)
(dp [0,14,17,110] (.exit 6))))
(se (.block 7 (.reg [(Mw 0 113),(Mw 17 114),(Mw 0 115),(Mw 17 116),(Bi .sub [.m 116,ki 1] 117),(Mw 0 118),(Mw 17 119),(Bi .sub [.m 119,ki 1] 120),(Op (.ia 4) [.v 118,.m 120] 121),(Op (.load (some 4)) [.m 121] 122),(Mw 0 123),(Mw 17 124),(Op (.ia 4) [.v 123,.m 124] 125),(Op (.load (some 4)) [.m 125] 126),(Op (.ia 4) [.v 113,.m 114] 127),(Do (.store 4) [.m 127,.m 122]),(Op (.ia 4) [.v 115,.m 117] 128),(Do (.store 4) [.m 128,.m 126])] (some [[],[],[],[],[],[],[],[],[],[],[],[],[],[9],[],[],[],[]])))
(dp [113,115,118,123] (rg [(Mv 17 111),(Bi .sub [.m 111,ki 1] 112),(Mv 112 17)]))))
def fn11_s3:SSh:=⟨[(0,.g (.f (.vw 4 0))),(14,iS),(17,iS)],[[.g (.f (.blk 4))]]⟩
def fn11_o3 (n_:Nat):Cut Tb:=cutL tab 1 fn11_s3 (fun x=>(x.1.2.2.1,x.2.1.1)) (fun x=>fn11_l3 (fn11 n_) x.1.1 x.1.2.1) (fun _ x y k=>k (.exit 6) ⟨[],[[.blk 4 y]]⟩)
theorem fn11_q3 (n_:Nat) (ih:(fn11_w n_).Ok Tryd.prog Wp tab 98):((fn11_o3 n_)).Ok Tryd.prog Wp tab 1 (.loop (fn11_p3 n_)):=yv818 (c:=(fn11_p3 n_)) (Z:=Int × (List fn86)) (Y:=(List fn86)) tabOk (fn11_rk n_ ih) uC (fun _ x z b e=>fn11_b3 (fn11 n_) x.1.1 x.1.2.1 z.1 z.2 (fun x40 x41=>b (x40,x41)) (fun y48=>e y48)) (fun x z=>⟨[(0,.vw 4 0 x.1.1),(14,.n .i64 x.1.2.1),(17,.n .i64 z.1)],[[.blk 4 z.2]]⟩) (fun x y=>((.exit 6),⟨[],[[.blk 4 y]]⟩)) (fun t=>(prjS tab 1 fn11_s3 t).bind fun x=>some (x.1.2.2.1,x.2.1.1)) (pyA tab 1 (.exit 6) ⟨[],[[.g (.f (.blk 4))]]⟩ (fun v=>v.2.1.1) pyN) (fun x=>by kernel_rfl) (fun x z=>by kernel_rfl) (fun x y k=>by kernel_rfl) (fun x y=>by exact nofun) (fun x z=>by kernel_rfl) (fun x y=>by kernel_rfl) (fun x z k=>by kernel_rfl)
def fn11_p5 (n_:Nat):TCode Tb :=
(se (sq [(Mw 20 149),(Mw 21 150),(Bi .lss [.m 149,.m 150] 151)]
(cn 151 (dp [151] .skip)
(dp [21,22,151] (.exit 8))))
(.block 9 (sq [(Mw 20 152),(Mw 21 153),(Bi .add [.m 152,.m 153] 154),(Op (.cint .u64) [.m 154] 155),(Bi .shr [.m 155,.k (.u64 (1:UInt64))] 156),(Op (.cint .i64) [.m 156] 157),(Mv 157 23)]
(se (.reg [(Mw 4 158),(Mw 0 159),(Mw 22 160),(Mw 23 161),(Bi .sub [.m 160,.m 161] 162),(Op (.ia 4) [.v 159,.m 162] 163),(Op (.load (some 4)) [.m 163] 164),(Mw 0 165),(Mw 23 166),(Op (.ia 4) [.v 165,.m 166] 167),(Op (.load (some 4)) [.m 167] 168),(Op (.call none 0) [.m 158,.m 164,.m 168] 169),(Bi .lss [.m 169,ki 0] 170),(Op (.un .not) [.m 170] 171)] (some [[],[],[],[],[],[],[],[],[],[],[6],[],[],[]]))
(cn 171 (dp [20,159,165,171] (rg [(Mv 23 172),(Bi .add [.m 172,ki 1] 173),(Mv 173 20)]))
(dp [21,159,165,171] (rg [(Mv 23 174),(Mv 174 21)])))))))
def fn11_s5:SSh:=⟨[(0,.g (.f (.vw 4 0))),(1,iS),(2,iS),(3,iS),(4,.g (.clo 57 [] [])),(18,iS),(19,iS),(20,iS),(21,iS),(22,iS)],[[.g (.f (.blk 4))]]⟩
def fn11_o5 (n_:Nat):Cut Tb:=cutL tab 1 fn11_s5 (fun x=>(x.1.2.2.2.2.2.2.2.1,x.1.2.2.2.2.2.2.2.2.1)) (fun x=>fn11_l5 (fn11 n_) x.1.1 x.1.2.2.2.2.2.2.2.2.2.1 x.2.1.1) (fun _ x y k=>k (.exit 8) ⟨[(0,.vw 4 0 x.1.1),(1,.n .i64 x.1.2.1),(2,.n .i64 x.1.2.2.1),(3,.n .i64 x.1.2.2.2.1),(4,.clo 57 [] []),(18,.n .i64 x.1.2.2.2.2.2.1),(19,.n .i64 x.1.2.2.2.2.2.2.1),(20,.n .i64 y)],[[.blk 4 x.2.1.1]]⟩)
theorem fn11_q5 (n_:Nat) (ih:(fn11_w n_).Ok Tryd.prog Wp tab 98):((fn11_o5 n_)).Ok Tryd.prog Wp tab 1 (.loop (fn11_p5 n_)):=yv818 (c:=(fn11_p5 n_)) (Z:=Int × Int) (Y:=Int) tabOk (fn11_rk n_ ih) uC (fun _ x z b e=>fn11_b5 (fn11 n_) x.1.1 x.1.2.2.2.2.2.2.2.2.2.1 x.2.1.1 z.1 z.2 (fun x65 x66=>b (x65,x66)) (fun y72=>e y72)) (fun x z=>⟨[(0,.vw 4 0 x.1.1),(1,.n .i64 x.1.2.1),(2,.n .i64 x.1.2.2.1),(3,.n .i64 x.1.2.2.2.1),(4,.clo 57 [] []),(18,.n .i64 x.1.2.2.2.2.2.1),(19,.n .i64 x.1.2.2.2.2.2.2.1),(20,.n .i64 z.1),(21,.n .i64 z.2),(22,.n .i64 x.1.2.2.2.2.2.2.2.2.2.1)],[[.blk 4 x.2.1.1]]⟩) (fun x y=>((.exit 8),⟨[(0,.vw 4 0 x.1.1),(1,.n .i64 x.1.2.1),(2,.n .i64 x.1.2.2.1),(3,.n .i64 x.1.2.2.2.1),(4,.clo 57 [] []),(18,.n .i64 x.1.2.2.2.2.2.1),(19,.n .i64 x.1.2.2.2.2.2.2.1),(20,.n .i64 y)],[[.blk 4 x.2.1.1]]⟩)) (fun t=>(prjS tab 1 fn11_s5 t).bind fun x=>some (x.1.2.2.2.2.2.2.2.1,x.1.2.2.2.2.2.2.2.2.1)) (pyA tab 1 (.exit 8) ⟨[(0,.g (.f (.vw 4 0))),(1,iS),(2,iS),(3,iS),(4,.g (.clo 57 [] [])),(18,iS),(19,iS),(20,iS)],[[.g (.f (.blk 4))]]⟩ (fun v=>v.1.2.2.2.2.2.2.2.1) pyN) (fun x=>by kernel_rfl) (fun x z=>by kernel_rfl) (fun x y k=>by kernel_rfl) (fun x y=>by exact nofun) (fun x z=>by kernel_rfl) (fun x y=>by kernel_rfl) (fun x z k=>by kernel_rfl)
def fn11_p6 (n_:Nat):TCode Tb :=
(cn 185 (dp [185] (rg [(Mw 0 186),(Mw 20 187),(Mv 2 188),(Mw 24 189),(Mw 4 190),(Cl 106 1 [.m 186,.m 187,.m 188,.m 189,.m 190] 191)]))
(dp [2,185] .skip))
def fn11_s6:SSh:=⟨[(0,.g (.f (.vw 4 0))),(1,iS),(2,iS),(3,iS),(4,.g (.clo 57 [] [])),(18,iS),(20,iS),(24,iS),(185,bS)],[[.g (.f (.blk 4))]]⟩
def fn11_o6 (n_:Nat):Cut Tb:=cutJ tab 1 fn11_s6 (fun _ x k=>fn11_c6 (fn11 n_) x.1.1 x.1.2.2.1 x.1.2.2.2.2.2.2.1 x.1.2.2.2.2.2.2.2.1 x.1.2.2.2.2.2.2.2.2.1 x.2.1.1 (fun y84=>k .normal ⟨[(0,.vw 4 0 x.1.1),(1,.n .i64 x.1.2.1),(3,.n .i64 x.1.2.2.2.1),(4,.clo 57 [] []),(18,.n .i64 x.1.2.2.2.2.2.1),(20,.n .i64 x.1.2.2.2.2.2.2.1),(24,.n .i64 x.1.2.2.2.2.2.2.2.1),(191,.tup [])],[[.blk 4 y84]]⟩) (k .normal ⟨[(0,.vw 4 0 x.1.1),(1,.n .i64 x.1.2.1),(3,.n .i64 x.1.2.2.2.1),(4,.clo 57 [] []),(18,.n .i64 x.1.2.2.2.2.2.1),(20,.n .i64 x.1.2.2.2.2.2.2.1),(24,.n .i64 x.1.2.2.2.2.2.2.2.1)],[[.blk 4 x.2.1.1]]⟩))
theorem fn11_q6 (n_:Nat) (ih:(fn11_w n_).Ok Tryd.prog Wp tab 98):((fn11_o6 n_)).Ok Tryd.prog Wp tab 1 (fn11_p6 n_):=yv817 (c:=(fn11_p6 n_)) tabOk (fn11_rk n_ ih) uC (fun _ _=>by kernel_rfl)
def fn11_p8 (n_:Nat):TCode Tb :=
(cn 199 (dp [199] (rg [(Mw 0 200),(Mv 1 201),(Mv 20 202),(Mw 18 203),(Mw 4 204),(Cl 98 2 [.m 200,.m 201,.m 202,.m 203,.m 204] 205)]))
(dp [1,20,199] .skip))
def fn11_s8:SSh:=⟨[(0,.g (.f (.vw 4 0))),(1,iS),(3,iS),(4,.g (.clo 57 [] [])),(18,iS),(20,iS),(24,iS),(199,bS)],[[.g (.f (.blk 4))]]⟩
def fn11_o8 (n_:Nat):Cut Tb:=cutJ tab 1 fn11_s8 (fun _ x k=>fn11_c8 (fn11 n_) x.1.1 x.1.2.1 x.1.2.2.2.2.1 x.1.2.2.2.2.2.1 x.1.2.2.2.2.2.2.2.1 x.2.1.1 (fun y103=>k .normal ⟨[(0,.vw 4 0 x.1.1),(3,.n .i64 x.1.2.2.1),(4,.clo 57 [] []),(18,.n .i64 x.1.2.2.2.2.1),(24,.n .i64 x.1.2.2.2.2.2.2.1),(205,.tup [])],[[.blk 4 y103]]⟩) (k .normal ⟨[(0,.vw 4 0 x.1.1),(3,.n .i64 x.1.2.2.1),(4,.clo 57 [] []),(18,.n .i64 x.1.2.2.2.2.1),(24,.n .i64 x.1.2.2.2.2.2.2.1)],[[.blk 4 x.2.1.1]]⟩))
theorem fn11_q8 (n_:Nat) (ih:(fn11_w n_).Ok Tryd.prog Wp tab 98):((fn11_o8 n_)).Ok Tryd.prog Wp tab 1 (fn11_p8 n_):=yv817 (c:=(fn11_p8 n_)) tabOk (fn11_rk n_ ih) uC (fun _ _=>by kernel_rfl)
def fn11_p10 (n_:Nat):TCode Tb :=
(cn 213 (dp [213] (rg [(Mv 0 214),(Mv 18 215),(Mv 24 216),(Mv 3 217),(Mv 4 218),(Cl 98 2 [.m 214,.m 215,.m 216,.m 217,.m 218] 219)]))
(dp [0,3,4,18,24,213] .skip))
def fn11_s10:SSh:=⟨[(0,.g (.f (.vw 4 0))),(3,iS),(4,.g (.clo 57 [] [])),(18,iS),(24,iS),(213,bS)],[[.g (.f (.blk 4))]]⟩
def fn11_o10 (n_:Nat):Cut Tb:=cutJ tab 1 fn11_s10 (fun _ x k=>fn11_c10 (fn11 n_) x.1.1 x.1.2.1 x.1.2.2.2.1 x.1.2.2.2.2.1 x.1.2.2.2.2.2.1 x.2.1.1 (fun y118=>k .normal ⟨[(219,.tup [])],[[.blk 4 y118]]⟩) (k .normal ⟨[],[[.blk 4 x.2.1.1]]⟩))
theorem fn11_q10 (n_:Nat) (ih:(fn11_w n_).Ok Tryd.prog Wp tab 98):((fn11_o10 n_)).Ok Tryd.prog Wp tab 1 (fn11_p10 n_):=yv817 (c:=(fn11_p10 n_)) tabOk (fn11_rk n_ ih) uC (fun _ _=>by kernel_rfl)
def fn11_p9 (n_:Nat):TCode Tb :=
(sq [(Mw 18 206),(Mw 24 207),(Bi .lss [.m 206,.m 207] 208),(Mv 208 209),(Yes .mv [.v 24] 210 209),(Yes .mv [.v 3] 211 209),(Yes (bi .lss) [.m 210,.m 211] 212 209),(Pf 209 212 213)]
(dp [210,211] (.cut 1 (fn11_o10 n_) (fn11_p10 n_))))
def fn11_s9:SSh:=⟨[(0,.g (.f (.vw 4 0))),(3,iS),(4,.g (.clo 57 [] [])),(18,iS),(24,iS)],[[.g (.f (.blk 4))]]⟩
def fn11_o9 (n_:Nat):Cut Tb:=cutJ tab 1 fn11_s9 (fun _ x k=>fn11_c9 (fn11 n_) x.1.1 x.1.2.1 x.1.2.2.2.1 x.1.2.2.2.2.1 x.2.1.1 (fun y121=>k .normal ⟨[(219,.tup [])],[[.blk 4 y121]]⟩) (k .normal ⟨[],[[.blk 4 x.2.1.1]]⟩))
theorem fn11_q9 (n_:Nat) (ih:(fn11_w n_).Ok Tryd.prog Wp tab 98):((fn11_o9 n_)).Ok Tryd.prog Wp tab 1 (fn11_p9 n_):=yv817 (c:=(fn11_p9 n_)) tabOk (fn11_rk n_ ih) (cS uC (cD (cT (fn11_q10 n_ ih)))) (fun _ _=>by kernel_rfl)
def fn11_p7 (n_:Nat):TCode Tb :=
(se (sq [(Mw 1 192),(Mw 20 193),(Bi .lss [.m 192,.m 193] 194),(Mv 194 195),(Yes .mv [.v 20] 196 195),(Yes .mv [.v 18] 197 195),(Yes (bi .lss) [.m 196,.m 197] 198 195),(Pf 195 198 199)]
(dp [196,197] (.cut 1 (fn11_o8 n_) (fn11_p8 n_))))
(dp [205] (.cut 1 (fn11_o9 n_) (fn11_p9 n_))))
def fn11_s7:SSh:=⟨[(0,.g (.f (.vw 4 0))),(1,iS),(3,iS),(4,.g (.clo 57 [] [])),(18,iS),(20,iS),(24,iS)],[[.g (.f (.blk 4))]]⟩
def fn11_o7 (n_:Nat):Cut Tb:=cutJ tab 1 fn11_s7 (fun _ x k=>fn11_c7 (fn11 n_) x.1.1 x.1.2.1 x.1.2.2.1 x.1.2.2.2.2.1 x.1.2.2.2.2.2.1 x.1.2.2.2.2.2.2.1 x.2.1.1 (fun y126=>k .normal ⟨[(219,.tup [])],[[.blk 4 y126]]⟩) (fun y127=>k .normal ⟨[],[[.blk 4 y127]]⟩))
theorem fn11_q7 (n_:Nat) (ih:(fn11_w n_).Ok Tryd.prog Wp tab 98):((fn11_o7 n_)).Ok Tryd.prog Wp tab 1 (fn11_p7 n_):=yv817 (c:=(fn11_p7 n_)) tabOk (fn11_rk n_ ih) (cS (cS uC (cD (cT (fn11_q8 n_ ih)))) (cD (cT (fn11_q9 n_ ih)))) (fun _ _=>by kernel_rfl)
def fn11_p4 (n_:Nat):TCode Tb :=
(sq [(Mw 19 147),(Bi .sub [.m 147,ki 1] 148),(Mv 148 22)]
(se (.block 8 (.cut 1 (fn11_o5 n_) (.loop (fn11_p5 n_))))
(sq [(Mv 19 175),(Mw 20 176),(Bi .sub [.m 175,.m 176] 177),(Mv 177 24)]
(se (sq [(Mw 20 178),(Mw 2 179),(Bi .lss [.m 178,.m 179] 180),(Mv 180 181),(Yes .mv [.v 2] 182 181),(Yes .mv [.v 24] 183 181),(Yes (bi .lss) [.m 182,.m 183] 184 181),(Pf 181 184 185)]
(dp [182,183] (.cut 1 (fn11_o6 n_) (fn11_p6 n_))))
(dp [191] (.cut 1 (fn11_o7 n_) (fn11_p7 n_)))))))
def fn11_s4:SSh:=⟨[(0,.g (.f (.vw 4 0))),(1,iS),(2,iS),(3,iS),(4,.g (.clo 57 [] [])),(18,iS),(19,iS),(20,iS),(21,iS)],[[.g (.f (.blk 4))]]⟩
def fn11_o4 (n_:Nat):Cut Tb:=cutJ tab 1 fn11_s4 (fun _ x k=>fn11_c4 (fn11 n_) x.1.1 x.1.2.1 x.1.2.2.1 x.1.2.2.2.1 x.1.2.2.2.2.2.1 x.1.2.2.2.2.2.2.1 x.1.2.2.2.2.2.2.2.1 x.1.2.2.2.2.2.2.2.2.1 x.2.1.1 (fun y136=>k .normal ⟨[(219,.tup [])],[[.blk 4 y136]]⟩) (fun y137=>k .normal ⟨[],[[.blk 4 y137]]⟩))
theorem fn11_q4 (n_:Nat) (ih:(fn11_w n_).Ok Tryd.prog Wp tab 98):((fn11_o4 n_)).Ok Tryd.prog Wp tab 1 (fn11_p4 n_):=yv817 (c:=(fn11_p4 n_)) tabOk (fn11_rk n_ ih) (cS uC (cS (cB (cT (fn11_q5 n_ ih))) (cS uC (cS (cS uC (cD (cT (fn11_q6 n_ ih)))) (cD (cT (fn11_q7 n_ ih))))))) (fun _ _=>by kernel_rfl)
def fn11_p (n_:Nat):TCode Tb :=
(se (sq [(Mw 2 25),(Mw 1 26),(Bi .sub [.m 25,.m 26] 27),(Bi .eql [.m 27,ki 1] 28)]
(cn 28 (dp [28] (sq [(Mv 2 29),(Mv 29 10)]
(sq [(Mv 3 30),(Mv 30 11)]
(se (.block 0 (.cut 1 (fn11_o0 n_) (.loop (fn11_p0 n_))))
(se (sq [(Mv 1 54),(Mv 54 13)]
(.block 2 (.cut 1 (fn11_o1 n_) (.loop (fn11_p1 n_)))))
.ret)))))
(dp [28] .skip)))
(se (sq [(Mw 3 77),(Mw 2 78),(Bi .sub [.m 77,.m 78] 79),(Bi .eql [.m 79,ki 1] 80)]
(cn 80 (dp [3,80] (sq [(Mv 1 81),(Mv 81 14)]
(sq [(Mw 2 82),(Mv 82 15)]
(se (.block 4 (.cut 1 (fn11_o2 n_) (.loop (fn11_p2 n_))))
(se (sq [(Mv 2 107),(Mv 107 17)]
(.block 6 (.cut 1 (fn11_o3 n_) (.loop (fn11_p3 n_)))))
.ret)))))
(dp [80] .skip)))
(sq [(Mw 1 129),(Mw 3 130),(Bi .add [.m 129,.m 130] 131),(Op (.cint .u64) [.m 131] 132),(Bi .shr [.m 132,.k (.u64 (1:UInt64))] 133),(Op (.cint .i64) [.m 133] 134),(Mv 134 18)]
(sq [(Mw 18 135),(Mw 2 136),(Bi .add [.m 135,.m 136] 137),(Mv 137 19)]
(sq [(Mk (ki 0) 20),(Mk (ki 0) 21)]
(se (sq [(Mw 2 138),(Mw 18 139),(Bi .gtr [.m 138,.m 139] 140)]
(cn 140 (dp [20,21,140] (sq [(Mw 19 141),(Mw 3 142),(Bi .sub [.m 141,.m 142] 143),(Mv 143 20)]
(rg [(Mw 18 144),(Mv 144 21)])))
(dp [20,21,140] (sq [(Mw 1 145),(Mv 145 20)]
(rg [(Mw 2 146),(Mv 146 21)])))))
(.cut 1 (fn11_o4 n_) (fn11_p4 n_))))))))
theorem fn11_ks (n_:Nat) (ih:(fn11_w n_).Ok Tryd.prog Wp tab 98):(fn11_w (n_ + 1)).Ok Tryd.prog Wp tab 98:=yv821 (Y:=(List fn86)) (orcs:=(fn11_r n_)) (c:=(fn11_p n_)) (res:=[]) (n:=220) (R:=(RSp.one (Y:=(List fn86)) tab (.tup []) [[.g (.f (.blk 4))]] (fun a b=>b.1.1) (fun y=>()) (fun y=>((y,()),())))) tabOk (fn11_rk n_ ih) oneD Tryd.func98 (by kernel_rfl) (by kernel_rfl) (by kernel_rfl) (by kernel_rfl) (cS (cS uC (cC (cD (cS uC (cS uC (cS (cB (cT (fn11_q0 n_ ih))) (cS (cS uC (cB (cT (fn11_q1 n_ ih)))) uC))))) uC)) (cS (cS uC (cC (cD (cS uC (cS uC (cS (cB (cT (fn11_q2 n_ ih))) (cS (cS uC (cB (cT (fn11_q3 n_ ih)))) uC))))) uC)) (cS uC (cS uC (cS uC (cS uC (cT (fn11_q4 n_ ih)))))))) (fun _ y k=>by kernel_rfl) (fun y=>by kernel_rfl) (fun x h=>by kernel_rfl)
theorem fn11_k:∀ n_:Nat,(fn11_w n_).Ok Tryd.prog Wp tab 98
 | 0=>yv154 (R:=(RSp.one (Y:=(List fn86)) tab (.tup []) [[.g (.f (.blk 4))]] (fun a b=>b.1.1) (fun y=>()) (fun y=>((y,()),())))) tabOk (by kernel_rfl) (fun _ y k=>by kernel_rfl) (fun y=>by kernel_rfl) (fun x h y hy=>by cases hy)
 | n_ + 1=>fn11_ks n_ (fn11_k n_)
def fn13_r:List OP:=[op fn4_k,op (fn11_k 48)]
def fn13_p0:TCode Tb :=
(.fin 1 (cutD 1 [18]) (se (sq [(Mw 8 11),(Mw 1 12),(Bi .leq [.m 11,.m 12] 13)]
(cn 13 (dp [13] .skip)
(dp [8,13] (.exit 0))))
(.block 1 (sq [(Mw 0 14),(Mv 7 15),(Mw 8 16),(Mw 2 17),(Cl 97 0 [.m 14,.m 15,.m 16,.m 17] 18)]
(sq [(Mw 8 19),(Mv 19 7)]
(rg [(Mv 8 20),(Mw 6 21),(Bi .add [.m 20,.m 21] 22),(Mv 22 8)]))))))
def fn13_s0:SSh:=⟨[(0,.g (.f (.vw 4 0))),(1,iS),(2,.g (.clo 57 [] [])),(6,iS),(7,iS),(8,iS)],[[.g (.f (.blk 4))]]⟩
def fn13_o0:Cut Tb:=cutL tab 1 fn13_s0 (fun x=>(x.1.2.2.2.2.1,x.1.2.2.2.2.2.1,x.2.1.1)) (fun x=>fn13_l0 x.1.1 x.1.2.1 x.1.2.2.2.1) (fun _ x y k=>k (.exit 0) ⟨[(0,.vw 4 0 x.1.1),(1,.n .i64 x.1.2.1),(2,.clo 57 [] []),(6,.n .i64 x.1.2.2.2.1),(7,.n .i64 y.1)],[[.blk 4 y.2]]⟩)
theorem fn13_q0:CK fn13_o0 1 (.loop fn13_p0):=cutLD (Z:=Int × Int × (List fn86)) (Y:=Int × (List fn86)) fn13_r (cF yv816 uC) (fun _ x z b e=>fn13_b0 x.1.1 x.1.2.1 x.1.2.2.2.1 z.1 z.2.1 z.2.2 (fun x7 x8 x9=>b (x7,x8,x9)) (fun y11 y12=>e (y11,y12))) (fun x z=>⟨[(0,.vw 4 0 x.1.1),(1,.n .i64 x.1.2.1),(2,.clo 57 [] []),(6,.n .i64 x.1.2.2.2.1),(7,.n .i64 z.1),(8,.n .i64 z.2.1)],[[.blk 4 z.2.2]]⟩) (fun x y=>((.exit 0),⟨[(0,.vw 4 0 x.1.1),(1,.n .i64 x.1.2.1),(2,.clo 57 [] []),(6,.n .i64 x.1.2.2.2.1),(7,.n .i64 y.1)],[[.blk 4 y.2]]⟩)) (pyA tab 1 (.exit 0) ⟨[(0,.g (.f (.vw 4 0))),(1,iS),(2,.g (.clo 57 [] [])),(6,iS),(7,iS)],[[.g (.f (.blk 4))]]⟩ (fun v=>(v.1.2.2.2.2.1,v.2.1.1)) pyN)
def fn13_p2:TCode Tb :=
(.fin 1 (cutD 1 [43]) (se (sq [(Mw 8 33),(Mw 1 34),(Bi .leq [.m 33,.m 34] 35)]
(cn 35 (dp [35] .skip)
(dp [8,35] (.exit 4))))
(.block 5 (sq [(Mw 0 36),(Mw 7 37),(Mv 7 38),(Mw 6 39),(Bi .add [.m 38,.m 39] 40),(Mw 8 41),(Mw 2 42),(Cl 98 1 [.m 36,.m 37,.m 40,.m 41,.m 42] 43)]
(sq [(Mw 8 44),(Mv 44 7)]
(rg [(Mv 8 45),(Mw 6 46),(Bi .mul [ki 2,.m 46] 47),(Bi .add [.m 45,.m 47] 48),(Mv 48 8)]))))))
def fn13_s2:SSh:=⟨[(0,.g (.f (.vw 4 0))),(1,iS),(2,.g (.clo 57 [] [])),(6,iS),(7,iS),(8,iS)],[[.g (.f (.blk 4))]]⟩
def fn13_o2:Cut Tb:=cutL tab 1 fn13_s2 (fun x=>(x.1.2.2.2.2.1,x.1.2.2.2.2.2.1,x.2.1.1)) (fun x=>fn13_l2 x.1.1 x.1.2.1 x.1.2.2.2.1) (fun _ x y k=>k (.exit 4) ⟨[(0,.vw 4 0 x.1.1),(1,.n .i64 x.1.2.1),(2,.clo 57 [] []),(6,.n .i64 x.1.2.2.2.1),(7,.n .i64 y.1)],[[.blk 4 y.2]]⟩)
theorem fn13_q2:CK fn13_o2 1 (.loop fn13_p2):=cutLD (Z:=Int × Int × (List fn86)) (Y:=Int × (List fn86)) fn13_r (cF yv816 uC) (fun _ x z b e=>fn13_b2 x.1.1 x.1.2.1 x.1.2.2.2.1 z.1 z.2.1 z.2.2 (fun x23 x24 x25=>b (x23,x24,x25)) (fun y27 y28=>e (y27,y28))) (fun x z=>⟨[(0,.vw 4 0 x.1.1),(1,.n .i64 x.1.2.1),(2,.clo 57 [] []),(6,.n .i64 x.1.2.2.2.1),(7,.n .i64 z.1),(8,.n .i64 z.2.1)],[[.blk 4 z.2.2]]⟩) (fun x y=>((.exit 4),⟨[(0,.vw 4 0 x.1.1),(1,.n .i64 x.1.2.1),(2,.clo 57 [] []),(6,.n .i64 x.1.2.2.2.1),(7,.n .i64 y.1)],[[.blk 4 y.2]]⟩)) (pyA tab 1 (.exit 4) ⟨[(0,.g (.f (.vw 4 0))),(1,iS),(2,.g (.clo 57 [] [])),(6,iS),(7,iS)],[[.g (.f (.blk 4))]]⟩ (fun v=>(v.1.2.2.2.2.1,v.2.1.1)) pyN)
def fn13_p1:TCode Tb :=
(se (sq [(Mw 6 28),(Mw 1 29),(Bi .lss [.m 28,.m 29] 30)]
(cn 30 (dp [30] .skip)
(dp [0,1,2,6,30] (.exit 2))))
(.block 3 (sq [(Mw 6 31),(Bi .mul [ki 2,.m 31] 32),(Mk (ki 0) 7),(Mv 32 8)]
(se (.block 4 (.cut 1 fn13_o2 (.loop fn13_p2)))
(se (sq [(Mw 7 49),(Mw 6 50),(Bi .add [.m 49,.m 50] 51),(Mv 51 9)]
(sq [(Mw 9 52),(Mw 1 53),(Bi .lss [.m 52,.m 53] 54)]
(cn 54 (dp [54] (rg [(Mw 0 55),(Mv 7 56),(Mv 9 57),(Mw 1 58),(Mw 2 59),(Cl 98 1 [.m 55,.m 56,.m 57,.m 58,.m 59] 60)]))
(dp [7,9,54] .skip))))
(dp [60] (rg [(Mv 6 61),(Bi .mul [.m 61,ki 2] 62),(Mv 62 6)])))))))
def fn13_s1:SSh:=⟨[(0,.g (.f (.vw 4 0))),(1,iS),(2,.g (.clo 57 [] [])),(6,iS)],[[.g (.f (.blk 4))]]⟩
def fn13_o1:Cut Tb:=cutL tab 1 fn13_s1 (fun x=>(x.1.2.2.2.1,x.2.1.1)) (fun x=>fn13_l1 x.1.1 x.1.2.1) (fun _ x y k=>k (.exit 2) ⟨[],[[.blk 4 y]]⟩)
theorem fn13_q1:CK fn13_o1 1 (.loop fn13_p1):=cutLD (Z:=Int × (List fn86)) (Y:=(List fn86)) fn13_r (cS uC (cB (cS uC (cS (cB (cT fn13_q2)) uC)))) (fun _ x z b e=>fn13_b1 x.1.1 x.1.2.1 z.1 z.2 (fun x18 x19=>b (x18,x19)) (fun y32=>e y32)) (fun x z=>⟨[(0,.vw 4 0 x.1.1),(1,.n .i64 x.1.2.1),(2,.clo 57 [] []),(6,.n .i64 z.1)],[[.blk 4 z.2]]⟩) (fun x y=>((.exit 2),⟨[],[[.blk 4 y]]⟩)) (pyA tab 1 (.exit 2) ⟨[],[[.g (.f (.blk 4))]]⟩ (fun v=>v.2.1.1) pyN)
def fn13_p:TCode Tb :=
(sq [(Mk (ki 20) 6)]
(sq [(Mw 6 10),(Mk (ki 0) 7),(Mv 10 8)]
(se (.block 0 (.cut 1 fn13_o0 (.loop fn13_p0)))
(sq [(Mw 0 23),(Mv 7 24),(Mw 1 25),(Mw 2 26),(Cl 97 0 [.m 23,.m 24,.m 25,.m 26] 27)]
(.block 2 (dp [27] (.cut 1 fn13_o1 (.loop fn13_p1))))))))
def fn13_w:Orc Tb:=mkOrc (Y:=(List fn86)) tab [.g (.f (.vw 4 0)),iS,.g (.clo 57 [] [])] [[.g (.f (.blk 4))]] (fun x h=>fn13 x.1 x.2.1 h.1.1) (fun _ y k=>k (.tup []) [[.blk 4 y]])
theorem fn13_k:WK fn13_w 80:=orcD (Y:=(List fn86)) (c:=fn13_p) (res:=[]) (n:=63) (R:=(RSp.one (Y:=(List fn86)) tab (.tup []) [[.g (.f (.blk 4))]] (fun a b=>b.1.1) (fun y=>()) (fun y=>((y,()),())))) fn13_r oneD Tryd.func80 (cS uC (cS uC (cS (cB (cT fn13_q0)) (cS uC (cB (cD (cT fn13_q1)))))))
def fn1_r:List OP:=[op fn13_k]
def fn1_p:TCode Tb :=
(rg [(Mw 0 4),(Mv 0 5),(Op .len [.m 5] 6),(Mv 1 7),(Cl 80 0 [.m 4,.m 6,.m 7] 8)])
def fn1_w:Orc Tb:=mkOrc (Y:=(List fn86)) tab [.g (.f (.vw 4 0)),.g (.clo 57 [] [])] [[.g (.f (.blk 4))]] (fun x h=>fn1 x.1 h.1.1) (fun _ y k=>k (.tup []) [[.blk 4 y]])
theorem fn1_k:WK fn1_w 56:=orcD (Y:=(List fn86)) (c:=fn1_p) (res:=[]) (n:=9) (R:=(RSp.one (Y:=(List fn86)) tab (.tup []) [[.g (.f (.blk 4))]] (fun a b=>b.1.1) (fun y=>()) (fun y=>((y,()),())))) fn1_r oneD Tryd.func56 trivial
def fn51_r:List OP:=[op fn7_k,op fn1_k]
def fn51_p:TCode Tb :=
(.fend 0 (sq [(Op .mv [.k (.nilS)] 2)]
(sq [(Mv 0 4),(Cl 55 0 [.m 4] 5),(Mv 5 3)]
(sq [(Mw 3 6),(Op (.call (some 56) 1) [.m 6,.k (.clo 57 [] [])] 7)]
(sq [(Mv 3 8),(Mv 8 2)]
.ret)))))
def fn51_w:Orc Tb:=mkOrc (Y:=(Option (List fn86))) tab [lS 4] [] (fun x h=>fn51 x.1) (fun _ y k=>k (.sl 4 y) [])
theorem fn51_k:WK fn51_w 29:=orcD (Y:=(Option (List fn86))) (c:=fn51_p) (res:=[.tmp 2]) (n:=9) (R:=(RSp.one (Y:=(Option (List fn86))) tab (lS 4) [] (fun a b=>a) (fun y=>y) (fun y=>()))) fn51_r oneD Tryd.func29 uC
def fn61_w:Orc Tb:=mkOrc (Y:=(Option (List fn86))) tab [lS 4] [] (fun x h=>fn61 x.1) (fun _ y k=>k (.sl 4 y) [])
theorem fn61_k:WK fn61_w 29:=yv805 (fun x=>(x.1:Option (List fn86)).isNone) (by intro _ _;kernel_rfl) fn49_k fn51_k
def fn62_r:List OP:=[op fn27_k,op fn28_k,op fn26_k,op fn23_k,op fn59_k,op fn61_k]
def fn62_s1:SSh:=⟨[],[[sS,iS],[wS 4],[bS],[],[wS 4],[]]⟩
def fn62_o1:Cut Tb:=cutJ tab 6 fn62_s1 (fun _ x k=>k .normal ⟨[],[[.s x.2.1.1,.n .i64 x.2.1.2.1],[.ow 4 x.2.2.1.1],[.b x.2.2.2.1.1],[],[.ow 4 x.2.2.2.2.2.1.1],[]]⟩)
theorem fn62_q1:CK fn62_o1 6 .skip:=yv817 (c:=.skip) tabOk (orK fn62_r) trivial (fun _ _=>by kernel_rfl)
def fn62_a0:TCode Tb :=
(sq [(Op (.alloc [.u8 (0:UInt8),.u32 (0:UInt32),.s [],.s []]) [] 6),(Do (.store 4) [.v 6,.m 22])]
(rg [(Mv 23 7)]))
def fn62_p0:TCode Tb :=
(.fin 6 fn62_o1 (.fin 6 (cutD 6 []) (.block 1 (se (sq [(Mv 7 24),(Op (.un .not) [.m 24] 25)]
(cn 25 (dp [5,6,21,25] (sq [(Do (.store 1) [.v 2,.k (.nilS)]),(Do (.store 1) [.v 3,kf])]
.ret))
(dp [2,3,21,25] .skip)))
(rg [(Op .loadm [.v 5] 26),(Op (.load (some 4)) [.m 6] 27),⟨(.bslice 4 1 ((⟨(0:UInt8),(0:UInt32),[],[]⟩:fn86):fn86) [0]),[.m 27],some 28,none⟩,(Op (.app 4 40) [.m 26,.m 28] 29),(Do (.store 1) [.m 5,.m 29])])))))
def fn62_s0:SSh:=⟨[(2,rS 1 0),(3,rS 2 0),(5,rS 4 0),(21,.g (.clo 72 [] [.ref 5 0]))],[[sS,iS],[wS 4],[bS],[],[wS 4],[boS]]⟩
def fn62_o0:Cut Tb:=cutRg (X:=fn86 × Bool × Unit) (Z:=(Option (List fn86))) (Y:=(Option (List fn86)) × fn86) tab 1 fn62_s0 (fun x=>fn48 x.2.2.2.2.2.2.1.1) (fun x=>x.2.2.2.2.2.1.1) (fun x=>fn62_l0) (fun _ x z k=>k .normal ⟨[(2,.ref 1 0),(3,.ref 2 0),(5,.ref 4 0),(21,.clo 72 [] [.ref 5 0])],[[.s x.2.1.1,.n .i64 x.2.1.2.1],[.ow 4 x.2.2.1.1],[.b x.2.2.2.1.1],[],[.ow 4 z],[]]⟩) (fun _ x y k=>k .ret ⟨[(2,.ref 1 0),(3,.ref 2 0),(5,.ref 4 0),(21,.clo 72 [] [.ref 5 0])],[[.s x.2.1.1,.n .i64 x.2.1.2.1],[.nilS],[.b false],[],[.ow 4 y.1],[],[.u8 y.2.Id,.u32 y.2.N,.s y.2.A,.s y.2.B]]⟩)
theorem fn62_q0:CK fn62_o0 1 (.rng 21 [22,23] fn62_a0 fn62_p0):=yv789 (a:=fn62_a0) (b:=fn62_p0) (Z:=(Option (List fn86))) (Y:=(Option (List fn86)) × fn86) (sx:=[.g (.st 4),bS]) tabOk (orK fn62_r) uC (cF fn62_q1 (cF yv816 uC)) fn48_it [5] (fun _ x z i b e=>fn62_b0 z (i.1:fn86) i.2.1 (fun x15=>b x15) (fun y24 y25=>e (y24,y25))) (fun x=>[.ref 5 0]) (fun x z=>[[.s x.2.1.1,.n .i64 x.2.1.2.1],[.ow 4 x.2.2.1.1],[.b x.2.2.2.1.1],[],[.ow 4 z],[]]) (fun x y=>(.ret,[[.s x.2.1.1,.n .i64 x.2.1.2.1],[.nilS],[.b false],[],[.ow 4 y.1],[],[.u8 y.2.Id,.u32 y.2.N,.s y.2.A,.s y.2.B]])) (fun x=>((),())) (fun x=>((x.2.2.2.2.2.2.1.1,()),())) (fun t=>(prjH tab [[sS,iS],[wS 4],[bS],[],[wS 4],[]] t).bind fun v=>some v.2.2.2.2.1.1) (pyH tab .ret [[sS,iS],[lS 4],[.g (.f (.cb false))],[],[wS 4],[],[u8S,u32S,sS,sS]] (fun v=>(v.2.2.2.2.1.1,(tabBk 4 v.2.2.2.2.2.2.1:fn86))) pyHN) (fun x=>by kernel_rfl) (fun x=>by kernel_rfl) (fun x=>by kernel_rfl) (fun x=>by kernel_rfl) (fun x=>by kernel_rfl) (fun x=>by kernel_rfl) (fun x=>by kernel_rfl) (fun x z=>by kernel_rfl) rfl (fun x z i=>by kernel_rfl) (fun x z k=>by kernel_rfl) (fun x y k=>by kernel_rfl) (fun x y=>by exact nofun) (fun x z=>by kernel_rfl) (fun x y=>by kernel_rfl) (fun x z i k=>by kernel_rfl)
def fn62_p:TCode Tb :=
(sq [(Op (.alloc [.sl 4 none]) [] 2),(Op (.alloc [.b false]) [] 3)]
(se (sq [(Mw 0 8),(Op (.bin .eql .p) [.m 8,.k (.nilP)] 9)]
(cn 9 (dp [0,9] (sq [(Do (.store 1) [.v 2,.k (.nilS)]),(Do (.store 1) [.v 3,kf])]
.ret))
(dp [9] .skip)))
(sq [(Mw 0 10),(Mw 0 11),(Cl 43 0 [.m 11] 12),(Op (.cint .i64) [.m 12] 13),(Cl 42 1 [.m 10,.m 13] 14),(Mv 14 4)]
(se (sq [(Mv 0 15),(Cl 22 2 [.m 15] 16),(Bi .neq [.m 16,ki 0] 17)]
(cn 17 (dp [4,17] (sq [(Do (.store 1) [.v 2,.k (.nilS)]),(Do (.store 1) [.v 3,kf])]
.ret))
(dp [17] .skip)))
(sq [(Op (.alloc [.sl 4 none]) [] 5)]
(se (sq [(Mv 4 18),(Cl 45 3 [.m 18] 19),(Op .s2b [.m 19] 20),(Cl 44 4 [.m 20] 21)]
(.block 0 (.cut 1 fn62_o0 (.rng 21 [22,23] fn62_a0 fn62_p0))))
(dp [21] (sq [(Ld 5 30),(Cl 29 5 [.m 30] 31),(Do (.store 1) [.v 2,.m 31]),(Do (.store 1) [.v 3,kt])]
.ret))))))))
def fn62_w:Orc Tb:=mkOrc (Y:=(Option (List fn86)) × Bool × fn55) tab [rS 0 0] [[sS,iS]] (fun x h=>fn62 (⟨h.1.1,h.1.2.1⟩:fn55)) (fun _ y k=>k (.tup [.sl 4 y.1,.b y.2.1]) [[.s y.2.2.b,.n .i64 y.2.2.err]])
theorem fn62_k:WK fn62_w 17:=orcD (Y:=(Option (List fn86)) × Bool × fn55) (c:=fn62_p) (res:=[.cell 2 none,.cell 3 none]) (n:=32) (R:=(RSp.one (Y:=(Option (List fn86)) × Bool × fn55) tab (.tup [.f (.a (.sl 4)),.f (.a .b)]) [[sS,iS]] (fun a b=>(a.1,a.2.1,(⟨b.1.1,b.1.2.1⟩:fn55))) (fun y=>(y.1,y.2.1,())) (fun y=>((y.2.2.b,y.2.2.err,()),())))) fn62_r oneD Tryd.func17 (cS uC (cS uC (cS uC (cS uC (cS uC (cS (cS uC (cB (cT fn62_q0))) uC))))))
def fn63_r:List OP:=[op fn76_k]
def fn63_p:TCode Tb :=
(sq [(Mk (ki 0) 2)]
(sq [(Mv 0 3),(Cl 11 0 [.k (.nilS),.m 3] 4),(Op .len [.m 4] 5),(Mv 5 2)]
.ret))
def fn63_w:Orc Tb:=mkOrc (Y:=Int) tab [lS 4] [] (fun x h=>fn63 x.1) (fun _ y k=>k (.n .i64 y) [])
theorem fn63_k:WK fn63_w 14:=orcD (Y:=Int) (c:=fn63_p) (res:=[.tmp 2]) (n:=6) (R:=(RSp.one (Y:=Int) tab (iS) [] (fun a b=>a) (fun y=>y) (fun y=>()))) fn63_r oneD Tryd.func14 uC
def fn17_w:Orc Tb:=mkOrc (Y:=Bool) tab [sS,sS] [] (fun x h=>fn17 x.1 x.2.1) (fun _ y k=>k (.b y) [])
theorem fn17_k:WK fn17_w 107:=yv583 tabOk (by kernel_rfl) Tryd.strings_ContainsAny
def fn64_r:List OP:=[op fn17_k]
def fn64_p:TCode Tb :=
(sq [(Mk kf 2)]
(sq [(Mv 0 3),(Op (.call (some 107) 0) [.m 3,.k (.s [43,35])] 4),(Mv 4 2)]
.ret))
def fn64_w:Orc Tb:=mkOrc (Y:=Bool) tab [sS] [] (fun x h=>fn64 x.1) (fun _ y k=>k (.b y) [])
theorem fn64_k:WK fn64_w 99:=orcD (Y:=Bool) (c:=fn64_p) (res:=[.tmp 2]) (n:=5) (R:=(RO (bS))) fn64_r oneD Tryd.func99 uC
def fn65_r:List OP:=[op fn57_k,op fn64_k]
def fn65_p:TCode Tb :=
(sq [(Mk kf 2)]
(sq [(Mw 0 3),(Op (.bin .neq .s) [.m 3,.k (.s [])] 4),(Mv 4 5),(Yes .mv [.v 0] 6 5),(Yes (.call (some 88) 0) [.m 6] 7 5),(Pf 5 7 8),(Mv 8 9),(Yes .mv [.m 0] 10 9),(Yes (.call (some 99) 1) [.m 10] 11 9),(Yes (.un .not) [.m 11] 12 9),(Pf 9 12 13),(Mv 13 2)]
(dp [0,6,10,11] .ret)))
def fn65_w:Orc Tb:=mkOrc (Y:=Bool) tab [sS] [] (fun x h=>fn65 x.1) (fun _ y k=>k (.b y) [])
theorem fn65_k:WK fn65_w 83:=orcD (Y:=Bool) (c:=fn65_p) (res:=[.tmp 2]) (n:=14) (R:=(RO (bS))) fn65_r oneD Tryd.func83 uC
def fn66_r:List OP:=[op fn58_k,op fn72_k,op fn65_k]
def fn66_p0:TCode Tb :=
(cn 15 (dp [15] (sq [(Fam 1 1 28),(Ld 28 29),(Bi .neq [.m 29,.k (.u32 (0:UInt32))] 30),(Mv 30 2)]
.ret))
(dp [15] (sq [(Fav 0 1 32),(Ld 32 33),(Bi .eql [.m 33,.k (.u8 (8:UInt8))] 34),(Mv 34 31)]
(cn 31 (dp [31] (sq [(Fam 2 1 35),(Ld 35 36),(Cl 83 2 [.m 36] 37),(Mv 37 2)]
.ret))
(dp [1,31] .skip)))))
def fn66_s0:SSh:=⟨[(1,rS 0 0),(15,bS)],[[u8S,u32S,sS,sS]]⟩
def fn66_o0:Cut Tb:=cutJ tab 0 fn66_s0 (fun _ x k=>fn66_c0 x.1.2.1 (tabBk 4 x.2.1:fn86) (fun y7=>k .ret ⟨[(2,.b y7)],[[.u8 x.2.1.1,.u32 x.2.1.2.1,.s x.2.1.2.2.1,.s x.2.1.2.2.2.1]]⟩) (k .normal ⟨[],[[.u8 x.2.1.1,.u32 x.2.1.2.1,.s x.2.1.2.2.1,.s x.2.1.2.2.2.1]]⟩))
theorem fn66_q0:CK fn66_o0 0 fn66_p0:=cutJD fn66_r uC
def fn66_p:TCode Tb :=
(sq [(Op .box [.m 0] 1),(Mk kf 2)]
(se (.block 0 (sq [(Op (.load (some 4)) [.v 1] 4),(Cl 65 0 [.m 4] 5),(Op (.un .not) [.m 5] 6),(Mv 6 3)]
(cn 3 (dp [1,2,3] (sq [(Mk kf 2)]
.ret))
(dp [2,3] (sq [(Fav 0 1 8),(Ld 8 9),(Cl 82 1 [.m 9] 10),(Bi .eql [.m 10,ki 1] 11),(Mv 11 7)]
(cn 7 (dp [7] (sq [(Fam 1 1 12),(Ld 12 13),(Bi .leq [.m 13,.k (.u32 (1:UInt32))] 14),(Mv 14 2)]
.ret))
(dp [7] (se (sq [(Fav 0 1 16),(Ld 16 17),(Bi .eql [.m 17,.k (.u8 (11:UInt8))] 18),(Mv 18 15)]
(cn 15 .skip
(dp [15] (sq [(Fav 0 1 19),(Ld 19 20),(Bi .eql [.m 20,.k (.u8 (33:UInt8))] 21),(Mv 21 15)]
(cn 15 .skip
(dp [15] (sq [(Fav 0 1 22),(Ld 22 23),(Bi .eql [.m 23,.k (.u8 (35:UInt8))] 24),(Mv 24 15)]
(cn 15 .skip
(dp [15] (rg [(Fav 0 1 25),(Ld 25 26),(Bi .eql [.m 26,.k (.u8 (39:UInt8))] 27),(Mv 27 15)]))))))))))
(.cut 0 fn66_o0 fn66_p0)))))))))
(sq [(Mk kt 2)]
.ret)))
def fn66_w:Orc Tb:=mkOrc (Y:=Bool) tab [.g (.st 4)] [] (fun x h=>fn66 (x.1:fn86)) (fun _ y k=>k (.b y) [])
theorem fn66_k:WK fn66_w 59:=orcD (Y:=Bool) (c:=fn66_p) (res:=[.tmp 2]) (n:=38) (R:=(RO (bS))) fn66_r oneD Tryd.func59 (cS uC (cS (cB (cS uC (cC uC (cD (cS uC (cC uC (cD (cS uC (cT fn66_q0))))))))) uC))
def fn16_r:List OP:=[]
def fn16_p0:TCode Tb :=
(sq [(Bi .lss [.v 8,.v 7] 9)]
(se (cn 9 (dp [9] .skip)
(dp [0,1,7,8,9] (.exit 0)))
(se (.block 1 (sq [(Mw 8 10),(Mv 10 5)]
(sq [(Mw 1 11),(Mw 0 12),(Mw 5 13),(Op (.ia 1) [.v 12,.m 13] 14),(Ld 14 15),(Bi .eql [.m 11,.m 15] 16)]
(cn 16 (dp [0,1,7,8,12,16] (sq [(Mv 5 17),(Mv 17 4)]
.ret))
(dp [5,12,16] .skip)))))
(rg [(Bi .add [.m 8,ki 1] 18),(Mv 18 8)]))))
def fn16_s0:SSh:=⟨[(0,lS 2),(1,iS),(7,iS),(8,iS)],[]⟩
def fn16_o0:Cut Tb:=cutL tab 0 fn16_s0 (fun x=>x.1.2.2.2.1) (fun x=>fn16_l0 x.1.1 x.1.2.1 x.1.2.2.1) (fun _ x y k=>match y with|.inl y=>k .ret ⟨[(4,.n .i64 y)],[]⟩|.inr y=>k (.exit 0) ⟨[],[]⟩)
theorem fn16_q0:CK fn16_o0 0 (.loop fn16_p0):=cutLD2 (Z:=Int) (Y:=Int ⊕ Unit) fn16_r uC (fun _ x z b e=>fn16_b0 x.1.1 x.1.2.1 x.1.2.2.1 z (fun x6=>b x6) (fun y8=>e (.inl y8)) (e (.inr ()))) (fun x z=>⟨[(0,.sl 2 x.1.1),(1,.n .i64 x.1.2.1),(7,.n .i64 x.1.2.2.1),(8,.n .i64 z)],[]⟩) (fun x y=>match y with|.inl y=>(.ret,⟨[(4,.n .i64 y)],[]⟩)|.inr y=>((.exit 0),⟨[],[]⟩)) (pyA tab 0 .ret ⟨[(4,iS)],[]⟩ (fun v=>.inl v.1.1) (pyA tab 0 (.exit 0) ⟨[],[]⟩ (fun v=>.inr ()) pyN))
def fn16_p:TCode Tb :=
(sq [(Mk (ki 0) 4)]
(se (sq [(Mw 0 6),(Op .len [.m 6] 7),(Mk (ki 0) 8)]
(.block 0 (dp [4] (.cut 0 fn16_o0 (.loop fn16_p0)))))
(sq [(Op .mv [.k (.n .i64 (-1))] 4)]
.ret)))
def fn16_w:Orc Tb:=mkOrc (Y:=Int) tab [lS 2,iS] [] (fun x h=>fn16 x.1 x.2.1) (fun _ y k=>k (.n .i64 y) [])
theorem fn16_k:WK fn16_w 100:=orcD (Y:=Int) (c:=fn16_p) (res:=[.tmp 4]) (n:=19) (R:=(RSp.one (Y:=Int) tab (iS) [] (fun a b=>a) (fun y=>y) (fun y=>()))) fn16_r oneD Tryd.func100 (cS uC (cS (cS uC (cB (cD (cT fn16_q0)))) uC))
def fn14_r:List OP:=[op fn16_k]
def fn14_p:TCode Tb :=
(sq [(Mk kf 4)]
(sq [(Mv 0 5),(Mv 1 6),(Cl 100 0 [.m 5,.m 6] 7),(Bi .geq [.m 7,ki 0] 8),(Mv 8 4)]
.ret))
def fn14_w:Orc Tb:=mkOrc (Y:=Bool) tab [lS 2,iS] [] (fun x h=>fn14 x.1 x.2.1) (fun _ y k=>k (.b y) [])
theorem fn14_k:WK fn14_w 84:=orcD (Y:=Bool) (c:=fn14_p) (res:=[.tmp 4]) (n:=9) (R:=(RO (bS))) fn14_r oneD Tryd.func84 uC
def fn90_r:List OP:=[op fn56_k,op fn14_k]
def fn90_p:TCode Tb :=
(sq [(Mk kf 4)]
(sq [(Mv 0 5),(Cl 85 0 [.m 5] 6),(Op (.fld 1 none) [.m 6] 7),(Mv 1 8),(Cl 84 1 [.m 7,.m 8] 9),(Mv 9 4)]
.ret))
def fn90_w:Orc Tb:=mkOrc (Y:=Bool) tab [u8S,iS] [] (fun x h=>fn90 x.1 x.2.1) (fun _ y k=>k (.b y) [])
theorem fn90_k:WK fn90_w 60:=orcD (Y:=Bool) (c:=fn90_p) (res:=[.tmp 4]) (n:=10) (R:=(RO (bS))) fn90_r oneD Tryd.func60 uC
def fn67_r:List OP:=[op fn90_k]
def fn67_p:TCode Tb :=
(sq [(Mk kf 4)]
(sq [(Mw 0 5),(Mw 1 6),(Cl 60 0 [.m 5,.m 6] 7),(Mv 7 8),(Yes .mv [.v 0] 9 8),(Yes (bi .eql) [.m 9,.k (.u8 (38:UInt8))] 10 8),(Yes .mv [.m 10] 11 8),(No .mv [.m 0] 12 11),(No (bi .eql) [.m 12,.k (.u8 (11:UInt8))] 13 11),(No .mv [.m 13] 14 11),(Yes .mv [.m 1] 15 14),(Yes (bi .eql) [.m 15,ki 3] 16 14),(No .pick [.m 14,.m 16,kf] 17 11),(Yes .pick [.m 11,kt,.m 17] 18 8),(Pf 8 18 19),(Mv 19 4)]
(dp [0,1,9,10,11,12,13,14,15,16,17] .ret)))
def fn67_w:Orc Tb:=mkOrc (Y:=Bool) tab [u8S,iS] [] (fun x h=>fn67 x.1 x.2.1) (fun _ y k=>k (.b y) [])
theorem fn67_k:WK fn67_w 61:=orcD (Y:=Bool) (c:=fn67_p) (res:=[.tmp 4]) (n:=20) (R:=(RO (bS))) fn67_r oneD Tryd.func61 uC
def fn53_r:List OP:=[]
def fn53_p:TCode Tb :=
(sq [(Op .box [.m 0] 2),(Mk kf 3)]
(sq [(Fam 0 2 4),(Ld 4 5),(Ld 1 6),(Bi .eql [.m 5,.m 6] 7),(Mv 7 3)]
.ret))
def fn53_w:Orc Tb:=mkOrc (Y:=Bool × UInt8) tab [.g (.st 4),rS 0 0] [[u8S]] (fun x h=>fn53 (x.1:fn86) h.1.1) (fun _ y k=>k (.b y.1) [[.u8 y.2]])
theorem fn53_k:WK fn53_w 54:=orcD (Y:=Bool × UInt8) (c:=fn53_p) (res:=[.tmp 3]) (n:=8) (R:=(RSp.one (Y:=Bool × UInt8) tab (bS) [[u8S]] (fun a b=>(a,b.1.1)) (fun y=>y.1) (fun y=>((y.2,()),())))) fn53_r oneD Tryd.func54 uC
def fn3_r:List OP:=[op fn53_k]
def fn3_p0:TCode Tb :=
(sq [(Bi .lss [.v 8,.v 7] 9)]
(se (cn 9 (dp [9] .skip)
(dp [0,1,7,8,9] (.exit 0)))
(se (.block 1 (sq [(Mw 8 10),(Mv 10 5)]
(sq [(Mw 1 11),(Mw 0 12),(Mw 5 13),(Op (.ia 4) [.v 12,.m 13] 14),(Op (.load (some 4)) [.m 14] 15),(Op (.call none 0) [.m 11,.m 15] 16)]
(cn 16 (dp [0,1,7,8,12,16] (sq [(Mv 5 17),(Mv 17 4)]
.ret))
(dp [5,12,16] .skip)))))
(rg [(Bi .add [.m 8,ki 1] 18),(Mv 18 8)]))))
def fn3_s0:SSh:=⟨[(0,lS 4),(1,.g (.clo 54 [] [.ref 0 0])),(7,iS),(8,iS)],[[u8S]]⟩
def fn3_o0:Cut Tb:=cutL tab 1 fn3_s0 (fun x=>(x.1.2.2.2.1,x.2.1.1)) (fun x=>fn3_l0 x.1.1 x.1.2.2.1) (fun _ x y k=>match y with|.inl y=>k .ret ⟨[(4,.n .i64 y.1)],[[.u8 y.2]]⟩|.inr y=>k (.exit 0) ⟨[],[[.u8 y]]⟩)
theorem fn3_q0:CK fn3_o0 1 (.loop fn3_p0):=cutLD2 (Z:=Int × UInt8) (Y:=(Int × UInt8) ⊕ UInt8) fn3_r uC (fun _ x z b e=>fn3_b0 x.1.1 x.1.2.2.1 z.1 z.2 (fun x5 x6=>b (x5,x6)) (fun y10 y11=>e (.inl (y10,y11))) (fun y12=>e (.inr y12))) (fun x z=>⟨[(0,.sl 4 x.1.1),(1,.clo 54 [] [.ref 0 0]),(7,.n .i64 x.1.2.2.1),(8,.n .i64 z.1)],[[.u8 z.2]]⟩) (fun x y=>match y with|.inl y=>(.ret,⟨[(4,.n .i64 y.1)],[[.u8 y.2]]⟩)|.inr y=>((.exit 0),⟨[],[[.u8 y]]⟩)) (pyA tab 1 .ret ⟨[(4,iS)],[[u8S]]⟩ (fun v=>.inl (v.1.1,v.2.1.1)) (pyA tab 1 (.exit 0) ⟨[],[[u8S]]⟩ (fun v=>.inr v.2.1.1) pyN))
def fn3_p:TCode Tb :=
(sq [(Mk (ki 0) 4)]
(se (sq [(Mw 0 6),(Op .len [.m 6] 7),(Mk (ki 0) 8)]
(.block 0 (dp [4] (.cut 1 fn3_o0 (.loop fn3_p0)))))
(sq [(Op .mv [.k (.n .i64 (-1))] 4)]
.ret)))
def fn3_w:Orc Tb:=mkOrc (Y:=Int × UInt8) tab [lS 4,.g (.clo 54 [] [.ref 0 0])] [[u8S]] (fun x h=>fn3 x.1 h.1.1) (fun _ y k=>k (.n .i64 y.1) [[.u8 y.2]])
theorem fn3_k:WK fn3_w 53:=orcD (Y:=Int × UInt8) (c:=fn3_p) (res:=[.tmp 4]) (n:=19) (R:=(RSp.one (Y:=Int × UInt8) tab (iS) [[u8S]] (fun a b=>(a,b.1.1)) (fun y=>y.1) (fun y=>((y.2,()),())))) fn3_r oneD Tryd.func53 (cS uC (cS (cS uC (cB (cD (cT fn3_q0)))) uC))
def fn78_r:List OP:=[op fn3_k]
def fn78_p:TCode Tb :=
(sq [(Op .box [.m 1] 3),(Op (.alloc [.u8 (0:UInt8),.u32 (0:UInt32),.s [],.s []]) [] 4),(Mk kf 5)]
(sq [(Mw 0 7),(Op (.mkf 54 0) [.m 3] 8),(Cl 53 0 [.m 7,.m 8] 9),(Mv 9 6)]
(se (sq [(Mw 6 10),(Bi .lss [.m 10,ki 0] 11)]
(cn 11 (dp [0,5,6,11] (sq [(Op (.build [.u8 (0:UInt8),.u32 (0:UInt32),.s [],.s []] []) [] 12),(Do (.store 4) [.v 4,.m 12]),(Mk kf 5)]
.ret))
(dp [5,11] .skip)))
(sq [(Mv 0 13),(Mv 6 14),(Op (.ia 4) [.v 13,.m 14] 15),(Op (.load (some 4)) [.m 15] 16),(Do (.store 4) [.v 4,.m 16]),(Mk kt 5)]
.ret))))
def fn78_w:Orc Tb:=mkOrc (Y:=fn86 × Bool) tab [lS 4,u8S] [] (fun x h=>fn78 x.1 x.2.1) (fun _ y k=>k (.tup [.agg [.u8 y.1.Id,.u32 y.1.N,.s y.1.A,.s y.1.B],.b y.2]) [])
theorem fn78_k:WK fn78_w 27:=orcD (Y:=fn86 × Bool) (c:=fn78_p) (res:=[.cell 4 (some 4),.tmp 5]) (n:=17) (R:=(RSp.one (Y:=fn86 × Bool) tab (.tup [.st 4,.f (.a .b)]) [] (fun a b=>((a.1:fn86),a.2.1)) (fun y=>((y.1:fn86),y.2,())) (fun y=>()))) fn78_r oneD Tryd.func27 uC
def fn54_r:List OP:=[op fn66_k,op fn90_k,op fn67_k,op fn78_k]
def fn54_s1:SSh:=⟨[(0,iS),(1,lS 4),(15,lS 4),(16,iS),(17,iS)],[]⟩
def fn54_o1:Cut Tb:=cutJ tab 0 fn54_s1 (fun _ x k=>k .normal ⟨[(0,.n .i64 x.1.1),(1,.sl 4 x.1.2.1),(15,.sl 4 x.1.2.2.1),(16,.n .i64 x.1.2.2.2.1),(17,.n .i64 x.1.2.2.2.2.1)],[]⟩)
theorem fn54_q1:CK fn54_o1 0 .skip:=yv817 (c:=.skip) tabOk (orK fn54_r) trivial (fun _ _=>by kernel_rfl)
def fn54_p0:TCode Tb :=
(.fin 0 fn54_o1 (sq [(Bi .lss [.v 17,.v 16] 18)]
(se (cn 18 (dp [18] .skip)
(dp [0,15,16,17,18] (.exit 0)))
(se (.block 1 (sq [(Mw 17 19),(Op (.ia 4) [.v 15,.v 17] 20),(Op (.load (some 4)) [.m 20] 21),(Op (.alloc [.u8 (0:UInt8),.u32 (0:UInt32),.s [],.s []]) [] 6),(Mv 19 5),(Do (.store 4) [.v 6,.m 21])]
(se (sq [(Op (.load (some 4)) [.v 6] 22),(Cl 59 0 [.m 22] 23),(Op (.un .not) [.m 23] 24),(Mv 24 25),(No (.fa 0) [.v 6] 26 25),(No ld [.m 26] 27 25),(No .mv [.v 0] 28 25),(No (.call (some 60) 1) [.m 27,.m 28] 29 25),(No (.un .not) [.m 29] 30 25),(Pt 25 30 31)]
(dp [26,27,28,29] (cn 31 (dp [0,1,5,6,15,16,17,31] (sq [(Mk kf 4)]
.ret))
(dp [31] .skip))))
(se (sq [(Mw 5 32),(Bi .eql [.m 32,ki 0] 33)]
(cn 33 (dp [5,6,33] (.exit 1))
(dp [33] .skip)))
(sq [(Mw 1 34),(Mv 5 35),(Bi .sub [.m 35,ki 1] 36),(Op (.ia 4) [.v 34,.m 36] 37),(Fam 0 37 38),(Ld 38 39),(Mv 39 7)]
(sq [(Mw 7 40),(Fav 0 6 41),(Ld 41 42),(Bi .gtr [.m 40,.m 42] 43),(Mv 43 44),(No .mv [.m 7] 45 44),(No (.fa 0) [.v 6] 46 44),(No ld [.m 46] 47 44),(No (bi .eql) [.m 45,.m 47] 48 44),(No .mv [.m 48] 49 44),(Yes (.fa 0) [.m 6] 50 49),(Yes ld [.m 50] 51 49),(Yes .mv [.v 0] 52 49),(Yes (.call (some 61) 2) [.m 51,.m 52] 53 49),(Yes (.un .not) [.m 53] 54 49),(No .pick [.m 49,.m 54,kf] 55 44),(Pt 44 55 56)]
(dp [6,7,34,45,46,47,48,49,50,51,52,53,54] (cn 56 (dp [0,1,15,16,17,56] (sq [(Mk kf 4)]
.ret))
(dp [56] .skip)))))))))
(rg [(Bi .add [.m 17,ki 1] 57),(Mv 57 17)])))))
def fn54_s0:SSh:=⟨[(0,iS),(1,lS 4),(15,lS 4),(16,iS),(17,iS)],[]⟩
def fn54_o0:Cut Tb:=cutL tab 0 fn54_s0 (fun x=>x.1.2.2.2.2.1) (fun x=>fn54_l0 x.1.1 x.1.2.1 x.1.2.2.1 x.1.2.2.2.1) (fun _ x y k=>match y with|.inl y=>k .ret ⟨[(4,.b false)],[[.u8 y.Id,.u32 y.N,.s y.A,.s y.B]]⟩|.inr y=>k (.exit 0) ⟨[(1,.sl 4 x.1.2.1)],[]⟩)
theorem fn54_q0:CK fn54_o0 0 (.loop fn54_p0):=cutLD2 (Z:=Int) (Y:=fn86 ⊕ Unit) fn54_r (cF fn54_q1 uC) (fun _ x z b e=>fn54_b0 x.1.1 x.1.2.1 x.1.2.2.1 x.1.2.2.2.1 z (fun x7=>b x7) (fun y18=>e (.inl y18)) (e (.inr ()))) (fun x z=>⟨[(0,.n .i64 x.1.1),(1,.sl 4 x.1.2.1),(15,.sl 4 x.1.2.2.1),(16,.n .i64 x.1.2.2.2.1),(17,.n .i64 z)],[]⟩) (fun x y=>match y with|.inl y=>(.ret,⟨[(4,.b false)],[[.u8 y.Id,.u32 y.N,.s y.A,.s y.B]]⟩)|.inr y=>((.exit 0),⟨[(1,.sl 4 x.1.2.1)],[]⟩)) (pyA tab 0 .ret ⟨[(4,.g (.f (.cb false)))],[[u8S,u32S,sS,sS]]⟩ (fun v=>.inl (tabBk 4 v.2.1:fn86)) (pyA tab 0 (.exit 0) ⟨[(1,lS 4)],[]⟩ (fun v=>.inr ()) pyN))
def fn54_p:TCode Tb :=
(sq [(Mk kf 4)]
(se (sq [(Mw 1 12),(Op .len [.m 12] 13),(Bi .gtr [.m 13,ki 1024] 14)]
(cn 14 (dp [0,1,4,14] (sq [(Mk kf 4)]
.ret))
(dp [4,14] .skip)))
(se (sq [(Mw 1 15),(Op .len [.v 15] 16),(Mk (ki 0) 17)]
(.block 0 (.cut 0 fn54_o0 (.loop fn54_p0))))
(sq [(Mw 1 59),(Cl 27 3 [.m 59,.k (.u8 (22:UInt8))] 60),(Mv 60 58),(Op .extm [.c 58 0] 61),(Op (.ext 1) [.m 58] 62),(Op (.alloc [.u8 (0:UInt8),.u32 (0:UInt32),.s [],.s []]) [] 8),(Do (.store 4) [.m 8,.m 61]),(Mv 62 9)]
(sq [(Mv 1 64),(Cl 27 3 [.m 64,.k (.u8 (21:UInt8))] 65),(Mv 65 63),(Op .extm [.c 63 0] 66),(Op (.ext 1) [.m 63] 67),(Op (.alloc [.u8 (0:UInt8),.u32 (0:UInt32),.s [],.s []]) [] 10),(Do (.store 4) [.m 10,.m 66]),(Mv 67 11)]
(sq [(Mv 11 68),(Mv 68 69),(No .mv [.m 9] 70 69),(No (.un .not) [.m 70] 71 69),(Pt 69 71 72),(Mv 72 4)]
(dp [9,70] .ret)))))))
def fn54_w:Orc Tb:=mkOrc (Y:=Bool) tab [iS,lS 4] [] (fun x h=>fn54 x.1 x.2.1) (fun _ y k=>k (.b y) [])
theorem fn54_k:WK fn54_w 30:=orcD (Y:=Bool) (c:=fn54_p) (res:=[.tmp 4]) (n:=73) (R:=(RO (bS))) fn54_r oneD Tryd.func30 (cS uC (cS uC (cS (cS uC (cB (cT fn54_q0))) uC)))
def fn91_r:List OP:=[op fn76_k,op fn77_k,op fn62_k,op fn63_k,op fn54_k]
def fn91_p:TCode Tb :=
(sq [(Mk kf 0)]
(sq [(Op (.build [.u8 (0:UInt8),.u32 (0:UInt32),.s [],.s []] [(0,1),(1,1)]) [.k (.u8 (33:UInt8)),.k (.u32 (7:UInt32))] 4),⟨(.bslice 4 1 ((⟨(0:UInt8),(0:UInt32),[],[]⟩:fn86):fn86) [0]),[.m 4],some 5,none⟩,(Cl 11 0 [.k (.nilS),.m 5] 6),(Mv 6 1)]
(sq [(Mw 1 8),(Cl 15 1 [.m 8] 9),(Cl 17 2 [.m 9] 10),(Mv 10 7),(Op .extm [.c 7 0] 11),(Op (.ext 1) [.m 7] 12),(Mv 11 2),(Mv 12 3)]
(sq [(Mv 1 13),(Op .b2s [.m 13] 14),(Op (.bin .eql .s) [.m 14,.k (.s [3,33,0,7])] 15),(Mv 15 16),(Yes .mv [.m 3] 17 16),(Pf 16 17 18),(Mv 18 19),(Yes .mv [.v 2] 20 19),(Yes .len [.m 20] 21 19),(Yes (bi .eql) [.m 21,ki 1] 22 19),(Pf 19 22 23),(Mv 23 24),(Yes .mv [.v 2] 25 24),(Yes (.ia 4) [.v 25,ki 0] 26 24),(Yes (.fa 1) [.m 26] 27 24),(Yes ld [.m 27] 28 24),(Yes (bi .eql) [.m 28,.k (.u32 (7:UInt32))] 29 24),(Pf 24 29 30),(Mv 30 31),(Yes .mv [.v 2] 32 31),(Yes (.call (some 14) 3) [.m 32] 33 31),(Yes (bi .eql) [.m 33,ki 4] 34 31),(Pf 31 34 35),(Mv 35 36),(Yes (.call (some 11) 0) [.k (.nilS),.k (.nilS)] 37 36),(Yes .b2s [.m 37] 38 36),(Yes (.bin .eql .s) [.m 38,.k (.s [0])] 39 36),(Pf 36 39 40),(Mv 40 41),(Yes .mv [.v 2] 42 41),(Yes (.call (some 30) 4) [ki 1,.m 42] 43 41),(Pf 41 43 44),(Mv 44 45),(Yes .mv [.m 2] 46 45),(Yes (.call (some 30) 4) [ki 3,.m 46] 47 45),(Yes (.un .not) [.m 47] 48 45),(Pf 45 48 49),(Mv 49 0)]
(dp [2,3,20,21,25,26,27,28,32,33,37,38,42,46,47] .ret)))))
def fn91_w:Orc Tb:=mkOrc (Y:=Bool) tab [] [] (fun x h=>fn91) (fun _ y k=>k (.b y) [])
theorem fn91_k:WK fn91_w 10:=orcD (Y:=Bool) (c:=fn91_p) (res:=[.tmp 0]) (n:=50) (R:=(RO (bS))) fn91_r oneD Tryd.func10 uC
def l05_To_r:List OP:=[]
def l05_To_p:TCode Tb :=
(sq [(Op .box [.m 0] 1),(Op (.alloc [.u8 (0:UInt8),.u32 (0:UInt32),.s [],.s []]) [] 2)]
(sq [(Fav 0 1 3),(Ld 3 4),(Fav 1 1 5),(Ld 5 6),(Fav 2 1 7),(Ld 7 8),(Fam 3 1 9),(Ld 9 10),(Op (.build [.u8 (0:UInt8),.u32 (0:UInt32),.s [],.s []] [(0,1),(1,1),(2,1),(3,1)]) [.m 4,.m 6,.m 8,.m 10] 11),(Do (.store 4) [.v 2,.m 11])]
.ret))
def l05_To_w:Orc Tb:=mkOrc (Y:=fn86) tab [.g (.st 1)] [] (fun x h=>l05_To (x.1:fn104)) (fun _ y k=>k (.agg [.u8 y.Id,.u32 y.N,.s y.A,.s y.B]) [])
theorem l05_To_k:WK l05_To_w 37:=orcD (Y:=fn86) (c:=l05_To_p) (res:=[.cell 2 (some 4)]) (n:=12) (R:=(RO (.g (.st 4)))) l05_To_r oneD Tryd.func37 uC
def l06_To_r:List OP:=[op l05_To_k]
def l06_To_p0:TCode Tb :=
(se (sq [(Mw 4 5),(Mw 0 6),(Op .len [.m 6] 7),(Bi .lss [.m 5,.m 7] 8)]
(cn 8 (dp [8] .skip)
(dp [0,4,8] (.exit 0))))
(se (.block 1 (rg [(Mv 3 11),(Mw 0 12),(Mw 4 13),(Op (.ia 4) [.v 12,.m 13] 14),(Op (.load (some 4)) [.m 14] 15),(Cl 37 0 [.m 15] 16),⟨(.bslice 4 1 ((⟨(0:UInt8),(0:UInt32),[],[]⟩:fn86):fn86) [0]),[.m 16],some 17,none⟩,(Op (.app 4 40) [.m 11,.m 17] 18),(Mv 18 3)]))
(dp [12] (rg [(Mv 4 9),(Bi .add [.m 9,ki 1] 10),(Mv 10 4)]))))
def l06_To_s0:SSh:=⟨[(0,lS 1),(3,wS 4),(4,iS)],[]⟩
def l06_To_o0:Cut Tb:=cutL tab 0 l06_To_s0 (fun x=>(x.1.2.1,x.1.2.2.1)) (fun x=>l06_To_l0 x.1.1) (fun _ x y k=>k (.exit 0) ⟨[(3,.ow 4 y)],[]⟩)
theorem l06_To_q0:CK l06_To_o0 0 (.loop l06_To_p0):=cutLD (Z:=(Option (List fn86)) × Int) (Y:=(Option (List fn86))) l06_To_r uC (fun _ x z b e=>l06_To_b0 x.1.1 z.1 z.2 (fun x3 x4=>b (x3,x4)) (fun y8=>e y8)) (fun x z=>⟨[(0,.sl 1 x.1.1),(3,.ow 4 z.1),(4,.n .i64 z.2)],[]⟩) (fun x y=>((.exit 0),⟨[(3,.ow 4 y)],[]⟩)) (pyA tab 0 (.exit 0) ⟨[(3,wS 4)],[]⟩ (fun v=>v.1.1) pyN)
def l06_To_p:TCode Tb :=
(sq [(Op .mv [.k (.nilS)] 2)]
(sq [(Op .mv [.k (.nilS)] 3)]
(se (sq [(Mk (ki 0) 4)]
(.block 0 (dp [2] (.cut 0 l06_To_o0 (.loop l06_To_p0)))))
(sq [(Mv 3 19),(Mv 19 2)]
.ret))))
def l06_To_w:Orc Tb:=mkOrc (Y:=(Option (List fn86))) tab [lS 1] [] (fun x h=>l06_To x.1) (fun _ y k=>k (.ow 4 y) [])
theorem l06_To_k:WK l06_To_w 12:=orcD (Y:=(Option (List fn86))) (c:=l06_To_p) (res:=[.tmp 2]) (n:=20) (R:=(RO (wS 4))) l06_To_r oneD Tryd.func12 (cS uC (cS uC (cS (cS uC (cB (cD (cT l06_To_q0)))) uC)))
def fn92_r:List OP:=[]
def fn92_p3:TCode Tb :=
(cn 25 (dp [3,25] (sq [(Mk (ki 5) 2)]
.ret))
(dp [25] (se (sq [(Bi .eql [.v 3,.k (.u8 (9:UInt8))] 34),(Mv 34 33)]
(cn 33 .skip
(dp [33] (rg [(Bi .eql [.v 3,.k (.u8 (22:UInt8))] 35),(Mv 35 33)]))))
(cn 33 (dp [3,33] (sq [(Mk (ki 6) 2)]
.ret))
(dp [33] (sq [(Bi .eql [.m 3,.k (.u8 (38:UInt8))] 37),(Mv 37 36)]
(cn 36 (dp [36] (sq [(Mk (ki 7) 2)]
.ret))
(dp [36] .skip))))))))
def fn92_s3:SSh:=⟨[(3,u8S),(25,bS)],[]⟩
def fn92_o3:Cut Tb:=cutJ tab 0 fn92_s3 (fun _ x k=>fn92_c3 x.1.1 x.1.2.1 (fun y10=>k .ret ⟨[(2,.n .i64 y10)],[]⟩) (k .normal ⟨[],[]⟩))
theorem fn92_q3:CK fn92_o3 0 fn92_p3:=cutJD fn92_r uC
def fn92_p2:TCode Tb :=
(cn 18 (dp [3,18] (sq [(Mk (ki 3) 2)]
.ret))
(dp [18] (sq [(Bi .eql [.v 3,.k (.u8 (11:UInt8))] 24),(Mv 24 23)]
(cn 23 (dp [3,23] (sq [(Mk (ki 4) 2)]
.ret))
(dp [23] (se (sq [(Bi .eql [.v 3,.k (.u8 (3:UInt8))] 26),(Mv 26 25)]
(cn 25 .skip
(dp [25] (sq [(Bi .eql [.v 3,.k (.u8 (8:UInt8))] 27),(Mv 27 25)]
(cn 25 .skip
(dp [25] (sq [(Bi .eql [.v 3,.k (.u8 (18:UInt8))] 28),(Mv 28 25)]
(cn 25 .skip
(dp [25] (sq [(Bi .eql [.v 3,.k (.u8 (21:UInt8))] 29),(Mv 29 25)]
(cn 25 .skip
(dp [25] (sq [(Bi .eql [.v 3,.k (.u8 (26:UInt8))] 30),(Mv 30 25)]
(cn 25 .skip
(dp [25] (sq [(Bi .eql [.v 3,.k (.u8 (28:UInt8))] 31),(Mv 31 25)]
(cn 25 .skip
(dp [25] (rg [(Bi .eql [.v 3,.k (.u8 (31:UInt8))] 32),(Mv 32 25)])))))))))))))))))))
(.cut 0 fn92_o3 fn92_p3)))))))
def fn92_s2:SSh:=⟨[(3,u8S),(18,bS)],[]⟩
def fn92_o2:Cut Tb:=cutJ tab 0 fn92_s2 (fun _ x k=>fn92_c2 x.1.1 x.1.2.1 (fun y18=>k .ret ⟨[(2,.n .i64 y18)],[]⟩) (k .normal ⟨[],[]⟩))
theorem fn92_q2:CK fn92_o2 0 fn92_p2:=cutJD fn92_r (cC uC (cD (cS uC (cC uC (cD (cS uC (cT fn92_q3)))))))
def fn92_p1:TCode Tb :=
(cn 13 (dp [3,13] (sq [(Mk (ki 2) 2)]
.ret))
(dp [13] (se (sq [(Bi .eql [.v 3,.k (.u8 (2:UInt8))] 19),(Mv 19 18)]
(cn 18 .skip
(dp [18] (sq [(Bi .eql [.v 3,.k (.u8 (17:UInt8))] 20),(Mv 20 18)]
(cn 18 .skip
(dp [18] (sq [(Bi .eql [.v 3,.k (.u8 (24:UInt8))] 21),(Mv 21 18)]
(cn 18 .skip
(dp [18] (rg [(Bi .eql [.v 3,.k (.u8 (39:UInt8))] 22),(Mv 22 18)]))))))))))
(.cut 0 fn92_o2 fn92_p2))))
def fn92_s1:SSh:=⟨[(3,u8S),(13,bS)],[]⟩
def fn92_o1:Cut Tb:=cutJ tab 0 fn92_s1 (fun _ x k=>fn92_c1 x.1.1 x.1.2.1 (fun y23=>k .ret ⟨[(2,.n .i64 y23)],[]⟩) (k .normal ⟨[],[]⟩))
theorem fn92_q1:CK fn92_o1 0 fn92_p1:=cutJD fn92_r (cC uC (cD (cS uC (cT fn92_q2))))
def fn92_p0:TCode Tb :=
(cn 4 (dp [3,4] (sq [(Mk (ki 1) 2)]
.ret))
(dp [4] (se (sq [(Bi .eql [.v 3,.k (.u8 (19:UInt8))] 14),(Mv 14 13)]
(cn 13 .skip
(dp [13] (sq [(Bi .eql [.v 3,.k (.u8 (33:UInt8))] 15),(Mv 15 13)]
(cn 13 .skip
(dp [13] (sq [(Bi .eql [.v 3,.k (.u8 (34:UInt8))] 16),(Mv 16 13)]
(cn 13 .skip
(dp [13] (rg [(Bi .eql [.v 3,.k (.u8 (35:UInt8))] 17),(Mv 17 13)]))))))))))
(.cut 0 fn92_o1 fn92_p1))))
def fn92_s0:SSh:=⟨[(3,u8S),(4,bS)],[]⟩
def fn92_o0:Cut Tb:=cutJ tab 0 fn92_s0 (fun _ x k=>fn92_c0 x.1.1 x.1.2.1 (fun y28=>k .ret ⟨[(2,.n .i64 y28)],[]⟩) (k .normal ⟨[],[]⟩))
theorem fn92_q0:CK fn92_o0 0 fn92_p0:=cutJD fn92_r (cC uC (cD (cS uC (cT fn92_q1))))
def fn92_p:TCode Tb :=
(sq [(Mk (ki 0) 2)]
(se (sq [(Mv 0 3)]
(.block 0 (se (sq [(Bi .eql [.v 3,.k (.u8 (1:UInt8))] 5),(Mv 5 4)]
(cn 4 (dp [2] .skip)
(dp [2,4] (sq [(Bi .eql [.v 3,.k (.u8 (23:UInt8))] 6),(Mv 6 4)]
(cn 4 .skip
(dp [4] (sq [(Bi .eql [.v 3,.k (.u8 (25:UInt8))] 7),(Mv 7 4)]
(cn 4 .skip
(dp [4] (sq [(Bi .eql [.v 3,.k (.u8 (36:UInt8))] 8),(Mv 8 4)]
(cn 4 .skip
(dp [4] (sq [(Bi .eql [.v 3,.k (.u8 (37:UInt8))] 9),(Mv 9 4)]
(cn 4 .skip
(dp [4] (sq [(Bi .eql [.v 3,.k (.u8 (40:UInt8))] 10),(Mv 10 4)]
(cn 4 .skip
(dp [4] (sq [(Bi .eql [.v 3,.k (.u8 (41:UInt8))] 11),(Mv 11 4)]
(cn 4 .skip
(dp [4] (rg [(Bi .eql [.v 3,.k (.u8 (42:UInt8))] 12),(Mv 12 4)]))))))))))))))))))))))
(.cut 0 fn92_o0 fn92_p0))))
(sq [(Mk (ki 0) 2)]
.ret)))
def fn92_w:Orc Tb:=mkOrc (Y:=Int) tab [u8S] [] (fun x h=>fn92 x.1) (fun _ y k=>k (.n .i64 y) [])
theorem fn92_k:WK fn92_w 67:=orcD (Y:=Int) (c:=fn92_p) (res:=[.tmp 2]) (n:=38) (R:=(RSp.one (Y:=Int) tab (iS) [] (fun a b=>a) (fun y=>y) (fun y=>()))) fn92_r oneD Tryd.func67 (cS uC (cS (cS uC (cB (cS uC (cT fn92_q0)))) uC))
def fn94_r:List OP:=[]
def fn94_p:TCode Tb :=
(sq [(Op .box [.m 0] 1),(Op (.alloc [.u8 (0:UInt8),.u32 (0:UInt32),.s [],.s []]) [] 2)]
(sq [(Fav 0 1 3),(Ld 3 4),(Fav 1 1 5),(Ld 5 6),(Fav 2 1 7),(Ld 7 8),(Fam 3 1 9),(Ld 9 10),(Op (.build [.u8 (0:UInt8),.u32 (0:UInt32),.s [],.s []] [(0,1),(1,1),(2,1),(3,1)]) [.m 4,.m 6,.m 8,.m 10] 11),(Do (.store 4) [.v 2,.m 11])]
.ret))
def fn94_w:Orc Tb:=mkOrc (Y:=fn104) tab [.g (.st 4)] [] (fun x h=>fn94 (x.1:fn86)) (fun _ y k=>k (.agg [.u8 y.Id,.u32 y.N,.s y.A,.s y.B]) [])
theorem fn94_k:WK fn94_w 32:=orcD (Y:=fn104) (c:=fn94_p) (res:=[.cell 2 (some 4)]) (n:=12) (R:=(RO (.g (.st 1)))) fn94_r oneD Tryd.func32 uC
def fn95_r:List OP:=[op fn94_k]
def fn95_p0:TCode Tb :=
(se (sq [(Mw 4 5),(Mw 0 6),(Op .len [.m 6] 7),(Bi .lss [.m 5,.m 7] 8)]
(cn 8 (dp [8] .skip)
(dp [0,4,8] (.exit 0))))
(se (.block 1 (rg [(Mv 3 11),(Mw 0 12),(Mw 4 13),(Op (.ia 4) [.v 12,.m 13] 14),(Op (.load (some 4)) [.m 14] 15),(Cl 32 0 [.m 15] 16),⟨(.bslice 1 1 ((⟨(0:UInt8),(0:UInt32),[],[]⟩:fn104):fn104) [0]),[.m 16],some 17,none⟩,(Op (.app 4 40) [.m 11,.m 17] 18),(Mv 18 3)]))
(dp [12] (rg [(Mv 4 9),(Bi .add [.m 9,ki 1] 10),(Mv 10 4)]))))
def fn95_s0:SSh:=⟨[(0,lS 4),(3,wS 1),(4,iS)],[]⟩
def fn95_o0:Cut Tb:=cutL tab 0 fn95_s0 (fun x=>(x.1.2.1,x.1.2.2.1)) (fun x=>fn95_l0 x.1.1) (fun _ x y k=>k (.exit 0) ⟨[(3,.ow 1 y)],[]⟩)
theorem fn95_q0:CK fn95_o0 0 (.loop fn95_p0):=cutLD (Z:=(Option (List fn104)) × Int) (Y:=(Option (List fn104))) fn95_r uC (fun _ x z b e=>fn95_b0 x.1.1 z.1 z.2 (fun x3 x4=>b (x3,x4)) (fun y8=>e y8)) (fun x z=>⟨[(0,.sl 4 x.1.1),(3,.ow 1 z.1),(4,.n .i64 z.2)],[]⟩) (fun x y=>((.exit 0),⟨[(3,.ow 1 y)],[]⟩)) (pyA tab 0 (.exit 0) ⟨[(3,wS 1)],[]⟩ (fun v=>v.1.1) pyN)
def fn95_p:TCode Tb :=
(sq [(Op .mv [.k (.nilS)] 2)]
(sq [(Op .mv [.k (.nilS)] 3)]
(se (sq [(Mk (ki 0) 4)]
(.block 0 (dp [2] (.cut 0 fn95_o0 (.loop fn95_p0)))))
(sq [(Mv 3 19),(Mv 19 2)]
.ret))))
def fn95_w:Orc Tb:=mkOrc (Y:=(Option (List fn104))) tab [lS 4] [] (fun x h=>fn95 x.1) (fun _ y k=>k (.ow 1 y) [])
theorem fn95_k:WK fn95_w 19:=orcD (Y:=(Option (List fn104))) (c:=fn95_p) (res:=[.tmp 2]) (n:=20) (R:=(RO (wS 1))) fn95_r oneD Tryd.func19 (cS uC (cS uC (cS (cS uC (cB (cD (cT fn95_q0)))) uC)))
def fn68_r:List OP:=[]
def fn68_p1:TCode Tb :=
(se (se (.reg [(Mw 5 16),(Bi .gtr [.m 16,ki 0] 17),(Mv 17 18),(Yes .mv [.v 3] 19 18),(Yes .mv [.v 5] 20 18),(Yes (bi .sub) [.m 20,ki 1] 21 18),(Yes (.ia 4) [.v 19,.m 21] 22 18),(Yes (.fa 0) [.m 22] 23 18),(Yes ld [.m 23] 24 18),(Yes .mv [.v 3] 25 18),(Yes .mv [.v 5] 26 18),(Yes (.ia 4) [.v 25,.m 26] 27 18),(Yes (.fa 0) [.m 27] 28 18),(Yes ld [.m 28] 29 18),(Yes (bi .gtr) [.m 24,.m 29] 30 18),(Pf 18 30 31)] (some [[],[],[],[],[],[],[],[],[],[],[],[],[],[8],[],[]]))
(dp [19,20,21,22,23,24,25,26,27,28,29] (cn 31 (dp [31] .skip)
(dp [5,31] (.exit 2)))))
(se (.block 3 (.reg [(Mw 3 34),(Mw 5 35),(Bi .sub [.m 35,ki 1] 36),(Mw 3 37),(Mw 5 38),(Mw 3 39),(Mw 5 40),(Op (.ia 4) [.v 39,.m 40] 41),(Op (.load (some 4)) [.m 41] 42),(Mw 3 43),(Mw 5 44),(Bi .sub [.m 44,ki 1] 45),(Op (.ia 4) [.v 43,.m 45] 46),(Op (.load (some 4)) [.m 46] 47),(Op (.ia 4) [.v 34,.m 36] 48),(Do (.store 4) [.m 48,.m 42]),(Op (.ia 4) [.v 37,.m 38] 49),(Do (.store 4) [.m 49,.m 47])] (some [[],[],[],[],[],[],[],[],[],[],[],[],[],[8],[],[],[],[]])))
(dp [34,37,39,43] (rg [(Mv 5 32),(Bi .sub [.m 32,ki 1] 33),(Mv 33 5)]))))
def fn68_s1:SSh:=⟨[(3,wS 1),(4,iS),(5,iS)],[]⟩
def fn68_o1:Cut Tb:=cutL tab 0 fn68_s1 (fun x=>()) (fun x=>fn68_l1 x.1.1 x.1.2.2.1) (fun _ x y k=>k (.exit 2) ⟨[(3,.ow 1 x.1.1),(4,.n .i64 x.1.2.1)],[]⟩)
theorem fn68_q1:CK fn68_o1 0 (.loop fn68_p1):=cutLD (Z:=Unit) (Y:=Unit) fn68_r uC (fun _ x z b e=>fn68_b1 x.1.1 x.1.2.2.1 (b ()) (e ())) (fun x z=>⟨[(3,.ow 1 x.1.1),(4,.n .i64 x.1.2.1),(5,.n .i64 x.1.2.2.1)],[]⟩) (fun x y=>((.exit 2),⟨[(3,.ow 1 x.1.1),(4,.n .i64 x.1.2.1)],[]⟩)) (pyA tab 0 (.exit 2) ⟨[(3,wS 1),(4,iS)],[]⟩ (fun v=>()) pyN)
def fn68_p0:TCode Tb :=
(se (sq [(Mw 4 9),(Mw 3 10),(Op .len [.m 10] 11),(Bi .lss [.m 9,.m 11] 12)]
(cn 12 (dp [12] .skip)
(dp [4,12] (.exit 0))))
(se (.block 1 (sq [(Mw 4 15),(Mv 15 5)]
(.block 2 (.cut 0 fn68_o1 (.loop fn68_p1)))))
(rg [(Mv 4 13),(Bi .add [.m 13,ki 1] 14),(Mv 14 4)])))
def fn68_s0:SSh:=⟨[(3,wS 1),(4,iS)],[]⟩
def fn68_o0:Cut Tb:=cutL tab 0 fn68_s0 (fun x=>x.1.2.1) (fun x=>fn68_l0 x.1.1) (fun _ x y k=>k (.exit 0) ⟨[(3,.ow 1 x.1.1)],[]⟩)
theorem fn68_q0:CK fn68_o0 0 (.loop fn68_p0):=cutLD (Z:=Int) (Y:=Unit) fn68_r (cS uC (cS (cB (cS uC (cB (cT fn68_q1)))) uC)) (fun _ x z b e=>fn68_b0 x.1.1 z (fun x4=>b x4) (e ())) (fun x z=>⟨[(3,.ow 1 x.1.1),(4,.n .i64 z)],[]⟩) (fun x y=>((.exit 0),⟨[(3,.ow 1 x.1.1)],[]⟩)) (pyA tab 0 (.exit 0) ⟨[(3,wS 1)],[]⟩ (fun v=>()) pyN)
def fn68_p:TCode Tb :=
(sq [(Op .mv [.k (.nilS)] 2)]
(sq [⟨(.bslice 1 0 ((⟨(0:UInt8),(0:UInt32),[],[]⟩:fn104):fn104) []),[],some 6,none⟩,(Mv 0 7),(Op (.app 4 40) [.m 6,.m 7] 8),(Mv 8 3)]
(se (sq [(Mk (ki 1) 4)]
(.block 0 (dp [2] (.cut 0 fn68_o0 (.loop fn68_p0)))))
(sq [(Mv 3 50),(Mv 50 2)]
.ret))))
def fn68_w:Orc Tb:=mkOrc (Y:=(Option (List fn104))) tab [lS 1] [] (fun x h=>fn68 x.1) (fun _ y k=>k (.ow 1 y) [])
theorem fn68_k:WK fn68_w 20:=orcD (Y:=(Option (List fn104))) (c:=fn68_p) (res:=[.tmp 2]) (n:=51) (R:=(RO (wS 1))) fn68_r oneD Tryd.func20 (cS uC (cS uC (cS (cS uC (cB (cD (cT fn68_q0)))) uC)))
def fn69_r:List OP:=[]
def fn69_p1:TCode Tb :=
(se (se (.reg [(Mw 5 16),(Bi .gtr [.m 16,ki 0] 17),(Mv 17 18),(Yes .mv [.v 3] 19 18),(Yes .mv [.v 5] 20 18),(Yes (bi .sub) [.m 20,ki 1] 21 18),(Yes (.ia 4) [.v 19,.m 21] 22 18),(Yes (.fa 0) [.m 22] 23 18),(Yes ld [.m 23] 24 18),(Yes .mv [.v 3] 25 18),(Yes .mv [.v 5] 26 18),(Yes (.ia 4) [.v 25,.m 26] 27 18),(Yes (.fa 0) [.m 27] 28 18),(Yes ld [.m 28] 29 18),(Yes (bi .gtr) [.m 24,.m 29] 30 18),(Pf 18 30 31)] (some [[],[],[],[],[],[],[],[],[],[],[],[],[],[8],[],[]]))
(dp [19,20,21,22,23,24,25,26,27,28,29] (cn 31 (dp [31] .skip)
(dp [5,31] (.exit 2)))))
(se (.block 3 (.reg [(Mw 3 34),(Mw 5 35),(Bi .sub [.m 35,ki 1] 36),(Mw 3 37),(Mw 5 38),(Mw 3 39),(Mw 5 40),(Op (.ia 4) [.v 39,.m 40] 41),(Op (.load (some 4)) [.m 41] 42),(Mw 3 43),(Mw 5 44),(Bi .sub [.m 44,ki 1] 45),(Op (.ia 4) [.v 43,.m 45] 46),(Op (.load (some 4)) [.m 46] 47),(Op (.ia 4) [.v 34,.m 36] 48),(Do (.store 4) [.m 48,.m 42]),(Op (.ia 4) [.v 37,.m 38] 49),(Do (.store 4) [.m 49,.m 47])] (some [[],[],[],[],[],[],[],[],[],[],[],[],[],[8],[],[],[],[]])))
(dp [34,37,39,43] (rg [(Mv 5 32),(Bi .sub [.m 32,ki 1] 33),(Mv 33 5)]))))
def fn69_s1:SSh:=⟨[(3,.g (.f (.vw 1 0))),(4,iS),(5,iS)],[[.g (.f (.blk 1))]]⟩
def fn69_o1:Cut Tb:=cutL tab 0 fn69_s1 (fun x=>(x.1.2.2.1,x.2.1.1)) (fun x=>fn69_l1 x.1.1) (fun _ x y k=>k (.exit 2) ⟨[(3,.vw 1 0 x.1.1),(4,.n .i64 x.1.2.1)],[[.blk 1 y]]⟩)
theorem fn69_q1:CK fn69_o1 0 (.loop fn69_p1):=cutLD (Z:=Int × (List fn104)) (Y:=(List fn104)) fn69_r uC (fun _ x z b e=>fn69_b1 x.1.1 z.1 z.2 (fun x7 x8=>b (x7,x8)) (fun y17=>e y17)) (fun x z=>⟨[(3,.vw 1 0 x.1.1),(4,.n .i64 x.1.2.1),(5,.n .i64 z.1)],[[.blk 1 z.2]]⟩) (fun x y=>((.exit 2),⟨[(3,.vw 1 0 x.1.1),(4,.n .i64 x.1.2.1)],[[.blk 1 y]]⟩)) (pyA tab 0 (.exit 2) ⟨[(3,.g (.f (.vw 1 0))),(4,iS)],[[.g (.f (.blk 1))]]⟩ (fun v=>v.2.1.1) pyN)
def fn69_p0:TCode Tb :=
(se (sq [(Mw 4 9),(Mw 3 10),(Op .len [.m 10] 11),(Bi .lss [.m 9,.m 11] 12)]
(cn 12 (dp [12] .skip)
(dp [4,12] (.exit 0))))
(se (.block 1 (sq [(Mw 4 15),(Mv 15 5)]
(.block 2 (.cut 0 fn69_o1 (.loop fn69_p1)))))
(rg [(Mv 4 13),(Bi .add [.m 13,ki 1] 14),(Mv 14 4)])))
def fn69_s0:SSh:=⟨[(3,.g (.f (.vw 1 0))),(4,iS)],[[.g (.f (.blk 1))]]⟩
def fn69_o0:Cut Tb:=cutL tab 0 fn69_s0 (fun x=>(x.1.2.1,x.2.1.1)) (fun x=>fn69_l0 x.1.1) (fun _ x y k=>k (.exit 0) ⟨[(3,.vw 1 0 x.1.1)],[[.blk 1 y]]⟩)
theorem fn69_q0:CK fn69_o0 0 (.loop fn69_p0):=cutLD (Z:=Int × (List fn104)) (Y:=(List fn104)) fn69_r (cS uC (cS (cB (cS uC (cB (cT fn69_q1)))) uC)) (fun _ x z b e=>fn69_b0 x.1.1 z.1 z.2 (fun x3 x4=>b (x3,x4)) (fun y19=>e y19)) (fun x z=>⟨[(3,.vw 1 0 x.1.1),(4,.n .i64 z.1)],[[.blk 1 z.2]]⟩) (fun x y=>((.exit 0),⟨[(3,.vw 1 0 x.1.1)],[[.blk 1 y]]⟩)) (pyA tab 0 (.exit 0) ⟨[(3,.g (.f (.vw 1 0)))],[[.g (.f (.blk 1))]]⟩ (fun v=>v.2.1.1) pyN)
def fn69_p:TCode Tb :=
(.thw 2 (sq [(Op .mv [.k (.nilS)] 2)]
(sq [⟨(.bslice 1 0 ((⟨(0:UInt8),(0:UInt32),[],[]⟩:fn104):fn104) []),[],some 6,none⟩,(Mv 0 7),(Op (.appv 1 40) [.m 6,.m 7] 8),(Mv 8 3)]
(se (sq [(Mk (ki 1) 4)]
(.block 0 (dp [2] (.cut 0 fn69_o0 (.loop fn69_p0)))))
(sq [(Mv 3 50),(Mv 50 2)]
.ret)))))
def fn69_w:Orc Tb:=mkOrc (Y:=(Option (List fn104))) tab [lS 1] [] (fun x h=>fn69 x.1) (fun _ y k=>k (.ow 1 y) [])
theorem fn69_k:WK fn69_w 20:=orcD (Y:=(Option (List fn104))) (c:=fn69_p) (res:=[.tmp 2]) (n:=51) (R:=(RO (wS 1))) fn69_r oneD Tryd.func20 (cW (cS uC (cS uC (cS (cS uC (cB (cD (cT fn69_q0)))) uC))))
def fn96_w:Orc Tb:=mkOrc (Y:=(Option (List fn104))) tab [lS 1] [] (fun x h=>fn96 x.1) (fun _ y k=>k (.ow 1 y) [])
theorem fn96_k:WK fn96_w 20:=yv805 (fun x=>(L x.1).isEmpty) (by intro _ _;kernel_rfl) fn68_k fn69_k
def fn97_r:List OP:=[]
def fn97_p0:TCode Tb :=
(se (sq [(Mw 5 11),(Mw 0 12),(Op .len [.m 12] 13),(Bi .lss [.m 11,.m 13] 14)]
(cn 14 (dp [14] .skip)
(dp [0,1,5,14] (.exit 0))))
(se (.block 1 (se (.reg [(Mw 0 17),(Mw 5 18),(Op (.ia 4) [.v 17,.m 18] 19),(Op (.load (some 4)) [.m 19] 20),(Mw 1 21),(Mw 5 22),(Op (.ia 4) [.v 21,.m 22] 23),(Op (.load (some 4)) [.m 23] 24),(Op (.eqs true [.i,.i,.s,.s]) [.m 20,.m 24] 25)] (some [[],[],[],[],[],[],[],[3],[]]))
(cn 25 (dp [0,1,5,17,21,25] (sq [(Mk kf 4)]
.ret))
(dp [17,21,25] .skip))))
(rg [(Mv 5 15),(Bi .add [.m 15,ki 1] 16),(Mv 16 5)])))
def fn97_s0:SSh:=⟨[(0,lS 1),(1,lS 1),(5,iS)],[]⟩
def fn97_o0:Cut Tb:=cutL tab 0 fn97_s0 (fun x=>x.1.2.2.1) (fun x=>fn97_l0 x.1.1 x.1.2.1) (fun _ x y k=>match y with|.inl y=>k .ret ⟨[(4,.b false)],[]⟩|.inr y=>k (.exit 0) ⟨[],[]⟩)
theorem fn97_q0:CK fn97_o0 0 (.loop fn97_p0):=cutLD2 (Z:=Int) (Y:=Unit ⊕ Unit) fn97_r uC (fun _ x z b e=>fn97_b0 x.1.1 x.1.2.1 z (fun x5=>b x5) (e (.inl ())) (e (.inr ()))) (fun x z=>⟨[(0,.sl 1 x.1.1),(1,.sl 1 x.1.2.1),(5,.n .i64 z)],[]⟩) (fun x y=>match y with|.inl y=>(.ret,⟨[(4,.b false)],[]⟩)|.inr y=>((.exit 0),⟨[],[]⟩)) (pyA tab 0 .ret ⟨[(4,.g (.f (.cb false)))],[]⟩ (fun v=>.inl ()) (pyA tab 0 (.exit 0) ⟨[],[]⟩ (fun v=>.inr ()) pyN))
def fn97_p:TCode Tb :=
(sq [(Mk kf 4)]
(se (sq [(Mw 0 6),(Op .len [.m 6] 7),(Mw 1 8),(Op .len [.m 8] 9),(Bi .neq [.m 7,.m 9] 10)]
(cn 10 (dp [0,1,4,10] (sq [(Mk kf 4)]
.ret))
(dp [4,10] .skip)))
(se (sq [(Mk (ki 0) 5)]
(.block 0 (.cut 0 fn97_o0 (.loop fn97_p0))))
(sq [(Mk kt 4)]
.ret))))
def fn97_w:Orc Tb:=mkOrc (Y:=Bool) tab [lS 1,lS 1] [] (fun x h=>fn97 x.1 x.2.1) (fun _ y k=>k (.b y) [])
theorem fn97_k:WK fn97_w 18:=orcD (Y:=Bool) (c:=fn97_p) (res:=[.tmp 4]) (n:=26) (R:=(RO (bS))) fn97_r oneD Tryd.func18 (cS uC (cS uC (cS (cS uC (cB (cT fn97_q0))) uC)))
def fn112_r:List OP:=[]
def fn112_p0:TCode Tb :=
(se (sq [(Mw 6 7),(Mw 0 8),(Op .len [.m 8] 9),(Bi .lss [.m 7,.m 9] 10)]
(cn 10 (dp [10] .skip)
(dp [0,1,6,10] (.exit 0))))
(se (.block 1 (sq [(Mw 0 13),(Mw 6 14),(Op (.ia 4) [.v 13,.m 14] 15),(Fam 0 15 16),(Ld 16 17),(Mw 1 18),(Bi .eql [.m 17,.m 18] 19)]
(cn 19 (dp [1,13,19] (sq [(Mv 0 20),(Mv 6 21),(Op (.ia 4) [.v 20,.m 21] 22),(Op (.load (some 4)) [.m 22] 23),(Do (.store 4) [.v 4,.m 23]),(Mk kt 5)]
.ret))
(dp [13,19] .skip))))
(rg [(Mv 6 11),(Bi .add [.m 11,ki 1] 12),(Mv 12 6)])))
def fn112_s0:SSh:=⟨[(0,lS 1),(1,u8S),(4,rS 0 0),(6,iS)],[[u8S,u32S,sS,sS]]⟩
def fn112_o0:Cut Tb:=cutL tab 0 fn112_s0 (fun x=>x.1.2.2.2.1) (fun x=>fn112_l0 x.1.1 x.1.2.1) (fun _ x y k=>match y with|.inl y=>k .ret ⟨[(4,.ref 0 0),(5,.b true),(20,.sl 1 x.1.1)],[[.u8 y.Id,.u32 y.N,.s y.A,.s y.B]]⟩|.inr y=>k (.exit 0) ⟨[(4,.ref 0 0)],[[.u8 x.2.1.1,.u32 x.2.1.2.1,.s x.2.1.2.2.1,.s x.2.1.2.2.2.1]]⟩)
theorem fn112_q0:CK fn112_o0 0 (.loop fn112_p0):=cutLD2 (Z:=Int) (Y:=fn104 ⊕ Unit) fn112_r uC (fun _ x z b e=>fn112_b0 x.1.1 x.1.2.1 z (fun x5=>b x5) (fun y9=>e (.inl y9)) (e (.inr ()))) (fun x z=>⟨[(0,.sl 1 x.1.1),(1,.u8 x.1.2.1),(4,.ref 0 0),(6,.n .i64 z)],[[.u8 x.2.1.1,.u32 x.2.1.2.1,.s x.2.1.2.2.1,.s x.2.1.2.2.2.1]]⟩) (fun x y=>match y with|.inl y=>(.ret,⟨[(4,.ref 0 0),(5,.b true),(20,.sl 1 x.1.1)],[[.u8 y.Id,.u32 y.N,.s y.A,.s y.B]]⟩)|.inr y=>((.exit 0),⟨[(4,.ref 0 0)],[[.u8 x.2.1.1,.u32 x.2.1.2.1,.s x.2.1.2.2.1,.s x.2.1.2.2.2.1]]⟩)) (pyA tab 0 .ret ⟨[(4,rS 0 0),(5,.g (.f (.cb true))),(20,lS 1)],[[u8S,u32S,sS,sS]]⟩ (fun v=>.inl (tabBk 1 v.2.1:fn104)) (pyA tab 0 (.exit 0) ⟨[(4,rS 0 0)],[[u8S,u32S,sS,sS]]⟩ (fun v=>.inr ()) pyN))
def fn112_p:TCode Tb :=
(sq [(Op (.alloc [.u8 (0:UInt8),.u32 (0:UInt32),.s [],.s []]) [] 4),(Mk kf 5)]
(se (sq [(Mk (ki 0) 6)]
(.block 0 (dp [5] (.cut 0 fn112_o0 (.loop fn112_p0)))))
(sq [(Op (.build [.u8 (0:UInt8),.u32 (0:UInt32),.s [],.s []] []) [] 24),(Do (.store 4) [.v 4,.m 24]),(Mk kf 5)]
.ret)))
def fn112_w:Orc Tb:=mkOrc (Y:=fn104 × Bool) tab [lS 1,u8S] [] (fun x h=>fn112 x.1 x.2.1) (fun _ y k=>k (.tup [.agg [.u8 y.1.Id,.u32 y.1.N,.s y.1.A,.s y.1.B],.b y.2]) [])
theorem fn112_k:WK fn112_w 28:=orcD (Y:=fn104 × Bool) (c:=fn112_p) (res:=[.cell 4 (some 4),.tmp 5]) (n:=25) (R:=(RSp.one (Y:=fn104 × Bool) tab (.tup [.st 1,.f (.a .b)]) [] (fun a b=>((a.1:fn104),a.2.1)) (fun y=>((y.1:fn104),y.2,())) (fun y=>()))) fn112_r oneD Tryd.func28 (cS uC (cS (cS uC (cB (cD (cT fn112_q0)))) uC))
def fn83_r:List OP:=[]
def fn83_p4:TCode Tb :=
(cn 44 (dp [3,44] (sq [(Op (.bslice 2 2 (0:Int) [0,1]) [ki 1,ki 2] 48),(Mv 48 2)]
.ret))
(dp [44] (sq [(Bi .eql [.v 3,.k (.u8 (35:UInt8))] 50),(Mv 50 49)]
(cn 49 (dp [3,49] (sq [(Op (.bslice 2 1 (0:Int) [0]) [ki 3] 51),(Mv 51 2)]
.ret))
(dp [49] (sq [(Bi .eql [.m 3,.k (.u8 (38:UInt8))] 53),(Mv 53 52)]
(cn 52 (dp [52] (sq [(Op (.bslice 2 14 (0:Int) [0,1,2,3,4,5,6,7,8,9,10,11,12,13]) [ki 1,ki 2,ki 3,ki 4,ki 5,ki 6,ki 7,ki 8,ki 9,ki 10,ki 11,ki 14,ki 15,ki 16] 54),(Mv 54 2)]
.ret))
(dp [52] .skip))))))))
def fn83_s4:SSh:=⟨[(3,u8S),(44,bS)],[]⟩
def fn83_o4:Cut Tb:=cutJ tab 0 fn83_s4 (fun _ x k=>fn83_c4 x.1.1 x.1.2.1 (fun y12=>k .ret ⟨[(2,.ow 2 y12)],[]⟩) (k .normal ⟨[],[]⟩))
theorem fn83_q4:CK fn83_o4 0 fn83_p4:=cutJD fn83_r uC
def fn83_p3:TCode Tb :=
(cn 31 (dp [3,31] (sq [(Op (.bslice 2 1 (0:Int) [0]) [ki 1] 34),(Mv 34 2)]
.ret))
(dp [31] (sq [(Bi .eql [.v 3,.k (.u8 (24:UInt8))] 36),(Mv 36 35)]
(cn 35 (dp [3,35] (sq [(Op (.bslice 2 1 (0:Int) [0]) [ki 16] 37),(Mv 37 2)]
.ret))
(dp [35] (sq [(Bi .eql [.v 3,.k (.u8 (28:UInt8))] 39),(Mv 39 38)]
(cn 38 (dp [3,38] (sq [(Op (.bslice 2 2 (0:Int) [0,1]) [ki 2,ki 14] 40),(Mv 40 2)]
.ret))
(dp [38] (sq [(Bi .eql [.v 3,.k (.u8 (31:UInt8))] 42),(Mv 42 41)]
(cn 41 (dp [3,41] (sq [(Op (.bslice 2 9 (0:Int) [0,1,2,3,4,5,6,7,8]) [ki 2,ki 4,ki 5,ki 6,ki 7,ki 9,ki 11,ki 14,ki 15] 43),(Mv 43 2)]
.ret))
(dp [41] (se (sq [(Bi .eql [.v 3,.k (.u8 (33:UInt8))] 45),(Mv 45 44)]
(cn 44 .skip
(dp [44] (sq [(Bi .eql [.v 3,.k (.u8 (34:UInt8))] 46),(Mv 46 44)]
(cn 44 .skip
(dp [44] (rg [(Bi .eql [.v 3,.k (.u8 (39:UInt8))] 47),(Mv 47 44)])))))))
(.cut 0 fn83_o4 fn83_p4)))))))))))))
def fn83_s3:SSh:=⟨[(3,u8S),(31,bS)],[]⟩
def fn83_o3:Cut Tb:=cutJ tab 0 fn83_s3 (fun _ x k=>fn83_c3 x.1.1 x.1.2.1 (fun y16=>k .ret ⟨[(2,.ow 2 y16)],[]⟩) (k .normal ⟨[],[]⟩))
theorem fn83_q3:CK fn83_o3 0 fn83_p3:=cutJD fn83_r (cC uC (cD (cS uC (cC uC (cD (cS uC (cC uC (cD (cS uC (cC uC (cD (cS uC (cT fn83_q4)))))))))))))
def fn83_p2:TCode Tb :=
(cn 27 (dp [3,27] (sq [(Op (.bslice 2 3 (0:Int) [0,1,2]) [ki 1,ki 2,ki 15] 30),(Mv 30 2)]
.ret))
(dp [27] (se (sq [(Bi .eql [.v 3,.k (.u8 (23:UInt8))] 32),(Mv 32 31)]
(cn 31 .skip
(dp [31] (rg [(Bi .eql [.v 3,.k (.u8 (25:UInt8))] 33),(Mv 33 31)]))))
(.cut 0 fn83_o3 fn83_p3))))
def fn83_s2:SSh:=⟨[(3,u8S),(27,bS)],[]⟩
def fn83_o2:Cut Tb:=cutJ tab 0 fn83_s2 (fun _ x k=>fn83_c2 x.1.1 x.1.2.1 (fun y19=>k .ret ⟨[(2,.ow 2 y19)],[]⟩) (k .normal ⟨[],[]⟩))
theorem fn83_q2:CK fn83_o2 0 fn83_p2:=cutJD fn83_r (cC uC (cD (cS uC (cT fn83_q3))))
def fn83_p1:TCode Tb :=
(cn 17 (dp [3,17] (sq [(Op (.bslice 2 1 (0:Int) [0]) [ki 2] 26),(Mv 26 2)]
.ret))
(dp [17] (se (sq [(Bi .eql [.v 3,.k (.u8 (21:UInt8))] 28),(Mv 28 27)]
(cn 27 .skip
(dp [27] (rg [(Bi .eql [.v 3,.k (.u8 (22:UInt8))] 29),(Mv 29 27)]))))
(.cut 0 fn83_o2 fn83_p2))))
def fn83_s1:SSh:=⟨[(3,u8S),(17,bS)],[]⟩
def fn83_o1:Cut Tb:=cutJ tab 0 fn83_s1 (fun _ x k=>fn83_c1 x.1.1 x.1.2.1 (fun y22=>k .ret ⟨[(2,.ow 2 y22)],[]⟩) (k .normal ⟨[],[]⟩))
theorem fn83_q1:CK fn83_o1 0 fn83_p1:=cutJD fn83_r (cC uC (cD (cS uC (cT fn83_q2))))
def fn83_p0:TCode Tb :=
(cn 4 (dp [3,4] (sq [(Op (.bslice 2 2 (0:Int) [0,1]) [ki 3,ki 16] 10),(Mv 10 2)]
.ret))
(dp [4] (sq [(Bi .eql [.v 3,.k (.u8 (11:UInt8))] 12),(Mv 12 11)]
(cn 11 (dp [3,11] (sq [(Op (.bslice 2 2 (0:Int) [0,1]) [ki 3,ki 8] 13),(Mv 13 2)]
.ret))
(dp [11] (sq [(Bi .eql [.v 3,.k (.u8 (17:UInt8))] 15),(Mv 15 14)]
(cn 14 (dp [3,14] (sq [(Op (.bslice 2 3 (0:Int) [0,1,2]) [ki 1,ki 2,ki 14] 16),(Mv 16 2)]
.ret))
(dp [14] (se (sq [(Bi .eql [.v 3,.k (.u8 (18:UInt8))] 18),(Mv 18 17)]
(cn 17 .skip
(dp [17] (sq [(Bi .eql [.v 3,.k (.u8 (19:UInt8))] 19),(Mv 19 17)]
(cn 17 .skip
(dp [17] (sq [(Bi .eql [.v 3,.k (.u8 (26:UInt8))] 20),(Mv 20 17)]
(cn 17 .skip
(dp [17] (sq [(Bi .eql [.v 3,.k (.u8 (36:UInt8))] 21),(Mv 21 17)]
(cn 17 .skip
(dp [17] (sq [(Bi .eql [.v 3,.k (.u8 (37:UInt8))] 22),(Mv 22 17)]
(cn 17 .skip
(dp [17] (sq [(Bi .eql [.v 3,.k (.u8 (40:UInt8))] 23),(Mv 23 17)]
(cn 17 .skip
(dp [17] (sq [(Bi .eql [.v 3,.k (.u8 (41:UInt8))] 24),(Mv 24 17)]
(cn 17 .skip
(dp [17] (rg [(Bi .eql [.v 3,.k (.u8 (42:UInt8))] 25),(Mv 25 17)]))))))))))))))))))))))
(.cut 0 fn83_o1 fn83_p1))))))))))
def fn83_s0:SSh:=⟨[(3,u8S),(4,bS)],[]⟩
def fn83_o0:Cut Tb:=cutJ tab 0 fn83_s0 (fun _ x k=>fn83_c0 x.1.1 x.1.2.1 (fun y31=>k .ret ⟨[(2,.ow 2 y31)],[]⟩) (k .normal ⟨[],[]⟩))
theorem fn83_q0:CK fn83_o0 0 fn83_p0:=cutJD fn83_r (cC uC (cD (cS uC (cC uC (cD (cS uC (cC uC (cD (cS uC (cT fn83_q1))))))))))
def fn83_p:TCode Tb :=
(sq [(Op .mv [.k (.nilS)] 2)]
(se (sq [(Mv 0 3)]
(.block 0 (se (sq [(Bi .eql [.v 3,.k (.u8 (1:UInt8))] 5),(Mv 5 4)]
(cn 4 (dp [2] .skip)
(dp [2,4] (sq [(Bi .eql [.v 3,.k (.u8 (2:UInt8))] 6),(Mv 6 4)]
(cn 4 .skip
(dp [4] (sq [(Bi .eql [.v 3,.k (.u8 (3:UInt8))] 7),(Mv 7 4)]
(cn 4 .skip
(dp [4] (sq [(Bi .eql [.v 3,.k (.u8 (8:UInt8))] 8),(Mv 8 4)]
(cn 4 .skip
(dp [4] (rg [(Bi .eql [.v 3,.k (.u8 (9:UInt8))] 9),(Mv 9 4)])))))))))))))
(.cut 0 fn83_o0 fn83_p0))))
(sq [(Op .mv [.k (.nilS)] 2)]
.ret)))
def fn83_w:Orc Tb:=mkOrc (Y:=(Option (List Int))) tab [u8S] [] (fun x h=>fn83 x.1) (fun _ y k=>k (.ow 2 y) [])
theorem fn83_k:WK fn83_w 87:=orcD (Y:=(Option (List Int))) (c:=fn83_p) (res:=[.tmp 2]) (n:=55) (R:=(RO (wS 2))) fn83_r oneD Tryd.func87 (cS uC (cS (cS uC (cB (cS uC (cT fn83_q0)))) uC))
def fn114_r:List OP:=[op fn83_k]
def fn114_p0:TCode Tb :=
(se (sq [(Mw 6 9),(Mw 5 10),(Op .len [.m 10] 11),(Bi .lss [.m 9,.m 11] 12)]
(cn 12 (dp [12] .skip)
(dp [1,5,6,12] (.exit 0))))
(se (.block 1 (sq [(Mw 5 15),(Mw 6 16),(Op (.ia 1) [.v 15,.m 16] 17),(Ld 17 18),(Mw 1 19),(Bi .eql [.m 18,.m 19] 20)]
(cn 20 (dp [1,5,6,15,20] (sq [(Mk kt 4)]
.ret))
(dp [15,20] .skip))))
(rg [(Mv 6 13),(Bi .add [.m 13,ki 1] 14),(Mv 14 6)])))
def fn114_s0:SSh:=⟨[(1,iS),(5,wS 2),(6,iS)],[]⟩
def fn114_o0:Cut Tb:=cutL tab 0 fn114_s0 (fun x=>x.1.2.2.1) (fun x=>fn114_l0 x.1.1 x.1.2.1) (fun _ x y k=>match y with|.inl y=>k .ret ⟨[(4,.b true)],[]⟩|.inr y=>k (.exit 0) ⟨[],[]⟩)
theorem fn114_q0:CK fn114_o0 0 (.loop fn114_p0):=cutLD2 (Z:=Int) (Y:=Unit ⊕ Unit) fn114_r uC (fun _ x z b e=>fn114_b0 x.1.1 x.1.2.1 z (fun x6=>b x6) (e (.inl ())) (e (.inr ()))) (fun x z=>⟨[(1,.n .i64 x.1.1),(5,.ow 2 x.1.2.1),(6,.n .i64 z)],[]⟩) (fun x y=>match y with|.inl y=>(.ret,⟨[(4,.b true)],[]⟩)|.inr y=>((.exit 0),⟨[],[]⟩)) (pyA tab 0 .ret ⟨[(4,.g (.f (.cb true)))],[]⟩ (fun v=>.inl ()) (pyA tab 0 (.exit 0) ⟨[],[]⟩ (fun v=>.inr ()) pyN))
def fn114_p:TCode Tb :=
(sq [(Mk kf 4)]
(sq [(Mv 0 7),(Cl 87 0 [.m 7] 8),(Mv 8 5)]
(se (sq [(Mk (ki 0) 6)]
(.block 0 (dp [4] (.cut 0 fn114_o0 (.loop fn114_p0)))))
(sq [(Mk kf 4)]
.ret))))
def fn114_w:Orc Tb:=mkOrc (Y:=Bool) tab [u8S,iS] [] (fun x h=>fn114 x.1 x.2.1) (fun _ y k=>k (.b y) [])
theorem fn114_k:WK fn114_w 63:=orcD (Y:=Bool) (c:=fn114_p) (res:=[.tmp 4]) (n:=21) (R:=(RO (bS))) fn114_r oneD Tryd.func63 (cS uC (cS uC (cS (cS uC (cB (cD (cT fn114_q0)))) uC)))
def fn84_r:List OP:=[op fn114_k]
def fn84_p:TCode Tb :=
(sq [(Mk kf 4)]
(sq [(Mw 0 5),(Mw 1 6),(Cl 63 0 [.m 5,.m 6] 7),(Mv 7 8),(Yes .mv [.v 0] 9 8),(Yes (bi .eql) [.m 9,.k (.u8 (38:UInt8))] 10 8),(Yes .mv [.m 10] 11 8),(No .mv [.m 0] 12 11),(No (bi .eql) [.m 12,.k (.u8 (11:UInt8))] 13 11),(No .mv [.m 13] 14 11),(Yes .mv [.m 1] 15 14),(Yes (bi .eql) [.m 15,ki 3] 16 14),(No .pick [.m 14,.m 16,kf] 17 11),(Yes .pick [.m 11,kt,.m 17] 18 8),(Pf 8 18 19),(Mv 19 4)]
(dp [0,1,9,10,11,12,13,14,15,16,17] .ret)))
def fn84_w:Orc Tb:=mkOrc (Y:=Bool) tab [u8S,iS] [] (fun x h=>fn84 x.1 x.2.1) (fun _ y k=>k (.b y) [])
theorem fn84_k:WK fn84_w 51:=orcD (Y:=Bool) (c:=fn84_p) (res:=[.tmp 4]) (n:=20) (R:=(RO (bS))) fn84_r oneD Tryd.func51 uC
def fn115_r:List OP:=[]
def fn115_p:TCode Tb :=
(sq [(Op .mv [.k (.nilS)] 0)]
(sq [(Op (.b8 27 [0,1,2,3,4,5,6,7,8,9,10,11,12,13,14,15,16,17,18,19,20,21,22,23,24,25,26]) [.k (.u8 (1:UInt8)),.k (.u8 (2:UInt8)),.k (.u8 (3:UInt8)),.k (.u8 (8:UInt8)),.k (.u8 (9:UInt8)),.k (.u8 (11:UInt8)),.k (.u8 (17:UInt8)),.k (.u8 (18:UInt8)),.k (.u8 (19:UInt8)),.k (.u8 (21:UInt8)),.k (.u8 (22:UInt8)),.k (.u8 (23:UInt8)),.k (.u8 (24:UInt8)),.k (.u8 (25:UInt8)),.k (.u8 (26:UInt8)),.k (.u8 (28:UInt8)),.k (.u8 (31:UInt8)),.k (.u8 (33:UInt8)),.k (.u8 (34:UInt8)),.k (.u8 (35:UInt8)),.k (.u8 (36:UInt8)),.k (.u8 (37:UInt8)),.k (.u8 (38:UInt8)),.k (.u8 (39:UInt8)),.k (.u8 (40:UInt8)),.k (.u8 (41:UInt8)),.k (.u8 (42:UInt8))] 1),(Mv 1 0)]
.ret))
def fn115_w:Orc Tb:=mkOrc (Y:=(Option (List UInt8))) tab [] [] (fun x h=>fn115) (fun _ y k=>k (.bo y) [])
theorem fn115_k:WK fn115_w 78:=orcD (Y:=(Option (List UInt8))) (c:=fn115_p) (res:=[.tmp 0]) (n:=2) (R:=(RO (boS))) fn115_r oneD Tryd.func78 uC
def fn116_r:List OP:=[]
def fn116_p0:TCode Tb :=
(se (sq [(Mw 5 7),(Mw 0 8),(Op .lens [.m 8] 9),(Bi .lss [.m 7,.m 9] 10),(Mv 10 11),(Yes .mv [.v 5] 12 11),(Yes (bi .lss) [.m 12,ki 8] 13 11),(Pf 11 13 14)]
(dp [12] (cn 14 (dp [14] .skip)
(dp [0,3,5,14] (.exit 0)))))
(se (.block 1 (rg [(Mv 4 17),(Mw 3 18),(Mw 0 19),(Mw 5 20),(Op .sidx [.m 19,.m 20] 21),(Op (.cint .i64) [.m 21] 22),(Mw 3 23),(Op .len [.m 23] 24),(Bi .rem [.m 22,.m 24] 25),(Op (.ia 1) [.v 18,.m 25] 26),(Ld 26 27),(Bi .add [.m 17,.m 27] 28),(Mv 28 4)]))
(dp [18] (rg [(Mv 5 15),(Bi .add [.m 15,ki 1] 16),(Mv 16 5)]))))
def fn116_s0:SSh:=⟨[(0,sS),(3,wS 5),(4,sS),(5,iS)],[]⟩
def fn116_o0:Cut Tb:=cutL tab 0 fn116_s0 (fun x=>(x.1.2.2.1,x.1.2.2.2.1)) (fun x=>fn116_l0 x.1.1 x.1.2.1) (fun _ x y k=>k (.exit 0) ⟨[(4,.s y)],[]⟩)
theorem fn116_q0:CK fn116_o0 0 (.loop fn116_p0):=cutLD (Z:=(List UInt8) × Int) (Y:=(List UInt8)) fn116_r uC (fun _ x z b e=>fn116_b0 x.1.1 x.1.2.1 z.1 z.2 (fun x4 x5=>b (x4,x5)) (fun y9=>e y9)) (fun x z=>⟨[(0,.s x.1.1),(3,.ow 5 x.1.2.1),(4,.s z.1),(5,.n .i64 z.2)],[]⟩) (fun x y=>((.exit 0),⟨[(4,.s y)],[]⟩)) (pyA tab 0 (.exit 0) ⟨[(4,sS)],[]⟩ (fun v=>v.1.1) pyN)
def fn116_p:TCode Tb :=
(sq [(Op .mv [.k (.s [])] 2)]
(sq [(Op (.bslice 5 8 ([]:List UInt8) [0,1,2,3,4,5,6,7]) [.k (.s [97]),.k (.s [98]),.k (.s [97,98]),.k (.s [195,164]),.k (.s [226,130,172]),.k (.s [240,159,153,130]),.k (.s [49]),.k (.s [99])] 6),(Mv 6 3)]
(sq [(Op .mv [.k (.s [])] 4)]
(se (sq [(Mk (ki 0) 5)]
(.block 0 (dp [2] (.cut 0 fn116_o0 (.loop fn116_p0)))))
(sq [(Mv 4 29),(Mv 29 2)]
.ret)))))
def fn116_w:Orc Tb:=mkOrc (Y:=(List UInt8)) tab [sS] [] (fun x h=>fn116 x.1) (fun _ y k=>k (.s y) [])
theorem fn116_k:WK fn116_w 52:=orcD (Y:=(List UInt8)) (c:=fn116_p) (res:=[.tmp 2]) (n:=30) (R:=(RO (sS))) fn116_r oneD Tryd.func52 (cS uC (cS uC (cS uC (cS (cS uC (cB (cD (cT fn116_q0)))) uC))))
def fn117_r:List OP:=[]
def fn117_p0:TCode Tb :=
(se (sq [(Mw 5 7),(Mw 0 8),(Op .lens [.m 8] 9),(Bi .lss [.m 7,.m 9] 10),(Mv 10 11),(Yes .mv [.v 5] 12 11),(Yes (bi .lss) [.m 12,ki 8] 13 11),(Pf 11 13 14)]
(dp [12] (cn 14 (dp [14] .skip)
(dp [0,3,5,14] (.exit 0)))))
(se (.block 1 (rg [(Mv 4 17),(Mw 3 18),(Mw 0 19),(Mw 5 20),(Op .sidx [.m 19,.m 20] 21),(Op (.cint .i64) [.m 21] 22),(Mw 3 23),(Op .len [.m 23] 24),(Bi .rem [.m 22,.m 24] 25),(Op (.ia 1) [.v 18,.m 25] 26),(Ld 26 27),(Bi .add [.m 17,.m 27] 28),(Mv 28 4)]))
(dp [18] (rg [(Mv 5 15),(Bi .add [.m 15,ki 1] 16),(Mv 16 5)]))))
def fn117_s0:SSh:=⟨[(0,sS),(3,wS 5),(4,sS),(5,iS)],[]⟩
def fn117_o0:Cut Tb:=cutL tab 0 fn117_s0 (fun x=>(x.1.2.2.1,x.1.2.2.2.1)) (fun x=>fn117_l0 x.1.1 x.1.2.1) (fun _ x y k=>k (.exit 0) ⟨[(4,.s y)],[]⟩)
theorem fn117_q0:CK fn117_o0 0 (.loop fn117_p0):=cutLD (Z:=(List UInt8) × Int) (Y:=(List UInt8)) fn117_r uC (fun _ x z b e=>fn117_b0 x.1.1 x.1.2.1 z.1 z.2 (fun x4 x5=>b (x4,x5)) (fun y9=>e y9)) (fun x z=>⟨[(0,.s x.1.1),(3,.ow 5 x.1.2.1),(4,.s z.1),(5,.n .i64 z.2)],[]⟩) (fun x y=>((.exit 0),⟨[(4,.s y)],[]⟩)) (pyA tab 0 (.exit 0) ⟨[(4,sS)],[]⟩ (fun v=>v.1.1) pyN)
def fn117_p:TCode Tb :=
(sq [(Op .mv [.k (.s [])] 2)]
(sq [(Op (.bslice 5 8 ([]:List UInt8) [0,1,2,3,4,5,6,7]) [.k (.s [97]),.k (.s [98]),.k (.s [47]),.k (.s [99]),.k (.s [100]),.k (.s [47]),.k (.s [195,164]),.k (.s [101])] 6),(Mv 6 3)]
(sq [(Op .mv [.k (.s [])] 4)]
(se (sq [(Mk (ki 0) 5)]
(.block 0 (dp [2] (.cut 0 fn117_o0 (.loop fn117_p0)))))
(se (sq [(Mw 4 29),(Op (.bin .eql .s) [.m 29,.k (.s [])] 30)]
(cn 30 (dp [4,30] (sq [(Op .mv [.k (.s [97])] 2)]
.ret))
(dp [30] .skip)))
(sq [(Mv 4 31),(Mv 31 2)]
.ret))))))
def fn117_w:Orc Tb:=mkOrc (Y:=(List UInt8)) tab [sS] [] (fun x h=>fn117 x.1) (fun _ y k=>k (.s y) [])
theorem fn117_k:WK fn117_w 79:=orcD (Y:=(List UInt8)) (c:=fn117_p) (res:=[.tmp 2]) (n:=32) (R:=(RO (sS))) fn117_r oneD Tryd.func79 (cS uC (cS uC (cS uC (cS (cS uC (cB (cD (cT fn117_q0)))) uC))))
def fn118_r:List OP:=[op fn115_k,op fn114_k,op fn92_k,op fn116_k,op fn117_k]
def fn118_p0:TCode Tb :=
(se (sq [(Mw 7 10),(Mw 6 11),(Op .len [.m 11] 12),(Bi .lss [.m 10,.m 12] 13)]
(cn 13 (dp [13] .skip)
(dp [1,6,7,13] (.exit 0))))
(se (.block 1 (sq [(Mw 6 16),(Mw 7 17),(Op (.ia 1) [.v 16,.m 17] 18),(Ld 18 19),(Mw 1 20),(Cl 63 1 [.m 19,.m 20] 21)]
(cn 21 (dp [16,21] (rg [(Mv 5 22),(Mw 6 23),(Mw 7 24),(Op (.ia 1) [.v 23,.m 24] 25),(Ld 25 26),(Op (.b8 1 [0]) [.m 26] 27),(Op (.app 1 1) [.m 22,.m 27] 28),(Mv 28 5)]))
(dp [16,21] .skip))))
(dp [23] (rg [(Mv 7 14),(Bi .add [.m 14,ki 1] 15),(Mv 15 7)]))))
def fn118_s0:SSh:=⟨[(1,iS),(2,rS 0 0),(4,rS 1 0),(5,boS),(6,boS),(7,iS)],[[u8S,u32S,sS,sS],[u8S,u32S,sS,sS]]⟩
def fn118_o0:Cut Tb:=cutL tab 0 fn118_s0 (fun x=>(x.1.2.2.2.1,x.1.2.2.2.2.2.1)) (fun x=>fn118_l0 x.1.1 x.1.2.2.2.2.1) (fun _ x y k=>k (.exit 0) ⟨[(2,.ref 0 0),(4,.ref 1 0),(5,.bo y)],[[.u8 x.2.1.1,.u32 x.2.1.2.1,.s x.2.1.2.2.1,.s x.2.1.2.2.2.1],[.u8 x.2.2.1.1,.u32 x.2.2.1.2.1,.s x.2.2.1.2.2.1,.s x.2.2.1.2.2.2.1]]⟩)
theorem fn118_q0:CK fn118_o0 0 (.loop fn118_p0):=cutLD (Z:=(Option (List UInt8)) × Int) (Y:=(Option (List UInt8))) fn118_r uC (fun _ x z b e=>fn118_b0 x.1.1 x.1.2.2.2.2.1 z.1 z.2 (fun x5 x7=>b (x5,x7)) (fun y14=>e y14)) (fun x z=>⟨[(1,.n .i64 x.1.1),(2,.ref 0 0),(4,.ref 1 0),(5,.bo z.1),(6,.bo x.1.2.2.2.2.1),(7,.n .i64 z.2)],[[.u8 x.2.1.1,.u32 x.2.1.2.1,.s x.2.1.2.2.1,.s x.2.1.2.2.2.1],[.u8 x.2.2.1.1,.u32 x.2.2.1.2.1,.s x.2.2.1.2.2.1,.s x.2.2.1.2.2.2.1]]⟩) (fun x y=>((.exit 0),⟨[(2,.ref 0 0),(4,.ref 1 0),(5,.bo y)],[[.u8 x.2.1.1,.u32 x.2.1.2.1,.s x.2.1.2.2.1,.s x.2.1.2.2.2.1],[.u8 x.2.2.1.1,.u32 x.2.2.1.2.1,.s x.2.2.1.2.2.1,.s x.2.2.1.2.2.2.1]]⟩)) (pyA tab 0 (.exit 0) ⟨[(2,rS 0 0),(4,rS 1 0),(5,boS)],[[u8S,u32S,sS,sS],[u8S,u32S,sS,sS]]⟩ (fun v=>v.1.2.2.1) pyN)
def fn118_p:TCode Tb :=
(sq [(Op .box [.m 0] 2),(Op (.alloc [.u8 (0:UInt8),.u32 (0:UInt32),.s [],.s []]) [] 4)]
(sq [(Op .mv [.k (.nilS)] 5)]
(sq [(Cl 78 0 [] 9),(Mv 9 6)]
(se (sq [(Mk (ki 0) 7)]
(.block 0 (.cut 0 fn118_o0 (.loop fn118_p0))))
(se (sq [(Mw 5 29),(Op .len [.m 29] 30),(Bi .eql [.m 30,ki 0] 31)]
(cn 31 (dp [2,5,31] (sq [(Op (.build [.u8 (0:UInt8),.u32 (0:UInt32),.s [],.s []] []) [] 32),(Do (.store 4) [.v 4,.m 32])]
.ret))
(dp [31] .skip)))
(sq [(Mw 5 33),(Fav 0 2 34),(Ld 34 35),(Op (.cint .i64) [.m 35] 36),(Mv 5 37),(Op .len [.m 37] 38),(Bi .rem [.m 36,.m 38] 39),(Op (.ia 1) [.v 33,.m 39] 40),(Ld 40 41),(Op (.build [.u8 (0:UInt8),.u32 (0:UInt32),.s [],.s []] [(0,1)]) [.m 41] 42),(Op (.alloc [.u8 (0:UInt8),.u32 (0:UInt32),.s [],.s []]) [] 8),(Do (.store 4) [.v 8,.m 42])]
(se (sq [(Fav 0 8 43),(Ld 43 44),(Cl 67 2 [.m 44] 45)]
(.block 2 (sq [(Bi .eql [.v 45,ki 1] 47),(Mv 47 46)]
(cn 46 (dp [33,45,46] (rg [(Fam 1 2 48),(Ld 48 49),(Bi .rem [.m 49,.k (.u32 (2:UInt32))] 50),(Fav 1 8 51),(Do (.store 1) [.m 51,.m 50])]))
(dp [33,46] (sq [(Bi .eql [.v 45,ki 2] 53),(Mv 53 52)]
(cn 52 (dp [45,52] (rg [(Fam 1 2 54),(Ld 54 55),(Bi .rem [.m 55,.k (.u32 (65535:UInt32))] 56),(Bi .add [.k (.u32 (1:UInt32)),.m 56] 57),(Fav 1 8 58),(Do (.store 1) [.m 58,.m 57])]))
(dp [52] (sq [(Bi .eql [.v 45,ki 3] 60),(Mv 60 59)]
(cn 59 (dp [45,59] (sq [(Fam 1 2 61),(Ld 61 62),(Fav 1 8 63),(Do (.store 1) [.m 63,.m 62])]
(sq [(Fav 0 8 64),(Ld 64 65),(Bi .eql [.m 65,.k (.u8 (39:UInt8))] 66),(Mv 66 67),(Yes (.fa 1) [.v 8] 68 67),(Yes ld [.m 68] 69 67),(Yes (bi .eql) [.m 69,.k (.u32 (0:UInt32))] 70 67),(Pf 67 70 71)]
(dp [68,69] (cn 71 (dp [71] (rg [(Fav 1 8 72),(Do (.store 1) [.m 72,.k (.u32 (7:UInt32))])]))
(dp [71] .skip))))))
(dp [59] (sq [(Bi .eql [.v 45,ki 4] 74),(Mv 74 73)]
(cn 73 (dp [45,73] (rg [(Fam 1 2 75),(Ld 75 76),(Bi .rem [.m 76,.k (.u32 (268435455:UInt32))] 77),(Bi .add [.k (.u32 (1:UInt32)),.m 77] 78),(Fav 1 8 79),(Do (.store 1) [.m 79,.m 78])]))
(dp [73] (sq [(Bi .eql [.v 45,ki 5] 81),(Mv 81 80)]
(cn 80 (dp [45,80] (sq [(Fav 2 2 82),(Ld 82 83),(Cl 52 3 [.m 83] 84),(Fav 2 8 85),(Do (.store 1) [.m 85,.m 84])]
(sq [(Fav 0 8 86),(Ld 86 87),(Bi .eql [.m 87,.k (.u8 (8:UInt8))] 88)]
(cn 88 (dp [88] (rg [(Fam 2 2 89),(Ld 89 90),(Cl 79 4 [.m 90] 91),(Fav 2 8 92),(Do (.store 1) [.m 92,.m 91])]))
(dp [2,88] .skip)))))
(dp [80] (sq [(Bi .eql [.v 45,ki 6] 94),(Mv 94 93)]
(cn 93 (dp [45,93] (rg [(Fav 2 2 95),(Ld 95 96),(Fam 2 2 97),(Ld 97 98),(Op .lens [.m 98] 99),(Op .min [.m 99,ki 9] 100),(Op (.sstr false true) [.m 96,.m 100] 101),(Fav 2 8 102),(Do (.store 1) [.m 102,.m 101])]))
(dp [93] (sq [(Bi .eql [.m 45,ki 7] 104),(Mv 104 103)]
(cn 103 (dp [103] (.reg [(Fav 2 2 105),(Ld 105 106),(Cl 52 3 [.m 106] 107),(Fav 3 2 108),(Ld 108 109),(Cl 52 3 [.m 109] 110),(Fav 2 8 111),(Do (.store 1) [.m 111,.m 107]),(Fav 3 8 112),(Do (.store 1) [.m 112,.m 110])] (some [[],[],[],[],[1,2],[],[],[],[],[]])))
(dp [2,103] .skip)))))))))))))))))))))))
(dp [2] (sq [(Op (.load (some 4)) [.m 8] 113),(Do (.store 4) [.v 4,.m 113])]
.ret)))))))))
def fn118_w:Orc Tb:=mkOrc (Y:=fn104) tab [.g (.st 1),iS] [] (fun x h=>fn118 (x.1:fn104) x.2.1) (fun _ y k=>k (.agg [.u8 y.Id,.u32 y.N,.s y.A,.s y.B]) [])
theorem fn118_k:WK fn118_w 50:=orcD (Y:=fn104) (c:=fn118_p) (res:=[.cell 4 (some 4)]) (n:=114) (R:=(RO (.g (.st 1)))) fn118_r oneD Tryd.func50 (cS uC (cS uC (cS uC (cS (cS uC (cB (cT fn118_q0))) uC))))
def fn119_r:List OP:=[op fn118_k,op fn112_k,op fn84_k,op fn116_k,op fn96_k]
def fn119_s1:SSh:=⟨[(0,lS 1),(1,iS),(5,wS 1),(6,iS)],[]⟩
def fn119_o1:Cut Tb:=cutJ tab 0 fn119_s1 (fun _ x k=>k .normal ⟨[(0,.sl 1 x.1.1),(1,.n .i64 x.1.2.1),(5,.ow 1 x.1.2.2.1),(6,.n .i64 x.1.2.2.2.1)],[]⟩)
theorem fn119_q1:CK fn119_o1 0 .skip:=yv817 (c:=.skip) tabOk (orK fn119_r) trivial (fun _ _=>by kernel_rfl)
def fn119_p0:TCode Tb :=
(.fin 0 fn119_o1 (se (sq [(Mw 6 14),(Mw 0 15),(Op .len [.m 15] 16),(Bi .lss [.m 14,.m 16] 17),(Mv 17 18),(Yes .mv [.v 6] 19 18),(Yes (bi .lss) [.m 19,ki 8] 20 18),(Pf 18 20 21)]
(dp [19] (cn 21 (dp [21] .skip)
(dp [0,1,6,21] (.exit 0)))))
(se (.block 1 (sq [(Mw 0 24),(Mw 6 25),(Op (.ia 4) [.v 24,.m 25] 26),(Op (.load (some 4)) [.m 26] 27),(Mw 1 28),(Cl 50 0 [.m 27,.m 28] 29),(Op (.alloc [.u8 (0:UInt8),.u32 (0:UInt32),.s [],.s []]) [] 7),(Do (.store 4) [.v 7,.m 29])]
(se (sq [(Fav 0 7 30),(Ld 30 31),(Bi .eql [.m 31,.k (.u8 (0:UInt8))] 32)]
(cn 32 (dp [0,1,5,6,7,24,32] (sq [(Op .mv [.k (.nilS)] 4)]
.ret))
(dp [24,32] .skip)))
(se (sq [(Mw 5 34),(Fav 0 7 35),(Ld 35 36),(Cl 28 1 [.m 34,.m 36] 37),(Mv 37 33),(Op .extm [.c 33 0] 38),(Op (.ext 1) [.m 33] 39),(Op (.alloc [.u8 (0:UInt8),.u32 (0:UInt32),.s [],.s []]) [] 8),(Do (.store 4) [.m 8,.m 38]),(Mv 39 9)]
(sq [(Mv 9 40),(Mv 40 41),(Yes (.fa 0) [.v 7] 42 41),(Yes ld [.m 42] 43 41),(Yes .mv [.v 1] 44 41),(Yes (.call (some 51) 2) [.m 43,.m 44] 45 41),(Yes (.un .not) [.m 45] 46 41),(Pf 41 46 47)]
(dp [42,43,44,45] (cn 47 (dp [7,47] (.exit 1))
(dp [47] .skip)))))
(rg [(Mv 5 48),(Op (.load (some 4)) [.m 7] 49),⟨(.bslice 1 1 ((⟨(0:UInt8),(0:UInt32),[],[]⟩:fn104):fn104) [0]),[.m 49],some 50,none⟩,(Op (.app 4 40) [.m 48,.m 50] 51),(Mv 51 5)])))))
(rg [(Mv 6 22),(Bi .add [.m 22,ki 1] 23),(Mv 23 6)]))))
def fn119_s0:SSh:=⟨[(0,lS 1),(1,iS),(5,wS 1),(6,iS)],[]⟩
def fn119_o0:Cut Tb:=cutL tab 0 fn119_s0 (fun x=>(x.1.2.2.1,x.1.2.2.2.1)) (fun x=>fn119_l0 x.1.1 x.1.2.1) (fun _ x y k=>match y with|.inl y=>k .ret ⟨[(4,.nilS)],[[.u8 y.Id,.u32 y.N,.s y.A,.s y.B]]⟩|.inr y=>k (.exit 0) ⟨[(5,.ow 1 y)],[]⟩)
theorem fn119_q0:CK fn119_o0 0 (.loop fn119_p0):=cutLD2 (Z:=(Option (List fn104)) × Int) (Y:=fn104 ⊕ ((Option (List fn104)))) fn119_r (cF fn119_q1 uC) (fun _ x z b e=>fn119_b0 x.1.1 x.1.2.1 z.1 z.2 (fun x5 x6=>b (x5,x6)) (fun y18=>e (.inl y18)) (fun y19=>e (.inr y19))) (fun x z=>⟨[(0,.sl 1 x.1.1),(1,.n .i64 x.1.2.1),(5,.ow 1 z.1),(6,.n .i64 z.2)],[]⟩) (fun x y=>match y with|.inl y=>(.ret,⟨[(4,.nilS)],[[.u8 y.Id,.u32 y.N,.s y.A,.s y.B]]⟩)|.inr y=>((.exit 0),⟨[(5,.ow 1 y)],[]⟩)) (pyA tab 0 .ret ⟨[(4,lS 1)],[[u8S,u32S,sS,sS]]⟩ (fun v=>.inl (tabBk 1 v.2.1:fn104)) (pyA tab 0 (.exit 0) ⟨[(5,wS 1)],[]⟩ (fun v=>.inr v.1.1) pyN))
def fn119_p2:TCode Tb :=
(sq [(Mv 5 70),(Cl 20 4 [.m 70] 71),(Mv 71 4)]
.ret)
def fn119_s2:SSh:=⟨[(5,wS 1)],[]⟩
def fn119_o2:Cut Tb:=cutJ tab 0 fn119_s2 (fun _ x k=>fn119_c2 x.1.1 (fun y30=>k .ret ⟨[(4,.ow 1 y30)],[]⟩))
theorem fn119_q2:CK fn119_o2 0 fn119_p2:=cutJD fn119_r uC
def fn119_p:TCode Tb :=
(sq [(Op .mv [.k (.nilS)] 4)]
(sq [(Op .mv [.k (.nilS)] 5)]
(se (sq [(Mk (ki 0) 6)]
(.block 0 (dp [4] (.cut 0 fn119_o0 (.loop fn119_p0)))))
(se (sq [(Mw 5 53),(Cl 28 1 [.m 53,.k (.u8 (22:UInt8))] 54),(Mv 54 52),(Op .extm [.c 52 0] 55),(Op (.ext 1) [.m 52] 56),(Op (.alloc [.u8 (0:UInt8),.u32 (0:UInt32),.s [],.s []]) [] 10),(Do (.store 4) [.m 10,.m 55]),(Mv 56 11)]
(sq [(Mv 11 57)]
(cn 57 (dp [57] (sq [(Mw 5 59),(Cl 28 1 [.m 59,.k (.u8 (21:UInt8))] 60),(Mv 60 58),(Op .extm [.c 58 0] 61),(Op (.ext 1) [.m 58] 62),(Op (.alloc [.u8 (0:UInt8),.u32 (0:UInt32),.s [],.s []]) [] 12),(Do (.store 4) [.m 12,.m 61]),(Mv 62 13)]
(sq [(Mv 13 63),(Op (.un .not) [.m 63] 64)]
(cn 64 (dp [64] (rg [(Mv 5 65),(Op (.call (some 52) 3) [.k (.s [109])] 66),(Op (.build [.u8 (0:UInt8),.u32 (0:UInt32),.s [],.s []] [(0,1),(2,1)]) [.k (.u8 (21:UInt8)),.m 66] 67),⟨(.bslice 1 1 ((⟨(0:UInt8),(0:UInt32),[],[]⟩:fn104):fn104) [0]),[.m 67],some 68,none⟩,(Op (.app 4 40) [.m 65,.m 68] 69),(Mv 69 5)]))
(dp [64] .skip)))))
(dp [57] .skip))))
(.cut 0 fn119_o2 fn119_p2)))))
def fn119_w:Orc Tb:=mkOrc (Y:=(Option (List fn104))) tab [lS 1,iS] [] (fun x h=>fn119 x.1 x.2.1) (fun _ y k=>k (.ow 1 y) [])
theorem fn119_k:WK fn119_w 26:=orcD (Y:=(Option (List fn104))) (c:=fn119_p) (res:=[.tmp 4]) (n:=72) (R:=(RO (wS 1))) fn119_r oneD Tryd.func26 (cS uC (cS uC (cS (cS uC (cB (cD (cT fn119_q0)))) (cS uC (cT fn119_q2)))))
def fn47_r:List OP:=[op fn119_k,op fn91_k,op l06_To_k,op fn76_k,op fn97_k,op fn77_k,op fn62_k,op fn95_k,op fn96_k]
def fn47_p0:TCode Tb :=
(se (sq [(Mw 13 53),(Mw 2 54),(Op .len [.m 54] 55),(Bi .lss [.m 53,.m 55] 56),(Mv 56 57),(Yes .mv [.v 13] 58 57),(Yes (bi .lss) [.m 58,ki 10] 59 57),(Pf 57 59 60),(Mv 60 61),(Yes .mv [.v 12] 62 61),(Yes .len [.m 62] 63 61),(Yes (bi .gtr) [.m 63,ki 0] 64 61),(Pf 61 64 65)]
(dp [58,62,63] (cn 65 (dp [65] .skip)
(dp [2,13,65] (.exit 0)))))
(se (.block 1 (se (.reg [(Mw 13 68),(Mw 12 69),(Op .len [.m 69] 70),(Bi .rem [.m 68,.m 70] 71),(Mw 2 72),(Mw 13 73),(Op (.ia 1) [.v 72,.m 73] 74),(Ld 74 75),(Op (.cint .u64) [.m 75] 76),(Mw 12 77),(Op .len [.m 77] 78),(Op (.cint .u64) [.m 78] 79),(Bi .rem [.m 76,.m 79] 80),(Op (.cint .i64) [.m 80] 81),(Mv 71 14),(Mv 81 15)] (some [[],[],[],[],[],[],[],[],[],[],[],[],[],[],[],[]]))
(se (.reg [(Mw 12 82),(Mw 14 83),(Op (.ia 4) [.v 82,.m 83] 84),(Fam 0 84 85),(Ld 85 86),(Mw 12 87),(Mw 15 88),(Op (.ia 4) [.v 87,.m 88] 89),(Fam 0 89 90),(Ld 90 91),(Bi .neq [.m 86,.m 91] 92)] (some [[],[],[],[],[],[],[],[],[],[4],[]]))
(cn 92 (dp [72,82,87,92] (.reg [(Mw 12 93),(Mw 14 94),(Mw 12 95),(Mw 15 96),(Mw 12 97),(Mw 15 98),(Op (.ia 4) [.v 97,.m 98] 99),(Op (.load (some 4)) [.m 99] 100),(Mw 12 101),(Mw 14 102),(Op (.ia 4) [.v 101,.m 102] 103),(Op (.load (some 4)) [.m 103] 104),(Op (.ia 4) [.v 93,.m 94] 105),(Do (.store 4) [.m 105,.m 100]),(Op (.ia 4) [.v 95,.m 96] 106),(Do (.store 4) [.m 106,.m 104])] (some [[],[],[],[],[],[],[],[],[],[],[],[7],[],[],[],[]])))
(dp [14,15,72,82,87,92] .skip)))))
(dp [14,15,93,95,97,101] (rg [(Mv 13 66),(Bi .add [.m 66,ki 1] 67),(Mv 67 13)]))))
def fn47_s0:SSh:=⟨[(2,lS 2),(10,wS 1),(12,.g (.f (.vw 1 1))),(13,iS)],[[],[.g (.f (.blk 1))]]⟩
def fn47_o0:Cut Tb:=cutL tab 0 fn47_s0 (fun x=>(x.1.2.2.2.1,x.2.2.1.1)) (fun x=>fn47_l0 x.1.1 x.1.2.2.1) (fun _ x y k=>k (.exit 0) ⟨[(10,.ow 1 x.1.2.1),(12,.vw 1 1 x.1.2.2.1)],[[],[.blk 1 y]]⟩)
theorem fn47_q0:CK fn47_o0 0 (.loop fn47_p0):=cutLD (Z:=Int × (List fn104)) (Y:=(List fn104)) fn47_r uC (fun _ x z b e=>fn47_b0 x.1.1 x.1.2.2.1 z.1 z.2 (fun x15 x16=>b (x15,x16)) (fun y26=>e y26)) (fun x z=>⟨[(2,.sl 2 x.1.1),(10,.ow 1 x.1.2.1),(12,.vw 1 1 x.1.2.2.1),(13,.n .i64 z.1)],[[],[.blk 1 z.2]]⟩) (fun x y=>((.exit 0),⟨[(10,.ow 1 x.1.2.1),(12,.vw 1 1 x.1.2.2.1)],[[],[.blk 1 y]]⟩)) (pyA tab 0 (.exit 0) ⟨[(10,wS 1),(12,.g (.f (.vw 1 1)))],[[],[.g (.f (.blk 1))]]⟩ (fun v=>v.2.2.1.1) pyN)
def fn47_p:TCode Tb :=
(sq [(Op .box [.m 1] 4),(Mk kf 6)]
(se (.reg [(Op (.iarr 2 1) [.v 4,ki 0] 18),(Ld 18 19),(Op (.iarr 2 1) [.v 4,ki 1] 20),(Ld 20 21),(Mv 19 7),(Mv 21 8)] (some [[],[],[],[1],[],[]]))
(sq [(Mv 0 22),(Op (.cint .u64) [.m 22] 23),(Bi .rem [.m 23,.k (.u64 (16:UInt64))] 24),(Op (.cint .i64) [.m 24] 25),(Bi .add [ki 1,.m 25] 26),(Mv 26 9)]
(sq [(Mv 7 27),(Mw 9 28),(Cl 26 0 [.m 27,.m 28] 29),(Mv 8 30),(Mv 9 31),(Cl 26 0 [.m 30,.m 31] 32),(Mv 29 10),(Mv 32 11)]
(se (se (.reg [(Cl 10 1 [] 33),(Op (.un .not) [.m 33] 34),(Mv 34 35),(No .mv [.v 10] 36 35),(No (.call (some 12) 2) [.m 36] 37 35),(No (.call (some 11) 3) [.k (.nilS),.m 37] 38 35),(No .b2s [.m 38] 39 35),(No .mv [.v 11] 40 35),(No (.call (some 12) 2) [.m 40] 41 35),(No (.call (some 11) 3) [.k (.nilS),.m 41] 42 35),(No .b2s [.m 42] 43 35),(No (.bin .eql .s) [.m 39,.m 43] 44 35),(No .mv [.v 10] 45 35),(No .mv [.v 11] 46 35),(No (.call (some 18) 4) [.m 45,.m 46] 47 35),(No (.bin .neq .b) [.m 44,.m 47] 48 35),(Pt 35 48 49)] (some [[],[],[],[],[],[],[],[],[],[],[],[],[],[],[],[],[]]))
(dp [4,6,11,36,37,38,39,40,41,42,43,44,45,46,47] (cn 49 (dp [2,10,49] (sq [(Mk kf 6)]
.ret))
(dp [49] .skip))))
(sq [⟨(.bslice 1 0 ((⟨(0:UInt8),(0:UInt32),[],[]⟩:fn104):fn104) []),[],some 50,none⟩,(Mw 10 51),(Op (.appv 1 40) [.m 50,.m 51] 52),(Mv 52 12)]
(se (sq [(Mk (ki 0) 13)]
(.block 0 (.cut 0 fn47_o0 (.loop fn47_p0))))
(se (.frz [12] none (rg [(Mw 12 108),(Cl 12 2 [.m 108] 109),(Cl 11 3 [.k (.nilS),.m 109] 110),(Cl 15 5 [.m 110] 111),(Cl 17 6 [.m 111] 112),(Mv 112 107),(Op .extm [.c 107 0] 113),(Op (.ext 1) [.m 107] 114),(Mv 113 16),(Mv 114 17)]))
(sq [(Mv 17 115),(Mv 115 116),(Yes .mv [.v 16] 117 116),(Yes (.call (some 19) 7) [.m 117] 118 116),(Yes .mv [.m 12] 119 116),(Yes (.call (some 20) 8) [.m 119] 120 116),(Yes (.call (some 18) 4) [.m 118,.m 120] 121 116),(Pf 116 121 122),(Mv 122 123),(Yes .mv [.m 16] 124 123),(Yes .len [.m 124] 125 123),(Yes .mv [.m 10] 126 123),(Yes .len [.m 126] 127 123),(Yes (bi .eql) [.m 125,.m 127] 128 123),(Pf 123 128 129),(Mv 129 6)]
(dp [10,12,16,117,118,119,120,124,125,126,127] .ret))))))))))
def fn47_w:Orc Tb:=mkOrc (Y:=Bool) tab [iS,.g (.st 6),lS 2] [] (fun x h=>fn47 x.1 (⟨x.2.1.x0,x.2.1.x1⟩:fn42) x.2.2.1) (fun _ y k=>k (.b y) [])
theorem fn47_k:WK fn47_w 6:=orcD (Y:=Bool) (c:=fn47_p) (res:=[.tmp 6]) (n:=130) (R:=(RO (bS))) fn47_r oneD Tryd.func6 (cS uC (cS uC (cS uC (cS uC (cS uC (cS uC (cS (cS uC (cB (cT fn47_q0))) uC)))))))
end Go.Rv
