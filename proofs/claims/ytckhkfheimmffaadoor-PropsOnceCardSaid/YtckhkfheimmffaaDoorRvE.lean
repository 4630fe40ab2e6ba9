/- A typed interpreter of the program's code, and that it is sound; part 5. -/
import Derived.Test.YtckhkfheimmffaaDoorRvD
import Derived.Shelf.Utf8.RuneCount
import Derived.Shelf.Strings.Search3
import Derived.Shelf.Unicode.ValidAny
import Derived.Lib.LaidIn
import Derived.Lib.LaidU8
import Derived.Deep.DeepHandedRow
import Derived.Deep.DeepWitnessRowRef
import Derived.SevenTiedAt
import Derived.Shelf.Strings.IndexAnyAll
import Derived.Shelf.Small.Utf8
import Derived.Lib.OthersKept
import Derived.Laws.RangeAny
import Derived.Laws.Runes
import Derived.Scope
import Derived.Shelf.RegionOpenPlain
import Derived.Shelf.Strings.Cut
import Derived.Shelf.Strings.Split
import Derived.Lib.SplitLaws
set_option linter.unusedSimpArgs false
set_option linter.unusedVariables false
set_option maxRecDepth 100000
namespace Go.Rv
open Go.RowKit
variable {P:Program} {W:World->Prop}
theorem yv327 {base:Nat} {g:Gh} {w w':World} (b:Below w.heap.size w w'):Ext base g w g w' :=
 ⟨b.size,fun _=>Nat.le_refl _,fun k o hk _=>World.cell?_of_block (w:=w) (b.block k hk),yv132 b.block⟩
theorem yv575 {W0:World} {g:Gh} {w w':World} (h:Inv W0 g w) (b:Below w.heap.size w w'):Inv W0 g w' :=
 ⟨h.below.trans (b.mono h.below.size),h.old,fun k hk=>h.new k (Nat.le_trans b.size hk)⟩
theorem yv467 {W0:World} {base:Nat} {g:Gh} {w w':World} (h:Inv W0 g w) (b:Below w.heap.size w w') (l:Loc):Keep base g w g w' l l:=by
 refine ⟨fun k hk=>⟨?_,rfl,hk⟩⟩
 by_cases hlt:k < w.heap.size
 ·exact b.block k hlt
 ·rw [(h.new k (by omega)).1] at hk;cases hk
theorem yv466 {W0:World} {base:Nat} {φ:Nat->Nat} {g:Gh} {w w':World} {H:Heap} (h:Inv W0 g w) (b:Below w.heap.size w w') (r:RepH base φ g w H):RepH base φ g w' H:=by
 intro id hid
 refine ⟨?_⟩
 rcases (r id hid).rep with e|⟨cur,e,h1,h2,h3,h4,h5,h6⟩
 ·exact .inl e
 ·refine .inr ⟨cur,e,?_,h2,h3,h4,h5,fun j a v p q=>⟨(h6 j a v p q).1.keep (yv327 b) (Nat.le_refl _) (fun _ _=>rfl) (yv467 h b _),(h6 j a v p q).2⟩⟩
  have hlt:φ id < w.heap.size:=(Array.getElem?_eq_some_iff.1 h1).1
  rw [b.block _ hlt];exact h1
theorem yv672 {W0:World} {n:Nat} {φ:Nat->Nat} {g:Gh} {w w':World} (b:Below w.heap.size w w'):Tr W0 n φ g w n φ g w' :=
 ⟨yv327 b,fun k hk hn=>⟨b.block k hk,rfl,hn⟩,Nat.le_refl _,fun _ _=>rfl⟩
theorem yv62 {f:FuncId} {vs:List Value} {H:Heap} {v:Value} (hv:v.oneCell'=true)
 (hc:∀ (W0 w:World),W W0->Below W0.heap.size W0 w->Calls P f vs.toArray w fun e w'=>e=.returned v∧Below w.heap.size w w') :
 Good P W f (vs.map fun v=>AV.pv (.lit v)) H (.pv (.lit v)) H:=by
 intro W0 hW φ g w us hi hh hl ha
 have hus:us=vs:=by
  refine List.ext_getElem? fun i=>?_
  by_cases hlt:i < vs.length
  ·have h1:(vs.map fun v=>AV.pv (.lit v))[i]?=some (.pv (.lit vs[i])):=by simp [hlt]
   have hlt2:i < us.length:=by rw [hl];simpa using hlt
   have:=(ha i _ us[i] h1 (List.getElem?_eq_getElem hlt2)).of_lit
   rw [List.getElem?_eq_getElem hlt2,List.getElem?_eq_getElem hlt,this.1]
  ·rw [List.getElem?_eq_none (by rw [hl];simpa using hlt),List.getElem?_eq_none (by omega)]
 subst hus
 refine (hc W0 w hW hi.below).mono ?_
 rintro e w' ⟨rfl,b⟩
 exact ⟨v,φ,g,rfl,yv575 hi b,yv466 hi b hh,.lit hv,yv672 b⟩
end Go.Rv
namespace Go.Rv
open Go.RowKit
def fn20 (s t:List UInt8):Option Bool:=match t with
 | [c]=>some (decide (0 ≤ Lib.indexByte s c))
 | _=>none
def fn19 (s:List UInt8):Option Bool:=if s.length ≤ 9223372036854775807 then some (Lib.validD s) else none
variable {P:Program} {W:World->Prop} {T:Nat->Type} {tb:Tab T}
theorem yv724 (ok:tb.Ok) {f:FuncId} (hen:yv25 P f=true)
 (hc:∀ (s:ByteArray) (c:UInt8) (w:World),Calls P f #[.string s,.string ⟨#[c]⟩] w fun e w'=>e=.returned (.bool (decide (0 ≤ Lib.indexByte s.data.toList c)))∧w'=w) :
 (mkOrc (Y:=Bool) tb [.g (.f (.a .s)),.g (.f (.a .s))] [] (fun x h=>fn20 x.1 x.2.1) (fun _ y k=>k (.b y) [])).Ok P W tb f :=
 yv154 (R:=⟨fun _ _=>none,fun y=>(.b y,[])⟩) ok hen (fun _ _ _=>rfl) (fun _=>rfl) (fun x z y h=>by
  obtain ⟨s,t,u⟩:=x
  match t,h with
  | [c],h =>
   cases h
   exact ⟨hen,yv62 (vs:=[.string ⟨List.toArray s⟩,.string ⟨#[c]⟩]) rfl (fun W0 w _ _=>(hc ⟨List.toArray s⟩ c w).mono (by rintro e w' ⟨rfl,rfl⟩;exact ⟨rfl,Below.refl _ _⟩))⟩)
theorem yv584 (ok:tb.Ok) {f:FuncId} (hen:yv25 P f=true) {g3 g4:Nat} (hW:∀ w,W w->Lib.Utf8Tabs g3 g4 w)
 (hc:∀ (s:ByteArray) (w:World),s.size ≤ 9223372036854775807->Lib.Utf8Tabs g3 g4 w->Calls P f #[.string s] w fun e w'=>e=.returned (.bool (Lib.validD s.data.toList))∧Below w.heap.size w w') :
 (mkOrc (Y:=Bool) tb [.g (.f (.a .s))] [] (fun x h=>fn19 x.1) (fun _ y k=>k (.b y) [])).Ok P W tb f :=
 yv154 (R:=⟨fun _ _=>none,fun y=>(.b y,[])⟩) ok hen (fun _ _ _=>rfl) (fun _=>rfl) (fun x z y h=>by
  obtain ⟨s,u⟩:=x
  simp only [fn19] at h
  split at h
  ·rename_i hs
   cases h
   exact ⟨hen,yv62 (vs:=[.string ⟨List.toArray s⟩]) rfl (fun W0 w hw b=>hc ⟨List.toArray s⟩ w (by rw [show ByteArray.size ⟨List.toArray s⟩=s.length from List.size_toArray];exact hs) (Go.Proofs.Utf8Tabs_below (hW W0 hw) b))⟩
  ·cases h)
end Go.Rv
namespace Go.Rv
open Go.RowKit
theorem Fun.callsW {P:Program} {Wp:World->Prop} {f:FuncId} {al:List AV} {vs:List Value} {W:World} (h:Fun P Wp f al [] (.b true) []) (hW:Wp W) (hl:vs.length=al.length)
 (ha:∀ (i:Nat) (a:AV) (v:Value),al[i]?=some a->vs[i]?=some v->RepA W.heap.size 0 (fun i=>i) ⟨fun _=>0,fun _=>none⟩ W (.env i) a v) :
 Calls P f vs.toArray W fun e W'=>e=.returned (.bool true)∧Below W.heap.size W W':=by
 refine (h.2 W hW (fun i=>i) ⟨fun _=>0,fun _=>none⟩ W vs ⟨Below.refl _ _,fun _ _=>⟨rfl,rfl⟩,fun _ _=>⟨rfl,rfl⟩⟩ (fun id hid=>by simp at hid) hl ha).mono ?_
 rintro e W' ⟨v,φ',g',rfl,hi,_,hr,_⟩
 obtain ⟨rfl,_⟩:=hr.of_lit
 exact ⟨rfl,hi.below⟩
end Go.Rv
namespace Go
open Go.RowKit Go.Rv
theorem yv536 {C:Checked} {os:Os} {f:FuncId} {fn:Func} {s:ChangeSpec} {conds:List PathCond} {H:Type} {enc:TypeId × Value->H} {T:Nat->Type} {tb:Tab T} {sa:List Sh} {n d:Nat} {tr:TypeId} {laid:List (String × DataW Unit)} {F:Stop.Interp} {Wp:World->Prop} (ok:tb.Ok)
 (own:ownKnob C.prog.godebug=none) (started:os.Started) (noInit:C.prog.inits.idxOf? f=none) (hfn:C.prog.funcs[f]?=some fn)
 (witness:∃ (w:World) (tape:Tape) (i:Input),w.os=os∧(w.forCall tape i).Shaped C.prog∧i.vars=[]∧Input.okWide C.prog (w.forCall tape i) .any w.heap.size f i ∧
  (OpenSpec.ofChange s).preRow enc C.prog fn conds false laid (w.forCall tape i).memory i.args∧({}:Assume).holds C.prog (lone (Frame.enter C.prog f i.args .normal) [] (w.forCall tape i)))
 (hvars:s.vars=[]) (hspec:∀ ds:List (DataW H),ds.length=fn.params.toList.length->s.fn H ds={ results:=[.lit (.bool true)],args:=ds }) (hres:fn.resultTypes=#[tr]) (htr:C.prog.underlying tr=some .bool)
 (hlaid:laidOutB C.prog=true) (hread:(fn.params.toList.all fun t=>C.prog.readableRec t && decide (t < C.prog.types.size))=true) (hok:yv587 C.prog tb n fn.params.toList sa=true)
 (hWp:∀ W,laidMetH C.prog laid W->W.ShapedOpen C.prog->Wp W)
 (hgood:∀ x:tyL T sa,yv721 tb d sa x->Fun C.prog Wp f (avL tb (injL tb sa x)) [] (.b true) []) :
 ReturnsInHanded {} C os f .any ((OpenSpec.ofChange s).preRow enc C.prog fn conds false laid) (((OpenSpec.ofChange s).at F).post enc C.prog fn false true false false):=by
 refine returnsInHanded_of_row (C:=C) (s:=OpenSpec.ofChange s) own started noInit hfn witness ?_
 intro W base args ds gs before hval hW hcnd _ hsz hL hS _
 have hW':=hW
 obtain ⟨p,q,hA,hV,rfl,hfz,hnd⟩:=hW
 rw [show (OpenSpec.ofChange s).vars=[] from hvars] at hV
 obtain ⟨rfl,rfl⟩:=Go.ChangeShapes.trodVars_none hV
 obtain ⟨x,hl,sx,hx⟩:=yv341 (tb:=tb) (d:=d) (n:=n) ok 0 hok (fun j t v p q=>hval j t v (by simpa using p) (by simpa using q)) hA (yv717 hsz)
 have hc:=(hgood x sx).callsW (vs:=args.toList) (W:=W) (hWp W hL hS) (by
  rw [hl,yv109]
  have:∀ (l:List Sh) (x:tyL T l),(injL tb l x).length=l.length:=by
   intro l;induction l with
   | nil=>intro x;rfl
   | cons a l ih=>intro x;simp [injL,ih]
  exact (this _ _).symm) (fun i a v p q=>by have:=hx i a v p q;rwa [Nat.zero_add] at this)
 rw [Array.toArray_toList] at hc
 refine hc.mono fun e W' ⟨he,bel⟩=>?_
 subst he
 have hdl:=yv201 hA
 have es:s.fn H (ds++[])={ results:=[.lit (.bool true)],args:=ds }:=by rw [List.append_nil];exact hspec ds hdl
 have ev:s.vars=[]:=hvars
 refine ⟨_,rfl,ds,[],_,[],p,[],hW',?_,?_,?_,bel.frame _,fun h=>by cases h⟩
 ·rw [show ((OpenSpec.ofChange s).at F).fn H (ds++[])=s.fn H (ds++[]) from rfl,es,hres]
  exact Go.ChangeShapes.trodAll_mk1 (shut_bool htr _)
 ·rw [show ((OpenSpec.ofChange s).at F).fn H (ds++[])=s.fn H (ds++[]) from rfl,es]
  exact yv129 hlaid bel hread hA (fun x hx=>by
   have:=hW'.lt x (by simp [hx])
   exact this)
 ·rw [show ((OpenSpec.ofChange s).at F).fn H (ds++[])=s.fn H (ds++[]) from rfl,es,show ((OpenSpec.ofChange s).at F).vars=[] from hvars];rfl
end Go
namespace Go.Proofs
open Go.Lib Go.RowKit
theorem yv783 {P:Program} {w:World} {g3 g4 t5 t119 t138 t139:Nat} {n1 n2:Field}
 (a5:P.underlying t5=some (.int .u8)) (a119:P.underlying t119=some (.array 256 t5)) (a138:P.underlying t138=some (.struct #[n1,n2])) (a139:P.underlying t139=some (.array 16 t138))
 (f1:n1.type=t5∧n1.offset=0) (f2:n2.type=t5∧n2.offset=1) (c5:P.cellsOf t5=1) (c119:P.cellsOf t119=256) (c138:P.cellsOf t138=2)
 (m3:P.globalNamed "unicode/utf8.first"=some g3) (m4:P.globalNamed "unicode/utf8.acceptRanges"=some g4) (y3:(P.globals[g3]?).map (·.type)=some t119) (y4:(P.globals[g4]?).map (·.type)=some t139)
 (h3:VarReads P w "unicode/utf8.first" firstData) (h4:VarReads P w "unicode/utf8.acceptRanges" acceptData):Lib.Utf8Tabs g3 g4 w:=by
 obtain ⟨_,_,cs,_,_,e1,e2,hv,hd⟩:=h3
 obtain ⟨_,_,cs4,_,_,e3,e4,hv4,hd4⟩:=h4
 rw [m3,Option.some.injEq] at e1
 rw [m4,Option.some.injEq] at e3
 subst e1 e3
 rw [y3,Option.some.injEq] at e2
 rw [y4,Option.some.injEq] at e4
 subst e2 e4
 refine ⟨fun c hc=>?_,fun i hi=>?_⟩
 ·have h:=World.var?_cell m3 hv c
  rw [← Array.getElem?_toList,cells_of_tab a119 a5 c5 c119 hd] at h
  rw [h]
  simp [firstTab,hc]
 ·obtain ⟨_,d,_,hq,he⟩:=array_elem a139 hd4 i hi
  simp only [List.getElem?_map,List.getElem?_range hi,Option.map_some,Option.some.injEq] at hq
  subst hq
  rw [c138] at he
  have hcs:=ints_of_struct a138 (fun j f hj=>by
   match j,hj with
   | 0,hj=>simp at hj;subst hj;exact ⟨f1.1 ▸ a5,f1.2,f1.1 ▸ c5⟩
   | 1,hj=>simp at hj;subst hj;exact ⟨f2.1 ▸ a5,f2.2,f2.1 ▸ c5⟩
   | j + 2,hj=>simp at hj) (by rw [c138];rfl) he
  have q0:=congrArg (·[0]?) hcs
  have q1:=congrArg (·[1]?) hcs
  simp only [List.getElem?_take,List.getElem?_drop] at q0 q1
  have w0:=World.var?_cell m4 hv4 (2 * i)
  have w1:=World.var?_cell m4 hv4 (2 * i + 1)
  rw [← Array.getElem?_toList] at w0 w1
  refine ⟨w0.trans ?_,w1.trans ?_⟩
  ·simpa [Nat.mul_comm] using q0
  ·simpa [Nat.mul_comm] using q1
end Go.Proofs
namespace Go.Rv
open Go.RowKit
variable {T:Nat->Type} {tb:Tab T} {P:Program}
theorem yv781 {Wp:World->Prop} {f:Nat} {o:Orc T} (h:o.Ok P Wp tb f) {sa:List Sh} (x:tyL T sa) (hr:o.run (injL tb sa x) [] (fun r H=>some (r,H))=some (.b true,[])):Fun P Wp f (avL tb (injL tb sa x)) [] (.b true) []:=by
 obtain ⟨r,H',h1,_,h3⟩:=h.snd _ _ _ _ hr
 simp only [Option.some.injEq,Prod.mk.injEq] at h3
 obtain ⟨rfl,rfl⟩:=h3
 exact ⟨h.en,h1⟩
theorem no_stand {P:Program} {ps:Array TypeId} (h:(ps.toList.all fun t=>!P.wantsStandIn t)=true):∀ (j:Nat) (t:TypeId),ps[j]?=some t->P.wantsStandIn t=false:=by
 intro j t ht
 have:=List.all_eq_true.1 h t (by rw [← Array.getElem?_toList] at ht;exact List.mem_of_getElem? ht)
 revert this
 cases P.wantsStandIn t<;>decide
end Go.Rv
namespace Go.Proofs
open Go.Shelf Go.RowKit Go.Lib
variable {P:Program} {ρ:Ren}
abbrev pm:ByteArray:=⟨#[43,35]⟩
theorem yv101 (w:World):∀ n,Below w.heap.size w (w.drewN n)
 | 0=>Below.refl _ _
 | n + 1=>(yv101 w n).drew
set_option maxHeartbeats 4000000 in
set_option maxRecDepth 1000000 in
theorem yv809 (L:Lays.n152 P ρ) (w:World) :
 Calls P (ρ.f 152) #[.string pm,.int .i32 65533] w fun e w'=>e=.returned (.int .i64 (-1))∧Below w.heap.size w w':=by
 have t3:=L.t3;have a3:=L.a3;have z3:=L.z3;have v3:=L.v3
 have t4:=L.t4;have a4:=L.a4;have z4:=L.z4;have v4:=L.v4
 have t5:=L.t5;have a5:=L.a5;have z5:=L.z5;have v5:=L.v5
 have t9:=L.t9;have a9:=L.a9;have z9:=L.z9;have v9:=L.v9
 have t21:=L.t21;have a21:=L.a21;have z21:=L.z21;have v21:=L.v21
 have hs2:pm.size=2:=rfl
 go_enter L.f152,Body.n152_ntmps ρ
 go_wp2
 go_loopg [] 2 (fun g wx=>∃ i:Nat,i + g=2∧wx=w.iter pm i)
 case atStart=>exact ⟨0,rfl,rfl⟩
 case round =>
  obtain ⟨i,hig,rfl⟩:=hrel
  cases gk with
  | zero =>
   obtain rfl:i=2:=by omega
   have hnx:=run_next_end (P:=P) w pm 2
   go_wp2
   go_ret
   exact ⟨rfl,(Below.refl _ _).alloc (Nat.le_refl _) _⟩
  | succ g =>
   have hi:i < pm.size:=by omega
   have hx128:(pm[i]'hi).toNat < 128:=by
    match i,hi with
    | 0,_=>show (43:UInt8).toNat < 128;decide
    | 1,_=>show (35:UInt8).toNat < 128;decide
   obtain ⟨x,hx⟩:∃ x:UInt8,pm[i]'hi=x:=⟨_,rfl⟩
   have hnx:=fun ty=>run_next_ascii (P:=P) w pm i ty hi hx128
   rw [hx] at hnx hx128
   have hne:((x.toNat:Int) == 65533)=false:=beq_eq_false_iff_ne.2 (by omega)
   go_wp2
   go_roundg g
   case measure=>omega
   case rel=>exact ⟨i + 1,by omega,rfl⟩
set_option maxHeartbeats 4000000 in
set_option maxRecDepth 1000000 in
theorem yv684 (L:Lays.n152 P ρ) (p q:ByteArray) (hp:p.size=2) (hq:q.size=2) (x y:UInt8) (hx:p[1]'(by omega)=x) (hy:q[1]'(by omega)=y) (hxy:x ≠ y) (r:Nat) (w:World) (he:Utf8.encode (r:Int)=q)
 (h128:128 ≤ r) (hr:r ≠ 65533) (hv:Lib.validRune (r:Int)=true) :
 Calls P (ρ.f 152) #[.string p,.int .i32 (r:Int)] w fun e w'=>e=.returned (.int .i64 (-1))∧Below w.heap.size w w':=by
 have t3:=L.t3;have a3:=L.a3;have z3:=L.z3;have v3:=L.v3
 have t4:=L.t4;have a4:=L.a4;have z4:=L.z4;have v4:=L.v4
 have t5:=L.t5;have a5:=L.a5;have z5:=L.z5;have v5:=L.v5
 have t9:=L.t9;have a9:=L.a9;have z9:=L.z9;have v9:=L.v9
 have t21:=L.t21;have a21:=L.a21;have z21:=L.z21;have v21:=L.v21
 have e137:∀ args w,(callFunc (ρ.f 137) args).run P w=.ok (.enter (ρ.f 137) args) w:=enters_of L.f137 (by kernel_rfl) rfl
 have e119:∀ args w,(callFunc (ρ.f 119) args).run P w=.ok (.enter (ρ.f 119) args) w:=enters_of L.f119 (by kernel_rfl) rfl
 have h1:¬ ((r:Int) < 128):=by omega
 have h2:((r:Int) == 65533)=false:=beq_eq_false_iff_ne.2 (by omega)
 have hcv:∀ W,(convert (ρ.t 21) (ρ.t 9) (.int .i32 (r:Int))).run P W=.ok (.string q) W:=fun W=>by
  rw [run_convert_int_string W _ _ _ _ (by rw [L.t21];rfl) L.t9,he]
 have mixed:=L.mixed
 have hib:∀ W,Calls P (ρ.f 137) #[.string ByteArray.empty,.int .u8 y.toNat] W fun e W'=>e=.returned (.int .i64 (-1))∧W'=W:=fun W =>
  (Any.strings_IndexByte { L with } ByteArray.empty _ W).mono (by rintro e W' ⟨rfl,rfl⟩;exact ⟨rfl,rfl⟩)
 go_enter L.f152,Body.n152_ntmps ρ
 go_wp2_with (go_at_fn (ρ.f 119);refine (Any.utf8_ValidRune { L with } _ _).mono ?_;rintro e w' ⟨rfl,hw⟩;rw [hw,hv])
 go_wp2
 refine wp_scope_straight ?_
 go_wp2
 go_loopg [9] 1 (fun g s9 wx=>s9=.int .i64 1∧wx=w)
 case atStart=>exact ⟨rfl,rfl⟩
 case round =>
  obtain ⟨rfl,rfl⟩:=hrel
  have hne:((x.toNat:Int) != (y.toNat:Int))=true:=by
   rw [bne_iff_ne];intro e;exact hxy (UInt8.toNat_inj.1 (by omega))
  have hq1:(q.size:Int) - 1=1:=by omega
  go_wp2
  refine wp_scope_straight ?_
  go_wp2_with (go_at_fn (ρ.f 137);refine (Any.strings_IndexByte { L with } _ _ _).mono ?_;rintro e w' ⟨rfl,hw⟩;rw [hw])
  go_quiet_o (fail)
  go_wp2
  have hw2:IntKind.i64.wrap 2=2:=by decide
  have hp':(p.size:Int)=2:=by omega
  have hB:=yv101 wr nq
  generalize wr.drewN nq=wq at hB ⊢
  go_quiet_o (first|(go_at_fn (ρ.f 137);refine Calls.quiet_of_same (hib _)))
  go_wp2
  simp only [Exit.noGoto,Exit.inBlock,Exit.then]
  go_ret
  exact ⟨rfl,hB.trans ((yv101 _ _).mono hB.size)⟩
set_option maxHeartbeats 4000000 in
set_option maxRecDepth 1000000 in
theorem yv685 (L:Lays.n152 P ρ) (p q:ByteArray) (hp:p.size=2) (hq:q.size=3) (r:Nat) (w:World) (he:Utf8.encode (r:Int)=q)
 (h128:128 ≤ r) (hr:r ≠ 65533) (hv:Lib.validRune (r:Int)=true) :
 Calls P (ρ.f 152) #[.string p,.int .i32 (r:Int)] w fun e w'=>e=.returned (.int .i64 (-1))∧Below w.heap.size w w':=by
 have t3:=L.t3;have a3:=L.a3;have z3:=L.z3;have v3:=L.v3
 have t4:=L.t4;have a4:=L.a4;have z4:=L.z4;have v4:=L.v4
 have t5:=L.t5;have a5:=L.a5;have z5:=L.z5;have v5:=L.v5
 have t9:=L.t9;have a9:=L.a9;have z9:=L.z9;have v9:=L.v9
 have t21:=L.t21;have a21:=L.a21;have z21:=L.z21;have v21:=L.v21
 have e137:∀ args w,(callFunc (ρ.f 137) args).run P w=.ok (.enter (ρ.f 137) args) w:=enters_of L.f137 (by kernel_rfl) rfl
 have e119:∀ args w,(callFunc (ρ.f 119) args).run P w=.ok (.enter (ρ.f 119) args) w:=enters_of L.f119 (by kernel_rfl) rfl
 have h1:¬ ((r:Int) < 128):=by omega
 have h2:((r:Int) == 65533)=false:=beq_eq_false_iff_ne.2 (by omega)
 have hcv:∀ W,(convert (ρ.t 21) (ρ.t 9) (.int .i32 (r:Int))).run P W=.ok (.string q) W:=fun W=>by
  rw [run_convert_int_string W _ _ _ _ (by rw [L.t21];rfl) L.t9,he]
 have mixed:=L.mixed
 go_enter L.f152,Body.n152_ntmps ρ
 go_wp2_with (go_at_fn (ρ.f 119);refine (Any.utf8_ValidRune { L with } _ _).mono ?_;rintro e w' ⟨rfl,hw⟩;rw [hw,hv])
 go_wp2
 refine wp_scope_straight ?_
 go_wp2
 go_loopg [9] 1 (fun g s9 wx=>s9=.int .i64 2∧wx=w)
 case atStart=>exact ⟨rfl,rfl⟩
 case round =>
  obtain ⟨rfl,rfl⟩:=hrel
  have h9:¬ ((2:Int) < (p.size:Int)):=by omega
  go_wp2
  go_ret
  exact ⟨rfl,Below.refl _ _⟩
set_option maxHeartbeats 4000000 in
set_option maxRecDepth 1000000 in
theorem yv686 (L:Lays.n152 P ρ) (p q:ByteArray) (hp:p.size=2) (hq:q.size=4) (r:Nat) (w:World) (he:Utf8.encode (r:Int)=q)
 (h128:128 ≤ r) (hr:r ≠ 65533) (hv:Lib.validRune (r:Int)=true) :
 Calls P (ρ.f 152) #[.string p,.int .i32 (r:Int)] w fun e w'=>e=.returned (.int .i64 (-1))∧Below w.heap.size w w':=by
 have t3:=L.t3;have a3:=L.a3;have z3:=L.z3;have v3:=L.v3
 have t4:=L.t4;have a4:=L.a4;have z4:=L.z4;have v4:=L.v4
 have t5:=L.t5;have a5:=L.a5;have z5:=L.z5;have v5:=L.v5
 have t9:=L.t9;have a9:=L.a9;have z9:=L.z9;have v9:=L.v9
 have t21:=L.t21;have a21:=L.a21;have z21:=L.z21;have v21:=L.v21
 have e137:∀ args w,(callFunc (ρ.f 137) args).run P w=.ok (.enter (ρ.f 137) args) w:=enters_of L.f137 (by kernel_rfl) rfl
 have e119:∀ args w,(callFunc (ρ.f 119) args).run P w=.ok (.enter (ρ.f 119) args) w:=enters_of L.f119 (by kernel_rfl) rfl
 have h1:¬ ((r:Int) < 128):=by omega
 have h2:((r:Int) == 65533)=false:=beq_eq_false_iff_ne.2 (by omega)
 have hcv:∀ W,(convert (ρ.t 21) (ρ.t 9) (.int .i32 (r:Int))).run P W=.ok (.string q) W:=fun W=>by
  rw [run_convert_int_string W _ _ _ _ (by rw [L.t21];rfl) L.t9,he]
 have mixed:=L.mixed
 go_enter L.f152,Body.n152_ntmps ρ
 go_wp2_with (go_at_fn (ρ.f 119);refine (Any.utf8_ValidRune { L with } _ _).mono ?_;rintro e w' ⟨rfl,hw⟩;rw [hw,hv])
 go_wp2
 refine wp_scope_straight ?_
 go_wp2
 go_loopg [9] 1 (fun g s9 wx=>s9=.int .i64 3∧wx=w)
 case atStart=>exact ⟨rfl,rfl⟩
 case round =>
  obtain ⟨rfl,rfl⟩:=hrel
  have h9:¬ ((3:Int) < (p.size:Int)):=by omega
  go_wp2
  go_ret
  exact ⟨rfl,Below.refl _ _⟩
theorem yv280 (s:ByteArray) (pos:Nat) (h:128 ≤ (Utf8.decode s pos).1):Utf8.valid ((Utf8.decode s pos).1:Int)=true:=by
 revert h
 simp only [Utf8.decode]
 repeat' split
 all_goals (intro h;simp_all [Utf8.runeError,Utf8.valid])
 all_goals omega
theorem yv765 (L:Lays.n152 P ρ) (r:Nat) (w:World) (h128:128 ≤ r) (hv:Utf8.valid (r:Int)=true) :
 Calls P (ρ.f 152) #[.string pm,.int .i32 (r:Int)] w fun e w'=>e=.returned (.int .i64 (-1))∧Below w.heap.size w w':=by
 by_cases hr:r=65533
 ·subst hr;exact yv809 L w
 obtain ⟨h2,h4,hl⟩:=encode_facts (r:Int) hv (by omega)
 have hv':Lib.validRune (r:Int)=true:=by rw [Utf8.valid] at hv;simp [Lib.validRune];simp at hv;omega
 have hp2:pm.size=2:=rfl
 have cases3:(Utf8.encode (r:Int)).size=2∨(Utf8.encode (r:Int)).size=3∨(Utf8.encode (r:Int)).size=4:=by omega
 generalize hq:Utf8.encode (r:Int)=q at *
 rcases cases3 with e|e|e
 ·have hy:=hl (by omega)
  refine yv684 L pm q hp2 e 35 (q[1]'(by omega)) rfl rfl ?_ r w hq h128 hr hv'
  intro hh
  have:(q[q.size - 1]'(by omega))=35:=by
   have e1:q.size - 1=1:=by omega
   simp only [e1];exact hh.symm
  rw [this] at hy
  exact absurd hy (by decide)
 ·exact yv685 L pm q hp2 e r w hq h128 hr hv'
 ·exact yv686 L pm q hp2 e r w hq h128 hr hv'
theorem yv683 (L:Lays.n152 P ρ) (x:UInt8) (w:World) (h:x.toNat < 128) :
 Calls P (ρ.f 152) #[.string pm,.int .i32 x.toNat] w fun e w'=>e=.returned (.int .i64 (Lib.indexByte [43,35] x))∧Below w.heap.size w w' :=
 (Any.strings_IndexRune_ascii L pm _ w (by omega) (by omega)).mono (by
  rintro e w' ⟨rfl,rfl⟩
  exact ⟨by simp,Below.refl _ _⟩)
end Go.Proofs
namespace Go.Proofs
open Go.Shelf Go.RowKit Go.Lib
variable {P:Program} {ρ:Ren}
theorem yv399 (s:ByteArray) (pos:Nat) (hp:pos < s.size) (h0:128 ≤ (s.get! pos).toNat):∀ j,j < (Utf8.decode s pos).2->128 ≤ (s.get! (pos + j)).toNat:=by
 have key:∀ k,(decide (pos + k < s.size) && (s.get! (pos + k)).toNat / 64 == 2)=true->128 ≤ (s.get! (pos + k)).toNat:=by
  intro k hk
  simp only [Bool.and_eq_true,beq_iff_eq] at hk
  omega
 intro j
 simp only [Utf8.decode]
 have hn:¬ (s.get! (pos + 0)).toNat < 128:=by simpa using h0
 rw [if_neg hn]
 split
 ·rename_i hc
  simp only [Bool.and_eq_true] at hc
  split<;>intro hj<;>simp only at hj
  ·match j,hj with
   | 0,_=>simpa using h0
   | 1,_=>exact key 1 (by simpa using hc.2)
  ·match j,hj with
   | 0,_=>simpa using h0
 ·split
  ·rename_i hc
   simp only [Bool.and_eq_true] at hc
   split<;>intro hj<;>simp only at hj
   ·match j,hj with
    | 0,_=>simpa using h0
    | 1,_=>exact key 1 (by simpa using hc.1.2)
    | 2,_=>exact key 2 (by simpa using hc.2)
   ·match j,hj with
    | 0,_=>simpa using h0
  ·split
   ·rename_i hc
    simp only [Bool.and_eq_true] at hc
    split<;>intro hj<;>simp only at hj
    ·match j,hj with
     | 0,_=>simpa using h0
     | 1,_=>exact key 1 (by simpa using hc.1.1.2)
     | 2,_=>exact key 2 (by simpa using hc.1.2)
     | 3,_=>exact key 3 (by simpa using hc.2)
    ·match j,hj with
     | 0,_=>simpa using h0
   ·intro hj
    match j,hj with
    | 0,_=>simpa using h0
theorem yv586 {s:ByteArray} {pos k:Nat} (h:Lib.NoAny s.data.toList [43,35] pos) (hk:∀ j,j < k->128 ≤ (s.get! (pos + j)).toNat):Lib.NoAny s.data.toList [43,35] (pos + k):=by
 intro j b hj hb
 by_cases hlt:j < pos
 ·exact h j b hlt hb
 ·have hi:j < s.size:=by
   rw [Lib.size_eq];exact (List.getElem?_eq_some_iff.1 hb).1
  have h1:=hk (j - pos) (by omega)
  rw [show pos + (j - pos)=j by omega] at h1
  have e:s.get! j=b:=by
   have:=Lib.data_getElem? s j hi
   rw [hb] at this
   have h2:=get_at s j hi
   simp only [Nat.add_zero] at h2
   rw [h2]
   exact (Option.some.inj this).symm
  rw [e] at h1
  have n1:b ≠ 43:=by rintro rfl;exact absurd h1 (by decide)
  have n2:b ≠ 35:=by rintro rfl;exact absurd h1 (by decide)
  simp [n1,n2]
set_option maxHeartbeats 8000000 in
set_option maxRecDepth 1000000 in
theorem yv540 (L:Lays.n153 P ρ) (s:ByteArray) (w:World) (h8:s.size ≤ 8) :
 Calls P (ρ.f 153) #[.string s,.string pm] w fun e w'=>e=.returned (.int .i64 (Lib.indexAny s.data.toList [43,35]))∧Below w.heap.size w w':=by
 have h8z:decide ((8:Int) < (s.size:Int))=false:=decide_eq_false (by omega)
 have t3:=L.t3;have a3:=L.a3;have z3:=L.z3;have v3:=L.v3
 have t4:=L.t4;have a4:=L.a4;have z4:=L.z4;have v4:=L.v4
 have t5:=L.t5;have a5:=L.a5;have z5:=L.z5;have v5:=L.v5
 have t9:=L.t9;have a9:=L.a9;have z9:=L.z9;have v9:=L.v9
 have t21:=L.t21;have a21:=L.a21;have z21:=L.z21;have v21:=L.v21
 have e152:∀ args w,(callFunc (ρ.f 152) args).run P w=.ok (.enter (ρ.f 152) args) w:=enters_of L.f152 (by kernel_rfl) rfl
 have e226:∀ args w,(callFunc (ρ.f 226) args).run P w=.ok (.enter (ρ.f 226) args) w:=enters_of L.f226 (by kernel_rfl) rfl
 have hR:=fun r W h1 h2=>yv765 (P:=P) (ρ:=ρ) { L with } r W h1 h2
 have hA:=fun x W h=>yv683 (P:=P) (ρ:=ρ) { L with } x W h
 have hemp:pm.toList.isEmpty=false:=by rw [Lib.toList_data];rfl
 have hn1:((pm.size:Int) == 1)=false:=rfl
 have hcl:∀ x,([43,35]:List UInt8).contains x=decide (0 ≤ Lib.indexByte [43,35] x):=Lib.contains_iff_indexByte _
 generalize pm=p at *
 go_enter L.f153,Body.n153_ntmps ρ
 go_wp2_with (go_at_fn (ρ.f 226);refine (Any.strings_shouldUseASCIISet { L with } _ _).mono ?_;rintro e w' ⟨rfl,hw⟩;rw [hw,h8z])
 go_loopg [9,10] s.size (fun g _ _ wx=>∃ pos:Nat,wx.heap[w.heap.size]?=some (.stringIter s pos)∧Below w.heap.size w wx∧Lib.NoAny s.data.toList [43,35] pos∧s.size ≤ pos + g)
 case atStart=>exact ⟨0,World.iter_heap w s 0,(Below.refl _ w).alloc (Nat.le_refl _) _,Lib.NoAny.zero _ _,by omega⟩
 case round =>
  obtain ⟨pos,hit,hbw,hno,hfu⟩:=hrel
  by_cases hps:pos < s.size
  ·obtain ⟨g',rfl⟩:∃ g',gk=g' + 1:=⟨gk - 1,by omega⟩
   have hnx:∀ ty,(Instr.next (.pointer (some ⟨w.heap.size,0,none⟩)) true ty).run P wr=_:=fun ty=>Lib.run_next_any_at wr w.heap.size s pos ty hit hps
   have hwd:1 ≤ (Utf8.decode s pos).2:=by
    simp only [Utf8.decode];repeat' split
    all_goals simp
   have hrun:=fun h0=>yv586 hno (yv399 s pos hps h0)
   have hdv:=yv280 s pos
   have hdh:=decode_high s pos hps
   have hda:(s[pos]'hps).toNat < 128->Utf8.decode s pos=((s[pos]'hps).toNat,1):=fun h=>decode_ascii s pos hps h
   have hg:s.get! pos=s[pos]'hps:=by simpa using get_at s pos hps
   rw [hg] at hrun
   have hxl:s.data.toList[pos]?=some (s[pos]'hps):=Lib.data_getElem? s pos hps
   obtain ⟨x,hx⟩:∃ x:UInt8,s[pos]'hps=x:=⟨_,rfl⟩
   obtain ⟨R,hR'⟩:∃ R,(Utf8.decode s pos).1=R:=⟨_,rfl⟩
   obtain ⟨K,hK⟩:∃ K,(Utf8.decode s pos).2=K:=⟨_,rfl⟩
   rw [hR',hK] at hnx
   rw [hK] at hwd
   rw [hR'] at hdv
   rw [hx] at hxl hdh hda hrun
   rw [hK] at hrun
   rw [hR',hK] at hdh
   have hda':x.toNat < 128->R=x.toNat∧K=1:=fun h=>by rw [← hR',← hK,hda h];exact ⟨rfl,rfl⟩
   have hit2:=Lib.iterAt_heap wr w.heap.size s pos (pos + K) hit
   have hbw2:=Lib.below_iterAt hbw (k:=w.heap.size) (Nat.le_refl _) s (pos + K)
   have HH:Aside (s.data.toList[pos]?=some x):=hxl
   have HN:Aside (Lib.NoAny s.data.toList [43,35] pos):=hno
   have HQ:Aside (128 ≤ x.toNat->Lib.NoAny s.data.toList [43,35] (pos + K)):=hrun
   clear hxl hno hrun hda hR' hK hg hx hit hbw
   obtain ⟨W,hWd⟩:∃ W,wr.iterAt w.heap.size s (pos + K)=W:=⟨_,rfl⟩
   rw [hWd] at hnx hit2 hbw2
   clear hWd
   have hltW:w.heap.size < W.heap.size:=(Array.getElem?_eq_some_iff.1 hit2).1
   by_cases hlow:x.toNat < 128
   ·obtain ⟨rfl,rfl⟩:=hda' hlow
    have cS:=hA x W hlow
    have hc:=hcl x
    by_cases hin:(0:Int) ≤ Lib.indexByte [43,35] x
    ·rw [decide_eq_true hin] at hc
     have HC:Aside (([43,35]:List UInt8).contains x=true):=hc
     clear hc hcl hdv hdh hda'
     generalize Lib.indexByte [43,35] x=I at cS hin
     go_wp2_with (go_at_fn (ρ.f 152);refine cS.mono ?_;rintro e W' ⟨rfl,hbc⟩)
     go_ret
     exact ⟨by rw [Lib.indexAny_hit HN.out HH.out HC.out];rfl,hbw2.trans (hbc.mono hbw2.size)⟩
    ·rw [decide_eq_false hin] at hc
     have HC:Aside (([43,35]:List UInt8).contains x=false):=hc
     clear hc hcl hdv hdh hda'
     generalize Lib.indexByte [43,35] x=I at cS hin
     go_wp2_with (go_at_fn (ρ.f 152);refine cS.mono ?_;rintro e W' ⟨rfl,hbc⟩)
     go_roundg g'
     case measure=>omega
     case rel=>exact ⟨pos + 1,(hbc.block _ hltW).trans hit2,hbw2.trans (hbc.mono hbw2.size),HN.out.succ HH.out HC.out,by omega⟩
   ·have h128:128 ≤ x.toNat:=by omega
    have cS:=hR R W (hdh h128).1 (hdv (hdh h128).1)
    clear hcl hdv hdh hda'
    go_wp2_with (go_at_fn (ρ.f 152);refine cS.mono ?_;rintro e W' ⟨rfl,hbc⟩)
    go_roundg g'
    case measure=>omega
    case rel=>exact ⟨pos + K,(hbc.block _ hltW).trans hit2,hbw2.trans (hbc.mono hbw2.size),HQ.out h128,by omega⟩
  ·have hnx:∀ ty,(Instr.next (.pointer (some ⟨w.heap.size,0,none⟩)) true ty).run P wr=_:=fun ty=>Lib.run_next_end_at wr w.heap.size s pos ty hit hps
   have HE:Aside (Lib.indexAny s.data.toList [43,35]=-1):=Lib.indexAny_none (fun j b hj hb=>hno j b (by rw [← Lib.size_eq] at hj;omega) hb)
   clear hno
   go_wp2
   go_ret
   exact ⟨by rw [HE.out];rfl,hbw⟩
theorem yv733 (L:Lays.n153 P ρ) (h116:(P.info? (ρ.t 116)).map (fun i=>(i.zero,i.size))=some (some (.agg (Array.replicate 256 (.bool false))),256)) (s:ByteArray) (w:World) (hs:s.size < 4294967281) :
 Calls P (ρ.f 153) #[.string s,.string pm] w fun e w'=>e=.returned (.int .i64 (Lib.indexAny s.data.toList [43,35]))∧Below w.heap.size w w':=by
 by_cases h8:s.size ≤ 8
 ·exact yv540 L s w h8
 ·refine (Any.strings_IndexAny_long L (zero_of_info h116).1 (zero_of_info h116).2 s pm w (by decide) (by omega) hs (by decide) ?_).mono fun e w' ⟨h1,h2⟩=>⟨h1,?_⟩
  ·intro j b hb
   match j,hb with
   | 0,hb=>cases hb;decide
   | 1,hb=>cases hb;decide
   | j + 2,hb=>cases hb
  ·rw [h2]
   exact ((Below.refl _ _).alloc (Nat.le_refl _) _).alloc (by simp) _
set_option maxHeartbeats 1000000 in
theorem yv660 (L:Lays.n150 P ρ) (h116:(P.info? (ρ.t 116)).map (fun i=>(i.zero,i.size))=some (some (.agg (Array.replicate 256 (.bool false))),256)) (s:ByteArray) (w:World) (hs:s.size < 4294967281) :
 Calls P (ρ.f 150) #[.string s,.string pm] w fun e w'=>e=.returned (.bool (Lib.containsAny s.data.toList [43,35]))∧Below w.heap.size w w':=by
 have c:=yv733 { L with } h116 s w hs
 have t3:=L.t3;have a3:=L.a3;have z3:=L.z3;have v3:=L.v3
 have t4:=L.t4;have a4:=L.a4;have z4:=L.z4;have v4:=L.v4
 have t9:=L.t9;have a9:=L.a9;have z9:=L.z9;have v9:=L.v9
 have e153:∀ args w,(callFunc (ρ.f 153) args).run P w=.ok (.enter (ρ.f 153) args) w:=enters_of L.f153 (by kernel_rfl) rfl
 go_enter L.f150,Body.n150_ntmps ρ
 go_wp2_with (go_at_fn (ρ.f 153);refine c.mono ?_;rintro e w' ⟨rfl,hw⟩)
 go_ret
 exact ⟨rfl,hw⟩
end Go.Proofs
namespace Go.Rv
open Go.RowKit
variable {P:Program} {W:World->Prop}
variable {T:Nat->Type} {tb:Tab T}
def fn17 (s t:List UInt8):Option Bool:=if t=[43,35] then if s.length < 4294967281 then some (Lib.containsAny s [43,35]) else none else none
theorem yv583 (ok:tb.Ok) {f:FuncId} (hen:yv25 P f=true)
 (hc:∀ (s:ByteArray) (w:World),s.size < 4294967281->Calls P f #[.string s,.string ⟨#[43,35]⟩] w fun e w'=>e=.returned (.bool (Lib.containsAny s.data.toList [43,35]))∧Below w.heap.size w w') :
 (mkOrc (Y:=Bool) tb [.g (.f (.a .s)),.g (.f (.a .s))] [] (fun x h=>fn17 x.1 x.2.1) (fun _ y k=>k (.b y) [])).Ok P W tb f :=
 yv154 (R:=⟨fun _ _=>none,fun y=>(.b y,[])⟩) ok hen (fun _ _ _=>rfl) (fun _=>rfl) (fun x z y h=>by
  obtain ⟨s,t,u⟩:=x
  simp only [fn17] at h
  split at h
  ·rename_i ht
   subst ht
   split at h
   ·rename_i hs
    cases h
    exact ⟨hen,yv62 (vs:=[.string ⟨List.toArray s⟩,.string ⟨#[43,35]⟩]) rfl (fun W0 w _ _=>hc ⟨List.toArray s⟩ w (by rw [show ByteArray.size ⟨List.toArray s⟩=s.length from List.size_toArray];exact hs))⟩
   ·cases h
  ·cases h)
def yv725 (s t:List UInt8):Option (List UInt8 × List UInt8 × Bool):=if s.length < 4294967281 then some (Lib.cut s t) else none
def yv648 (s t:List UInt8):Option (Option (List (List UInt8))):=match t with
 | [c]=>if s.length < 4294967281 then some (some ((Lib.splitB ⟨#[c]⟩ 0 (Lib.countB ⟨s.toArray⟩ ⟨#[c]⟩) ⟨s.toArray⟩).map fun x=>x.data.toList)) else none
 | _=>none
end Go.Rv
