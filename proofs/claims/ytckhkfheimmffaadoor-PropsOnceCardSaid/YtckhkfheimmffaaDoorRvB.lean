/- A typed interpreter of the program's code, and that it is sound; part 2. -/
import Derived.Test.YtckhkfheimmffaaDoorRvA
import Derived.Lib.ConvBytes
import Derived.Laws.BytesString
import Derived.Laws.StructEq
import Derived.Deep.LoopGhost
import Derived.Scope
import Derived.Sort.LoopGhostIn
import Derived.RangeFuncLeaves
import Derived.RangeFuncRecord
import Derived.RangeFuncCalls
set_option linter.unusedSimpArgs false
set_option linter.unusedVariables false
set_option maxRecDepth 100000
namespace Go.Rv
open Go.RowKit
variable {P:Program} {W0:World} {o:Oper} {s:SOp}
theorem yv6 {H:Heap} {i:Nat} {x:List AV}:(hset H i x).length=H.length:=by
 induction H generalizing i with
 | nil=>rfl
 | cons a l ih=>cases i with
  | zero=>rfl
  | succ i=>simp [hset,ih]
theorem yv152 {H:Heap} {i:Nat} {x:List AV}:hset H i x=H.set i x:=by
 induction H generalizing i with
 | nil=>rfl
 | cons a l ih=>cases i with
  | zero=>rfl
  | succ i=>simp [hset,ih]
theorem yv8 {H:Heap} {i:Nat} {x:List AV} (h:i < H.length):hget (hset H i x) i=x:=by
 rw [yv19,yv152];simp [h]
theorem yv4 {H:Heap} {i k:Nat} {x:List AV} (h:k ≠ i):hget (hset H i x) k=hget H k:=by
 rw [yv19,yv152,yv19,List.getElem?_set_ne (Ne.symm h)]
theorem yv74 {l:List AV} {i:Nat} {x:AV}:yv85 l i x=l.set i x:=by
 induction l generalizing i with
 | nil=>rfl
 | cons a l ih=>cases i with
  | zero=>rfl
  | succ i=>simp [yv85,ih]
theorem yv372 {g:Gh} {w w':World} {p q l:Loc} {base:Nat} (h:l.root ≠ p.root) (hh:∀ b k,g.ow b=some k->k.root=l.root->w'.heap[b]?=w.heap[b]?):KeepU base g w (g.reroot p q) w' l l :=
 ⟨⟨fun b e=>⟨hh b _ e rfl,rfl,by simp [Gh.reroot,e,Loc.reroot_other h]⟩⟩,
  fun i=>⟨fun b e=>⟨hh b _ e rfl,rfl,by have:(Loc.sub l i).root ≠ p.root:=h;simp [Gh.reroot,e,Loc.reroot_other this]⟩⟩,
  fun i j=>⟨fun b e=>⟨hh b _ e rfl,rfl,by have:(Loc.sub (.sub l i) j).root ≠ p.root:=h;simp [Gh.reroot,e,Loc.reroot_other this]⟩⟩⟩
theorem yv294 {g:Gh} {w w':World} {p q:Loc} {base:Nat} (hh:∀ b k,g.ow b=some k->k.root=p.root->w'.heap[b]?=w.heap[b]?):KeepU base g w (g.reroot p q) w' p q :=
 ⟨⟨fun b e=>⟨hh b _ e rfl,rfl,by simp [Gh.reroot,e,Loc.reroot_self]⟩⟩,
  fun i=>⟨fun b e=>⟨hh b _ e rfl,rfl,by simp [Gh.reroot,e,Loc.reroot_sub]⟩⟩,
  fun i j=>⟨fun b e=>⟨hh b _ e rfl,rfl,by simp [Gh.reroot,e,Loc.reroot_sub2]⟩⟩⟩
theorem yv79 {B:Nat} {a w:World} (h:Below B a w) {b:Nat} (hb:B ≤ b) (cs:Array Value):Below B a (w.setRow b cs) :=
 h.trans ⟨rfl,rfl,rfl,by simp,fun k hk=>setRow_other w b k cs (by omega)⟩
theorem yv60 {w:World} {b:Nat} {cs:Array Value} (h:yv21 w b ≤ cs.size) (k:Nat):yv21 w k ≤ yv21 (w.setRow b cs) k:=by
 by_cases hk:k=b
 ·subst hk
  cases hb:w.heap[k]? with
  | none=>simp [yv21,hb]
  | some ob =>
   cases ob with
   | cells cur e fr =>
    have:=setRow_heap w k cur cs e fr hb
    simp only [yv21,hb] at h
    simp only [yv21,hb,this]
    exact h
   | _=>simp [yv21,hb]
 ·exact yv207 (setRow_other w b k cs hk)
theorem yv459 {g g':Gh} {w:World} {base b:Nat} (hb:base ≤ b) (hl:g.lim b=0) (hg:∀ k,g.lim k ≤ g'.lim k) (cs:Array Value) (hcs:yv21 w b ≤ cs.size):Ext base g w g' (w.setRow b cs):=by
 refine ⟨by simp,hg,fun k o hk hi=>?_,yv60 hcs⟩
 have:k ≠ b:=by
  rintro rfl
  rcases hi with hi|hi
  ·omega
  ·rw [hl] at hi;omega
 exact cell_setRow_other w b cs ⟨k,o,none⟩ this
theorem Post.stored {φ:Nat->Nat} {g:Gh} {w:World} {H:Heap} {id:Nat} {cur cur':Array Value} {T:TypeId} {ob':List AV} {p q:Loc}
 (hi:Inv W0 g w) (hh:RepH W0.heap.size φ g w H) (hid:id < H.length)
 (p1:w.heap[φ id]?=some (.cells cur T (0,0))) (p3:W0.heap.size ≤ φ id) (p4:g.ow (φ id)=some (.obj id)) (p5:g.lim (φ id)=0)
 (hp1:∀ i,p.root ≠ .obj i) (hp2:∀ i j,p.root ≠ .hp i j) (hp3:∀ t,p.root ≠ .env t)
 (hl:ob'.length ≤ cur'.size) (hcs:cur.size ≤ cur'.size)
 (hc:Ext W0.heap.size g w (g.reroot p q) (w.setRow (φ id) cur')->(∀ l,l.root ≠ p.root->l ≠ .obj id->(∀ k,l.root ≠ .obj k)->KeepU W0.heap.size g w (g.reroot p q) (w.setRow (φ id) cur') l l) ->
  KeepU W0.heap.size g w (g.reroot p q) (w.setRow (φ id) cur') p q ->
  ∀ (j:Nat) (a:AV) (v:Value),ob'[j]?=some a->cur'[j]?=some v->RepC W0.heap.size H.length φ (g.reroot p q) (w.setRow (φ id) cur') (.hp id j) a v∧v.oneCell'=true) :
 Post W0 H.length φ g w φ (g.reroot p q) (w.setRow (φ id) cur') (hset H id ob') .junk undef:=by
 have x:Ext W0.heap.size g w (g.reroot p q) (w.setRow (φ id) cur'):=yv459 (g':=g.reroot p q) p3 p5 (fun k=>Nat.le_refl (g.lim k)) cur' (by simpa [yv21,p1] using hcs)
 have other:∀ b k,g.ow b=some k->k ≠ .obj id->(w.setRow (φ id) cur').heap[b]?=w.heap[b]?:=by
  intro b k h1 h2
  refine setRow_other w (φ id) b cur' ?_
  rintro rfl
  rw [p4] at h1;cases h1;exact h2 rfl
 have keepL:∀ l,l.root ≠ p.root->l ≠ .obj id->(∀ k,l.root ≠ .obj k)->KeepU W0.heap.size g w (g.reroot p q) (w.setRow (φ id) cur') l l:=by
  intro l h1 h2 h3
  exact yv372 h1 fun b k e1 e2=>other b k e1 (by rintro rfl;exact h3 id (by rw [← e2];rfl))
 have keepP:KeepU W0.heap.size g w (g.reroot p q) (w.setRow (φ id) cur') p q :=
  yv294 fun b k e1 e2=>other b k e1 (by rintro rfl;exact hp1 id (by rw [← e2];rfl))
 have hinv:Inv W0 (g.reroot p q) (w.setRow (φ id) cur'):=by
  have:=hi.reroot p q
  exact ⟨yv79 hi.below p3 cur',this.old,fun b hb=>this.new b (by simpa using hb)⟩
 refine ⟨hinv,x,?_,by simp [yv6],fun _ _=>rfl,.b _ _ (.c _ _ (.junk _)),?_⟩
 ·intro id' hid'
  rw [yv6] at hid' ⊢
  by_cases he:id'=id
  ·subst he
   rw [yv8 hid]
   refine ⟨.inr ⟨cur',T,setRow_heap w (φ id') cur cur' T (0,0) p1,hl,p3,?_,p5,hc x keepL keepP⟩⟩
   simp only [Gh.reroot,p4,Option.map_some]
   rw [Loc.reroot_other (fun e=>hp1 id' e.symm)]
  ·rw [yv4 he]
   refine (hh id' hid').keep x (Nat.le_refl _) (fun _ _=>rfl) hid' ?_ (fun j=>keepL _ (fun e=>hp2 id' j e.symm) (by simp) (by simp [Loc.root]))
   refine ⟨fun b e=>⟨other b _ e (by simpa using he),rfl,?_⟩⟩
   simp only [Gh.reroot,e,Option.map_some]
   rw [Loc.reroot_other (fun e=>hp1 id' e.symm)]
 ·intro b hb hl'
  refine ⟨?_,rfl,?_⟩
  ·refine setRow_other w (φ id) b cur' ?_
   rintro rfl
   have:=hl' _ p4
   simp [Loc.isEnv,Loc.root] at this
  ·simp only [Gh.reroot]
   cases ho:g.ow b with
   | none=>rfl
   | some l =>
    have:=hl' l ho
    simp only [Option.map_some]
    rw [Loc.reroot_other]
    intro e
    unfold Loc.isEnv at this
    rw [e] at this
    split at this
    ·rename_i t ht;exact hp3 t ht
    ·cases this
theorem yv377 {m:Nat} (hop:s.op=.store m) (ok:okOp P o s=true):Right P W0 o s:=by
 intro φ g w H a as us r H' hi hh ha he
 simp only [okOp,hop] at ok
 simp only [hop,POp.ev] at he
 split at ok
 case h_2=>cases ok
 rename_i t x' y' hy
 simp only [Bool.and_eq_true,beq_iff_eq] at ok
 obtain ⟨ok1,ok2⟩:=ok
 obtain ⟨x,y,hs,k1,k2⟩:=opds_two' ok1
 rw [hs] at ha
 obtain ⟨_,_,_,hsz⟩:=yv38 ok2 w
 split at he
 case h_2=>cases he
 rename_i id off a0
 split at he
 case isFalse=>cases he
 rename_i hcond
 obtain ⟨hnt,hlen,hfit⟩:=hcond
 simp at he;obtain ⟨rfl,rfl⟩:=he
 obtain ⟨u,v,rfl,h1,h2,r1,r2⟩:=ha.two
 obtain ⟨rfl,hn⟩:=r1.of_ref
 have e1:=yv0 k1 h1
 have e2:=yv0 k2 h2
 have hcells:(cellsOf a0).length=v.cells.size∧(∀ c ∈ v.cells.toList,c.oneCell'=true) ∧
  ((∃ b,a0=b∧cellsOf a0=[b]∧v.cells=#[v]∧RepC W0.heap.size H.length φ g w (.arg 1) b v) ∨
   ∀ (j:Nat) (x:AV) (u:Value),(cellsOf a0)[j]?=some x->v.cells[j]?=some u->noOwn x=true∧∃ l,RepC W0.heap.size H.length φ g w l x u):=by
  cases r2 with
  | tup=>cases hnt
  | b _ _ r2 =>
   cases r2 with
   | agg cs vs q1 q2 q3 =>
    refine ⟨by simp [cellsOf,yv14,Value.cells,q1],fun c hc=>q3 c (by simpa [Value.cells] using hc),.inr ?_⟩
    intro j x u p q
    simp only [cellsOf,yv14,List.getElem?_map] at p
    simp only [Value.cells] at q
    cases hc:cs[j]? with
    | none=>simp [hc] at p
    | some c=>simp [hc] at p;subst p;exact ⟨yv111 _,.res,(q2 j c u hc q).strip⟩
   | c _ _ r2 =>
    have q1:v.oneCell'=true:=r2.one (by rintro rfl;cases hnt)
    have q2:v.cells=#[v]:=by cases v<;>first|rfl|(simp [Value.oneCell'] at q1)
    have q3:cellsOf a0=[a0]:=by cases a0<;>first|rfl|(cases r2 with|zero _ _ h=>cases h)
    exact ⟨by rw [q2,q3];rfl,by rw [q2];intro c hc;simp at hc;subst hc;exact q1,.inl ⟨a0,rfl,q3,q2,r2⟩⟩
 obtain ⟨hcl,hone,hkind⟩:=hcells
 obtain ⟨ho⟩:=hh id hn
 rcases ho with ho|⟨cur,T,p1,p2,p3,p4,p5,p6⟩
 ·-- an object of no cells
  rw [ho] at hfit
  have:off=0∧m=0:=by simpa using hfit
  obtain ⟨rfl,rfl⟩:=this
  have hz:cellsOf a0=[]:=List.eq_nil_of_length_eq_zero hlen
  have hset:hset H id (yv94 (hget H id) 0 (cellsOf a0))=H:=by
   rw [ho,hz]
   simp only [yv94,List.take_nil,List.drop_nil,List.append_nil]
   rw [yv152,← ho,yv19]
   apply List.ext_getElem?
   intro k
   rw [List.getElem?_set]
   split
   ·rename_i he;subst he;simp [hn]
   ·rfl
  rw [hset]
  refine ⟨undef,φ,g,w,.inr ⟨?_,rfl⟩,.same hi hh (.b _ _ (.c _ _ (.junk _)))⟩
  have hv0:v.cells=#[]:=by
   have:v.cells.size=0:=by rw [← hcl,hz];rfl
   exact Array.eq_empty_of_size_eq_zero this
  simp [execOp,hy,e1,e2,Instr.storeAt,Instr.sureAddr,storeVar,hsz,hv0,storeCells]
 ·have hvs:v.cells.toList.length=m:=by rw [← hlen,hcl];simp
  have hfit2:off + m ≤ cur.size:=Nat.le_trans hfit p2
  have hst:=run_storeCells_at P (φ id) off T v.cells.toList 0 cur w p1 (by omega) hone
  simp only [Nat.add_zero] at hst
  refine ⟨undef,φ,_,_,.inr ⟨?_,rfl⟩,.stored (p:=.arg 1) (q:=.hp id off) (T:=T) (cur':=(cur.toList.take off++v.cells.toList++cur.toList.drop (off + v.cells.toList.length)).toArray)
   hi hh hn p1 p3 p4 p5 (by simp [Loc.root]) (by simp [Loc.root]) (by simp [Loc.root]) ?_ (by simp at hvs ⊢;omega) ?_⟩
  ·have:v.cells.size=m:=by simpa using hvs
   simp [execOp,hy,e1,e2,Instr.storeAt,Instr.sureAddr,storeVar,hsz,this]
   simp at hst
   rw [hst]
   simp [this]
  ·simp [yv94]
   have:v.cells.size=m:=by simpa using hvs
   omega
  ·intro x keepL keepP j c u hj hu
   have hm:v.cells.size=m:=by simpa using hvs
   have hu':(if j < off then cur[j]? else if j < off + m then v.cells[j - off]? else cur[j]?)=some u:=by
    rw [← hu]
    simp only [List.getElem?_toArray]
    by_cases c1:j < off
    ·rw [if_pos c1,List.append_assoc,List.getElem?_append_left (by simp;omega),List.getElem?_take,if_pos c1];simp
    ·rw [if_neg c1]
     by_cases c2:j < off + m
     ·rw [if_pos c2,List.append_assoc,List.getElem?_append_right (by simp;omega),List.getElem?_append_left (by simp;omega)]
      simp
      congr 1
      omega
     ·rw [if_neg c2,List.getElem?_append_right (by simp;omega),List.getElem?_drop]
      simp
      congr 1
      omega
   have hj':(if j < off then (hget H id)[j]? else if j < off + m then (cellsOf a0)[j - off]? else (hget H id)[j]?)=some c:=by
    rw [← hj]
    simp only [yv94]
    by_cases c1:j < off
    ·rw [if_pos c1,List.append_assoc,List.getElem?_append_left (by simp;omega),List.getElem?_take,if_pos c1]
    ·rw [if_neg c1]
     by_cases c2:j < off + m
     ·rw [if_pos c2,List.append_assoc,List.getElem?_append_right (by simp;omega),List.getElem?_append_left (by simp;omega)]
      simp
      congr 1
      omega
     ·rw [if_neg c2,List.getElem?_append_right (by simp;omega),List.getElem?_drop]
      congr 1
      simp
      omega
   by_cases c1:j < off
   ·rw [if_pos c1] at hu' hj'
    obtain ⟨z1,z2⟩:=p6 j c u hj' hu'
    exact ⟨z1.keep x (Nat.le_refl _) (fun _ _=>rfl) (keepL (.hp id j) (by simp [Loc.root]) (by simp) (by simp [Loc.root])).k0,z2⟩
   ·rw [if_neg c1] at hu' hj'
    by_cases c2:j < off + m
    ·rw [if_pos c2] at hu' hj'
     refine ⟨?_,hone u (by simpa using Array.mem_of_getElem? hu')⟩
     rcases hkind with ⟨b,rfl,z1,z2,z3⟩|hkind
     ·have hm1:m=1:=by rw [← hm,z2];rfl
      have:j=off:=by omega
      subst this
      rw [z1] at hj';rw [z2] at hu'
      simp at hj' hu'
      subst hj' hu'
      exact z3.keep x (Nat.le_refl _) (fun _ _=>rfl) keepP.k0
     ·obtain ⟨z1,l,z2⟩:=hkind (j - off) c u hj' hu'
      exact z2.keepN x (Nat.le_refl _) (fun _ _=>rfl) z1
    ·rw [if_neg c2] at hu' hj'
     obtain ⟨z1,z2⟩:=p6 j c u hj' hu'
     exact ⟨z1.keep x (Nat.le_refl _) (fun _ _=>rfl) (keepL (.hp id j) (by simp [Loc.root]) (by simp) (by simp [Loc.root])).k0,z2⟩
end Go.Rv
namespace Go.Rv
open Go.RowKit
variable {P:Program} {W0:World} {o:Oper} {s:SOp}
theorem yv375 (hop:s.op=.loadm) (ok:okOp P o s=true):Right P W0 o s:=by
 intro φ g w H a as us r H' hi hh ha he
 simp only [okOp,hop] at ok
 simp only [hop,POp.ev] at he
 split at ok
 case h_2=>cases ok
 rename_i x t y hs hy
 simp only [Bool.and_eq_true,beq_iff_eq] at ok
 obtain ⟨ok1,ok2⟩:=ok
 rw [hs] at ha
 split at he
 case h_2=>cases he
 rename_i id off
 obtain ⟨u,rfl,h1,r1⟩:=ha.one
 obtain ⟨rfl,hn⟩:=r1.of_ref
 have hp:=yv73 ok2 ⟨φ id,off,none⟩ w
 obtain ⟨ho⟩:=hh id hn
 simp only [yv155,Option.map_eq_some_iff] at he
 obtain ⟨c,hc,he⟩:=he
 simp at he;obtain ⟨rfl,rfl⟩:=he
 rcases ho with ho|⟨cur,T,p1,p2,p3,p4,p5,p6⟩
 ·rw [ho] at hc;simp at hc
 have hlt:off < cur.size:=Nat.lt_of_lt_of_le (List.getElem?_eq_some_iff.1 hc).1 p2
 obtain ⟨q1,q2⟩:=p6 off c cur[off] hc (by simp [hlt])
 have hcell:w.cell? ⟨φ id,off,none⟩=some cur[off]:=by simp [World.cell?,p1,hlt]
 refine ⟨cur[off],φ,g.reroot (.hp id off) .res,w,.inl (by simp [execOp,hy,yv0 ok1 h1,Instr.loadAt,Instr.sureAddr,hp,hcell]),?_⟩
 have x:=Ext.reroot W0.heap.size g w (.hp id off) .res
 refine ⟨hi.reroot _ _,x,?_,by simp [yv6],fun _ _=>rfl,?_,?_⟩
 ·intro id' hid'
  rw [yv6] at hid' ⊢
  by_cases he:id'=id
  ·subst he
   rw [yv8 hn]
   refine ⟨.inr ⟨cur,T,p1,by rw [yv74];simpa using p2,p3,?_,p5,?_⟩⟩
   ·simp only [Gh.reroot,p4,Option.map_some]
    rw [Loc.reroot_other (by simp [Loc.root])]
   ·intro j a' v hj hv
    rw [yv74,List.getElem?_set] at hj
    split at hj
    ·split at hj
     ·simp at hj;subst hj
      rename_i e _;subst e
      rw [Array.getElem?_eq_getElem hlt] at hv
      simp at hv;subst hv
      exact ⟨.junk _,q2⟩
     ·cases hj
    ·rename_i hne
     obtain ⟨z1,z2⟩:=p6 j a' v hj hv
     exact ⟨z1.keep x (Nat.le_refl _) (fun _ _=>rfl) (KeepU.other (by simp [Loc.root];omega)).k0,z2⟩
  ·rw [yv4 he]
   exact (hh id' hid').keep x (Nat.le_refl _) (fun _ _=>rfl) hid' (KeepU.other (by simp [Loc.root])).k0 (fun j=>KeepU.other (by simp [Loc.root];intro h;exact absurd h he))
 ·rw [yv6]
  exact .b _ _ (.c _ _ (q1.keep x (Nat.le_refl _) (fun _ _=>rfl) (KeepU.reroot _ _ _ _ _).k0))
 ·intro b hb hl
  refine ⟨rfl,rfl,?_⟩
  simp only [Gh.reroot]
  cases ho:g.ow b with
  | none=>rfl
  | some l =>
   have:=hl l ho
   simp only [Option.map_some]
   rw [Loc.reroot_other]
   intro e
   unfold Loc.isEnv at this
   rw [e] at this
   simp [Loc.root] at this
theorem yv682 {xs:List Arg} {os:List Operand} (h:opds xs os=true):∀ (i:Nat) (x:Arg) (o:Operand),xs[i]?=some x->os[i]?=some o->opd x o=true:=by
 induction xs generalizing os with
 | nil=>intro i x o h1;simp at h1
 | cons y l ih=>cases os with
  | nil=>simp [opds] at h
  | cons p m =>
   simp [opds] at h
   intro i x o h1 h2
   cases i with
   | zero=>simp at h1 h2;subst h1 h2;exact h.1
   | succ i=>simp at h1 h2;exact ih h.2 i x o h1 h2
theorem yv113 {xs:List Arg} {os:List Operand} {us:List Value} {a:Act} (h:opds xs os=true) (hl:us.length=xs.length)
 (hc:∀ (i:Nat) (x:Arg) (u:Value),xs[i]?=some x->us[i]?=some u->ArgC a.tmps x u):os.map a.eval=us:=by
 apply List.ext_getElem?
 intro i
 rw [List.getElem?_map]
 have hlen:=yv31 h
 by_cases hi:i < xs.length
 ·have h1:i < os.length:=by omega
  have h2:i < us.length:=by omega
  rw [List.getElem?_eq_getElem h1,List.getElem?_eq_getElem h2]
  have e1:=List.getElem?_eq_getElem hi
  have k:=yv682 h i _ _ e1 (List.getElem?_eq_getElem h1)
  have c:=hc i _ _ e1 (List.getElem?_eq_getElem h2)
  simp [yv0 k c]
 ·rw [List.getElem?_eq_none (by omega),List.getElem?_eq_none (by omega)];rfl
theorem yv470 {base n:Nat} {φ:Nat->Nat} {g:Gh} {w:World} {l:Loc} {a:AV} {v:Value} (h:isR0 a=true) (r:RepA base n φ g w l a v):Rep0 base n φ g w a v:=by
 refine r.of_0 ?_
 cases a<;>first|trivial|(cases h)
theorem yv612 {fn:Fn} {nf:Nat} (hop:s.op=.mkf fn nf) (ok:okOp P o s=true):Right P W0 o s:=by
 intro φ g w H a as us r H' hi hh ha he
 simp only [okOp,hop] at ok
 simp only [hop,POp.ev] at he
 split at ok
 case h_2=>cases ok
 rename_i fn' p q hy
 simp only [Bool.and_eq_true,decide_eq_true_eq,beq_iff_eq] at ok
 obtain ⟨⟨rfl,ok1⟩,ok2⟩:=ok
 split at he
 case isFalse=>cases he
 rename_i hall
 simp at he;obtain ⟨rfl,rfl⟩:=he
 obtain ⟨l1,l2,hc,hr⟩:=ha
 have hm:=yv113 ok2 (by omega) hc
 have hpl:p.toList.length=nf:=by simpa using ok1
 have e1:p.map a.eval=(us.take nf).toArray:=by
  apply Array.ext'
  rw [← hm,← hpl]
  simp
 have e2:q.map a.eval=(us.drop nf).toArray:=by
  apply Array.ext'
  rw [← hm,← hpl]
  simp
 have hr0:∀ (i:Nat) (x:AV) (u:Value),as[i]?=some x->us[i]?=some u->Rep0 W0.heap.size H.length φ g w x u :=
  fun i x u h1 h2=>yv470 (List.all_eq_true.1 hall x (List.mem_of_getElem? h1)) (hr i x u h1 h2)
 refine ⟨.func fn (us.take nf).toArray (us.drop nf).toArray,φ,g,w,.inl ?_,.same hi hh (.b _ _ (.c _ _ (.clo fn _ _ _ _ (by simp [l2]) (by simp [l2]) ?_ ?_)))⟩
 ·simp [execOp,hy,Instr.makeFunc,e1,e2]
 ·intro i x u h1 h2
  simp only [List.getElem?_toArray,List.getElem?_take] at h1 h2
  split at h1
  ·rename_i hlt
   rw [if_pos hlt] at h2
   exact hr0 i x u h1 h2
  ·cases h1
 ·intro i x u h1 h2
  simp only [List.getElem?_toArray,List.getElem?_drop] at h1 h2
  exact hr0 _ x u h1 h2
theorem yv355 {base n:Nat} {φ:Nat->Nat} {g:Gh} {w:World} {place:Nat->Option (Nat × Nat)} :
 ∀ (offs:List (Nat × Nat)) (as:List AV) (ps:List (Nat × Value)) (cs:List AV) (vs:Array Value) (cs':List AV),yv173 cs offs as=some cs' ->
  ps.length=offs.length->(∀ (i:Nat) (off:Nat × Nat) (p:Nat × Value),offs[i]?=some off->ps[i]?=some p->place p.1=some off) ->
  (∀ (i:Nat) (a:AV) (p:Nat × Value),as[i]?=some a->ps[i]?=some p->∃ l,RepA base n φ g w l a p.2) ->
  cs.length=vs.size->(∀ (j:Nat) (a:AV) (v:Value),cs[j]?=some a->vs[j]?=some v->noOwn a=true∧(∃ l,RepC base n φ g w l a v)∧v.oneCell'=true) ->
  ∃ vs',Instr.fill place vs ps=some vs'∧cs'.length=vs'.size∧∀ (j:Nat) (a:AV) (v:Value),cs'[j]?=some a->vs'[j]?=some v->noOwn a=true∧(∃ l,RepC base n φ g w l a v)∧v.oneCell'=true:=by
 intro offs
 induction offs with
 | nil =>
  intro as ps cs vs cs' hb hl _ _ h1 h2
  have:ps=[]:=List.eq_nil_of_length_eq_zero (by simpa using hl)
  subst this
  cases as with
  | nil=>simp [yv173] at hb;subst hb;exact ⟨vs,rfl,h1,h2⟩
  | cons=>simp [yv173] at hb
 | cons off offs ih =>
  intro as ps cs vs cs' hb hl hpl hr h1 h2
  cases as with
  | nil=>simp [yv173] at hb
  | cons a as =>
   cases ps with
   | nil=>simp at hl
   | cons p ps =>
    obtain ⟨i,v⟩:=p
    obtain ⟨off,sz⟩:=off
    simp only [yv173] at hb
    split at hb
    case isFalse=>cases hb
    rename_i hcond
    obtain ⟨hnt,hsz0,hfit⟩:=hcond
    have hplace:=hpl 0 (off,sz) (i,v) rfl rfl
    obtain ⟨l0,hr0⟩:=hr 0 a (i,v) rfl rfl
    obtain ⟨q1,q2⟩:=yv103 hr0 hnt
    simp only at q1 q2
    have hsz:v.cells.size=sz:=by omega
    have hfold:∀ (l:List Value) (k:Nat) (vs:Array Value),off + k + l.length ≤ vs.size ->
     (l.zipIdx k).foldl (fun cs (c,j)=>cs.setIfInBounds (off + j) c) vs=(vs.toList.take (off + k)++l++vs.toList.drop (off + k + l.length)).toArray:=by
     intro l
     induction l with
     | nil=>intro k vs _;apply Array.ext';simp
     | cons c l ih2 =>
      intro k vs hk
      simp only [List.zipIdx_cons,List.foldl_cons]
      rw [ih2 (k + 1) _ (by simp at hk ⊢;omega)]
      apply Array.ext'
      simp only [List.length_cons] at hk ⊢
      have:=list_seg_step vs.toList (off + k) c l (by simpa using hk)
      simp only [Array.toList_setIfInBounds]
      rw [show off + (k + 1)=off + k + 1 by omega]
      rw [this]
    have hfold':(v.cells.zipIdx.foldl (fun cs (c,j)=>cs.setIfInBounds (off + j) c) vs)=(vs.toList.take off++v.cells.toList++vs.toList.drop (off + v.cells.size)).toArray:=by
     rw [← Array.foldl_toList]
     have:=hfold v.cells.toList 0 vs (by simp;omega)
     simp only [Nat.add_zero,Array.length_toList] at this
     rw [← this]
     simp
    have hfill:Instr.fill place vs ((i,v)::ps)=Instr.fill place (vs.toList.take off++v.cells.toList++vs.toList.drop (off + v.cells.size)).toArray ps:=by
     rw [Instr.fill,hplace]
     simp only
     rw [if_neg (by simp;omega),← hfold']
    rw [hfill]
    refine ih as ps _ _ cs' hb (by simpa using hl) (fun j o' p' e1 e2=>?_) (fun j a' p' e1 e2=>?_) ?_ ?_
    ·exact hpl (j + 1) o' p' e1 e2
    ·exact hr (j + 1) a' p' e1 e2
    ·simp [yv94];omega
    ·intro j a' v' e1 e2
     simp only [yv94] at e1
     simp only [List.getElem?_toArray] at e2
     by_cases c1:j < off
     ·rw [List.append_assoc,List.getElem?_append_left (by simp;omega),List.getElem?_take,if_pos c1] at e1 e2
      exact h2 j a' v' e1 (by simpa using e2)
     ·by_cases c2:j < off + v.cells.size
      ·rw [List.append_assoc,List.getElem?_append_right (by simp;omega),List.getElem?_append_left (by simp;omega)] at e1 e2
       have f1:min off cs.length=off:=by omega
       have f2:min off vs.size=off:=by omega
       simp [f1] at e1
       simp [f2] at e2
       exact q2 (j - off) a' v' e1 e2
      ·rw [List.getElem?_append_right (by simp;omega),List.getElem?_drop] at e1 e2
       refine h2 j a' v' ?_ ?_
       ·rw [← e1];congr 1;simp;omega
       ·rw [← Array.getElem?_toList,← e2];congr 1;simp;omega
theorem yv166 {α β:Type} {f:α->Sem β} {h:α->β} {w:World}:∀ {l:List α},(∀ a ∈ l,(f a).run P w=.ok (h a) w)->(l.mapM f).run P w=.ok (l.map h) w
 | [],_=>by simp
 | a::l,hf=>by
  have h1:=hf a (by simp)
  have h2:=yv166 (l:=l) (fun b hb=>hf b (by simp [hb]))
  simp [List.mapM_cons,h1,h2]
theorem yv198 {α β:Type} {f:α->Sem β} {h:α->β} {w:World} {l:Array α} (hf:∀ a ∈ l,(f a).run P w=.ok (h a) w):(l.mapM f).run P w=.ok (l.map h) w:=by
 have h1:=yv166 (P:=P) (l:=l.toList) (f:=f) (h:=h) (w:=w) (fun a ha=>hf a (Array.mem_toList_iff.1 ha))
 rw [← Array.toList_mapM] at h1
 rw [Sem.run_map] at h1
 cases hr:(l.mapM f).run P w with
 | ok x w' =>
  rw [hr] at h1
  simp at h1
  obtain ⟨h1,rfl⟩:=h1
  congr 1
  apply Array.ext'
  rw [h1];simp
 | halt x w'=>rw [hr] at h1;cases h1
theorem yv195 {t:TypeId}:∀ {offs:List (Nat × Nat)} {ps:List (Nat × Operand)},yv194 P t offs ps=true->ps.length=offs.length∧∀ (i:Nat) (off:Nat × Nat) (p:Nat × Operand),offs[i]?=some off->ps[i]?=some p->yv254 P t p.1=some off
 | [],[],_=>⟨rfl,fun i o p h=>by simp at h⟩
 | [],_::_,h=>by simp [yv194] at h
 | _::_,[],h=>by simp [yv194] at h
 | off::offs,(i,x)::ps,h=>by
  simp [yv194] at h
  obtain ⟨h1,h2⟩:=h
  obtain ⟨h3,h4⟩:=yv195 h2
  refine ⟨by simp [h3],fun j o p e1 e2=>?_⟩
  cases j with
  | zero=>simp at e1 e2;subst e1 e2;exact h1
  | succ j=>exact h4 j o p e1 e2
theorem yv374 {zs:List AV} {offs:List (Nat × Nat)} (hop:s.op=.build zs offs) (ok:okOp P o s=true):Right P W0 o s:=by
 intro φ g w H a as us r H' hi hh ha he
 simp only [okOp,hop] at ok
 simp only [hop,POp.ev] at he
 split at ok
 case h_2=>cases ok
 rename_i t parts hy
 simp only [Bool.and_eq_true] at ok
 obtain ⟨⟨⟨ok1,ok2⟩,ok3⟩,ok4⟩:=ok
 simp only [Option.map_eq_some_iff] at he
 obtain ⟨cs,hcs,he⟩:=he
 simp at he;obtain ⟨rfl,rfl⟩:=he
 obtain ⟨l1,l2,hc,hr⟩:=ha
 obtain ⟨z,hz,hok⟩:=yv55 ok1 w
 obtain ⟨z1,z2⟩:=yv40 (base:=W0.heap.size) (n:=H.length) (φ:=φ) (g:=g) (w:=w) hok
 obtain ⟨p1,p2⟩:=yv195 ok3
 have hm:=yv113 ok4 (by omega) hc
 have hlen:=yv31 ok4
 have hps:(parts.map fun (i,x)=>(i,a.eval x)).toList=parts.toList.map fun (i,x)=>(i,a.eval x):=by simp
 have hus:∀ (i:Nat) (p:Nat × Value),(parts.toList.map fun (i,x)=>(i,a.eval x))[i]?=some p->∃ q,parts.toList[i]?=some q∧p=(q.1,a.eval q.2)∧us[i]?=some p.2:=by
  intro i p h
  rw [List.getElem?_map] at h
  cases hq:parts.toList[i]? with
  | none=>simp [hq] at h
  | some q =>
   simp [hq] at h
   refine ⟨q,rfl,h.symm,?_⟩
   rw [← hm,List.getElem?_map,List.getElem?_map,hq]
   simp [← h]
 have key:∀ (place:Nat->Option (Nat × Nat)),(∀ i off,yv254 P t i=some off->place i=some off) ->
  ∃ vs',Instr.fill place z.cells (parts.map fun (i,x)=>(i,a.eval x)).toList=some vs'∧cs.length=vs'.size ∧
   ∀ (j:Nat) (a:AV) (v:Value),cs[j]?=some a->vs'[j]?=some v->noOwn a=true∧(∃ l,RepC W0.heap.size H.length φ g w l a v)∧v.oneCell'=true:=by
  intro place hplace
  rw [hps]
  refine yv355 offs as _ zs z.cells cs hcs (by simpa using p1) ?_ ?_ z1 z2
  ·intro i off p e1 e2
   obtain ⟨q,q1,rfl,q2⟩:=hus i p e2
   exact hplace _ _ (p2 i off q e1 q1)
  ·intro i a' p e1 e2
   obtain ⟨q,q1,rfl,q2⟩:=hus i p e2
   exact ⟨_,hr i a' _ e1 q2⟩
 have fin:∀ vs',(Instr.build t (parts.map fun (i,x)=>(i,a.eval x))).run P w=.ok (.agg vs') w->cs.length=vs'.size ->
  (∀ (j:Nat) (a:AV) (v:Value),cs[j]?=some a->vs'[j]?=some v->noOwn a=true∧(∃ l,RepC W0.heap.size H.length φ g w l a v)∧v.oneCell'=true) ->
  ∃ v φ' g' w',Done P o a w v w'∧Post W0 H.length φ g w φ' g' w' H (.agg cs) v:=by
  intro vs' h1 h2 h3
  refine ⟨.agg vs',φ,g,w,.inl (by simp [execOp,hy,h1]),.same hi hh (.b _ _ (.agg _ _ h2 (fun i a' v e1 e2=>?_) ?_))⟩
  ·obtain ⟨q1,⟨l,q2⟩,q3⟩:=h3 i a' v e1 e2
   exact q2.keepN (Ext.refl _ _ _) (Nat.le_refl _) (fun _ _=>rfl) q1
  ·intro v hv
   obtain ⟨i,hi'⟩:=List.getElem?_of_mem (Array.mem_toList_iff.2 hv)
   simp only [Array.getElem?_toList] at hi'
   have hlt:i < cs.length:=by rw [h2];exact (Array.getElem?_eq_some_iff.1 hi').1
   exact (h3 i _ v (List.getElem?_eq_getElem hlt) hi').2.2
 unfold yv764 at ok2
 split at ok2
 ·rename_i fs hfs
  have hmap:(fs.mapM fun f=>do pure (f.offset,← Go.sizeOf f.type):Sem (Array (Nat × Nat))).run P w=.ok (fs.map fun f=>(f.offset,((P.info? f.type).map (·.size)).getD 0)) w:=by
   refine yv198 fun f hf=>?_
   have:=List.all_eq_true.1 ok2 f (Array.mem_toList_iff.2 hf)
   cases hinf:P.info? f.type with
   | none=>simp [hinf] at this
   | some inf=>simp [Go.sizeOf,typeInfo,hinf]
  obtain ⟨vs',k1,k2,k3⟩:=key (fun i=>(fs.map fun f=>(f.offset,((P.info? f.type).map (·.size)).getD 0))[i]?) (by
   intro i off h
   unfold yv254 at h
   rw [hfs] at h
   simp only at h
   split at h
   ·rename_i o' ft hoff
    simp only [Option.map_eq_some_iff] at h
    obtain ⟨m,hm',rfl⟩:=h
    unfold offOf at hoff
    rw [hfs] at hoff
    simp only [Option.map_eq_some_iff] at hoff
    obtain ⟨f,hf,e⟩:=hoff
    simp at e
    obtain ⟨rfl,rfl⟩:=e
    unfold sizeN at hm'
    rw [Array.getElem?_map,hf]
    simp [hm']
   ·cases h)
  refine fin vs' ?_ k2 k3
  simp only [Instr.build,Sem.run_bind,hz,Result.andThen_ok,run_underlying hfs,hmap,k1,Sem.run_pure]
 ·rename_i m e hfs
  have hsz:(Go.sizeOf e).run P w=.ok (((P.info? e).map (·.size)).getD 0) w:=by
   cases hinf:P.info? e with
   | none=>simp [hinf] at ok2
   | some inf=>simp [Go.sizeOf,typeInfo,hinf]
  obtain ⟨vs',k1,k2,k3⟩:=key (fun i=>some (i * ((P.info? e).map (·.size)).getD 0,((P.info? e).map (·.size)).getD 0)) (by
   intro i off h
   unfold yv254 at h
   rw [hfs] at h
   simp only [Option.map_eq_some_iff] at h
   obtain ⟨m,hm',rfl⟩:=h
   unfold sizeN at hm'
   simp [hm'])
  refine fin vs' ?_ k2 k3
  simp only [Instr.build,Sem.run_bind,hz,Result.andThen_ok,run_underlying hfs,hsz,k1,Sem.run_pure]
 ·cases ok2
end Go.Rv
namespace Go.Rv
open Go.RowKit
variable {P:Program} {W0:World} {o:Oper} {s:SOp}
structure RowCells (base:Nat) (g:Gh) (w:World) (sz:Nat) (rows:List (List PV)) (xs:List Value):Prop where
 len:xs.length=rows.length * sz
 hsz:∀ r ∈ rows,r.length=sz
 rep:∀ i r j c,rows[i]?=some r->r[j]?=some c->∃ u,xs[i * sz + j]?=some u∧RepP base g w c u
theorem RowCells.one {base:Nat} {g:Gh} {w:World} {sz:Nat} {rows:List (List PV)} {xs:List Value} (h:RowCells base g w sz rows xs):∀ u ∈ xs,u.oneCell'=true:=by
 intro u hu
 obtain ⟨k,hk⟩:=List.getElem?_of_mem hu
 have hlt:k < rows.length * sz:=by rw [← h.len];exact (List.getElem?_eq_some_iff.1 hk).1
 have hsz:0 < sz:=by
  rcases Nat.eq_zero_or_pos sz with e|e
  ·subst e;simp at hlt
  ·exact e
 have h1:k / sz < rows.length:=(Nat.div_lt_iff_lt_mul hsz).2 hlt
 have h2:k % sz < sz:=Nat.mod_lt _ hsz
 have h3:=h.hsz _ (List.getElem_mem h1)
 obtain ⟨u',q1,q2⟩:=h.rep (k / sz) _ (k % sz) _ (List.getElem?_eq_getElem h1) (List.getElem?_eq_getElem (by omega))
 rw [show k / sz * sz + k % sz=k from by rw [Nat.mul_comm];exact Nat.div_add_mod k sz] at q1
 rw [q1] at hk;cases hk
 exact q2.one
theorem RowCells.ext {base:Nat} {g g':Gh} {w w':World} {sz:Nat} {rows:List (List PV)} {xs:List Value} (x:Ext base g w g' w') (h:RowCells base g w sz rows xs):RowCells base g' w' sz rows xs :=
 ⟨h.len,h.hsz,fun i r j c p q=>let ⟨u,a,b⟩:=h.rep i r j c p q;⟨u,a,b.ext x⟩⟩
theorem RowCells.nil {base:Nat} {g:Gh} {w:World} {sz:Nat}:RowCells base g w sz [] []:=⟨by simp,by simp,fun i r j c p=>by simp at p⟩
theorem RowCells.append {base:Nat} {g:Gh} {w:World} {sz:Nat} {rows rows':List (List PV)} {xs xs':List Value} (h:RowCells base g w sz rows xs) (k:RowCells base g w sz rows' xs') :
 RowCells base g w sz (rows++rows') (xs++xs'):=by
 refine ⟨by simp [h.len,k.len,Nat.add_mul],fun r hr=>?_,?_⟩
 ·rcases List.mem_append.1 hr with hr|hr
  ·exact h.hsz r hr
  ·exact k.hsz r hr
 ·intro i r j c p q
  by_cases hi:i < rows.length
  ·rw [List.getElem?_append_left hi] at p
   obtain ⟨u,a,b⟩:=h.rep i r j c p q
   exact ⟨u,by rw [List.getElem?_append_left (List.getElem?_eq_some_iff.1 a).1];exact a,b⟩
  ·rw [List.getElem?_append_right (by omega)] at p
   obtain ⟨u,a,b⟩:=k.rep _ r j c p q
   refine ⟨u,?_,b⟩
   have hm:rows.length * sz ≤ i * sz:=Nat.mul_le_mul_right _ (by omega)
   rw [List.getElem?_append_right (by rw [h.len];omega),← a,h.len]
   congr 1
   rw [Nat.sub_mul]
   omega
theorem yv631 {base:Nat} {g:Gh} {w:World} {l:Loc} {sz:Nat} {rows:List (List PV)} {b cap:Nat} {e:TypeId} {cur:Array Value} {xs:List Value} (hb:base ≤ b)
 (h1:w.heap[b]?=some (.cells cur e (0,0))) (h2:cap * sz ≤ cur.size) (h3:rows.length ≤ cap) (h5:g.lim b=rows.length * sz) (h6:g.ow b=some l)
 (h7:cur.toList.take (rows.length * sz)=xs) (h8:RowCells base g w sz rows xs):Owns base g w l sz rows (.slice (some ⟨b,0,none⟩) rows.length cap) b cap e cur:=by
 refine ⟨rfl,hb,h1,h2,h3,h5,h6,h8.hsz,?_⟩
 intro i r j c p q
 obtain ⟨u,k1,k2⟩:=h8.rep i r j c p q
 refine ⟨u,?_,k2⟩
 rw [← h7,List.getElem?_take] at k1
 split at k1
 ·simpa using k1
 ·cases k1
theorem Owns.cellsOf {base:Nat} {g:Gh} {w:World} {l:Loc} {sz:Nat} {rows:List (List PV)} {v:Value} {b cap:Nat} {e:TypeId} {cur:Array Value} (h:Owns base g w l sz rows v b cap e cur) :
 RowCells base g w sz rows (cur.toList.take (rows.length * sz)):=by
 have hm:rows.length * sz ≤ cap * sz:=Nat.mul_le_mul_right _ h.le
 have hc:cap * sz ≤ cur.toList.length:=by simpa using h.size
 refine ⟨by rw [List.length_take];omega,h.hsz,?_⟩
 intro i r j c p q
 obtain ⟨u,k1,k2⟩:=h.cells i r j c p q
 refine ⟨u,?_,k2⟩
 have h1:=(List.getElem?_eq_some_iff.1 p).1
 have h2:=(List.getElem?_eq_some_iff.1 q).1
 have h3:=h.hsz r (List.mem_of_getElem? p)
 have h4:(i + 1) * sz ≤ rows.length * sz:=Nat.mul_le_mul_right _ h1
 rw [Nat.add_mul] at h4
 rw [List.getElem?_take,if_pos (by omega)]
 simpa using k1
theorem yv83 {base n:Nat} {φ:Nat->Nat} {g:Gh} {w:World} {l:Loc} {sz:Nat} {a:AV} {v:Value} {rows:List (List PV)} (hsz:0 < sz) (h:yv93 sz a=some rows) (r:RepA base n φ g w l a v) :
 (v=.slice none 0 0∧rows=[])∨∃ ad c xs,v=.slice (some ad) rows.length c∧rows.length ≤ c∧RowCells base g w sz rows xs∧∀ j u,xs[j]?=some u->w.cell? (ad.add j)=some u:=by
 unfold yv93 at h
 split at h
 ·split at h
  case isFalse=>cases h
  rename_i z rows hz;subst hz
  simp at h;subst h
  have h0:=r.of_0 trivial
  cases h0 with
  | pv _ _ h0 =>
   cases h0 with
   | none _ a cap=>exact .inr ⟨a,cap,[],rfl,Nat.zero_le _,RowCells.nil,fun j u hj=>by simp at hj⟩
   | sl _ _ b off cap val q1 q2 q3 q6 q4 q5 =>
    refine .inr ⟨⟨b,off,none⟩,cap,(List.range (rows.length * z)).map fun k=>val (k / z) (k % z),rfl,q6,⟨by simp,q1,?_⟩,?_⟩
    ·intro i r j c p q
     have h1:=(List.getElem?_eq_some_iff.1 p).1
     have h2:=(List.getElem?_eq_some_iff.1 q).1
     have h3:=q1 r (List.mem_of_getElem? p)
     have h4:(i + 1) * z ≤ rows.length * z:=Nat.mul_le_mul_right _ h1
     rw [Nat.add_mul] at h4
     refine ⟨val i j,?_,q5 i r j c p q⟩
     have hlt:i * z + j < rows.length * z:=by omega
     have e1:(i * z + j) / z=i:=by rw [Nat.mul_comm,Nat.mul_add_div hsz,Nat.div_eq_of_lt (by omega)];rfl
     have e2:(i * z + j) % z=j:=by rw [Nat.mul_comm,Nat.mul_add_mod,Nat.mod_eq_of_lt (by omega)]
     simp [hlt,e1,e2]
    ·intro k u hk
     have hlt:k < rows.length * z:=by simpa using (List.getElem?_eq_some_iff.1 hk).1
     simp [hlt] at hk
     subst hk
     have h1:k / z < rows.length:=(Nat.div_lt_iff_lt_mul hsz).2 hlt
     have h2:k % z < z:=Nat.mod_lt _ hsz
     have h3:=q1 _ (List.getElem_mem h1)
     have:=q4 (k / z) _ (k % z) _ (List.getElem?_eq_getElem h1) (List.getElem?_eq_getElem (by omega))
     rw [show k / z * z + k % z=k from by rw [Nat.mul_comm];exact Nat.div_add_mod k z] at this
     rw [yv20]
     exact this
 ·split at h
  case isFalse=>cases h
  rename_i hz;subst hz
  simp at h;subst h
  cases r with
  | b _ _ r=>cases r with
   | c _ _ r=>cases r with
    | zero _ _ r=>cases r
    | own _ _ _ b cap e cur r =>
     refine .inr ⟨⟨b,0,none⟩,cap,_,r.v,r.le,r.cellsOf,?_⟩
     intro j u hj
     rw [yv20]
     rw [List.getElem?_take] at hj
     split at hj
     ·simp [World.cell?,r.heap];simpa using hj
     ·cases hj
 ·simp at h;subst h
  obtain ⟨rfl,_⟩:=r.of_lit
  exact .inl ⟨rfl,rfl⟩
 ·cases h
theorem Inv.drew {g:Gh} {w:World} (h:Inv W0 g w):Inv W0 g w.drew:=⟨h.below.drew,h.old,h.new⟩
theorem yv106 {base:Nat} {g:Gh} {w:World}:Ext base g w g w.drew:=⟨Nat.le_refl _,fun _=>Nat.le_refl _,fun _ _ _ _=>rfl,fun _=>Nat.le_refl _⟩
theorem yv214 {base:Nat} {g:Gh} {w:World} {l:Loc}:KeepU base g w g w.drew l l:=⟨⟨fun _ h=>⟨rfl,rfl,h⟩⟩,fun _=>⟨fun _ h=>⟨rfl,rfl,h⟩⟩,fun _ _=>⟨fun _ h=>⟨rfl,rfl,h⟩⟩⟩
theorem RepH.drew {base:Nat} {φ:Nat->Nat} {g:Gh} {w:World} {H:Heap} (h:RepH base φ g w H):RepH base φ g w.drew H :=
 fun id hid=>(h id hid).keep yv106 (Nat.le_refl _) (fun _ _=>rfl) hid yv214.k0 (fun _=>yv214)
theorem Post.undrew {n:Nat} {φ φ':Nat->Nat} {g g':Gh} {w w':World} {H':Heap} {r:AV} {v:Value} (h:Post W0 n φ g w.drew φ' g' w' H' r v):Post W0 n φ g w φ' g' w' H' r v :=
 ⟨h.inv,yv106.trans h.ext,h.hp,h.len,h.phi,h.res,h.frame⟩
theorem Post.made {φ:Nat->Nat} {g:Gh} {w:World} {H:Heap} {sz cap:Nat} {rows:List (List PV)} {xs:List Value} {cur:Array Value} {e:TypeId} (hi:Inv W0 g w) (hh:RepH W0.heap.size φ g w H)
 (h2:cur.size=cap * sz) (h3:rows.length ≤ cap) (h4:cap ≤ maxLen) (h7:cur.toList.take (rows.length * sz)=xs) (h8:RowCells W0.heap.size g w sz rows xs) :
 Post W0 H.length φ g w φ (g.own w.heap.size .res (rows.length * sz)) (w.alloc (.cells cur e)) H (.own sz rows) (.slice (some ⟨w.heap.size,0,none⟩) rows.length cap) :=
 .fresh hi hh _ _ _ (.b _ _ (.c _ _ (.own _ _ _ _ _ _ _ (yv631 hi.below.size (heap_alloc_new w _) (Nat.le_of_eq h2.symm) h3 Gh.own_lim_self Gh.own_ow_self h7 (h8.ext (yv133 hi _ _ _))))))
theorem yv24 {t:TypeId} {sz bytes:Nat} (h:yv209 P t sz bytes=true):∃ e i z,P.underlying t=some (.slice e)∧P.info? e=some i∧i.size=sz∧i.bytes=bytes∧0 < sz∧i.zero=some z∧z.cells.size=sz:=by
 unfold yv209 at h
 split at h
 ·rename_i e he
  split at h
  ·rename_i i hi
   simp only [Bool.and_eq_true,beq_iff_eq,decide_eq_true_eq] at h
   obtain ⟨⟨⟨h1,h2⟩,h3⟩,h4⟩:=h
   split at h4
   ·rename_i z hz
    exact ⟨e,i,z,he,hi,h1,h2,h3,hz,by simpa using h4⟩
   ·cases h4
  ·cases h
 ·cases h
theorem yv246 {g:Gh} {w:World} {φ:Nat->Nat} {H:Heap} {sz old:Nat} {rows:List (List PV)} {xs:List Value} {e:TypeId} {z:Value} (hi:Inv W0 g w) (hh:RepH W0.heap.size φ g w H)
 (hz:z.cells.size=sz) (hlen:rows.length ≤ maxLen) (h8:RowCells W0.heap.size g w sz rows xs) :
 Post W0 H.length φ g w φ (g.own w.heap.size .res (rows.length * sz)) (w.drew.alloc (.cells (xs.toArray++Builtin.zeroCells z.cells (grownCap w rows.length old e - rows.length)) e)) H
  (.own sz rows) (.slice (some ⟨w.heap.size,0,none⟩) rows.length (grownCap w rows.length old e)):=by
 have hge:=grownCap_ge w rows.length old e
 have hcm:grownCap w rows.length old e ≤ maxLen:=grownCap_le_maxLen w rows.length old e hlen
 refine (Post.made (w:=w.drew) (cap:=grownCap w rows.length old e) (xs:=xs) hi.drew hh.drew ?_ hge hcm ?_ (h8.ext yv106)).undrew
 ·simp only [Array.size_append,List.size_toArray,size_zeroCells,hz,h8.len,← Nat.add_mul]
  congr 1
  omega
 ·simp only [Array.toList_append]
  rw [← h8.len]
  exact List.take_left
theorem Post.grewHere {φ:Nat->Nat} {g:Gh} {w:World} {H:Heap} {sz cap b:Nat} {rows rows':List (List PV)} {xs':List Value} {cur:Array Value} {e:TypeId} {v:Value} {i:Nat}
 (hi:Inv W0 g w) (hh:RepH W0.heap.size φ g w H) (h:Owns W0.heap.size g w (.arg i) sz rows v b cap e cur) (h8:RowCells W0.heap.size g w sz rows' xs') (hroom:rows.length + rows'.length ≤ cap) :
 Post W0 H.length φ g w φ (g.own b .res ((rows++rows').length * sz)) (w.setRow b (cur.toList.take (rows.length * sz)++xs'++cur.toList.drop (rows.length * sz + xs'.length)).toArray) H
  (.own sz (rows++rows')) (.slice (some ⟨b,0,none⟩) (rows.length + rows'.length) cap):=by
 have hbl:b < w.heap.size:=(Array.getElem?_eq_some_iff.1 h.heap).1
 have hc:cap * sz ≤ cur.toList.length:=by simpa using h.size
 have hm:(rows.length + rows'.length) * sz ≤ cap * sz:=Nat.mul_le_mul_right _ hroom
 rw [Nat.add_mul] at hm
 have hfit:rows.length * sz + xs'.length ≤ cur.toList.length:=by rw [h8.len];omega
 have hself:=setRow_heap w b cur (cur.toList.take (rows.length * sz)++xs'++cur.toList.drop (rows.length * sz + xs'.length)).toArray e (0,0) h.heap
 have hlim:∀ k,g.lim k ≤ (g.own b .res ((rows++rows').length * sz)).lim k:=by
  intro k
  by_cases hk:k=b
  ·subst hk;rw [Gh.own_lim_self,h.lim,List.length_append,Nat.add_mul];omega
  ·rw [Gh.own_lim hk];exact Nat.le_refl _
 have x:Ext W0.heap.size g w (g.own b .res ((rows++rows').length * sz)) (w.setRow b (cur.toList.take (rows.length * sz)++xs'++cur.toList.drop (rows.length * sz + xs'.length)).toArray):=by
  refine ⟨by simp,hlim,fun k o hk him=>?_,yv60 (by simp [yv21,h.heap];have:=h.size;simp at hfit;omega)⟩
  by_cases hkb:k=b
  ·subst hkb
   rcases him with him|him
   ·exact absurd h.hb (by omega)
   ·rw [h.lim] at him
    simp only [World.cell?,hself,h.heap,Option.isSome_none,Bool.false_eq_true,if_false,List.getElem?_toArray]
    rw [List.append_assoc,List.getElem?_append_left (by rw [List.length_take];omega),List.getElem?_take,if_pos him]
    simp
  ·exact cell_setRow_other w b _ ⟨k,o,none⟩ hkb
 have other:∀ k l,g.ow k=some l->l ≠ .arg i->k ≠ b:=by
  rintro k l h1 h2 rfl
  rw [h.ow] at h1;cases h1;exact h2 rfl
 have keep:∀ l,l ≠ .arg i->Keep W0.heap.size g w (g.own b .res ((rows++rows').length * sz)) (w.setRow b (cur.toList.take (rows.length * sz)++xs'++cur.toList.drop (rows.length * sz + xs'.length)).toArray) l l:=by
  intro l hl
  refine ⟨fun k hk=>?_⟩
  have:=other k l hk hl
  exact ⟨setRow_other w b k _ this,Gh.own_lim this,(Gh.own_ow this).trans hk⟩
 refine ⟨⟨yv79 hi.below h.hb _,fun k hk=>?_,fun k hk=>?_⟩,x,fun id hid=>?_,Nat.le_refl _,fun _ _=>rfl,?_,?_⟩
 ·have:k ≠ b:=by have:=h.hb;omega
  rw [Gh.own_lim this,Gh.own_ow this];exact hi.old k hk
 ·have:k ≠ b:=by have:w.heap.size ≤ k:=by simpa using hk
                 omega
  rw [Gh.own_lim this,Gh.own_ow this];exact hi.new k (by simpa using hk)
 ·exact (hh id hid).keep x (Nat.le_refl _) (fun _ _=>rfl) hid (keep _ (by simp)) (fun j=>⟨keep _ (by simp),fun _=>keep _ (by simp),fun _ _=>keep _ (by simp)⟩)
 ·have:=yv631 (cap:=cap) (l:=.res) (rows:=rows++rows') (xs:=cur.toList.take (rows.length * sz)++xs') h.hb hself (by have hq:cur.toList.length=cur.size:=Array.length_toList;rw [List.size_toArray,List.length_append,List.length_append,List.length_take,List.length_drop];omega) (by simpa using hroom) Gh.own_lim_self Gh.own_ow_self ?_ ((h.cellsOf.append h8).ext x)
  ·have h9:rows.length + rows'.length=(rows++rows').length:=by simp
   rw [h9]
   exact .b _ _ (.c _ _ (.own _ _ _ _ _ _ _ this))
  ·have:(rows++rows').length * sz=(cur.toList.take (rows.length * sz)++xs').length:=by rw [List.length_append,List.length_append,List.length_take,h8.len,Nat.add_mul];omega
   rw [this]
   exact List.take_left
 ·intro k hk hl
  have:k ≠ b:=by
   rintro rfl
   have:=hl _ h.ow
   simp [Loc.isEnv,Loc.root] at this
  exact ⟨setRow_other w b k _ this,Gh.own_lim this,Gh.own_ow this⟩
end Go.Rv
namespace Go.Rv
open Go.RowKit
variable {P:Program} {W0:World} {o:Oper} {s:SOp}
theorem yv105 {a:Act} {w w':World} {x y:Operand} {t u:TypeId} {v:Value} (hy:o.op=.call { callee:=.builtin .append,args:=#[x,y],argTypes:=#[t,u] })
 (h:(Builtin.append_ #[t,u] o.type #[a.eval x,a.eval y]).run P w=.ok v w'):Done P o a w v w':=by
 left
 simp [execOp,hy,resolve,invoke,builtin,h]
structure Adds (P:Program) (base:Nat) (g:Gh) (w:World) (sz:Nat) (u:TypeId) (y:Value) (rows:List (List PV)) (xs:List Value):Prop where
 ty:P.underlying u=some .string∨∃ e,P.underlying u=some (.slice e)
 len:(Builtin.lenOf y).run P w=.ok rows.length w
 first:(Builtin.firstCells sz rows.length y).run P w=.ok xs.toArray w
 first':(Builtin.firstCells sz rows.length y).run P w.drew=.ok xs.toArray w.drew
 cells:RowCells base g w sz rows xs
section
variable {w:World} {base:Nat} {g:Gh}
theorem yv301 {t u ty e e':TypeId} {i:TypeInfo} (ht:P.underlying t=some (.slice e)) (hi:P.info? e=some i) {b sLen sCap:Nat} {cur:Array Value} (hg:w.heap[b]?=some (.cells cur e' (0,0)))
 {y:Value} {rows:List (List PV)} {news:List Value} (ha:Adds P base g w i.size u y rows news) (hroom:sLen + rows.length ≤ sCap) (hfit:sLen * i.size + news.length ≤ cur.size) :
 (Builtin.append_ #[t,u] ty #[.slice (some ⟨b,0,none⟩) sLen sCap,y]).run P w =
  .ok (.slice (some ⟨b,0,none⟩) (sLen + rows.length) sCap) (w.setRow b (cur.toList.take (sLen * i.size)++news++cur.toList.drop (sLen * i.size + news.length)).toArray):=by
 have hst:=run_storeCells_at P b (sLen * i.size) e' news 0 cur w hg (by simpa using hfit) ha.cells.one
 simp only [Nat.add_zero] at hst
 rcases ha.ty with hu|⟨_,hu⟩ <;>
 simp [Builtin.append_,run_underlying ht,run_underlying hu,Go.sizeOf,typeInfo,hi,ha.len,hroom,ha.first,yv20,hst]
theorem yv205 {t u ty e:TypeId} {i:TypeInfo} {z:Value} (ht:P.underlying t=some (.slice e)) (hi:P.info? e=some i) (hz:i.zero=some z) {ad:Option Addr} {sLen sCap:Nat} {olds:List Value}
 (ho:(Builtin.firstCells i.size sLen (.slice ad sLen sCap)).run P w.drew=.ok olds.toArray w.drew)
 {y:Value} {rows:List (List PV)} {news:List Value} (ha:Adds P base g w i.size u y rows news) (hgt:sCap < sLen + rows.length) (h63:((sLen + rows.length:Nat):Int) ≤ 9223372036854775807)
 (hfit:Builtin.nextslicecap (sLen + rows.length) sCap * i.bytes ≤ 281474976710656) :
 (Builtin.append_ #[t,u] ty #[.slice ad sLen sCap,y]).run P w =
  .ok (.slice (some ⟨w.heap.size,0,none⟩) (sLen + rows.length) (grownCap w (sLen + rows.length) sCap e))
   (w.drew.alloc (.cells (olds.toArray++news.toArray++Builtin.zeroCells z.cells (grownCap w (sLen + rows.length) sCap e - (sLen + rows.length))) e)):=by
 have hn:¬ (sLen + rows.length ≤ sCap):=by omega
 have h63':¬ (9223372036854775807 < ((sLen:Int) + (rows.length:Int))):=by omega
 have h48':¬ (281474976710656 < Builtin.nextslicecap (sLen + rows.length) sCap * i.bytes):=by omega
 have hfin:(⟨olds⟩:Array Value)++(⟨news⟩++Builtin.zeroCells z.cells (grownCap w (sLen + rows.length) sCap e - (sLen + rows.length)))=⟨olds⟩++⟨news⟩++Builtin.zeroCells z.cells (grownCap w (sLen + rows.length) sCap e - (sLen + rows.length)):=by rw [Array.append_assoc]
 rcases ha.ty with hu|⟨_,hu⟩
 all_goals
  simp [Builtin.append_,run_underlying ht,run_underlying hu,Go.sizeOf,typeInfo,zeroValue,hi,hz,ha.len,hn,h63',h48',Question.forced,ha.first',ho,newRow,grownCap]
  try (congr 2;apply Array.ext';simp [List.append_assoc])
theorem yv300 {t u ty e:TypeId} {i:TypeInfo} (ht:P.underlying t=some (.slice e)) (hi:P.info? e=some i) {ad:Option Addr} {n c:Nat} {y:Value} {news:List Value} (ha:Adds P base g w i.size u y [] news) (hnc:n ≤ c) :
 (Builtin.append_ #[t,u] ty #[.slice ad n c,y]).run P w=.ok (.slice ad n c) w:=by
 have h1:=ha.len
 have h2:=ha.first
 have h3:news=[]:=List.eq_nil_of_length_eq_zero (by simpa using ha.cells.len)
 subst h3
 simp only [List.length_nil] at h1 h2
 rcases ha.ty with hu|⟨_,hu⟩<;>cases ad<;>simp [Builtin.append_,run_underlying ht,run_underlying hu,Go.sizeOf,typeInfo,hi,h1,hnc,h2,storeCells]
end
theorem yv309 {φ:Nat->Nat} {g:Gh} {w:World} {H:Heap} {sz bytes:Nat} {ax r:AV} {ux uy:Value} {rows':List (List PV)} {xs:List Value} {t u ty:TypeId} {i:Nat}
 (hi:Inv W0 g w) (hh:RepH W0.heap.size φ g w H) (he:yv209 P t sz bytes=true) (hr:appR sz bytes ax rows'=some r)
 (rx:RepA W0.heap.size H.length φ g w (.arg i) ax ux) (hy:Adds P W0.heap.size g w sz u uy rows' xs) :
 ∃ v φ' g' w',(Builtin.append_ #[t,u] ty #[ux,uy]).run P w=.ok v w'∧Post W0 H.length φ g w φ' g' w' H r v:=by
 obtain ⟨e,inf,z,hte,hinf,hsz,hby,hpos,hz,hzs⟩:=yv24 he
 subst hsz hby
 have h8:=hy.cells
 unfold appR at hr
 split at hr
 ·rename_i z' rows
  split at hr
  case isFalse=>cases hr
  rename_i hcond
  obtain ⟨rfl,hroom1,hroom2⟩:=hcond
  simp at hr;subst hr
  obtain ⟨b,cap,e',cur,ho⟩:∃ b cap e' cur,Owns W0.heap.size g w (.arg i) inf.size rows ux b cap e' cur:=by
   cases rx with
   | b _ _ rx=>cases rx with
    | c _ _ rx=>cases rx with
     | zero _ _ rx=>cases rx
     | own _ _ _ b cap e' cur rx=>exact ⟨b,cap,e',cur,rx⟩
  by_cases hfit:rows.length + rows'.length ≤ cap
  ·rw [ho.v]
   refine ⟨_,φ,_,_,yv301 hte hinf ho.heap hy hfit ?_,.grewHere hi hh ho h8 hfit⟩
   rw [h8.len,← Nat.add_mul]
   exact Nat.le_trans (Nat.mul_le_mul_right _ hfit) ho.size
  ·have hsmall:rows.length + rows'.length ≤ maxLen:=by unfold maxLen;unfold room at hroom2;omega
   have hold:(Builtin.firstCells inf.size rows.length (.slice (some ⟨b,0,none⟩) rows.length cap)).run P w.drew=.ok (cur.toList.take (rows.length * inf.size)).toArray w.drew :=
    run_firstCells_some w.drew _ _ _ _ _ _ ho.cellsOf.len (by
     intro j v hj
     rw [yv20]
     rw [List.getElem?_take] at hj
     split at hj
     ·rw [World.cell?_drew];simp [World.cell?,ho.heap];simpa using hj
     ·cases hj)
   have hrun:=yv205 (ty:=ty) hte hinf hz hold hy (by omega) (by unfold room at hroom2;omega) (growslice_fits (by omega) hroom1)
   rw [ho.v]
   refine ⟨_,φ,g.own w.heap.size .res ((rows.length + rows'.length) * inf.size),_,hrun,?_⟩
   have:=yv246 (rows:=rows++rows') (xs:=cur.toList.take (rows.length * inf.size)++xs) (old:=cap) (e:=e) hi hh hzs (by simpa using hsmall) (ho.cellsOf.append h8)
   simp only [List.length_append] at this ⊢
   simpa using this
 ·obtain ⟨rfl,_⟩:=rx.of_lit
  split at hr
  ·simp at hr;subst hr
   exact ⟨_,φ,g,w,yv300 hte hinf hy (Nat.le_refl _),.same hi hh (.lit rfl)⟩
  ·rename_i row rs
   split at hr
   case isFalse=>cases hr
   rename_i hcond
   obtain ⟨hroom1,hroom2⟩:=hcond
   simp at hr;subst hr
   have hlen:(row::rs).length=rs.length + 1:=rfl
   have hrun:=yv205 (ty:=ty) (ad:=none) (sLen:=0) (sCap:=0) (olds:=[]) hte hinf hz (by simp [Builtin.firstCells]) hy (by simp) (by unfold room at hroom2;simp;omega)
    (growslice_fits (by simp) (by unfold room at hroom1;rw [hlen];simpa using hroom1))
   simp only [Nat.zero_add] at hrun
   refine ⟨_,φ,g.own w.heap.size .res ((row::rs).length * inf.size),_,hrun,?_⟩
   have:=yv246 (rows:=row::rs) (xs:=xs) (old:=0) (e:=e) hi hh hzs (by unfold maxLen;unfold room at hroom2;rw [hlen];omega) h8
   simpa using this
 ·split at hr
  case h_2=>cases hr
  simp at hr;subst hr
  have h0:=rx.of_0 trivial
  have hv:∃ ad n c,ux=.slice ad n c∧n ≤ c:=by
   cases h0 with
   | pv _ _ h0=>cases h0 with
    | none _ a cap=>exact ⟨_,_,_,rfl,Nat.zero_le _⟩
    | sl _ _ _ _ _ _ _ _ _ q6=>exact ⟨_,_,_,rfl,q6⟩
  obtain ⟨ad,n,c,rfl,e2⟩:=hv
  exact ⟨_,φ,g,w,yv300 hte hinf hy e2,.same hi hh (.r0 h0)⟩
 ·cases hr
theorem yv234 {base:Nat} {g:Gh} {w:World} {sz:Nat} {t e:TypeId} {uy:Value} {rows':List (List PV)} (ht:P.underlying t=some (.slice e))
 (hy:(uy=.slice none 0 0∧rows'=[])∨∃ ad c xs,uy=.slice (some ad) rows'.length c∧rows'.length ≤ c∧RowCells base g w sz rows' xs∧∀ j u,xs[j]?=some u->w.cell? (ad.add j)=some u) :
 ∃ xs,Adds P base g w sz t uy rows' xs:=by
 rcases hy with ⟨rfl,rfl⟩|⟨ad,c,xs,rfl,hc,h8,hcell⟩
 ·exact ⟨[],.inr ⟨_,ht⟩,by simp [Builtin.lenOf],by simp [Builtin.firstCells],by simp [Builtin.firstCells],RowCells.nil⟩
 ·exact ⟨xs,.inr ⟨_,ht⟩,by simp [Builtin.lenOf],run_firstCells_some w _ _ _ _ _ _ h8.len hcell,run_firstCells_some w.drew _ _ _ _ _ _ h8.len hcell,h8⟩
theorem yv600 {sz bytes:Nat} (hop:s.op=.app sz bytes) (ok:okOp P o s=true):Right P W0 o s:=by
 intro φ g w H a as us r H' hi hh ha he
 simp only [okOp,hop] at ok
 simp only [hop,POp.ev] at he
 split at ok
 case h_2=>cases ok
 rename_i c hy
 obtain ⟨cal,args,tys⟩:=c
 simp only [Bool.and_eq_true,beq_iff_eq] at ok
 obtain ⟨⟨ok1,ok2⟩,ok3⟩:=ok
 obtain rfl:=yv22 ok1
 obtain ⟨args⟩:=args
 obtain ⟨tys⟩:=tys
 simp only at ok2 ok3
 split at ok3
 case h_2=>cases ok3
 rename_i t t'
 simp only [Bool.and_eq_true,beq_iff_eq] at ok3
 obtain ⟨rfl,ok3⟩:=ok3
 obtain ⟨_,_,_,_,_,_,_,hpos,_,_⟩:=yv24 ok3
 split at he
 case h_2=>cases he
 rename_i ax ay
 split at he
 case h_2=>cases he
 rename_i rows' hrows
 simp only [Option.map_eq_some_iff] at he
 obtain ⟨q,hq,he⟩:=he
 simp at he;obtain ⟨rfl,rfl⟩:=he
 have hl:=yv31 ok2
 have hl2:=ha.l1
 simp at hl2
 rw [hl2] at hl
 match args,hl with
 | [x',y'],_ =>
  obtain ⟨x,y,hs,k1,k2⟩:=opds_two' ok2
  rw [hs] at ha
  obtain ⟨u,v,rfl,h1,h2,r1,r2⟩:=ha.two
  obtain ⟨_,_,_,hte,_⟩:=yv24 ok3
  obtain ⟨xs,hxs⟩:=yv234 (P:=P) hte (yv83 hpos hrows r2)
  obtain ⟨v',φ',g',w',hrun,hpost⟩:=yv309 (ty:=o.type) hi hh ok3 hq r1 hxs
  exact ⟨v',φ',g',w',yv105 hy (by rw [yv0 k1 h1,yv0 k2 h2];exact hrun),hpost⟩
theorem yv102 {base:Nat} {g:Gh} {w:World} (l:List UInt8):RowCells base g w 1 (yv18 l) (l.map fun b=>Value.int .u8 b.toNat):=by
 refine ⟨by simp [yv18],fun r hr=>?_,?_⟩
 ·simp [yv18] at hr
  obtain ⟨b,_,rfl⟩:=hr
  rfl
 ·intro i r j c p q
  simp only [yv18,List.getElem?_map] at p
  cases hb:l[i]? with
  | none=>simp [hb] at p
  | some b =>
   simp [hb] at p;subst p
   cases j with
   | zero=>simp [yv5] at q;subst q;exact ⟨_,by simp [hb],.lit _ rfl⟩
   | succ j=>simp [yv5] at q
theorem yv59 (l:List UInt8):(yv18 l).length=l.length:=by simp [yv18]
theorem yv398 (str:ByteArray):(str.data.map fun b=>Value.int IntKind.u8 (b.toNat:Int))=(str.data.toList.map fun b=>Value.int .u8 b.toNat).toArray:=by
 apply Array.ext'
 simp
theorem yv353 {base:Nat} {g:Gh} {w:World} {u:TypeId} (hu:P.underlying u=some .string) (str:ByteArray) :
 Adds P base g w 1 u (.string str) (yv18 str.data.toList) (str.data.toList.map fun b=>Value.int .u8 b.toNat):=by
 have hl:(yv18 str.data.toList).length=str.size:=by rw [yv59];rfl
 have hx:str.extract 0 str.size=str:=by
  apply ByteArray.ext
  simp
 refine ⟨.inl hu,by rw [hl];simp [Builtin.lenOf],?_,?_,yv102 _⟩
 ·rw [hl];simp only [Builtin.firstCells,hx,yv398];rfl
 ·rw [hl];simp only [Builtin.firstCells,hx,yv398];rfl
theorem yv498 (hop:s.op=.apps) (ok:okOp P o s=true):Right P W0 o s:=by
 intro φ g w H a as us r H' hi hh ha he
 simp only [okOp,hop] at ok
 simp only [hop,POp.ev] at he
 split at ok
 case h_2=>cases ok
 rename_i c hy
 obtain ⟨cal,args,tys⟩:=c
 simp only [Bool.and_eq_true,beq_iff_eq] at ok
 obtain ⟨⟨ok1,ok2⟩,ok3⟩:=ok
 obtain rfl:=yv22 ok1
 obtain ⟨args⟩:=args
 obtain ⟨tys⟩:=tys
 simp only at ok2 ok3
 split at ok3
 case h_2=>cases ok3
 rename_i t t'
 simp only [Bool.and_eq_true] at ok3
 obtain ⟨ok3,ok4⟩:=ok3
 have hu:=yv52 ok4
 split at he
 case h_2=>cases he
 rename_i ax str
 simp only [Option.map_eq_some_iff] at he
 obtain ⟨q,hq,he⟩:=he
 simp at he;obtain ⟨rfl,rfl⟩:=he
 have hl:=yv31 ok2
 have hl2:=ha.l1
 simp at hl2
 rw [hl2] at hl
 match args,hl with
 | [x',y'],_ =>
  obtain ⟨x,y,hs,k1,k2⟩:=opds_two' ok2
  rw [hs] at ha
  obtain ⟨u,v,rfl,h1,h2,r1,r2⟩:=ha.two
  obtain ⟨rfl,_⟩:=r2.of_lit
  obtain ⟨v',φ',g',w',hrun,hpost⟩:=yv309 (ty:=o.type) hi hh ok3 hq r1 (yv353 (P:=P) hu str)
  exact ⟨v',φ',g',w',yv105 hy (by rw [yv0 k1 h1,yv0 k2 h2];exact hrun),hpost⟩
end Go.Rv
namespace Go.Rv
open Go.RowKit
variable {P:Program} {W0:World} {o:Oper} {s:SOp}
theorem yv279 {t:TypeId} (h:isUnd P t (dU8 P)=true):∃ e,P.underlying t=some (.slice e)∧P.underlying e=some (.int .u8):=by
 obtain ⟨d,hd,hk⟩:=yv36 h
 unfold dU8 at hk
 split at hk
 ·rename_i e
  split at hk
  ·rename_i he;exact ⟨e,hd,he⟩
  ·cases hk
 ·cases hk
theorem yv613 (hop:s.op=.s2b) (ok:okOp P o s=true):Right P W0 o s:=by
 intro φ g w H a as us r H' hi hh ha he
 simp only [okOp,hop] at ok
 simp only [hop,POp.ev] at he
 split at ok
 case h_2=>cases ok
 rename_i x src dst y hs hy
 rw [hs] at ha
 simp only [Bool.and_eq_true] at ok
 obtain ⟨⟨ok1,ok2⟩,ok3⟩:=ok
 split at he
 case h_2=>cases he
 rename_i str
 split at he
 case isFalse=>cases he
 rename_i hroom
 simp at he;obtain ⟨rfl,rfl⟩:=he
 obtain ⟨v,rfl,h1,h2⟩:=ha.one
 obtain ⟨rfl,_⟩:=h2.of_lit
 have hsrc:=yv52 ok2
 obtain ⟨e,hd,he⟩:=yv279 ok3
 have hrun:=Lib.run_convert_string_bytes (P:=P) w src dst e str hsrc hd he
 have hge:=grownCap_ge w str.size 0 e
 have hb:=hi.below.size
 have hsz:=Lib.bytesWorld_size w e str
 have x:Ext W0.heap.size g w (g.own w.heap.size .res str.size) (Lib.bytesWorld w e str):=by
  refine ⟨by omega,fun b=>?_,fun b o' hb' _=>Lib.bytesWorld_old w e str ⟨b,o',none⟩ hb',yv132 fun b hb=>Lib.bytesWorld_at_old w e str b hb⟩
  by_cases h:b=w.heap.size
  ·subst h;rw [(hi.new _ (Nat.le_refl _)).2];exact Nat.zero_le _
  ·rw [Gh.own_lim h];exact Nat.le_refl _
 have keep:∀ l,Keep W0.heap.size g w (g.own w.heap.size .res str.size) (Lib.bytesWorld w e str) l l:=by
  intro l
  refine ⟨fun b hb'=>?_⟩
  have:=ow_lt hi hb'
  rw [Gh.own_lim (by omega),Gh.own_ow (by omega)]
  exact ⟨Lib.bytesWorld_at_old w e str b this,rfl,hb'⟩
 have hbelow:Below W0.heap.size W0 (Lib.bytesWorld w e str) :=
  hi.below.trans ⟨rfl,rfl,rfl,by omega,fun k hk=>Lib.bytesWorld_at_old w e str k (by omega)⟩
 refine ⟨.slice (some ⟨w.heap.size,0,none⟩) str.size (grownCap w str.size 0 e),φ,g.own w.heap.size .res str.size,Lib.bytesWorld w e str,.inl (by simp [execOp,hy,yv0 ok1 h1,hrun]),?_⟩
 refine ⟨⟨hbelow,fun b h=>?_,fun b h=>?_⟩,x,fun id hid=>(hh id hid).keep x (Nat.le_refl _) (fun _ _=>rfl) hid (keep _) (fun _=>⟨keep _,fun _=>keep _,fun _ _=>keep _⟩),Nat.le_refl _,fun _ _=>rfl,?_,?_⟩
 ·rw [Gh.own_lim (by omega),Gh.own_ow (by omega)];exact hi.old b h
 ·rw [Gh.own_lim (by omega),Gh.own_ow (by omega)];exact hi.new b (by omega)
 ·refine .r0 (.pv _ _ ?_)
  have hlen:(yv18 str.data.toList).length=str.size:=by rw [yv59];rfl
  rw [← hlen]
  refine .sl 1 _ w.heap.size 0 _ (fun i _=>.int .u8 (str.data.toList.getD i 0).toNat) (yv102 (base:=W0.heap.size) (g:=g) (w:=w) _).hsz ?_ (by omega) (by rw [hlen];exact hge) ?_ ?_
  ·intro o' h1 h2
   refine .inr ?_
   rw [Gh.own_lim_self];omega
  ·intro i r j c p q
   have hi':i < str.size:=by rw [← hlen];exact (List.getElem?_eq_some_iff.1 p).1
   have hr:=(yv102 (base:=W0.heap.size) (g:=g) (w:=w) str.data.toList).hsz r (List.mem_of_getElem? p)
   have hj:j=0:=by have:=(List.getElem?_eq_some_iff.1 q).1;omega
   subst hj
   have:=Lib.bytesWorld_cell w e str i hi'
   simpa using this
  ·intro i r j c p q
   simp only [yv18,List.getElem?_map] at p
   cases hb':str.data.toList[i]? with
   | none=>simp [hb'] at p
   | some b =>
    simp [hb'] at p;subst p
    cases j with
    | zero=>simp [yv5] at q;subst q;simp only [List.getD,hb'];exact .lit _ rfl
    | succ j=>simp [yv5] at q
 ·intro b hb' _
  rw [Gh.own_lim (by omega),Gh.own_ow (by omega)]
  exact ⟨Lib.bytesWorld_at_old w e str b hb',rfl,rfl⟩
theorem yv226 {base:Nat} {g:Gh} {w:World}:∀ {rows:List (List PV)} {l:List UInt8} {xs:List Value},yv29 rows=some l->RowCells base g w 1 rows xs->∃ ns:List Int,xs=ns.map (Value.int .u8)∧l=ns.map fun n=>UInt8.ofNat n.toNat:=by
 intro rows
 induction rows with
 | nil =>
  intro l xs h h8
  simp [yv29] at h;subst h
  have:xs=[]:=List.eq_nil_of_length_eq_zero (by simpa using h8.len)
  subst this
  exact ⟨[],rfl,rfl⟩
 | cons r rows ih =>
  intro l xs h h8
  simp only [yv29] at h
  split at h
  case h_2=>cases h
  rename_i b l' hb hl
  simp at h;subst h
  cases xs with
  | nil=>have:=h8.len;simp at this
  | cons u xs =>
   have h9:RowCells base g w 1 rows xs:=by
    refine ⟨by have:=h8.len;simp at this ⊢;omega,fun r' hr'=>h8.hsz r' (by simp [hr']),?_⟩
    intro i r' j c p q
    obtain ⟨u',k1,k2⟩:=h8.rep (i + 1) r' j c (by simpa using p) q
    refine ⟨u',?_,k2⟩
    rw [← k1,show (i + 1) * 1 + j=(i * 1 + j) + 1 by omega]
    simp
   obtain ⟨ns,e1,e2⟩:=ih hl h9
   unfold yv510 at hb
   split at hb
   case h_2=>cases hb
   rename_i n
   simp at hb
   obtain ⟨u',k1,k2⟩:=h8.rep 0 _ 0 _ rfl rfl
   simp at k1;subst k1
   cases k2
   exact ⟨n::ns,by simp [e1],by simp [e2,hb]⟩
theorem yv244 (ns:List Int):∀ (b:ByteArray),(ns.foldl (fun r n=>r.push (UInt8.ofNat n.toNat)) b).data.toList=b.data.toList++ns.map fun n=>UInt8.ofNat n.toNat:=by
 induction ns with
 | nil=>intro b;simp
 | cons n ns ih=>intro b;simp only [List.foldl_cons,ih,List.map_cons];simp [ByteArray.push]
theorem yv601 (hop:s.op=.b2s) (ok:okOp P o s=true):Right P W0 o s:=by
 intro φ g w H a as us r H' hi hh ha he
 simp only [okOp,hop] at ok
 simp only [hop,POp.ev] at he
 split at ok
 case h_2=>cases ok
 rename_i x src dst y hs hy
 rw [hs] at ha
 simp only [Bool.and_eq_true] at ok
 obtain ⟨⟨ok1,ok2⟩,ok3⟩:=ok
 obtain ⟨a0,rfl⟩:=yv206 ha
 simp only at he
 split at he
 case h_2=>cases he
 rename_i rows hrows
 simp only [Option.map_eq_some_iff] at he
 obtain ⟨l,hl,he⟩:=he
 simp at he;obtain ⟨rfl,rfl⟩:=he
 obtain ⟨v,rfl,h1,h2⟩:=ha.one
 obtain ⟨e,hs',he'⟩:=yv279 ok2
 have hd:=yv52 ok3
 rcases yv83 Nat.one_pos hrows h2 with ⟨rfl,rfl⟩|⟨ad,c,xs,rfl,hc,h8,hcell⟩
 ·simp [yv29] at hl;subst hl
  refine ⟨.string ⟨#[]⟩,φ,g,w,.inl ?_,.same hi hh (.lit rfl)⟩
  simp [execOp,hy,yv0 ok1 h1,run_convert_bytes_string w src dst e none 0 0 hs' he' hd,Conv.bytesToString]
  rfl
 ·obtain ⟨ns,rfl,rfl⟩:=yv226 hl h8
  have hload:(loadCells ad rows.length).run P w=.ok (ns.map (Value.int .u8)).toArray w:=by
   have:=run_loadCells_list (P:=P) w ad (ns.map (Value.int .u8)) hcell
   rwa [h8.len,Nat.mul_one] at this
  have hb:=run_bytesToString (P:=P) w ad rows.length c ns hload
  have hstr:(ns.foldl (fun r n=>r.push (UInt8.ofNat n.toNat)) ByteArray.empty)=⟨(ns.map fun n=>UInt8.ofNat n.toNat).toArray⟩:=by
   apply ByteArray.ext
   apply Array.ext'
   rw [yv244]
   rfl
  rw [hstr] at hb
  refine ⟨_,φ,g,w,.inl ?_,.same hi hh (.lit rfl)⟩
  simp [execOp,hy,yv0 ok1 h1,run_convert_bytes_string w src dst e (some ad) rows.length c hs' he' hd,hb]
end Go.Rv
namespace Go.Rv
open Go.RowKit
variable {P:Program} {W0:World} {o:Oper} {s:SOp}
theorem yv140 {l:List (List PV)} {i:Nat} {r:List PV}:setRow l i r=l.set i r:=by
 induction l generalizing i with
 | nil=>rfl
 | cons a l ih=>cases i with
  | zero=>rfl
  | succ i=>simp [setRow,ih]
theorem yv699 {cs:List AV}:∀ {r:List PV},pvs cs=some r->cs=r.map AV.pv:=by
 induction cs with
 | nil=>intro r h;simp [pvs] at h;subst h;rfl
 | cons c cs ih =>
  intro r h
  cases c with
  | pv p =>
   simp only [pvs,Option.map_eq_some_iff] at h
   obtain ⟨q,hq,rfl⟩:=h
   simp [ih hq]
  | _=>simp [pvs] at h
theorem yv485 {base n:Nat} {φ:Nat->Nat} {g:Gh} {w:World} {l:Loc} {a:AV} {v:Value} {r:List PV} (h:yv253 a=some r) (ra:RepA base n φ g w l a v) :
 r.length=v.cells.size∧∀ (j:Nat) (c:PV) (u:Value),r[j]?=some c->v.cells[j]?=some u->RepP base g w c u:=by
 have ht:yv218 a=true:=by
  cases a<;>first|rfl|(simp [yv253,strip] at h)
 obtain ⟨q1,q2⟩:=yv103 ra ht
 have hc:cellsOf (strip a)=r.map AV.pv:=by
  unfold yv253 at h
  split at h
  ·rename_i p hp
   simp at h;subst h
   rw [hp];rfl
  ·rename_i cs hcs
   rw [hcs]
   simp only [cellsOf]
   have:=yv699 h
   rw [this]
   simp [yv14]
   intro a _
   rfl
  ·cases h
 rw [hc] at q1 q2
 refine ⟨by simpa using q1,fun j c u p q=>?_⟩
 obtain ⟨_,⟨l',h1⟩,_⟩:=q2 j (.pv c) u (by simp [p]) q
 cases h1 with
 | zero _ _ h1=>cases h1 with
  | pv _ _ h1=>exact h1
theorem yv511 {base n:Nat} {φ:Nat->Nat} {g:Gh} {w:World} {sz:Nat} :
 ∀ (idx:List Nat) (as:List AV) (ps:List (Nat × Value)) (rows:List (List PV)) (xs:Array Value) (rows':List (List PV)),rowsL sz rows idx as=some rows'->ps.map (·.1)=idx ->
  (∀ (i:Nat) (a:AV) (p:Nat × Value),as[i]?=some a->ps[i]?=some p->∃ l,RepA base n φ g w l a p.2)->RowCells base g w sz rows xs.toList ->
  ∃ xs',Instr.fill (fun i=>some (i * sz,sz)) xs ps=some xs'∧RowCells base g w sz rows' xs'.toList∧rows'.length=rows.length:=by
 intro idx
 induction idx with
 | nil =>
  intro as ps rows xs rows' h hps _ h8
  have:ps=[]:=by cases ps<;>simp_all
  subst this
  cases as with
  | nil=>simp [rowsL] at h;subst h;exact ⟨xs,rfl,h8,rfl⟩
  | cons=>simp [rowsL] at h
 | cons i idx ih =>
  intro as ps rows xs rows' h hps hr h8
  cases as with
  | nil=>simp [rowsL] at h
  | cons a as =>
   cases ps with
   | nil=>simp at hps
   | cons p ps =>
    obtain ⟨k,v⟩:=p
    simp at hps
    obtain ⟨rfl,hps⟩:=hps
    simp only [rowsL] at h
    split at h
    case h_2=>cases h
    rename_i r hpc
    split at h
    case isFalse=>cases h
    rename_i hcond
    obtain ⟨hrl,hlt⟩:=hcond
    obtain ⟨l0,hr0⟩:=hr 0 a (k,v) rfl rfl
    obtain ⟨q1,q2⟩:=yv485 hpc hr0
    simp only at q1 q2
    have hsz:v.cells.size=sz:=by omega
    have hx:xs.size=rows.length * sz:=by simpa using h8.len
    have h4:(k + 1) * sz ≤ rows.length * sz:=Nat.mul_le_mul_right _ hlt
    rw [Nat.add_mul] at h4
    have hfold:∀ (l:List Value) (m:Nat) (vs:Array Value),k * sz + m + l.length ≤ vs.size ->
     (l.zipIdx m).foldl (fun cs (c,j)=>cs.setIfInBounds (k * sz + j) c) vs=(vs.toList.take (k * sz + m)++l++vs.toList.drop (k * sz + m + l.length)).toArray:=by
     intro l
     induction l with
     | nil=>intro m vs _;apply Array.ext';simp
     | cons c l ih2 =>
      intro m vs hk
      simp only [List.zipIdx_cons,List.foldl_cons]
      rw [ih2 (m + 1) _ (by simp at hk ⊢;omega)]
      apply Array.ext'
      simp only [List.length_cons] at hk ⊢
      have:=list_seg_step vs.toList (k * sz + m) c l (by simpa using hk)
      simp only [Array.toList_setIfInBounds]
      rw [show k * sz + (m + 1)=k * sz + m + 1 by omega]
      rw [this]
    have hfold':(v.cells.zipIdx.foldl (fun cs (c,j)=>cs.setIfInBounds (k * sz + j) c) xs)=(xs.toList.take (k * sz)++v.cells.toList++xs.toList.drop (k * sz + v.cells.size)).toArray:=by
     rw [← Array.foldl_toList]
     have:=hfold v.cells.toList 0 xs (by simp;omega)
     simp only [Nat.add_zero,Array.length_toList] at this
     rw [← this]
     simp
    have hfill:Instr.fill (fun i=>some (i * sz,sz)) xs ((k,v)::ps)=Instr.fill (fun i=>some (i * sz,sz)) (xs.toList.take (k * sz)++v.cells.toList++xs.toList.drop (k * sz + v.cells.size)).toArray ps:=by
     rw [Instr.fill]
     simp only
     rw [if_neg (by simp;omega),← hfold']
    have h9:RowCells base g w sz (setRow rows k r) (xs.toList.take (k * sz)++v.cells.toList++xs.toList.drop (k * sz + v.cells.size)).toArray.toList:=by
     have hlen:(xs.toList.take (k * sz)++v.cells.toList++xs.toList.drop (k * sz + v.cells.size)).length=rows.length * sz:=by
      rw [List.length_append,List.length_append,List.length_take,List.length_drop]
      simp only [Array.length_toList]
      omega
     refine ⟨by rw [yv140,List.length_set];simpa using hlen,fun r' hr'=>?_,?_⟩
     ·rw [yv140] at hr'
      rcases List.mem_or_eq_of_mem_set hr' with h|h
      ·exact h8.hsz r' h
      ·rw [h];exact hrl
     ·intro i r' j c p q
      rw [yv140,List.getElem?_set] at p
      simp only
      by_cases hik:k=i
      ·subst hik
       simp [hlt] at p;subst p
       have hj:j < sz:=by have:=(List.getElem?_eq_some_iff.1 q).1;omega
       have hjv:j < v.cells.size:=by omega
       refine ⟨v.cells[j],?_,q2 j c _ q (by simp [hjv])⟩
       rw [List.append_assoc,List.getElem?_append_right (by rw [List.length_take];simp;omega),List.getElem?_append_left (by rw [List.length_take];simp;omega)]
       have:k * sz + j - (xs.toList.take (k * sz)).length=j:=by rw [List.length_take];simp;omega
       rw [this]
       simp [hjv]
      ·rw [if_neg hik] at p
       obtain ⟨u,k1,k2⟩:=h8.rep i r' j c p q
       refine ⟨u,?_,k2⟩
       have hj:j < sz:=by have:=(List.getElem?_eq_some_iff.1 q).1;have:=h8.hsz r' (List.mem_of_getElem? p);omega
       rcases Nat.lt_or_ge i k with hlt2|hge2
       ·have h5:(i + 1) * sz ≤ k * sz:=Nat.mul_le_mul_right _ hlt2
        rw [Nat.add_mul] at h5
        rw [List.append_assoc,List.getElem?_append_left (by rw [List.length_take];simp;omega),List.getElem?_take,if_pos (by omega)]
        exact k1
       ·have h5:(k + 1) * sz ≤ i * sz:=Nat.mul_le_mul_right _ (by omega)
        rw [Nat.add_mul] at h5
        rw [List.getElem?_append_right (by rw [List.length_append,List.length_take];simp;omega),List.getElem?_drop,← k1]
        congr 1
        rw [List.length_append,List.length_take]
        simp
        omega
    rw [hfill]
    obtain ⟨xs',e1,e2,e3⟩:=ih as ps _ _ rows' h hps (fun j a' p' e1 e2=>hr (j + 1) a' p' e1 e2) h9
    exact ⟨xs',e1,e2,by rw [e3,yv140,List.length_set]⟩
theorem yv535 {base:Nat} {g:Gh} {w:World} {n sz:Nat} {zs:List PV} {z:Array Value} (_hsz:0 < sz) (h1:zs.length=z.size) (h2:z.size=sz)
 (h3:∀ (j:Nat) (c:PV) (u:Value),zs[j]?=some c->z[j]?=some u->RepP base g w c u) :
 RowCells base g w sz (List.replicate n zs) ((Array.range (n * sz)).map (z[· % z.size]!)).toList:=by
 refine ⟨by simp,fun r hr=>by rw [(List.mem_replicate.1 hr).2];omega,?_⟩
 intro i r j c p q
 rw [List.getElem?_replicate] at p
 split at p
 case isFalse=>cases p
 rename_i hi
 simp at p;subst p
 have hj:j < sz:=by have:=(List.getElem?_eq_some_iff.1 q).1;omega
 have h4:(i + 1) * sz ≤ n * sz:=Nat.mul_le_mul_right _ hi
 rw [Nat.add_mul] at h4
 have hlt:i * sz + j < n * sz:=by omega
 have hjz:j < z.size:=by omega
 have e2:(i * sz + j) % sz=j:=by rw [Nat.mul_comm,Nat.mul_add_mod,Nat.mod_eq_of_lt hj]
 refine ⟨z[j],?_,h3 j c _ q (by simp [hjz])⟩
 simp [hlt,h2,e2]
 exact getElem!_pos z j hjz
theorem yv296 {sz n:Nat} {zs:List PV} {idx:List Nat} (hop:s.op=.bslice sz n zs idx) (ok:okOp P o s=true):Right P W0 o s:=by
 intro φ g w H a as us r H' hi hh ha he
 simp only [okOp,hop] at ok
 simp only [hop,POp.ev] at he
 split at ok
 case h_2=>cases ok
 rename_i t m parts hy
 simp only [Bool.and_eq_true,beq_iff_eq,decide_eq_true_eq] at ok
 obtain ⟨⟨⟨⟨⟨ok1,rfl⟩,ok2⟩,ok3⟩,ok4⟩,ok5⟩:=ok
 obtain ⟨e,inf,z,hte,hinf,hsz,_,hpos,hz,hzs⟩:=yv24 ok1
 rw [hte] at ok3
 simp only [Option.map_eq_some_iff] at he
 obtain ⟨rows,hrows,he⟩:=he
 simp at he;obtain ⟨rfl,rfl⟩:=he
 obtain ⟨l1,l2,hc,hr⟩:=ha
 obtain ⟨z',hz',hok⟩:=yv55 ok3 w
 have hzz:z'=z:=by
  simp [zeroValue,typeInfo,hinf,hz] at hz'
  exact hz'.symm
 subst hzz
 obtain ⟨z1,z2⟩:=yv40 (base:=W0.heap.size) (n:=H.length) (φ:=φ) (g:=g) (w:=w) hok
 have hm:=yv113 ok5 (by omega) hc
 have hlen:=yv31 ok5
 have hps:(parts.map fun (i,x)=>(i,a.eval x)).toList=parts.toList.map fun (i,x)=>(i,a.eval x):=by simp
 have hus:∀ (i:Nat) (p:Nat × Value),(parts.toList.map fun (i,x)=>(i,a.eval x))[i]?=some p->us[i]?=some p.2:=by
  intro i p h
  rw [List.getElem?_map] at h
  cases hq:parts.toList[i]? with
  | none=>simp [hq] at h
  | some q =>
   simp [hq] at h
   rw [← hm,List.getElem?_map,List.getElem?_map,hq]
   simp [← h]
 have h0:RowCells W0.heap.size g w sz (List.replicate n zs) ((Array.range (n * sz)).map (z'.cells[· % z'.cells.size]!)).toList:=by
  refine yv535 hpos (by simpa using z1) hzs (fun j c u p q=>?_)
  obtain ⟨_,⟨l,h⟩,_⟩:=z2 j (.pv c) u (by simp [p]) q
  cases h with
  | zero _ _ h=>cases h with
   | pv _ _ h=>exact h
 obtain ⟨xs',k1,k2,k3⟩:=yv511 idx as ((parts.map fun (i,x)=>(i,a.eval x)).toList) _ _ rows hrows (by rw [hps,ok4];simp) (by
  intro i a' p e1 e2
  rw [hps] at e2
  exact ⟨_,hr i a' _ e1 (hus i p e2)⟩) h0
 have hrl:rows.length=n:=by rw [k3];simp
 refine ⟨.slice (some ⟨w.heap.size,0,none⟩) n n,φ,g.own w.heap.size .res (rows.length * sz),w.alloc (.cells xs' e),.inl ?_,?_⟩
 ·have hbig:¬ (n * sz > 2 ^ 24):=by omega
  have hbig':¬ (16777216 < n * sz):=by omega
  by_cases hn:n * sz=0
  ·have hn0:n=0:=by
    rcases Nat.mul_eq_zero.1 hn with h|h
    ·exact h
    ·omega
   subst hn0
   have:((Array.range (0 * sz)).map (z'.cells[· % z'.cells.size]!))=#[]:=by simp
   rw [this] at k1
   simp [execOp,hy,Instr.buildSlice,run_underlying hte,Go.sizeOf,typeInfo,hinf,hsz,newRow]
   simp only [Array.toList_map] at k1
   rw [show (Array.map (fun _:Nat=>(default:Value)) (Array.range 0))=#[] from by simp,k1]
   simp
  ·simp [execOp,hy,Instr.buildSlice,run_underlying hte,Go.sizeOf,typeInfo,hinf,hsz,hbig',hn,zeroValue,hz,newRow]
   simp only [Array.toList_map] at k1
   rw [k1]
   simp
 ·have hx:xs'.size=rows.length * sz:=by simpa using k2.len
  have:=Post.made (sz:=sz) (cap:=n) (rows:=rows) (xs:=xs'.toList) (cur:=xs') (e:=e) hi hh (by rw [hx,hrl]) (by omega) (by
   have:n ≤ n * sz:=Nat.le_mul_of_pos_right _ hpos
   unfold maxLen;omega) (List.take_of_length_le (by rw [k2.len];exact Nat.le_refl _)) k2
  rw [hrl] at this ⊢
  exact this
theorem yv273 {x:Int} (h0:0 ≤ x) (h1:x ≤ 9223372036854775807):IntKind.i64.wrap x=x:=by
 have h:x % (2 ^ IntKind.i64.bits:Int)=x:=Int.emod_eq_of_lt h0 (by show x < 18446744073709551616;omega)
 unfold IntKind.wrap
 simp only [h]
 rw [if_neg]
 simp only [IntKind.signed,Bool.true_and,decide_eq_true_eq]
 show ¬ (x ≥ 9223372036854775808)
 omega
theorem yv770 {n sz:Nat} {zs:List AV} (h:zs.length=sz) (hsz:0 < sz) {k:Nat} (hk:k < n * sz):(rep n zs)[k]?=zs[k % sz]?:=by
 subst h
 induction n generalizing k with
 | zero=>simp at hk
 | succ n ih =>
  unfold rep at ih ⊢
  rw [List.replicate_succ,List.flatten_cons]
  by_cases hlt:k < zs.length
  ·rw [List.getElem?_append_left hlt,Nat.mod_eq_of_lt hlt]
  ·have hk':k - zs.length < n * zs.length:=by rw [Nat.add_mul,Nat.one_mul] at hk;omega
   rw [List.getElem?_append_right (by omega),ih hk',Nat.mod_eq_sub_mod (a:=k) (by omega)]
theorem yv493 {n:Nat} {zs:List AV}:(rep n zs).length=n * zs.length:=by simp [rep]
theorem yv505 {sz bytes:Nat} {zs:List AV} (hop:s.op=.mksl sz bytes zs) (ok:okOp P o s=true):Right P W0 o s:=by
 intro φ g w H a as us r H' hi hh ha he
 simp only [okOp,hop] at ok
 simp only [hop,POp.ev] at he
 split at ok
 case h_2=>cases ok
 rename_i t x' y' hy
 simp only [Bool.and_eq_true] at ok
 obtain ⟨⟨ok1,ok2⟩,ok3⟩:=ok
 obtain ⟨x,y,hs,k1,k2⟩:=opds_two' ok1
 rw [hs] at ha
 obtain ⟨e,inf,z,hte,hinf,hsz,hby,hpos,hz,hzs⟩:=yv24 ok2
 rw [hte] at ok3
 split at he
 case h_2=>cases he
 rename_i kl l kc c
 split at he
 case isFalse=>cases he
 rename_i hcond
 obtain ⟨rfl,h0,hroom1,hroom2,hzl⟩:=hcond
 simp at he;obtain ⟨rfl,rfl⟩:=he
 obtain ⟨u,v,rfl,h1,h2,r1,r2⟩:=ha.two
 obtain ⟨rfl,_⟩:=r1.of_lit
 obtain ⟨rfl,_⟩:=r2.of_lit
 obtain ⟨z',hz',hok⟩:=yv55 ok3 w
 have hzz:z'=z:=by
  simp [zeroValue,typeInfo,hinf,hz] at hz'
  exact hz'.symm
 subst hzz
 obtain ⟨z1,z2⟩:=yv40 (base:=W0.heap.size) (n:=H.length) (φ:=φ) (g:=g) (w:=w) hok
 have hl:l=(l.toNat:Int):=by omega
 generalize hm:l.toNat=m at *
 subst hl
 unfold room at hroom1 hroom2
 have hwrap:IntKind.i64.wrap (m:Int)=m:=yv273 (by omega) (by omega)
 have hcells:((Array.range (m * sz)).map (z'.cells[· % z'.cells.size]!)).size=m * sz:=by simp
 refine ⟨.slice (some ⟨w.heap.size,0,none⟩) m m,_,_,w.alloc (.cells ((Array.range (m * sz)).map (z'.cells[· % z'.cells.size]!)) e),.inl ?_,
  .newObj hi hh (rep m zs) _ e (by rw [yv493,hcells,hzl];exact Nat.le_refl _) ?_ ?_⟩
 ·have hb:¬ (281474976710656 < (inf.bytes:Int) * m):=by rw [Int.mul_comm,hby];omega
  have hm0:¬ ((m:Int) < 0):=by omega
  by_cases hz0:m * sz=0
  ·have hm0':m=0:=by
    rcases Nat.mul_eq_zero.1 hz0 with h|h
    ·exact h
    ·omega
   subst hm0'
   simp [execOp,hy,yv0 k1 h1,yv0 k2 h2,Instr.makeSlice,run_underlying hte,Go.sizeOf,typeInfo,hinf,asInt,asIntOf,newRow,(yv273 (Int.le_refl 0) (by omega):IntKind.i64.wrap 0=0)]
   rw [show (Array.map (fun _:Nat=>(default:Value)) (Array.range 0))=#[] from by simp,show (Array.map (fun x:Nat=>z'.cells[x % z'.cells.size]!) (Array.range 0))=#[] from by simp]
  ·simp [execOp,hy,yv0 k1 h1,yv0 k2 h2,Instr.makeSlice,run_underlying hte,Go.sizeOf,typeInfo,hinf,hsz,asInt,asIntOf,hwrap,hb,hm0,hz0,zeroValue,hz,newRow]
 ·intro j a' v' p q
  have hj:j < m * sz:=by rw [← hcells];exact (Array.getElem?_eq_some_iff.1 q).1
  rw [yv770 hzl hpos hj] at p
  have hjz:j % sz < z'.cells.size:=by rw [hzs];exact Nat.mod_lt _ hpos
  have hv:z'.cells[j % sz]?=some v':=by
   rw [← q]
   simp [hj,hzs]
   rw [getElem!_pos z'.cells (j % sz) hjz]
   simp [hjz]
  exact z2 (j % sz) a' v' p hv
 ·have hsp:0 + m * sz ≤ yv21 (w.alloc (.cells ((Array.range (m * sz)).map (z'.cells[· % z'.cells.size]!)) e)) (phiAt φ H.length w.heap.size H.length):=by
   simp only [phiAt,if_true,yv21,heap_alloc_new]
   rw [hcells];omega
  have:=Rep0.view (base:=W0.heap.size) (n:=H.length + 1) (φ:=phiAt φ H.length w.heap.size) (g:=g.own w.heap.size (.obj H.length) 0) (w:=w.alloc (.cells ((Array.range (m * sz)).map (z'.cells[· % z'.cells.size]!)) e)) H.length 0 m m sz (Nat.lt_succ_self _) (Nat.le_refl _) (.inr hsp)
  simpa [phiAt] using this
end Go.Rv
namespace Go.Rv
open Go.RowKit
variable {P:Program} {W0:World} {o:Oper} {s:SOp}
def yv149 (d:Nat) (el:TypeId) (xs ys:Array Value):List Nat->Sem Bool
 | []=>pure true
 | i::is=>do
  let a ← part el xs i
  let b ← part el ys i
  let r ← Op.equalIn d el a b
  if (!r)=true then pure false else yv149 d el xs ys is
theorem yv131 (w:World) (d:Nat) (t el:TypeId) (n:Nat) (xs ys:Array Value) (ht:P.underlying t=some (.array n el)) (hs:(Go.sizeOf el).run P w=.ok 1 w) :
 (Op.equalIn (d + 1) t (.agg xs) (.agg ys)).run P w=(yv149 d el xs ys (List.range' 0 n)).run P w:=by
 simp only [Op.equalIn,Sem.run_bind,run_underlying ht,Result.andThen_ok,hs,Nat.mul_one]
 rw [Std.Legacy.Range.forIn_eq_forIn_range']
 simp only [Std.Legacy.Range.size,Nat.sub_zero,Nat.add_sub_cancel,Nat.div_one]
 generalize List.range' 0 n=is
 clear ht hs
 induction is generalizing w with
 | nil=>simp [yv149]
 | cons i is ih =>
  simp only [List.forIn_cons,yv149,Sem.run_bind,Sem.run_ite]
  generalize (part el xs i).run P w=r1
  cases r1 with
  | ok a w1 =>
   simp only [Result.andThen_ok]
   generalize (part el ys i).run P w1=r2
   cases r2 with
   | ok b w2 =>
    simp only [Result.andThen_ok]
    generalize (Op.equalIn d el a b).run P w2=r3
    cases r3 with
    | ok r w3 =>
     cases r
     ·simp only [Result.andThen_ok,Bool.not_false,if_true,Sem.run_pure]
     ·simp only [Result.andThen_ok,Bool.not_true,Bool.false_eq_true,if_false,Sem.run_pure]
      exact ih w3
    | halt x w3=>simp [Result.andThen]
   | halt x w2=>simp [Result.andThen]
  | halt x w1=>simp [Result.andThen]
theorem yv359 {base n:Nat} {φ:Nat->Nat} {g:Gh} {w:World} {xs ys:Array Value} {d:Nat} {el:TypeId} (hel:aggN P el=some none):∀ (ts:List ET) (as bs:List AV) (i:Nat) (q:Bool),
 ts.all (fun e=>isUnd P el (dET e))=true->yv15 ts as bs=some q ->
 (∀ (j:Nat) (a:AV),as[j]?=some a->∃ v l,xs[i + j]?=some v∧RepA base n φ g w l a v) ->
 (∀ (j:Nat) (a:AV),bs[j]?=some a->∃ v l,ys[i + j]?=some v∧RepA base n φ g w l a v)->(yv149 (d + 1) el xs ys (List.range' i ts.length)).run P w=.ok q w:=by
 intro ts
 induction ts with
 | nil =>
  intro as bs i q hf he r1 r2
  cases as with
  | nil =>
   cases bs with
   | nil=>simp [yv15] at he;subst he;simp [yv149]
   | cons=>simp [yv15] at he
  | cons=>simp [yv15] at he
 | cons t ts ih =>
  intro as bs i q hf he r1 r2
  simp only [List.all_cons,Bool.and_eq_true] at hf
  cases as with
  | nil=>simp [yv15] at he
  | cons a as =>
   cases bs with
   | nil=>simp [yv15] at he
   | cons b bs =>
    obtain ⟨u,l,hu,ra⟩:=r1 0 a rfl
    obtain ⟨v,l',hv,rb⟩:=r2 0 b rfl
    rw [Nat.add_zero] at hu hv
    have p1:(part el xs i).run P w=.ok u w:=by rw [yv68 hel xs i w];simp [hu]
    have p2:(part el ys i).run P w=.ok v w:=by rw [yv68 hel ys i w];simp [hv]
    rw [List.length_cons,List.range'_succ,yv149,Sem.run_bind,p1,Result.andThen_ok,Sem.run_bind,p2,Result.andThen_ok,Sem.run_bind]
    simp only [yv15] at he
    cases hq:yv58 t a b with
    | none=>simp [hq] at he
    | some r =>
     have hs:=(yv104 (d:=d) ra rb hq hf.1).1
     rw [hs,Result.andThen_ok]
     rw [hq] at he
     cases r with
     | false=>simp at he;subst he;simp
     | true =>
      simp only at he
      simp only [Bool.not_true,Bool.false_eq_true,if_false]
      exact ih as bs (i + 1) q hf.2 he
       (fun j c p=>by rw [Nat.add_right_comm];exact r1 (j + 1) c (by simpa using p))
       (fun j c p=>by rw [Nat.add_right_comm];exact r2 (j + 1) c (by simpa using p))
theorem yv122:∀ (n:Nat) (ts:List ET) (as bs:List AV) (q:Bool),yv15 ts as bs=some q->n ≤ ts.length ->
 ∃ q1,yv15 (ts.take n) (as.take n) (bs.take n)=some q1∧(q1=false->q=false)∧(q1=true->n ≤ as.length∧n ≤ bs.length∧yv15 (ts.drop n) (as.drop n) (bs.drop n)=some q)
 | 0,ts,as,bs,q,h,_=>⟨true,rfl,by simp,fun _=>⟨by omega,by omega,h⟩⟩
 | n + 1,[],as,bs,q,h,hn=>by simp at hn
 | n + 1,t::ts,[],bs,q,h,hn=>by simp [yv15] at h
 | n + 1,t::ts,a::as,[],q,h,hn=>by simp [yv15] at h
 | n + 1,t::ts,a::as,b::bs,q,h,hn=>by
  simp only [yv15,List.take_succ_cons,List.drop_succ_cons] at h ⊢
  cases hq:yv58 t a b with
  | none=>rw [hq] at h;cases h
  | some r =>
   rw [hq] at h
   cases r with
   | false=>exact ⟨false,rfl,fun _=>by simpa using h.symm,fun h=>by cases h⟩
   | true =>
    obtain ⟨q1,e1,e2,e3⟩:=yv122 n ts as bs q h (by simpa using hn)
    exact ⟨q1,e1,e2,fun hq=>by obtain ⟨x,y,z⟩:=e3 hq;exact ⟨by simpa using x,by simpa using y,z⟩⟩
theorem yv284 {base n:Nat} {φ:Nat->Nat} {g:Gh} {w:World} {l l':Loc} {xs ys:Array Value} {d:Nat}:∀ (fs:List Field) (ts:List ET) (as bs:List AV) (k:Nat) (q:Bool),
 yv360 P k fs ts=true->yv15 ts as bs=some q->k + as.length ≤ xs.size->k + bs.length ≤ ys.size ->
 (∀ (i:Nat) (a:AV) (v:Value),as[i]?=some a->xs[k + i]?=some v->RepC base n φ g w (.sub l (k + i)) a v) ->
 (∀ (i:Nat) (a:AV) (v:Value),bs[i]?=some a->ys[k + i]?=some v->RepC base n φ g w (.sub l' (k + i)) a v)->(Op.eqFields (d + 2) xs ys fs).run P w=.ok q w:=by
 intro fs
 induction fs with
 | nil =>
  intro ts as bs k q hf he h1 h2 r1 r2
  cases ts with
  | nil =>
   cases as with
   | nil =>
    cases bs with
    | nil=>simp [yv15] at he;subst he;simp [Op.eqFields]
    | cons=>simp [yv15] at he
   | cons=>simp [yv15] at he
  | cons=>simp [yv360] at hf
 | cons f fs ih =>
  intro ts as bs k q hf he h1 h2 r1 r2
  simp only [yv360,Bool.and_eq_true,bne_iff_ne,ne_eq,beq_iff_eq] at hf
  obtain ⟨⟨f1,f2⟩,hf⟩:=hf
  split at hf
  ·rename_i m el harr
   simp only [Bool.and_eq_true,beq_iff_eq] at hf
   obtain ⟨⟨⟨g1,g2⟩,g3⟩,g4⟩:=hf
   have g1:m ≤ ts.length:=Nat.le_of_ble_eq_true g1
   simp only [eqArr,Bool.and_eq_true,beq_iff_eq] at g3
   obtain ⟨⟨g5,g6⟩,g7⟩:=g3
   have hu:P.underlying f.type=some (.array m el):=by
    unfold arrN at harr
    split at harr
    ·rename_i e;cases harr;exact e
    ·cases harr
   have hsz:∀ w:World,(Go.sizeOf el).run P w=.ok 1 w:=by
    intro w
    cases hq:P.info? el with
    | none=>rw [hq] at g5;cases g5
    | some i =>
     rw [hq] at g5
     simp only [beq_iff_eq] at g5
     simp [Go.sizeOf,typeInfo,hq,g5]
   obtain ⟨q1,e1,e2,e3⟩:=yv122 m ts as bs q he g1
   have p1:(part f.type xs k).run P w=.ok (.agg (xs.extract k (k + m))) w:=by rw [yv68 g2 xs k w];rfl
   have p2:(part f.type ys k).run P w=.ok (.agg (ys.extract k (k + m))) w:=by rw [yv68 g2 ys k w];rfl
   have hlen:(ts.take m).length=m:=by rw [List.length_take];omega
   have key:(Op.equalIn (d + 2) f.type (.agg (xs.extract k (k + m))) (.agg (ys.extract k (k + m)))).run P w=.ok q1 w:=by
    rw [yv131 w (d + 1) f.type el m _ _ hu (hsz w)]
    have:=yv359 (d:=d) (w:=w) (xs:=xs.extract k (k + m)) (ys:=ys.extract k (k + m)) (base:=base) (n:=n) (φ:=φ) (g:=g) g6 (ts.take m) (as.take m) (bs.take m) 0 q1 g7 e1
     (fun j a p=>by
      rw [List.getElem?_take] at p
      split at p
      ·rename_i hj
       have hja:=(List.getElem?_eq_some_iff.1 p).1
       have hx:k + j < xs.size:=by omega
       refine ⟨xs[k + j],.sub l (k + j),?_,.b _ _ (.c _ _ (r1 j a _ p (by simp [hx])))⟩
       rw [Nat.zero_add,Array.getElem?_extract,if_pos (by omega)]
       simp [hx]
      ·cases p)
     (fun j a p=>by
      rw [List.getElem?_take] at p
      split at p
      ·rename_i hj
       have hja:=(List.getElem?_eq_some_iff.1 p).1
       have hx:k + j < ys.size:=by omega
       refine ⟨ys[k + j],.sub l' (k + j),?_,.b _ _ (.c _ _ (r2 j a _ p (by simp [hx])))⟩
       rw [Nat.zero_add,Array.getElem?_extract,if_pos (by omega)]
       simp [hx]
      ·cases p)
    rw [hlen] at this
    exact this
   rw [Op.eqFields,if_pos f1,f2,Sem.run_bind,p1,Result.andThen_ok,Sem.run_bind,p2,Result.andThen_ok,Sem.run_bind,key,Result.andThen_ok]
   cases q1 with
   | false =>
    have:=e2 rfl
    subst this
    simp
   | true =>
    obtain ⟨l1,l2,e4⟩:=e3 rfl
    simp only [Bool.not_true,Bool.false_eq_true,if_false]
    exact ih (ts.drop m) (as.drop m) (bs.drop m) (k + m) q g4 e4 (by rw [List.length_drop];omega) (by rw [List.length_drop];omega)
     (fun i a v p q=>by rw [Nat.add_assoc] at q ⊢;exact r1 (m + i) a v (by rw [List.getElem?_drop] at p;exact p) q)
     (fun i a v p q=>by rw [Nat.add_assoc] at q ⊢;exact r2 (m + i) a v (by rw [List.getElem?_drop] at p;exact p) q)
  ·split at hf
   case h_2=>cases hf
   rename_i t ts
   simp only [Bool.and_eq_true,beq_iff_eq] at hf
   obtain ⟨⟨f3,f4⟩,f5⟩:=hf
   cases as with
   | nil=>simp [yv15] at he
   | cons a as =>
    cases bs with
    | nil=>simp [yv15] at he
    | cons b bs =>
     simp only [List.length_cons] at h1 h2
     have hx:k < xs.size:=by omega
     have hy:k < ys.size:=by omega
     have ra:=r1 0 a xs[k] rfl (by simp [hx])
     have rb:=r2 0 b ys[k] rfl (by simp [hy])
     have p1:(part f.type xs k).run P w=.ok xs[k] w:=by rw [yv68 f4 xs k w];simp [hx]
     have p2:(part f.type ys k).run P w=.ok ys[k] w:=by rw [yv68 f4 ys k w];simp [hy]
     rw [Op.eqFields,if_pos f1,f2,Sem.run_bind,p1,Result.andThen_ok,Sem.run_bind,p2,Result.andThen_ok,Sem.run_bind]
     simp only [yv15] at he
     cases hq:yv58 t a b with
     | none=>simp [hq] at he
     | some r =>
      have hs:=(yv104 (d:=d + 1) (.b _ _ (.c _ _ ra)) (.b _ _ (.c _ _ rb)) hq f3).1
      rw [hs,Result.andThen_ok]
      rw [hq] at he
      cases r with
      | false=>simp at he;subst he;simp
      | true =>
       simp only at he
       simp only [Bool.not_true,Bool.false_eq_true,if_false]
       exact ih ts as bs (k + 1) q f5 he (by omega) (by omega)
        (fun i a v p q=>by rw [Nat.add_right_comm] at q ⊢;exact r1 (i + 1) a v (by simpa using p) q)
        (fun i a v p q=>by rw [Nat.add_right_comm] at q ⊢;exact r2 (i + 1) a v (by simpa using p) q)
theorem yv606 {neg:Bool} {ts:List ET} (hop:s.op=.eqs neg ts) (ok:okOp P o s=true):Right P W0 o s:=by
 intro φ g w H a as us r H' hi hh ha he
 simp only [okOp,hop] at ok
 simp only [hop,POp.ev] at he
 split at ok
 case h_2=>cases ok
 rename_i b' t x' y' _ hy
 simp only [Bool.and_eq_true,decide_eq_true_eq] at ok
 obtain ⟨⟨ok1,rfl⟩,ok2⟩:=ok
 obtain ⟨x,y,hs,k1,k2⟩:=opds_two' ok1
 rw [hs] at ha
 split at he
 case h_2=>cases he
 rename_i as bs
 simp only [Option.map_eq_some_iff] at he
 obtain ⟨q,hq,he⟩:=he
 simp at he;obtain ⟨rfl,rfl⟩:=he
 obtain ⟨u,v,rfl,h1,h2,r1,r2⟩:=ha.two
 have e1:=yv0 k1 h1
 have e2:=yv0 k2 h2
 obtain ⟨xs,rfl,x1,x2,_⟩:=r1.of_agg
 obtain ⟨ys,rfl,y1,y2,_⟩:=r2.of_agg
 unfold yv400 at ok2
 split at ok2
 case h_2=>cases ok2
 rename_i fs hfs
 simp only [Bool.and_eq_true,Bool.not_eq_true'] at ok2
 obtain ⟨⟨o1,o2⟩,o3⟩:=ok2
 have hfo:P.fieldsOf t=fs:=by simp [Program.fieldsOf,hfs]
 have heq:(Op.equal t (.agg xs) (.agg ys)).run P w=.ok q w:=by
  show (Op.equalIn (9999 + 1) t (.agg xs) (.agg ys)).run P w=.ok q w
  rw [run_equalIn_struct w 9999 t xs ys (by rw [hfo];exact hfs) o1,hfo]
  exact yv284 (d:=9997) fs.toList ts as bs 0 q o3 hq (by omega) (by omega) (fun i a v p q=>by rw [Nat.zero_add] at q ⊢;exact x2 i a v p q) (fun i a v p q=>by rw [Nat.zero_add] at q ⊢;exact y2 i a v p q)
 obtain ⟨b1,b2⟩:=yv212 heq trivial
 refine ⟨.bool (if neg then !q else q),φ,g,w,.inl ?_,.same hi hh (.lit rfl)⟩
 have hg:=run_eqGuard_agg (P:=P) w (if neg then BinOp.neq else BinOp.eql) t x' y' xs ys o2
 simp only [execOp,hy,e1,e2]
 cases neg
 ·simp only [Bool.false_eq_true,if_false] at hg ⊢
  simp [hg,b1]
 ·simp only [if_true] at hg ⊢
  simp [hg,b2]
end Go.Rv
namespace Go.Rv
open Go.RowKit
variable {P:Program} {W0:World} {o:Oper} {s:SOp}
theorem yv460 {α:Type} {sz:Nat}:∀ {rows:List (List α)} {k:Nat} {p:α},(∀ r ∈ rows,r.length=sz)->rows.flatten[k]?=some p->∃ i r j,rows[i]?=some r∧r[j]?=some p∧k=i * sz + j
 | [],k,p,_,h=>by simp at h
 | x::rows,k,p,hs,h=>by
  have hx:=hs x (by simp)
  simp only [List.flatten_cons] at h
  by_cases hk:k < x.length
  ·rw [List.getElem?_append_left hk] at h
   exact ⟨0,x,k,rfl,h,by simp⟩
  ·rw [List.getElem?_append_right (by omega)] at h
   obtain ⟨i,r,j,h1,h2,h3⟩:=yv460 (fun r hr=>hs r (by simp [hr])) h
   refine ⟨i + 1,r,j,by simpa using h1,h2,?_⟩
   rw [Nat.add_mul,Nat.one_mul];omega
theorem RowCells.flat {base n:Nat} {φ:Nat->Nat} {g:Gh} {w:World} {sz:Nat} {rows:List (List PV)} {xs:List Value} (h:RowCells base g w sz rows xs) {k:Nat} {a:AV} {v:Value}
 (h1:(rows.flatten.map AV.pv)[k]?=some a) (h2:xs[k]?=some v):noOwn a=true∧(∀ l,RepC base n φ g w l a v)∧v.oneCell'=true:=by
 rw [List.getElem?_map] at h1
 cases hp:rows.flatten[k]? with
 | none=>simp [hp] at h1
 | some p =>
  simp [hp] at h1;subst h1
  obtain ⟨i,r,j,q1,q2,rfl⟩:=yv460 h.hsz hp
  obtain ⟨u,q3,q4⟩:=h.rep i r j p q1 q2
  rw [q3] at h2;cases h2
  exact ⟨rfl,fun l=>.zero _ _ (.pv _ _ q4),q4.one⟩
theorem yv46 {sz:Nat}:∀ {rows:List (List PV)},(∀ r ∈ rows,r.length=sz)->rows.flatten.length=rows.length * sz
 | [],_=>by simp
 | x::rows,hs=>by
  have hx:=hs x (by simp)
  have ih:=yv46 (rows:=rows) (sz:=sz) (fun r hr=>hs r (by simp [hr]))
  simp only [List.flatten_cons,List.length_append,List.length_cons,Nat.add_mul,Nat.one_mul]
  omega
theorem Post.viewHere {φ:Nat->Nat} {g:Gh} {w:World} {H:Heap} {sz cap b:Nat} {rows':List (List PV)} {xs':List Value} {cur:Array Value} {e:TypeId} {v:Value} {i:Nat}
 (hi:Inv W0 g w) (hh:RepH W0.heap.size φ g w H) (h:Owns W0.heap.size g w (.arg i) sz [] v b cap e cur) (h8:RowCells W0.heap.size g w sz rows' xs') (hroom:rows'.length ≤ cap) :
 Post W0 H.length φ g w (phiAt φ H.length b) (g.own b (.obj H.length) 0) (w.setRow b (xs'++cur.toList.drop xs'.length).toArray) (H++[rows'.flatten.map AV.pv])
  (.view H.length 0 rows'.length sz) (.slice (some ⟨b,0,none⟩) rows'.length cap):=by
 have hbl:b < w.heap.size:=(Array.getElem?_eq_some_iff.1 h.heap).1
 have hc:cap * sz ≤ cur.toList.length:=by simpa using h.size
 have hm:rows'.length * sz ≤ cap * sz:=Nat.mul_le_mul_right _ hroom
 have hlb:g.lim b=0:=by rw [h.lim];simp
 have hself:=setRow_heap w b cur (xs'++cur.toList.drop xs'.length).toArray e (0,0) h.heap
 have x:Ext W0.heap.size g w (g.own b (.obj H.length) 0) (w.setRow b (xs'++cur.toList.drop xs'.length).toArray):=by
  refine ⟨by simp,fun k=>?_,fun k o hk him=>?_,yv60 (by simp [yv21,h.heap];have:=h8.len;simp at hc;omega)⟩
  ·by_cases hk:k=b
   ·subst hk;rw [Gh.own_lim_self,hlb];exact Nat.le_refl _
   ·rw [Gh.own_lim hk];exact Nat.le_refl _
  ·by_cases hkb:k=b
   ·subst hkb
    rcases him with him|him
    ·exact absurd h.hb (by omega)
    ·rw [hlb] at him;omega
   ·exact cell_setRow_other w b _ ⟨k,o,none⟩ hkb
 have other:∀ k l,g.ow k=some l->l ≠ .arg i->k ≠ b:=by
  rintro k l h1 h2 rfl
  rw [h.ow] at h1;cases h1;exact h2 rfl
 have keep:∀ l,l ≠ .arg i->Keep W0.heap.size g w (g.own b (.obj H.length) 0) (w.setRow b (xs'++cur.toList.drop xs'.length).toArray) l l:=by
  intro l hl
  refine ⟨fun k hk=>?_⟩
  have:=other k l hk hl
  exact ⟨setRow_other w b k _ this,Gh.own_lim this,(Gh.own_ow this).trans hk⟩
 refine ⟨⟨yv79 hi.below h.hb _,fun k hk=>?_,fun k hk=>?_⟩,x,fun id hid=>?_,by simp,fun _ h=>yv72 h,?_,?_⟩
 ·have:k ≠ b:=by have:=h.hb;omega
  rw [Gh.own_lim this,Gh.own_ow this];exact hi.old k hk
 ·have:k ≠ b:=by have:w.heap.size ≤ k:=by simpa using hk
                 omega
  rw [Gh.own_lim this,Gh.own_ow this];exact hi.new k (by simpa using hk)
 ·have hid':id < H.length + 1:=by simpa using hid
  rw [show (H++[rows'.flatten.map AV.pv]).length=H.length + 1 by simp]
  by_cases he:id=H.length
  ·subst he
   rw [yv76]
   refine ⟨.inr ⟨(xs'++cur.toList.drop xs'.length).toArray,e,?_,?_,?_,?_,?_,?_⟩⟩
   ·simp only [phiAt,if_true];exact hself
   ·rw [List.length_map,yv46 h8.hsz,← h8.len];simp
   ·simp only [phiAt,if_true];exact h.hb
   ·simp only [phiAt,if_true];exact Gh.own_ow_self
   ·simp only [phiAt,if_true];exact Gh.own_lim_self
   ·intro j a u p q
    have hj:j < xs'.length:=by
     have:=(List.getElem?_eq_some_iff.1 p).1
     rw [List.length_map,yv46 h8.hsz,← h8.len] at this
     exact this
    have q':xs'[j]?=some u:=by
     rw [← q]
     simp [List.getElem?_append_left hj]
    obtain ⟨r1,r2,r3⟩:=h8.flat (n:=H.length) (φ:=φ) p q'
    exact ⟨(r2 .res).keepN x (Nat.le_succ _) (fun i h=>yv72 h) r1,r3⟩
  ·have hlt:id < H.length:=by omega
   rw [yv77 hlt]
   exact (hh id hlt).keep x (Nat.le_succ _) (fun i h=>yv72 h) hlt (keep _ (by simp)) (fun j=>⟨keep _ (by simp),fun _=>keep _ (by simp),fun _ _=>keep _ (by simp)⟩)
 ·have hsp:0 + cap * sz ≤ yv21 (w.setRow b (xs'++cur.toList.drop xs'.length).toArray) (phiAt φ H.length b H.length):=by
   simp only [phiAt,if_true,yv21,hself]
   have:=h8.len
   simp at hc ⊢;omega
  have:=Rep0.view (base:=W0.heap.size) (n:=H.length + 1) (φ:=phiAt φ H.length b) (g:=g.own b (.obj H.length) 0) (w:=w.setRow b (xs'++cur.toList.drop xs'.length).toArray) H.length 0 rows'.length cap sz (Nat.lt_succ_self _) hroom (.inr hsp)
  refine RepA.r0 ?_
  simpa [phiAt] using this
 ·intro k hk hl
  have:k ≠ b:=by
   rintro rfl
   have:=hl _ h.ow
   simp [Loc.isEnv,Loc.root] at this
  exact ⟨setRow_other w b k _ this,Gh.own_lim this,Gh.own_ow this⟩
theorem yv541 {φ:Nat->Nat} {g:Gh} {w:World} {H:Heap} {sz bytes:Nat} {ux uy:Value} {rows':List (List PV)} {xs:List Value} {t u ty:TypeId} {i:Nat}
 (hi:Inv W0 g w) (hh:RepH W0.heap.size φ g w H) (he:yv209 P t sz bytes=true) (hroom1:rows'.length * bytes ≤ room) (hroom2:rows'.length ≤ room)
 (rx:RepA W0.heap.size H.length φ g w (.arg i) (.own sz []) ux) (hy:Adds P W0.heap.size g w sz u uy rows' xs) :
 ∃ v φ' g' w',(Builtin.append_ #[t,u] ty #[ux,uy]).run P w=.ok v w'∧Post W0 H.length φ g w φ' g' w' (H++[rows'.flatten.map AV.pv]) (.view H.length 0 rows'.length sz) v:=by
 obtain ⟨e,inf,z,hte,hinf,hsz,hby,hpos,hz,hzs⟩:=yv24 he
 subst hsz hby
 have h8:=hy.cells
 obtain ⟨b,cap,e',cur,ho⟩:∃ b cap e' cur,Owns W0.heap.size g w (.arg i) inf.size [] ux b cap e' cur:=by
  cases rx with
  | b _ _ rx=>cases rx with
   | c _ _ rx=>cases rx with
    | zero _ _ rx=>cases rx
    | own _ _ _ b cap e' cur rx=>exact ⟨b,cap,e',cur,rx⟩
 rw [ho.v]
 by_cases hfit:rows'.length ≤ cap
 ·have hrun:=yv301 (ty:=ty) (sLen:=0) (sCap:=cap) hte hinf ho.heap hy (by omega) (by
   rw [h8.len,Nat.zero_mul,Nat.zero_add]
   exact Nat.le_trans (Nat.mul_le_mul_right _ hfit) ho.size)
  simp only [Nat.zero_mul,Nat.zero_add,List.take_zero,List.nil_append] at hrun
  exact ⟨_,_,_,_,by simpa using hrun,.viewHere hi hh ho h8 hfit⟩
 ·have hold:(Builtin.firstCells inf.size 0 (.slice (some ⟨b,0,none⟩) 0 cap)).run P w.drew=.ok (([]:List Value)).toArray w.drew :=
   run_firstCells_some w.drew _ _ _ _ _ _ (by simp) (by intro j v hj;simp at hj)
  have hrun:=yv205 (ty:=ty) (sLen:=0) (sCap:=cap) (olds:=[]) hte hinf hz hold hy (by omega) (by unfold room at hroom2;simp;omega) (growslice_fits (by omega) (by unfold room at hroom1;simpa using hroom1))
  simp only [Nat.zero_add] at hrun
  have hge:=grownCap_ge w rows'.length cap e
  refine ⟨_,phiAt φ H.length w.heap.size,g.own w.heap.size (.obj H.length) 0,_,by simpa using hrun,?_⟩
  refine (Post.newObj (w:=w.drew) hi.drew hh.drew (rows'.flatten.map AV.pv) (xs.toArray++Builtin.zeroCells z.cells (grownCap w rows'.length cap e - rows'.length)) e ?_ ?_ ?_).undrew
  ·rw [List.length_map,yv46 h8.hsz,← h8.len];simp
  ·intro j a v p q
   have hj:j < xs.length:=by
    have:=(List.getElem?_eq_some_iff.1 p).1
    rw [List.length_map,yv46 h8.hsz,← h8.len] at this
    exact this
   have q':xs[j]?=some v:=by
    rw [← q]
    simp [Array.getElem?_append_left,hj]
   obtain ⟨r1,r2,r3⟩:=(h8.ext yv106).flat (n:=H.length) (φ:=φ) p q'
   exact ⟨r1,⟨.res,r2 .res⟩,r3⟩
  ·have hsp:0 + grownCap w rows'.length cap e * inf.size ≤ yv21 (w.drew.alloc (.cells (xs.toArray++Builtin.zeroCells z.cells (grownCap w rows'.length cap e - rows'.length)) e)) (phiAt φ H.length w.heap.size H.length):=by
    simp only [phiAt,if_true,yv21]
    rw [show (w.drew.alloc (.cells (xs.toArray++Builtin.zeroCells z.cells (grownCap w rows'.length cap e - rows'.length)) e)).heap[w.heap.size]?=some (.cells (xs.toArray++Builtin.zeroCells z.cells (grownCap w rows'.length cap e - rows'.length)) e) from heap_alloc_new w.drew _]
    simp only [Array.size_append,List.size_toArray,size_zeroCells,hzs,h8.len,← Nat.add_mul]
    exact Nat.le_of_eq (by rw [Nat.zero_add];congr 1;omega)
   have:=Rep0.view (base:=W0.heap.size) (n:=H.length + 1) (φ:=phiAt φ H.length w.heap.size) (g:=g.own w.heap.size (.obj H.length) 0) (w:=w.drew.alloc (.cells (xs.toArray++Builtin.zeroCells z.cells (grownCap w rows'.length cap e - rows'.length)) e)) H.length 0 rows'.length (grownCap w rows'.length cap e) inf.size (Nat.lt_succ_self _) hge (.inr hsp)
   simpa [phiAt] using this
theorem yv499 {sz bytes:Nat} (hop:s.op=.appv sz bytes) (ok:okOp P o s=true):Right P W0 o s:=by
 intro φ g w H a as us r H' hi hh ha he
 simp only [okOp,hop] at ok
 simp only [hop,POp.ev] at he
 split at ok
 case h_2=>cases ok
 rename_i c hy
 obtain ⟨cal,args,tys⟩:=c
 simp only [Bool.and_eq_true,beq_iff_eq] at ok
 obtain ⟨⟨ok1,ok2⟩,ok3⟩:=ok
 obtain rfl:=yv22 ok1
 obtain ⟨args⟩:=args
 obtain ⟨tys⟩:=tys
 simp only at ok2 ok3
 split at ok3
 case h_2=>cases ok3
 rename_i t t'
 simp only [Bool.and_eq_true,beq_iff_eq] at ok3
 obtain ⟨rfl,ok3⟩:=ok3
 obtain ⟨_,_,_,_,_,_,_,hpos,_,_⟩:=yv24 ok3
 split at he
 case h_2=>cases he
 rename_i z ay
 split at he
 case h_2=>cases he
 rename_i rows' hrows
 split at he
 case isFalse=>cases he
 rename_i hcond
 obtain ⟨rfl,hc1,hc2⟩:=hcond
 simp only [Option.some.injEq,Prod.mk.injEq] at he;obtain ⟨rfl,rfl⟩:=he
 have hl:=yv31 ok2
 have hl2:=ha.l1
 simp at hl2
 rw [hl2] at hl
 match args,hl with
 | [x',y'],_ =>
  obtain ⟨x,y,hs,k1,k2⟩:=opds_two' ok2
  rw [hs] at ha
  obtain ⟨u,v,rfl,h1,h2,r1,r2⟩:=ha.two
  obtain ⟨_,_,_,hte,_⟩:=yv24 ok3
  obtain ⟨xs,hxs⟩:=yv234 (P:=P) hte (yv83 hpos hrows r2)
  obtain ⟨v',φ',g',w',hrun,hpost⟩:=yv541 (ty:=o.type) hi hh ok3 hc1 hc2 r1 hxs
  exact ⟨v',φ',g',w',yv105 hy (by rw [yv0 k1 h1,yv0 k2 h2];exact hrun),hpost⟩
theorem yv182:∀ {cs:List AV} {l:List UInt8},yv144 cs=some l->∃ ns:List Int,cs=ns.map (fun n=>.pv (.lit (.int .u8 n)))∧l=ns.map fun n=>UInt8.ofNat n.toNat
 | [],l,h=>by simp [yv144] at h;subst h;exact ⟨[],rfl,rfl⟩
 | c::cs,l,h=>by
  unfold yv144 at h
  split at h
  ·rename_i e;cases e
  ·rename_i n l' e
   cases e
   simp only [Option.map_eq_some_iff] at h
   obtain ⟨q,h1,rfl⟩:=h
   obtain ⟨ns,rfl,rfl⟩:=yv182 h1
   exact ⟨n::ns,rfl,rfl⟩
  ·cases h
theorem yv507 {m:Nat} (hop:s.op=.sarr m) (ok:okOp P o s=true):Right P W0 o s:=by
 intro φ g w H a as us r H' hi hh ha he
 simp only [okOp,hop] at ok
 simp only [hop,POp.ev] at he
 split at ok
 case h_2=>cases ok
 rename_i x t y hs hy
 simp only [Bool.and_eq_true] at ok
 obtain ⟨ok1,ok2⟩:=ok
 rw [hs] at ha
 split at ok2
 case h_2=>cases ok2
 rename_i n e he1
 simp only [Bool.and_eq_true,beq_iff_eq,Option.isSome_iff_exists] at ok2
 obtain ⟨rfl,sz,he2⟩:=ok2
 obtain ⟨_,_,_,hsz⟩:=yv38 he2 w
 split at he
 case h_2=>cases he
 rename_i id off
 simp only [Option.some.injEq,Prod.mk.injEq] at he;obtain ⟨rfl,rfl⟩:=he
 obtain ⟨u,rfl,h1,r1⟩:=ha.one
 obtain ⟨rfl,hn⟩:=r1.of_ref
 refine ⟨.slice (some ⟨φ id,off,none⟩) n n,φ,g,w,.inl ?_,.same hi hh (.r0 (.view id off n n 0 hn (Nat.le_refl _) (.inl rfl)))⟩
 simp [execOp,hy,yv0 ok1 h1,Instr.sliceAt,run_underlying he1,Instr.sureAddr,Instr.sliceBounds,hsz,yv20]
theorem yv602 (hop:s.op=.b2v) (ok:okOp P o s=true):Right P W0 o s:=by
 intro φ g w H a as us r H' hi hh ha he
 simp only [okOp,hop] at ok
 simp only [hop,POp.ev] at he
 split at ok
 case h_2=>cases ok
 rename_i x src dst y hs hy
 rw [hs] at ha
 simp only [Bool.and_eq_true] at ok
 obtain ⟨⟨ok1,ok2⟩,ok3⟩:=ok
 split at he
 case h_2=>cases he
 rename_i id off n z0
 split at he
 case isFalse=>cases he
 rename_i hle
 simp only [Option.map_eq_some_iff] at he
 obtain ⟨l,hl,he⟩:=he
 simp only [Prod.mk.injEq] at he;obtain ⟨rfl,rfl⟩:=he
 obtain ⟨v,rfl,h1,h2⟩:=ha.one
 obtain ⟨e,hs',he'⟩:=yv279 ok2
 have hd:=yv52 ok3
 obtain ⟨ns,hns,rfl⟩:=yv182 hl
 have hlen:ns.length=n:=by
  have:=congrArg List.length hns
  simp at this;omega
 have h0:=h2.of_0 trivial
 obtain ⟨ad,c,rfl,hcell⟩:∃ ad c,v=.slice (some ad) n c∧∀ j u,(ns.map (Value.int .u8))[j]?=some u->w.cell? (ad.add j)=some u:=by
  cases h0 with
  | view0 _ _ cap _ ad hid =>
   have:ns=[]:=List.eq_nil_of_length_eq_zero hlen
   subst this
   exact ⟨ad,cap,rfl,fun j u h=>by simp at h⟩
  | view _ _ _ cap _ hid hc _ =>
   refine ⟨_,cap,rfl,fun j u hj=>?_⟩
   obtain ⟨ho⟩:=hh id hid
   rw [List.getElem?_map] at hj
   cases hz:ns[j]? with
   | none=>simp [hz] at hj
   | some z =>
    simp [hz] at hj;subst hj
    have hc2:(((hget H id).drop off).take n)[j]?=some (.pv (.lit (.int .u8 z))):=by rw [hns,List.getElem?_map,hz];rfl
    rw [List.getElem?_take] at hc2
    split at hc2
    case isFalse=>cases hc2
    rw [List.getElem?_drop] at hc2
    rcases ho with ho|⟨cur,T,p1,p2,p3,p4,p5,p6⟩
    ·rw [ho] at hc2;simp at hc2
    have hlt:off + j < cur.size:=Nat.lt_of_lt_of_le (List.getElem?_eq_some_iff.1 hc2).1 p2
    obtain ⟨q1,q2⟩:=p6 (off + j) _ cur[off + j] hc2 (by simp [hlt])
    have hv:cur[off + j]=.int .u8 z:=by
     have:RepA W0.heap.size H.length φ g w (.hp id (off + j)) (.pv (.lit (.int .u8 z))) cur[off + j]:=.b _ _ (.c _ _ q1)
     exact this.of_lit.1
    rw [yv20]
    simp [World.cell?,p1,hlt,hv]
 have hload:(loadCells ad n).run P w=.ok (ns.map (Value.int .u8)).toArray w:=by
  have:=run_loadCells_list (P:=P) w ad (ns.map (Value.int .u8)) hcell
  rwa [List.length_map,hlen] at this
 have hb:=run_bytesToString (P:=P) w ad n c ns hload
 have hstr:(ns.foldl (fun r n=>r.push (UInt8.ofNat n.toNat)) ByteArray.empty)=⟨(ns.map fun n=>UInt8.ofNat n.toNat).toArray⟩:=by
  apply ByteArray.ext
  apply Array.ext'
  rw [yv244]
  rfl
 rw [hstr] at hb
 refine ⟨_,φ,g,w,.inl ?_,.same hi hh (.lit rfl)⟩
 simp [execOp,hy,yv0 ok1 h1,run_convert_bytes_string w src dst e (some ad) n c hs' he' hd,hb]
end Go.Rv
namespace Go.Rv
open Go.RowKit
variable {P:Program} {W0:World} {o:Oper} {s:SOp}
theorem yv501 (hop:s.op=.extm) (ok:okOp P o s=true):Right P W0 o s:=by
 intro φ g w H a as us r H' hi hh ha he
 simp only [okOp,hop] at ok
 simp only [hop,POp.ev] at he
 split at ok
 case h_2=>cases ok
 rename_i t i t' j hs hy
 simp only [Bool.and_eq_true,beq_iff_eq] at ok
 obtain ⟨rfl,rfl⟩:=ok
 rw [hs] at ha
 obtain ⟨a0,rfl⟩:=yv206 ha
 obtain ⟨u,rfl,⟨vs,h1,h3⟩,h2⟩:=ha.one
 have:r=a0∧H'=H:=by
  cases a0<;>simp at he<;>exact ⟨he.1.symm,he.2.symm⟩
 obtain ⟨rfl,rfl⟩:=this
 have h1':a.eval (.tmp t)=.tuple vs:=h1
 exact ⟨u,φ,_,w,.inl (by simp [execOp,hy,h1',Instr.extract,h3]),.moved hi hh (p:=.arg 0) (by simp [Loc.root]) (by simp [Loc.root]) (by simp [Loc.root]) h2⟩
theorem yv599 (hop:∀ f,s.op ≠ .call f) (ok:okOp P o s=true):Right P W0 o s:=by
 cases h:s.op with
 | mv=>exact yv709 h ok
 | pick=>exact yv506 h ok
 | alloc zs=>exact yv373 h ok
 | box=>exact yv604 h ok
 | build zs offs=>exact yv374 h ok
 | bslice sz n zs idx=>exact yv296 h ok
 | load n=>exact yv504 h ok
 | loadm=>exact yv375 h ok
 | store n=>exact yv377 h ok
 | nilck=>exact yv376 h ok
 | bin b e=>exact yv603 h ok
 | eqs neg ts=>exact yv606 h ok
 | un u=>exact yv710 h ok
 | cint k=>exact yv500 h ok
 | s2b=>exact yv613 h ok
 | b2s=>exact yv601 h ok
 | cid=>exact yv605 h ok
 | mkf fn nf=>exact yv612 h ok
 | mksl sz bytes zs=>exact yv505 h ok
 | appv sz bytes=>exact yv499 h ok
 | sarr n=>exact yv507 h ok
 | b2v=>exact yv602 h ok
 | sstr lo hi=>exact yv509 h ok
 | ssl sz lo hi=>exact yv614 h ok
 | fa off=>exact yv707 h ok
 | fld off n=>exact yv608 h ok
 | ia sz=>exact yv708 h ok
 | iarr ln sz=>exact yv502 h ok
 | sidx=>exact yv508 h ok
 | aidx ln sz n=>exact yv497 h ok
 | ext i=>exact yv607 h ok
 | extm=>exact yv501 h ok
 | len=>exact yv609 h ok
 | lens=>exact yv503 h ok
 | lena n=>simp [okOp,h] at ok
 | min=>exact yv611 h ok
 | max=>exact yv610 h ok
 | app sz bytes=>exact yv600 h ok
 | apps=>exact yv498 h ok
 | call f=>exact absurd h (hop f)
theorem yv290 {e:Env} {t t':Nat} {v:AV}:lk (put e t v) t'=if t'=t then v else lk e t':=by
 induction e with
 | nil=>simp [put,lk,eq_comm]
 | cons p e ih =>
  obtain ⟨k,x⟩:=p
  simp only [put]
  split
  ·simp only [lk]
   by_cases h1:t=t'
   ·subst h1;simp
   ·simp [h1,Ne.symm h1]
  ·split
   ·rename_i h1 h2
    subst h2
    simp only [lk]
    by_cases h3:k=t'
    ·subst h3;simp
    ·simp [h3,Ne.symm h3]
   ·rename_i h1 h2
    simp only [lk,ih]
    by_cases h3:k=t'
    ·subst h3;simp [h2]
    ·simp [h3]
theorem lk_rm {e:Env} {t t':Nat}:lk (rm e t) t'=if t'=t then .junk else lk e t':=by
 induction e with
 | nil=>simp [rm,lk]
 | cons p e ih =>
  obtain ⟨k,x⟩:=p
  simp only [rm]
  split
  ·rename_i h;subst h
   rw [ih]
   simp only [lk]
   by_cases h3:k=t'
   ·subst h3;simp
   ·simp [h3]
  ·rename_i h
   simp only [lk,ih]
   by_cases h3:k=t'
   ·subst h3;simp [h]
   ·simp [h3]
structure SR (W0:World) (φ:Nat->Nat) (g:Gh) (w:World) (e:Env) (H:Heap) (tmps:Array Value):Prop where
 inv:Inv W0 g w
 hp:RepH W0.heap.size φ g w H
 env:∀ t,RepA W0.heap.size H.length φ g w (.env t) (lk e t) (tmps.getD t undef)
theorem RepA.junk {base n:Nat} {φ:Nat->Nat} {g:Gh} {w:World} {l:Loc} {v:Value}:RepA base n φ g w l .junk v:=.b _ _ (.c _ _ (.junk v))
def conc1:AV->Value
 | .pv (.lit v)=>v
 | .clo (.func f) _ _=>.func (.func f) #[] #[]
 | _=>undef
def conc:AV->Value
 | .agg cs=>.agg (cs.map conc1).toArray
 | a=>conc1 a
def argOk:Arg->Bool
 | .k a=>yv57 a (conc a)
 | _=>true
def noC:Arg->Bool
 | .c _ _=>false
 | _=>true
structure Rd (W0:World) (φ:Nat->Nat) (w:World) (H:Heap) (tmps:Array Value) (g:Gh) (e:Env) (g':Gh) (e':Env) (k:Nat):Prop where
 sr:SR W0 φ g' w e' H tmps
 lim:g'.lim=g.lim
 none:∀ b,g.ow b=none->g'.ow b=none
 args:∀ i,i < k->KeepU W0.heap.size g w g' w (.arg i) (.arg i)
theorem Ext.lims {base:Nat} {g g':Gh} {w:World} (h:g'.lim=g.lim):Ext base g w g' w:=⟨Nat.le_refl _,fun b=>by rw [h];exact Nat.le_refl _,fun _ _ _ _=>rfl,fun _=>Nat.le_refl _⟩
theorem KeepU.refl {base:Nat} {g:Gh} {w:World} {l:Loc}:KeepU base g w g w l l:=⟨⟨fun _ h=>⟨rfl,rfl,h⟩⟩,fun _=>⟨fun _ h=>⟨rfl,rfl,h⟩⟩,fun _ _=>⟨fun _ h=>⟨rfl,rfl,h⟩⟩⟩
theorem Keep.trans {base:Nat} {g1 g2 g3:Gh} {w1 w2 w3:World} {l1 l2 l3:Loc} (h:Keep base g1 w1 g2 w2 l1 l2) (k:Keep base g2 w2 g3 w3 l2 l3):Keep base g1 w1 g3 w3 l1 l3 :=
 ⟨fun b hb=>let ⟨a1,a2,a3⟩:=h.heap b hb;let ⟨b1,b2,b3⟩:=k.heap b a3;⟨b1.trans a1,b2.trans a2,b3⟩⟩
theorem KeepU.trans {base:Nat} {g1 g2 g3:Gh} {w1 w2 w3:World} {l1 l2 l3:Loc} (h:KeepU base g1 w1 g2 w2 l1 l2) (k:KeepU base g2 w2 g3 w3 l2 l3):KeepU base g1 w1 g3 w3 l1 l3 :=
 ⟨h.k0.trans k.k0,fun i=>(h.k1 i).trans (k.k1 i),fun i j=>(h.k2 i j).trans (k.k2 i j)⟩
theorem yv47 {g:Gh} {p q:Loc} {b:Nat} (h:g.ow b=none):(g.reroot p q).ow b=none:=by simp [Gh.reroot,h]
theorem yv700 {φ:Nat->Nat} {g:Gh} {w:World} {H:Heap} {e:Env} {tmps:Array Value} {x:Arg} {k:Nat} (h:SR W0 φ g w e H tmps) (hx:argOk x=true) (hc:noC x=true∨(rdA e x).1 ≠ .junk) :
 ∃ g' u,Rd W0 φ w H tmps g e g' (rdA e x).2 k∧ArgC tmps x u∧RepA W0.heap.size H.length φ g' w (.arg k) (rdA e x).1 u:=by
 cases x with
 | v t =>
  exact ⟨g,_,⟨h,rfl,fun _ h=>h,fun _ _=>KeepU.refl⟩,rfl,(h.env t).strip⟩
 | m t =>
  refine ⟨g.reroot (.env t) (.arg k),_,⟨⟨h.inv.reroot _ _,h.hp.reroot (by simp [Loc.root]) (by simp [Loc.root]),fun t'=>?_⟩,rfl,fun _=>yv47,fun i hik=>KeepU.other (by simp [Loc.root])⟩,rfl,?_⟩
  ·simp only [rdA,lk_rm]
   split
   ·exact RepA.junk
   ·rename_i hne
    exact (h.env t').keep (Ext.reroot _ _ _ _ _) (Nat.le_refl _) (fun _ _=>rfl) (KeepU.other (by simpa [Loc.root] using hne))
  ·exact (h.env t).keep (Ext.reroot _ _ _ _ _) (Nat.le_refl _) (fun _ _=>rfl) (KeepU.reroot _ _ _ _ _)
 | k a =>
  exact ⟨g,conc a,⟨h,rfl,fun _ h=>h,fun _ _=>KeepU.refl⟩,hx,.b _ _ (yv358 hx)⟩
 | c t i =>
  simp only [noC,Bool.false_eq_true,false_or] at hc
  simp only [rdA] at hc ⊢
  split at hc
  case h_2=>exact absurd rfl hc
  rename_i vs hvs
  simp only at hc ⊢
  have ht:=h.env t
  rw [hvs] at ht
  obtain ⟨us,hus,hlen,hrep⟩:=ht.of_tup
  rw [yv155] at hc ⊢
  cases hv:vs[i]? with
  | none=>rw [hv] at hc;exact absurd rfl hc
  | some a =>
   have hlt:i < us.size:=by rw [← hlen];exact (List.getElem?_eq_some_iff.1 hv).1
   have hu:us[i]?=some us[i]:=by simp [hlt]
   have e1:∀ j,j ≠ i->(Loc.sub (.env t) j).reroot (.sub (.env t) i) (.arg k)=.sub (.env t) j:=by
    intro j hj
    rw [Loc.reroot,if_neg (by simp [hj]),Loc.reroot]
    simp
    simp
   have e2:∀ j m,j ≠ i->(Loc.sub (.sub (.env t) j) m).reroot (.sub (.env t) i) (.arg k)=.sub (.sub (.env t) j) m:=by
    intro j m hj
    rw [Loc.reroot,if_neg (by simp),e1 j hj]
   have hkeep:∀ j,j ≠ i->Keep W0.heap.size g w (g.reroot (.sub (.env t) i) (.arg k)) w (.sub (.env t) j) (.sub (.env t) j) :=
    fun j hj=>⟨fun b hb=>⟨rfl,rfl,by simp [Gh.reroot,hb,e1 j hj]⟩⟩
   have hkeep2:∀ j m,j ≠ i->Keep W0.heap.size g w (g.reroot (.sub (.env t) i) (.arg k)) w (.sub (.sub (.env t) j) m) (.sub (.sub (.env t) j) m) :=
    fun j m hj=>⟨fun b hb=>⟨rfl,rfl,by simp [Gh.reroot,hb,e2 j m hj]⟩⟩
   refine ⟨g.reroot (.sub (.env t) i) (.arg k),us[i],⟨⟨h.inv.reroot _ _,h.hp.reroot (by simp [Loc.root]) (by simp [Loc.root]),fun t'=>?_⟩,rfl,fun _=>yv47,fun j hjk=>KeepU.other (by simp [Loc.root])⟩,⟨us,hus,hu⟩,?_⟩
   ·rw [yv290]
    split
    ·rename_i ht';subst ht'
     rw [hus]
     refine .tup _ us (by rw [yv74,List.length_set];exact hlen) ?_
     intro j a' v' p q
     rw [yv74,List.getElem?_set] at p
     by_cases hij:i=j
     ·subst hij
      rw [if_pos rfl] at p
      split at p
      ·cases p;exact .c _ _ (.junk _)
      ·cases p
     ·rw [if_neg hij] at p
      exact (hrep j a' v' p q).keep (Ext.reroot _ _ _ _ _) (Nat.le_refl _) (fun _ _=>rfl) (hkeep j (Ne.symm hij)) (fun m=>hkeep2 j m (Ne.symm hij))
    ·rename_i hne
     exact (h.env t').keep (Ext.reroot _ _ _ _ _) (Nat.le_refl _) (fun _ _=>rfl) (KeepU.other (by simpa [Loc.root] using hne))
   ·simp only [Option.getD_some]
    have:=(hrep i a _ hv hu).keep (Ext.reroot W0.heap.size g w (.sub (.env t) i) (.arg k)) (Nat.le_refl _) (fun _ _=>rfl) (KeepU.reroot W0.heap.size g w (.sub (.env t) i) (.arg k)).k0 (KeepU.reroot W0.heap.size g w (.sub (.env t) i) (.arg k)).k1
    exact .b _ _ this
end Go.Rv
namespace Go.Rv
open Go.RowKit
variable {P:Program} {W0:World} {o:Oper} {s:SOp}
theorem yv162 {e:Env} {xs:List Arg}:(rdAs e xs).1.length=xs.length:=by
 induction xs generalizing e with
 | nil=>rfl
 | cons x xs ih=>simp [rdAs,ih]
theorem yv225 {φ:Nat->Nat} {w:World} {H:Heap} {tmps:Array Value}:∀ (xs:List Arg) (k:Nat) (g:Gh) (e:Env),SR W0 φ g w e H tmps->(∀ x ∈ xs,argOk x=true) ->
 (∀ (i:Nat) (x:Arg),xs[i]?=some x->noC x=true∨(rdAs e xs).1[i]? ≠ some .junk) ->
 ∃ (g':Gh) (us:List Value),Rd W0 φ w H tmps g e g' (rdAs e xs).2 k∧us.length=xs.length∧(∀ (i:Nat) (x:Arg) (u:Value),xs[i]?=some x->us[i]?=some u->ArgC tmps x u) ∧
  ∀ (i:Nat) (a:AV) (u:Value),(rdAs e xs).1[i]?=some a->us[i]?=some u->RepA W0.heap.size H.length φ g' w (.arg (k + i)) a u:=by
 intro xs
 induction xs with
 | nil=>exact fun k g e h _ _=>⟨g,[],⟨h,rfl,fun _ h=>h,fun _ _=>KeepU.refl⟩,rfl,fun i x u p=>by simp at p,fun i a u p=>by simp [rdAs] at p⟩
 | cons x xs ih =>
  intro k g e h hx hc
  obtain ⟨g1,u,r1,c1,a1⟩:=yv700 (k:=k) h (hx x (by simp)) (by
   rcases hc 0 x rfl with h|h
   ·exact .inl h
   ·exact .inr (by simpa [rdAs] using h))
  obtain ⟨g2,us,r2,l2,c2,a2⟩:=ih (k + 1) g1 (rdA e x).2 r1.sr (fun y hy=>hx y (by simp [hy])) (fun i y p=>by
   rcases hc (i + 1) y (by simpa using p) with h|h
   ·exact .inl h
   ·exact .inr (by simpa [rdAs] using h))
  refine ⟨g2,u::us,⟨r2.sr,r2.lim.trans r1.lim,fun b hb=>r2.none b (r1.none b hb),fun i hi=>(r1.args i hi).trans (r2.args i (by omega))⟩,by simp [l2],?_,?_⟩
  ·intro i y v p q
   cases i with
   | zero=>simp at p q;subst p q;exact c1
   | succ i=>simp at p q;exact c2 i y v p q
  ·intro i a v p q
   cases i with
   | zero =>
    simp [rdAs] at p q;subst p q
    exact a1.keep (Ext.lims r2.lim) (Nat.le_refl _) (fun _ _=>rfl) (r2.args k (by omega))
   | succ i =>
    simp [rdAs] at p q
    have:=a2 i a v p q
    rwa [show k + 1 + i=k + (i + 1) by omega] at this
structure Tr (W0:World) (n:Nat) (φ:Nat->Nat) (g:Gh) (w:World) (n':Nat) (φ':Nat->Nat) (g':Gh) (w':World):Prop where
 ext:Ext W0.heap.size g w g' w'
 none:∀ b,b < w.heap.size->g.ow b=none->w'.heap[b]?=w.heap[b]?∧g'.lim b=g.lim b∧g'.ow b=none
 len:n ≤ n'
 phi:∀ i,i < n->φ' i=φ i
theorem Tr.refl {n:Nat} {φ:Nat->Nat} {g:Gh} {w:World}:Tr W0 n φ g w n φ g w:=⟨Ext.refl _ _ _,fun _ _ h=>⟨rfl,rfl,h⟩,Nat.le_refl _,fun _ _=>rfl⟩
theorem Tr.trans {n1 n2 n3:Nat} {φ1 φ2 φ3:Nat->Nat} {g1 g2 g3:Gh} {w1 w2 w3:World} (h:Tr W0 n1 φ1 g1 w1 n2 φ2 g2 w2) (k:Tr W0 n2 φ2 g2 w2 n3 φ3 g3 w3):Tr W0 n1 φ1 g1 w1 n3 φ3 g3 w3 :=
 ⟨h.ext.trans k.ext,fun b hb hn=>let ⟨a1,a2,a3⟩:=h.none b hb hn;let ⟨b1,b2,b3⟩:=k.none b (Nat.lt_of_lt_of_le hb h.ext.size) a3;⟨b1.trans a1,b2.trans a2,b3⟩,
  Nat.le_trans h.len k.len,fun i hi=>(k.phi i (Nat.lt_of_lt_of_le hi h.len)).trans (h.phi i hi)⟩
theorem Rd.tr {φ:Nat->Nat} {g g':Gh} {w:World} {H:Heap} {e e':Env} {tmps:Array Value} {k:Nat} (h:Rd W0 φ w H tmps g e g' e' k):Tr W0 H.length φ g w H.length φ g' w :=
 ⟨Ext.lims h.lim,fun b _ hn=>⟨rfl,by rw [h.lim],h.none b hn⟩,Nat.le_refl _,fun _ _=>rfl⟩
theorem Post.tr {n:Nat} {φ φ':Nat->Nat} {g g':Gh} {w w':World} {H':Heap} {r:AV} {v:Value} (h:Post W0 n φ g w φ' g' w' H' r v):Tr W0 n φ g w H'.length φ' g' w' :=
 ⟨h.ext,fun b hb hn=>let ⟨a1,a2,a3⟩:=h.frame b hb (fun l hl=>by rw [hn] at hl;cases hl);⟨a1,a2,a3.trans hn⟩,h.len,h.phi⟩
theorem Post.keepEnv {n:Nat} {φ φ':Nat->Nat} {g g':Gh} {w w':World} {H':Heap} {r:AV} {v:Value} (hi:Inv W0 g w) (h:Post W0 n φ g w φ' g' w' H' r v) (t:Nat):KeepU W0.heap.size g w g' w' (.env t) (.env t):=by
 have key:∀ l:Loc,l.isEnv=true->Keep W0.heap.size g w g' w' l l:=by
  intro l hl
  refine ⟨fun b hb=>?_⟩
  obtain ⟨a1,a2,a3⟩:=h.frame b (ow_lt hi hb) (fun l' hl'=>by rw [hb] at hl';cases hl';exact hl)
  exact ⟨a1,a2,a3.trans hb⟩
 exact ⟨key _ rfl,fun _=>key _ rfl,fun _ _=>key _ rfl⟩
def putT (tmps:Array Value) (d:Option Nat) (v:Value):Array Value :=
 match d with
 | some t=>tmps.setIfInBounds t v
 | none=>tmps
theorem Act.put_tmps {a:Act} {d:Option Nat} {v:Value}:(a.put d v).tmps=putT a.tmps d v:=by cases d<;>rfl
theorem Act.put_defers {a:Act} {d:Option Nat} {v:Value}:(a.put d v).defers=a.defers:=by cases d<;>rfl
theorem yv224 {tmps:Array Value} {d:Option Nat} {v:Value}:(putT tmps d v).size=tmps.size:=by cases d<;>simp [putT]
theorem SR.put {n:Nat} {φ φ':Nat->Nat} {g g':Gh} {w w':World} {H H':Heap} {e:Env} {tmps:Array Value} {r:AV} {v:Value} {d:Option Nat} (h:SR W0 φ g w e H tmps) (hn:n=H.length) (hp:Post W0 n φ g w φ' g' w' H' r v)
 (hd:∀ t,d=some t->t < tmps.size):∃ g'',SR W0 φ' g'' w' (putD e d r) H' (putT tmps d v)∧Tr W0 n φ g w H'.length φ' g'' w':=by
 subst hn
 have henv:∀ t,RepA W0.heap.size H'.length φ' g' w' (.env t) (lk e t) (tmps.getD t undef):=fun t=>(h.env t).keep hp.ext hp.len hp.phi (hp.keepEnv h.inv t)
 cases d with
 | none=>exact ⟨g',⟨hp.inv,hp.hp,henv⟩,hp.tr⟩
 | some t =>
  refine ⟨g'.reroot .res (.env t),⟨hp.inv.reroot _ _,hp.hp.reroot (by simp [Loc.root]) (by simp [Loc.root]),fun t'=>?_⟩,hp.tr.trans ⟨Ext.reroot _ _ _ _ _,fun b _ hn=>⟨rfl,rfl,yv47 hn⟩,Nat.le_refl _,fun _ _=>rfl⟩⟩
  simp only [putD,yv290,putT]
  by_cases ht:t'=t
  ·subst ht
   rw [if_pos rfl]
   have hlt:=hd t' rfl
   have:(tmps.setIfInBounds t' v).getD t' undef=v:=by simp [hlt]
   rw [this]
   exact hp.res.keep (Ext.reroot _ _ _ _ _) (Nat.le_refl _) (fun _ _=>rfl) (KeepU.reroot _ _ _ _ _)
  ·rw [if_neg ht]
   have:(tmps.setIfInBounds t v).getD t' undef=tmps.getD t' undef:=by
    simp only [Array.getD_eq_getD_getElem?]
    rw [Array.getElem?_setIfInBounds_ne (Ne.symm ht)]
   rw [this]
   exact (henv t').keep (Ext.reroot _ _ _ _ _) (Nat.le_refl _) (fun _ _=>rfl) (KeepU.other (by simp [Loc.root]))
theorem SR.rm {φ:Nat->Nat} {g:Gh} {w:World} {H:Heap} {e:Env} {tmps:Array Value} {d:Option Nat} (hd:∀ t,d=some t->t < tmps.size) (h:SR W0 φ g w e H tmps):SR W0 φ g w (rmD e d) H (putT tmps d undef):=by
 cases d with
 | none=>exact h
 | some t =>
  refine ⟨h.inv,h.hp,fun t'=>?_⟩
  simp only [rmD,yv290,putT]
  split
  ·rename_i ht
   subst ht
   have hlt:=hd t' rfl
   have:(tmps.setIfInBounds t' undef).getD t' undef=undef:=by simp [hlt]
   rw [this]
   exact .tup [] #[] rfl (fun i a v p=>by simp at p)
  ·rename_i ht
   have:(tmps.setIfInBounds t undef).getD t' undef=tmps.getD t' undef:=by
    simp only [Array.getD_eq_getD_getElem?]
    rw [Array.getElem?_setIfInBounds_ne (Ne.symm ht)]
   rw [this]
   exact h.env t'
def yv670 (N:Nat) (ops:Array Oper) (o:Oper) (s:SOp):Bool :=
 s.args.all argOk && (s.args.all noC || (match s.op with|.extm=>true|_=>false)) && decide (o.dst=s.dst) && (match s.dst with|some t=>decide (t < N)|none=>true) &&
 (match o.guard,s.guard with
  | none,none=>true
  | some (j,want),some (t,want')=>want == want' && decide ((ops[j]?).bind (·.dst)=some t)
  | _,_=>false)
structure Form (N:Nat) (ops:Array Oper) (o:Oper) (s:SOp):Prop where
 args:∀ x ∈ s.args,argOk x=true
 noc:(∀ x ∈ s.args,noC x=true)∨s.op=.extm
 dst:o.dst=s.dst
 lt:∀ t,s.dst=some t->t < N
 guard:(o.guard=none∧s.guard=none)∨∃ j want t,o.guard=some (j,want)∧s.guard=some (t,want)∧(ops[j]?).bind (·.dst)=some t
theorem yv187 {N:Nat} {ops:Array Oper} (h:yv670 N ops o s=true):Form N ops o s:=by
 unfold yv670 at h
 simp only [Bool.and_eq_true,Bool.or_eq_true,decide_eq_true_eq,List.all_eq_true] at h
 obtain ⟨⟨⟨⟨h1,h2⟩,h3⟩,h4⟩,h5⟩:=h
 refine ⟨h1,?_,h3,?_,?_⟩
 ·rcases h2 with h2|h2
  ·exact .inl h2
  ·split at h2
   ·rename_i e;exact .inr e
   ·cases h2
 ·intro t ht
  rw [ht] at h4
  simpa using h4
 ·split at h5
  ·rename_i e1 e2;exact .inl ⟨e1,e2⟩
  ·rename_i j want t want' e1 e2
   simp at h5
   obtain ⟨rfl,h5⟩:=h5
   exact .inr ⟨j,want,t,e1,e2,h5⟩
  ·cases h5
theorem yv247 {N:Nat} {ops:Array Oper} {φ:Nat->Nat} {g:Gh} {w:World} {H:Heap} {e:Env} {tmps:Array Value} {b:Bool} (f:Form N ops o s) (h:SR W0 φ g w e H tmps) (hg:yv7 e s.guard=some b) :
 Region.wanted o (yielded ops tmps)=b:=by
 rcases f.guard with ⟨h1,h2⟩|⟨j,want,t,h1,h2,h3⟩
 ·rw [h2] at hg
  simp [yv7] at hg;subst hg
  simp [Region.wanted,h1]
 ·rw [h2] at hg
  simp only [yv7] at hg
  split at hg
  ·rename_i c hc
   simp at hg;subst hg
   have ht:=h.env t
   rw [hc] at ht
   obtain ⟨hv,_⟩:=ht.of_lit
   have hsome:tmps[t]?=some (.bool c):=by
    simp only [Array.getD_eq_getD_getElem?] at hv
    cases hq:tmps[t]? with
    | none=>rw [hq] at hv;cases hv
    | some x=>rw [hq] at hv;simpa using hv
   simp [Region.wanted,h1,yielded,h3,hsome]
  ·rename_i hc
   simp at hg;subst hg
   have ht:=h.env t
   rw [hc] at ht
   obtain ⟨vs,hv,hl,_⟩:=ht.of_tup
   simp only [Region.wanted,h1,yielded,h3,Option.bind_some]
   simp only [Array.getD_eq_getD_getElem?] at hv
   cases hq:tmps[t]? with
   | none=>simp
   | some x =>
    rw [hq] at hv
    simp at hv
    subst hv
    simp
  ·cases hg
theorem yv524 {N:Nat} {ops:Array Oper} {φ:Nat->Nat} {g:Gh} {w:World} {H H':Heap} {e:Env} {a:Act} {r:AV} (ok:okOp P o s=true) (f:Form N ops o s) (hN:a.tmps.size=N) (hop:∀ f,s.op ≠ .call f)
 (h:SR W0 φ g w e H a.tmps) (hev:s.op.ev (rdAs e s.args).1 H=some (r,H')) :
 ∃ v w' φ' g',Done P o a w v w'∧SR W0 φ' g' w' (putD (rdAs e s.args).2 s.dst r) H' (a.put o.dst v).tmps∧Tr W0 H.length φ g w H'.length φ' g' w':=by
 obtain ⟨g1,us,r1,l1,c1,a1⟩:=yv225 s.args 0 g e h f.args (by
  intro i x hx
  rcases f.noc with hn|hn
  ·exact .inl (hn x (List.mem_of_getElem? hx))
  ·refine .inr fun hj=>?_
   rw [hn] at hev
   simp only [okOp,hn] at ok
   split at ok
   case h_2=>cases ok
   rename_i hs _
   rw [hs] at hx hj hev
   have:i=0:=by
    have:=(List.getElem?_eq_some_iff.1 hx).1
    simpa using this
   subst this
   simp [rdAs] at hj hev
   rw [hj] at hev
   simp [POp.ev] at hev)
 have hargs:Args W0.heap.size H.length φ g1 w a.tmps s.args (rdAs e s.args).1 us :=
  ⟨yv162.symm,by rw [yv162];exact l1,c1,fun i x u p q=>by have:=a1 i x u p q;rwa [Nat.zero_add] at this⟩
 obtain ⟨v,φ',g2,w',hd,hp⟩:=yv599 hop ok φ g1 w H a _ us r H' r1.sr.inv r1.sr.hp hargs hev
 obtain ⟨g3,s3,t3⟩:=r1.sr.put rfl hp (d:=s.dst) (fun t ht=>by rw [hN];exact f.lt t ht)
 exact ⟨v,w',φ',g3,hd,by rw [Act.put_tmps,f.dst];exact s3,r1.tr.trans t3⟩
end Go.Rv
namespace Go.Rv
open Go.RowKit
variable {P:Program} {W0:World} {o:Oper} {s:SOp}
theorem yv41 {cs:List AV} {i:Nat} {a:AV} {id:Nat} (h:cs[i]?=some a) (k:id ∈ yv16 a):id ∈ refsL cs:=by
 induction cs generalizing i with
 | nil=>simp at h
 | cons c cs ih =>
  cases i with
  | zero=>simp at h;subst h;simp [refsL,k]
  | succ i=>simp at h;simp [refsL,ih h]
theorem yv126 {σ:Nat->Nat} {cs:List AV}:renL σ cs=cs.map (ren σ):=by
 induction cs with
 | nil=>rfl
 | cons c cs ih=>simp [renL,ih]
section
variable {base n n':Nat} {φ φ':Nat->Nat} {g g':Gh} {w w':World} {l l':Loc} {σ:Nat->Nat}
theorem Rep0.mv (x:Ext base g w g' w') {a:AV} {v:Value} (h:Rep0 base n φ g w a v) (hσ:∀ id ∈ yv16 a,id < n->σ id < n'∧φ' (σ id)=φ id):Rep0 base n' φ' g' w' (ren σ a) v:=by
 cases h with
 | pv p v h=>exact .pv p v (h.ext x)
 | ref id off h=>obtain ⟨h1,h2⟩:=hσ id (by simp [yv16]) h;rw [← h2];exact .ref _ off h1
 | view id off len cap z h hc hsp=>obtain ⟨h1,h2⟩:=hσ id (by simp [yv16]) h;rw [← h2];exact .view _ off len cap z h1 hc (hsp.imp (fun q=>q) fun q=>by rw [h2];exact Nat.le_trans q (x.csz _))
 | view0 id off cap z a h=>obtain ⟨h1,h2⟩:=hσ id (by simp [yv16]) h;exact .view0 _ off cap z a h1
 | eref row off b o val hlt him hc hr =>
  exact .eref row off b o val (Nat.lt_of_lt_of_le hlt x.size) (fun j hj=>(him j hj).ext x.lim)
   (fun j c hj=>(x.cell b _ hlt (him j (List.getElem?_eq_some_iff.1 hj).1)).trans (hc j c hj)) (fun j c hj=>(hr j c hj).ext x)
theorem yv164 {cs:List AV} {i:Nat} {a:AV} (h:(renL σ cs)[i]?=some a):∃ b,cs[i]?=some b∧a=ren σ b:=by
 rw [yv126,List.getElem?_map] at h
 cases hc:cs[i]? with
 | none=>simp [hc] at h
 | some b=>simp [hc] at h;exact ⟨b,rfl,h.symm⟩
theorem RepC.mv (x:Ext base g w g' w') (k:Keep base g w g' w' l l') {a:AV} {v:Value} (h:RepC base n φ g w l a v) (hσ:∀ id ∈ yv16 a,id < n->σ id < n'∧φ' (σ id)=φ id) :
 RepC base n' φ' g' w' l' (ren σ a) v:=by
 cases h with
 | zero a v h=>exact .zero _ _ (h.mv x hσ)
 | own sz rows v b cap e cur h=>exact .own sz rows v b cap e cur (h.keep x k)
 | clo fn fs cs vs us h1 h2 r1 r2 =>
  refine .clo fn _ _ vs us (by simp [yv126,h1]) (by simp [yv126,h2]) (fun i a v p q=>?_) (fun i a v p q=>?_)
  ·obtain ⟨b,e1,rfl⟩:=yv164 p
   exact (r1 i b v e1 q).mv x fun id hid=>hσ id (by simp [yv16,yv41 e1 hid])
  ·obtain ⟨b,e1,rfl⟩:=yv164 p
   exact (r2 i b v e1 q).mv x fun id hid=>hσ id (by simp [yv16,yv41 e1 hid])
 | junk v=>exact .junk v
theorem RepB.mv (x:Ext base g w g' w') (k:Keep base g w g' w' l l') (k1:∀ i,Keep base g w g' w' (.sub l i) (.sub l' i)) {a:AV} {v:Value} (h:RepB base n φ g w l a v)
 (hσ:∀ id ∈ yv16 a,id < n->σ id < n'∧φ' (σ id)=φ id):RepB base n' φ' g' w' l' (ren σ a) v:=by
 cases h with
 | c a v h=>exact .c _ _ (h.mv x k hσ)
 | agg cs vs h1 h2 h3 =>
  refine .agg _ vs (by simp [yv126,h1]) (fun i a v p q=>?_) h3
  obtain ⟨b,e1,rfl⟩:=yv164 p
  exact (h2 i b v e1 q).mv x (k1 i) fun id hid=>hσ id (by simp [yv16,yv41 e1 hid])
theorem RepA.mv (x:Ext base g w g' w') (k:KeepU base g w g' w' l l') {a:AV} {v:Value} (h:RepA base n φ g w l a v)
 (hσ:∀ id ∈ yv16 a,id < n->σ id < n'∧φ' (σ id)=φ id):RepA base n' φ' g' w' l' (ren σ a) v:=by
 cases h with
 | b a v h=>exact .b _ _ (h.mv x k.k0 k.k1 hσ)
 | tup cs vs h1 h2 =>
  refine .tup _ vs (by simp [yv126,h1]) (fun i a v p q=>?_)
  obtain ⟨b,e1,rfl⟩:=yv164 p
  exact (h2 i b v e1 q).mv x (k.k1 i) (k.k2 i) fun id hid=>hσ id (by simp [yv16,yv41 e1 hid])
theorem RepO.mv {id id':Nat} {ob:List AV} (x:Ext base g w g' w') (hid:φ' id'=φ id) (k:Keep base g w g' w' (.obj id) (.obj id')) (k1:∀ j,Keep base g w g' w' (.hp id j) (.hp id' j))
 (h:RepO base n φ g w id ob) (hσ:∀ i ∈ refsL ob,i < n->σ i < n'∧φ' (σ i)=φ i):RepO base n' φ' g' w' id' (renL σ ob):=by
 refine ⟨h.rep.imp (fun e=>by rw [e];rfl) ?_⟩
 rintro ⟨cur,e,h1,h2,h3,h4,h5,h6⟩
 obtain ⟨a1,a2,a3⟩:=k.heap _ h4
 refine ⟨cur,e,by rw [hid,a1,h1],by rw [yv126,List.length_map];exact h2,by rw [hid];exact h3,by rw [hid];exact a3,by rw [hid,a2];exact h5,fun j a v p q=>?_⟩
 obtain ⟨b,e1,rfl⟩:=yv164 p
 obtain ⟨z1,z2⟩:=h6 j b v e1 q
 exact ⟨z1.mv x (k1 j) fun i hi=>hσ i (yv41 e1 hi),z2⟩
end
def Good (P:Program) (L:World->Prop) (f:FuncId) (as:List AV) (H:Heap) (r:AV) (H':Heap):Prop :=
 ∀ (W0:World),L W0->∀ (φ:Nat->Nat) (g:Gh) (w:World) (vs:List Value),Inv W0 g w->RepH W0.heap.size φ g w H->vs.length=as.length ->
  (∀ (i:Nat) (a:AV) (v:Value),as[i]?=some a->vs[i]?=some v->RepA W0.heap.size H.length φ g w (.env i) a v) ->
  Calls P f vs.toArray w fun e w'=>∃ v φ' g',e=.returned v∧Inv W0 g' w'∧RepH W0.heap.size φ' g' w' H'∧RepA W0.heap.size H'.length φ' g' w' .res r v ∧
   Tr W0 H.length φ g w H'.length φ' g' w'
def Loc.toC (l:List Nat):Loc->Option Loc
 | .arg i=>some (.env i)
 | .obj id=>if l.contains id then some (.obj (posOf l id)) else none
 | .hp id j=>if l.contains id then some (.hp (posOf l id) j) else none
 | .sub m k=>(m.toC l).map fun m'=>.sub m' k
 | _=>none
def Loc.fromC (f:Nat->Nat):Loc->Option Loc
 | .res=>some .res
 | .obj j=>some (.obj (f j))
 | .hp j k=>some (.hp (f j) k)
 | .sub m k=>(m.fromC f).map fun m'=>.sub m' k
 | _=>none
def Gh.toC (g:Gh) (l:List Nat):Gh:={ g with ow:=fun b=>(g.ow b).bind (Loc.toC l) }
def Gh.back (g:Gh) (l:List Nat) (f:Nat->Nat) (g':Gh):Gh :=
 { lim:=g'.lim,ow:=fun b=>match g'.ow b with
  | some m=>m.fromC f
  | none=>if ((g.ow b).bind (Loc.toC l)).isSome then none else g.ow b }
theorem yv220 {l:List Nat} {i:Nat} (h:l.contains i=true):posOf l i < l.length∧l.getD (posOf l i) 0=i:=by
 have hm:i ∈ l:=by simpa using h
 have h1:posOf l i < l.length:=List.idxOf_lt_length_of_mem hm
 refine ⟨h1,?_⟩
 simp only [List.getD_eq_getElem?_getD,List.getElem?_eq_getElem h1,Option.getD_some]
 exact List.getElem_idxOf h1
theorem yv112 {l:List Nat} (h:yv477 l=true):l.Nodup:=by
 induction l with
 | nil=>exact List.nodup_nil
 | cons i l ih =>
  simp [yv477] at h
  exact List.nodup_cons.2 ⟨h.1,ih h.2⟩
theorem yv64 {f:Nat->Nat}:∀ {l:List Nat} {h H:Heap},(yv81 f h l H).length=h.length
 | [],h,H=>by cases H<;>rfl
 | i::l,h,[]=>rfl
 | i::l,h,o::H=>by simp [yv81,yv64,yv6]
theorem yv256 {f:Nat->Nat}:∀ {l:List Nat} {h H:Heap},l.Nodup->l.length ≤ H.length->(∀ i ∈ l,i < h.length)->∀ id,hget (yv81 f h l H) id=if l.contains id then renL f (hget H (posOf l id)) else hget h id
 | [],h,H,_,_,_,id=>by cases H<;>rfl
 | i::l,h,[],_,h2,_,id=>by simp at h2
 | i::l,h,o::H,h1,h2,h3,id=>by
  have hn:=List.nodup_cons.1 h1
  simp only [yv81]
  rw [yv256 hn.2 (by simpa using h2) (fun j hj=>by rw [yv6];exact h3 j (by simp [hj])) id]
  by_cases he:id=i
  ·subst he
   have:l.contains id=false:=by simpa using hn.1
   simp only [this,Bool.false_eq_true,if_false]
   rw [yv8 (h3 id (by simp))]
   simp [posOf,hget]
  ·have hne:(i == id)=false:=by simpa using Ne.symm he
   by_cases hm:l.contains id=true
   ·have:(i::l).contains id=true:=by simp at hm ⊢;exact .inr hm
    rw [if_pos hm,if_pos this]
    simp [posOf,List.idxOf_cons,hne,hget]
   ·have:¬ (i::l).contains id=true:=by simp at hm ⊢;exact ⟨he,hm⟩
    rw [if_neg hm,if_neg this,yv4 he]
end Go.Rv
namespace Go.Rv
open Go.RowKit
variable {P:Program} {W0:World} {o:Oper} {s:SOp}
theorem yv87 {g:Gh} {l:List Nat} {b:Nat} {m m':Loc} (h:g.ow b=some m) (k:m.toC l=some m'):(g.toC l).ow b=some m':=by simp [Gh.toC,h,k]
theorem yv649 {l:List Nat}:∀ {m:Loc},m.isEnv=true->m.toC l=none
 | .env t,_=>rfl
 | .sub m k,h=>by
  have:m.isEnv=true:=h
  simp [Loc.toC,yv649 this]
 | .arg i,h=>by cases h
 | .obj i,h=>by cases h
 | .hp i j,h=>by cases h
 | .res,h=>by cases h
theorem yv675 {f:Nat->Nat} {H:Heap} {i:Nat}:hget (H.map (renL f)) i=renL f (hget H i):=by
 rw [yv19,yv19,List.getElem?_map]
 cases H[i]?<;>rfl
theorem yv576 {H:Heap} {i k:Nat}:hget (H.drop k) i=hget H (k + i):=by
 rw [yv19,yv19,List.getElem?_drop]
theorem yv108 {H K:Heap} {i:Nat}:hget (H++K) i=if i < H.length then hget H i else hget K (i - H.length):=by
 rw [yv19,yv19,yv19]
 by_cases h:i < H.length
 ·rw [if_pos h,List.getElem?_append_left h]
 ·rw [if_neg h,List.getElem?_append_right (by omega)]
theorem yv393 {L:World->Prop} {φ:Nat->Nat} {g:Gh} {w:World} {H H'':Heap} {as:List AV} {us:List Value} {l:List Nat} {f:FuncId} {r:AV} (hL:L W0) (hi:Inv W0 g w) (hh:RepH W0.heap.size φ g w H)
 (hl:us.length=as.length) (ha:∀ (i:Nat) (a:AV) (u:Value),as[i]?=some a->us[i]?=some u->RepA W0.heap.size H.length φ g w (.arg i) a u) (hc:yv32 H l as=true)
 (hg:Good P L f (renL (posOf l) as) (yv11 H l) r H'') :
 Calls P f us.toArray w fun e w'=>∃ v φ' g',e=.returned v∧Post W0 H.length φ g w φ' g' w' (yv130 (yv10 l H.length) H l H'') (ren (yv10 l H.length) r) v:=by
 simp only [yv32,Bool.and_eq_true,List.all_eq_true,decide_eq_true_eq] at hc
 obtain ⟨⟨hc1,hc2⟩,hc3⟩:=hc
 have hnd:=yv112 hc3
 have hsub:(yv11 H l).length=l.length:=by simp [yv11]
 have hσ:∀ id,l.contains id=true->id < H.length->posOf l id < l.length∧φ (l.getD (posOf l id) 0)=φ id:=fun id h _=>by
  obtain ⟨h1,h2⟩:=yv220 h
  exact ⟨h1,by rw [h2]⟩
 have xc:Ext W0.heap.size g w (g.toC l) w:=Ext.lims rfl
 have keepA:∀ i,KeepU W0.heap.size g w (g.toC l) w (.arg i) (.env i):=fun i =>
  ⟨⟨fun b h=>⟨rfl,rfl,yv87 h rfl⟩⟩,fun j=>⟨fun b h=>⟨rfl,rfl,yv87 h (by simp [Loc.toC])⟩⟩,fun j k=>⟨fun b h=>⟨rfl,rfl,yv87 h (by simp [Loc.toC])⟩⟩⟩
 have hinvc:Inv W0 (g.toC l) w:=⟨hi.below,fun b hb=>⟨by simp [Gh.toC,(hi.old b hb).1],(hi.old b hb).2⟩,fun b hb=>⟨by simp [Gh.toC,(hi.new b hb).1],(hi.new b hb).2⟩⟩
 have hhc:RepH W0.heap.size (fun j=>φ (l.getD j 0)) (g.toC l) w (yv11 H l):=by
  intro j hj
  rw [hsub] at hj ⊢
  have hid:l[j]?=some (l.getD j 0):=by simp [List.getD,hj]
  have hmem:l.contains (l.getD j 0)=true:=by simpa using List.mem_of_getElem? hid
  have hpos:posOf l (l.getD j 0)=j:=by
   have h1:l.getD j 0=l[j]:=by simp [List.getD,hj]
   rw [h1]
   exact hnd.idxOf_getElem j hj
  obtain ⟨hlt,hcl⟩:=hc2 (l.getD j 0) (by simpa using hmem)
  have hob:hget (yv11 H l) j=renL (posOf l) (hget H (l.getD j 0)):=by
   rw [yv19];simp [yv11,hj,List.getD]
  rw [hob]
  refine (hh _ hlt).mv xc rfl ⟨fun b h=>⟨rfl,rfl,yv87 h ?_⟩⟩ (fun k=>⟨fun b h=>⟨rfl,rfl,yv87 h ?_⟩⟩) (fun i hi' hin=>hσ i (hcl i hi') hin)
  ·rw [Loc.toC,if_pos hmem,hpos]
  ·rw [Loc.toC,if_pos hmem,hpos]
 refine (hg W0 hL (fun j=>φ (l.getD j 0)) (g.toC l) w us hinvc hhc (by rw [yv126,List.length_map];exact hl) ?_).mono ?_
 ·intro i a u p q
  obtain ⟨b,e1,rfl⟩:=yv164 p
  rw [hsub]
  exact (ha i b u e1 q).mv xc (keepA i) fun id hid hin=>hσ id (hc1 id (yv41 e1 hid)) hin
 rintro e w' ⟨v,φ1,g1,he,hi1,hh1,hr1,ht1⟩
 rw [hsub] at ht1
 have hbl:∀ j,j < l.length->yv10 l H.length j=l.getD j 0:=fun j hj=>by simp [yv10,hj]
 have hbn:∀ k,yv10 l H.length (l.length + k)=H.length + k:=fun k=>by unfold yv10;rw [if_neg (by omega)];omega
 have hlen:(yv130 (yv10 l H.length) H l H'').length=H.length + (H''.length - l.length):=by simp [yv130,yv64]
 refine ⟨v,fun id=>if id < H.length then φ id else φ1 (l.length + (id - H.length)),g.back l (yv10 l H.length) g1,he,?_⟩
 have x1:Ext W0.heap.size g w (g.back l (yv10 l H.length) g1) w':=⟨ht1.ext.size,ht1.ext.lim,ht1.ext.cell,ht1.ext.csz⟩
 have x2:Ext W0.heap.size g1 w' (g.back l (yv10 l H.length) g1) w':=Ext.lims rfl
 have back1:∀ {b:Nat} {m m':Loc},g1.ow b=some m->m.fromC (yv10 l H.length)=some m'->(g.back l (yv10 l H.length) g1).ow b=some m':=by
  intro b m m' h1 h2
  simp [Gh.back,h1,h2]
 have stay:∀ {b:Nat} {m:Loc},g.ow b=some m->m.toC l=none->w'.heap[b]?=w.heap[b]?∧g1.lim b=g.lim b∧(g.back l (yv10 l H.length) g1).ow b=some m:=by
  intro b m h1 h2
  have h3:(g.toC l).ow b=none:=by simp [Gh.toC,h1,h2]
  obtain ⟨a1,a2,a3⟩:=ht1.none b (ow_lt hi h1) h3
  exact ⟨a1,a2,by simp [Gh.back,a3,h1,h2]⟩
 have phi1:∀ j,j < l.length->φ1 j=φ (l.getD j 0):=ht1.phi
 have hτ:∀ j,j < H''.length->yv10 l H.length j < H.length + (H''.length - l.length)∧(if yv10 l H.length j < H.length then φ (yv10 l H.length j) else φ1 (l.length + (yv10 l H.length j - H.length)))=φ1 j:=by
  intro j hj
  by_cases h:j < l.length
  ·have hmem:l.getD j 0 ∈ l:=by
    have:l[j]?=some (l.getD j 0):=by simp [List.getD,h]
    exact List.mem_of_getElem? this
   have:=(hc2 _ hmem).1
   rw [hbl j h,if_pos this,phi1 j h]
   exact ⟨by omega,rfl⟩
  ·obtain ⟨k,rfl⟩:∃ k,j=l.length + k:=⟨j - l.length,by omega⟩
   rw [hbn k,if_neg (by omega)]
   exact ⟨by omega,by congr 1;omega⟩
 refine ⟨⟨hi1.below,fun b hb=>⟨?_,(hi1.old b hb).2⟩,fun b hb=>⟨?_,(hi1.new b hb).2⟩⟩,x1,?_,by rw [hlen];omega,fun i hi'=>if_pos hi',?_,?_⟩
 ·simp [Gh.back,(hi1.old b hb).1,(hi.old b hb).1]
 ·simp [Gh.back,(hi1.new b hb).1,(hi.new b (Nat.le_trans ht1.ext.size hb)).1]
 ·-- the objects
  intro id hid
  rw [hlen] at hid ⊢
  simp only [yv130]
  rw [yv108,yv64]
  by_cases hold:id < H.length
  ·rw [if_pos hold,yv256 hnd (by have:=ht1.len;exact this) (fun i hi'=>(hc2 i hi').1)]
   by_cases hm:l.contains id=true
   ·rw [if_pos hm]
    obtain ⟨hp1,hp2⟩:=yv220 hm
    have hpl:posOf l id < H''.length:=Nat.lt_of_lt_of_le hp1 ht1.len
    refine (hh1 _ hpl).mv x2 ?_ ⟨fun b h=>⟨rfl,rfl,back1 h ?_⟩⟩ (fun k=>⟨fun b h=>⟨rfl,rfl,back1 h ?_⟩⟩) (fun i _ hin=>hτ i hin)
    ·simp only [if_pos hold];rw [phi1 _ hp1,hp2]
    ·simp [Loc.fromC,hbl _ hp1];exact hp2
    ·simp [Loc.fromC,hbl _ hp1];exact hp2
   ·rw [if_neg hm]
    have hm':l.contains id=false:=by simpa using hm
    refine (hh id hold).keep x1 (by omega) (fun i hi'=>if_pos hi') hold ⟨fun b h=>stay h ?_⟩ (fun j=>⟨⟨fun b h=>stay h ?_⟩,fun k=>⟨fun b h=>stay h ?_⟩,fun k m=>⟨fun b h=>stay h ?_⟩⟩)
    all_goals simp only [Loc.toC];rw [if_neg hm];try rfl
  ·rw [if_neg hold,yv675,yv576]
   obtain ⟨k,rfl⟩:∃ k,id=H.length + k:=⟨id - H.length,by omega⟩
   rw [show H.length + k - H.length=k by omega]
   refine (hh1 (l.length + k) (by omega)).mv x2 ?_ ⟨fun b h=>⟨rfl,rfl,back1 h ?_⟩⟩ (fun j=>⟨fun b h=>⟨rfl,rfl,back1 h ?_⟩⟩) (fun i _ hin=>hτ i hin)
   ·simp only [if_neg hold];congr 1;omega
   ·simp [Loc.fromC,hbn]
   ·simp [Loc.fromC,hbn]
 ·rw [hlen]
  refine hr1.mv x2 ⟨⟨fun b h=>⟨rfl,rfl,back1 h rfl⟩⟩,fun i=>⟨fun b h=>⟨rfl,rfl,back1 h rfl⟩⟩,fun i j=>⟨fun b h=>⟨rfl,rfl,back1 h rfl⟩⟩⟩ (fun id _ hin=>hτ id hin)
 ·intro b hb hall
  cases ho:g.ow b with
  | none =>
   have h3:(g.toC l).ow b=none:=by simp [Gh.toC,ho]
   obtain ⟨a1,a2,a3⟩:=ht1.none b hb h3
   exact ⟨a1,a2,by simp [Gh.back,a3,ho]⟩
  | some m=>exact stay ho (yv649 (hall m ho))
end Go.Rv
namespace Go.Rv
open Go.RowKit
def yv25 (P:Program) (f:FuncId):Bool :=
 match P.funcs[f]? with
 | some fn=>fn.name != "runtime.NumGoroutine" && fn.body.isSome
 | none=>false
def isRa:AV->Bool
 | .agg cs=>cs.all noOwn
 | a=>isR0 a
theorem yv677 {base n:Nat} {φ:Nat->Nat} {g:Gh} {w:World} {l l':Loc} {a:AV} {v:Value} (h:isRa a=true) (r:RepA base n φ g w l a v):RepA base n φ g w l' a v:=by
 unfold isRa at h
 split at h
 ·rename_i cs
  cases r with
  | b _ _ r =>
   cases r with
   | c _ _ r=>cases r with
    | zero _ _ r=>cases r
   | agg _ vs h1 h2 h3 =>
    exact .b _ _ (.agg cs vs h1 (fun i a v p q=>(h2 i a v p q).keepN (Ext.refl _ _ _) (Nat.le_refl _) (fun _ _=>rfl) (List.all_eq_true.1 h a (List.mem_of_getElem? p))) h3)
 ·exact .r0 (yv470 h r)
def yv51:Option FuncId->List AV->Option (FuncId × List AV)
 | some f,as=>some (f,as)
 | none,.clo (.func f) fs cs::as=>if as.all isRa then some (f,fs++(as++cs)) else none
 | none,_=>none
def yv779 (P:Program) (L:World->Prop) (f:FuncId) (as:List AV) (h:Heap) (K:AV->Heap->Prop):Prop :=
 ∃ l r H',yv32 h l as=true∧Good P L f (renL (posOf l) as) (yv11 h l) r H'∧K (ren (yv10 l h.length) r) (yv130 (yv10 l h.length) h l H')
def wpO (P:Program) (L:World->Prop):List SOp->(St->Prop)->St->Prop
 | [],K,s=>K s
 | o::os,K,s =>
  match yv7 s.env o.guard with
  | none=>False
  | some false=>wpO P L os K ⟨rmD s.env o.dst,s.heap⟩
  | some true=>match o.op with
   | .call f=>match yv51 f (rdAs s.env o.args).1 with
    | some (fid,as)=>yv25 P fid=true∧yv779 P L fid as s.heap fun r h=>wpO P L os K ⟨putD (rdAs s.env o.args).2 o.dst r,h⟩
    | none=>False
   | op=>match op.ev (rdAs s.env o.args).1 s.heap with
    | some (a,h)=>wpO P L os K ⟨putD (rdAs s.env o.args).2 o.dst a,h⟩
    | none=>False
def yv277 (P:Program) (o:Oper) (s:SOp) (f:Option FuncId):Bool :=
 match o.op with
 | .call c=>match c.callee,f with
  | .value (.func g),some f=>f == g && opds s.args c.args.toList
  | .value (.tmp t),none=>opds s.args (.tmp t::c.args.toList)
  | _,_=>false
 | _=>false
def opOk (P:Program) (N:Nat) (ops:Array Oper) (o:Oper) (s:SOp):Bool :=
 yv670 N ops o s && match s.op with
  | .call f=>yv277 P o s f
  | _=>okOp P o s
def opsOk (P:Program) (N:Nat) (ops:Array Oper):List Oper->List SOp->Bool
 | [],[]=>true
 | o::os,s::ss=>opOk P N ops o s && opsOk P N ops os ss
 | _,_=>false
variable {P:Program} {W0:World} {L:World->Prop}
theorem yv219 {N:Nat} {ops:Array Oper}:∀ {os:List Oper} {ss:List SOp},opsOk P N ops os ss=true->ss.length=os.length∧∀ (i:Nat) (o:Oper) (s:SOp),os[i]?=some o->ss[i]?=some s->opOk P N ops o s=true
 | [],[],_=>⟨rfl,fun i o s h=>by simp at h⟩
 | [],_::_,h=>by simp [opsOk] at h
 | _::_,[],h=>by simp [opsOk] at h
 | o::os,s::ss,h=>by
  simp [opsOk] at h
  obtain ⟨h1,h2⟩:=yv219 h.2
  refine ⟨by simp [h1],fun i o' s' p q=>?_⟩
  cases i with
  | zero=>simp at p q;subst p q;exact h.1
  | succ i=>simp at p q;exact h2 i o' s' p q
theorem yv80 {f:FuncId} {args:Array Value} {w:World} (h:yv25 P f=true):(callFunc f args).run P w=.ok (.enter f args) w:=by
 unfold yv25 at h
 split at h
 ·rename_i fn hfn
  simp only [Bool.and_eq_true,bne_iff_ne,ne_eq] at h
  obtain ⟨h1,h2⟩:=h
  cases hb:fn.body with
  | none=>rw [hb] at h2;cases h2
  | some c=>simp [callFunc,hfn,h1,hb]
 ·cases h
def FW (r:Option Nat):Fence:={ Fence.wide with round:=r }
theorem yv395 {ro:Option Nat} {n:Nat} {f:FuncId} {args:Array Value} {w:World} {R:Ending->World->Prop} (h:Calls P f args w R):CallsIn (FW ro) n P f args w R:=(callsIn_wide (n:=n)).2 h
theorem yv281 {o:Oper} {a:Act} {w w':World} {v:Value} (h:Done P o a w v w') (c:Call):o.op ≠ .defer c:=fun ho=>by
 have e:(execOp a.eval o).run P w=((resolve a.eval c o.type).run P w).andThen fun d w=>.ok (.defer d) w:=by
  simp [execOp,ho,Sem.run_bind,Sem.run_pure]
 rcases h with h|⟨h,_⟩<;>rw [e] at h<;>cases hr:(resolve a.eval c o.type).run P w<;>rw [hr] at h<;>cases h
theorem yv546 {N:Nat} {ops:Array Oper} {o:Oper} {s:SOp} {φ:Nat->Nat} {g:Gh} {w:World} {H:Heap} {e:Env} {a:Act} {f:Option FuncId} {fid:FuncId} {as:List AV} {K:AV->Heap->Prop}
 (hL:L W0) (ok:yv277 P o s f=true) (fm:Form N ops o s) (hop:s.op=.call f) (hN:a.tmps.size=N) (h:SR W0 φ g w e H a.tmps) (hc:yv51 f (rdAs e s.args).1=some (fid,as)) (he:yv25 P fid=true)
 (hw:yv779 P L fid as H K) (next:Act->World->Prop) (Q:Exit->Act->World->Prop) {ro:Option Nat} {n:Nat}
 (hnext:∀ r H' v w' φ' g',K r H'->SR W0 φ' g' w' (putD (rdAs e s.args).2 s.dst r) H' (a.put o.dst v).tmps->Tr W0 H.length φ g w H'.length φ' g' w'->next (a.put o.dst v) w') :
 o.wpIn (FW ro) n P a w next Q:=by
 obtain ⟨g1,us,r1,l1,c1,a1⟩:=yv225 s.args 0 g e h fm.args (by
  intro i x hx
  rcases fm.noc with hn|hn
  ·exact .inl (hn x (List.mem_of_getElem? hx))
  ·rw [hop] at hn;cases hn)
 obtain ⟨l,r,H',hcl,hgood,hK⟩:=hw
 have hnd:∀ c,o.op ≠ .defer c:=fun c hc=>by simp [yv277,hc] at ok
 have key:∃ vs:List Value,(execOp a.eval o).run P w=.ok (.enter fid vs.toArray) w∧vs.length=as.length ∧
  ∀ (i:Nat) (x:AV) (u:Value),as[i]?=some x->vs[i]?=some u->RepA W0.heap.size H.length φ g1 w (.arg i) x u:=by
  unfold yv277 at ok
  split at ok
  case h_2=>cases ok
  rename_i c hoc
  obtain ⟨cal,args,tys⟩:=c
  split at ok
  ·rename_i g' f' hcal
   simp only at hcal;subst hcal
   simp only [Bool.and_eq_true,beq_iff_eq] at ok
   obtain ⟨rfl,ok⟩:=ok
   simp only [yv51,Option.some.injEq,Prod.mk.injEq] at hc
   obtain ⟨rfl,rfl⟩:=hc
   have hm:=yv113 ok l1 c1
   refine ⟨us,?_,by rw [yv162];exact l1,fun i x u p q=>by have:=a1 i x u p q;rwa [Nat.zero_add] at this⟩
   have hargs:args.map a.eval=us.toArray:=by apply Array.ext';rw [← hm];simp
   simp [execOp,hoc,resolve,Deferred.ofValue,Act.eval,invoke,hargs,yv80 he]
  ·rename_i t hcal
   simp only at hcal;subst hcal
   cases hsa:s.args with
   | nil=>rw [hsa] at ok;simp [opds] at ok
   | cons x0 xs =>
    have hm:=yv113 ok l1 c1
    rw [hsa] at hc a1 l1
    cases us with
    | nil=>simp at l1
    | cons u0 us =>
     simp only [List.map_cons,List.cons.injEq] at hm
     obtain ⟨hm0,hm⟩:=hm
     have e0:(rdAs e (x0::xs)).1=(rdA e x0).1::(rdAs (rdA e x0).2 xs).1:=rfl
     rw [e0] at hc a1
     have hr0:=a1 0 _ u0 rfl rfl
     unfold yv51 at hc
     split at hc
     ·rename_i heq;cases heq
     ·rename_i f' fs cs as' _ heq
      simp at heq
      obtain ⟨h1,rfl⟩:=heq
      split at hc
      case isFalse=>cases hc
      rename_i hall
      simp only [Option.some.injEq,Prod.mk.injEq] at hc
      obtain ⟨rfl,rfl⟩:=hc
      rw [h1] at hr0
      cases hr0 with
      | b _ _ hr0=>cases hr0 with
       | c _ _ hr0=>cases hr0 with
        | zero _ _ hr0=>cases hr0
        | clo _ _ _ vs1 us1 q1 q2 q3 q4 =>
         have hargs:args.map a.eval=us.toArray:=by apply Array.ext';rw [← hm];simp
         have hlen:(rdAs (rdA e x0).2 xs).1.length=us.length:=by rw [yv162];simp at l1;omega
         refine ⟨vs1.toList++(us++us1.toList),?_,?_,?_⟩
         ·have hev:a.eval (.tmp t)=.func (.func f') vs1 us1:=hm0
          simp [execOp,hoc,resolve,Deferred.ofValue,hev,invoke,hargs,yv80 he]
         ·simp [q1,q2,hlen]
         ·intro i x u p q
          by_cases hi1:i < fs.length
          ·rw [List.getElem?_append_left hi1] at p
           rw [List.getElem?_append_left (by simp;omega)] at q
           exact .r0 (q3 i x u p (by simpa using q))
          ·rw [List.getElem?_append_right (by omega)] at p
           rw [List.getElem?_append_right (by simp;omega)] at q
           have:i - vs1.toList.length=i - fs.length:=by simp [q1]
           rw [this] at q
           by_cases hi2:i - fs.length < us.length
           ·rw [List.getElem?_append_left (by omega)] at p
            rw [List.getElem?_append_left hi2] at q
            have:=a1 (i - fs.length + 1) x u (by simpa using p) (by simpa using q)
            exact yv677 (List.all_eq_true.1 hall x (List.mem_of_getElem? p)) this
           ·rw [List.getElem?_append_right (by omega)] at p
            rw [List.getElem?_append_right (by omega)] at q
            exact .r0 (q4 _ x u p (by rw [← hlen] at q;simpa using q))
     ·cases hc
  ·cases ok
 obtain ⟨vs,hrun,hvl,hva⟩:=key
 refine ⟨fun _ _=>trivial,?_⟩
 rw [Oper.semAt_eq _ _ _ hnd,hrun,Oper.uponIn_enter]
 refine ⟨fun h=>(by cases h),yv395 ?_⟩
 refine (yv393 hL r1.sr.inv r1.sr.hp hvl hva hcl hgood).mono ?_
 rintro en w' ⟨v,φ',g',rfl,hp⟩
 obtain ⟨g3,s3,t3⟩:=r1.sr.put rfl hp (d:=s.dst) (v:=v) (fun t ht=>by rw [hN];exact fm.lt t ht)
 exact hnext _ _ v w' φ' g3 hK (by rw [Act.put_tmps,fm.dst];exact s3) (r1.tr.trans t3)
end Go.Rv
