/- Plain laws. -/
import Derived.Test.YtckhkfheimmffaaDoorTextA
set_option linter.unusedSimpArgs false
set_option linter.unusedVariables false
set_option maxRecDepth 100000
namespace Go.Rv
abbrev pT:fn104:=⟨33,7,[],[]⟩
theorem ok_T:okB pT=true:=by decide +kernel
theorem sec_T:secN [pT]=[33,0,7]:=by decide +kernel
theorem put_T:putN [pT]=[3,33,0,7]:=by
 simp only [putN,sec_T]
 rw [vb_lt (by decide)];rfl
theorem xv206 (p:fn104):SrtOf [p] [p]:=⟨by simp [SrtP],SE.refl _⟩
theorem xv166 {l:List fn86} {m:List fn104} (h:l.map pR=m):l=m.map pQ:=by
 rw [← h,List.map_map]
 exact (List.map_id l).symm
theorem xv209:fn91=some true:=by
 have ht:∀ x ∈ L (some [(⟨33,7,[],[]⟩:fn86)]),x.A.length ≤ 13000∧x.B.length ≤ 13000:=by
  intro x hx
  have:x=⟨33,7,[],[]⟩:=by simpa [L] using hx
  subst this;decide
 have hm:(L (some [(⟨33,7,[],[]⟩:fn86)])).map pR=[pT]:=rfl
 simp only [fn91]
 rw [xv68 none _ (by simp [L]) (by simp [L]) ht,hm,if_pos (by simp [ok_T])]
 simp only [Option.bind_some,fn77]
 have e0:L (some (L (none:Option (List UInt8))++putN [pT]))=putN [pT]++[]:=by simp [L]
 rw [e0]
 obtain ⟨x,h1,h2,h3,h4⟩:=xv128 [pT] [] (by rw [sec_T];decide) (by simp) (by
  intro p hp
  have:p=pT:=by simpa using hp
  subst this;exact ⟨ok_T,by decide,by decide⟩)
 rw [h1]
 simp only [Option.bind_some]
 have h5:(L x).map pR=[pT]:=SrtOf.uniq h2 (xv206 pT)
 have h6:L x=[⟨33,7,[],[]⟩]:=xv166 h5
 have ht2:∀ y ∈ L x,y.A.length ≤ 13000∧y.B.length ≤ 13000:=by rw [h6];exact ht
 rw [List.append_nil,put_T,xv170 x (by rw [h6];decide) ht2,h5,xv68 none none (by simp [L]) (by simp [L]) (by simp [L]),
  xv67 1 x (by rw [h6];decide) ht2,xv67 3 x (by rw [h6];decide) ht2,h5,h6]
 have c1:xv81 1 [pT]=true:=by decide +kernel
 have c3:xv81 3 [pT]=false:=by decide +kernel
 have p0:putN []=[0]:=by simp only [putN,secN,List.flatMap_nil,List.append_nil,List.length_nil];rw [vb_lt (by decide)];rfl
 simp [c1,c3,ok_T,put_T,ix,p0,L]
theorem SrtOf.perm {l s:List fn104} (h:SrtOf l s):l.Perm s:=h.2.perm
theorem xv178 {l s:List fn104} (h:l.Perm s):(secN l).length=(secN s).length:=(h.flatMap_right oneN).length_eq
theorem xv172 {l s:List fn104} (h:l.Perm s):(putN l).length=(putN s).length:=by
 have:=xv178 h
 simp only [putN,List.length_append,this]
theorem app_b (b:Option (List UInt8)) (h:(L b).length ≤ 13000):appO 1 (some []) b=some (some (L b)):=by
 rw [xv16 (y:=b) (by simp [room,L] at *;omega) (by simp [room,L] at *;omega)]
 rfl
theorem xv135 (a:Option (List UInt8)) (ha:(L a).length ≤ 4611686018427387904):fn40 a=some true:=by
 have e300:imin ((L a).length:Int) 300=((min (L a).length 300:Nat):Int):=xv165 (k:=300)
 obtain ⟨x2,s1,s2⟩:=xv222 (o:=a) (b:=min (L a).length 300) (Nat.min_le_left _ _)
 simp only [fn40]
 rw [e300,s1]
 simp only [Option.bind_some]
 have hB:(L x2).length ≤ 300:=by rw [s2,List.length_take];omega
 rw [app_b x2 (by omega)]
 simp only [Option.bind_some,fn77]
 have hL:L (some (L x2))=L x2:=rfl
 rw [hL]
 have h0:RL (L x2) 0 ⟨L x2,0⟩ ⟨L x2,0,0⟩:=.ok 0 (Nat.le_refl _) (Nat.zero_le _) (by omega)
 obtain ⟨w',r',g1,g⟩:=xv201 h0 (by omega)
 rw [xv209]
 rcases g with ⟨l,x,y,c1,c2,_,c4,c5,c6,c7,c8,c9,c10⟩|⟨c1,c2⟩
 ·rw [c1,c2]
  simp only [Option.bind_some]
  have hp:=c9.perm
  have hlen:(L x).length=l.length:=by rw [← List.length_map (f:=pR),c8,hp.length_eq]
  rw [if_neg (by simp),if_neg (by simp),xv91 x (by omega)]
  simp only [Option.bind_some]
  have hm:∀ q ∈ (L x).map pR,okB q=true∧q.A.length ≤ 13000∧q.B.length ≤ 13000:=fun q hq=>c6 q (hp.mem_iff.2 (c8 ▸ hq))
  rw [xv108 _ _ (by rw [xv117,List.length_map];omega),xv117,c8]
  simp only [Option.bind_some,decide_true,Bool.not_true,Bool.false_eq_true,if_false]
  rw [xv68 none x (by simp [L]) (by omega) (fun q hq=>(hm (pR q) (List.mem_map.2 ⟨q,hq,rfl⟩)).2),if_pos (List.all_eq_true.2 fun q hq=>(hm q hq).1),c8]
  simp only [Option.bind_some,fn22,fn26,c4]
  rw [if_neg (by simp)]
  simp only [Option.bind_some]
  have e1:=congrArg List.length c5
  simp only [List.length_append] at e1
  have e2:=xv172 hp
  have e3:(putN l).length=(vb (secN l).length).length + (secN l).length:=by simp [putN]
  have e4:L (some (L (none:Option (List UInt8))++putN (L y)))=putN (L y):=by simp [L]
  rw [e4,if_pos (by rw [decide_eq_true_eq,xv5 (by omega) (by omega)];omega)]
  simp;omega
 ·rw [c1,c2]
  simp only [Option.bind_some]
  rw [if_neg (by simp),if_neg (by simp),xv91 none (by simp [L])]
  simp only [Option.bind_some]
  rw [xv108 _ _ (by rw [xv117];simp [L])]
  simp [xv117,L]
end Go.Rv
namespace Go.Rv
end Go.Rv
namespace Go.Rv
theorem xv56:good []=true:=by kernel_rfl
open Go.Lib
def SG:List (List UInt8):=[[97],[98],[97,98],[195,164],[226,130,172],[240,159,153,130],[49],[99]]
inductive Sg:Nat->List UInt8->Prop
 | nil:Sg 0 []
 | cons (w t:List UInt8) (n:Nat) (hw:w ∈ SG) (h:Sg n t):Sg (n + 1) (w++t)
theorem Sg.app {n:Nat} {l:List UInt8} (h:Sg n l):∀ {m:Nat} {r:List UInt8},Sg m r->Sg (n + m) (l++r):=by
 induction h with
 | nil=>intro m r k;simpa using k
 | cons v t n hv h ih=>intro m r k;rw [List.append_assoc,show n + 1 + m=n + m + 1 by omega];exact .cons v _ _ hv (ih k)
theorem xv202 (w:List UInt8) (h:w ∈ SG):1 ≤ w.length∧w.length ≤ 4:=by
 simp only [SG,List.mem_cons,List.mem_nil_iff,or_false] at h
 rcases h with rfl|rfl|rfl|rfl|rfl|rfl|rfl|rfl<;>decide
theorem Sg.len:∀ {n:Nat} {l:List UInt8},Sg n l->l.length ≤ 4 * n
 | _,_,.nil=>by simp
 | _,_,.cons w t n hw h=>by have:=h.len;have:=xv202 w hw;simp;omega
theorem xv18 (c:UInt8) (t:List UInt8) (k:Nat) (h:sgn (c::t)=k + 1):good (c::t)=good (t.drop k):=by
 rw [xv58,h,if_neg (by omega)];rfl
theorem xv12 (c:UInt8) (t:List UInt8) (h:128 ≤ c.toNat) (h2:c.toNat < 192):good (c::t)=false:=by
 have:sgn (c::t)=0:=by simp only [sgn];rw [if_neg (by omega),if_neg (by omega),if_neg (by omega),if_pos h]
 rw [xv58,if_pos this]
theorem xv1 (c:UInt8) (t:List UInt8) (h:c.toNat < 128) (h0:c.toNat ≠ 0):good (c::t)=good t:=by
 have:sgn (c::t)=0 + 1:=by
  simp only [sgn];rw [if_neg (by omega),if_neg (by omega),if_neg (by omega),if_neg (by omega),restS,if_neg (by omega)]
 rw [xv18 c t 0 this];rfl
theorem xv40 (w t:List UInt8) (hw:w ∈ SG):good (w++t)=good t:=by
 simp only [SG,List.mem_cons,List.mem_nil_iff,or_false] at hw
 rcases hw with rfl|rfl|rfl|rfl|rfl|rfl|rfl|rfl
 ·exact xv1 _ _ (by decide) (by decide)
 ·exact xv1 _ _ (by decide) (by decide)
 ·exact (xv1 _ _ (by decide) (by decide)).trans (xv1 _ _ (by decide) (by decide))
 ·exact xv18 _ _ 1 (by simp [sgn,contN,restN])
 ·exact xv18 _ _ 2 (by simp [sgn,contN,restN])
 ·exact xv18 _ _ 3 (by simp [sgn,contN,restN])
 ·exact xv1 _ _ (by decide) (by decide)
 ·exact xv1 _ _ (by decide) (by decide)
theorem Sg.good:∀ {n:Nat} {l:List UInt8},Sg n l->Rv.good l=true
 | _,_,.nil=>xv56
 | _,_,.cons w t n hw h=>by rw [xv40 w t hw];exact h.good
def rcl:Nat->List UInt8->Nat
 | 0,_=>0
 | _ + 1,[]=>0
 | f + 1,c::t=>1 + rcl f ((c::t).drop (decodeL (c::t)).2)
theorem xv101:∀ (f g:Nat) (l:List UInt8),l.length ≤ f->l.length ≤ g->rcl f l=rcl g l
 | 0,g,l,hf,hg=>by
  have:l=[]:=List.eq_nil_of_length_eq_zero (by omega)
  subst this;cases g<;>rfl
 | f + 1,0,l,hf,hg=>by
  have:l=[]:=List.eq_nil_of_length_eq_zero (by omega)
  subst this;rfl
 | f + 1,g + 1,[],hf,hg=>rfl
 | f + 1,g + 1,c::t,hf,hg=>by
  have hw:=decodeL_width (c::t)
  simp only [rcl]
  rw [xv101 f g _ (by rw [List.length_drop];simp at hf ⊢;omega) (by rw [List.length_drop];simp at hg ⊢;omega)]
def rc (l:List UInt8):Nat:=rcl l.length l
theorem xv21 (c:UInt8) (t:List UInt8) (k:Nat) (h:sgn (c::t)=k + 1):rc (c::t)=1 + rc (t.drop k):=by
 have hs:=xv110 c t
 rw [h] at hs
 split at hs
 ·omega
 ·simp only [rc,List.length_cons,rcl]
  rw [← hs,List.drop_succ_cons,xv101 t.length (t.drop k).length _ (by rw [List.length_drop];omega) (Nat.le_refl _)]
theorem xv35 (c:UInt8) (t:List UInt8) (h:c.toNat < 128) (h0:c.toNat ≠ 0):sgn (c::t)=0 + 1:=by
 simp only [sgn];rw [if_neg (by omega),if_neg (by omega),if_neg (by omega),if_neg (by omega),restS,if_neg (by omega)]
theorem xv148 (w t:List UInt8) (hw:w ∈ SG):rc (w++t)=rc w + rc t:=by
 simp only [SG,List.mem_cons,List.mem_nil_iff,or_false] at hw
 rcases hw with rfl|rfl|rfl|rfl|rfl|rfl|rfl|rfl
 ·exact xv21 _ _ 0 (xv35 _ _ (by decide) (by decide))
 ·exact xv21 _ _ 0 (xv35 _ _ (by decide) (by decide))
 ·refine (xv21 _ _ 0 (xv35 _ _ (by decide) (by decide))).trans ?_
  have:=xv21 98 t 0 (xv35 _ _ (by decide) (by decide))
  have e:rc [97,98]=2:=by kernel_rfl
  rw [e]
  simp only [List.drop_zero] at this
  show 1 + rc (98::t)=_
  rw [this];omega
 ·exact xv21 _ _ 1 (by simp [sgn,contN,restN])
 ·exact xv21 _ _ 2 (by simp [sgn,contN,restN])
 ·exact xv21 _ _ 3 (by simp [sgn,contN,restN])
 ·exact xv21 _ _ 0 (xv35 _ _ (by decide) (by decide))
 ·exact xv21 _ _ 0 (xv35 _ _ (by decide) (by decide))
theorem Sg.rc {n:Nat} {l:List UInt8} (h:Sg n l) (r:List UInt8):Rv.rc (l++r)=Rv.rc l + Rv.rc r:=by
 induction h with
 | nil=>simp [Rv.rc,rcl]
 | cons w t n hw h ih=>rw [List.append_assoc,xv148 w _ hw,ih,xv148 w t hw];omega
def lead (c:UInt8):Bool:=decide (c.toNat < 128) || decide (192 ≤ c.toNat)
theorem xv161 (w t:List UInt8) (hw:w ∈ SG) (ht:Rv.good t=true) (k:Nat) (hk:k < w.length) (c:UInt8) (hc:w[k]?=some c):Rv.good (w.take k)=lead c∧Rv.good (w.drop k++t)=lead c:=by
 have hg:=xv40 w t hw
 have two:∀ (a b:UInt8),Rv.good ((a::b::t))=Rv.good (a::b::t):=fun _ _=>rfl
 have hk4:=(xv202 w hw).2
 simp only [SG,List.mem_cons,List.mem_nil_iff,or_false] at hw
 have g0:=xv56
 have ga:Rv.good [97]=true:=by kernel_rfl
 have b1:Rv.good [195]=false:=by kernel_rfl
 have b2:Rv.good [226]=false:=by kernel_rfl
 have b3:Rv.good [226,130]=false:=by kernel_rfl
 have b4:Rv.good [240]=false:=by kernel_rfl
 have b5:Rv.good [240,159]=false:=by kernel_rfl
 have b6:Rv.good [240,159,153]=false:=by kernel_rfl
 have gb:Rv.good (98::t)=true:=(xv1 98 t (by decide) (by decide)).trans ht
 match k,hk4 with
 | 0,_ =>
  rw [List.take_zero,List.drop_zero,hg,ht,g0]
  rcases hw with rfl|rfl|rfl|rfl|rfl|rfl|rfl|rfl<;>(cases hc;exact ⟨rfl,rfl⟩)
 | 1,_ =>
  rcases hw with rfl|rfl|rfl|rfl|rfl|rfl|rfl|rfl
  ·simp at hk
  ·simp at hk
  ·cases hc;exact ⟨ga,gb⟩
  ·cases hc;exact ⟨b1,xv12 _ _ (by decide) (by decide)⟩
  ·cases hc;exact ⟨b2,xv12 _ _ (by decide) (by decide)⟩
  ·cases hc;exact ⟨b4,xv12 _ _ (by decide) (by decide)⟩
  ·simp at hk
  ·simp at hk
 | 2,_ =>
  rcases hw with rfl|rfl|rfl|rfl|rfl|rfl|rfl|rfl
  ·simp at hk
  ·simp at hk
  ·simp at hk
  ·simp at hk
  ·cases hc;exact ⟨b3,xv12 _ _ (by decide) (by decide)⟩
  ·cases hc;exact ⟨b5,xv12 _ _ (by decide) (by decide)⟩
  ·simp at hk
  ·simp at hk
 | 3,_ =>
  rcases hw with rfl|rfl|rfl|rfl|rfl|rfl|rfl|rfl
  ·simp at hk
  ·simp at hk
  ·simp at hk
  ·simp at hk
  ·simp at hk
  ·cases hc;exact ⟨b6,xv12 _ _ (by decide) (by decide)⟩
  ·simp at hk
  ·simp at hk
 | k + 4,h4=>omega
end Go.Rv
namespace Go.Rv
open Go.Lib
theorem Sg.cut {n:Nat} {l:List UInt8} (h:Sg n l):∀ (k:Nat) (c:UInt8),l[k]?=some c->Rv.good (l.take k)=lead c∧Rv.good (l.drop k)=lead c:=by
 induction h with
 | nil=>intro k c hc;simp at hc
 | cons w t n hw h ih =>
  intro k c hc
  by_cases hk:k < w.length
  ·rw [List.getElem?_append_left hk] at hc
   have:=xv161 w t hw h.good k hk c hc
   rw [List.take_append_of_le_length (by omega),List.drop_append_of_le_length (by omega)]
   exact this
  ·rw [List.getElem?_append_right (by omega)] at hc
   have:=ih (k - w.length) c hc
   rw [List.take_append,List.drop_append,List.take_of_length_le (by omega),List.drop_of_length_le (by omega),List.nil_append,xv40 w _ hw]
   exact this
end Go.Rv
namespace Go.Rv
end Go.Rv
namespace Go.Rv
open Go.Lib
end Go.Rv
namespace Go.Rv
open Go.Lib
def TG:List (List UInt8):=[[97],[98],[47],[99],[100],[47],[195,164],[101]]
inductive Tw:Nat->List UInt8->Prop
 | nil:Tw 0 []
 | cons (w t:List UInt8) (n:Nat) (hw:w ∈ TG) (h:Tw n t):Tw (n + 1) (w++t)
theorem xv225 (w:List UInt8) (h:w ∈ TG):1 ≤ w.length∧w.length ≤ 2:=by
 simp only [TG,List.mem_cons,List.mem_nil_iff,or_false] at h
 rcases h with rfl|rfl|rfl|rfl|rfl|rfl|rfl|rfl<;>decide
theorem Tw.len:∀ {n:Nat} {l:List UInt8},Tw n l->l.length ≤ 2 * n
 | _,_,.nil=>by simp
 | _,_,.cons w t n hw h=>by have:=h.len;have:=xv225 w hw;simp;omega
theorem xv192 (w t:List UInt8) (hw:w ∈ TG):good (w++t)=good t:=by
 simp only [TG,List.mem_cons,List.mem_nil_iff,or_false] at hw
 rcases hw with rfl|rfl|rfl|rfl|rfl|rfl|rfl|rfl
 ·exact xv1 _ _ (by decide) (by decide)
 ·exact xv1 _ _ (by decide) (by decide)
 ·exact xv1 _ _ (by decide) (by decide)
 ·exact xv1 _ _ (by decide) (by decide)
 ·exact xv1 _ _ (by decide) (by decide)
 ·exact xv1 _ _ (by decide) (by decide)
 ·exact xv18 _ _ 1 (by simp [sgn,contN,restN])
 ·exact xv1 _ _ (by decide) (by decide)
theorem Tw.good:∀ {n:Nat} {l:List UInt8},Tw n l->Rv.good l=true
 | _,_,.nil=>xv56
 | _,_,.cons w t n hw h=>by rw [xv192 w t hw];exact h.good
theorem xv183 (w:List UInt8) (h:w ∈ TG):∀ b ∈ w,b ≠ 36∧b ≠ 43∧b ≠ 35∧b ≠ 115:=by
 simp only [TG,List.mem_cons,List.mem_nil_iff,or_false] at h
 rcases h with rfl|rfl|rfl|rfl|rfl|rfl|rfl|rfl<;>decide
theorem Tw.bytes:∀ {n:Nat} {l:List UInt8},Tw n l->∀ b ∈ l,b ≠ 36∧b ≠ 43∧b ≠ 35∧b ≠ 115
 | _,_,.nil=>by simp
 | _,_,.cons w t n hw h=>by
  intro b hb
  rcases List.mem_append.1 hb with hb|hb
  ·exact xv183 w hw b hb
  ·exact h.bytes b hb
end Go.Rv
namespace Go.Rv
open Go.Lib
end Go.Rv
namespace Go.Rv
open Go.Lib
end Go.Rv
namespace Go.Rv
open Go.Lib
def DupP (k:Int) (a b:fn104):Prop:=a.Id=b.Id->xv82 a.Id k=true
theorem DupP.symm {k:Int} {a b:fn104} (h:DupP k a b):DupP k b a:=fun e=>by rw [e];exact h e.symm
structure OneP (k:Int) (p:fn104):Prop where
 f:forB p.Id k=true
 v:xv61 p.Id p.N p.A p.B=true
 a:p.A.length ≤ 100
 b:p.B.length ≤ 100
structure ManyP (k:Int) (l:List fn104):Prop where
 one:∀ p ∈ l,OneP k p
 dup:l.Pairwise (DupP k)
theorem ManyP.perm {k:Int} {l m:List fn104} (h:ManyP k l) (p:m.Perm l):ManyP k m :=
 ⟨fun x hx=>h.one x (p.mem_iff.1 hx),(p.pairwise_iff (fun h=>DupP.symm h)).2 h.dup⟩
end Go.Rv
namespace Go.Rv
theorem OneP.ok {k:Int} {p:fn104} (h:OneP k p):okB p=true:=by
 have:=h.v
 simp only [xv61,Bool.and_eq_true] at this
 exact this.1
end Go.Rv
namespace Go.Rv
theorem xv115 (x:tyL Tb [.g (.f (.a .bs))]) (hx:yv721 tab 4 [.g (.f (.a .bs))] x):fn40 x.1=some true:=by
 have h:(L x.1).length ≤ 2 ^ 47:=hx.1
 exact xv135 x.1 (by omega)
end Go.Rv
namespace Go.Rv
end Go.Rv
