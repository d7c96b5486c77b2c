/- Loops in plain words: searches, folds. -/
import Derived.Test.YtcllbmdpckfnhaaGreatPL
import Derived.Test.YtcllbmdpckfnhaaGreatT3x8
set_option maxRecDepth 1000000
set_option linter.unusedVariables false
set_option linter.unusedSimpArgs false
namespace So
open Go TE Go.Proofs
def idx{E:Type}(p:E→Bool):List E→Int
 | [] => -1
 |e::r=>if p e=true then 0 else if idx p r<0 then -1 else idx p r+1
theorem Qr{E:Type}(p:E→Bool)(l:List E): -1≤idx p l:=by
 induction l with
 |nil=>simp[idx]
 |cons e r ih=>unfold idx;split<;>(try split)<;>omega
theorem Vf{E:Type}(p:E→Bool)(l:List E):idx p l<l.length:=by
 induction l with
 |nil=>simp[idx]
 |cons e r ih=>unfold idx;simp only[List.length_cons];split<;>(try split)<;>omega
theorem bG{E:Type}(p:E→Bool)(l:List E):decide (idx p l≥0)=l.any p:=by
 induction l with
 |nil=>simp[idx]
 |cons e r ih=>
  unfold idx
  have:=Qr p r
  cases hp:p e with
  |true=>simp[hp]
  |false=>
   simp only[hp,Bool.false_eq_true,if_false,List.any_cons,Bool.false_or,← ih]
   split<;>simp<;>omega
theorem kK{E:Type}(p:E→Bool)(l:List E):decide (idx p l<0) = !l.any p:=by
 rw[← bG]
 by_cases h:idx p l<0
 ·have:¬idx p l≥0:=by omega
  simp[h,this]
 ·have:idx p l≥0:=by omega
  simp[h,this]
theorem NQ{E:Type}{p:E→Bool}{l:List E}(h:l.any p=true):∃e,at? l (idx p l)=some e∧p e=true∧l.find? p=some e:=by
 induction l with
 |nil=>simp at h
 |cons x r ih=>
  unfold idx
  cases hp:p x with
  |true=>exact⟨x,by simp[at?,hp],hp,by simp[hp]⟩
  |false=>
   have h':r.any p=true:=by simpa[hp] using h
   obtain⟨e,h1,h2,h3⟩:=ih h'
   have hge:¬idx p r<0:=by
    have:=bG p r
    rw[h']at this
    have:=of_decide_eq_true this
    omega
   refine⟨e,?_,h2,by simp[hp,h3]⟩
   simp only[hp,Bool.false_eq_true,if_false,hge]
   unfold at? at h1 ⊢
   rw[if_neg hge]at h1
   rw[if_neg (by omega),show(idx p r+1).toNat=(idx p r).toNat+1 by omega]
   simpa using h1
def big:Nat:=1000000000
section
variable{E R:Type}{l:List E}
theorem SA{i:Int}(h0:0≤i)(h1:i<l.length):∃e,at? l i=some e∧l[i.toNat]?=some e:=
 have h:i.toNat<l.length:=by omega
 ⟨_,bU h0 (List.getElem?_eq_getElem h),List.getElem?_eq_getElem h⟩
theorem search(p:E→Bool)(K:Int→ab R)(hl:l.length<big)(G:Nat→Int→ab R)(hG:∀(n:Nat)(i:Int) e,0≤i→i<l.length→decide (i<((l.length:Nat):Int))=true→at? l i=some e→l[i.toNat]?=some e→G (n+1) i=if p e=true then K i else G n (IntKind.wrap .i64 (i+1)))(h0:∀(n:Nat)(i:Int),decide (i<((l.length:Nat):Int))=false→G (n+1) i=K (-1))(N:Nat)(hN:l.length<N):G N 0=K (idx p l):=by
 have hb:big=1000000000:=rfl
 have key:∀(r:List E)(i:Nat)(n:Nat),l.drop i=r→i≤l.length→l.length-i<n→G n i=K (if idx p r<0 then -1 else idx p r+i):=by
  intro r
  induction r with
  |nil=>
   intro i n hr hi hn
   obtain⟨n,rfl⟩:∃m,n=m+1:=⟨n-1,by omega⟩
   have:l.length≤i:=List.drop_eq_nil_iff.1 hr
   rw[h0 n i (by simp;omega)]
   simp[idx]
  |cons e r ih=>
   intro i n hr hi hn
   obtain⟨n,rfl⟩:∃m,n=m+1:=⟨n-1,by omega⟩
   have hlt:i<l.length:=by
    refine Classical.byContradiction fun hc=>?_
    rw[List.drop_eq_nil_of_le (by omega)]at hr;cases hr
   have he:l[i]?=some e:=by
    have:=congrArg List.head? hr
    simpa[List.head?_drop] using this
   have hr':l.drop (i+1)=r:=by
    have:=congrArg List.tail hr
    simpa[List.tail_drop] using this
   rw[hG n i e (by omega) (by omega) (by simp;omega) (bU (by omega) (by simpa using he)) (by simpa using he)]
   unfold idx
   have hge:=Qr p r
   split
   ·simp
   ·rw[wr _ (by omega) (by omega),show((i:Int)+1)=((i+1:Nat):Int) by omega,ih (i+1) n hr' (by omega) (by omega)]
    congr 1
    split<;>simp<;>omega
 have:=key l 0 N (by simp) (by omega) (by omega)
 rw[show((0:Nat):Int)=0 from rfl]at this
 rw[this]
 have hge:=Qr p l
 congr 1
 split
 ·omega
 ·simp
def yu{A:Type}(f:List E→E→A→A):List E→List E→A→A
 |_,[],a=>a
 |pre,e::r,a=>yu f (pre++[e]) r (f pre e a)
theorem pP{A:Type}(f:List E→E→A→A)(K:A→ab R)(hl:l.length<big)(G:Nat→Int→A→ab R)(hG:∀n (pre:List E) e rest a,l=pre++e::rest→decide (((pre.length:Nat):Int)<((l.length:Nat):Int))=true→at? l pre.length=some e→G (n+1) pre.length a=G n (IntKind.wrap .i64 (((pre.length:Nat):Int)+1)) (f pre e a))(h0:∀n a,G (n+1) l.length a=K a):∀(rest pre:List E)(a:A)(n:Nat),l=pre++rest→rest.length<n→G n pre.length a=K (yu f pre rest a):=by
 have hb:big=1000000000:=rfl
 intro rest
 induction rest with
 |nil=>
  intro pre a n h hn
  obtain⟨n,rfl⟩:∃m,n=m+1:=⟨n-1,by omega⟩
  have:l=pre:=by simpa using h
  subst this
  rw[h0];rfl
 |cons e r ih=>
  intro pre a n h hn
  obtain⟨n,rfl⟩:∃m,n=m+1:=⟨n-1,by omega⟩
  have hlen:l.length=pre.length+(r.length+1):=by rw[h];simp
  rw[hG n pre e r a h (by simp;omega) (bU (by omega) (by rw[h];simp))]
  rw[wr _ (by omega) (by omega),show((pre.length:Int)+1)=((pre++[e]).length:Int) by simp,ih (pre++[e]) _ n (by rw[h];simp) (by simp at hn;omega)]
  rfl
abbrev Flt:=Int×Int
def Dr{A:Type}(f:List E→E→A→Flt×A):List E→List E→A→Flt×A
 |_,[],a=>((0,0),a)
 |pre,e::r,a=>if(f pre e a).1.1=0 then Dr f (pre++[e]) r (f pre e a).2 else f pre e a
theorem ZE{A:Type}(f:List E→E→A→Flt×A)(Inv:List E→A→Prop)(K0:A→ab R)(K1:Flt→A→ab R)(hl:l.length<big)(G:Nat→Int→A→ab R)(hG:∀n (pre:List E) e rest a,l=pre++e::rest→Inv pre a→decide (((pre.length:Nat):Int)<((l.length:Nat):Int))=true→at? l pre.length=some e →
   G (n+1) pre.length a=(if(f pre e a).1.1=0 then G n (IntKind.wrap .i64 (((pre.length:Nat):Int)+1)) (f pre e a).2 else K1 (f pre e a).1 (f pre e a).2)∧((f pre e a).1.1=0→Inv (pre++[e]) (f pre e a).2))(h0:∀n a,decide (((l.length:Nat):Int)<((l.length:Nat):Int))=false→Inv l a→G (n+1) l.length a=K0 a):∀(rest pre:List E)(a:A)(n:Nat),l=pre++rest→Inv pre a→rest.length<n→G n pre.length a=(if(Dr f pre rest a).1.1=0 then K0 (Dr f pre rest a).2 else K1 (Dr f pre rest a).1 (Dr f pre rest a).2)∧((Dr f pre rest a).1.1=0→Inv l (Dr f pre rest a).2):=by
 have hb:big=1000000000:=rfl
 intro rest
 induction rest with
 |nil=>
  intro pre a n h hi hn
  obtain⟨n,rfl⟩:∃m,n=m+1:=⟨n-1,by omega⟩
  have:l=pre:=by simpa using h
  subst this
  rw[h0 _ _ (by simp) hi]
  exact⟨rfl,fun _=>hi⟩
 |cons e r ih=>
  intro pre a n h hi hn
  obtain⟨n,rfl⟩:∃m,n=m+1:=⟨n-1,by omega⟩
  have hlen:l.length=pre.length+(r.length+1):=by rw[h];simp
  obtain⟨h1,h2⟩:=hG n pre e r a h hi (by simp;omega) (bU (by omega) (by rw[h];simp))
  rw[h1]
  unfold Dr
  by_cases hc:(f pre e a).1.1=0
  ·rw[if_pos hc,if_pos hc]
   rw[wr _ (by omega) (by omega),show((pre.length:Int)+1)=((pre++[e]).length:Int) by simp]
   exact ih (pre++[e]) _ n (by rw[h];simp) (h2 hc) (by simp at hn;omega)
  ·rw[if_neg hc,if_neg hc,if_neg hc]
   exact⟨rfl,fun h=>absurd h hc⟩
end
def orF(a b:Flt):Flt:=if a.1=0∧b.1≠0 then b else a
def ra(a b:Flt):Flt:=if a.1=0 then b else a
def chk(b:Bool)(c a:Int):Flt:=if b=true then(0,0) else(c,a)
def Nf(a:Flt):Prop:=a.1=0→a=(0,0)
theorem aW(a b c:Flt):orF (orF a b) c=orF a (orF b c):=by
 unfold orF
 by_cases ha:a.1=0<;>by_cases hb:b.1=0<;>by_cases hc:c.1=0<;>simp[ha,hb,hc]
theorem oa(a:Flt):orF a (0,0)=a:=by simp[orF]
theorem aS{a:Flt}(h:Nf a):orF (0,0) a=a:=by
 unfold orF
 by_cases ha:a.1=0
 ·simp[ha,h ha]
 ·simp[ha]
theorem aU{a:Flt}(b:Flt)(h:a.1≠0):orF a b=a:=by simp[orF,h]
theorem yv{a b:Flt}(ha:Nf a)(hb:Nf b):orF a b=ra a b:=by
 unfold orF ra
 by_cases h:a.1=0
 ·by_cases h':b.1=0
  ·simp[h,h',ha h,hb h']
  ·simp[h,h']
 ·simp[h]
theorem aT(b:Bool){c:Int}(a:Int)(hc:c≠0):Nf (chk b c a):=by
 unfold Nf chk
 split<;>simp[hc]
theorem wV:Nf (0,0):=fun _=>rfl
theorem av{a b:Flt}(ha:Nf a)(hb:Nf b):Nf (orF a b):=by
 unfold orF
 split
 ·exact hb
 ·exact ha
theorem cV{a b:Flt}:(orF a b).1=0↔a.1=0∧b.1=0:=by
 unfold orF
 split
 ·rename_i h;simp[h.1,h.2]
 ·rename_i h
  constructor
  ·intro h';exact⟨h',by simpa[h'] using h⟩
  ·exact fun h=>h.1
theorem wW{b:Bool}{c a:Int}(hc:c≠0):(chk b c a).1=0↔b=true:=by
 unfold chk
 split<;>simp_all
def kf{R:Type}(k:Int→Int→ab R)(f:Flt):ab R:=k f.1 f.2
section
variable{R:Type}{N:Nat}
theorem bz(b:Bool){c:Int}(a A:Int)(Cs:List Chart)(Is:List Inst)(Hs:List ak)(Es:List Cert)(C At:Int)(k:Int→Int→ab R)(hc:c≠0):aj N b c a A Cs Is Hs Es C At k=kf k (orF (C,At) (chk b c a)):=by
 unfold aj kf orF chk
 simp only[aD,Option.bind_some]
 by_cases h:C=0<;>cases b<;>simp[h,hc]
theorem yw(n l m:Int)(k:Bool→ab R):dL N n l m k=k (decide (n≥l)&&decide (n≤m)):=by
 unfold dL
 simp only[aD,Option.bind_some]
def isH(s:State):Bool:=s.Kind==3||s.Kind==4
theorem Cp(s:State)(k:Bool→ab R):eh N s.Kind s.Name s.Entry s.Exit s.Trans s.Kids s.At k=k (isH s):=by
 unfold eh isH
 simp only[bm,Option.bind_some]
theorem Qs(s:State)(k:Bool→ab R):pZ N s.Kind s.Name s.Entry s.Exit s.Trans s.Kids s.At k=k (!isH s):=by
 unfold pZ
 rw[Cp]
def isS(s:State):Bool:=s.Kind==1||s.Kind==2
theorem rk(s:State)(k:Bool→ab R):je N s.Kind s.Name s.Entry s.Exit s.Trans s.Kids s.At k=k (isS s):=by
 unfold je isS
 simp only[bm,Option.bind_some]
theorem Tv(x y:ak)(k:Bool→ab R):gi N x.Name x.From x.Port x.To x.Cap x.Prio x.At y.Name y.From y.Port y.To y.Cap y.Prio y.At k=k (x.From==y.From&&x.Port==y.Port):=by
 unfold gi
 simp only[aD,Option.bind_some]
theorem Tw(x:ak)(y:Inst)(p:ai)(k:Bool→ab R):gV N x.Name x.From x.Port x.To x.Cap x.Prio x.At y.Name y.Chart y.Quantum y.Ext y.Prio y.At p.Name p.N p.At k=k (x.From==y.Name&&x.Port==p.Name):=by
 unfold gV
 simp only[aD,Option.bind_some]
theorem DB(s:List Chart)(f:ae)(k:Int→ab R)(hN:big≤N)(hl:s.length<big):gR N s f k=k (idx (fun e=>e.Name==f) s):=by
 unfold gR
 refine search (fun e=>e.Name==f) k hl (fun n i=>cr N s ((s.length:Nat):Int) f (k (-1)) (fun y=>k y) n i) (fun n i e h0 h1 h2 h3 h4=>?_) (fun n i h=>?_) N (by omega)
 ·simp only[cr,dZ,h2,h3,h4,h0,h1,if_true,Option.bind_some,aD,bm,ge_iff_le,decide_true,and_self]
 ·simp only[cr,dZ,h]
  rfl
theorem rl(s:List ai)(f:ae)(k:Int→ab R)(hN:big≤N)(hl:s.length<big):gT N s f k=k (idx (fun e=>e.Name==f) s):=by
 unfold gT
 refine search (fun e=>e.Name==f) k hl (fun n i=>cv N s ((s.length:Nat):Int) f (k (-1)) (fun y=>k y) n i) (fun n i e h0 h1 h2 h3 h4=>?_) (fun n i h=>?_) N (by omega)
 ·simp only[cv,eb,h2,h3,h4,h0,h1,if_true,Option.bind_some,aD,bm,ge_iff_le,decide_true,and_self]
 ·simp only[cv,eb,h]
  rfl
theorem LR(s:List Inst)(f:ae)(k:Int→ab R)(hN:big≤N)(hl:s.length<big):iE N s f k=k (idx (fun e=>e.Name==f) s):=by
 unfold iE
 refine search (fun e=>e.Name==f) k hl (fun n i=>cE N s ((s.length:Nat):Int) f (k (-1)) (fun y=>k y) n i) (fun n i e h0 h1 h2 h3 h4=>?_) (fun n i h=>?_) N (by omega)
 ·simp only[cE,ez,h2,h3,h4,h0,h1,if_true,Option.bind_some,aD,bm,ge_iff_le,decide_true,and_self]
 ·simp only[cE,ez,h]
  rfl
theorem GR(s:List ak)(f:ae)(k:Int→ab R)(hN:big≤N)(hl:s.length<big):iF N s f k=k (idx (fun e=>e.Name==f) s):=by
 unfold iF
 refine search (fun e=>e.Name==f) k hl (fun n i=>cF N s ((s.length:Nat):Int) f (k (-1)) (fun y=>k y) n i) (fun n i e h0 h1 h2 h3 h4=>?_) (fun n i h=>?_) N (by omega)
 ·simp only[cF,eA,h2,h3,h4,h0,h1,if_true,Option.bind_some,aD,bm,ge_iff_le,decide_true,and_self]
 ·simp only[cF,eA,h]
  rfl
theorem Ty(s:List Cert)(f:ae)(k:Int→ab R)(hN:big≤N)(hl:s.length<big):iH N s f k=k (idx (fun e=>e.Name==f) s):=by
 unfold iH
 refine search (fun e=>e.Name==f) k hl (fun n i=>cG N s ((s.length:Nat):Int) f (k (-1)) (fun y=>k y) n i) (fun n i e h0 h1 h2 h3 h4=>?_) (fun n i h=>?_) N (by omega)
 ·simp only[cG,eC,h2,h3,h4,h0,h1,if_true,Option.bind_some,aD,bm,ge_iff_le,decide_true,and_self]
 ·simp only[cG,eC,h]
  rfl
theorem Qt(s:List State)(k:Int→ab R)(hN:big≤N)(hl:s.length<big):gS N s k=k (idx (fun e => !isH e) s):=by
 unfold gS
 refine search (fun e => !isH e) k hl (fun n i=>cu N s ((s.length:Nat):Int) (k (-1)) (fun y=>k y) n i) (fun n i e h0 h1 h2 h3 h4=>?_) (fun n i h=>?_) N (by omega)
 ·simp only[cu,ea,h2,h3,h4,h0,h1,if_true,Option.bind_some,aD,bm,ge_iff_le,decide_true,and_self,Qs]
 ·simp only[cu,ea,h]
  rfl
theorem AU(s:List State)(f:ae)(k:Int→ab R)(hN:big≤N)(hl:s.length<big):fm N s f k=k (idx (fun e=>e.Name==f) s):=by
 unfold fm
 refine search (fun e=>e.Name==f) k hl (fun n i=>bV N ((s.length:Nat):Int) s f (k (-1)) (fun y=>k y) n i) (fun n i e h0 h1 h2 h3 h4=>?_) (fun n i h=>?_) N (by omega)
 ·simp only[bV,dq,h2,h3,h4,h0,h1,if_true,Option.bind_some,aD,bm,ge_iff_le,decide_true,and_self]
 ·simp only[bV,dq,h]
  rfl
theorem NR(s:List State)(k:Int→ab R)(hN:big≤N)(hl:s.length<big):fz N s k=k (idx isH s):=by
 unfold fz
 refine search isH k hl (fun n i=>bW N s ((s.length:Nat):Int) (k (-1)) (fun y=>k y) n i) (fun n i e h0 h1 h2 h3 h4=>?_) (fun n i h=>?_) N (by omega)
 ·simp only[bW,dt,h2,h3,h4,h0,h1,if_true,Option.bind_some,aD,bm,ge_iff_le,decide_true,and_self,Cp]
 ·simp only[bW,dt,h]
  rfl
theorem NS(s:List State)(f:ae)(k:Int→ab R)(hN:big≤N)(hl:s.length<big):fA N s f k=k (idx (fun e=>e.Name==f) s):=by
 unfold fA
 refine search (fun e=>e.Name==f) k hl (fun n i=>bX N s ((s.length:Nat):Int) f (k (-1)) (fun y=>k y) n i) (fun n i e h0 h1 h2 h3 h4=>?_) (fun n i h=>?_) N (by omega)
 ·simp only[bX,du,h2,h3,h4,h0,h1,if_true,Option.bind_some,aD,bm,ge_iff_le,decide_true,and_self]
 ·simp only[bX,du,h]
  rfl
theorem Qu(s:List ak)(y:ak)(k:Int→ab R)(hN:big≤N)(hl:s.length<big):gk N s y.Name y.From y.Port y.To y.Cap y.Prio y.At k=k (idx (fun x=>x.From==y.From&&x.Port==y.Port) s):=by
 unfold gk
 refine search (fun x=>x.From==y.From&&x.Port==y.Port) k hl (fun n i=>cj N s ((s.length:Nat):Int) y.Name y.From y.Port y.To y.Cap y.Prio y.At (k (-1)) (fun y=>k y) n i) (fun n i e h0 h1 h2 h3 h4=>?_) (fun n i h=>?_) N (by omega)
 ·simp only[cj,dN,h2,h3,h4,h0,h1,if_true,Option.bind_some,aD,bm,ge_iff_le,decide_true,and_self,Tv]
 ·simp only[cj,dN,h]
  rfl
theorem Qv(s:List ak)(y:Inst)(p:ai)(k:Int→ab R)(hN:big≤N)(hl:s.length<big):gl N s y.Name y.Chart y.Quantum y.Ext y.Prio y.At p.Name p.N p.At k=k (idx (fun x=>x.From==y.Name&&x.Port==p.Name) s):=by
 unfold gl
 refine search (fun x=>x.From==y.Name&&x.Port==p.Name) k hl (fun n i=>ck N s ((s.length:Nat):Int) y.Name y.Chart y.Quantum y.Ext y.Prio y.At p.Name p.N p.At (k (-1)) (fun y=>k y) n i) (fun n i e h0 h1 h2 h3 h4=>?_) (fun n i h=>?_) N (by omega)
 ·simp only[ck,dO,h2,h3,h4,h0,h1,if_true,Option.bind_some,aD,bm,ge_iff_le,decide_true,and_self,Tw]
 ·simp only[ck,dO,h]
  rfl
theorem Vg(s:List ae)(v:ae)(k:Int→ab R)(hN:big≤N)(hl:s.length<big):jz N s v k=k (idx (fun e=>v==e) s):=by
 unfold jz
 refine search (fun e=>v==e) k hl (fun n i=>dg N s v ((s.length:Nat):Int) (k (-1)) (fun y=>k y) n i) (fun n i e h0 h1 h2 h3 h4=>?_) (fun n i h=>?_) N (by omega)
 ·simp only[dg,fy,h2,h3,h4,h0,h1,if_true,Option.bind_some,aD,bm,ge_iff_le,decide_true,and_self]
 ·simp only[dg,fy,h]
  rfl
theorem DC(l:List State)(k:Bool→ab R)(hN:big≤N)(hl:l.length<big):qh N l k=k (l.any isS):=by
 unfold qh
 rw[← bG]
 refine search isS (fun j=>k (decide (j≥0))) hl (fun n i=>pA N l (k false) (fun y=>k y) n i) (fun n i e h0 h1 h2 h3 h4=>?_) (fun n i h=>?_) N (by omega)
 ·simp only[pA,rV,h2,h3,h4,h0,h1,if_true,Option.bind_some,aD,bm,ge_iff_le,decide_true,and_self,rk]
 ·simp only[pA,rV,h]
  simp
theorem eM(l:List ae)(s:ae)(k:Bool→ab R)(hN:big≤N)(hl:l.length<big):fD N l s k=k (l.any (fun e=>e==s)):=by
 unfold fD
 rw[← bG]
 refine search (fun e=>e==s) (fun j=>k (decide (j≥0))) hl (fun n i=>rC N l s (k false) (fun y=>k y) n i) (fun n i e h0 h1 h2 h3 h4=>?_) (fun n i h=>?_) N (by omega)
 ·simp only[rC,um,h2,h3,h4,h0,h1,if_true,Option.bind_some,aD,bm,ge_iff_le,decide_true,and_self]
 ·simp only[rC,um,h]
  simp
theorem zz(A:Int)(Cs:List Chart)(Is:List Inst)(Hs:List ak)(Es:List Cert)(s:ae)(k:Int→ab R)(hN:big≤N)(hl:Is.length<big):sS N A Cs Is Hs Es s k=k (idx (fun e=>e.Name==s) Is):=by
 unfold sS
 refine search (fun e=>e.Name==s) k hl (fun n i=>pB N s A Cs Is Hs Es (k (-1)) (fun y=>k y) n i) (fun n i e h0 h1 h2 h3 h4=>?_) (fun n i h=>?_) N (by omega)
 ·simp only[pB,rW,h2,h3,h4,h0,h1,if_true,Option.bind_some,aD,bm,ge_iff_le,decide_true,and_self]
 ·simp only[pB,rW,h]
  rfl
theorem HK(A:Int)(Cs:List Chart)(Is:List Inst)(Hs:List ak)(Es:List Cert)(s:ae)(k:Int→ab R)(hN:big≤N)(hl:Cs.length<big):zc N A Cs Is Hs Es s k=k (idx (fun e=>e.Name==s) Cs):=by
 unfold zc
 refine search (fun e=>e.Name==s) k hl (fun n i=>nb N s A Cs Is Hs Es (k (-1)) (fun y=>k y) n i) (fun n i e h0 h1 h2 h3 h4=>?_) (fun n i h=>?_) N (by omega)
 ·simp only[nb,qm,h2,h3,h4,h0,h1,if_true,Option.bind_some,aD,bm,ge_iff_le,decide_true,and_self]
 ·simp only[nb,qm,h]
  rfl
theorem DD(A:Int)(Cs:List Chart)(Is:List Inst)(Hs:List ak)(Es:List Cert)(s:ae)(k:Int→ab R)(hN:big≤N)(hl:Hs.length<big):ze N A Cs Is Hs Es s k=k (idx (fun e=>e.Name==s) Hs):=by
 unfold ze
 refine search (fun e=>e.Name==s) k hl (fun n i=>pC N s A Cs Is Hs Es (k (-1)) (fun y=>k y) n i) (fun n i e h0 h1 h2 h3 h4=>?_) (fun n i h=>?_) N (by omega)
 ·simp only[pC,rX,h2,h3,h4,h0,h1,if_true,Option.bind_some,aD,bm,ge_iff_le,decide_true,and_self]
 ·simp only[pC,rX,h]
  rfl
theorem AV(l:List Int)(q:Int)(k:Bool→ab R)(hN:big≤N)(hl:l.length<big):vQ N l q k=k (l.any (fun e=>e==q)):=by
 unfold vQ
 rw[← bG]
 refine search (fun e=>e==q) (fun j=>k (decide (j≥0))) hl (fun n i=>uK N l q (k false) (fun y=>k y) n i) (fun n i e h0 h1 h2 h3 h4=>?_) (fun n i h=>?_) N (by omega)
 ·simp only[uK,xr,h2,h3,h4,h0,h1,if_true,Option.bind_some,aD,bm,ge_iff_le,decide_true,and_self]
 ·simp only[uK,xr,h]
  simp
theorem Jf(s:List State)(k:Bool→ab R)(hN:big≤N)(hl:s.length<big):jb N s k=k (s.any fun e => !isH e):=by
 unfold jb iN
 rw[Qt _ _ hN hl,bG]
theorem Vh(s:List State)(k:Bool→ab R)(hN:big≤N)(hl:s.length<big):ec N s k=k (s.any isH):=by
 unfold ec
 rw[NR _ _ hN hl,bG]
theorem Vi(s:List ak)(y:ak)(k:Bool→ab R)(hN:big≤N)(hl:s.length<big):fv N s y.Name y.From y.Port y.To y.Cap y.Prio y.At k=k (s.any fun x=>x.From==y.From&&x.Port==y.Port):=by
 unfold fv
 rw[Qu _ _ _ hN hl,bG]
theorem Vj(s:List ak)(y:Inst)(p:ai)(k:Bool→ab R)(hN:big≤N)(hl:s.length<big):eB N s y.Name y.Chart y.Quantum y.Ext y.Prio y.At p.Name p.N p.At k=k (s.any fun x=>x.From==y.Name&&x.Port==p.Name):=by
 unfold eB
 rw[Qv _ _ _ _ hN hl,bG]
theorem yx(s:List ae)(v:ae)(k:Bool→ab R)(hN:big≤N)(hl:s.length<big):bB N s v k=k (s.any fun e=>v==e):=by
 unfold bB
 rw[Vg _ _ _ hN hl]
 simp only[bG]
theorem Qw(l:List Chart)(c:Chart)(k:Bool→ab R)(hN:big≤N)(hl:l.length<big):lN N l c.Name c.Steps c.Fuel c.Vars c.Ports c.Timers c.States c.At k=k (l.any fun e=>e.Name==c.Name):=by
 unfold lN fj
 rw[DB _ _ _ hN hl]
 simp only[bG]
theorem Qx(l:List ai)(c:ai)(k:Bool→ab R)(hN:big≤N)(hl:l.length<big):lO N l c.Name c.N c.At k=k (l.any fun e=>e.Name==c.Name):=by
 unfold lO bN
 rw[rl _ _ _ hN hl]
 simp only[bG]
theorem Tz(l:List Inst)(c:Inst)(k:Bool→ab R)(hN:big≤N)(hl:l.length<big):mN N l c.Name c.Chart c.Quantum c.Ext c.Prio c.At k=k (l.any fun e=>e.Name==c.Name):=by
 unfold mN kT
 rw[LR _ _ _ hN hl]
 simp only[bG]
theorem TA(l:List ak)(c:ak)(k:Bool→ab R)(hN:big≤N)(hl:l.length<big):mO N l c.Name c.From c.Port c.To c.Cap c.Prio c.At k=k (l.any fun e=>e.Name==c.Name):=by
 unfold mO gz
 rw[GR _ _ _ hN hl]
 simp only[bG]
theorem TB(l:List Cert)(c:Cert)(k:Bool→ab R)(hN:big≤N)(hl:l.length<big):mP N l c.Name c.Inst c.Req c.Resp c.Insts c.Chans c.Cells c.At k=k (l.any fun e=>e.Name==c.Name):=by
 unfold mP tG
 rw[Ty _ _ _ hN hl]
 simp only[bG]
theorem Jg(l:List State)(c:State)(k:Bool→ab R)(hN:big≤N)(hl:l.length<big):gK N c.Kind c.Name c.Entry c.Exit c.Trans c.Kids c.At l k=k (l.any fun e=>e.Name==c.Name):=by
 unfold gK dR
 rw[AU _ _ _ hN hl]
 simp only[bG]
end
def gP{E:Type}(g:List E→E→Flt):List E→List E→Flt
 |_,[]=>(0,0)
 |pre,e::r=>orF (g pre e) (gP g (pre++[e]) r)
theorem kZ{E:Type}(g:List E→E→Flt):∀(r pre:List E)(a:Flt),yu (fun pre e a=>orF a (g pre e)) pre r a=orF a (gP g pre r):=by
 intro r
 induction r with
 |nil=>intro pre a;simp only[yu,gP];rw[oa]
 |cons e r ih=>intro pre a;simp only[yu,gP,ih];rw[aW]
theorem fW{E:Type}{g:List E→E→Flt}(h:∀pre e,Nf (g pre e)):∀(r pre:List E),Nf (gP g pre r):=by
 intro r
 induction r with
 |nil=>intro pre;exact wV
 |cons e r ih=>intro pre;exact av (h pre e) (ih _)
theorem Vk{E:Type}{g:List E→E→Flt}(h:∀pre e,Nf (g pre e)):∀(r pre:List E),(Dr (fun pre e (_:Unit)=>(g pre e,())) pre r ()).1=gP g pre r:=by
 intro r
 induction r with
 |nil=>intro pre;rfl
 |cons e r ih=>
  intro pre
  simp only[Dr,gP]
  rw[yv (h pre e) (fW h _ _)]
  unfold ra
  split
  ·exact ih _
  ·rfl
structure Pr where
 v:ae→Bool
 p:ae→Bool
 t:ae→Bool
 q:ae→Bool
 g:ae→Bool
mutual
def exF(P:Pr):Expr→Flt
 |⟨K,_,s,kids,a⟩=>orF (chk (if K=2 then P.v s else if K=4 then P.q s else true) 7 a) (yy P kids)
def yy(P:Pr):List Expr→Flt
 | []=>(0,0)
 |e::r=>orF (exF P e) (yy P r)
end
def there(P:Pr)(K:Int)(s:ae):Bool:=if K=1 then P.v s else if K=3 then P.p s else if K=4∨K=5 then P.t s else true
mutual
def acF(P:Pr):Act→Flt
 |⟨K,s,_,x,n,t,e,a⟩=>orF (chk (there P K s) 7 a) (orF (chk (K != 7||(decide (n≥1)&&decide (n≤16))) 16 a) (orF (yy P x) (orF (lr P t) (lr P e))))
def lr(P:Pr):List Act→Flt
 | []=>(0,0)
 |e::r=>orF (acF P e) (lr P r)
end
def trF(P:Pr)(n:Int)(t:Trans):Flt:=orF (chk (decide (n≤96)) 15 t.At) (orF (chk (t.Target==[]||P.g t.Target) 7 t.At) (orF (yy P t.Guard) (lr P t.Acts)))
def CO(P:Pr):Int→List Trans→Flt
 |_,[]=>(0,0)
 |n,t::r=>orF (trF P (n+1) t) (CO P (n+1) r)
def inF(P:Pr):Int→List State→Flt
 |_,[]=>(0,0)
 |n,s::r=>if isH s=true then inF P n r else orF (lr P s.Entry) (orF (lr P s.Exit) (orF (CO P n s.Trans) (inF P (n+s.Trans.length) r)))
mutual
def flS:State→List State
 |⟨k,n,en,ex,tr,kids,a⟩=>⟨k,n,en,ex,tr,kids,a⟩::flL kids
def flL:List State→List State
 | []=>[]
 |s::r=>flS s++flL r
end
def GS(top:Bool)(s:State):Bool:=(top&&isH s)||(s.Kind==2 && !s.Kids.any fun e => !isH e)||(decide (((s.Kids.length:Nat):Int)>0) && !s.Kids.any fun e => !isH e)
def iV(top:Bool)(out:List State)(s:State):Flt:=orF (chk (decide (((out.length:Nat):Int)<63)) 15 s.At) (orF (chk (!out.any fun e=>e.Name==s.Name) 8 s.At) (chk (!GS top s) 17 s.At))
mutual
def tr1(top:Bool)(out:List State):State→Flt
 |⟨k,n,en,ex,tr,kids,a⟩=>orF (iV top out ⟨k,n,en,ex,tr,kids,a⟩) (trL false (out++[⟨k,n,en,ex,tr,kids,a⟩]) kids)
def trL(top:Bool)(out:List State):List State→Flt
 | []=>(0,0)
 |s::r=>orF (tr1 top out s) (trL top (out++flS s) r)
end
def nJ(most:Int)(pre:List ai)(e:ai):Flt:=orF (chk (decide (((pre.length:Nat):Int)<most)) 15 e.At) (chk (!pre.any fun x=>x.Name==e.Name) 8 e.At)
def HL(l:List State)(s:ae):Bool:=match l.find? (fun e=>e.Name==s) with
 |some e => !isH e
 |none=>false
def pO(c:Chart)(l:List State):Pr:=⟨fun s=>c.Vars.any fun e=>e.Name==s,fun s=>c.Ports.any fun e=>e.Name==s,fun s=>c.Timers.any fun e=>e.Name==s,HL l,fun s=>l.any fun e=>e.Name==s⟩
def AW(c:Chart):Flt:=orF (chk (decide (c.Steps≥2)&&decide (c.Steps≤16)&&(decide (c.Fuel≥1)&&decide (c.Fuel≤4096))) 16 c.At) (orF (chk (c.States.any fun e => !isH e) 7 c.At) (orF (gP (nJ 8) [] c.Vars) (orF (gP (nJ 6) [] c.Ports) (gP (nJ 6) [] c.Timers))))
def chF(c:Chart):Flt:=orF (AW c) (orF (trL true [] c.States) (inF (pO c (flL c.States)) 0 (flL c.States)))
theorem bq{R:Type}(k:Int→Int→ab R)(f:Flt):kf k f=k f.1 f.2:=rfl
section
variable{R:Type}{N:Nat}
theorem kL{α:Type}{l pre r:List α}(h:l=pre++r):(l.take ((pre.length:Nat):Int).toNat).drop (Int.toNat 0)=pre:=by
 subst h;simp
theorem g01{l:Nat}{i:Nat}(h:i≤l):(0:Int)≤0∧0≤((i:Nat):Int)∧((i:Nat):Int)≤((l:Nat):Int):=⟨by omega,by omega,by omega⟩
theorem Jh(l:List ai)(most:Int)(A:Int)(Cs:List Chart)(Is:List Inst)(Hs:List ak)(Es:List Cert)(C At:Int)(k:Int→Int→ab R)(hN:big≤N)(hl:l.length<big):
  eP N l most A Cs Is Hs Es C At k=kf k (orF (C,At) (gP (nJ most) [] l)):=by
 unfold eP
 have:=pP (fun pre e a=>orF a (nJ most pre e)) (kf k) hl (fun n i (a:Flt)=>dc N l most l ((l.length:Nat):Int) A Cs Is Hs Es (fun y z=>k y z) n i a.1 a.2) (fun n pre e rest a h h1 h2=>?_) (fun n a=>?_) l [] (C,At) N rfl (by omega)
 ·rw[kZ]at this
  exact this
 ·have hp:pre.length≤l.length:=by rw[h];simp
  simp only[dc,fl,h1,h2,if_true,Option.bind_some]
  rw[bz _ _ _ _ _ _ _ _ _ _ (by decide),bq,if_pos (g01 hp),kL h,Qx _ _ _ hN (by omega),bz _ _ _ _ _ _ _ _ _ _ (by decide),bq]
  unfold nJ
  rw[← aW]
 ·simp only[dc,fl]
  simp[kf]
theorem IP(e:Expr):1≤szE e:=by cases e;rw[tD];have:=ep ‹List Expr›;omega
theorem AX:∀l:List Expr,(l.length:Int)≤ju l
 | []=>by simp[ju]
 |e::r=>by have:=AX r;have:=IP e;simp only[List.length_cons,ju];omega
theorem AY:∀{l:List Expr} {e:Expr},e∈l→szE e≤ju l
 |x::r,e,h=>by
  simp only[ju]
  rcases List.mem_cons.1 h with rfl|h
  ·have:=ep r;omega
  ·have:=AY h;have:=IP x;omega
theorem GU(P:Pr):∀(l pre:List Expr)(a:Flt),yu (fun _ e a=>orF a (exF P e)) pre l a=orF a (yy P l):=by
 intro l
 induction l with
 |nil=>intro pre a;simp only[yu,yy];rw[oa]
 |cons e r ih=>intro pre a;simp only[yu,yy,ih];rw[aW]
theorem Xt(l:List State)(s:ae):
  (ifB (decide (idx (fun e=>e.Name==s) l≥0)) true (if(0:Int)≤(if(0>idx (fun e=>e.Name==s) l) then 0 else idx (fun e=>e.Name==s) l)∧(if(0>idx (fun e=>e.Name==s) l) then 0 else idx (fun e=>e.Name==s) l)<(l.length:Int) then(match l[(if(0>idx (fun e=>e.Name==s) l) then 0 else idx (fun e=>e.Name==s) l).toNat]? with
    |some e52=>(eh N e52.Kind e52.Name e52.Entry e52.Exit e52.Trans e52.Kids e52.At (fun(r53:Bool)=>
     some (!r53)))
    |none=>none) else none) (some false))=some (HL l s):=by
 unfold HL
 cases h:l.any (fun e=>e.Name==s) with
 |true=>
  obtain⟨e,h1,h2,h3⟩:=NQ h
  have hge:idx (fun e=>e.Name==s) l≥0:=by
   have:=bG (fun e:State=>e.Name==s) l
   rw[h]at this
   exact of_decide_eq_true this
  have hlt:=Vf (fun e:State=>e.Name==s) l
  have hn:¬(0>idx (fun e=>e.Name==s) l):=by omega
  have hg:l[(idx (fun e=>e.Name==s) l).toNat]?=some e:=by
   unfold at? at h1
   rwa [if_neg (by omega)]at h1
  simp only[hn,if_false]
  rw[if_pos ⟨by omega,hlt⟩,hg,h3]
  simp only[Cp]
  simp[hge,ifB]
 |false=>
  have hlt:¬idx (fun e=>e.Name==s) l≥0:=by
   have:=bG (fun e:State=>e.Name==s) l
   rw[h]at this
   exact of_decide_eq_false this
  have hf:l.find? (fun e=>e.Name==s)=none:=by
   rw[List.find?_eq_none]
   intro x hx hc
   have:=List.any_eq_false.1 h x hx
   exact this hc
  rw[hf]
  simp[hlt,ifB]
theorem Xu(c:Chart)(l:List State)(A:Int)(Cs:List Chart)(Is:List Inst)(Hs:List ak)(Es:List Cert)(hN:big≤N)(hc:(c.Vars.length:Int)≤16385)(hl:l.length<big):∀(d:Nat)(R:Type)(e:Expr)(C At:Int)(k:Int→Int→ab R),szE e<d→szE e<big →
  (bg N d).sound_checker_expr R c.Name c.Steps c.Fuel c.Vars c.Ports c.Timers c.States c.At e.Kind e.N e.Name e.Kids e.At A Cs Is Hs Es C At l k=kf k (orF (C,At) (exF (pO c l) e)):=by
 have hb:big=1000000000:=rfl
 intro d
 induction d with
 |zero=>intro R e C At k h;have:=IP e;omega
 |succ d ih=>
  intro R e C At k hd hs
  obtain⟨K,n,s,kids,a⟩:=e
  rw[tD]at hd hs
  have hk:=AX kids
  rw[AG]
  unfold fK
  have c7:∀(C At:Int),dw (bg N d) N A Cs Is Hs Es C At l c.Name c.Steps c.Fuel c.Vars c.Ports c.Timers c.States c.At K n s kids a (fun y z=>k y z)=kf k (orF (C,At) (yy (pO c l) kids)):=by
   intro C At
   unfold dw
   have:=pP (fun pre e a=>orF a (exF (pO c l) e)) (kf k) (l:=kids) (by omega) (fun n i (a:Flt)=>dv (bg N d) N kids ((kids.length:Nat):Int) A Cs Is Hs Es l c.Name c.Steps c.Fuel c.Vars c.Ports c.Timers c.States c.At (fun y z=>k y z) n i a.1 a.2) (fun n pre e rest a h h1 h2=>?_) (fun n a=>?_) kids [] (C,At) N rfl (by omega)
   ·rw[GU]at this
    exact this
   ·have he:e∈kids:=by rw[h];simp
    have:=AY he
    simp only[dv,ga,h1,h2,if_true,Option.bind_some]
    rw[ih _ _ _ _ _ (by omega) (by omega),bq]
   ·simp only[dv,ga]
    simp[kf]
  simp only[exF]
  rw[← aW]
  by_cases h2:K=2
  ·have h2':(K==2)=true:=by simp[h2]
   rw[if_pos h2',if_pos h2]
   unfold bN
   rw[rl _ _ _ hN (by omega)]
   dsimp only
   rw[bz _ _ _ _ _ _ _ _ _ _ (by decide),bG,bq,c7]
   rfl
  ·have h2':¬(K==2)=true:=by simp[h2]
   rw[if_neg h2',if_neg h2]
   by_cases h4:K=4
   ·have h4':(K==4)=true:=by simp[h4]
    rw[if_pos h4',if_pos h4]
    unfold dR
    rw[AU _ _ _ hN hl]
    refine(congrArg (fun x=>Option.bind x _) (Xt (N:=N) l s)).trans ?_
    rw[Option.bind_some]
    rw[bz _ _ _ _ _ _ _ _ _ _ (by decide),bq,c7]
    rfl
   ·have h4':¬(K==4)=true:=by simp[h4]
    rw[if_neg h4',if_neg h4,c7]
    simp[chk,oa]
theorem SC(e:Act):1≤szA e:=by cases e;rw[oP];have:=ep ‹List Expr›;have:=bs;rename_i a b _ _;have h1:=this a;have h2:=this b;omega
theorem Ji:∀l:List Act,(l.length:Int)≤eY l
 | []=>by simp[eY]
 |e::r=>by have:=Ji r;have:=SC e;simp only[List.length_cons,eY];omega
theorem Jj:∀{l:List Act} {e:Act},e∈l→szA e≤eY l
 |x::r,e,h=>by
  simp only[eY]
  rcases List.mem_cons.1 h with rfl|h
  ·have:=bs r;omega
  ·have:=Jj h;have:=SC x;omega
theorem TC(P:Pr):∀(l pre:List Act)(a:Flt),yu (fun _ e a=>orF a (acF P e)) pre l a=orF a (lr P l):=by
 intro l
 induction l with
 |nil=>intro pre a;simp only[yu,lr];rw[oa]
 |cons e r ih=>intro pre a;simp only[yu,lr,ih];rw[aW]
theorem Jk(c:Chart)(l:List State)(A:Int)(Cs:List Chart)(Is:List Inst)(Hs:List ak)(Es:List Cert)(hN:big≤N)(hc:(c.Vars.length:Int)≤16385)(hl:l.length<big)(e:Expr)(C At:Int)(k:Int→Int→ab R)(h:szE e<big):
  sound_checker_expr N c.Name c.Steps c.Fuel c.Vars c.Ports c.Timers c.States c.At e.Kind e.N e.Name e.Kids e.At A Cs Is Hs Es C At l k=kf k (orF (C,At) (exF (pO c l) e)):=by
 unfold sound_checker_expr
 exact Xu c l A Cs Is Hs Es hN hc hl N R e C At k (by omega) h
def uU(c:Chart):Prop:=(c.Vars.length:Int)≤16385∧(c.Ports.length:Int)≤16385∧(c.Timers.length:Int)≤16385
theorem Vl(c:Chart)(l:List State)(A:Int)(Cs:List Chart)(Is:List Inst)(Hs:List ak)(Es:List Cert)(hN:big≤N)(hc:uU c)(hl:l.length<big):∀(d:Nat)(R:Type)(e:List Act)(C At:Int)(k:Int→Int→ab R),eY e<d→eY e<big →
  (aH N d).sound_checker_acts R c.Name c.Steps c.Fuel c.Vars c.Ports c.Timers c.States c.At e A Cs Is Hs Es C At l k=kf k (orF (C,At) (lr (pO c l) e)):=by
 have hb:big=1000000000:=rfl
 intro d
 induction d with
 |zero=>intro R e C At k h;have:=bs e;omega
 |succ d ih=>
  intro R e C At k hd hs
  have hk:=Ji e
  rw[AH]
  unfold fL
  have:=pP (fun pre e a=>orF a (acF (pO c l) e)) (kf k) (l:=e) (by omega) (fun n i (a:Flt)=>dz (aH N d) N e ((e.length:Nat):Int) A Cs Is Hs Es l c.Name c.Steps c.Fuel c.Vars c.Ports c.Timers c.States c.At (fun y z=>k y z) n i a.1 a.2) (fun n pre x rest a h h1 h2=>?_) (fun n a=>?_) e [] (C,At) N rfl (by omega)
  ·rw[TC]at this
   exact this
  ·have hx:x∈e:=by rw[h];simp
   have hxs:=Jj hx
   obtain⟨K,s,ev,X,nn,T,EE,at_⟩:=x
   rw[oP]at hxs
   have p1:=ep X;have p2:=bs T;have p3:=bs EE
   have p4:=AX X
   simp only[dz,gg,h1,h2,if_true,Option.bind_some]
   have c13:∀(b:Bool)(rec:Int→Int→ab R),cw (aH N d) N b e ((e.length:Nat):Int) pre.length A Cs Is Hs Es a.1 a.2 l c.Name c.Steps c.Fuel c.Vars c.Ports c.Timers c.States c.At K s ev X nn T EE at_ rec=kf rec (orF a (orF (chk b 7 at_) (orF (chk (K != 7||(decide (nn≥1)&&decide (nn≤16))) 16 at_) (orF (yy (pO c l) X) (orF (lr (pO c l) T) (lr (pO c l) EE)))))):=by
    intro b rec
    unfold cw
    rw[bz _ _ _ _ _ _ _ _ _ _ (by decide),bq]
    simp only[yw,bm,Option.bind_some]
    rw[bz _ _ _ _ _ _ _ _ _ _ (by decide),bq]
    have hX:=pP (fun pre e a=>orF a (exF (pO c l) e)) (fun f:Flt=>kf rec (orF (orF f (lr (pO c l) T)) (lr (pO c l) EE))) (l:=X) (by omega) (fun n i (f:Flt)=>dy (aH N d) N e ((e.length:Nat):Int) pre.length X ((X.length:Nat):Int) A Cs Is Hs Es l c.Name c.Steps c.Fuel c.Vars c.Ports c.Timers c.States c.At K s ev X nn T EE at_ (fun(y89:Int)(y90:Int)=>
 (aH N d).sound_checker_acts _ c.Name c.Steps c.Fuel c.Vars c.Ports c.Timers c.States c.At T A Cs Is Hs Es y89 y90 l (fun(r91:Int)(r92:Int)=>
 (aH N d).sound_checker_acts _ c.Name c.Steps c.Fuel c.Vars c.Ports c.Timers c.States c.At EE A Cs Is Hs Es r91 r92 l (fun(r93:Int)(r94:Int)=>
 rec r93 r94))) n i f.1 f.2) (fun n pre x rest f h h1 h2=>?_) (fun n f=>?_) X []
    ·have:=hX (orF (orF a (chk b 7 at_)) (chk (K != 7||(decide (nn≥1)&&decide (nn≤16))) 16 at_)) N rfl (by omega)
     rw[GU]at this
     simp only[List.length_nil]at this
     refine Eq.trans this ?_
     simp only[aW]
    ·have hx:x∈X:=by rw[h];simp
     have:=AY hx
     simp only[dy,gf,h1,h2,if_true,Option.bind_some]
     rw[Jk c l A Cs Is Hs Es hN hc.1 hl _ _ _ _ (by omega),bq]
    ·simp only[dy,gf]
     simp only[Int.lt_irrefl,decide_false,Bool.false_eq_true,if_false]
     rw[ih _ _ _ _ _ (by omega) (by omega),bq,ih _ _ _ _ _ (by omega) (by omega)]
   have c12:∀(q:Bool)(kk:Bool→ab R),ew (aH N d) N true e ((e.length:Nat):Int) pre.length q A Cs Is Hs Es a.1 a.2 l c.Name c.Steps c.Fuel c.Vars c.Ports c.Timers c.States c.At K s ev X nn T EE at_ kk=kk (if q=true then(pO c l).t s else true):=by
    intro q kk
    unfold ew
    split
    ·unfold bN
     rw[rl _ _ _ hN (by have:=hc.2.2;omega)]
     simp only[bG]
     rfl
    ·rfl
   simp only[acF,there]
   unfold bN
   by_cases e1:K=1
   ·subst e1
    simp only[beq_self_eq_true,if_true]
    rw[rl _ _ _ hN (by have:=hc.1;omega)]
    simp only[bG,c13]
    rfl
   by_cases e3:K=3
   ·subst e3
    simp only[show((3:Int)==1)=false from rfl,show ¬((3:Int)=1) from by decide,Bool.false_eq_true,beq_self_eq_true,if_true,if_false]
    rw[rl _ _ _ hN (by have:=hc.2.1;omega)]
    simp only[bG,c13]
    rfl
   have b1:(K==1)=false:=by simp[e1]
   have b3:(K==3)=false:=by simp[e3]
   simp only[b1,b3,e1,e3,Bool.false_eq_true,if_false]
   by_cases e4:K=4
   ·subst e4
    simp only[beq_self_eq_true,if_true,c12,c13,true_or]
    rfl
   have b4:(K==4)=false:=by simp[e4]
   simp only[b4,e4,Bool.false_eq_true,if_false,c12,c13,false_or,beq_iff_eq]
   rfl
  ·simp only[dz,gg]
   simp[kf]
theorem MA(c:Chart)(l:List State)(A:Int)(Cs:List Chart)(Is:List Inst)(Hs:List ak)(Es:List Cert)(hN:big≤N)(hc:uU c)(hl:l.length<big)(e:List Act)(C At:Int)(k:Int→Int→ab R)(h:eY e<big):
  sound_checker_acts N c.Name c.Steps c.Fuel c.Vars c.Ports c.Timers c.States c.At e A Cs Is Hs Es C At l k=kf k (orF (C,At) (lr (pO c l) e)):=by
 unfold sound_checker_acts
 exact Vl c l A Cs Is Hs Es hN hc hl N R e C At k (by omega) h
theorem Vm(c:Chart)(l:List State)(A:Int)(Cs:List Chart)(Is:List Inst)(Hs:List ak)(Es:List Cert)(hN:big≤N)(hc:uU c)(hl:l.length<big)(t:Trans)(n C At:Int)(k:Int→Int→ab R)(h:szT t<big):
  jx N c.Name c.Steps c.Fuel c.Vars c.Ports c.Timers c.States c.At t.Event t.Guard t.Target t.Acts t.At n A Cs Is Hs Es C At l k=kf k (orF (C,At) (trF (pO c l) n t)):=by
 have hb:big=1000000000:=rfl
 have p1:=ep t.Guard;have p2:=bs t.Acts;have p3:=AX t.Guard
 unfold szT at h
 unfold jx
 rw[bz _ _ _ _ _ _ _ _ _ _ (by decide),bq]
 unfold dR
 simp only[AU _ _ _ hN hl,bG,bm,Option.bind_some]
 rw[bz _ _ _ _ _ _ _ _ _ _ (by decide),bq]
 have hX:=pP (fun pre e a=>orF a (exF (pO c l) e)) (fun f:Flt=>kf k (orF f (lr (pO c l) t.Acts))) (l:=t.Guard) (by omega) (fun n i (f:Flt)=>de N t.Guard ((t.Guard.length:Nat):Int) A Cs Is Hs Es l c.Name c.Steps c.Fuel c.Vars c.Ports c.Timers c.States c.At t.Event t.Guard t.Target t.Acts t.At (fun(y34:Int)(y35:Int)=>
 sound_checker_acts N c.Name c.Steps c.Fuel c.Vars c.Ports c.Timers c.States c.At t.Acts A Cs Is Hs Es y34 y35 l (fun(r36:Int)(r37:Int)=>
 k r36 r37)) n i f.1 f.2) (fun n pre x rest f h h1 h2=>?_) (fun n f=>?_) t.Guard []
 ·have:=hX (orF (orF (C,At) (chk (decide (n≤96)) 15 t.At)) (chk (t.Target==[]||l.any fun e=>e.Name==t.Target) 7 t.At)) N rfl (by omega)
  rw[GU]at this
  simp only[List.length_nil]at this
  refine Eq.trans this ?_
  unfold trF
  simp only[aW]
  rfl
 ·have hx:x∈t.Guard:=by rw[h];simp
  have:=AY hx
  simp only[de,fo,h1,h2,if_true,Option.bind_some]
  rw[Jk c l A Cs Is Hs Es hN hc.1 hl _ _ _ _ (by omega),bq]
 ·simp only[de,fo]
  simp only[Int.lt_irrefl,decide_false,Bool.false_eq_true,if_false]
  rw[MA c l A Cs Is Hs Es hN hc hl _ _ _ _ (by omega)]
end
section
variable{R:Type}{N:Nat}
theorem wX(s:State):1≤szS s:=by
 obtain⟨k,n,en,ex,tr,kids,a⟩:=s
 rw[xI]
 have:=bs en;have:=bs ex;have:=uZ tr;have:=bR kids
 omega
theorem dD:∀l:List State,(l.length:Int)≤aV l
 | []=>by simp[aV]
 |e::r=>by have:=dD r;have:=wX e;simp only[List.length_cons,aV];omega
theorem ER:∀l:List Trans,(l.length:Int)≤rq l
 | []=>by simp[rq]
 |e::r=>by have:=ER r;have:=ep e.Guard;have:=bs e.Acts;simp only[List.length_cons,rq,szT];omega
theorem Jl:∀{l:List Trans} {e:Trans},e∈l→szT e≤rq l
 |x::r,e,h=>by
  simp only[rq]
  rcases List.mem_cons.1 h with rfl|h
  ·have:=uZ r;omega
  ·have:=Jl h;have:=ep x.Guard;have:=bs x.Acts;simp only[szT]at *;omega
theorem kM(s:State):1+aV s.Kids≤szS s:=by
 obtain⟨k,n,en,ex,tr,kids,a⟩:=s
 rw[xI]
 have:=bs en;have:=bs ex;have:=uZ tr
 simp only;omega
theorem LS(s:State):eY s.Entry≤szS s∧eY s.Exit≤szS s∧rq s.Trans≤szS s:=by
 obtain⟨k,n,en,ex,tr,kids,a⟩:=s
 rw[xI]
 have:=bs en;have:=bs ex;have:=uZ tr;have:=bR kids
 simp only;omega
theorem bM(s:State):flS s=s::flL s.Kids:=by cases s;simp[flS]
theorem DE(top:Bool)(out:List State)(s:State):tr1 top out s=orF (iV top out s) (trL false (out++[s]) s.Kids):=by cases s;simp[tr1]
theorem MB:∀l:List State,(∀s∈flL l,szS s≤aV l)∧((flL l).length:Int)≤aV l∧((flL l).map fun s=>(s.Trans.length:Int)).sum≤aV l:=by
 intro l
 refine State.rec_1 (motive_1:=fun s=>(∀x∈flS s,szS x≤szS s)∧((flS s).length:Int)≤szS s∧((flS s).map fun s=>(s.Trans.length:Int)).sum≤szS s) (motive_2:=fun l=>(∀s∈flL l,szS s≤aV l)∧((flL l).length:Int)≤aV l∧((flL l).map fun s=>(s.Trans.length:Int)).sum≤aV l) ?_ ?_ ?_ l
 ·intro k n en ex tr kids a ih
  rw[bM,xI]
  have:=bs en;have:=bs ex;have:=uZ tr;have:=ER tr;have:=bR kids
  refine⟨fun x hx=>?_,?_,?_⟩
  ·rcases List.mem_cons.1 hx with rfl|hx
   ·rw[xI];omega
   ·have:=ih.1 x hx;omega
  ·simp only[List.length_cons];have:=ih.2.1;omega
  ·simp only[List.map_cons,List.sum_cons];have:=ih.2.2;omega
 ·simp[flL,aV]
 ·intro s r h1 h2
  simp only[flL,aV,List.mem_append,List.length_append,List.map_append,List.sum_append]
  have p1:=wX s;have p2:=bR r
  refine⟨fun x hx=>?_,by have:=h1.2.1;have:=h2.2.1;omega,by have:=h1.2.2;have:=h2.2.2;omega⟩
  rcases hx with hx|hx
  ·have:=h1.1 x hx;omega
  ·have:=h2.1 x hx;omega
theorem NT{α:Type}(l:List α)(x y:α):(l++[x]).set l.length y=l++[y]:=by simp
theorem uV(F:aI)(A:Int)(Cs:List Chart)(Is:List Inst)(Hs:List ak)(Es:List Cert)(top b:Bool)(x1:List State)(x2 x3 C At:Int)(out:List State)(s:State)(kp0 kp1:Int→Int→List State→ab R)(ho:(out.length:Int)<big):
  fY F N top b x1 x2 x3 A Cs Is Hs Es C At out s.Kind s.Name s.Entry s.Exit s.Trans s.Kids s.At kp0 kp1 =
   (if(orF (C,At) (chk (!b) 17 s.At)).1≠0 then kp0 (orF (C,At) (chk (!b) 17 s.At)).1 (orF (C,At) (chk (!b) 17 s.At)).2 (out++[s]) else F.sound_checker_tree_2 R s.Kids false A Cs Is Hs Es (orF (C,At) (chk (!b) 17 s.At)).1 (orF (C,At) (chk (!b) 17 s.At)).2 (out++[s]) kp1):=by
 have hb:big=1000000000:=rfl
 obtain⟨s1,s2,s3,s4,s5,s6,s7⟩:=s
 unfold fY
 rw[bz _ _ _ _ _ _ _ _ _ _ (by decide),bq]
 rw[if_pos (by simp[ah];omega),if_pos (by simp;omega)]
 have hg:(out++([(⟨0,[],[],[],[],[],0⟩:State)]))[((out.length:Nat):Int).toNat]?=some ⟨0,[],[],[],[],[],0⟩:=by simp
 rw[hg]
 dsimp only
 rw[Int.toNat_natCast,NT]
 by_cases h:(orF (C,At) (chk (!b) 17 s7)).1=0
 ·rw[if_neg (by simp[h]),if_neg (by simp[h])]
 ·rw[if_pos (by simp[h]),if_pos h]
theorem wH(A:Int)(Cs:List Chart)(Is:List Inst)(Hs:List ak)(Es:List Cert)(hN:big≤N)(F:aI)(top:Bool)(l:List State)(k:Int→Int→List State→ab R)(hl:aV l<20000)(hF:∀(e:State),e∈l→∀(C At:Int)(out:List State)(k:Int→Int→List State→ab R),out.length+aV e.Kids<400000000→∃o',F.sound_checker_tree_2 R e.Kids false A Cs Is Hs Es C At out k=k (orF (C,At) (trL false out e.Kids)).1 (orF (C,At) (trL false out e.Kids)).2 o'∧((orF (C,At) (trL false out e.Kids)).1=0→o'=out++flL e.Kids)∧(o'.length:Int)≤out.length+aV e.Kids∧∀s∈o',s∈out∨s∈flL e.Kids):∀(rest pre:List State)(n:Nat)(C At:Int)(out:List State),l=pre++rest→rest.length<n→out.length+aV rest<400000000 →
  ∃o',cg F N top l ((l.length:Nat):Int) A Cs Is Hs Es k k n pre.length C At out=k (orF (C,At) (trL top out rest)).1 (orF (C,At) (trL top out rest)).2 o'∧((orF (C,At) (trL top out rest)).1=0→o'=out++flL rest)∧(o'.length:Int)≤out.length+aV rest∧∀s∈o',s∈out∨s∈flL rest:=by
 have hb:big=1000000000:=rfl
 intro rest
 induction rest with
 |nil=>
  intro pre n C At out h hn ho
  obtain⟨n,rfl⟩:∃m,n=m+1:=⟨n-1,by omega⟩
  have:l=pre:=by simpa using h
  subst this
  refine⟨out,?_,fun _=>by simp[flL],by simp[aV],fun s hs => .inl hs⟩
  simp only[cg,eZ,trL,oa]
  simp
 |cons e r ih=>
  intro pre n C At out h hn ho
  obtain⟨n,rfl⟩:∃m,n=m+1:=⟨n-1,by omega⟩
  have hlen:l.length=pre.length+(r.length+1):=by rw[h];simp
  have hll:=dD l
  have he:e∈l:=by rw[h];simp
  have hes:szS e+aV r≤aV l:=by rw[h,Bg];have:=bR pre;simp only[aV];omega
  have hk:=kM e;have hkl:=dD e.Kids;have hkp:=bR e.Kids;have hrp:=bR r
  simp only[aV]at ho
  have hat:at? l pre.length=some e:=bU (by omega) (by rw[h];simp)
  have hd:decide (((pre.length:Nat):Int)<((l.length:Nat):Int))=true:=by simp;omega
  simp only[cg,eZ,hd,hat,if_true,Option.bind_some]
  rw[bz _ _ _ _ _ _ _ _ _ _ (by decide),bq,Jg _ _ _ hN (by omega),bz _ _ _ _ _ _ _ _ _ _ (by decide),bq]
  simp only[Cp,Jf _ _ hN (show e.Kids.length<big by omega),aD,bm,Option.bind_some]
  rw[uV F A Cs Is Hs Es top _ _ _ _ _ _ out e _ _ (by omega)]
  have hf1:orF (orF (orF (C,At) (chk (decide (((out.length:Nat):Int)<63)) 15 e.At)) (chk (!out.any fun x=>x.Name==e.Name) 8 e.At)) (chk (!((top&&isH e||(e.Kind==2 && !e.Kids.any fun e => !isH e))||(decide (((e.Kids.length:Nat):Int)>0) && !e.Kids.any fun e => !isH e))) 17 e.At)=orF (C,At) (iV top out e):=by
   unfold iV GS
   simp only[aW]
  have hf1':=hf1
  simp only[Prod.eta]at hf1' ⊢
  rw[hf1']
  have htr:orF (C,At) (trL top out (e::r))=orF (orF (orF (C,At) (iV top out e)) (trL false (out++[e]) e.Kids)) (trL top (out++flS e) r):=by
   simp only[trL,DE,aW]
  rw[htr]
  by_cases hc:(orF (C,At) (iV top out e)).1=0
  ·rw[if_neg (by simp[hc])]
   obtain⟨o2,h1,h2,h3,h4⟩:=hF e he (orF (C,At) (iV top out e)).1 (orF (C,At) (iV top out e)).2 (out++[e]) (fun(y56:Int)(y57:Int)(y58:List State)=>cg F N top l ((l.length:Nat):Int) A Cs Is Hs Es k k n (IntKind.wrap .i64 (((pre.length:Nat):Int)+1)) y56 y57 y58) (by simp;omega)
   rw[h1]
   have hr:IntKind.wrap .i64 (((pre.length:Nat):Int)+1)=(((pre++[e]).length:Nat):Int):=by rw[wr _ (by omega) (by omega)];simp
   rw[hr]
   simp only[List.length_append,List.length_singleton]at h3
   obtain⟨o3,g1,g2,g3,g4⟩:=ih (pre++[e]) n (orF (orF (C,At) (iV top out e)) (trL false (out++[e]) e.Kids)).1 (orF (orF (C,At) (iV top out e)) (trL false (out++[e]) e.Kids)).2 o2 (by rw[h];simp) (by simp at hn;omega) (by omega)
   simp only[Prod.eta]at g1 g2 g3
   have hsame:orF (orF (orF (C,At) (iV top out e)) (trL false (out++[e]) e.Kids)) (trL top o2 r)=orF (orF (orF (C,At) (iV top out e)) (trL false (out++[e]) e.Kids)) (trL top (out++flS e) r):=by
    by_cases hz:(orF (orF (C,At) (iV top out e)) (trL false (out++[e]) e.Kids)).1=0
    ·rw[h2 hz,bM];simp
    ·rw[aU _ hz,aU _ hz]
   rw[hsame]at g1 g2
   refine⟨o3,g1,fun hz=>?_,?_,fun s hs=>?_⟩
   ·rw[g2 hz,h2 (cV.1 hz).1]
    simp[flL,bM]
   ·simp only[aV];omega
   ·simp only[flL,List.mem_append,bM,List.mem_cons]
    rcases g4 s hs with hs|hs
    ·rcases h4 s hs with hs|hs
     ·rcases List.mem_append.1 hs with hs|hs
      ·exact .inl hs
      ·exact .inr (.inl (.inl (List.mem_singleton.1 hs)))
     ·exact .inr (.inl (.inr hs))
    ·exact .inr (.inr hs)
  ·rw[if_pos hc]
   have h1:orF (orF (orF (C,At) (iV top out e)) (trL false (out++[e]) e.Kids)) (trL top (out++flS e) r)=orF (C,At) (iV top out e):=by
    rw[aU (a:=orF (C,At) (iV top out e)) _ hc,aU _ hc]
   rw[h1]
   refine⟨out++[e],rfl,fun h=>absurd h hc,?_,fun s hs=>?_⟩
   ·have:=wX e
    simp only[List.length_append,List.length_singleton,aV];omega
   ·rcases List.mem_append.1 hs with hs|hs
    ·exact .inl hs
    ·right
     rw[List.mem_singleton.1 hs]
     simp[flL,bM]
theorem TD(A:Int)(Cs:List Chart)(Is:List Inst)(Hs:List ak)(Es:List Cert)(hN:big≤N):∀(d:Nat)(R:Type)(top:Bool)(l:List State)(C At:Int)(out:List State)(k:Int→Int→List State→ab R),aV l<d→aV l<20000→out.length+aV l<400000000 →
  ∃o',(bA N d).sound_checker_tree_2 R l top A Cs Is Hs Es C At out k=k (orF (C,At) (trL top out l)).1 (orF (C,At) (trL top out l)).2 o'∧((orF (C,At) (trL top out l)).1=0→o'=out++flL l)∧(o'.length:Int)≤out.length+aV l∧∀s∈o',s∈out∨s∈flL l:=by
 have hb:big=1000000000:=rfl
 intro d
 induction d with
 |zero=>intro R top l C At out k h;have:=bR l;omega
 |succ d ih=>
  intro R top l C At out k hd hs ho
  rw[yM]
  unfold eu
  have hll:=dD l
  refine wH A Cs Is Hs Es hN _ top l _ hs (fun e he C At out k ho=>?_) l [] N C At out rfl (by omega) ho
  have:szS e≤aV l:=by
   have:∀l:List State,e∈l→szS e≤aV l:=by
    intro l
    induction l with
    |nil=>intro h;cases h
    |cons x r ih=>
     intro h
     have:=bR r;have:=wX x
     simp only[aV]
     rcases List.mem_cons.1 h with rfl|h
     ·omega
     ·have:=ih h;omega
   exact this l he
  have:=kM e
  exact ih R false e.Kids C At out k (by omega) (by omega) ho
theorem Vn(A:Int)(Cs:List Chart)(Is:List Inst)(Hs:List ak)(Es:List Cert)(hN:big≤N)(top:Bool)(l:List State)(C At:Int)(out:List State)(k:Int→Int→List State→ab R)(h1:aV l<20000)(h2:out.length+aV l<400000000):
  ∃o',sound_checker_tree_2 N l top A Cs Is Hs Es C At out k=k (orF (C,At) (trL top out l)).1 (orF (C,At) (trL top out l)).2 o'∧((orF (C,At) (trL top out l)).1=0→o'=out++flL l)∧(o'.length:Int)≤out.length+aV l∧∀s∈o',s∈out∨s∈flL l:=by
 have hb:big=1000000000:=rfl
 unfold sound_checker_tree_2
 exact TD A Cs Is Hs Es hN N R top l C At out k (by omega) h1 h2
theorem xE(A:Int)(Cs:List Chart)(Is:List Inst)(Hs:List ak)(Es:List Cert)(top b:Bool)(x1:List State)(x2 x3 C At:Int)(out:List State)(s:State)(kp0 kp1:Int→Int→List State→ab R)(ho:(out.length:Int)<big):
  iD N top b x1 x2 x3 A Cs Is Hs Es C At out s.Kind s.Name s.Entry s.Exit s.Trans s.Kids s.At kp0 kp1 =
   (if(orF (C,At) (chk (!b) 17 s.At)).1≠0 then kp0 (orF (C,At) (chk (!b) 17 s.At)).1 (orF (C,At) (chk (!b) 17 s.At)).2 (out++[s]) else sound_checker_tree_2 N s.Kids false A Cs Is Hs Es (orF (C,At) (chk (!b) 17 s.At)).1 (orF (C,At) (chk (!b) 17 s.At)).2 (out++[s]) kp1):=by
 have hb:big=1000000000:=rfl
 obtain⟨s1,s2,s3,s4,s5,s6,s7⟩:=s
 unfold iD
 rw[bz _ _ _ _ _ _ _ _ _ _ (by decide),bq]
 rw[if_pos (by simp[ah];omega),if_pos (by simp;omega)]
 have hg:(out++([(⟨0,[],[],[],[],[],0⟩:State)]))[((out.length:Nat):Int).toNat]?=some ⟨0,[],[],[],[],[],0⟩:=by simp
 rw[hg]
 dsimp only
 rw[Int.toNat_natCast,NT]
 by_cases h:(orF (C,At) (chk (!b) 17 s7)).1=0
 ·rw[if_neg (by simp[h]),if_neg (by simp[h])]
 ·rw[if_pos (by simp[h]),if_pos h]
theorem yz(A:Int)(Cs:List Chart)(Is:List Inst)(Hs:List ak)(Es:List Cert)(hN:big≤N)(top:Bool)(l:List State)(k:Int→Int→List State→ab R)(hl:aV l<20000)
  : ∀(rest pre:List State)(n:Nat)(C At:Int)(out:List State),l=pre++rest→rest.length<n→out.length+aV rest<400000000 →
  ∃o',cM N top l ((l.length:Nat):Int) A Cs Is Hs Es k k n pre.length C At out=k (orF (C,At) (trL top out rest)).1 (orF (C,At) (trL top out rest)).2 o'∧((orF (C,At) (trL top out rest)).1=0→o'=out++flL rest)∧(o'.length:Int)≤out.length+aV rest∧∀s∈o',s∈out∨s∈flL rest:=by
 have hb:big=1000000000:=rfl
 intro rest
 induction rest with
 |nil=>
  intro pre n C At out h hn ho
  obtain⟨n,rfl⟩:∃m,n=m+1:=⟨n-1,by omega⟩
  have:l=pre:=by simpa using h
  subst this
  refine⟨out,?_,fun _=>by simp[flL],by simp[aV],fun s hs => .inl hs⟩
  simp only[cM,fZ,trL,oa]
  simp
 |cons e r ih=>
  intro pre n C At out h hn ho
  obtain⟨n,rfl⟩:∃m,n=m+1:=⟨n-1,by omega⟩
  have hlen:l.length=pre.length+(r.length+1):=by rw[h];simp
  have hll:=dD l
  have he:e∈l:=by rw[h];simp
  have hes:szS e+aV r≤aV l:=by rw[h,Bg];have:=bR pre;simp only[aV];omega
  have hk:=kM e;have hkl:=dD e.Kids;have hkp:=bR e.Kids;have hrp:=bR r
  simp only[aV]at ho
  have hat:at? l pre.length=some e:=bU (by omega) (by rw[h];simp)
  have hd:decide (((pre.length:Nat):Int)<((l.length:Nat):Int))=true:=by simp;omega
  simp only[cM,fZ,hd,hat,if_true,Option.bind_some]
  rw[bz _ _ _ _ _ _ _ _ _ _ (by decide),bq,Jg _ _ _ hN (by omega),bz _ _ _ _ _ _ _ _ _ _ (by decide),bq]
  simp only[Cp,Jf _ _ hN (show e.Kids.length<big by omega),aD,bm,Option.bind_some]
  rw[xE A Cs Is Hs Es top _ _ _ _ _ _ out e _ _ (by omega)]
  have hf1:orF (orF (orF (C,At) (chk (decide (((out.length:Nat):Int)<63)) 15 e.At)) (chk (!out.any fun x=>x.Name==e.Name) 8 e.At)) (chk (!((top&&isH e||(e.Kind==2 && !e.Kids.any fun e => !isH e))||(decide (((e.Kids.length:Nat):Int)>0) && !e.Kids.any fun e => !isH e))) 17 e.At)=orF (C,At) (iV top out e):=by
   unfold iV GS
   simp only[aW]
  have hf1':=hf1
  simp only[Prod.eta]at hf1' ⊢
  rw[hf1']
  have htr:orF (C,At) (trL top out (e::r))=orF (orF (orF (C,At) (iV top out e)) (trL false (out++[e]) e.Kids)) (trL top (out++flS e) r):=by
   simp only[trL,DE,aW]
  rw[htr]
  by_cases hc:(orF (C,At) (iV top out e)).1=0
  ·rw[if_neg (by simp[hc])]
   obtain⟨o2,h1,h2,h3,h4⟩:=Vn A Cs Is Hs Es hN false e.Kids (orF (C,At) (iV top out e)).1 (orF (C,At) (iV top out e)).2 (out++[e]) (fun(y56:Int)(y57:Int)(y58:List State)=>cM N top l ((l.length:Nat):Int) A Cs Is Hs Es k k n (IntKind.wrap .i64 (((pre.length:Nat):Int)+1)) y56 y57 y58) (by omega) (by simp;omega)
   rw[h1]
   have hr:IntKind.wrap .i64 (((pre.length:Nat):Int)+1)=(((pre++[e]).length:Nat):Int):=by rw[wr _ (by omega) (by omega)];simp
   rw[hr]
   simp only[List.length_append,List.length_singleton]at h3
   obtain⟨o3,g1,g2,g3,g4⟩:=ih (pre++[e]) n (orF (orF (C,At) (iV top out e)) (trL false (out++[e]) e.Kids)).1 (orF (orF (C,At) (iV top out e)) (trL false (out++[e]) e.Kids)).2 o2 (by rw[h];simp) (by simp at hn;omega) (by omega)
   simp only[Prod.eta]at g1 g2 g3
   have hsame:orF (orF (orF (C,At) (iV top out e)) (trL false (out++[e]) e.Kids)) (trL top o2 r)=orF (orF (orF (C,At) (iV top out e)) (trL false (out++[e]) e.Kids)) (trL top (out++flS e) r):=by
    by_cases hz:(orF (orF (C,At) (iV top out e)) (trL false (out++[e]) e.Kids)).1=0
    ·rw[h2 hz,bM];simp
    ·rw[aU _ hz,aU _ hz]
   rw[hsame]at g1 g2
   refine⟨o3,g1,fun hz=>?_,?_,fun s hs=>?_⟩
   ·rw[g2 hz,h2 (cV.1 hz).1]
    simp[flL,bM]
   ·simp only[aV];omega
   ·simp only[flL,List.mem_append,bM,List.mem_cons]
    rcases g4 s hs with hs|hs
    ·rcases h4 s hs with hs|hs
     ·rcases List.mem_append.1 hs with hs|hs
      ·exact .inl hs
      ·exact .inr (.inl (.inl (List.mem_singleton.1 hs)))
     ·exact .inr (.inl (.inr hs))
    ·exact .inr (.inr hs)
  ·rw[if_pos hc]
   have h1:orF (orF (orF (C,At) (iV top out e)) (trL false (out++[e]) e.Kids)) (trL top (out++flS e) r)=orF (C,At) (iV top out e):=by
    rw[aU (a:=orF (C,At) (iV top out e)) _ hc,aU _ hc]
   rw[h1]
   refine⟨out++[e],rfl,fun h=>absurd h hc,?_,fun s hs=>?_⟩
   ·have:=wX e
    simp only[List.length_append,List.length_singleton,aV];omega
   ·rcases List.mem_append.1 hs with hs|hs
    ·exact .inl hs
    ·right
     rw[List.mem_singleton.1 hs]
     simp[flL,bM]
theorem Xv(A:Int)(Cs:List Chart)(Is:List Inst)(Hs:List ak)(Es:List Cert)(hN:big≤N)(top:Bool)(l:List State)(C At:Int)(k:Int→Int→List State→ab R)(hl:aV l<20000):
  ∃o',kh N l top A Cs Is Hs Es C At k=k (orF (C,At) (trL top [] l)).1 (orF (C,At) (trL top [] l)).2 o'∧((orF (C,At) (trL top [] l)).1=0→o'=flL l)∧(o'.length:Int)≤aV l∧∀s∈o',s∈flL l:=by
 have hb:big=1000000000:=rfl
 have hll:=dD l
 unfold kh
 obtain⟨o',h1,h2,h3,h4⟩:=yz A Cs Is Hs Es hN top l k hl l [] N C At [] rfl (by omega) (by simp;omega)
 refine⟨o',h1,fun h=>by simpa using h2 h,by simpa using h3,fun s hs=>by simpa using h4 s hs⟩
end
def w1(n:Int):Int:=IntKind.wrap .i64 (n+1)
def tsW(P:Pr)(a:Int×Flt)(t:Trans):Int×Flt:=(w1 a.1,orF a.2 (trF P (w1 a.1) t))
def stW(P:Pr)(a:Int×Flt)(s:State):Int×Flt:=if isH s=true then a else s.Trans.foldl (tsW P) (a.1,orF (orF a.2 (lr P s.Entry)) (lr P s.Exit))
theorem jR{E A:Type}(g:A→E→A):∀(l pre:List E)(a:A),yu (fun _ e a=>g a e) pre l a=l.foldl g a:=by
 intro l
 induction l with
 |nil=>intro pre a;rfl
 |cons e r ih=>intro pre a;exact ih _ _
theorem Vo(P:Pr):∀(l:List Trans)(a:Int×Flt),a.2.1≠0→(l.foldl (tsW P) a).2=a.2
 | [],a,h=>rfl
 |t::r,a,h=>by
  simp only[List.foldl_cons]
  have h1:(tsW P a t).2=a.2:=aU _ h
  rw[Vo P r _ (by rw[h1];exact h),h1]
theorem Vp(P:Pr):∀(l:List State)(a:Int×Flt),a.2.1≠0→(l.foldl (stW P) a).2=a.2
 | [],a,h=>rfl
 |s::r,a,h=>by
  simp only[List.foldl_cons]
  have h1:(stW P a s).2=a.2:=by
   unfold stW
   split
   ·rfl
   ·have h2:orF (orF a.2 (lr P s.Entry)) (lr P s.Exit)=a.2:=by rw[aU (a:=a.2) _ h,aU _ h]
    rw[Vo P _ _ (by simp only;rw[h2];exact h)]
    exact h2
  rw[Vp P r _ (by rw[h1];exact h),h1]
theorem Vq(P:Pr):∀(l:List Trans)(n:Int)(f:Flt),0≤n→n+l.length<1000000000000→l.foldl (tsW P) (n,f)=(n+l.length,orF f (CO P n l))
 | [],n,f,_,_=>by simp[CO,oa]
 |t::r,n,f,h0,h1=>by
  simp only[List.length_cons]at h1
  have hw:w1 n=n+1:=wr _ (by omega) (by omega)
  simp only[List.foldl_cons,tsW,hw]
  rw[Vq P r (n+1) _ (by omega) (by omega)]
  simp only[CO,aW,List.length_cons]
  congr 1
  omega
theorem Qy(P:Pr):∀(l:List State)(n:Int)(f:Flt),0≤n→n+(l.map fun s=>(s.Trans.length:Int)).sum<1000000000000→(l.foldl (stW P) (n,f)).2=orF f (inF P n l)
 | [],n,f,_,_=>by simp[inF,oa]
 |s::r,n,f,h0,h1=>by
  simp only[List.map_cons,List.sum_cons]at h1
  have hp:∀l:List State,0≤(l.map fun s=>(s.Trans.length:Int)).sum:=by
   intro l
   induction l with
   |nil=>simp
   |cons x r ih=>simp only[List.map_cons,List.sum_cons];omega
  have hr:=hp r
  simp only[List.foldl_cons,stW,inF]
  split
  ·exact Qy P r n f h0 (by omega)
  ·rw[Vq P _ _ _ h0 (by omega),Qy P r _ _ (by omega) (by omega)]
   simp only[aW]
section
variable{R:Type}{N:Nat}
theorem Qz(c:Chart)(l:List State)(A:Int)(Cs:List Chart)(Is:List Inst)(Hs:List ak)(Es:List Cert)(hN:big≤N)(hc:uU c)(hl:l.length<big)(hs:∀s∈l,szS s<big)(C At:Int)(k:Int→Int→ab R):
  bo N ((l.length:Nat):Int) A Cs Is Hs Es c.Name c.Steps c.Fuel c.Vars c.Ports c.Timers c.States c.At l k N 0 0 C At=kf k (l.foldl (stW (pO c l)) (0,(C,At))).2:=by
 have hb:big=1000000000:=rfl
 have:=pP (fun pre e a=>stW (pO c l) a e) (fun a:Int×Flt=>kf k a.2) hl (fun n i (a:Int×Flt)=>bo N ((l.length:Nat):Int) A Cs Is Hs Es c.Name c.Steps c.Fuel c.Vars c.Ports c.Timers c.States c.At l k n a.1 i a.2.1 a.2.2) (fun n pre e rest a h h1 h2=>?_) (fun n a=>?_) l [] (0,(C,At)) N rfl (by omega)
 ·rw[jR]at this
  exact this
 ·have he:e∈l:=by rw[h];simp
  have hse:=hs e he
  obtain⟨q1,q2,q3⟩:=LS e
  have q4:=ER e.Trans
  have hlt:pre.length<l.length:=by simpa using h1
  have hg:l[((pre.length:Nat):Int).toNat]?=some e:=by rw[h];simp
  simp only[bo,fq,h1,if_true]
  rw[if_pos ⟨by omega,by omega⟩,hg]
  dsimp only
  rw[Cp]
  unfold stW
  split
  ·rfl
  ·rw[MA c l A Cs Is Hs Es hN hc hl _ _ _ _ (by omega),bq,MA c l A Cs Is Hs Es hN hc hl _ _ _ _ (by omega),bq]
   have hT:=pP (fun pre t a=>tsW (pO c l) a t) (fun b:Int×Flt=>bo N ((l.length:Nat):Int) A Cs Is Hs Es c.Name c.Steps c.Fuel c.Vars c.Ports c.Timers c.States c.At l k n b.1 (IntKind.wrap .i64 (((pre.length:Nat):Int)+1)) b.2.1 b.2.2) (l:=e.Trans) (by omega) (fun m i (b:Int×Flt)=>df N ((l.length:Nat):Int) ((pre.length:Nat):Int) e.Trans ((e.Trans.length:Nat):Int) A Cs Is Hs Es c.Name c.Steps c.Fuel c.Vars c.Ports c.Timers c.States c.At l (fun(y83:Int)(y84:Int)(y85:Int)=>
 bo N ((l.length:Nat):Int) A Cs Is Hs Es c.Name c.Steps c.Fuel c.Vars c.Ports c.Timers c.States c.At l k n y83 (IntKind.wrap .i64 (((pre.length:Nat):Int)+1)) y84 y85) m b.1 i b.2.1 b.2.2) (fun m pre2 t rest2 b h' h1' h2'=>?_) (fun m b=>?_) e.Trans [] (a.1,orF (orF a.2 (lr (pO c l) e.Entry)) (lr (pO c l) e.Exit)) N rfl (by omega)
   ·rw[jR]at hT
    exact hT
   ·have ht:t∈e.Trans:=by rw[h'];simp
    have:=Jl ht
    simp only[df,fp,h1',h2',if_true,Option.bind_some]
    rw[Vm c l A Cs Is Hs Es hN hc hl _ _ _ _ _ (by omega),bq]
    rfl
   ·simp only[df,fp]
    simp only[Int.lt_irrefl,decide_false,Bool.false_eq_true,if_false]
 ·simp only[bo,fq]
  simp[kf]
def Jm(c:Chart):Prop:=uU c∧aV c.States<20000
theorem Vr(c:Chart)(A:Int)(Cs:List Chart)(Is:List Inst)(Hs:List ak)(Es:List Cert)(hN:big≤N)(hc:Jm c)(C At:Int)(k:Int→Int→ab R):
  jy N c.Name c.Steps c.Fuel c.Vars c.Ports c.Timers c.States c.At A Cs Is Hs Es C At k=kf k (orF (C,At) (chF c)):=by
 have hb:big=1000000000:=rfl
 obtain⟨hc,hs⟩:=hc
 have hl:=dD c.States
 unfold jy
 simp only[yw,aD,Option.bind_some]
 rw[bz _ _ _ _ _ _ _ _ _ _ (by decide),bq,Jf _ _ hN (by omega),bz _ _ _ _ _ _ _ _ _ _ (by decide),bq]
 unfold ki
 rw[Jh _ _ _ _ _ _ _ _ _ _ hN (by have:=hc.1;omega),bq,Jh _ _ _ _ _ _ _ _ _ _ hN (by have:=hc.2.1;omega),bq,Jh _ _ _ _ _ _ _ _ _ _ hN (by have:=hc.2.2;omega),bq]
 have hhead:orF (orF (orF (orF (orF (C,At) (chk (decide (c.Steps≥2)&&decide (c.Steps≤16)&&(decide (c.Fuel≥1)&&decide (c.Fuel≤4096))) 16 c.At)) (chk (c.States.any fun e => !isH e) 7 c.At)) (gP (nJ 8) [] c.Vars)) (gP (nJ 6) [] c.Ports)) (gP (nJ 6) [] c.Timers)=orF (C,At) (AW c):=by
  unfold AW
  simp only[aW]
 simp only[Prod.eta]
 rw[hhead]
 obtain⟨o',h1,h2,h3,h4⟩:=Xv A Cs Is Hs Es hN true c.States (orF (C,At) (AW c)).1 (orF (C,At) (AW c)).2 (fun(r30:Int)(r31:Int)(r32:List State)=>
 bo N ((r32.length:Nat):Int) A Cs Is Hs Es c.Name c.Steps c.Fuel c.Vars c.Ports c.Timers c.States c.At r32 (fun(y86:Int)(y87:Int)=>
 k y86 y87) N 0 0 r30 r31) hs
 rw[h1]
 simp only[Prod.eta]at h2 ⊢
 obtain⟨f1,f2,f3⟩:=MB c.States
 rw[Qz c o' A Cs Is Hs Es hN hc (by omega) (fun s hs'=>by have:=f1 s (h4 s hs');omega)]
 congr 1
 unfold chF
 rw[← aW,← aW]
 simp only[Prod.eta]
 by_cases hz:(orF (orF (C,At) (AW c)) (trL true [] c.States)).1=0
 ·rw[h2 hz,Qy _ _ _ _ (by omega) (by omega)]
 ·rw[Vp _ _ _ hz,aU _ hz]
end
def c0:Chart:=⟨[],0,0,[],[],[],[],0⟩
def db(Cs:List Chart)(Is:List Inst)(n:ae):Option Chart:=(Is.find? fun e=>e.Name==n).bind fun i=>Cs.find? fun e=>e.Name==i.Chart
def Av(Cs:List Chart)(pre:List Inst)(x:Inst):Flt:=orF (chk (!pre.any fun e=>e.Name==x.Name) 8 x.At) (orF (chk (Cs.any fun e=>e.Name==x.Chart) 7 x.At) (chk ((decide (x.Quantum≥1)&&decide (x.Quantum≤65536))&&(decide (x.Ext≥0)&&decide (x.Ext≤32))&&(decide (x.Prio≥0)&&decide (x.Prio≤7))) 16 x.At))
def Aw(Cs:List Chart)(Is:List Inst)(pre:List ak)(x:ak):Flt:=orF (chk (!pre.any fun e=>e.Name==x.Name) 8 x.At) (orF (chk ((db Cs Is x.From).isSome&&(db Cs Is x.To).isSome&&((db Cs Is x.From).getD c0).Ports.any fun e=>e.Name==x.Port) 7 x.At) (orF (chk (!pre.any fun y=>y.From==x.From&&y.Port==x.Port) 8 x.At) (chk ((decide (x.Cap≥1)&&decide (x.Cap≤32))&&(decide (x.Prio≥0)&&decide (x.Prio≤7))) 16 x.At)))
def wY(Cs:List Chart)(Is:List Inst)(Hs:List ak)(x:Inst):Flt:=gP (fun _ (p:ai)=>chk (Hs.any fun y=>y.From==x.Name&&y.Port==p.Name) 7 x.At) [] ((db Cs Is x.Name).getD c0).Ports
mutual
def hasN(set:List ae):State→Int
 |⟨_,n,_,_,_,kids,_⟩=>(if kids.length=0 then(((set.filter fun e=>e==n).length:Nat):Int) else 0)+mI set kids
def mI(set:List ae):List State→Int
 | []=>0
 |s::r=>hasN set s+mI set r
end
mutual
def ok1(set:List ae):State→Bool
 |⟨k,n,en,ex,tr,kids,a⟩=>if kids.length=0 then hasN set ⟨k,n,en,ex,tr,kids,a⟩==1 else(xF (k==2) set kids 0 0).2
def xF(all:Bool)(set:List ae):List State→Int→Int→Int×Bool
 | [],sum,so=>(sum,all||so==1)
 |s::r,sum,so=>if(hasN set s==0 && !all)=true then xF all set r sum so else if ok1 set s=true then xF all set r (sum+hasN set s) (so+1) else(0,false)
end
def oA(l:List State)(set:List ae):Bool:=(xF false set l 0 0).2&&(xF false set l 0 0).1==((set.length:Nat):Int)
section
variable{R:Type}{N:Nat}
theorem tW{E:Type}{p:E→Bool}{l:List E}(h:¬idx p l<0):∃e,at? l (idx p l)=some e∧l.find? p=some e:=by
 have:l.any p=true:=by
  have:=bG p l
  rw[← this];simp;omega
 obtain⟨e,h1,_,h3⟩:=NQ this
 exact⟨e,h1,h3⟩
theorem uH{E:Type}{p:E→Bool}{l:List E}(h:idx p l<0):l.find? p=none:=by
 have h':l.any p=false:=by
  have:=bG p l
  rw[← this];simp;omega
 rw[List.find?_eq_none]
 intro x hx hc
 exact List.any_eq_false.1 h' x hx hc
theorem HM{E:Type}(p:E→Bool)(l:List E):(l.find? p).isSome=l.any p:=by
 induction l with
 |nil=>rfl
 |cons e r ih=>simp only[List.find?_cons,List.any_cons];cases p e<;>simp[ih]
theorem uW(n:ae)(A:Int)(Cs:List Chart)(Is:List Inst)(Hs:List ak)(Es:List Cert)(C At:Int)(k:ae→Int→Int→(List ai)→(List ai)→(List ai)→(List State)→Int→Bool→ab R)(hN:big≤N)(hc:Cs.length<big)(hi:Is.length<big):
  bH N n A Cs Is Hs Es C At k=(fun c:Chart=>k c.Name c.Steps c.Fuel c.Vars c.Ports c.Timers c.States c.At (db Cs Is n).isSome) ((db Cs Is n).getD c0):=by
 unfold bH kT fj db
 rw[LR _ _ _ hN hi]
 by_cases h:idx (fun e=>e.Name==n) Is<0
 ·simp only[h,decide_true,if_true,uH h]
  rfl
 ·obtain⟨e,h1,h2⟩:=tW h
  simp only[h,decide_false,Bool.false_eq_true,if_false,h1,h2,Option.bind_some]
  rw[DB _ _ _ hN hc]
  by_cases h':idx (fun x=>x.Name==e.Chart) Cs<0
  ·simp only[h',decide_true,if_true,uH h']
   rfl
  ·obtain⟨c,h3,h4⟩:=tW h'
   simp only[h',decide_false,Bool.false_eq_true,if_false,h3,h4,Option.bind_some]
   rfl
theorem Xw(pre:List Inst)(x:Inst)(rest:List Inst)(A:Int)(Cs:List Chart)(Is:List Inst)(Hs:List ak)(Es:List Cert)(C At:Int)(k:Int→Int→ab R)(hN:big≤N)(hc:Cs.length<big)(hi:Is.length<big)(h:Is=pre++x::rest):
  kj N pre.length x.Name x.Chart x.Quantum x.Ext x.Prio x.At A Cs Is Hs Es C At k=kf k (orF (C,At) (Av Cs pre x)):=by
 have hp:pre.length≤Is.length:=by rw[h];simp
 unfold kj fj
 rw[if_pos (g01 hp),kL h,Tz _ _ _ hN (by omega),bz _ _ _ _ _ _ _ _ _ _ (by decide),bq,DB _ _ _ hN hc]
 dsimp only
 rw[bz _ _ _ _ _ _ _ _ _ _ (by decide),bq]
 simp only[yw,aD,Option.bind_some,bG]
 rw[bz _ _ _ _ _ _ _ _ _ _ (by decide)]
 unfold Av
 simp only[Prod.eta,aW]
theorem QA(pre:List ak)(x:ak)(rest:List ak)(A:Int)(Cs:List Chart)(Is:List Inst)(Hs:List ak)(Es:List Cert)(C At:Int)(k:Int→Int→ab R)(hN:big≤N)(hc:Cs.length<big)(hi:Is.length<big)(hh:Hs.length<big)(hcs:∀c∈Cs,uU c)(h:Hs=pre++x::rest):
  iG N pre.length x.Name x.From x.Port x.To x.Cap x.Prio x.At A Cs Is Hs Es C At k=kf k (orF (C,At) (Aw Cs Is pre x)):=by
 have hb:big=1000000000:=rfl
 have hp:pre.length≤Hs.length:=by rw[h];simp
 have hports:(((db Cs Is x.From).getD c0).Ports.length:Int)≤16385:=by
  cases hq:db Cs Is x.From with
  |none=>simp[c0]
  |some c=>
   unfold db at hq
   obtain⟨i,_,h2⟩:=Option.bind_eq_some_iff.1 hq
   exact(hcs c (List.mem_of_find?_eq_some h2)).2.1
 unfold iG jl bN
 rw[if_pos (g01 hp),kL h,TA _ _ _ hN (by omega),bz _ _ _ _ _ _ _ _ _ _ (by decide),bq]
 simp only[uW _ _ _ _ _ _ _ _ _ hN hc hi,rl _ _ _ hN (show((db Cs Is x.From).getD c0).Ports.length<big by omega),bG,aD,Option.bind_some,Bool.and_assoc]
 rw[bz _ _ _ _ _ _ _ _ _ _ (by decide),bq,if_pos (g01 hp),Vi _ _ _ hN (by omega),bz _ _ _ _ _ _ _ _ _ _ (by decide),bq]
 simp only[yw,aD,Option.bind_some]
 rw[bz _ _ _ _ _ _ _ _ _ _ (by decide)]
 unfold Aw
 simp only[Prod.eta,aW,Bool.and_assoc]
theorem TF(x:Inst)(A:Int)(Cs:List Chart)(Is:List Inst)(Hs:List ak)(Es:List Cert)(C At:Int)(k:Int→Int→ab R)(hN:big≤N)(hc:Cs.length<big)(hi:Is.length<big)(hh:Hs.length<big)(hcs:∀c∈Cs,uU c):
  jc N x.Name x.Chart x.Quantum x.Ext x.Prio x.At A Cs Is Hs Es C At k=kf k (orF (C,At) (wY Cs Is Hs x)):=by
 have hb:big=1000000000:=rfl
 have hports:(((db Cs Is x.Name).getD c0).Ports.length:Int)≤16385:=by
  cases hq:db Cs Is x.Name with
  |none=>simp[c0]
  |some c=>
   unfold db at hq
   obtain⟨i,_,h2⟩:=Option.bind_eq_some_iff.1 hq
   exact(hcs c (List.mem_of_find?_eq_some h2)).2.1
 unfold jc
 simp only[uW _ _ _ _ _ _ _ _ _ hN hc hi]
 unfold wY
 generalize((db Cs Is x.Name).getD c0).Ports=P at hports
 have hX:=pP (fun _ p a=>orF a (chk (Hs.any fun y=>y.From==x.Name&&y.Port==p.Name) 7 x.At)) (kf k) (l:=P) (by omega) (fun n i (f:Flt)=>cT N P ((P.length:Nat):Int) A Cs Is Hs Es x.Name x.Chart x.Quantum x.Ext x.Prio x.At (fun y z=>k y z) n i f.1 f.2) (fun n pre p rest f h h1 h2=>?_) (fun n f=>?_) P [] (C,At) N rfl (by omega)
 ·rw[kZ (fun _ (p:ai)=>chk (Hs.any fun y=>y.From==x.Name&&y.Port==p.Name) 7 x.At)]at hX
  exact hX
 ·simp only[cT,fa,h1,h2,if_true,Option.bind_some]
  rw[Vj _ _ _ _ hN hh,bz _ _ _ _ _ _ _ _ _ _ (by decide),bq]
 ·simp only[cT,fa]
  simp[kf]
theorem Vs(hN:big≤N):∀(d:Nat)(R:Type)(l:List State)(k:List State→ab R),aV l<d→aV l<20000→(dr N d).sound_flat R l k=k (flL l):=by
 have hb:big=1000000000:=rfl
 intro d
 induction d with
 |zero=>intro R l k h;have:=bR l;omega
 |succ d ih=>
  intro R l k hd hs
  have hll:=dD l
  rw[Lm]
  unfold qd
  have key:∀(rest pre:List State)(n:Nat)(out:List State),l=pre++rest→rest.length<n→out.length+aV rest<100000→lb (dr N d) N l ((l.length:Nat):Int) (fun y=>k y) n pre.length out=k (out++flL rest):=by
   intro rest
   induction rest with
   |nil=>
    intro pre n out h hn ho
    obtain⟨n,rfl⟩:∃m,n=m+1:=⟨n-1,by omega⟩
    have:l=pre:=by simpa using h
    subst this
    simp[lb,oH,flL]
   |cons e r ihr=>
    intro pre n out h hn ho
    obtain⟨n,rfl⟩:∃m,n=m+1:=⟨n-1,by omega⟩
    have hlen:l.length=pre.length+(r.length+1):=by rw[h];simp
    have he:szS e+aV r≤aV l:=by rw[h,Bg];have:=bR pre;simp only[aV];omega
    have hk:=kM e;have hrp:=bR r
    simp only[aV]at ho
    have hat:at? l pre.length=some e:=bU (by omega) (by rw[h];simp)
    have hdc:decide (((pre.length:Nat):Int)<((l.length:Nat):Int))=true:=by simp;omega
    obtain⟨_,f2,_⟩:=MB e.Kids
    have hkp:=bR e.Kids
    have hee:(⟨e.Kind,e.Name,e.Entry,e.Exit,e.Trans,e.Kids,e.At⟩:State)=e:=by cases e;rfl
    simp only[lb,oH,hdc,hat,if_true,Option.bind_some,hee]
    rw[if_pos (by simp[ah];omega),ih _ _ _ (by omega) (by omega)]
    rw[if_pos (by simp[ah];omega),wr _ (by omega) (by omega),show(((pre.length:Nat):Int)+1)=(((pre++[e]).length:Nat):Int) by simp]
    rw[ihr (pre++[e]) n _ (by rw[h];simp) (by simp at hn;omega) (by simp;omega)]
    simp[flL,bM]
  have:=key l [] N [] rfl (by omega) (by simp;omega)
  simpa using this
theorem SD(hN:big≤N)(l:List State)(k:List State→ab R)(h:aV l<20000):sound_flat N l k=k (flL l):=by
 have hb:big=1000000000:=rfl
 unfold sound_flat
 exact Vs hN N R l k (by omega) h
theorem ES(set:List ae)(s:State):hasN set s=(if s.Kids.length=0 then(((set.filter fun e=>e==s.Name).length:Nat):Int) else 0)+mI set s.Kids:=by cases s;simp[hasN]
end
theorem YF(nm:ae):∀(l:List ae)(a:Int),0≤a→a+l.length<1000000000000→l.foldl (fun a e=>if(e==nm)=true then w1 a else a) a=a+(((l.filter fun e=>e==nm).length:Nat):Int)
 | [],a,_,_=>by simp
 |e::r,a,h0,h1=>by
  simp only[List.length_cons]at h1
  simp only[List.foldl_cons]
  cases he:e==nm with
  |true=>
   have hw:w1 a=a+1:=wr _ (by omega) (by omega)
   simp only[if_true,hw]
   rw[YF nm r (a+1) (by omega) (by omega)]
   simp only[List.filter_cons,he,if_true,List.length_cons];omega
  |false=>
   simp only[Bool.false_eq_true,if_false]
   rw[YF nm r a h0 (by omega)]
   simp only[List.filter_cons,he,Bool.false_eq_true,if_false]
theorem QB(set:List ae):∀l:List State,0≤mI set l∧mI set l≤set.length*aV l:=by
 have hM:(0:Int)≤set.length:=by omega
 intro l
 refine State.rec_1 (motive_1:=fun s=>0≤hasN set s∧hasN set s≤set.length*szS s) (motive_2:=fun l=>0≤mI set l∧mI set l≤set.length*aV l) ?_ ?_ ?_ l
 ·intro k n en ex tr kids a ih
  rw[xI]
  simp only[hasN]
  have h1:(((set.filter fun e=>e==n).length:Nat):Int)≤set.length:=by have:=List.length_filter_le (fun e=>e==n) set;omega
  have p1:=bs en;have p2:=bs ex;have p3:=uZ tr;have p4:=bR kids
  have h2:(set.length:Int)*(1+aV kids)≤set.length*(1+eY en+eY ex+rq tr+aV kids):=Int.mul_le_mul_of_nonneg_left (by omega) hM
  rw[Int.mul_add,Int.mul_one]at h2
  split<;>(constructor<;>omega)
 ·simp[mI,aV]
 ·intro s r h1 h2
  simp only[mI,aV]
  rw[Int.mul_add]
  constructor<;>omega
theorem Cq(set:List ae)(s:State):0≤hasN set s∧hasN set s≤set.length*szS s:=by
 have:=QB set [s]
 simpa[mI,aV] using this
theorem ZF(set:List ae):∀(l:List State)(a:Int),0≤a→a+set.length*aV l<1000000000000→l.foldl (fun a s=>IntKind.wrap .i64 (a+hasN set s)) a=a+mI set l
 | [],a,_,_=>by simp[mI]
 |s::r,a,h0,h1=>by
  obtain⟨p1,p2⟩:=Cq set s
  obtain⟨p3,p4⟩:=QB set r
  simp only[aV,Int.mul_add]at h1
  simp only[List.foldl_cons,mI]
  rw[wr _ (by omega) (by omega),ZF set r _ (by omega) (by omega)]
  omega
theorem YG{α β:Type}{a:List α}{b:List β}{i:Int}{e:α×β}(h:at? (a.zip b) i=some e):at? a i=some e.1∧at? b i=some e.2:=by
 unfold at? at *
 split at h
 ·cases h
 ·rename_i hi
  rw[if_neg hi,if_neg hi]
  rw[List.getElem?_zip_eq_some]at h
  exact h
def yA(a b:List ae):Bool:=(((a.length:Nat):Int)==((b.length:Nat):Int)) && !a.any fun e => !b.any fun y=>e==y
def SE(a b:List (List ae)):Bool:=decide (a.length=b.length)&&(a.zip b).all fun p=>yA p.1 p.2
def GV(a b:List ae):Bool:=decide (a.length=b.length)&&(a.zip b).all fun p=>p.1==p.2
def SF(a b:List (List ae)):Bool:=decide (a.length=b.length)&&(a.zip b).all fun p=>GV p.1 p.2
def AZ(x y:Cell):Bool:=SE x.Sets y.Sets&&SF x.Msgs y.Msgs
def GW(Cs:List Chart)(Is:List Inst)(x:Cert)(c:Cell):Bool:=(c.Sets.zip x.Insts).all fun p=>(decide (((p.1.length:Nat):Int)>0) && !oA ((db Cs Is p.2).getD c0).States p.1)==false
def MC(Hs:List ak)(x:Cert)(c:Cell):Bool:=(c.Msgs.zip x.Chans).all fun p=>match Hs.find? fun e=>e.Name==p.2 with
 |some h=>decide (((p.1.length:Nat):Int)≤h.Cap)
 |none=>false
def wZ(Cs:List Chart)(Is:List Inst)(Hs:List ak)(x:Cert)(c:Cell):Bool:=decide (c.Sets.length=x.Insts.length)&&decide (c.Msgs.length=x.Chans.length)&&GW Cs Is x c&&MC Hs x c
section
variable{R:Type}{N:Nat}
theorem Xx(set:List ae)(hN:big≤N)(hset:(set.length:Int)≤16386):∀(d:Nat)(R:Type)(s:State)(k:Int→ab R),szS s<d→szS s<20000→(bO N d).sound_has R s.Kind s.Name s.Entry s.Exit s.Trans s.Kids s.At set k=k (hasN set s):=by
 have hb:big=1000000000:=rfl
 intro d
 induction d with
 |zero=>intro R s k h;have:=wX s;omega
 |succ d ih=>
  intro R s k hd hs
  have hk:=kM s;have hkl:=dD s.Kids
  have hM:(set.length:Int)*aV s.Kids≤16386*20000:=by
   have h1:(set.length:Int)*aV s.Kids≤set.length*20000:=Int.mul_le_mul_of_nonneg_left (by omega) (by omega)
   have h2:(set.length:Int)*20000≤16386*20000:=Int.mul_le_mul_of_nonneg_right hset (by omega)
   omega
  rw[Nc]
  unfold sO
  have hmem:∀(l:List State)(e:State),e∈l→szS e≤aV l:=by
   intro l
   induction l with
   |nil=>intro e h;cases h
   |cons x r ih=>
    intro e h
    have:=bR r;have:=wX x
    simp only[aV]
    rcases List.mem_cons.1 h with rfl|h
    ·omega
    ·have:=ih e h;omega
  have c9:∀a,0≤a→a≤16386→kl (bO N d) N set a s.Kind s.Name s.Entry s.Exit s.Trans s.Kids s.At (fun y=>k y)=k (a+mI set s.Kids):=by
   intro a h0 h1
   unfold kl
   have:=pP (fun _ e (a:Int)=>IntKind.wrap .i64 (a+hasN set e)) k (l:=s.Kids) (by omega) (fun n i (a:Int)=>mR (bO N d) N set s.Kids ((s.Kids.length:Nat):Int) (fun y=>k y) n a i) (fun n pre e rest a h h1 h2=>?_) (fun n a=>?_) s.Kids [] a N rfl (by omega)
   ·rw[jR (fun(a:Int) e=>IntKind.wrap .i64 (a+hasN set e)),ZF set _ _ h0 (by omega)]at this
    exact this
   ·have he:e∈s.Kids:=by rw[h];simp
    have:=hmem _ _ he
    simp only[mR,qf,h1,h2,if_true,Option.bind_some]
    rw[ih _ _ _ (by omega) (by omega)]
   ·simp only[mR,qf]
    simp
  rw[ES]
  by_cases hz:s.Kids.length=0
  ·have hz':(((s.Kids.length:Nat):Int)==0)=true:=by simp[hz]
   rw[if_pos hz',if_pos hz]
   have:=pP (fun _ e (a:Int)=>if(e==s.Name)=true then w1 a else a) (fun y=>kl (bO N d) N set y s.Kind s.Name s.Entry s.Exit s.Trans s.Kids s.At (fun y=>k y)) (l:=set) (by omega) (fun n i (a:Int)=>mQ (bO N d) N set set ((set.length:Nat):Int) s.Kind s.Name s.Entry s.Exit s.Trans s.Kids s.At (fun(y14:Int)=>kl (bO N d) N set y14 s.Kind s.Name s.Entry s.Exit s.Trans s.Kids s.At (fun(y32:Int)=>k y32)) n a i) (fun n pre e rest a h h1 h2=>?_) (fun n a=>?_) set [] 0 N rfl (by omega)
   ·rw[jR (fun(a:Int) e=>if(e==s.Name)=true then w1 a else a),YF _ _ _ (by omega) (by omega),Int.zero_add]at this
    have hfl:=List.length_filter_le (fun e=>e==s.Name) set
    rw[c9 _ (by omega) (by omega)]at this
    exact this
   ·simp only[mQ,qe,h1,h2,if_true,Option.bind_some]
    split<;>rfl
   ·simp only[mQ,qe]
    simp
  ·have hz':¬(((s.Kids.length:Nat):Int)==0)=true:=by simpa using hz
   rw[if_neg hz',if_neg hz]
   rw[c9 0 (by omega) (by omega)]
theorem YH(set:List ae)(hN:big≤N)(hset:(set.length:Int)≤16386)(s:State)(k:Int→ab R)(hs:szS s<20000):sound_has N s.Kind s.Name s.Entry s.Exit s.Trans s.Kids s.At set k=k (hasN set s):=by
 have hb:big=1000000000:=rfl
 unfold sound_has
 exact Xx set hN hset N R s k (by omega) hs
theorem QC(set:List ae)(s:State):ok1 set s=if s.Kids.length=0 then hasN set s==1 else(xF (s.Kind==2) set s.Kids 0 0).2:=by cases s;simp[ok1]
theorem QD(set:List ae)(hN:big≤N)(hset:(set.length:Int)≤16386):∀(d:Nat)(R:Type)(l:List State)(all:Bool)(k:Int→Bool→ab R),aV l<d→aV l<20000→(cc N d).sound_active R l all set k=k (xF all set l 0 0).1 (xF all set l 0 0).2:=by
 have hb:big=1000000000:=rfl
 intro d
 induction d with
 |zero=>intro R l all k h;have:=bR l;omega
 |succ d ih=>
  intro R l all k hd hs
  have hll:=dD l
  have hM:(set.length:Int)*aV l≤16386*20000:=by
   have h1:(set.length:Int)*aV l≤set.length*20000:=Int.mul_le_mul_of_nonneg_left (by omega) (by omega)
   have h2:(set.length:Int)*20000≤16386*20000:=Int.mul_le_mul_of_nonneg_right hset (by omega)
   omega
  rw[IH]
  unfold mr
  have key:∀(rest pre:List State)(n:Nat)(sum so:Int),l=pre++rest→rest.length<n→0≤sum→sum+set.length*aV rest<1000000000→0≤so→so+rest.length<1000000000 →
    gA (cc N d) N all set l ((l.length:Nat):Int) (fun(y13:Int)(y14:Int)=>(ifB all false (some (y14==1)) (some true)).bind fun c17=>k y13 c17) (fun(y15:Int)(y16:Bool)=>k y15 y16) n sum so pre.length=k (xF all set rest sum so).1 (xF all set rest sum so).2:=by
   intro rest
   induction rest with
   |nil=>
    intro pre n sum so h hn _ _ _ _
    obtain⟨n,rfl⟩:∃m,n=m+1:=⟨n-1,by omega⟩
    have:l=pre:=by simpa using h
    subst this
    simp only[gA,lP,xF,bm,Option.bind_some]
    simp
   |cons e r ihr=>
    intro pre n sum so h hn q1 q2 q3 q4
    obtain⟨n,rfl⟩:∃m,n=m+1:=⟨n-1,by omega⟩
    have hlen:l.length=pre.length+(r.length+1):=by rw[h];simp
    have he:szS e+aV r≤aV l:=by rw[h,Bg];have:=bR pre;simp only[aV];omega
    have hk:=kM e;have hrp:=bR r
    obtain⟨p1,p2⟩:=Cq set e
    have p3:(0:Int)≤set.length*aV r:=Int.mul_nonneg (by omega) hrp
    simp only[aV,Int.mul_add]at q2
    simp only[List.length_cons]at q4
    have hat:at? l pre.length=some e:=bU (by omega) (by rw[h];simp)
    have hdc:decide (((pre.length:Nat):Int)<((l.length:Nat):Int))=true:=by simp;omega
    have hr:IntKind.wrap .i64 (((pre.length:Nat):Int)+1)=(((pre++[e]).length:Nat):Int):=by rw[wr _ (by omega) (by omega)];simp
    simp only[gA,lP,hdc,hat,if_true,Option.bind_some]
    rw[YH set hN hset _ _ (by omega)]
    simp only[aD,Option.bind_some,xF,QC,hr,wr (sum+hasN set e) (by omega) (by omega),wr (so+1) (by omega) (by omega)]
    by_cases hc:(hasN set e==0 && !all)=true
    ·rw[if_pos hc,if_pos hc]
     exact ihr (pre++[e]) n sum so (by rw[h];simp) (by simp at hn;omega) q1 (by omega) q3 (by omega)
    ·rw[if_neg hc,if_neg hc]
     have fin:gA (cc N d) N all set l ((l.length:Nat):Int) (fun(y13:Int)(y14:Int)=>(ifB all false (some (y14==1)) (some true)).bind fun c17=>k y13 c17) (fun(y15:Int)(y16:Bool)=>k y15 y16) n (sum+hasN set e) (so+1) (((pre++[e]).length:Nat):Int)=k (xF all set r (sum+hasN set e) (so+1)).1 (xF all set r (sum+hasN set e) (so+1)).2:=
      ihr (pre++[e]) n _ _ (by rw[h];simp) (by simp at hn;omega) (by omega) (by omega) (by omega) (by omega)
     by_cases hz:e.Kids.length=0
     ·have hz':(((e.Kids.length:Nat):Int)==0)=true:=by simp[hz]
      simp only[hz',if_true]
      simp only[hz,if_true]
      by_cases h1:hasN set e=1
      ·simp only[h1,bne_self_eq_false,Bool.false_eq_true,if_false,beq_self_eq_true,if_true]
       rw[h1]at fin
       exact fin
      ·have h2:(hasN set e != 1)=true:=by simpa using h1
       have h3:(hasN set e==1)=false:=by simpa using h1
       simp only[h2,h3,if_true,Bool.false_eq_true,if_false]
     ·have hz':(((e.Kids.length:Nat):Int)==0)=false:=by simpa using hz
      simp only[hz',Bool.false_eq_true,if_false]
      simp only[hz,if_false]
      rw[ih _ _ _ _ (by omega) (by omega)]
      cases hq:(xF (e.Kind==2) set e.Kids 0 0).2 with
      |true=>
       simp only[Bool.not_true,Bool.false_eq_true,if_false,if_true]
       exact fin
      |false=>simp only[Bool.not_false,if_true,Bool.false_eq_true,if_false]
  have:=key l [] N 0 0 rfl (by omega) (by omega) (by omega) (by omega) (by omega)
  exact this
theorem TG(set:List ae)(hN:big≤N)(hset:(set.length:Int)≤16386)(l:List State)(k:Bool→ab R)(hl:aV l<20000):ui N l set k=k (oA l set):=by
 have hb:big=1000000000:=rfl
 unfold ui sound_active
 rw[QD set hN hset N _ _ _ _ (by omega) hl]
 simp only[aD,Option.bind_some]
 rfl
end
section
variable{R:Type}{N:Nat}
theorem SG{E:Type}(p:E→Bool)(l:List E):l.all p = !l.any fun e => !p e:=by
 induction l with
 |nil=>rfl
 |cons e r ih=>simp only[List.all_cons,List.any_cons,ih];cases p e<;>simp
theorem Lg{α β:Type}(a:List α)(b:List β)(good:α×β→Bool)(K:Bool→ab R)(hl:a.length<big)(hab:a.length=b.length)(G:Nat→Int→ab R)(hG:∀(n:Nat)(i:Int) e,0≤i→i<a.length→decide (i<((a.length:Nat):Int))=true→at? a i=some e.1→at? b i=some e.2→e∈a.zip b→G (n+1) i=if(!good e)=true then K false else G n (IntKind.wrap .i64 (i+1)))(h0:∀(n:Nat)(i:Int),decide (i<((a.length:Nat):Int))=false→G (n+1) i=K true)(N:Nat)(hN:a.length<N):G N 0=K ((a.zip b).all good):=by
 have hz:(a.zip b).length=a.length:=by simp[hab]
 have:=search (l:=a.zip b) (fun e => !good e) (fun j=>K (!decide (j≥0))) (by omega) G (fun n i e q0 q1 q2 q3 q4=>?_) (fun n i h=>?_) N (by omega)
 ·rw[this,bG,SG]
 ·rw[hz]at q1 q2
  have q3':=YG q3
  rw[hG n i e q0 q1 q2 q3'.1 q3'.2 (List.mem_of_getElem? q4)]
  split
  ·simp[q0]
  ·rfl
 ·rw[hz]at h
  rw[h0 n i h]
  simp
theorem Vt(s b:List ae)(k:Bool→ab R)(hN:big≤N)(hs:s.length<big)(hb:b.length<big):eD N s b k=k (s.any fun e => !b.any fun y=>e==y):=by
 unfold eD jG
 have:=search (fun e => !b.any fun y=>e==y) (fun r1=>k (decide (r1≥0))) hs (fun n i=>cl N s ((s.length:Nat):Int) b (k (decide (((-1:Int))≥0))) (fun y=>k (decide (y≥0))) n i) (fun n i e h0 h1 h2 h3 h4=>?_) (fun n i h=>?_) N (by omega)
 ·rw[← bG];exact this
 ·simp only[cl,dQ,h2,h3,if_true,Option.bind_some]
  unfold tH
  rw[yx _ _ _ hN hb]
 ·simp only[cl,dQ,h]
  rfl
theorem QE(a b:List ae)(k:Bool→ab R)(hN:big≤N)(hs:a.length<big)(hb:b.length<big):rT N a b k=k (yA a b):=by
 unfold rT
 simp only[Vt _ _ _ hN hs hb,aD,Option.bind_some]
 rfl
theorem YI(a b:List (List ae))(k:Bool→ab R)(hN:big≤N)(ha:DH a)(hb:DH b):fb N a b k=k (SE a b):=by
 have hbig:big=1000000000:=rfl
 have hB:B=16386:=rfl
 unfold fb SE
 by_cases h:a.length=b.length
 ·have h':((((a.length:Nat):Int) != ((b.length:Nat):Int)))=false:=by simp[h]
  simp only[h',Bool.false_eq_true,if_false]
  rw[decide_eq_true h,Bool.true_and]
  have h1:=ha.1
  refine Lg a b (fun p=>yA p.1 p.2) k (by omega) h (fun n i=>bP N b a ((a.length:Nat):Int) (k true) (fun y=>k y) n i) (fun n i e h0 h1 h2 h3 h4 h5=>?_) (fun n i h=>?_) N (by omega)
  ·simp only[bP,dh,h2,h3,h4,if_true,Option.bind_some]
   have e1:=ha.2 e.1 (List.of_mem_zip h5).1
   have e2:=hb.2 e.2 (List.of_mem_zip h5).2
   rw[QE _ _ _ hN (by omega) (by omega)]
  ·simp only[bP,dh,h]
   rfl
 ·have h':((((a.length:Nat):Int) != ((b.length:Nat):Int)))=true:=by simp;omega
  simp only[h',if_true]
  rw[decide_eq_false h,Bool.false_and]
theorem YJ(a b:List ae)(k:Bool→ab R)(hN:big≤N)(ha:a.length<big):jA N a b k=k (GV a b):=by
 have hbig:big=1000000000:=rfl
 unfold jA GV
 by_cases h:a.length=b.length
 ·have h':((((a.length:Nat):Int) != ((b.length:Nat):Int)))=false:=by simp[h]
  simp only[h',Bool.false_eq_true,if_false]
  rw[decide_eq_true h,Bool.true_and]
  refine Lg a b (fun p=>p.1==p.2) k (by omega) h (fun n i=>di N a b ((a.length:Nat):Int) (k true) (fun y=>k y) n i) (fun n i e h0 h1 h2 h3 h4 h5=>?_) (fun n i h=>?_) N (by omega)
  ·simp only[di,fB,h2,h3,h4,if_true,Option.bind_some]
  ·simp only[di,fB,h]
   rfl
 ·have h':((((a.length:Nat):Int) != ((b.length:Nat):Int)))=true:=by simp;omega
  simp only[h',if_true]
  rw[decide_eq_false h,Bool.false_and]
theorem YK(a b:List (List ae))(k:Bool→ab R)(hN:big≤N)(ha:DH a):ed N a b k=k (SF a b):=by
 have hbig:big=1000000000:=rfl
 have hB:B=16386:=rfl
 unfold ed SF
 by_cases h:a.length=b.length
 ·have h':((((a.length:Nat):Int) != ((b.length:Nat):Int)))=false:=by simp[h]
  simp only[h',Bool.false_eq_true,if_false]
  rw[decide_eq_true h,Bool.true_and]
  have h1:=ha.1
  refine Lg a b (fun p=>GV p.1 p.2) k (by omega) h (fun n i=>bE N b a ((a.length:Nat):Int) (k true) (fun y=>k y) n i) (fun n i e h0 h1 h2 h3 h4 h5=>?_) (fun n i h=>?_) N (by omega)
  ·simp only[bE,cQ,h2,h3,h4,if_true,Option.bind_some]
   have e1:=ha.2 e.1 (List.of_mem_zip h5).1
   rw[YJ _ _ _ hN (by omega)]
  ·simp only[bE,cQ,h]
   rfl
 ·have h':((((a.length:Nat):Int) != ((b.length:Nat):Int)))=true:=by simp;omega
  simp only[h',if_true]
  rw[decide_eq_false h,Bool.false_and]
theorem NU(s:List Cell)(c:Cell)(k:Bool→ab R)(hN:big≤N)(hs:s.length<big)(hc:vb c)(hcs:∀y∈s,vb y):fC N s c.Rank c.Sets c.Msgs c.At k=k (s.any fun y=>AZ c y):=by
 unfold fC lA
 have:=search (fun y=>AZ c y) (fun r1=>k (decide (r1≥0))) hs (fun n i=>cJ N s ((s.length:Nat):Int) c.Rank c.Sets c.Msgs c.At (k (decide (((-1:Int))≥0))) (fun y=>k (decide (y≥0))) n i) (fun n i e h0 h1 h2 h3 h4=>?_) (fun n i h=>?_) N (by omega)
 ·rw[← bG];exact this
 ·have he:=hcs e (List.mem_of_getElem? h4)
  simp only[cJ,eE,h2,h3,if_true,Option.bind_some]
  unfold mu BI
  rw[YI _ _ _ hN hc.1 he.1]
  simp only[YK _ _ _ hN hc.2,aD,Option.bind_some]
  rfl
 ·simp only[cJ,eE,h]
  rfl
theorem ET{Cs:List Chart}{Is:List Inst}{P:Chart→Prop}(h0:P c0)(h:∀c∈Cs,P c)(n:ae):P ((db Cs Is n).getD c0):=by
 cases hq:db Cs Is n with
 |none=>exact h0
 |some c=>
  unfold db at hq
  obtain⟨i,_,h2⟩:=Option.bind_eq_some_iff.1 hq
  exact h c (List.mem_of_find?_eq_some h2)
theorem Vu:Jm c0:=by
 refine⟨⟨?_,?_,?_⟩,?_⟩<;>simp[c0,aV]
theorem Xy(x:Cert)(c:Cell)(A:Int)(Cs:List Chart)(Is:List Inst)(Hs:List ak)(Es:List Cert)(C At:Int)(k:Bool→ab R)(hN:big≤N)(hc:Cs.length<big)(hi:Is.length<big)(hh:Hs.length<big)(hcs:∀c∈Cs,Jm c)(hcell:vb c):
  km N x.Name x.Inst x.Req x.Resp x.Insts x.Chans x.Cells x.At c.Rank c.Sets c.Msgs c.At A Cs Is Hs Es C At k=k (wZ Cs Is Hs x c):=by
 have hbig:big=1000000000:=rfl
 have hB:B=16386:=rfl
 unfold km wZ
 simp only[bm,Option.bind_some]
 by_cases h1:c.Sets.length=x.Insts.length
 ·by_cases h2:c.Msgs.length=x.Chans.length
  ·have e1:(((((c.Sets.length:Nat):Int) != ((x.Insts.length:Nat):Int)))||((((c.Msgs.length:Nat):Int) != ((x.Chans.length:Nat):Int))))=false:=by simp[h1,h2]
   simp only[e1,Bool.false_eq_true,if_false]
   rw[decide_eq_true h1,decide_eq_true h2,Bool.true_and,Bool.true_and]
   have l1:=hcell.1.1;have l2:=hcell.2.1
   have hm:∀kk:Bool→ab R,bI N c.Msgs ((c.Msgs.length:Nat):Int) A Cs Is Hs Es C At x.Name x.Inst x.Req x.Resp x.Insts x.Chans x.Cells x.At (kk true) (fun y=>kk y) N 0=kk (MC Hs x c):=by
    intro kk
    refine Lg c.Msgs x.Chans (fun p=>match Hs.find? fun e=>e.Name==p.2 with
 |some h=>decide (((p.1.length:Nat):Int)≤h.Cap)
 |none=>false) kk (by omega) h2 (fun n i=>bI N c.Msgs ((c.Msgs.length:Nat):Int) A Cs Is Hs Es C At x.Name x.Inst x.Req x.Resp x.Insts x.Chans x.Cells x.At (kk true) (fun y=>kk y) n i) (fun n i e h0 h1 h2 h3 h4 h5=>?_) (fun n i h=>?_) N (by omega)
    ·simp only[bI,gn,h2,h3,h4,if_true,Option.bind_some]
     unfold gz
     rw[GR _ _ _ hN hh]
     by_cases hq:idx (fun y=>y.Name==e.2) Hs<0
     ·simp only[hq,decide_true,uH hq,bm,Bool.true_or,Option.bind_some]
      simp[ifB]
     ·obtain⟨y,y1,y2⟩:=tW hq
      simp only[hq,decide_false,y1,y2,bm,Bool.false_or,Option.bind_some]
      congr 1
      simp
    ·simp only[bI,gn,h]
     rfl
   have hs:=Lg c.Sets x.Insts (fun p=>(decide (((p.1.length:Nat):Int)>0) && !oA ((db Cs Is p.2).getD c0).States p.1)==false) (fun b=>if b=true then bI N c.Msgs ((c.Msgs.length:Nat):Int) A Cs Is Hs Es C At x.Name x.Inst x.Req x.Resp x.Insts x.Chans x.Cells x.At (k true) (fun y=>k y) N 0 else k false) (by omega) h1 (fun n i=>dA N c.Sets ((c.Sets.length:Nat):Int) A Cs Is Hs Es C At x.Name x.Inst x.Req x.Resp x.Insts x.Chans x.Cells x.At c.Rank c.Sets c.Msgs c.At (bI N c.Msgs ((c.Msgs.length:Nat):Int) A Cs Is Hs Es C At x.Name x.Inst x.Req x.Resp x.Insts x.Chans x.Cells x.At (k true) (fun y=>k y) N 0) (fun y=>k y) n i) (fun n i e h0 h1 h2 h3 h4 h5=>?_) (fun n i h=>?_) N (by omega)
   ·refine Eq.trans hs ?_
    unfold GW
    cases hz:(c.Sets.zip x.Insts).all (fun p=>(decide (((p.1.length:Nat):Int)>0) && !oA ((db Cs Is p.2).getD c0).States p.1)==false) with
    |true=>simp only[if_true,Bool.true_and];exact hm k
    |false=>simp
   ·have e1:=hcell.1.2 e.1 (List.of_mem_zip h5).1
    have hst:aV ((db Cs Is e.2).getD c0).States<20000:=(ET Vu hcs e.2).2
    simp only[dA,gm,h2,h3,h4,if_true,Option.bind_some]
    simp only[uW _ _ _ _ _ _ _ _ _ hN hc hi,TG e.1 hN (by omega) _ _ hst,aD,Option.bind_some]
    cases(decide (((e.1.length:Nat):Int)>0) && !oA ((db Cs Is e.2).getD c0).States e.1)<;>rfl
   ·simp only[dA,gm,h]
    rfl
  ·have e1:(((((c.Sets.length:Nat):Int) != ((x.Insts.length:Nat):Int)))||((((c.Msgs.length:Nat):Int) != ((x.Chans.length:Nat):Int))))=true:=by
    simp;omega
   simp only[e1,if_true]
   rw[decide_eq_false h2];simp
 ·have e1:(((((c.Sets.length:Nat):Int) != ((x.Insts.length:Nat):Int)))||((((c.Msgs.length:Nat):Int) != ((x.Chans.length:Nat):Int))))=true:=by
   simp;omega
  simp only[e1,if_true]
  rw[decide_eq_false h1];simp
end
def MD(Cs:List Chart)(Is:List Inst)(a:Int)(pre:List ae)(n:ae):Flt:=orF (chk (db Cs Is n).isSome 7 a) (orF (chk (!pre.any fun e=>n==e) 8 a) (chk (!(flL ((db Cs Is n).getD c0).States).any isH) 17 a))
def TH(Cs:List Chart)(Is:List Inst)(x:Cert):Flt:=chk ((x.Insts.any fun e=>x.Inst==e)&&(flL ((db Cs Is x.Inst).getD c0).States).any (fun e=>e.Name==x.Req)&&(flL ((db Cs Is x.Inst).getD c0).States).any (fun e=>e.Name==x.Resp)) 7 x.At
def Iz(Hs:List ak)(x:Cert)(pre:List ae)(n:ae):Flt:=orF (chk (Hs.any fun e=>e.Name==n) 7 x.At) (orF (chk (!pre.any fun e=>n==e) 8 x.At) (match Hs.find? fun e=>e.Name==n with
 |some h=>chk ((x.Insts.any fun e=>h.From==e)&&x.Insts.any fun e=>h.To==e) 17 x.At
 |none=>(0,0)))
def su(Cs:List Chart)(Is:List Inst)(Hs:List ak)(x:Cert)(pre:List Cell)(c:Cell):Flt:=orF (chk (decide (c.Rank≥0)&&decide (c.Rank≤64)) 16 c.At) (orF (chk (wZ Cs Is Hs x c) 18 c.At) (chk (!pre.any fun y=>AZ c y) 8 c.At))
def LU(Cs:List Chart)(Is:List Inst)(Hs:List ak)(x:Cert):Flt:=orF (gP (MD Cs Is x.At) [] x.Insts) (orF (TH Cs Is x) (orF (chk (!(x.Req==x.Resp)) 17 x.At) (orF (gP (Iz Hs x) [] x.Chans) (gP (su Cs Is Hs x) [] x.Cells))))
section
variable{R:Type}{N:Nat}
theorem Xz(x:Cert)(A:Int)(Cs:List Chart)(Is:List Inst)(Hs:List ak)(Es:List Cert)(C At:Int)(k:Int→Int→ab R)(hN:big≤N)(hc:Cs.length<big)(hi:Is.length<big)(hh:Hs.length<big)(hcs:∀c∈Cs,Jm c)(hx:Bh x):
  ko N x.Name x.Inst x.Req x.Resp x.Insts x.Chans x.Cells x.At A Cs Is Hs Es C At k=kf k (orF (C,At) (LU Cs Is Hs x)):=by
 have hbig:big=1000000000:=rfl
 have hB:B=16386:=rfl
 obtain⟨x1,x2,x3,x4⟩:=hx
 have hst:∀n,aV ((db Cs Is n).getD c0).States<20000:=fun n=>(ET Vu hcs n).2
 have hfl:∀n,(flL ((db Cs Is n).getD c0).States).length<big:=fun n=>by
  obtain⟨_,h,_⟩:=MB ((db Cs Is n).getD c0).States
  have:=hst n;omega
 -- cells
 have cells:∀f:Flt,cO N x.Cells ((x.Cells.length:Nat):Int) A Cs Is Hs Es x.Name x.Inst x.Req x.Resp x.Insts x.Chans x.Cells x.At (fun y z=>k y z) N 0 f.1 f.2=kf k (orF f (gP (su Cs Is Hs x) [] x.Cells)):=by
  intro f
  have:=pP (fun pre c a=>orF a (su Cs Is Hs x pre c)) (kf k) (l:=x.Cells) (by omega) (fun n i (a:Flt)=>cO N x.Cells ((x.Cells.length:Nat):Int) A Cs Is Hs Es x.Name x.Inst x.Req x.Resp x.Insts x.Chans x.Cells x.At (fun y z=>k y z) n i a.1 a.2) (fun n pre c rest a h h1 h2=>?_) (fun n a=>?_) x.Cells [] f N rfl (by omega)
  ·rw[kZ]at this
   exact this
  ·have hp:pre.length≤x.Cells.length:=by rw[h];simp
   have hcm:c∈x.Cells:=by rw[h];simp
   simp only[cO,gr,h1,h2,if_true,Option.bind_some]
   rw[yw,bz _ _ _ _ _ _ _ _ _ _ (by decide),bq,Xy x c A Cs Is Hs Es _ _ _ hN hc hi hh hcs (x4 c hcm),bz _ _ _ _ _ _ _ _ _ _ (by decide),bq,if_pos (g01 hp),kL h,NU _ _ _ hN (by omega) (x4 c hcm) (fun y hy=>x4 y (by rw[h];exact List.mem_append_left _ hy)),bz _ _ _ _ _ _ _ _ _ _ (by decide),bq]
   unfold su
   simp only[Prod.eta,aW]
  ·simp only[cO,gr]
   simp[kf]
 have chans:∀f:Flt,cN N x.Chans ((x.Chans.length:Nat):Int) A Cs Is Hs Es x.Name x.Inst x.Req x.Resp x.Insts x.Chans x.Cells x.At (fun(y121:Int)(y122:Int)=>
   eF N A Cs Is Hs Es y121 y122 x.Name x.Inst x.Req x.Resp x.Insts x.Chans x.Cells x.At (k y121 y122) (fun y z=>k y z)) N 0 f.1 f.2=kf k (orF (orF f (gP (Iz Hs x) [] x.Chans)) (gP (su Cs Is Hs x) [] x.Cells)):=by
  intro f
  have:=pP (fun pre c a=>orF a (Iz Hs x pre c)) (fun a:Flt=>kf k (orF a (gP (su Cs Is Hs x) [] x.Cells))) (l:=x.Chans) (by omega) (fun n i (a:Flt)=>cN N x.Chans ((x.Chans.length:Nat):Int) A Cs Is Hs Es x.Name x.Inst x.Req x.Resp x.Insts x.Chans x.Cells x.At (fun(y121:Int)(y122:Int)=>
   eF N A Cs Is Hs Es y121 y122 x.Name x.Inst x.Req x.Resp x.Insts x.Chans x.Cells x.At (k y121 y122) (fun y z=>k y z)) n i a.1 a.2) (fun n pre c rest a h h1 h2=>?_) (fun n a=>?_) x.Chans [] f N rfl (by omega)
  ·rw[kZ]at this
   exact this
  ·have hp:pre.length≤x.Chans.length:=by rw[h];simp
   simp only[cN,gq,h1,h2,if_true,Option.bind_some]
   unfold gz
   rw[GR _ _ _ hN hh]
   dsimp only
   rw[bz _ _ _ _ _ _ _ _ _ _ (by decide),bq,if_pos (g01 hp),kL h,yx _ _ _ hN (by omega),bz _ _ _ _ _ _ _ _ _ _ (by decide),bq]
   unfold Iz
   by_cases hq:idx (fun y=>y.Name==c) Hs<0
   ·have hq':¬idx (fun y=>y.Name==c) Hs≥0:=by omega
    simp only[bG,uH hq,oa,Prod.eta,aW]
    have ha:(Hs.any fun y=>y.Name==c)=false:=by rw[← bG];simp[hq']
    rw[ha]
    simp
   ·have hq':idx (fun y=>y.Name==c) Hs≥0:=by omega
    obtain⟨y,y1,y2⟩:=tW hq
    have ha:(Hs.any fun y=>y.Name==c)=true:=by rw[← bG];simp[hq']
    simp only[bG,ha,y1,y2,if_true,Option.bind_some]
    rw[yx _ _ _ hN (by omega)]
    simp only[yx _ _ _ hN (show x.Insts.length<big by omega),aD,Option.bind_some]
    rw[bz _ _ _ _ _ _ _ _ _ _ (by decide),bq]
    simp only[Prod.eta,aW]
  ·simp only[cN,gq]
   simp only[Int.lt_irrefl,decide_false,Bool.false_eq_true,if_false]
   unfold eF
   by_cases hz:a.1=0
   ·have:(a.1 != 0)=false:=by simp[hz]
    simp only[this,Bool.false_eq_true,if_false]
    exact cells a
   ·have:(a.1 != 0)=true:=by simp[hz]
    simp only[this,if_true]
    rw[aU _ hz];rfl
 have mems:=pP (fun pre n a=>orF a (MD Cs Is x.At pre n)) (fun a:Flt=>kf k (orF a (orF (TH Cs Is x) (orF (chk (!(x.Req==x.Resp)) 17 x.At) (orF (gP (Iz Hs x) [] x.Chans) (gP (su Cs Is Hs x) [] x.Cells)))))) (l:=x.Insts) (by omega) (fun n i (a:Flt)=>dB N x.Insts ((x.Insts.length:Nat):Int) A Cs Is Hs Es x.Name x.Inst x.Req x.Resp x.Insts x.Chans x.Cells x.At (fun(y38:Int)(y39:Int)=>
 iI N A Cs Is Hs Es y38 y39 x.Name x.Inst x.Req x.Resp x.Insts x.Chans x.Cells x.At (fun(y174:Int)(y175:Int)=>
  k y174 y175)
   (fun(y176:Int)(y177:Int)=>
  k y176 y177)) n i a.1 a.2) (fun n pre c rest a h h1 h2=>?_) (fun n a=>?_) x.Insts [] (C,At) N rfl (by omega)
 ·unfold ko
  refine Eq.trans mems ?_
  rw[kZ]
  unfold LU
  simp only[aW]
 ·have hp:pre.length≤x.Insts.length:=by rw[h];simp
  simp only[dB,gp,h1,h2,if_true,Option.bind_some]
  simp only[uW _ _ _ _ _ _ _ _ _ hN hc hi]
  rw[bz _ _ _ _ _ _ _ _ _ _ (by decide),bq,if_pos (g01 hp),kL h,yx _ _ _ hN (by omega),bz _ _ _ _ _ _ _ _ _ _ (by decide),bq,SD hN _ _ (hst c),Vh _ _ hN (hfl c),bz _ _ _ _ _ _ _ _ _ _ (by decide),bq]
  unfold MD
  simp only[Prod.eta,aW]
 ·simp only[dB,gp]
  simp only[Int.lt_irrefl,decide_false,Bool.false_eq_true,if_false]
  unfold iI
  simp only[uW _ _ _ _ _ _ _ _ _ hN hc hi]
  rw[SD hN _ _ (hst x.Inst),yx _ _ _ hN (by omega)]
  unfold jd oY
  simp only[NS _ _ _ hN (hfl x.Inst),bG,aD,Option.bind_some]
  rw[bz _ _ _ _ _ _ _ _ _ _ (by decide),bq]
  unfold kn
  rw[bz _ _ _ _ _ _ _ _ _ _ (by decide),bq]
  refine Eq.trans (chans _) ?_
  unfold TH
  simp only[Prod.eta,aW]
end
def chartG(pre:List Chart)(c:Chart):Flt:=orF (chk (!pre.any fun e=>e.Name==c.Name) 8 c.At) (chF c)
def Ba(Cs:List Chart)(Is:List Inst)(Hs:List ak)(pre:List Cert)(x:Cert):Flt:=orF (chk (!pre.any fun e=>e.Name==x.Name) 8 x.At) (LU Cs Is Hs x)
def XA(s:System):Flt:=orF (chk (decide (s.Age≥1)&&decide (s.Age≤65536)) 16 0) (orF (chk (decide (((s.Insts.length:Nat):Int)>0)) 7 0) (orF (gP chartG [] s.Charts) (orF (gP (Av s.Charts) [] s.Insts) (orF (gP (Aw s.Charts s.Insts) [] s.Chans) (orF (gP (fun _ x=>wY s.Charts s.Insts s.Chans x) [] s.Insts) (gP (Ba s.Charts s.Insts s.Chans) [] s.Certs))))))
theorem IB.to{c:Chart}(h:IB c):Jm c:=⟨⟨h.1,h.2.1,h.2.2.1⟩,by have:=h.2.2.2.1;omega⟩
section
variable{R:Type}{N:Nat}
theorem sv(m:Int)(pre:List ai)(e:ai):Nf (nJ m pre e):=av (aT _ _ (by decide)) (aT _ _ (by decide))
theorem oB(P:Pr):∀l,Nf (yy P l):=by
 intro l
 exact Expr.rec_1 (motive_1:=fun e=>Nf (exF P e)) (motive_2:=fun l=>Nf (yy P l)) (fun k n s es a ih=>by simp only[exF];exact av (aT _ _ (by decide)) ih) (by simp only[yy];exact wV) (fun e r h1 h2=>by simp only[yy];exact av h1 h2) l
theorem ej(P:Pr):∀l,Nf (lr P l):=by
 intro l
 exact Act.rec_1 (motive_1:=fun e=>Nf (acF P e)) (motive_2:=fun l=>Nf (lr P l)) (fun k n s es x t e a ih1 ih2=>by simp only[acF];exact av (aT _ _ (by decide)) (av (aT _ _ (by decide)) (av (oB P _) (av ih1 ih2)))) (by simp only[lr];exact wV) (fun e r h1 h2=>by simp only[lr];exact av h1 h2) l
theorem QF(P:Pr)(n:Int)(t:Trans):Nf (trF P n t):=av (aT _ _ (by decide)) (av (aT _ _ (by decide)) (av (oB P _) (ej P _)))
theorem Cr(P:Pr):∀(l:List Trans)(n:Int),Nf (CO P n l)
 | [],_=>wV
 |t::r,n=>av (QF P _ t) (Cr P r _)
theorem xG(P:Pr):∀(l:List State)(n:Int),Nf (inF P n l)
 | [],_=>wV
 |s::r,n=>by
  unfold inF
  split
  ·exact xG P r n
  ·exact av (ej P _) (av (ej P _) (av (Cr P _ _) (xG P r _)))
theorem XB(top:Bool)(out:List State)(s:State):Nf (iV top out s):=av (aT _ _ (by decide)) (av (aT _ _ (by decide)) (aT _ _ (by decide)))
theorem xH:∀(l:List State)(top:Bool)(out:List State),Nf (trL top out l):=by
 intro l
 exact State.rec_1 (motive_1:=fun s=>∀(top:Bool)(out:List State),Nf (tr1 top out s)) (motive_2:=fun l=>∀(top:Bool)(out:List State),Nf (trL top out l)) (fun k n en ex tr kids a ih top out=>by rw[DE];exact av (XB _ _ _) (ih _ _)) (fun top out=>by simp only[trL];exact wV) (fun s r h1 h2 top out=>by simp only[trL];exact av (h1 _ _) (h2 _ _)) l
theorem TI(c:Chart):Nf (AW c):=av (aT _ _ (by decide)) (av (aT _ _ (by decide)) (av (fW (sv _) _ _) (av (fW (sv _) _ _) (fW (sv _) _ _))))
theorem Vv(c:Chart):Nf (chF c):=av (TI c) (av (xH _ _ _) (xG _ _ _))
theorem GX(pre:List Chart)(c:Chart):Nf (chartG pre c):=av (aT _ _ (by decide)) (Vv c)
theorem EU(Cs:List Chart)(pre:List Inst)(x:Inst):Nf (Av Cs pre x):=av (aT _ _ (by decide)) (av (aT _ _ (by decide)) (aT _ _ (by decide)))
theorem EV(Cs:List Chart)(Is:List Inst)(pre:List ak)(x:ak):Nf (Aw Cs Is pre x):=av (aT _ _ (by decide)) (av (aT _ _ (by decide)) (av (aT _ _ (by decide)) (aT _ _ (by decide))))
theorem Bb(Cs:List Chart)(Is:List Inst)(Hs:List ak)(x:Inst):Nf (wY Cs Is Hs x):=fW (fun _ _=>aT _ _ (by decide)) _ _
theorem IQ(Cs:List Chart)(Is:List Inst)(a:Int)(pre:List ae)(n:ae):Nf (MD Cs Is a pre n):=av (aT _ _ (by decide)) (av (aT _ _ (by decide)) (aT _ _ (by decide)))
theorem ME(Cs:List Chart)(Is:List Inst)(x:Cert):Nf (TH Cs Is x):=aT _ _ (by decide)
theorem Cu(Hs:List ak)(x:Cert)(pre:List ae)(n:ae):Nf (Iz Hs x pre n):=by
 refine av (aT _ _ (by decide)) (av (aT _ _ (by decide)) ?_)
 split
 ·exact aT _ _ (by decide)
 ·exact wV
theorem Jn(Cs:List Chart)(Is:List Inst)(Hs:List ak)(x:Cert)(pre:List Cell)(c:Cell):Nf (su Cs Is Hs x pre c):=av (aT _ _ (by decide)) (av (aT _ _ (by decide)) (aT _ _ (by decide)))
theorem NV(Cs:List Chart)(Is:List Inst)(Hs:List ak)(x:Cert):Nf (LU Cs Is Hs x):=av (fW (IQ _ _ _) _ _) (av (ME _ _ _) (av (aT _ _ (by decide)) (av (fW (Cu _ _) _ _) (fW (Jn _ _ _ _) _ _))))
theorem EW(Cs:List Chart)(Is:List Inst)(Hs:List ak)(pre:List Cert)(x:Cert):Nf (Ba Cs Is Hs pre x):=av (aT _ _ (by decide)) (NV _ _ _ _)
theorem Vw(s:System)(k:Int→Int→ab R)(hN:big≤N)(hs:Wc s):sound_Check N s.Age s.Charts s.Insts s.Chans s.Certs k=kf k (XA s):=by
 have hbig:big=1000000000:=rfl
 have hB:B=16386:=rfl
 obtain⟨A,Cs,Is,Hs,Es⟩:=s
 obtain⟨b1,b2,b3,b4,b5,b6⟩:=hs
 simp only at b1 b2 b3 b4 b5 b6
 have hcs:∀c∈Cs,Jm c:=fun c h=>(b5 c h).to
 have hc:Cs.length<big:=by omega
 have hi:Is.length<big:=by omega
 have hh:Hs.length<big:=by omega
 have he:Es.length<big:=by omega
 unfold sound_Check
 simp only[aD,Option.bind_some]
 rw[bz _ _ _ _ _ _ _ _ _ _ (by decide),bq,bz _ _ _ _ _ _ _ _ _ _ (by decide),bq]
 have l8:=pP (fun pre x a=>orF a (Ba Cs Is Hs pre x)) (kf k) he (fun n i (a:Flt)=>dF N Es ((Es.length:Nat):Int) A Cs Is Hs Es 0 0 A Cs Is Hs Es (fun y z=>k y z) n i a.1 a.2) (fun n pre x rest a h h1 h2=>?_) (fun n a=>?_) Es []
 have l6:=pP (fun pre x a=>orF a (wY Cs Is Hs x)) (fun f:Flt=>kf k (orF f (gP (Ba Cs Is Hs) [] Es))) hi (fun n i (a:Flt)=>eG N Is ((Is.length:Nat):Int) A Cs Is Hs Es 0 0 A Cs Is Hs Es (fun(y95:Int)(y96:Int)=>
 dF N Es ((Es.length:Nat):Int) A Cs Is Hs Es 0 0 A Cs Is Hs Es (fun y z=>k y z) N 0 y95 y96) n i a.1 a.2) (fun n pre x rest a h h1 h2=>?_) (fun n a=>?_) Is []
 have l4:=pP (fun pre x a=>orF a (Aw Cs Is pre x)) (fun f:Flt=>kf k (orF (orF f (gP (fun _ x=>wY Cs Is Hs x) [] Is)) (gP (Ba Cs Is Hs) [] Es))) hh (fun n i (a:Flt)=>fM N Hs ((Hs.length:Nat):Int) A Cs Is Hs Es 0 0 A Cs Is Hs Es (fun(y73:Int)(y74:Int)=>
 eG N Is ((Is.length:Nat):Int) A Cs Is Hs Es 0 0 A Cs Is Hs Es (fun(y95:Int)(y96:Int)=>
 dF N Es ((Es.length:Nat):Int) A Cs Is Hs Es 0 0 A Cs Is Hs Es (fun y z=>k y z) N 0 y95 y96) N 0 y73 y74) n i a.1 a.2) (fun n pre x rest a h h1 h2=>?_) (fun n a=>?_) Hs []
 have l2:=pP (fun pre x a=>orF a (Av Cs pre x)) (fun f:Flt=>kf k (orF (orF (orF f (gP (Aw Cs Is) [] Hs)) (gP (fun _ x=>wY Cs Is Hs x) [] Is)) (gP (Ba Cs Is Hs) [] Es))) hi (fun n i (a:Flt)=>iv N Is ((Is.length:Nat):Int) A Cs Is Hs Es 0 0 A Cs Is Hs Es (fun(y51:Int)(y52:Int)=>
 fM N Hs ((Hs.length:Nat):Int) A Cs Is Hs Es 0 0 A Cs Is Hs Es (fun(y73:Int)(y74:Int)=>
 eG N Is ((Is.length:Nat):Int) A Cs Is Hs Es 0 0 A Cs Is Hs Es (fun(y95:Int)(y96:Int)=>
 dF N Es ((Es.length:Nat):Int) A Cs Is Hs Es 0 0 A Cs Is Hs Es (fun y z=>k y z) N 0 y95 y96) N 0 y73 y74) N 0 y51 y52) n i a.1 a.2) (fun n pre x rest a h h1 h2=>?_) (fun n a=>?_) Is []
 have l0:=pP (fun pre x a=>orF a (chartG pre x)) (fun f:Flt=>kf k (orF (orF (orF (orF f (gP (Av Cs) [] Is)) (gP (Aw Cs Is) [] Hs)) (gP (fun _ x=>wY Cs Is Hs x) [] Is)) (gP (Ba Cs Is Hs) [] Es))) hc (fun n i (a:Flt)=>jH N Cs ((Cs.length:Nat):Int) A Cs Is Hs Es 0 0 A Cs Is Hs Es (fun(y29:Int)(y30:Int)=>
 iv N Is ((Is.length:Nat):Int) A Cs Is Hs Es 0 0 A Cs Is Hs Es (fun(y51:Int)(y52:Int)=>
 fM N Hs ((Hs.length:Nat):Int) A Cs Is Hs Es 0 0 A Cs Is Hs Es (fun(y73:Int)(y74:Int)=>
 eG N Is ((Is.length:Nat):Int) A Cs Is Hs Es 0 0 A Cs Is Hs Es (fun(y95:Int)(y96:Int)=>
 dF N Es ((Es.length:Nat):Int) A Cs Is Hs Es 0 0 A Cs Is Hs Es (fun y z=>k y z) N 0 y95 y96) N 0 y73 y74) N 0 y51 y52) N 0 y29 y30) n i a.1 a.2) (fun n pre x rest a h h1 h2=>?_) (fun n a=>?_) Cs []
 ·have:=l0 (orF (orF (0,0) (chk (decide (A≥1)&&decide (A≤65536)) 16 0)) (chk (decide (((Is.length:Nat):Int)>0)) 7 0)) N rfl (by omega)
  rw[kZ]at this
  refine Eq.trans this ?_
  unfold XA
  simp only[aW]
  rw[aS]
  exact av (aT _ _ (by decide)) (av (aT _ _ (by decide)) (av (fW GX _ _) (av (fW (EU _) _ _) (av (fW (EV _ _) _ _) (av (fW (fun _ x=>Bb _ _ _ x) _ _) (fW (EW _ _ _) _ _))))))
 ·have hp:pre.length≤Cs.length:=by rw[h];simp
  have hm:x∈Cs:=by rw[h];simp
  simp only[jH,mS,h1,h2,if_true,Option.bind_some]
  rw[if_pos (g01 hp),kL h,Qw _ _ _ hN (by omega),bz _ _ _ _ _ _ _ _ _ _ (by decide),bq,Vr x A Cs Is Hs Es hN (hcs x hm),bq]
  unfold chartG
  simp only[Prod.eta,aW]
 ·simp only[jH,mS]
  simp only[Int.lt_irrefl,decide_false,Bool.false_eq_true,if_false]
  have:=l2 a N rfl (by omega)
  rw[kZ]at this
  exact this
 ·simp only[iv,mT,h1,h2,if_true,Option.bind_some]
  rw[Xw pre x rest A Cs Is Hs Es _ _ _ hN hc hi h,bq]
 ·simp only[iv,mT]
  simp only[Int.lt_irrefl,decide_false,Bool.false_eq_true,if_false]
  have:=l4 a N rfl (by omega)
  rw[kZ]at this
  exact this
 ·simp only[fM,mU,h1,h2,if_true,Option.bind_some]
  rw[QA pre x rest A Cs Is Hs Es _ _ _ hN hc hi hh (fun c hc=>(hcs c hc).1) h,bq]
 ·simp only[fM,mU]
  simp only[Int.lt_irrefl,decide_false,Bool.false_eq_true,if_false]
  have:=l6 a N rfl (by omega)
  rw[kZ (fun _ x=>wY Cs Is Hs x)]at this
  exact this
 ·simp only[eG,mV,h1,h2,if_true,Option.bind_some]
  rw[TF x A Cs Is Hs Es _ _ _ hN hc hi hh (fun c hc=>(hcs c hc).1),bq]
 ·simp only[eG,mV]
  simp only[Int.lt_irrefl,decide_false,Bool.false_eq_true,if_false]
  have:=l8 a N rfl (by omega)
  rw[kZ]at this
  exact this
 ·have hp:pre.length≤Es.length:=by rw[h];simp
  have hm:x∈Es:=by rw[h];simp
  simp only[dF,mW,h1,h2,if_true,Option.bind_some]
  rw[if_pos (g01 hp),kL h,TB _ _ _ hN (by omega),bz _ _ _ _ _ _ _ _ _ _ (by decide),bq,Xz x A Cs Is Hs Es _ _ _ hN hc hi hh hcs (b6 x hm),bq]
  unfold Ba
  simp only[Prod.eta,aW]
 ·simp only[dF,mW]
  simp[kf]
end
end So
