/- The reference's check in plain words: names, states, acts. -/
import Derived.Test.YtcllbmdpckfnhaaGreatPE
set_option maxRecDepth 1000000
set_option linter.unusedVariables false
set_option linter.unusedSimpArgs false
namespace So
open Go TE Go.Proofs
section
variable{E R:Type}{l:List E}
theorem MF{A:Type}(f:List E→E→A→A)(Inv:List E→A→Prop)(K:A→ab R)(hl:l.length<big)(G:Nat→Int→A→ab R)(hG:∀n (pre:List E) e rest a,l=pre++e::rest→Inv pre a→decide (((pre.length:Nat):Int)<((l.length:Nat):Int))=true→at? l pre.length=some e→G (n+1) pre.length a=G n (IntKind.wrap .i64 (((pre.length:Nat):Int)+1)) (f pre e a)∧Inv (pre++[e]) (f pre e a))(h0:∀n a,Inv l a→G (n+1) l.length a=K a):∀(rest pre:List E)(a:A)(n:Nat),l=pre++rest→Inv pre a→rest.length<n→G n pre.length a=K (yu f pre rest a):=by
 have hb:big=1000000000:=rfl
 intro rest
 induction rest with
 |nil=>
  intro pre a n h hi hn
  obtain⟨n,rfl⟩:∃m,n=m+1:=⟨n-1,by omega⟩
  have:l=pre:=by simpa using h
  subst this
  rw[h0 _ _ hi];rfl
 |cons e r ih=>
  intro pre a n h hi hn
  obtain⟨n,rfl⟩:∃m,n=m+1:=⟨n-1,by omega⟩
  have hlen:l.length=pre.length+(r.length+1):=by rw[h];simp
  obtain⟨h1,h2⟩:=hG n pre e r a h hi (by simp;omega) (bU (by omega) (by rw[h];simp))
  rw[h1]
  rw[wr _ (by omega) (by omega),show((pre.length:Int)+1)=((pre++[e]).length:Int) by simp,ih (pre++[e]) _ n (by rw[h];simp) h2 (by simp at hn;omega)]
  rfl
theorem yB(g:List E→E→Flt)(hg:∀pre e,Nf (g pre e))(Inv:List E→Prop)(k:Int→Int→ab R)(hl:l.length<big)(G:Nat→Int→ab R)(hG:∀n (pre:List E) e rest,l=pre++e::rest→Inv pre→decide (((pre.length:Nat):Int)<((l.length:Nat):Int))=true→at? l pre.length=some e →
   G (n+1) pre.length=(if(g pre e).1=0 then G n (IntKind.wrap .i64 (((pre.length:Nat):Int)+1)) else kf k (g pre e))∧((g pre e).1=0→Inv (pre++[e])))(K0:ab R)(h0:∀n,decide (((l.length:Nat):Int)<((l.length:Nat):Int))=false→Inv l→G (n+1) l.length=K0)(hi:Inv [])(N:Nat)(hN:l.length<N):
  G N 0=(if(gP g [] l).1=0 then K0 else kf k (gP g [] l))∧((gP g [] l).1=0→Inv l):=by
 have:=ZE (fun pre e (_:Unit)=>(g pre e,())) (fun pre _=>Inv pre) (fun _=>K0) (fun f _=>kf k f) hl (fun n i _=>G n i) (fun n pre e rest a h hi h1 h2=>hG n pre e rest h hi h1 h2) (fun n a h hi=>h0 n h hi) l [] () N rfl hi hN
 rw[Vk hg]at this
 exact this
end
theorem br(c a:Int):chk true c a=(0,0):=rfl
theorem bb(c a:Int):chk false c a=(c,a):=rfl
theorem LV{R:Type}{k:Int→Int→ab R}{f:Flt}(h:Nf f):(if f.1=0 then k 0 0 else kf k f)=kf k f:=by
 split
 ·rename_i h0;rw[h h0];rfl
 ·rfl
section
variable{R:Type}{N:Nat}
theorem rm(l:List ai)(k:List ae→ab R)(hN:big≤N)(hl:(l.length:Int)≤16386):jI N l k=k (l.map (·.Name)):=by
 have hb:big=1000000000:=rfl
 unfold jI
 have:=MF (fun _ e (a:List ae)=>a++[e.Name]) (fun pre a=>a.length=pre.length) k (l:=l) (by omega) (fun n i a=>mX N l (fun y=>k y) n i a) (fun n pre e rest a h hi h1 h2=>⟨?_,by simp[hi]⟩) (fun n a hi=>?_) l [] [] N rfl rfl (by omega)
 ·rw[jR (fun(a:List ae)(e:ai)=>a++[e.Name])]at this
  refine Eq.trans this ?_
  congr 1
  have:∀(l:List ai)(a:List ae),l.foldl (fun a e=>a++[e.Name]) a=a++l.map (·.Name):=by
   intro l
   induction l with
   |nil=>intro a;simp
   |cons e r ih=>intro a;simp only[List.foldl_cons,ih,List.map_cons];simp
  simpa using this l []
 ·have:pre.length≤l.length:=by rw[h];simp
  simp only[mX,qi,h1,h2,if_true,Option.bind_some]
  rw[if_pos (by simp[ah];omega)]
 ·simp only[mX,qi]
  simp
theorem tX(l:List ai)(s:ae):(l.map (·.Name)).any (fun e=>e==s)=l.any fun e=>e.Name==s:=by
 rw[List.any_map];rfl
theorem GY(l:List ai)(most:Int)(k:Int→Int→ab R)(hN:big≤N)(hl:(l.length:Int)≤16386)(hm:0≤most):rD N l most k=kf k (gP (nJ most) [] l):=by
 have hb:big=1000000000:=rfl
 unfold rD
 have:=(yB (nJ most) (sv most) (fun pre=>(pre.length:Int)≤most) k (l:=l) (by omega) (fun n i=>mZ N l most 0 0 (k 0 0) (fun y z=>k y z) n i) (fun n pre e rest h hi h1 h2=>?_) (k 0 0) (fun n h hi=>?_) (by simpa using hm) N (by omega)).1
 ·rw[LV (fW (sv _) _ _)]at this
  exact this
 ·have hp:pre.length≤l.length:=by rw[h];simp
  have hpl:(pre.length:Int)≤16386:=by omega
  simp only[mZ,qj,h1,h2,if_true,Option.bind_some]
  by_cases hq:(pre.length:Int)=most
  ·have hq':(((pre.length:Nat):Int)==most)=true:=by simp[hq]
   have hd:decide (((pre.length:Nat):Int)<most)=false:=by simp;omega
   have hg:nJ most pre e=(15,e.At):=by
    unfold nJ
    rw[hd]
    simp[chk,orF]
   rw[if_pos hq',hg]
   simp[kf]
  ·have hq':¬(((pre.length:Nat):Int)==most)=true:=by simpa using hq
   have hd:decide (((pre.length:Nat):Int)<most)=true:=by simp;omega
   have hg:nJ most pre e=chk (!pre.any fun x=>x.Name==e.Name) 8 e.At:=by
    unfold nJ
    rw[hd]
    exact aS (aT _ _ (by decide))
   rw[if_neg hq',hg,if_pos (g01 hp),kL h,rm _ _ hN hpl,eM _ _ _ hN (by simp;omega),tX]
   cases hz:pre.any fun x=>x.Name==e.Name with
   |true=>simp[chk,kf]
   |false=>simp[chk];omega
 ·simp only[mZ,qj,h]
  simp
def prR(c:Chart)(names states:List ae):Pr:=⟨fun s=>c.Vars.any fun e=>e.Name==s,fun s=>c.Ports.any fun e=>e.Name==s,fun s=>c.Timers.any fun e=>e.Name==s,fun s=>states.any fun e=>e==s,fun s=>names.any fun e=>e==s⟩
theorem SH(P:Pr):∀(l pre:List Expr),gP (fun _ e=>exF P e) pre l=yy P l
 | [],_=>by simp[gP,yy]
 |e::r,pre=>by simp only[gP,yy];rw[SH P r]
theorem SI(P:Pr):∀(l pre:List Act),gP (fun _ e=>acF P e) pre l=lr P l
 | [],_=>by simp[gP,lr]
 |e::r,pre=>by simp only[gP,lr];rw[SI P r]
theorem YL(P:Pr)(e:Expr):Nf (exF P e):=by cases e;simp only[exF];exact av (aT _ _ (by decide)) (oB P _)
theorem YM(P:Pr)(e:Act):Nf (acF P e):=by
 cases e;simp only[acF]
 exact av (aT _ _ (by decide)) (av (aT _ _ (by decide)) (av (oB P _) (av (ej P _) (ej P _))))
theorem TJ(c:Chart)(names states:List ae)(tr:Int)(hN:big≤N)(hc:uU c)(hs:states.length<big):∀(d:Nat),
  (∀(R:Type)(l:List Expr)(k:Int→Int→ab R),2*ju l<d→ju l<big→(aO N d).r12_looking_exprs R l c.Name c.Steps c.Fuel c.Vars c.Ports c.Timers c.States c.At tr names states k=kf k (yy (prR c names states) l)) ∧
  (∀(R:Type)(e:Expr)(k:Int→Int→ab R),2*szE e-1<d→szE e<big→(aO N d).r12_looking_expr R e.Kind e.N e.Name e.Kids e.At c.Name c.Steps c.Fuel c.Vars c.Ports c.Timers c.States c.At tr names states k=kf k (exF (prR c names states) e)):=by
 have hb:big=1000000000:=rfl
 intro d
 induction d with
 |zero=>exact⟨fun R l k h=>by have:=ep l;omega,fun R e k h=>by have:=IP e;omega⟩
 |succ d ih=>
  refine⟨fun R l k hd hl=>?_,fun R e k hd hl=>?_⟩
  ·rw[BO]
   unfold gL
   have hll:=AX l
   have:=(yB (fun _ e=>exF (prR c names states) e) (fun _ e=>YL _ e) (fun _=>True) k (l:=l) (by omega) (fun n i=>dV (aO N d) N l c.Name c.Steps c.Fuel c.Vars c.Ports c.Timers c.States c.At tr names states 0 0 (k 0 0) (fun y z=>k y z) n i) (fun n pre e rest h hi h1 h2=>⟨?_,fun _=>trivial⟩) (k 0 0) (fun n h hi=>?_) trivial N (by omega)).1
   ·rw[SH,LV (oB _ _)]at this
    exact this
   ·have he:e∈l:=by rw[h];simp
    have:=AY he
    simp only[dV,gX,h1,h2,if_true,Option.bind_some]
    rw[ih.2 _ _ _ (by omega) (by omega),bq]
    by_cases hz:(exF (prR c names states) e).1=0
    ·rw[if_neg (by simp[hz]),if_pos hz]
    ·rw[if_pos (by simp[hz]),if_neg hz];rfl
   ·simp only[dV,gX,h]
    simp
  ·rw[Di]
   unfold iw
   obtain⟨K,n,s,kids,a⟩:=e
   rw[tD]at hd hl
   have hv:=hc.1
   simp only[rm _ _ hN (show(c.Vars.length:Int)≤16386 by omega),eM _ _ _ hN (show(c.Vars.map (·.Name)).length<big by simp;omega),eM _ _ _ hN hs,aD,bm,Option.bind_some,tX]
   rw[ih.1 _ _ _ (by omega) (by omega)]
   simp only[exF]
   have hcond:((K==2) && !(c.Vars.any fun e=>e.Name==s)||(K==4) && !(states.any fun e=>e==s)) = !(if K=2 then(prR c names states).v s else if K=4 then(prR c names states).q s else true):=by
    by_cases h2:K=2
    ·subst h2;simp[prR]
    ·by_cases h4:K=4
     ·subst h4;simp[prR]
     ·have b2:(K==2)=false:=by simp[h2]
      have b4:(K==4)=false:=by simp[h4]
      simp[b2,b4,h2,h4]
   rw[hcond]
   cases(if K=2 then(prR c names states).v s else if K=4 then(prR c names states).q s else true) with
   |true=>
    simp only[Bool.not_true,Bool.false_eq_true,if_false,chk,if_true]
    rw[aS (oB _ _)]
   |false=>simp[chk,orF,kf]
theorem LW(c:Chart)(names states:List ae)(tr:Int)(hN:big≤N)(hc:uU c)(hs:states.length<big)(l:List Expr)(k:Int→Int→ab R)(hl:ju l<100000000):
  r12_looking_exprs N l c.Name c.Steps c.Fuel c.Vars c.Ports c.Timers c.States c.At tr names states k=kf k (yy (prR c names states) l):=by
 have hb:big=1000000000:=rfl
 unfold r12_looking_exprs
 exact(TJ c names states tr hN hc hs N).1 R l k (by omega) (by omega)
theorem TK(c:Chart)(names states:List ae)(tr:Int)(hN:big≤N)(hc:uU c)(hs:states.length<big):∀(d:Nat)(R:Type)(l:List Act)(k:Int→Int→ab R),eY l<d→eY l<100000000→(bd N d).r12_looking_acts R l c.Name c.Steps c.Fuel c.Vars c.Ports c.Timers c.States c.At tr names states k=kf k (lr (prR c names states) l):=by
 have hb:big=1000000000:=rfl
 intro d
 induction d with
 |zero=>intro R l k h;have:=bs l;omega
 |succ d ih=>
  intro R l k hd hl
  rw[Dj]
  unfold ix
  have hll:=Ji l
  have:=(yB (fun _ e=>acF (prR c names states) e) (fun _ e=>YM _ e) (fun _=>True) k (l:=l) (by omega) (fun n i=>eQ (bd N d) N l c.Name c.Steps c.Fuel c.Vars c.Ports c.Timers c.States c.At tr names states 0 0 (k 0 0) (fun y z=>k y z) n i) (fun n pre e rest h hi h1 h2=>⟨?_,fun _=>trivial⟩) (k 0 0) (fun n h hi=>?_) trivial N (by omega)).1
  ·rw[SI,LV (ej _ _)]at this
   exact this
  ·have he:e∈l:=by rw[h];simp
   have hes:=Jj he
   obtain⟨K,s,ev,X,nn,T,EE,at_⟩:=e
   rw[oP]at hes
   have p1:=ep X;have p2:=bs T;have p3:=bs EE
   obtain⟨v1,v2,v3⟩:=hc
   simp only[eQ,iJ,h1,h2,if_true,Option.bind_some]
   simp only[rm _ _ hN (show(c.Vars.length:Int)≤16386 by omega),rm _ _ hN (show(c.Ports.length:Int)≤16386 by omega),rm _ _ hN (show(c.Timers.length:Int)≤16386 by omega),eM _ _ _ hN (show(c.Vars.map (·.Name)).length<big by simp;omega),eM _ _ _ hN (show(c.Ports.map (·.Name)).length<big by simp;omega),eM _ _ _ hN (show(c.Timers.map (·.Name)).length<big by simp;omega),aD,bm,Option.bind_some,tX]
   have hcond:((((K==1) && !(c.Vars.any fun e=>e.Name==s))||((K==3) && !(c.Ports.any fun e=>e.Name==s)))||(((K==4)||(K==5)) && !(c.Timers.any fun e=>e.Name==s))) = !there (prR c names states) K s:=by
    unfold there
    by_cases e1:K=1
    ·subst e1;simp[prR]
    by_cases e3:K=3
    ·subst e3;simp[prR]
    have b1:(K==1)=false:=by simp[e1]
    have b3:(K==3)=false:=by simp[e3]
    by_cases e4:K=4
    ·subst e4;simp[prR]
    by_cases e5:K=5
    ·subst e5;simp[prR]
    have b4:(K==4)=false:=by simp[e4]
    have b5:(K==5)=false:=by simp[e5]
    simp[b1,b3,b4,b5,e1,e3,e4,e5]
   rw[hcond]
   unfold nV
   simp only[acF]
   rcases Bool.eq_false_or_eq_true (there (prR c names states) K s) with hth|hth
   rotate_left
   ·simp[hth,chk,orF,kf]
   ·simp only[hth,Bool.not_true,Bool.false_eq_true,if_false,br]
    rw[aS (av (aT _ _ (by decide)) (av (oB _ _) (av (ej _ _) (ej _ _))))]
    simp only[aD,bm,Option.bind_some]
    have hr:((K==7)&&(decide (nn<1)||decide (nn>16))) = !((K != 7)||(decide (nn≥1)&&decide (nn≤16))):=by
     by_cases h7:K=7
     ·subst h7
      by_cases g1:nn<1
      ·have:¬nn≥1:=by omega
       simp[g1,this]
      ·have g1':nn≥1:=by omega
       by_cases g2:nn>16
       ·have:¬nn≤16:=by omega
        simp[g1,g2,g1',this]
       ·have:nn≤16:=by omega
        simp[g1,g2,g1',this]
     ·have b7:(K==7)=false:=by simp[h7]
      have b7':(K != 7)=true:=by simp[h7]
      simp[b7,b7']
    rw[hr]
    rcases Bool.eq_false_or_eq_true ((K != 7)||(decide (nn≥1)&&decide (nn≤16))) with hrg|hrg
    rotate_left
    ·simp only[hrg,Bool.not_false,if_true,bb]
     simp[orF,kf]
    ·simp only[hrg,Bool.not_true,Bool.false_eq_true,if_false,br]
     rw[aS (av (oB _ _) (av (ej _ _) (ej _ _)))]
     rw[LW c names states tr hN ⟨v1,v2,v3⟩ hs _ _ (by omega),bq]
     have c15:∀(f:Flt)(k0 k1:ab R) x1 x2 x3 x4 x5 x6 x7 x8 x9 x10 x11 x12 x13 x14 x15,fN (bd N d) N x1 x2 x3 x4 x5 x6 x7 x8 x9 x10 x11 x12 x13 x14 x15 f.1 f.2 k0 k1=if f.1=0 then k1 else k0:=by
      intro f k0 k1 x1 x2 x3 x4 x5 x6 x7 x8 x9 x10 x11 x12 x13 x14 x15
      unfold fN
      by_cases hz:f.1=0
      ·rw[if_neg (by simp[hz]),if_pos hz]
      ·rw[if_pos (by simp[hz]),if_neg hz]
     have c13:∀(f:Flt)(k1:ab R) x1 x2 a1 a2 a3 a4 a5 a6 a7,fO (bd N d) N x1 x2 c.Name c.Steps c.Fuel c.Vars c.Ports c.Timers c.States c.At tr names states 0 0 a1 a2 a3 a4 a5 a6 EE a7 f.1 f.2 (fun y z=>k y z) k1=if(ra f (lr (prR c names states) EE)).1=0 then k1 else kf k (ra f (lr (prR c names states) EE)):=by
      intro f k1 x1 x2 a1 a2 a3 a4 a5 a6 a7
      unfold fO ra
      by_cases hz:f.1=0
      ·rw[if_pos (by simp[hz]),if_pos hz,ih _ _ _ (by omega) (by omega),bq,c15];rfl
      ·rw[if_neg (by simp[hz]),if_neg hz,if_neg hz,c15,if_neg hz];rfl
     rw[yv (oB _ _) (av (ej _ _) (ej _ _)),yv (ej _ _) (ej _ _)]
     by_cases hz:(yy (prR c names states) X).1=0
     ·rw[if_pos (by simp[hz]),ih _ _ _ (by omega) (by omega),bq,c13]
      simp only[ra,hz,if_true]
      rfl
     ·rw[if_neg (by simp[hz]),c13]
      simp only[ra,hz,if_false]
      try rfl
  ·simp only[eQ,iJ,h]
   simp
theorem Jo(c:Chart)(names states:List ae)(tr:Int)(hN:big≤N)(hc:uU c)(hs:states.length<big)(l:List Act)(k:Int→Int→ab R)(hl:eY l<100000000):
  r12_looking_acts N l c.Name c.Steps c.Fuel c.Vars c.Ports c.Timers c.States c.At tr names states k=kf k (lr (prR c names states) l):=by
 have hb:big=1000000000:=rfl
 unfold r12_looking_acts
 exact TK c names states tr hN hc hs N R l k (by omega) hl
theorem XC(c:Chart)(names states:List ae)(tr:Int)(hN:big≤N)(hc:uU c)(hs:states.length<big)(hn:names.length<big)(t:Trans)(k:Int→Int→Int→ab R)(ht:szT t<100000000)(h0:0≤tr)(h1:tr≤96):
  ∃tr',oI N t.Event t.Guard t.Target t.Acts t.At c.Name c.Steps c.Fuel c.Vars c.Ports c.Timers c.States c.At tr names states k=k (trF (prR c names states) (tr+1) t).1 (trF (prR c names states) (tr+1) t).2 tr'∧((trF (prR c names states) (tr+1) t).1=0→tr'=tr+1∧tr+1≤96):=by
 have hb:big=1000000000:=rfl
 have p1:=ep t.Guard;have p2:=bs t.Acts
 unfold szT at ht
 unfold oI trF
 by_cases h96:tr=96
 ·subst h96
  refine⟨96,?_,fun h=>?_⟩
  ·simp[chk,orF]
  ·simp[chk,orF]at h
 ·have hq:¬(tr==96)=true:=by simpa using h96
  have hd:decide (tr+1≤96)=true:=by simp;omega
  rw[if_neg hq,hd]
  simp only[eM _ _ _ hN hn,aD,Option.bind_some,wr (tr+1) (by omega) (by omega)]
  refine⟨tr+1,?_,fun _=>⟨rfl,by omega⟩⟩
  have hz1:∀f:Flt,Nf f→orF (chk true 15 t.At) f=f:=fun f hf=>aS hf
  rw[hz1 _ (av (aT _ _ (by decide)) (av (oB _ _) (ej _ _)))]
  have hcnd:(!(t.Target==[]) && !(names.any fun e=>e==t.Target)) = !((t.Target==[])||(prR c names states).g t.Target):=by
   simp[prR]
  rw[hcnd]
  rcases Bool.eq_false_or_eq_true ((t.Target==[])||(prR c names states).g t.Target) with hg|hg
  rotate_left
  ·simp only[hg,Bool.not_false,if_true]
   simp[chk,orF]
  ·simp only[hg,Bool.not_true,Bool.false_eq_true,if_false,br]
   rw[aS (av (oB _ _) (ej _ _)),yv (oB _ _) (ej _ _),LW c names states _ hN hc hs _ _ (by omega),bq]
   by_cases hz:(yy (prR c names states) t.Guard).1=0
   ·rw[if_pos (by simp[hz]),Jo c names states _ hN hc hs _ _ (by omega),bq]
    simp only[ra,hz,if_true]
   ·rw[if_neg (by simp[hz])]
    simp only[ra,hz,if_false]
end
def stN(l:List State):List ae:=(l.filter fun s => !isH s).map (·.Name)
theorem oc{s:State}(h:okS s):(1≤s.Kind∧s.Kind≤4)∧(3≤s.Kind→s.Entry=[]∧s.Exit=[]∧s.Trans=[]∧s.Kids=[])∧nM s.Kids:=by
 cases s;simpa[okS] using h
theorem Jt{s:State}(h:okS s):isS s = !isH s:=by
 obtain⟨⟨h1,h2⟩,_⟩:=oc h
 unfold isS isH
 have:s.Kind=1∨s.Kind=2∨s.Kind=3∨s.Kind=4:=by omega
 rcases this with h|h|h|h<;>simp[h]
theorem yC:∀{l:List State},nM l→∀s∈l,okS s
 |x::r,h,s,hs=>by
  simp only[nM]at h
  rcases List.mem_cons.1 hs with rfl|hs
  ·exact h.1
  ·exact yC h.2 s hs
theorem SM{l:List State}(h:nM l):l.any isS=l.any fun s => !isH s:=by
 induction l with
 |nil=>rfl
 |cons s r ih=>
  simp only[nM]at h
  simp only[List.any_cons,Jt h.1,ih h.2]
theorem SN:∀l:List State,nM l→∀s∈flL l,okS s:=by
 intro l
 refine State.rec_1 (motive_1:=fun s=>okS s→∀x∈flS s,okS x) (motive_2:=fun l=>nM l→∀s∈flL l,okS s) ?_ ?_ ?_ l
 ·intro k n en ex tr kids a ih h x hx
  rw[bM]at hx
  rcases List.mem_cons.1 hx with rfl|hx
  ·exact h
  ·exact ih (oc h).2.2 x hx
 ·intro _ s hs;simp[flL]at hs
 ·intro s r h1 h2 h x hx
  simp only[nM]at h
  simp only[flL,List.mem_append]at hx
  rcases hx with hx|hx
  ·exact h1 h.1 x hx
  ·exact h2 h.2 x hx
theorem IS(a b:List State):stN (a++b)=stN a++stN b:=by simp[stN]
theorem VF{top:Bool}{s:State}(h:okS s):((top && !isS s)||(s.Kind==2 && !s.Kids.any isS)||(s.Kind==1&&decide (((s.Kids.length:Nat):Int)>0) && !s.Kids.any isS))=GS top s:=by
 obtain⟨⟨h1,h2⟩,h3,h4⟩:=oc h
 unfold GS
 rw[Jt h,SM h4,Bool.not_not]
 have:s.Kind=1∨s.Kind=2∨3≤s.Kind:=by omega
 rcases this with e|e|e
 ·simp[e]
 ·have b1:(s.Kind==1)=false:=by simp[e]
  have b2:(s.Kind==2)=true:=by simp[e]
  rw[b1,b2]
  generalize(s.Kids.any fun e => !isH e)=q
  generalize decide (((s.Kids.length:Nat):Int)>0)=w
  generalize(top&&isH s)=z
  cases q<;>cases w<;>cases z<;>rfl
 ·have hk:=(h3 e).2.2.2
  have e1:¬s.Kind=1:=by omega
  have e2:¬s.Kind=2:=by omega
  simp[e1,e2,hk]
theorem SO{top:Bool}{out:List State}{s:State}(h:out.length=63):iV top out s=(15,s.At):=by
 unfold iV
 have:decide (((out.length:Nat):Int)<63)=false:=by simp;omega
 rw[this,bb];simp[orF]
theorem VG{top:Bool}{out:List State}{s:State}(h:out.length<63)(h1:(out.any fun e=>e.Name==s.Name)=true):iV top out s=(8,s.At):=by
 unfold iV
 have:decide (((out.length:Nat):Int)<63)=true:=by simp;omega
 rw[this,h1,br,Bool.not_true,bb];simp[orF]
theorem SP{top:Bool}{out:List State}{s:State}(h:out.length<63)(h1:(out.any fun e=>e.Name==s.Name)=false)(h2:GS top s=true):iV top out s=(17,s.At):=by
 unfold iV
 have:decide (((out.length:Nat):Int)<63)=true:=by simp;omega
 rw[this,h1,h2,br,Bool.not_true,bb,Bool.not_false,br];simp[orF]
theorem VH{top:Bool}{out:List State}{s:State}(h:out.length<63)(h1:(out.any fun e=>e.Name==s.Name)=false)(h2:GS top s=false):iV top out s=(0,0):=by
 unfold iV
 have:decide (((out.length:Nat):Int)<63)=true:=by simp;omega
 rw[this,h1,h2,br,Bool.not_false,br,br];simp[orF]
theorem Ju(l:List State)(s:ae):(l.map (·.Name)).any (fun e=>e==s)=l.any fun e=>e.Name==s:=by
 rw[List.any_map];rfl
theorem uX:∀(l:List State)(e:State),e∈l→szS e≤aV l
 |x::r,e,h=>by
  have:=bR r;have:=wX x
  simp only[aV]
  rcases List.mem_cons.1 h with rfl|h
  ·omega
  ·have:=uX r e h;omega
section
variable{R:Type}{N:Nat}
theorem wI(c:Chart)(tr:Int)(hN:big≤N)(F:aJ)(o1 o2:List ae)(top:Bool)(l:List State)(k:Int→Int→List ae→List ae→ab R)(hl:aV l<20000)(hok:nM l)(hF:∀(e:State),e∈l→∀(out:List State)(k:Int→Int→List ae→List ae→ab R),out.length≤63→∃n' s',F.r12_looking_shapes_2 R e.Kids false c.Name c.Steps c.Fuel c.Vars c.Ports c.Timers c.States c.At tr (out.map (·.Name)) (stN out) k=k (trL false out e.Kids).1 (trL false out e.Kids).2 n' s'∧((trL false out e.Kids).1=0→n'=(out++flL e.Kids).map (·.Name)∧s'=stN (out++flL e.Kids)∧(out++flL e.Kids).length≤63)):∀(rest pre:List State)(n:Nat)(out:List State),l=pre++rest→rest.length<n→out.length≤63 →
  ∃n' s',bK F N l top c.Name c.Steps c.Fuel c.Vars c.Ports c.Timers c.States c.At tr o1 o2 0 0 (fun y z=>k 0 0 y z) (fun y z v w=>k v w y z) n pre.length (out.map (·.Name)) (stN out)=k (trL top out rest).1 (trL top out rest).2 n' s'∧((trL top out rest).1=0→n'=(out++flL rest).map (·.Name)∧s'=stN (out++flL rest)∧(out++flL rest).length≤63):=by
 have hb:big=1000000000:=rfl
 intro rest
 induction rest with
 |nil=>
  intro pre n out h hn ho
  obtain⟨n,rfl⟩:∃m,n=m+1:=⟨n-1,by omega⟩
  have:l=pre:=by simpa using h
  subst this
  refine⟨out.map (·.Name),stN out,?_,fun _=>by simpa[flL] using ho⟩
  simp only[bK,fc,trL]
  simp
 |cons e r ih=>
  intro pre n out h hn ho
  obtain⟨n,rfl⟩:∃m,n=m+1:=⟨n-1,by omega⟩
  have hlen:l.length=pre.length+(r.length+1):=by rw[h];simp
  have hll:=dD l
  have he:e∈l:=by rw[h];simp
  have hes:=uX l e he
  have hk:=kM e;have hkl:=dD e.Kids
  have hoe:=yC hok e he
  have hok4:=(oc hoe).2.2
  have hat:at? l pre.length=some e:=bU (by omega) (by rw[h];simp)
  have hd:decide (((pre.length:Nat):Int)<((l.length:Nat):Int))=true:=by simp;omega
  have hr:IntKind.wrap .i64 (((pre.length:Nat):Int)+1)=(((pre++[e]).length:Nat):Int):=by rw[wr _ (by omega) (by omega)];simp
  have htr:trL top out (e::r)=orF (iV top out e) (orF (trL false (out++[e]) e.Kids) (trL top (out++flS e) r)):=by
   simp only[trL,DE,aW]
  rw[htr]
  simp only[bK,fc,hd,hat,if_true,Option.bind_some]
  have hml:(out.map (·.Name)).length=out.length:=by simp
  have hsl:(stN out).length≤out.length:=by unfold stN;rw[List.length_map];exact List.length_filter_le _ _
  by_cases h63:out.length=63
  ·have:((((out.map (·.Name)).length:Nat):Int)==63)=true:=by rw[hml,h63];rfl
   rw[if_pos this,SO h63,aU _ (by simp)]
   exact⟨_,_,rfl,fun h=>absurd h (by simp)⟩
  have h63':¬((((out.map (·.Name)).length:Nat):Int)==63)=true:=by rw[hml];simp;omega
  have hlt:out.length<63:=by omega
  rw[if_neg h63',eM _ _ _ hN (by omega),Ju]
  rcases Bool.eq_false_or_eq_true (out.any fun x=>x.Name==e.Name) with h8|h8
  ·rw[if_pos h8,VG hlt h8,aU _ (by simp)]
   exact⟨_,_,rfl,fun h=>absurd h (by simp)⟩
  rw[if_neg (by simp[h8])]
  simp only[rk,DC _ _ hN (show e.Kids.length<big by omega),aD,bm,Option.bind_some,VF hoe]
  rcases Bool.eq_false_or_eq_true (GS top e) with h17|h17
  ·rw[if_pos h17,SP hlt h8 h17,aU _ (by simp)]
   exact⟨_,_,rfl,fun h=>absurd h (by simp)⟩
  rw[if_neg (by simp[h17]),VH hlt h8 h17,aS (av (xH _ _ _) (xH _ _ _))]
  unfold jm
  rw[if_pos (by simp[ah];omega),rk,Jt hoe]
  have fin:∀(x1:List ae)(x2:List ae),x2=stN (out++[e])→x1=(out++[e]).map (·.Name)→∃n' s',dG F N l top pre.length c.Name c.Steps c.Fuel c.Vars c.Ports c.Timers c.States c.At tr o1 o2 x1 x2 0 0 e.Kind e.Name e.Entry e.Exit e.Trans e.Kids e.At (fun y z v w=>k v w y z) (fun y z=>bK F N l top c.Name c.Steps c.Fuel c.Vars c.Ports c.Timers c.States c.At tr o1 o2 0 0 (fun y z=>k 0 0 y z) (fun y z v w=>k v w y z) n (IntKind.wrap .i64 (((pre.length:Nat):Int)+1)) y z)=k (orF (trL false (out++[e]) e.Kids) (trL top (out++flS e) r)).1 (orF (trL false (out++[e]) e.Kids) (trL top (out++flS e) r)).2 n' s'∧((orF (trL false (out++[e]) e.Kids) (trL top (out++flS e) r)).1=0→n'=(out++flL (e::r)).map (·.Name)∧s'=stN (out++flL (e::r))∧(out++flL (e::r)).length≤63):=by
   intro x1 x2 hx2 hx1
   subst hx1;subst hx2
   unfold dG
   obtain⟨n1,s1,g1,g2⟩:=hF e he (out++[e]) (fun(r81:Int)(r82:Int)(r83:List ae)(r84:List ae)=>if(r81 != 0)=true then k r81 r82 r83 r84 else bK F N l top c.Name c.Steps c.Fuel c.Vars c.Ports c.Timers c.States c.At tr o1 o2 0 0 (fun y z=>k 0 0 y z) (fun y z v w=>k v w y z) n (IntKind.wrap .i64 (((pre.length:Nat):Int)+1)) r83 r84) (by simp;omega)
   rw[g1]
   by_cases hz:(trL false (out++[e]) e.Kids).1=0
   ·obtain⟨rfl,rfl,g5⟩:=g2 hz
    rw[if_neg (by simp[hz]),hr]
    have hoo:out++[e]++flL e.Kids=out++flS e:=by simp[bM]
    rw[hoo]at g5 ⊢
    obtain⟨n2,s2,g3,g4⟩:=ih (pre++[e]) n (out++flS e) (by rw[h];simp) (by simp at hn;omega) g5
    rw[(xH e.Kids false (out++[e])) hz,aS (xH _ _ _)]
    refine⟨n2,s2,g3,fun hz2=>?_⟩
    have:=g4 hz2
    simpa[flL] using this
   ·rw[if_pos (by simp[hz]),aU _ hz]
    exact⟨_,_,rfl,fun h=>absurd h hz⟩
  rcases Bool.eq_false_or_eq_true (isH e) with hh|hh
  ·rw[if_neg (by simp[hh])]
   exact fin _ _ (by rw[IS];simp[stN,hh]) (by simp)
  ·rw[if_pos (by simp[hh]),if_pos (by simp[ah];omega)]
   exact fin _ _ (by rw[IS];simp[stN,hh]) (by simp)
theorem Oa(c:Chart)(tr:Int)(hN:big≤N):∀(d:Nat)(R:Type)(top:Bool)(l:List State)(out:List State)(k:Int→Int→List ae→List ae→ab R),aV l<d→aV l<20000→nM l→out.length≤63 →
  ∃n' s',(bC N d).r12_looking_shapes_2 R l top c.Name c.Steps c.Fuel c.Vars c.Ports c.Timers c.States c.At tr (out.map (·.Name)) (stN out) k=k (trL top out l).1 (trL top out l).2 n' s'∧((trL top out l).1=0→n'=(out++flL l).map (·.Name)∧s'=stN (out++flL l)∧(out++flL l).length≤63):=by
 have hb:big=1000000000:=rfl
 intro d
 induction d with
 |zero=>intro R top l out k h;have:=bR l;omega
 |succ d ih=>
  intro R top l out k hd hs hok ho
  rw[zb]
  unfold eH
  have hll:=dD l
  refine wI c tr hN _ _ _ top l _ hs hok (fun e he out k ho=>?_) l [] N out rfl (by omega) ho
  have:=uX l e he
  have:=kM e
  exact ih R false e.Kids out k (by omega) (by omega) (oc (yC hok e he)).2.2 ho
theorem QJ(c:Chart)(tr:Int)(hN:big≤N)(top:Bool)(l:List State)(out:List State)(k:Int→Int→List ae→List ae→ab R)(h1:aV l<20000)(h2:nM l)(h3:out.length≤63):
  ∃n' s',r12_looking_shapes_2 N l top c.Name c.Steps c.Fuel c.Vars c.Ports c.Timers c.States c.At tr (out.map (·.Name)) (stN out) k=k (trL top out l).1 (trL top out l).2 n' s'∧((trL top out l).1=0→n'=(out++flL l).map (·.Name)∧s'=stN (out++flL l)∧(out++flL l).length≤63):=by
 have hb:big=1000000000:=rfl
 unfold r12_looking_shapes_2
 exact Oa c tr hN N R top l out k (by omega) h1 h2 h3
theorem yD(c:Chart)(tr:Int)(hN:big≤N)(top:Bool)(l:List State)(k:Int→Int→List ae→List ae→ab R)(hl:aV l<20000)(hok:nM l)
  : ∀(rest pre:List State)(n:Nat)(out:List State),l=pre++rest→rest.length<n→out.length≤63 →
  ∃n' s',ca N l top c.Name c.Steps c.Fuel c.Vars c.Ports c.Timers c.States c.At tr 0 0 (fun y z=>k 0 0 y z) (fun y z v w=>k v w y z) n pre.length (out.map (·.Name)) (stN out)=k (trL top out rest).1 (trL top out rest).2 n' s'∧((trL top out rest).1=0→n'=(out++flL rest).map (·.Name)∧s'=stN (out++flL rest)∧(out++flL rest).length≤63):=by
 have hb:big=1000000000:=rfl
 intro rest
 induction rest with
 |nil=>
  intro pre n out h hn ho
  obtain⟨n,rfl⟩:∃m,n=m+1:=⟨n-1,by omega⟩
  have:l=pre:=by simpa using h
  subst this
  refine⟨out.map (·.Name),stN out,?_,fun _=>by simpa[flL] using ho⟩
  simp only[ca,gu,trL]
  simp
 |cons e r ih=>
  intro pre n out h hn ho
  obtain⟨n,rfl⟩:∃m,n=m+1:=⟨n-1,by omega⟩
  have hlen:l.length=pre.length+(r.length+1):=by rw[h];simp
  have hll:=dD l
  have he:e∈l:=by rw[h];simp
  have hes:=uX l e he
  have hk:=kM e;have hkl:=dD e.Kids
  have hoe:=yC hok e he
  have hok4:=(oc hoe).2.2
  have hat:at? l pre.length=some e:=bU (by omega) (by rw[h];simp)
  have hd:decide (((pre.length:Nat):Int)<((l.length:Nat):Int))=true:=by simp;omega
  have hr:IntKind.wrap .i64 (((pre.length:Nat):Int)+1)=(((pre++[e]).length:Nat):Int):=by rw[wr _ (by omega) (by omega)];simp
  have htr:trL top out (e::r)=orF (iV top out e) (orF (trL false (out++[e]) e.Kids) (trL top (out++flS e) r)):=by
   simp only[trL,DE,aW]
  rw[htr]
  simp only[ca,gu,hd,hat,if_true,Option.bind_some]
  have hml:(out.map (·.Name)).length=out.length:=by simp
  have hsl:(stN out).length≤out.length:=by unfold stN;rw[List.length_map];exact List.length_filter_le _ _
  by_cases h63:out.length=63
  ·have:((((out.map (·.Name)).length:Nat):Int)==63)=true:=by rw[hml,h63];rfl
   rw[if_pos this,SO h63,aU _ (by simp)]
   exact⟨_,_,rfl,fun h=>absurd h (by simp)⟩
  have h63':¬((((out.map (·.Name)).length:Nat):Int)==63)=true:=by rw[hml];simp;omega
  have hlt:out.length<63:=by omega
  rw[if_neg h63',eM _ _ _ hN (by omega),Ju]
  rcases Bool.eq_false_or_eq_true (out.any fun x=>x.Name==e.Name) with h8|h8
  ·rw[if_pos h8,VG hlt h8,aU _ (by simp)]
   exact⟨_,_,rfl,fun h=>absurd h (by simp)⟩
  rw[if_neg (by simp[h8])]
  simp only[rk,DC _ _ hN (show e.Kids.length<big by omega),aD,bm,Option.bind_some,VF hoe]
  rcases Bool.eq_false_or_eq_true (GS top e) with h17|h17
  ·rw[if_pos h17,SP hlt h8 h17,aU _ (by simp)]
   exact⟨_,_,rfl,fun h=>absurd h (by simp)⟩
  rw[if_neg (by simp[h17]),VH hlt h8 h17,aS (av (xH _ _ _) (xH _ _ _))]
  unfold kv
  rw[if_pos (by simp[ah];omega),rk,Jt hoe]
  have fin:∀(x1:List ae)(x2:List ae),x2=stN (out++[e])→x1=(out++[e]).map (·.Name)→∃n' s',eI N l top pre.length c.Name c.Steps c.Fuel c.Vars c.Ports c.Timers c.States c.At tr x1 x2 0 0 e.Kind e.Name e.Entry e.Exit e.Trans e.Kids e.At (fun y z v w=>k v w y z) (fun y z=>ca N l top c.Name c.Steps c.Fuel c.Vars c.Ports c.Timers c.States c.At tr 0 0 (fun y z=>k 0 0 y z) (fun y z v w=>k v w y z) n (IntKind.wrap .i64 (((pre.length:Nat):Int)+1)) y z)=k (orF (trL false (out++[e]) e.Kids) (trL top (out++flS e) r)).1 (orF (trL false (out++[e]) e.Kids) (trL top (out++flS e) r)).2 n' s'∧((orF (trL false (out++[e]) e.Kids) (trL top (out++flS e) r)).1=0→n'=(out++flL (e::r)).map (·.Name)∧s'=stN (out++flL (e::r))∧(out++flL (e::r)).length≤63):=by
   intro x1 x2 hx2 hx1
   subst hx1;subst hx2
   unfold eI
   obtain⟨n1,s1,g1,g2⟩:=QJ c tr hN false e.Kids (out++[e]) (fun(r81:Int)(r82:Int)(r83:List ae)(r84:List ae)=>if(r81 != 0)=true then k r81 r82 r83 r84 else ca N l top c.Name c.Steps c.Fuel c.Vars c.Ports c.Timers c.States c.At tr 0 0 (fun y z=>k 0 0 y z) (fun y z v w=>k v w y z) n (IntKind.wrap .i64 (((pre.length:Nat):Int)+1)) r83 r84) (by omega) hok4 (by simp;omega)
   rw[g1]
   by_cases hz:(trL false (out++[e]) e.Kids).1=0
   ·obtain⟨rfl,rfl,g5⟩:=g2 hz
    rw[if_neg (by simp[hz]),hr]
    have hoo:out++[e]++flL e.Kids=out++flS e:=by simp[bM]
    rw[hoo]at g5 ⊢
    obtain⟨n2,s2,g3,g4⟩:=ih (pre++[e]) n (out++flS e) (by rw[h];simp) (by simp at hn;omega) g5
    rw[(xH e.Kids false (out++[e])) hz,aS (xH _ _ _)]
    refine⟨n2,s2,g3,fun hz2=>?_⟩
    have:=g4 hz2
    simpa[flL] using this
   ·rw[if_pos (by simp[hz]),aU _ hz]
    exact⟨_,_,rfl,fun h=>absurd h hz⟩
  rcases Bool.eq_false_or_eq_true (isH e) with hh|hh
  ·rw[if_neg (by simp[hh])]
   exact fin _ _ (by rw[IS];simp[stN,hh]) (by simp)
  ·rw[if_pos (by simp[hh]),if_pos (by simp[ah];omega)]
   exact fin _ _ (by rw[IS];simp[stN,hh]) (by simp)
theorem TQ(c:Chart)(tr:Int)(hN:big≤N)(top:Bool)(l:List State)(k:Int→Int→List ae→List ae→ab R)(h1:aV l<20000)(h2:nM l):
  ∃n' s',kx N l top c.Name c.Steps c.Fuel c.Vars c.Ports c.Timers c.States c.At tr k=k (trL top [] l).1 (trL top [] l).2 n' s'∧((trL top [] l).1=0→n'=(flL l).map (·.Name)∧s'=stN (flL l)∧(flL l).length≤63):=by
 have hb:big=1000000000:=rfl
 have hll:=dD l
 unfold kx
 obtain⟨n',s',g1,g2⟩:=yD c tr hN top l k h1 h2 l [] N [] rfl (by omega) (by simp)
 exact⟨n',s',g1,fun h=>by simpa using g2 h⟩
end
def cnt(l:List State):Int:=(l.map fun s=>(s.Trans.length:Int)).sum
theorem SQ:∀l,0≤cnt l
 | []=>by simp[cnt]
 |s::r=>by have:=SQ r;unfold cnt at *;simp only[List.map_cons,List.sum_cons];omega
def elF(P:Pr)(n:Int)(s:State):Flt:=orF (lr P s.Entry) (orF (lr P s.Exit) (CO P n s.Trans))
theorem YP(P:Pr)(n:Int)(s:State):Nf (elF P n s):=av (ej _ _) (av (ej _ _) (Cr _ _ _))
theorem Jv(P:Pr)(n:Int)(s:State)(r:List State)(h:okS s):inF P n (s::r)=orF (elF P n s) (inF P (n+s.Trans.length) r):=by
 unfold elF
 simp only[inF]
 split
 ·rename_i hh
  have h3:3≤s.Kind:=by
   unfold isH at hh
   simp only[Bool.or_eq_true,beq_iff_eq]at hh
   omega
  obtain⟨e1,e2,e3,e4⟩:=(oc h).2.1 h3
  rw[e1,e2,e3]
  simp only[lr,CO,oa,List.length_nil,Int.natCast_zero,Int.add_zero]
  rw[aS (xG _ _ _)]
 ·simp only[aW]
theorem SR(P:Pr):∀(a b:List State)(n:Int),(∀s∈a,okS s)→inF P n (a++b)=orF (inF P n a) (inF P (n+cnt a) b)
 | [],b,n,_=>by simp only[List.nil_append,inF,cnt,List.map_nil,List.sum_nil,Int.add_zero];rw[aS (xG _ _ _)]
 |s::r,b,n,h=>by
  rw[List.cons_append,Jv P n s _ (h s (List.mem_cons_self ..)),Jv P n s r (h s (List.mem_cons_self ..)),SR P r b _ fun x hx=>h x (List.mem_cons_of_mem _ hx),aW]
  have:n+↑s.Trans.length+cnt r=n+cnt (s::r):=by unfold cnt;simp only[List.map_cons,List.sum_cons];omega
  rw[this]
section
variable{R:Type}{N:Nat}
theorem QK(c:Chart)(names states:List ae)(hN:big≤N)(hc:uU c)(hs:states.length<big)(hn:names.length<big):∀(d:Nat)(R:Type)(l:List State)(n:Int)(k:Int→Int→Int→ab R),aV l<d→aV l<20000→nM l→0≤n→n≤96 →
  ∃n',(au N d).r12_looking_inner R l c.Name c.Steps c.Fuel c.Vars c.Ports c.Timers c.States c.At n names states k=k (inF (prR c names states) n (flL l)).1 (inF (prR c names states) n (flL l)).2 n'∧((inF (prR c names states) n (flL l)).1=0→n'=n+cnt (flL l)∧n'≤96):=by
 have hb:big=1000000000:=rfl
 intro d
 induction d with
 |zero=>intro R l n k h;have:=bR l;omega
 |succ d ih=>
  intro R l n0 k hd hsz hok hn0 hn1
  rw[BQ]
  unfold gM
  have hll:=dD l
  have key:∀(rest pre:List State)(m:Nat)(n:Int),l=pre++rest→rest.length<m→0≤n→n≤96 →
    ∃n',bD (au N d) N l c.Name c.Steps c.Fuel c.Vars c.Ports c.Timers c.States c.At names states 0 0 (fun y=>k 0 0 y) (fun y z w=>k z w y) m pre.length n=k (inF (prR c names states) n (flL rest)).1 (inF (prR c names states) n (flL rest)).2 n'∧((inF (prR c names states) n (flL rest)).1=0→n'=n+cnt (flL rest)∧n'≤96):=by
   intro rest
   induction rest with
   |nil=>
    intro pre m n h hm h0 h1
    obtain⟨m,rfl⟩:∃q,m=q+1:=⟨m-1,by omega⟩
    have:l=pre:=by simpa using h
    subst this
    refine⟨n,?_,fun _=>by simp[flL,cnt];omega⟩
    simp only[bD,gZ,flL,inF]
    simp
   |cons e r ihr=>
    intro pre m n h hm h0 h1
    obtain⟨m,rfl⟩:∃q,m=q+1:=⟨m-1,by omega⟩
    have hlen:l.length=pre.length+(r.length+1):=by rw[h];simp
    have he:e∈l:=by rw[h];simp
    have hes:=uX l e he
    have hk:=kM e
    have hoe:=yC hok e he
    have hok4:=(oc hoe).2.2
    have hfk:=SN e.Kids hok4
    obtain⟨q1,q2,q3⟩:=LS e
    have q4:=ER e.Trans
    have hat:at? l pre.length=some e:=bU (by omega) (by rw[h];simp)
    have hdc:decide (((pre.length:Nat):Int)<((l.length:Nat):Int))=true:=by simp;omega
    have hr:IntKind.wrap .i64 (((pre.length:Nat):Int)+1)=(((pre++[e]).length:Nat):Int):=by rw[wr _ (by omega) (by omega)];simp
    have hin:inF (prR c names states) n (flL (e::r))=orF (elF (prR c names states) n e) (orF (inF (prR c names states) (n+e.Trans.length) (flL e.Kids)) (inF (prR c names states) (n+e.Trans.length+cnt (flL e.Kids)) (flL r))):=by
     simp only[flL,bM,List.cons_append]
     rw[Jv _ _ _ _ hoe,SR _ _ _ _ hfk]
    rw[hin]
    have hcnt:cnt (flL (e::r))=e.Trans.length+cnt (flL e.Kids)+cnt (flL r):=by
     simp only[flL,bM,List.cons_append]
     unfold cnt
     simp only[List.map_cons,List.sum_cons,List.map_append,List.sum_append];omega
    rw[hcnt]
    simp only[bD,gZ,hdc,hat,if_true,Option.bind_some]
    rw[Jo c names states n hN hc hs _ _ (by omega),bq]
    -- the walk over transitions
    have l2:∀(kp:Int→Int→Int→ab R) x1 x2 x3 x4 x5 x6 x7 x8,∀(rest2 pre2:List Trans)(q:Nat)(n:Int)(f:Flt),e.Trans=pre2++rest2→rest2.length+1<q→0≤n→n≤96→Nf f →
      ∃n',bS (au N d) N l pre.length c.Name c.Steps c.Fuel c.Vars c.Ports c.Timers c.States c.At names states x1 x2 x3 x4 x5 x6 e.Trans x7 x8 kp q pre2.length n f.1 f.2=kp n' (ra f (CO (prR c names states) n rest2)).1 (ra f (CO (prR c names states) n rest2)).2∧((ra f (CO (prR c names states) n rest2)).1=0→n'=n+rest2.length∧n'≤96):=by
     intro kp x1 x2 x3 x4 x5 x6 x7 x8 rest2
     induction rest2 with
     |nil=>
      intro pre2 q n f h' hq h0 h1 hf
      obtain⟨q,rfl⟩:∃w,q=w+1:=⟨q-1,by omega⟩
      have hp2:e.Trans=pre2:=by simpa using h'
      refine⟨n,?_,fun _=>by simp;omega⟩
      simp only[bS,dj,aD,Option.bind_some,CO]
      have:decide (((pre2.length:Nat):Int)<((e.Trans.length:Nat):Int))=false:=by rw[hp2];simp
      rw[this,Bool.and_false]
      simp only[Bool.false_eq_true,if_false,ra]
      split
      ·rename_i hz;rw[hf hz]
      ·rfl
     |cons t r2 ih2=>
      intro pre2 q n f h' hq h0 h1 hf
      obtain⟨q,rfl⟩:∃w,q=w+1:=⟨q-1,by omega⟩
      have hlen2:e.Trans.length=pre2.length+(r2.length+1):=by rw[h'];simp
      have ht:t∈e.Trans:=by rw[h'];simp
      have hts:=Jl ht
      by_cases hz:f.1=0
      ·have hat2:at? e.Trans pre2.length=some t:=bU (by omega) (by rw[h'];simp)
       have hdc2:decide (((pre2.length:Nat):Int)<((e.Trans.length:Nat):Int))=true:=by simp;omega
       have hr2:IntKind.wrap .i64 (((pre2.length:Nat):Int)+1)=(((pre2++[t]).length:Nat):Int):=by rw[wr _ (by omega) (by omega)];simp
       have hz':(f.1==0)=true:=by simp[hz]
       simp only[bS,dj,aD,Option.bind_some,hz',hdc2,hat2,Bool.and_self,if_true]
       obtain⟨n1,g1,g2⟩:=XC c names states n hN hc hs hn t (fun r72 r73 r74=>bS (au N d) N l pre.length c.Name c.Steps c.Fuel c.Vars c.Ports c.Timers c.States c.At names states x1 x2 x3 x4 x5 x6 e.Trans x7 x8 kp q (IntKind.wrap .i64 (((pre2.length:Nat):Int)+1)) r74 r72 r73) (by omega) h0 h1
       rw[g1]
       have hth:ra f (CO (prR c names states) n (t::r2))=orF (trF (prR c names states) (n+1) t) (CO (prR c names states) (n+1) r2):=by
        simp[ra,hz,CO]
       rw[hth]
       by_cases hz2:(trF (prR c names states) (n+1) t).1=0
       ·obtain⟨rfl,g3⟩:=g2 hz2
        obtain⟨n2,g4,g5⟩:=ih2 (pre2++[t]) q (n+1) (trF (prR c names states) (n+1) t) (by rw[h'];simp) (by simp at hq;omega) (by omega) g3 (QF _ _ _)
        rw[yv (QF _ _ _) (Cr _ _ _)]
        refine⟨n2,?_,fun hz3=>?_⟩
        ·rw[hr2];exact g4
        ·have:=g5 hz3
         simp only[List.length_cons];omega
       ·obtain⟨q,rfl⟩:∃w,q=w+1:=⟨q-1,by omega⟩
        refine⟨n1,?_,fun hz3=>absurd (cV.1 hz3).1 hz2⟩
        rw[aU _ hz2]
        have hne:((trF (prR c names states) (n+1) t).1==0)=false:=by simp[hz2]
        simp only[bS,dj,aD,Option.bind_some,hne,Bool.false_and,Bool.false_eq_true,if_false]
      ·have hne:(f.1==0)=false:=by simp[hz]
       refine⟨n,?_,fun h3=>?_⟩
       ·simp only[bS,dj,aD,Option.bind_some,hne,Bool.false_and,Bool.false_eq_true,if_false,ra,hz]
       ·simp[ra,hz]at h3
    have c14:∀(f:Flt)(a b:ab R) x1 x2 x3 x4 x5 x6 x7 x8 x9 x10 x11 x12 x13 x14 x15,cb (au N d) N x1 x2 x3 x4 x5 x6 x7 x8 x9 x10 x11 x12 x13 x14 x15 f.1 f.2 a b=if f.1=0 then b else a:=by
     intro f a b x1 x2 x3 x4 x5 x6 x7 x8 x9 x10 x11 x12 x13 x14 x15
     unfold cb
     by_cases hz:f.1=0
     ·rw[if_neg (by simp[hz]),if_pos hz]
     ·rw[if_pos (by simp[hz]),if_neg hz]
    have c8:∀(f:Flt),Nf f→orF f (CO (prR c names states) n e.Trans)=elF (prR c names states) n e→∃n',fP (au N d) N l pre.length c.Name c.Steps c.Fuel c.Vars c.Ports c.Timers c.States c.At n names states 0 0 e.Kind e.Name e.Entry e.Exit e.Trans e.Kids e.At f.1 f.2 (fun y z w=>k z w y) (fun y=>bD (au N d) N l c.Name c.Steps c.Fuel c.Vars c.Ports c.Timers c.States c.At names states 0 0 (fun y=>k 0 0 y) (fun y z w=>k z w y) m (IntKind.wrap .i64 (((pre.length:Nat):Int)+1)) y) =
      k (orF (elF (prR c names states) n e) (orF (inF (prR c names states) (n+e.Trans.length) (flL e.Kids)) (inF (prR c names states) (n+e.Trans.length+cnt (flL e.Kids)) (flL r)))).1 (orF (elF (prR c names states) n e) (orF (inF (prR c names states) (n+e.Trans.length) (flL e.Kids)) (inF (prR c names states) (n+e.Trans.length+cnt (flL e.Kids)) (flL r)))).2 n'∧((orF (elF (prR c names states) n e) (orF (inF (prR c names states) (n+e.Trans.length) (flL e.Kids)) (inF (prR c names states) (n+e.Trans.length+cnt (flL e.Kids)) (flL r)))).1=0→n'=n+(e.Trans.length+cnt (flL e.Kids)+cnt (flL r))∧n'≤96):=by
     intro f hf hfe
     unfold fP
     obtain⟨n1,g1,g2⟩:=l2 (fun(y75:Int)(y76:Int)(y77:Int)=>
 if(y76==0)=true then
  ((au N d).r12_looking_inner _ e.Kids c.Name c.Steps c.Fuel c.Vars c.Ports c.Timers c.States c.At y75 names states (fun(r78:Int)(r79:Int)(r80:Int)=>
  cb (au N d) N l pre.length c.Name c.Steps c.Fuel c.Vars c.Ports c.Timers c.States c.At r80 names states 0 0 r78 r79 (k r78 r79 r80)
   (bD (au N d) N l c.Name c.Steps c.Fuel c.Vars c.Ports c.Timers c.States c.At names states 0 0 (fun y=>k 0 0 y) (fun y z w=>k z w y) m (IntKind.wrap .i64 (((pre.length:Nat):Int)+1)) r80)))
 else
  (cb (au N d) N l pre.length c.Name c.Steps c.Fuel c.Vars c.Ports c.Timers c.States c.At y75 names states 0 0 y76 y77 (k y76 y77 y75)
   (bD (au N d) N l c.Name c.Steps c.Fuel c.Vars c.Ports c.Timers c.States c.At names states 0 0 (fun y=>k 0 0 y) (fun y z w=>k z w y) m (IntKind.wrap .i64 (((pre.length:Nat):Int)+1)) y75))) 0 0 e.Kind e.Name e.Entry e.Exit e.Kids e.At e.Trans [] N n f rfl (by omega) h0 h1 hf
     rw[yv hf (Cr _ _ _)]at hfe
     rw[hfe]at g1 g2
     simp only[List.length_nil]at g1
     refine(show ∃n',_=_∧_ from ?_)
     rw[show(((0:Nat):Int))=0 from rfl]at g1
     rw[g1]
     by_cases hz:(elF (prR c names states) n e).1=0
     ·obtain⟨rfl,g3⟩:=g2 hz
      rw[if_pos (by simp[hz])]
      obtain⟨n2,g4,g5⟩:=ih R e.Kids (n+e.Trans.length) (fun(r78:Int)(r79:Int)(r80:Int)=>
  cb (au N d) N l pre.length c.Name c.Steps c.Fuel c.Vars c.Ports c.Timers c.States c.At r80 names states 0 0 r78 r79 (k r78 r79 r80)
   (bD (au N d) N l c.Name c.Steps c.Fuel c.Vars c.Ports c.Timers c.States c.At names states 0 0 (fun y=>k 0 0 y) (fun y z w=>k z w y) m (IntKind.wrap .i64 (((pre.length:Nat):Int)+1)) r80)) (by omega) (by omega) hok4 (by omega) g3
      rw[g4,c14,(YP _ _ _) hz,aS (av (xG _ _ _) (xG _ _ _))]
      by_cases hz2:(inF (prR c names states) (n+e.Trans.length) (flL e.Kids)).1=0
      ·obtain⟨rfl,g6⟩:=g5 hz2
       have hcp:=SQ (flL e.Kids)
       rw[if_pos hz2,hr]
       obtain⟨n3,g7,g8⟩:=ihr (pre++[e]) m (n+e.Trans.length+cnt (flL e.Kids)) (by rw[h];simp) (by simp at hm;omega) (by omega) g6
       rw[(xG _ _ _) hz2,aS (xG _ _ _)]
       exact⟨n3,g7,fun hz3=>by have:=g8 hz3;omega⟩
      ·rw[if_neg hz2,aU _ hz2]
       exact⟨n2,rfl,fun h3=>absurd h3 hz2⟩
     ·rw[if_neg (by simp[hz]),c14,if_neg hz,aU _ hz]
      exact⟨n1,rfl,fun h3=>absurd h3 hz⟩
    by_cases hz:(lr (prR c names states) e.Entry).1=0
    ·rw[if_pos (by simp[hz]),Jo c names states n hN hc hs _ _ (by omega),bq]
     refine c8 _ (ej _ _) ?_
     unfold elF
     rw[(ej _ _) hz,aS (av (ej _ _) (Cr _ _ _))]
    ·rw[if_neg (by simp[hz])]
     refine c8 _ (ej _ _) ?_
     unfold elF
     rw[aU _ hz,aU _ hz]
  exact key l [] N n0 rfl (by omega) hn0 hn1
theorem TR(c:Chart)(names states:List ae)(hN:big≤N)(hc:uU c)(hs:states.length<big)(hn:names.length<big)(l:List State)(k:Int→Int→Int→ab R)(h1:aV l<20000)(h2:nM l):
  ∃n',r12_looking_inner N l c.Name c.Steps c.Fuel c.Vars c.Ports c.Timers c.States c.At 0 names states k=k (inF (prR c names states) 0 (flL l)).1 (inF (prR c names states) 0 (flL l)).2 n':=by
 have hb:big=1000000000:=rfl
 unfold r12_looking_inner
 obtain⟨n',g,_⟩:=QK c names states hN hc hs hn N R l 0 k (by omega) h1 h2 (by omega) (by omega)
 exact⟨n',g⟩
end
def Uq(l:List State):Prop:=(l.map (·.Name)).Nodup
theorem TT{top:Bool}{out:List State}{s:State}(h:(iV top out s).1=0):∀x∈out,x.Name≠s.Name:=by
 unfold iV at h
 have h1:=(cV.1 (cV.1 h).2).1
 rw[wW (by decide)]at h1
 intro x hx hc
 have:=List.any_eq_false.1 (by simpa using h1:(out.any fun e=>e.Name==s.Name)=false) x hx
 simp[hc]at this
theorem XI{out:List State}{s:State}(h:Uq out)(hn:∀x∈out,x.Name≠s.Name):Uq (out++[s]):=by
 unfold Uq at *
 rw[List.map_append,List.nodup_append]
 refine⟨h,by simp,fun a ha b hb=>?_⟩
 obtain⟨x,hx,rfl⟩:=List.mem_map.1 ha
 simp only[List.map_cons,List.map_nil,List.mem_singleton]at hb
 subst hb
 exact hn x hx
theorem VI:∀(l:List State)(top:Bool)(out:List State),Uq out→(trL top out l).1=0→Uq (out++flL l):=by
 intro l
 refine State.rec_1 (motive_1:=fun s=>∀(top:Bool)(out:List State),Uq out→(tr1 top out s).1=0→Uq (out++flS s)) (motive_2:=fun l=>∀(top:Bool)(out:List State),Uq out→(trL top out l).1=0→Uq (out++flL l)) ?_ ?_ ?_ l
 ·intro k n en ex tr kids a ih top out hu h
  rw[DE]at h
  obtain⟨h1,h2⟩:=cV.1 h
  have:=ih false _ (XI hu (TT h1)) h2
  rw[bM]
  simpa using this
 ·intro top out hu _
  simpa[flL] using hu
 ·intro s r h1 h2 top out hu h
  simp only[trL]at h
  obtain⟨g1,g2⟩:=cV.1 h
  have:=h2 top _ (h1 top out hu g1) g2
  simpa[flL] using this
theorem Ob:∀{l:List State} (s:ae),Uq l→HL l s=(stN l).any fun e=>e==s
 | [],s,_=>rfl
 |x::r,s,h=>by
  have h':Uq r:=by unfold Uq at *;simp only[List.map_cons,List.nodup_cons]at h;exact h.2
  have hx:∀y∈r,y.Name≠x.Name:=by
   unfold Uq at h
   simp only[List.map_cons,List.nodup_cons]at h
   intro y hy hc
   exact h.1 (List.mem_map.2 ⟨y,hy,hc⟩)
  have ih:=Ob s h'
  have hst:stN (x::r)=(if isH x=true then stN r else x.Name::stN r):=by
   unfold stN
   cases hh:isH x<;>simp[List.filter_cons,hh]
  rw[hst]
  by_cases hn:x.Name=s
  ·have hnone:(stN r).any (fun e=>e==s)=false:=by
    rw[List.any_eq_false]
    intro e he hc
    unfold stN at he
    obtain⟨y,hy,rfl⟩:=List.mem_map.1 he
    have:=hx y (List.mem_filter.1 hy).1
    simp only[beq_iff_eq]at hc
    exact this (hc.trans hn.symm)
   unfold HL
   simp only[List.find?_cons,hn,beq_self_eq_true]
   cases hh:isH x<;>simp[hnone]
  ·have hb:(x.Name==s)=false:=by simpa using hn
   have:HL (x::r) s=HL r s:=by
    unfold HL
    simp only[List.find?_cons,hb]
   rw[this,ih]
   cases hh:isH x<;>simp[hb]
theorem ZH(c:Chart){l:List State}(h:Uq l):prR c (l.map (·.Name)) (stN l)=pO c l:=by
 unfold prR pO
 congr 1
 ·funext s;exact(Ob s h).symm
 ·funext s;exact Ju l s
section
variable{R:Type}{N:Nat}
theorem TU(pre:List Chart)(c:Chart)(rest l:List Chart)(k:Int→Int→ab R)(hN:big≤N)(hl:l.length<big)(hc:IB c)(h:l=pre++c::rest):Cx N l pre.length k=kf k (chartG pre c):=by
 have hb:big=1000000000:=rfl
 have hlen:l.length=pre.length+(rest.length+1):=by rw[h];simp
 obtain⟨c1,c2,c3,c4,c5⟩:=hc
 have hcl:uU c:=⟨c1,c2,c3⟩
 have hat:at? l pre.length=some c:=bU (by omega) (by rw[h];simp)
 have hll:=dD c.States
 unfold Cx
 rw[hat,Option.bind_some]
 generalize hrest:(((ifB (decide (c.Steps<2)) false (some (decide (c.Steps>16))) (some true)).bind fun c17=>
 (ifB c17 false (some (decide (c.Fuel<1))) (some true)).bind fun c18=>
 (ifB c18 false (some (decide (c.Fuel>4096))) (some true)).bind fun c19=>
 if c19=true then
  (k 16 c.At)
 else
  (qh N c.States (fun(r20:Bool)=>
 if(!r20)=true then
  (k 7 c.At)
 else
  (rD N c.Vars 8 (fun(r21:Int)(r22:Int)=>
 oo N 0 0 c.Name c.Steps c.Fuel c.Vars c.Ports c.Timers c.States c.At c.Name c.Steps c.Fuel c.Vars c.Ports c.Timers c.States c.At 0 r21 r22 (fun(y132:Int)(y133:Int)=>
 k y132 y133)))))):ab R)=rst
 have hs:=search (l:=pre) (fun e=>e.Name==c.Name) (fun j=>if j<0 then rst else k 8 c.At) (by omega) (fun n i=>na N l pre.length 0 0 c.Name c.Steps c.Fuel c.Vars c.Ports c.Timers c.States c.At rst (fun y=>k y c.At) n i) (fun n i e h0 h1 h2 h3 h4=>?_) (fun n i hd=>?_) N (by omega)
 ·refine Eq.trans hs ?_
  have hany:=kK (fun e:Chart=>e.Name==c.Name) pre
  unfold chartG
  by_cases hz:idx (fun e:Chart=>e.Name==c.Name) pre<0
  ·have ha:(pre.any fun e=>e.Name==c.Name)=false:=by
    have:=hany
    rw[decide_eq_true hz]at this
    simpa using this.symm
   rw[if_pos hz,ha,Bool.not_false,br,aS (Vv c),← hrest]
   simp only[bm,Option.bind_some]
   have hcnd:(((decide (c.Steps<2)||decide (c.Steps>16))||decide (c.Fuel<1))||decide (c.Fuel>4096)) = !(decide (c.Steps≥2)&&decide (c.Steps≤16)&&(decide (c.Fuel≥1)&&decide (c.Fuel≤4096))):=by
    rw[Bool.eq_iff_iff]
    simp only[Bool.or_eq_true,decide_eq_true_eq,Bool.not_eq_true',Bool.and_eq_false_iff,decide_eq_false_iff_not]
    omega
   rw[hcnd]
   unfold chF AW
   rcases Bool.eq_false_or_eq_true (decide (c.Steps≥2)&&decide (c.Steps≤16)&&(decide (c.Fuel≥1)&&decide (c.Fuel≤4096))) with h16|h16
   rotate_left
   ·rw[h16,Bool.not_false,if_pos rfl,bb,aU (a:=(16,c.At)) _ (by simp),aU (a:=(16,c.At)) _ (by simp)];rfl
   rw[h16,Bool.not_true,if_neg (by simp),br,DC _ _ hN (by omega),SM c5]
   rcases Bool.eq_false_or_eq_true (c.States.any fun e => !isH e) with h7|h7
   rotate_left
   ·rw[h7,Bool.not_false,if_pos rfl,bb,aU (a:=(7,c.At)) _ (by simp),aS (by intro h;simp at h),aU (a:=(7,c.At)) _ (by simp)];rfl
   rw[h7,Bool.not_true,if_neg (by simp),br]
   have n1:Nf (gP (nJ 8) [] c.Vars):=fW (sv _) _ _
   have n2:Nf (gP (nJ 6) [] c.Ports):=fW (sv _) _ _
   have n3:Nf (gP (nJ 6) [] c.Timers):=fW (sv _) _ _
   have n4:=xH c.States true []
   have n5:=xG (pO c (flL c.States)) (flL c.States) 0
   rw[aS (av wV (av n1 (av n2 n3))),aS (av n1 (av n2 n3))]
   rw[aW,aW,GY _ _ _ hN (by omega) (by omega),bq]
   -- the ends of the chain
   have c19:∀(f:Flt) x1 x2 nm st,Nf f→(f.1=0→nm=(flL c.States).map (·.Name)∧st=stN (flL c.States)∧(flL c.States).length≤63∧(trL true [] c.States).1=0)→ld N x1 x2 c.Name c.Steps c.Fuel c.Vars c.Ports c.Timers c.States c.At c.Name c.Steps c.Fuel c.Vars c.Ports c.Timers c.States c.At 0 nm st f.1 f.2 (fun y z=>k y z)=kf k (orF f (inF (pO c (flL c.States)) 0 (flL c.States))):=by
    intro f x1 x2 nm st hf hq
    unfold ld
    by_cases hz:f.1=0
    ·obtain⟨rfl,rfl,g3,g4⟩:=hq hz
     have hu:=VI c.States true [] (by simp[Uq]) g4
     have hsl:(stN (flL c.States)).length≤(flL c.States).length:=by unfold stN;rw[List.length_map];exact List.length_filter_le _ _
     rw[if_pos (by simp[hz])]
     obtain⟨n',g⟩:=TR c ((flL c.States).map (·.Name)) (stN (flL c.States)) hN hcl (by omega) (by simp;omega) c.States (fun r117 r118 _=>k r117 r118) (by omega) c5
     rw[g,ZH c (by simpa using hu),hf hz,aS n5];rfl
    ·rw[if_neg (by simp[hz]),aU _ hz];rfl
   have c17:∀(f:Flt) x1 x2,Nf f→oi N x1 x2 c.Name c.Steps c.Fuel c.Vars c.Ports c.Timers c.States c.At c.Name c.Steps c.Fuel c.Vars c.Ports c.Timers c.States c.At 0 f.1 f.2 (fun y z=>k y z)=kf k (orF f (orF (trL true [] c.States) (inF (pO c (flL c.States)) 0 (flL c.States)))):=by
    intro f x1 x2 hf
    unfold oi
    by_cases hz:f.1=0
    ·rw[if_pos (by simp[hz])]
     obtain⟨nm,st,g1,g2⟩:=TQ c 0 hN true c.States (fun(r90:Int)(r91:Int)(r92:List ae)(r93:List ae)=>
  ld N x1 x2 c.Name c.Steps c.Fuel c.Vars c.Ports c.Timers c.States c.At c.Name c.Steps c.Fuel c.Vars c.Ports c.Timers c.States c.At 0 r92 r93 r90 r91 (fun(y120:Int)(y121:Int)=>
  k y120 y121)) (by omega) c5
     rw[g1,c19 _ _ _ _ _ n4 (fun h0=>by obtain⟨q1,q2,q3⟩:=g2 h0;exact⟨q1,q2,q3,h0⟩),hf hz,aS (av n4 n5)]
    ·rw[if_neg (by simp[hz]),c19 _ _ _ _ _ hf (fun h0=>absurd h0 hz),aU _ hz,aU _ hz]
   have c15:∀(f:Flt) x1 x2,Nf f→om N x1 x2 c.Name c.Steps c.Fuel c.Vars c.Ports c.Timers c.States c.At c.Name c.Steps c.Fuel c.Vars c.Ports c.Timers c.States c.At 0 f.1 f.2 (fun y z=>k y z)=kf k (orF f (orF (gP (nJ 6) [] c.Timers) (orF (trL true [] c.States) (inF (pO c (flL c.States)) 0 (flL c.States))))):=by
    intro f x1 x2 hf
    unfold om
    by_cases hz:f.1=0
    ·rw[if_pos (by simp[hz]),GY _ _ _ hN (by omega) (by omega),bq,c17 _ _ _ n3,hf hz,aS (av n3 (av n4 n5))]
    ·rw[if_neg (by simp[hz]),c17 _ _ _ hf,aU _ hz,aU _ hz]
   have c13:∀(f:Flt) x1 x2,Nf f→oo N x1 x2 c.Name c.Steps c.Fuel c.Vars c.Ports c.Timers c.States c.At c.Name c.Steps c.Fuel c.Vars c.Ports c.Timers c.States c.At 0 f.1 f.2 (fun y z=>k y z)=kf k (orF f (orF (gP (nJ 6) [] c.Ports) (orF (gP (nJ 6) [] c.Timers) (orF (trL true [] c.States) (inF (pO c (flL c.States)) 0 (flL c.States)))))):=by
    intro f x1 x2 hf
    unfold oo
    by_cases hz:f.1=0
    ·rw[if_pos (by simp[hz]),GY _ _ _ hN (by omega) (by omega),bq,c15 _ _ _ n2,hf hz,aS (av n2 (av n3 (av n4 n5)))]
    ·rw[if_neg (by simp[hz]),c15 _ _ _ hf,aU _ hz,aU _ hz]
   exact c13 _ _ _ n1
  ·have ha:(pre.any fun e=>e.Name==c.Name)=true:=by
    have:=hany
    rw[decide_eq_false hz]at this
    simpa using this.symm
   rw[if_neg hz,ha,Bool.not_true,bb,aU (a:=(8,c.At)) _ (by simp)];rfl
 ·have hi:l[i.toNat]?=some e:=by rw[h,List.getElem?_append_left (by omega)];exact h4
  have hdc:decide (i<((pre.length:Nat):Int))=true:=h2
  simp only[na,ql,hdc,bU h0 hi,if_true,Option.bind_some]
  by_cases hn:(e.Name==c.Name)=true
  ·rw[if_pos hn,if_pos hn,if_neg (by omega)]
  ·rw[if_neg hn,if_neg hn]
 ·simp only[na,ql,hd]
  simp
end
theorem MJ{E:Type}(p:E→Bool)(x:E)(rest:List E)(hx:p x=true):∀pre:List E,decide (idx p (pre++x::rest)<((pre.length:Nat):Int))=pre.any p
 | []=>by simp[idx,hx]
 |e::r=>by
  have ih:=MJ p x rest hx r
  simp only[List.cons_append,idx,List.any_cons]
  cases he:p e with
  |true=>simp
  |false=>
   have hany:(r++x::rest).any p=true:=by simp[hx]
   have hge:¬idx p (r++x::rest)<0:=by
    have:=kK p (r++x::rest)
    rw[hany]at this
    exact of_decide_eq_false this
   simp only[Bool.false_eq_true,if_false,hge,Bool.false_or,← ih,List.length_cons]
   simp only[decide_eq_decide]
   omega
theorem VJ{E F:Type}(f:E→F)(g:F→Flt):∀(l:List E)(pre:List E)(pre2:List F),gP (fun _ y=>g y) pre2 (l.map f)=gP (fun _ x=>g (f x)) pre l
 | [],_,_=>rfl
 |e::r,pre,pre2=>by simp only[List.map_cons,gP];rw[VJ f g r (pre++[e]) (pre2++[f e])]
section
variable{R:Type}{N:Nat}
theorem TW(A:Int)(Cs:List Chart)(Is:List Inst)(Hs:List ak)(Es:List Cert)(k:Int→Int→ab R)(hN:big≤N)(hc:Cs.length<big)(hi:Is.length<big):zd N A Cs Is Hs Es k=kf k (gP (Av Cs) [] Is):=by
 have hb:big=1000000000:=rfl
 unfold zd
 have:=(yB (Av Cs) (EU Cs) (fun _=>True) k hi (fun n i=>ng N A Cs Is Hs Es 0 0 (k 0 0) (fun y z=>k y z) n i) (fun n pre e rest h _ h1 h2=>⟨?_,fun _=>trivial⟩) (k 0 0) (fun n h _=>?_) trivial N (by omega)).1
 ·rw[LV (fW (EU _) _ _)]at this
  exact this
 ·simp only[ng,qn,h1,h2,if_true,Option.bind_some]
  rw[zz _ _ _ _ _ _ _ hN hi,show decide (idx (fun x=>x.Name==e.Name) Is<((pre.length:Nat):Int))=pre.any (fun x=>x.Name==e.Name) by rw[h];exact MJ _ _ _ (by simp) _]
  unfold Av
  rcases Bool.eq_false_or_eq_true (pre.any fun x=>x.Name==e.Name) with h8|h8
  ·rw[if_pos h8,h8,Bool.not_true,bb,aU (a:=(8,e.At)) _ (by simp),if_neg (by simp)];rfl
  rw[if_neg (by simp[h8]),h8,Bool.not_false,br,HK _ _ _ _ _ _ _ hN hc,kK,aS (av (aT _ _ (by decide)) (aT _ _ (by decide)))]
  rcases Bool.eq_false_or_eq_true (Cs.any fun x=>x.Name==e.Chart) with h7|h7
  rotate_left
  ·rw[h7,Bool.not_false,if_pos rfl,bb,aU (a:=(7,e.At)) _ (by simp),if_neg (by simp)];rfl
  rw[h7,Bool.not_true,if_neg (by simp),br,aS (aT _ _ (by decide))]
  simp only[bm,Option.bind_some]
  have hcnd:(((((decide (e.Quantum<1)||decide (e.Quantum>65536))||decide (e.Ext<0))||decide (e.Ext>32))||decide (e.Prio<0))||decide (e.Prio>7)) = !((decide (e.Quantum≥1)&&decide (e.Quantum≤65536))&&(decide (e.Ext≥0)&&decide (e.Ext≤32))&&(decide (e.Prio≥0)&&decide (e.Prio≤7))):=by
   rw[Bool.eq_iff_iff]
   simp only[Bool.or_eq_true,decide_eq_true_eq,Bool.not_eq_true',Bool.and_eq_false_iff,decide_eq_false_iff_not]
   omega
  rw[hcnd]
  rcases Bool.eq_false_or_eq_true ((decide (e.Quantum≥1)&&decide (e.Quantum≤65536))&&(decide (e.Ext≥0)&&decide (e.Ext≤32))&&(decide (e.Prio≥0)&&decide (e.Prio≤7))) with hr|hr
  ·rw[hr,Bool.not_true,if_neg (by simp),br,if_pos rfl]
  ·rw[hr,Bool.not_false,if_pos rfl,bb,if_neg (by simp)];rfl
 ·simp only[ng,qn,h]
  simp
def Oc(Cs:List Chart)(Is:List Inst):Prop:=∀x∈Is,(Cs.any fun e=>e.Name==x.Chart)=true
theorem GZ{E:Type}(g:List E→E→Flt):∀(l pre:List E),(gP g pre l).1=0→∀x∈l,∃p,(g p x).1=0
 | [],_,_,x,hx=>by cases hx
 |e::r,pre,h,x,hx=>by
  simp only[gP]at h
  obtain⟨h1,h2⟩:=cV.1 h
  rcases List.mem_cons.1 hx with rfl|hx
  ·exact⟨pre,h1⟩
  ·exact GZ g r _ h2 x hx
theorem ZI{Cs:List Chart}{Is:List Inst}(h:(gP (Av Cs) [] Is).1=0):Oc Cs Is:=by
 intro x hx
 obtain⟨p,hp⟩:=GZ _ _ _ h x hx
 unfold Av at hp
 have:=(cV.1 (cV.1 hp).2).1
 rwa [wW (by decide)]at this
theorem xa{Cs:List Chart}{Is:List Inst}(h:Oc Cs Is)(n:ae):(db Cs Is n).isSome=Is.any fun e=>e.Name==n:=by
 rw[← HM]
 unfold db
 cases hf:Is.find? fun e=>e.Name==n with
 |none=>rfl
 |some i=>
  have:=h i (List.mem_of_find?_eq_some hf)
  rw[← HM]at this
  simpa using this
theorem Ha(n:ae)(A:Int)(Cs:List Chart)(Is:List Inst)(Hs:List ak)(Es:List Cert)(k:ae→Int→Int→(List ai)→(List ai)→(List ai)→(List State)→Int→ab R)(hN:big≤N)(hc:Cs.length<big)(hi:Is.length<big)(h:(db Cs Is n).isSome=true):
  tK N A Cs Is Hs Es n k=(fun c:Chart=>k c.Name c.Steps c.Fuel c.Vars c.Ports c.Timers c.States c.At) ((db Cs Is n).getD c0):=by
 unfold tK
 rw[zz _ _ _ _ _ _ _ hN hi]
 unfold db at h ⊢
 by_cases hz:idx (fun e=>e.Name==n) Is<0
 ·rw[uH hz]at h;simp at h
 ·obtain⟨e,h1,h2⟩:=tW hz
  rw[h2]at h ⊢
  simp only[h1,Option.bind_some]at h ⊢
  rw[HK _ _ _ _ _ _ _ hN hc]
  by_cases hz2:idx (fun x=>x.Name==e.Chart) Cs<0
  ·rw[uH hz2]at h;simp at h
  ·obtain⟨c,h3,h4⟩:=tW hz2
   simp only[h3,h4,Option.bind_some]
   rfl
theorem Od(pre rest l:List ak)(a b:ae)(A:Int)(Cs:List Chart)(Is:List Inst)(Es:List Cert)(k:Bool→ab R)(hN:big≤N)(hl:l.length<big)(h:l=pre++rest):BR N A Cs Is l Es pre.length a b k=k (pre.any fun y=>y.From==a&&y.Port==b):=by
 have hb:big=1000000000:=rfl
 have hlen:pre.length≤l.length:=by rw[h];simp
 unfold BR
 rw[← bG]
 refine search (fun y:ak=>y.From==a&&y.Port==b) (fun j=>k (decide (j≥0))) (by omega) (fun n i=>pD N pre.length a b A Cs Is l Es (k false) (fun y=>k y) n i) (fun n i e h0 h1 h2 h3 h4=>?_) (fun n i h=>?_) N (by omega)
 ·have hi:l[i.toNat]?=some e:=by rw[h,List.getElem?_append_left (by omega)];exact h4
  simp only[pD,rY,h2,bU h0 hi,if_true,Option.bind_some,aD]
  split
  ·simp[h0]
  ·rfl
 ·simp only[pD,rY,h]
  simp
theorem TX(A:Int)(Cs:List Chart)(Is:List Inst)(Hs:List ak)(Es:List Cert)(k:Int→Int→ab R)(hN:big≤N)(hc:Cs.length<big)(hi:Is.length<big)(hh:Hs.length<big)(hcs:∀c∈Cs,Jm c)(hall:Oc Cs Is):
  zf N A Cs Is Hs Es k=kf k (orF (gP (Aw Cs Is) [] Hs) (gP (fun _ x=>wY Cs Is Hs x) [] Is)):=by
 have hb:big=1000000000:=rfl
 have hports:∀n,(((db Cs Is n).getD c0).Ports.length:Int)≤16385:=fun n=>(ET Vu hcs n).1.2.1
 unfold zf
 -- ports of instances
 have l3:=(yB (fun _ x=>wY Cs Is Hs x) (fun _ x=>Bb _ _ _ x) (fun _=>True) k hi (fun n i=>jf N A Cs Is Hs Es 0 0 (k 0 0) (fun y z=>k y z) n i) (fun n pre e rest h _ h1 h2=>⟨?_,fun _=>trivial⟩) (k 0 0) (fun n h _=>?_) trivial N (by omega)).1
 rw[LV (fW (fun _ x=>Bb _ _ _ x) _ _)]at l3
 rw[l3]
 have l0:=(yB (Aw Cs Is) (EV Cs Is) (fun _=>True) k hh (fun n i=>nk N A Cs Is Hs Es 0 0 (kf k (gP (fun _ x=>wY Cs Is Hs x) [] Is)) (fun y z=>k y z) n i) (fun n pre e rest h _ h1 h2=>⟨?_,fun _=>trivial⟩) (kf k (gP (fun _ x=>wY Cs Is Hs x) [] Is)) (fun n h _=>?_) trivial N (by omega)).1
 ·refine Eq.trans l0 ?_
  have:=fW (EV Cs Is) Hs []
  by_cases hz:(gP (Aw Cs Is) [] Hs).1=0
  ·rw[if_pos hz,this hz,aS (fW (fun _ x=>Bb _ _ _ x) _ _)]
  ·rw[if_neg hz,aU _ hz]
 ·simp only[nk,qp,h1,h2,if_true,Option.bind_some]
  rw[DD _ _ _ _ _ _ _ hN hh,show decide (idx (fun x=>x.Name==e.Name) Hs<((pre.length:Nat):Int))=pre.any (fun x=>x.Name==e.Name) by rw[h];exact MJ _ _ _ (by simp) _]
  unfold Aw
  rcases Bool.eq_false_or_eq_true (pre.any fun x=>x.Name==e.Name) with h8|h8
  ·rw[if_pos h8,h8,Bool.not_true,bb,aU (a:=(8,e.At)) _ (by simp),if_neg (by simp)];rfl
  rw[if_neg (by simp[h8]),h8,Bool.not_false,br,aS (av (aT _ _ (by decide)) (av (aT _ _ (by decide)) (aT _ _ (by decide))))]
  simp only[zz _ _ _ _ _ _ _ hN hi,kK]
  have hof:(ifB (!Is.any fun x=>x.Name==e.From) false (tK N A Cs Is Hs Es e.From (fun(r12:ae)(r13:Int)(r14:Int)(r15:List ai)(r16:List ai)(r17:List ai)(r18:List State)(r19:Int)=>
  jI N r16 (fun(r20:List ae)=>
  fD N r20 e.Port (fun(r21:Bool)=>
  some (!r21))))) (some true))=some (!((db Cs Is e.From).isSome&&((db Cs Is e.From).getD c0).Ports.any fun x=>x.Name==e.Port)):=by
   have hs:=xa hall e.From
   rcases Bool.eq_false_or_eq_true (Is.any fun x=>x.Name==e.From) with hf|hf
   ·rw[hf]at hs
    have hp:=hports e.From
    rw[Ha _ _ _ _ _ _ _ hN hc hi hs]
    dsimp only
    rw[rm _ _ hN (by omega),eM _ _ _ hN (by simp;omega),tX,hf,hs]
    simp[ifB]
   ·rw[hf]at hs
    rw[hf,hs]
    simp[ifB]
  rw[hof]
  simp only[bm,Option.bind_some]
  have hcnd:(!((db Cs Is e.From).isSome&&((db Cs Is e.From).getD c0).Ports.any fun x=>x.Name==e.Port) || !Is.any fun x=>x.Name==e.To) = !((db Cs Is e.From).isSome&&(db Cs Is e.To).isSome&&((db Cs Is e.From).getD c0).Ports.any fun x=>x.Name==e.Port):=by
   rw[xa hall e.To]
   generalize(db Cs Is e.From).isSome=q1
   generalize(((db Cs Is e.From).getD c0).Ports.any fun x=>x.Name==e.Port)=q2
   generalize(Is.any fun x=>x.Name==e.To)=q3
   cases q1<;>cases q2<;>cases q3<;>rfl
  rw[hcnd]
  unfold zV
  rcases Bool.eq_false_or_eq_true ((db Cs Is e.From).isSome&&(db Cs Is e.To).isSome&&((db Cs Is e.From).getD c0).Ports.any fun x=>x.Name==e.Port) with h7|h7
  rotate_left
  ·rw[h7,Bool.not_false,if_pos rfl,bb,aU (a:=(7,e.At)) _ (by simp),if_neg (by simp)];rfl
  rw[h7,Bool.not_true,if_neg (by simp),br,aS (av (aT _ _ (by decide)) (aT _ _ (by decide))),Od pre (e::rest) Hs _ _ _ _ _ _ _ hN hh h]
  rcases Bool.eq_false_or_eq_true (pre.any fun y=>y.From==e.From&&y.Port==e.Port) with h9|h9
  ·rw[h9,Bool.not_true,if_pos rfl,bb,aU (a:=(8,e.At)) _ (by simp),if_neg (by simp)];rfl
  rw[h9,if_neg (by simp),Bool.not_false,br,aS (aT _ _ (by decide))]
  simp only[bm,Option.bind_some]
  have hcnd:(((decide (e.Cap<1)||decide (e.Cap>32))||decide (e.Prio<0))||decide (e.Prio>7)) = !((decide (e.Cap≥1)&&decide (e.Cap≤32))&&(decide (e.Prio≥0)&&decide (e.Prio≤7))):=by
   rw[Bool.eq_iff_iff]
   simp only[Bool.or_eq_true,decide_eq_true_eq,Bool.not_eq_true',Bool.and_eq_false_iff,decide_eq_false_iff_not]
   omega
  rw[hcnd]
  rcases Bool.eq_false_or_eq_true ((decide (e.Cap≥1)&&decide (e.Cap≤32))&&(decide (e.Prio≥0)&&decide (e.Prio≤7))) with hr|hr
  ·rw[hr,Bool.not_true,if_neg (by simp),br,if_pos rfl]
  ·rw[hr,Bool.not_false,if_pos rfl,bb,if_neg (by simp)];rfl
 ·simp only[nk,qp,h]
  simp
 ·have he:e∈Is:=by rw[h];simp
  have hs:(db Cs Is e.Name).isSome=true:=by
   rw[xa hall,List.any_eq_true]
   exact⟨e,he,by simp⟩
  have hp:=hports e.Name
  simp only[jf,qt,h1,h2,if_true,Option.bind_some]
  rw[Ha _ _ _ _ _ _ _ hN hc hi hs]
  dsimp only
  rw[rm _ _ hN (by omega)]
  have l5:=(yB (l:=((db Cs Is e.Name).getD c0).Ports.map (·.Name)) (fun _ nm=>chk (Hs.any fun y=>y.From==e.Name&&y.Port==nm) 7 e.At) (fun _ _=>aT _ _ (by decide)) (fun _=>True) k (by simp;omega) (fun m i=>nq N pre.length (((db Cs Is e.Name).getD c0).Ports.map (·.Name)) A Cs Is Hs Es 0 0 (jf N A Cs Is Hs Es 0 0 (k 0 0) (fun y z=>k y z) n (IntKind.wrap .i64 (((pre.length:Nat):Int)+1))) (fun y z=>k y z) m i) (fun m pre2 nm rest2 h' _ h1' h2'=>⟨?_,fun _=>trivial⟩) (jf N A Cs Is Hs Es 0 0 (k 0 0) (fun y z=>k y z) n (IntKind.wrap .i64 (((pre.length:Nat):Int)+1))) (fun m h' _=>?_) trivial N (by simp;omega)).1
  ·rw[VJ (fun n:ai=>n.Name) (fun nm=>chk (Hs.any fun y=>y.From==e.Name&&y.Port==nm) 7 e.At) _ [] []]at l5
   exact l5
  ·simp only[nq,qq,h1',h2',h2,if_true,Option.bind_some]
   rw[Od Hs [] Hs _ _ _ _ _ _ _ hN hh (by simp)]
   rcases Bool.eq_false_or_eq_true (Hs.any fun y=>y.From==e.Name&&y.Port==nm) with h7|h7
   ·rw[h7,Bool.not_true,if_neg (by simp),br,if_pos rfl]
   ·rw[h7,Bool.not_false,if_pos rfl,bb,if_neg (by simp)];rfl
  ·simp only[nq,qq,h']
   simp
 ·simp only[jf,qt,h]
  simp
end
def tri(n:Node):Int×Int×ae:=(n.Kind,n.Parent,n.Name)
def lH(s:State):Int:=if s.Kind=3 then 4 else if s.Kind=4 then 5 else if s.Kind=2 then 3 else if s.Kids.length=0 then 1 else 2
mutual
def nS(up i:Int):State→List (Int×Int×State)
 |⟨k,n,en,ex,tr,kids,a⟩=>(i,up,⟨k,n,en,ex,tr,kids,a⟩)::nL i (i+1) kids
def nL(up i:Int):List State→List (Int×Int×State)
 | []=>[]
 |s::r=>nS up i s++nL up (i+(flS s).length) r
end
theorem MK(up i:Int)(s:State):nS up i s=(i,up,s)::nL i (i+1) s.Kids:=by cases s;simp[nS]
def Fa(x:Int×Int×State):Int×Int×ae:=(lH x.2.2,x.2.1,x.2.2.Name)
theorem lX:∀(l:List State)(up i:Int),(nL up i l).map (·.2.2)=flL l:=by
 intro l
 refine State.rec_1 (motive_1:=fun s=>∀up i,(nS up i s).map (·.2.2)=flS s) (motive_2:=fun l=>∀up i,(nL up i l).map (·.2.2)=flL l) ?_ ?_ ?_ l
 ·intro k n en ex tr kids a ih up i
  rw[MK,bM,List.map_cons,ih]
 ·intro up i;simp[nL,flL]
 ·intro s r h1 h2 up i
  simp only[nL,flL,List.map_append,h1,h2]
theorem uY(l:List State)(up i:Int):(nL up i l).length=(flL l).length:=by rw[← lX l up i,List.length_map]
theorem Bd{l:List Node}{i:Nat}{x y:Node}(h:l[i]?=some y)(ht:tri x=tri y):(l.set i x).map tri=l.map tri:=by
 rw[List.map_set]
 have:(l.map tri)[i]?=some (tri y):=by rw[List.getElem?_map,h];rfl
 rw[ht]
 obtain⟨hi,hv⟩:=List.getElem?_eq_some_iff.1 this
 rw[← hv]
 exact List.set_getElem_self hi
section
variable{R:Type}{N:Nat}
theorem TY(hN:big≤N):∀(d:Nat)(R:Type)(l:List State)(k:Bool→ab R),aV l<d→aV l<20000→nM l→(cW N d).r12_history R l k=k ((flL l).any isH):=by
 have hb:big=1000000000:=rfl
 intro d
 induction d with
 |zero=>intro R l k h;have:=bR l;omega
 |succ d ih=>
  intro R l k hd hs hok
  have hll:=dD l
  rw[Kc]
  unfold oq
  have hany:∀l:List State,(flL l).any isH=l.any fun s=>(flS s).any isH:=by
   intro l
   induction l with
   |nil=>rfl
   |cons s r ih=>simp only[flL,List.any_append,List.any_cons,ih]
  rw[hany,← bG]
  refine search (l:=l) (fun s=>(flS s).any isH) (fun j=>k (decide (j≥0))) (by omega) (fun n i=>jL (cW N d) N l (k false) (fun y=>k y) n i) (fun n i e h0 h1 h2 h3 h4=>?_) (fun n i h=>?_) N (by omega)
  ·have he:e∈l:=List.mem_of_getElem? h4
   have hoe:=yC hok e he
   have:=uX l e he
   have:=kM e
   simp only[jL,nr,h2,h3,if_true,Option.bind_some]
   rw[rk,Jt hoe,Bool.not_not]
   simp only[ih _ _ _ (show aV e.Kids<d by omega) (show aV e.Kids<20000 by omega) (oc hoe).2.2,bm,Option.bind_some]
   rw[bM,List.any_cons]
   split
   ·simp[h0]
   ·rfl
  ·simp only[jL,nr,h]
   simp
theorem VK(hN:big≤N)(l:List State)(k:Bool→ab R)(h1:aV l<20000)(h2:nM l):r12_history N l k=k ((flL l).any isH):=by
 have hb:big=1000000000:=rfl
 unfold r12_history
 exact TY hN N R l k (by omega) h1 h2
theorem XJ(s:State)(k:Int→ab R):FX N s.Kind s.Name s.Entry s.Exit s.Trans s.Kids s.At k=k (lH s):=by
 unfold FX lH
 by_cases h3:s.Kind=3
 ·rw[if_pos (by simp[h3]),if_pos h3]
 rw[if_neg (by simp[h3]),if_neg h3]
 by_cases h4:s.Kind=4
 ·rw[if_pos (by simp[h4]),if_pos h4]
 rw[if_neg (by simp[h4]),if_neg h4]
 by_cases h2:s.Kind=2
 ·rw[if_pos (by simp[h2]),if_pos h2]
 rw[if_neg (by simp[h2]),if_neg h2]
 by_cases hz:s.Kids.length=0
 ·rw[if_pos (by simp[hz]),if_pos hz]
 ·rw[if_neg (by simpa using hz),if_neg hz]
theorem XK(hN:big≤N):∀(d:Nat)(R:Type)(kids:List State)(up:Int)(l:List Node)(k:List Node→ab R),aV kids<d→aV kids<20000→0≤up→up<l.length→l.length+aV kids<100000 →
  ∃l',(cD N d).r13_put R kids up l k=k l'∧l'.map tri=l.map tri++(nL up l.length kids).map Fa:=by
 have hb:big=1000000000:=rfl
 intro d
 induction d with
 |zero=>intro R kids up l k h;have:=bR kids;omega
 |succ d ih=>
  intro R kids up l k hd hs hu0 hu1 hlen
  rw[Rt]
  unfold zg
  have hll:=dD kids
  have key:∀(rest pre:List State)(n:Nat)(l:List Node),kids=pre++rest→rest.length<n→up<l.length→l.length+aV rest<100000 →
    ∃l',ky (cD N d) N kids up (fun y=>k y) n pre.length l=k l'∧l'.map tri=l.map tri++(nL up l.length rest).map Fa:=by
   intro rest
   induction rest with
   |nil=>
    intro pre n l h hn _ _
    obtain⟨n,rfl⟩:∃m,n=m+1:=⟨n-1,by omega⟩
    have:kids=pre:=by simpa using h
    subst this
    exact⟨l,by simp[ky,uq],by simp[nL]⟩
   |cons e r ihr=>
    intro pre n l h hn hul hsz
    obtain⟨n,rfl⟩:∃m,n=m+1:=⟨n-1,by omega⟩
    have hlen:kids.length=pre.length+(r.length+1):=by rw[h];simp
    have he:e∈kids:=by rw[h];simp
    have hes:=uX kids e he
    have hk:=kM e
    have hrp:=bR r;have hkp:=bR e.Kids
    obtain⟨_,f2,_⟩:=MB e.Kids
    simp only[aV]at hsz
    have hat:at? kids pre.length=some e:=bU (by omega) (by rw[h];simp)
    have hdc:decide (((pre.length:Nat):Int)<((kids.length:Nat):Int))=true:=by simp;omega
    have hr:IntKind.wrap .i64 (((pre.length:Nat):Int)+1)=(((pre++[e]).length:Nat):Int):=by rw[wr _ (by omega) (by omega)];simp
    simp only[ky,uq,hdc,hat,if_true,Option.bind_some]
    rw[XJ,if_pos (by simp[ah];omega)]
    generalize hnd:(⟨lH e,up,0,(-1),(-1),(-1),e.Name⟩:Node)=nd
    have hl1:(l++[nd]).length=l.length+1:=by simp
    have hg1:(0:Int)≤up∧up<((l++[nd]).length:Int):=⟨hu0,by omega⟩
    have hg2:(0:Int)≤((l.length:Nat):Int)∧((l.length:Nat):Int)<((l++[nd]).length:Int):=⟨by omega,by omega⟩
    obtain⟨y,hy⟩:∃y,(l++[nd])[up.toNat]?=some y:=⟨_,List.getElem?_eq_getElem (by omega)⟩
    have hz:(l++[nd])[((l.length:Nat):Int).toNat]?=some nd:=by simp
    have htl:(l++[nd]).map tri=l.map tri++[Fa (l.length,up,e)]:=by
     rw[← hnd];simp[tri,Fa]
    -- the end of a round
    have c8:∀l2:List Node,l2.map tri=l.map tri++[Fa (l.length,up,e)]→∃l',vP (cD N d) N kids up pre.length ((l.length:Nat):Int) l2 (fun(y36:List Node)=>ky (cD N d) N kids up (fun y=>k y) n (IntKind.wrap .i64 (((pre.length:Nat):Int)+1)) y36)=k l'∧l'.map tri=l.map tri++(nL up l.length (e::r)).map Fa:=by
     intro l2 h2
     have hl2:l2.length=l.length+1:=by have:=congrArg List.length h2;simpa using this
     unfold vP
     rw[hat,Option.bind_some]
     obtain⟨l3,g1,g2⟩:=ih R e.Kids l.length l2 (fun(r20:List Node)=>
 if(0:Int)≤((l.length:Nat):Int)∧((l.length:Nat):Int)<(r20.length:Int) then(match r20[((l.length:Nat):Int).toNat]? with
  |some e21=>(ky (cD N d) N kids up (fun y=>k y) n (IntKind.wrap .i64 (((pre.length:Nat):Int)+1)) (r20.set ((l.length:Nat):Int).toNat (⟨e21.Kind,e21.Parent,IntKind.wrap .i64 (((r20.length:Nat):Int)-1),e21.Init,e21.Entry,e21.Exit,e21.Name⟩:Node)))
  |none=>none) else none) (by omega) (by omega) (by omega) (by omega) (by omega)
     have hl3:l3.length=l.length+1+(flL e.Kids).length:=by
      have:=congrArg List.length g2
      simp only[List.length_map,List.length_append,uY]at this
      omega
     obtain⟨w,hw⟩:∃w,l3[((l.length:Nat):Int).toNat]?=some w:=⟨_,List.getElem?_eq_getElem (by omega)⟩
     rw[if_pos ⟨by omega,by omega⟩,hw]at g1
     dsimp only at g1
     rw[hr]at g1 ⊢
     suffices hsuf:∃l',ky (cD N d) N kids up (fun y=>k y) n (((pre++[e]).length:Nat):Int) (l3.set ((l.length:Nat):Int).toNat (⟨w.Kind,w.Parent,IntKind.wrap .i64 (((l3.length:Nat):Int)-1),w.Init,w.Entry,w.Exit,w.Name⟩:Node))=k l'∧l'.map tri=l.map tri++(nL up l.length (e::r)).map Fa by
      obtain⟨l',q1,q2⟩:=hsuf
      exact⟨l',g1.trans q1,q2⟩
     generalize hl4:l3.set ((l.length:Nat):Int).toNat (⟨w.Kind,w.Parent,IntKind.wrap .i64 (((l3.length:Nat):Int)-1),w.Init,w.Entry,w.Exit,w.Name⟩:Node)=l4
     have ht4:l4.map tri=l3.map tri:=by rw[← hl4];exact Bd hw (x:=⟨w.Kind,w.Parent,IntKind.wrap .i64 (((l3.length:Nat):Int)-1),w.Init,w.Entry,w.Exit,w.Name⟩) rfl
     have hl4':l4.length=l3.length:=by rw[← hl4];simp
     obtain⟨l5,g3,g4⟩:=ihr (pre++[e]) n l4 (by rw[h];simp) (by simp at hn;omega) (by omega) (by omega)
     refine⟨l5,g3,?_⟩
     rw[g4,ht4,g2,h2]
     have e1:((l4.length:Nat):Int)=(l.length:Int)+((flS e).length:Int):=by rw[bM,List.length_cons];omega
     have e2:((l2.length:Nat):Int)=(l.length:Int)+1:=by omega
     rw[e1,e2]
     simp[nL,MK,Fa]
    rw[if_pos hg1,hy]
    dsimp only
    rw[if_pos hg1,if_pos hg2,hz]
    dsimp only
    simp only[aD,Option.bind_some]
    split
    ·exact c8 _ ((Bd hy (x:=⟨y.Kind,y.Parent,y.Last,((l.length:Nat):Int),y.Entry,y.Exit,y.Name⟩) rfl).trans htl)
    ·exact c8 _ htl
  exact key kids [] N l rfl (by omega) hu1 hlen
def Tn(c:Chart):List (Int×Int×ae):=(2,-1,[])::(nL 0 1 c.States).map Fa
theorem Oe(c:Chart)(k:List Node→ab R)(hN:big≤N)(h:aV c.States<20000):∃nd,zh N c.Name c.Steps c.Fuel c.Vars c.Ports c.Timers c.States c.At k=k nd∧nd.map tri=Tn c:=by
 have hb:big=1000000000:=rfl
 unfold zh r13_put
 obtain⟨l,g1,g2⟩:=XK hN N R c.States 0 [(⟨2,(-1),0,(-1),(-1),(-1),[]⟩:Node)] (fun(r1:List Node)=>
 if(0:Int)≤0∧0<(r1.length:Int) then(match r1[(Int.toNat 0)]? with
  |some e2=>(k (r1.set (Int.toNat 0) (⟨e2.Kind,e2.Parent,IntKind.wrap .i64 (((r1.length:Nat):Int)-1),e2.Init,e2.Entry,e2.Exit,e2.Name⟩:Node)))
  |none=>none) else none) (by omega) h (by omega) (by simp) (by simp;omega)
 have hl:l.length=1+(flL c.States).length:=by
  have:=congrArg List.length g2
  simpa[uY,Nat.add_comm] using this
 obtain⟨w,hw⟩:∃w,l[Int.toNat 0]?=some w:=⟨_,List.getElem?_eq_getElem (by show 0<l.length;omega)⟩
 rw[if_pos ⟨by omega,by omega⟩,hw]at g1
 refine⟨_,g1,?_⟩
 refine(Bd hw (x:=⟨w.Kind,w.Parent,IntKind.wrap .i64 (((l.length:Nat):Int)-1),w.Init,w.Entry,w.Exit,w.Name⟩) rfl).trans ?_
 rw[g2]
 simp[Tn,tri]
theorem Of(nd:List Node)(nm:ae)(k:Int→ab R)(hN:big≤N)(hl:nd.length<big):zi N nd nm k=k (if idx (fun e:Node=>e.Name==nm) (nd.drop 1)<0 then -1 else idx (fun e:Node=>e.Name==nm) (nd.drop 1)+1):=by
 have hb:big=1000000000:=rfl
 unfold zi
 have hdl:(nd.drop 1).length=nd.length-1:=by simp
 refine search (l:=nd.drop 1) (fun e:Node=>e.Name==nm) (fun j=>k (if j<0 then -1 else j+1)) (by omega) (fun n i=>pE N nd nm (k (-1)) (fun y=>k y) n (i+1)) (fun n i e h0 h1 h2 h3 h4=>?_) (fun n i h=>?_) N (by omega)
 ·have hi:nd[(i+1).toNat]?=some e:=by
   rw[List.getElem?_drop]at h4
   rw[show(i+1).toNat=1+i.toNat by omega];exact h4
  have hdc:decide (i+1<((nd.length:Nat):Int))=true:=by simp;omega
  simp only[pE,sa,hdc,bU (show 0≤i+1 by omega) hi,if_true,Option.bind_some]
  rw[wr (i+1+1) (by omega) (by omega),wr (i+1) (by omega) (by omega)]
  by_cases hn:(e.Name==nm)=true
  ·rw[if_pos hn,if_pos hn,if_neg (by omega)]
  ·rw[if_neg hn,if_neg hn]
 ·have hdc:decide (i+1<((nd.length:Nat):Int))=false:=by
   have:=of_decide_eq_false h
   simp;omega
  simp only[pE,sa,hdc]
  simp
end
def mJ(l:List Int)(q:Int):Bool:=l.any fun e=>e==q
theorem kN{l:List Int}{q:Int}:mJ l q=true↔q∈l:=by
 unfold mJ
 rw[List.any_eq_true]
 constructor
 ·rintro⟨x,hx,h⟩;simp only[beq_iff_eq]at h;exact h▸hx
 ·intro h;exact⟨q,h,by simp⟩
def ofF(all:List Int):Nat→Int→List Int
 |0,_=>[]
 |m+1,i=>(if mJ all i=true then[i] else[])++ofF all m (i+1)
def ofL(all:List Int):List Int:=ofF all 128 0
theorem Fb(all:List Int):∀(m:Nat)(i q:Int),q∈ofF all m i↔(i≤q∧q<i+m)∧q∈all
 |0,i,q=>by simp[ofF];omega
 |m+1,i,q=>by
  simp only[ofF,List.mem_append,Fb all m (i+1) q]
  by_cases hq:q=i
  ·subst hq
   by_cases h:mJ all q=true
   ·simp[h,kN.1 h];omega
   ·have:q∉all:=fun hc=>h (kN.2 hc)
    simp[h,this]
  ·by_cases h:mJ all i=true
   ·simp[h,hq];omega
   ·simp[h];omega
theorem Jw(all:List Int):∀(m:Nat)(i:Int),(ofF all m i).Pairwise (· < ·)
 |0,i=>by simp[ofF]
 |m+1,i=>by
  simp only[ofF]
  rw[List.pairwise_append]
  refine⟨by split<;>simp,Jw all m (i+1),fun a ha b hb=>?_⟩
  have hb':=(Fb all m (i+1) b).1 hb
  split at ha
  ·simp only[List.mem_singleton]at ha;omega
  ·simp at ha
theorem SS(all:List Int):∀(m:Nat)(i:Int),(ofF all m i).length≤m
 |0,i=>by simp[ofF]
 |m+1,i=>by
  have:=SS all m (i+1)
  simp only[ofF,List.length_append]
  split<;>simp<;>omega
def kI(q:Int):Int→List Node→List Int
 |_,[]=>[]
 |i,x::r=>(if(x.Parent==q)=true then[i] else[])++kI q (i+1) r
theorem VL(q:Int):∀(l:List Node)(i k:Int),k∈kI q i l→∃x,i≤k∧l[(k-i).toNat]?=some x∧x.Parent=q
 |x::r,i,k,h=>by
  simp only[kI,List.mem_append]at h
  rcases h with h|h
  ·split at h
   ·rename_i hp
    simp only[List.mem_singleton]at h
    subst h
    exact⟨x,by omega,by simp,by simpa using hp⟩
   ·simp at h
  ·obtain⟨y,h1,h2,h3⟩:=VL q r (i+1) k h
   refine⟨y,by omega,?_,h3⟩
   rw[show(k-i).toNat=(k-(i+1)).toNat+1 by omega]
   simpa using h2
theorem QL(q:Int):∀(l:List Node)(i:Int),(kI q i l).length≤l.length
 | [],i=>by simp[kI]
 |x::r,i=>by
  have:=QL q r (i+1)
  simp only[kI,List.length_append,List.length_cons]
  split<;>simp<;>omega
def sx(nd:List Node)(k:Int):Int:=((nd[k.toNat]?).map (·.Parent)).getD (-1)
def kdI(nd:List Node)(k:Int):Int:=((nd[k.toNat]?).map (·.Kind)).getD 0
def chn(par:Int→Int):Nat→Int→List Int
 |0,_=>[]
 |m+1,k=>if k<0 then[] else k::chn par m (par k)
theorem SU(par:Int→Int):∀(m:Nat)(k:Int),(chn par m k).length≤m
 |0,_=>by simp[chn]
 |m+1,k=>by
  have:=SU par m (par k)
  simp only[chn]
  split<;>simp;omega
def VM(nd:List Node):Prop:=nd.length≤64∧∀(i:Nat) x,nd[i]?=some x→x.Kind≤3 ∧ -1≤x.Parent∧x.Parent<i∧(0<i→0≤x.Parent)
def yE(nd:List Node)(conf:List Int)(q:Int):Bool := !((kdI nd q==2)&&((((kI q 0 nd).filter (mJ conf)).length:Int) != 1)) && !((kdI nd q==3)&&((((kI q 0 nd).filter (mJ conf)).length:Int) != (((kI q 0 nd).length:Nat):Int)))
def Og(nd:List Node)(pre:List Int)(a:Int):Bool := !(decide (a≥0)&&decide (a<((nd.length:Nat):Int)))||(kdI nd a != 1)||mJ pre a
def okA(nd:List Node):List Int→List Int→Bool
 |_,[]=>true
 |pre,a::r => !Og nd pre a&&okA nd (pre++[a]) r
def rp(nd:List Node)(l:List Int):List Int:=l.flatMap fun a=>chn (sx nd) 64 a
def Jx(nd:List Node)(atoms:List Int):Bool:=okA nd [] atoms&&(mJ (ofL (rp nd atoms)) 0&&(ofL (rp nd atoms)).all (yE nd (ofL (rp nd atoms))))
section
variable{R:Type}{N:Nat}
theorem YQ(all:List Int)(k:List Int→ab R)(hN:big≤N)(hl:all.length<big):Mi N all k=k (ofL all):=by
 have hb:big=1000000000:=rfl
 unfold Mi
 have key:∀(m n:Nat)(i:Int)(out:List Int),i+m=128→0≤i→(out.length:Int)≤i→m<n→zj N all (fun y=>k y) n i out=k (out++ofF all m i):=by
  intro m
  induction m with
  |zero=>
   intro n i out h h0 ho hn
   obtain⟨n,rfl⟩:∃q,n=q+1:=⟨n-1,by omega⟩
   have:decide (i<128)=false:=by simp;omega
   simp[zj,zX,this,ofF]
  |succ m ih=>
   intro n i out h h0 ho hn
   obtain⟨n,rfl⟩:∃q,n=q+1:=⟨n-1,by omega⟩
   have:decide (i<128)=true:=by simp;omega
   simp only[zj,zX,this,if_true]
   rw[AV _ _ _ hN hl,wr (i+1) (by omega) (by omega)]
   simp only[ofF]
   by_cases hh:mJ all i=true
   ·rw[if_pos (show(all.any fun e=>e==i)=true from hh),if_pos hh,if_pos (by simp[ah];omega),ih n (i+1) _ (by omega) (by omega) (by simp;omega) (by omega)]
    simp
   ·rw[if_neg (show ¬(all.any fun e=>e==i)=true from hh),if_neg hh,ih n (i+1) _ (by omega) (by omega) (by omega) (by omega)]
    simp
 have:=key 128 N 0 [] (by omega) (by omega) (by simp) (by omega)
 simpa[ofL] using this
theorem SV(a b:List Int)(k:List Int→ab R)(hN:big≤N)(ha:a.length<big)(hb':b.length<big):Kf N a b k=k (a.filter fun x => !mJ b x):=by
 have hb:big=1000000000:=rfl
 unfold Kf
 have:=MF (fun _ e (o:List Int)=>if mJ b e=true then o else o++[e]) (fun pre o=>o.length≤pre.length) k (l:=a) ha (fun n i o=>uL N a b (fun y=>k y) n i o) (fun n pre e rest o h hi h1 h2=>⟨?_,by split<;>simp<;>omega⟩) (fun n o hi=>?_) a [] [] N rfl (by simp) (by omega)
 ·rw[jR (fun(o:List Int) e=>if mJ b e=true then o else o++[e])]at this
  refine Eq.trans this ?_
  congr 1
  have:∀(l o:List Int),l.foldl (fun(o:List Int) e=>if mJ b e=true then o else o++[e]) o=o++l.filter fun x => !mJ b x:=by
   intro l
   induction l with
   |nil=>intro o;simp
   |cons x r ih=>
    intro o
    simp only[List.foldl_cons,ih,List.filter_cons]
    cases mJ b x<;>simp
  simpa using this a []
 ·have:pre.length≤a.length:=by rw[h];simp
  simp only[uL,xu,h1,h2,if_true,Option.bind_some]
  rw[AV _ _ _ hN hb']
  by_cases hh:mJ b e=true
  ·rw[if_neg (by rw[show(b.any fun x=>x==e)=true from hh];simp),if_pos hh]
  ·rw[if_pos (by rw[show(b.any fun x=>x==e)=false from Bool.eq_false_iff.2 hh];rfl),if_neg hh,if_pos (by simp[ah];omega)]
 ·simp only[uL,xu]
  simp
theorem XL(a b:List Int)(k:List Int→ab R)(hN:big≤N)(ha:a.length<big)(hb':b.length<big):Nh N a b k=k (a.filter (mJ b)):=by
 unfold Nh
 have h1:=List.length_filter_le (fun x => !mJ b x) a
 rw[SV _ _ _ hN ha hb',SV _ _ _ hN ha (by omega)]
 congr 1
 apply List.filter_congr
 intro x hx
 rw[Bool.eq_iff_iff]
 constructor
 ·intro h
  rcases Bool.eq_false_or_eq_true (mJ b x) with h' | h'
  ·exact h'
  ·exfalso
   have:x∈a.filter fun x => !mJ b x:=List.mem_filter.2 ⟨hx,by simp[h']⟩
   rw[kN.2 this]at h
   simp at h
 ·intro h
  have:¬mJ (a.filter fun x => !mJ b x) x=true:=by
   rw[kN,List.mem_filter]
   rintro⟨_,h2⟩
   simp[h]at h2
  simpa using this
theorem VN(nd:List Node)(q:Int)(k:List Int→ab R)(hN:big≤N)(hl:nd.length≤64)(h0:0≤q)(h1:q<nd.length):FZ N nd q k=k (kI q 0 nd):=by
 have hb:big=1000000000:=rfl
 unfold FZ
 have his:∀kk:Bool→Option Bool,zW N nd q kk=kk true:=by
  intro kk
  unfold zW
  have d1:decide (q≥0)=true:=by simpa using h0
  have d2:decide (q<((nd.length:Nat):Int))=true:=by simpa using h1
  simp[d1,d2,ifB]
 have key:∀(rest pre:List Node)(n:Nat)(out:List Int),nd=pre++rest→rest.length<n→out.length≤pre.length→pF N nd q (fun y=>k y) n pre.length out=k (out++kI q pre.length rest):=by
  intro rest
  induction rest with
  |nil=>
   intro pre n out h hn ho
   obtain⟨n,rfl⟩:∃m,n=m+1:=⟨n-1,by omega⟩
   have:nd=pre:=by simpa using h
   subst this
   simp[pF,sb,kI,ifB]
  |cons e r ih=>
   intro pre n out h hn ho
   obtain⟨n,rfl⟩:∃m,n=m+1:=⟨n-1,by omega⟩
   have hlen:nd.length=pre.length+(r.length+1):=by rw[h];simp
   have hat:at? nd pre.length=some e:=bU (by omega) (by rw[h];simp)
   have hd:decide (((pre.length:Nat):Int)<((nd.length:Nat):Int))=true:=by simp;omega
   have hr:IntKind.wrap .i64 (((pre.length:Nat):Int)+1)=(((pre++[e]).length:Nat):Int):=by rw[wr _ (by omega) (by omega)];simp
   have hr':(((pre++[e]).length:Nat):Int)=((pre.length:Nat):Int)+1:=by simp
   simp only[pF,sb,hd,his,hat,aD,Bool.true_and,Option.bind_some,if_true,hr,kI]
   by_cases hp:(e.Parent==q)=true
   ·rw[if_pos hp,if_pos hp,if_pos (by simp[ah];omega),ih (pre++[e]) n _ (by rw[h];simp) (by simp at hn;omega) (by simp;omega),hr']
    simp
   ·rw[if_neg hp,if_neg hp,ih (pre++[e]) n _ (by rw[h];simp) (by simp at hn;omega) (by simp;omega),hr']
    simp
 have:=key nd [] N [] rfl (by omega) (by simp)
 simpa using this
theorem Jy(nd:List Node)(q:Int)(k:List Int→ab R)(hN:big≤N)(hl:VM nd)(h0:0≤q)(h1:q<nd.length):vR N nd q k=k (kI q 0 nd):=by
 have hb:big=1000000000:=rfl
 unfold vR
 have hkl:=QL q nd 0
 rw[VN nd q _ hN hl.1 h0 h1]
 have hl1:=hl.1
 have:=MF (fun _ e (o:List Int)=>o++[e]) (fun pre o=>o.length≤pre.length) k (l:=kI q 0 nd) (by omega) (fun n i o=>lg N nd (kI q 0 nd) (fun y=>k y) n i o) (fun n pre e rest o h hi h1 h2=>⟨?_,by simp;omega⟩) (fun n o hi=>?_) (kI q 0 nd) [] [] N rfl (by simp) (by omega)
 ·rw[jR (fun(o:List Int) e=>o++[e])]at this
  refine Eq.trans this ?_
  congr 1
  have:∀(l o:List Int),l.foldl (fun(o:List Int) e=>o++[e]) o=o++l:=by
   intro l
   induction l with
   |nil=>intro o;simp
   |cons x r ih=>intro o;simp only[List.foldl_cons,ih];simp
  simpa using this (kI q 0 nd) []
 ·have hm:e∈kI q 0 nd:=by rw[h];simp
  obtain⟨x,x1,x2,_⟩:=VL q nd 0 e hm
  have x2':nd[e.toNat]?=some x:=by simpa using x2
  have hp:pre.length≤(kI q 0 nd).length:=by rw[h];simp
  have hk:=(hl.2 _ _ x2').1
  simp only[lg,oJ,h1,h2,bU x1 x2',if_true,Option.bind_some]
  rw[if_pos (by simpa using hk),if_pos (by simp[ah];omega)]
 ·simp only[lg,oJ]
  simp
theorem QM{E:Type}(c:E→Bool):∀(l pre:List E),(gP (fun _ q=>chk (c q) 1 0) pre l).1=0↔l.all c=true
 | [],pre=>by simp[gP]
 |e::r,pre=>by
  simp only[gP,cV,List.all_cons,Bool.and_eq_true,QM c r,wW (show(1:Int)≠0 by decide)]
theorem TZ(nd:List Node)(conf:List Int)(k:Bool→ab R)(hN:big≤N)(hl:VM nd)(hcl:conf.length<big)(hs:conf.Pairwise (· < ·))(hv:∀q∈conf,0≤q∧q<nd.length)(hp:∀q∈conf,0<q→sx nd q∈conf):
  uM N nd conf k=k (mJ conf 0&&conf.all (yE nd conf)):=by
 have hb:big=1000000000:=rfl
 unfold uM
 rw[AV _ _ _ hN hcl]
 rcases Bool.eq_false_or_eq_true (mJ conf 0) with h0|h0
 rotate_left
 ·rw[show(conf.any fun e=>e==0)=false from h0,h0];rfl
 rw[show(conf.any fun e=>e==0)=true from h0,h0,Bool.not_true,if_neg (by simp),Bool.true_and]
 have:=(yB (l:=conf) (fun _ q=>chk (yE nd conf q) 1 0) (fun _ _=>aT _ _ (by decide)) (fun _=>True) (fun _ _=>k false) hcl (fun n i=>nw N nd conf (k true) (fun y=>k y) n i) (fun n pre q rest h _ h1 h2=>⟨?_,fun _=>trivial⟩) (k true) (fun n h _=>?_) trivial N (by omega)).1
 ·refine Eq.trans this ?_
  by_cases hz:(gP (fun _ q=>chk (yE nd conf q) 1 0) [] conf).1=0
  ·rw[if_pos hz,(QM _ _ _).1 hz]
  ·rw[if_neg hz]
   have:conf.all (yE nd conf)=false:=by
    rcases Bool.eq_false_or_eq_true (conf.all (yE nd conf)) with h' | h'
    ·exact absurd ((QM _ _ []).2 h') hz
    ·exact h'
   rw[this];rfl
 ·have hm:q∈conf:=by rw[h];simp
  obtain⟨v0,v1⟩:=hv q hm
  obtain⟨x,hx,hx'⟩:=SA v0 v1
  have hxo:=hl.2 _ _ hx'
  have hkd:kdI nd q=x.Kind:=by unfold kdI;rw[hx'];rfl
  have hpr:sx nd q=x.Parent:=by unfold sx;rw[hx'];rfl
  have hkl:=QL q nd 0
  have hl1:=hl.1
  have his:∀kk:Bool→ab R,zW N nd q kk=kk true:=by
   intro kk
   unfold zW
   have d1:decide (q≥0)=true:=by simpa using v0
   have d2:decide (q<((nd.length:Nat):Int))=true:=by simpa using v1
   simp[d1,d2,ifB]
  simp only[nw,qu,h1,h2,if_true,Option.bind_some]
  rw[his]
  -- the order
  have hord:(ifB (decide (((pre.length:Nat):Int)>0)) true ((at? conf (IntKind.wrap .i64 (((pre.length:Nat):Int)-1))).bind fun e8=>some (decide (q≤e8))) (some false))=some false:=by
   by_cases hpz:pre.length=0
   ·have:decide (((pre.length:Nat):Int)>0)=false:=by simp[hpz]
    rw[this];simp[ifB]
   ·have hlen:pre.length≤conf.length:=by rw[h];simp
    rw[wr _ (by omega) (by omega)]
    obtain⟨y,hy⟩:∃y,pre[pre.length-1]?=some y:=⟨_,List.getElem?_eq_getElem (by omega)⟩
    have hy2:conf[(((pre.length:Nat):Int)-1).toNat]?=some y:=by
     rw[show(((pre.length:Nat):Int)-1).toNat=pre.length-1 by omega,h,List.getElem?_append_left (by omega)];exact hy
    have hlt:y<q:=by
     rw[h,List.pairwise_append]at hs
     exact hs.2.2 y (List.mem_of_getElem? hy) q (by simp)
    have:decide (q≤y)=false:=by simp;omega
    rw[bU (by omega) hy2,Option.bind_some,this]
    simp[ifB]
  rw[hord]
  have hk3:decide (x.Kind≤3)=true:=by simpa using hxo.1
  simp only[hx,hk3,Bool.not_true,bm,Option.bind_some,Bool.or_self]
  have hpar:(ifB (decide (q>0)) true (vQ N conf x.Parent (fun(r17:Bool)=>some (!r17))) (some false))=some false:=by
   by_cases hq0:0<q
   ·have:=hp q hm hq0
    rw[hpr]at this
    rw[AV _ _ _ hN hcl,show(conf.any fun e=>e==x.Parent)=true from kN.2 this]
    simp[ifB]
   ·have:decide (q>0)=false:=by simp;omega
    rw[this];simp[ifB]
  rw[hpar]
  simp only[Option.bind_some,Bool.false_eq_true,if_false]
  rw[Jy nd q _ hN hl v0 v1,XL _ _ _ hN (by omega) hcl]
  simp only[Jy nd q _ hN hl v0 v1,aD,bm,Option.bind_some]
  unfold yE
  rw[hkd]
  generalize((x.Kind==2)&&((((kI q 0 nd).filter (mJ conf)).length:Int) != 1))=b1
  generalize((x.Kind==3)&&((((kI q 0 nd).filter (mJ conf)).length:Int) != (((kI q 0 nd).length:Nat):Int)))=b2
  cases b1<;>cases b2<;>simp[chk,kf]
 ·simp only[nw,qu,h]
  simp
theorem IT(nd:List Node)(hl:VM nd):∀(m:Nat)(k:Int),k<m→k<nd.length→∀q∈chn (sx nd) m k,(0≤q∧q<nd.length)∧(0<q→sx nd q∈chn (sx nd) m k):=by
 intro m
 induction m with
 |zero=>intro k _ _ q hq;simp[chn]at hq
 |succ m ih=>
  intro k hk hkl q hq
  unfold chn at hq ⊢
  split at hq
  ·simp at hq
  ·rename_i hk0
   rw[if_neg hk0]
   obtain⟨x,_,hx'⟩:=SA (show 0≤k by omega) hkl
   obtain⟨_,x2,x3,x4⟩:=hl.2 _ _ hx'
   have hpr:sx nd k=x.Parent:=by unfold sx;rw[hx'];rfl
   have hlt:sx nd k<k:=by rw[hpr];omega
   rcases List.mem_cons.1 hq with rfl|hq
   ·refine⟨⟨by omega,hkl⟩,fun h0=>?_⟩
    right
    -- the parent begins the rest
    by_cases hp0:sx nd q<0
    ·exfalso
     have:=x4 (by omega)
     omega
    ·cases m with
     |zero=>omega
     |succ m=>unfold chn;rw[if_neg hp0];exact List.mem_cons_self ..
   ·obtain⟨h1,h2⟩:=ih (sx nd k) (by omega) (by omega) q hq
    exact⟨h1,fun h0=>List.mem_cons_of_mem _ (h2 h0)⟩
theorem DF{nd:List Node}{pre:List Int}{a:Int}(h:Og nd pre a=false):0≤a∧a<nd.length∧kdI nd a=1∧a∉pre:=by
 unfold Og at h
 simp only[Bool.or_eq_false_iff,Bool.not_eq_false',Bool.and_eq_true,decide_eq_true_eq,bne_eq_false_iff_eq]at h
 exact⟨h.1.1.1,h.1.1.2,h.1.2,fun hc=>by rw[kN.2 hc]at h;simp at h⟩
theorem ML(nd:List Node):∀(l pre:List Int),okA nd pre l=true→∀a∈l,0≤a∧a<nd.length∧kdI nd a=1
 |x::r,pre,h,a,ha=>by
  simp only[okA,Bool.and_eq_true,Bool.not_eq_true']at h
  rcases List.mem_cons.1 ha with rfl|ha
  ·obtain⟨h1,h2,h3,_⟩:=DF h.1;exact⟨h1,h2,h3⟩
  ·exact ML nd r _ h.2 a ha
theorem VO(nd:List Node)(atoms:List Int)(k:List Int→Bool→ab R)(hN:big≤N)(hl:VM nd)(ha:atoms.length≤16386):∃L,vS N nd atoms k=k L (Jx nd atoms):=by
 have hb:big=1000000000:=rfl
 have hl1:=hl.1
 unfold vS
 -- the chain of parents
 have l2:∀(kp:List Int→ab R) x1 x2 (m n:Nat) (q:Int) (all:List Int),q<m→q<nd.length→all.length<10000000+(64-m)→m≤64→m+1<n→my N nd x1 x2 kp n q all=kp (all++chn (sx nd) m q):=by
  intro kp x1 x2 m
  induction m with
  |zero=>
   intro n q all hq _ _ _ hn
   obtain⟨n,rfl⟩:∃w,n=w+1:=⟨n-1,by omega⟩
   have:decide (q≥0)=false:=by simp;omega
   simp[my,ot,this,chn]
  |succ m ih=>
   intro n q all hq hqn hal hm hn
   obtain⟨n,rfl⟩:∃w,n=w+1:=⟨n-1,by omega⟩
   by_cases h0:q<0
   ·have:decide (q≥0)=false:=by simp;omega
    simp[my,ot,this,chn,h0]
   ·have hd:decide (q≥0)=true:=by simp;omega
    obtain⟨x,hx,hx'⟩:=SA (show 0≤q by omega) hqn
    obtain⟨_,x2,x3,_⟩:=hl.2 _ _ hx'
    have hpr:sx nd q=x.Parent:=by unfold sx;rw[hx'];rfl
    simp only[my,ot,hd,hx,if_true,Option.bind_some]
    rw[if_pos (by simp[ah];omega),ih n x.Parent _ (by omega) (by omega) (by simp;omega) (by omega) (by omega)]
    simp[chn,h0,hpr]
 have hal:∀l:List Int,(rp nd l).length≤64*l.length:=by
  intro l
  induction l with
  |nil=>simp[rp]
  |cons x r ih=>
   have:=SU (sx nd) 64 x
   unfold rp at ih ⊢
   simp only[List.flatMap_cons,List.length_append,List.length_cons];omega
 have fin:okA nd [] atoms=true→∃L,Mi N (rp nd atoms) (fun(r41:List Int)=>
 uM N nd r41 (fun(r42:Bool)=>
 if(!r42)=true then
  (k ([]:List Int) false)
 else
  (k r41 true)))=k L (Jx nd atoms):=by
  intro hok
  have hlen:=hal atoms
  have hmem:∀q∈ofL (rp nd atoms),∃a∈atoms,q∈chn (sx nd) 64 a:=by
   intro q hq
   have:=((Fb _ _ _ _).1 hq).2
   unfold rp at this
   exact List.mem_flatMap.1 this
  have hcl:=SS (rp nd atoms) 128 0
  rw[YQ _ _ hN (by omega),TZ nd (ofL (rp nd atoms)) _ hN hl (by unfold ofL;omega) (show(ofL (rp nd atoms)).Pairwise (· < ·) from Jw _ _ _) (fun q hq=>?_) (fun q hq h0=>?_)]
  ·unfold Jx
   rw[hok,Bool.true_and]
   rcases Bool.eq_false_or_eq_true (mJ (ofL (rp nd atoms)) 0&&(ofL (rp nd atoms)).all (yE nd (ofL (rp nd atoms)))) with h' | h'
   ·rw[h'];exact⟨_,rfl⟩
   ·rw[h'];exact⟨[],rfl⟩
  ·obtain⟨a,ha1,ha2⟩:=hmem q hq
   obtain⟨a0,a1,_⟩:=ML nd atoms [] hok a ha1
   exact(IT nd hl 64 a (by omega) a1 q ha2).1
  ·obtain⟨a,ha1,ha2⟩:=hmem q hq
   obtain⟨a0,a1,_⟩:=ML nd atoms [] hok a ha1
   have h3:=(IT nd hl 64 a (by omega) a1 q ha2).2 h0
   have h4:=(IT nd hl 64 a (by omega) a1 _ h3).1
   refine(Fb _ _ _ _).2 ⟨⟨h4.1,by omega⟩,?_⟩
   unfold rp
   exact List.mem_flatMap.2 ⟨a,ha1,h3⟩
 have key:∀(rest pre:List Int)(n:Nat),atoms=pre++rest→rest.length<n→(okA nd pre rest=true→okA nd [] atoms=true) →
   ∃L,pG N nd atoms (fun(y39:List Int)=>
 Mi N y39 (fun(r41:List Int)=>
 uM N nd r41 (fun(r42:Bool)=>
 if(!r42)=true then
  (k ([]:List Int) false)
 else
  (k r41 true))))
  (fun(y40:Bool)=>
 k ([]:List Int) y40) n pre.length (rp nd pre)=k L (okA nd pre rest&&(mJ (ofL (rp nd atoms)) 0&&(ofL (rp nd atoms)).all (yE nd (ofL (rp nd atoms))))):=by
  intro rest
  induction rest with
  |nil=>
   intro pre n h hn hok
   obtain⟨n,rfl⟩:∃w,n=w+1:=⟨n-1,by omega⟩
   have:atoms=pre:=by simpa using h
   subst this
   obtain⟨L,hL⟩:=fin (hok rfl)
   refine⟨L,?_⟩
   simp only[pG,sc]
   simp only[Int.lt_irrefl,decide_false,Bool.false_eq_true,if_false]
   rw[hL]
   unfold Jx
   rw[hok rfl];simp[okA]
  |cons a r ih=>
   intro pre n h hn hok
   obtain⟨n,rfl⟩:∃w,n=w+1:=⟨n-1,by omega⟩
   have hlen:atoms.length=pre.length+(r.length+1):=by rw[h];simp
   have hat:at? atoms pre.length=some a:=bU (by omega) (by rw[h];simp)
   have hd:decide (((pre.length:Nat):Int)<((atoms.length:Nat):Int))=true:=by simp;omega
   have hr:IntKind.wrap .i64 (((pre.length:Nat):Int)+1)=(((pre++[a]).length:Nat):Int):=by rw[wr _ (by omega) (by omega)];simp
   have hap:=hal pre
   have hp:pre.length≤atoms.length:=by omega
   simp only[pG,sc,hd,hat,if_true,Option.bind_some]
   unfold zW
   simp only[aD,Option.bind_some]
   have hbad:(ifB (!(decide (a≥0)&&decide (a<((nd.length:Nat):Int)))) false ((at? nd a).bind fun e32=>some (e32.Kind != 1)) (some true)).bind (fun c33=>ifB c33 false (if(0:Int)≤0∧0≤((pre.length:Nat):Int)∧((pre.length:Nat):Int)≤((atoms.length:Nat):Int) then(vQ N ((atoms.take ((pre.length:Nat):Int).toNat).drop (Int.toNat 0)) a (fun(r35:Bool)=>some r35)) else none) (some true))=some (Og nd pre a):=by
    rw[if_pos (g01 hp),kL h,AV _ _ _ hN (by omega)]
    unfold Og
    by_cases hv:0≤a∧a<((nd.length:Nat):Int)
    ·obtain⟨x,hx,hx'⟩:=SA hv.1 hv.2
     have hkd:kdI nd a=x.Kind:=by unfold kdI;rw[hx'];rfl
     have d1:decide (a≥0)=true:=by simpa using hv.1
     have d2:decide (a<((nd.length:Nat):Int))=true:=by simpa using hv.2
     rw[d1,d2,hx,hkd]
     simp only[Bool.and_self,Bool.not_true,Option.bind_some,bm,Bool.false_or]
     rfl
    ·have hv':(decide (a≥0)&&decide (a<((nd.length:Nat):Int)))=false:=by
      rw[Bool.eq_false_iff];intro hc;simp only[Bool.and_eq_true,decide_eq_true_eq]at hc;exact hv hc
     rw[hv']
     simp[ifB]
   simp only[okA]
   have step:∀(X:Bool→ab R),((ifB (!(decide (a≥0)&&decide (a<((nd.length:Nat):Int)))) false ((at? nd a).bind fun e32=>some (e32.Kind != 1)) (some true)).bind fun c33=>(ifB c33 false (if(0:Int)≤0∧0≤((pre.length:Nat):Int)∧((pre.length:Nat):Int)≤((atoms.length:Nat):Int) then(vQ N ((atoms.take ((pre.length:Nat):Int).toNat).drop (Int.toNat 0)) a (fun(r35:Bool)=>some r35)) else none) (some true)).bind X)=X (Og nd pre a):=by
    intro X
    have:=congrArg (fun o=>Option.bind o X) hbad
    simp only[Option.bind_some]at this
    rw[← this,Option.bind_assoc]
   rw[step]
   rcases Bool.eq_false_or_eq_true (Og nd pre a) with hba|hba
   ·rw[if_pos hba,hba]
    exact⟨[],rfl⟩
   ·obtain⟨b0,b1,b2,b3⟩:=DF hba
    rw[if_neg (by simp[hba]),l2 _ _ _ 64 N a _ (by omega) b1 (by omega) (by omega) (by omega),hr,hba]
    have hall:rp nd pre++chn (sx nd) 64 a=rp nd (pre++[a]):=by unfold rp;simp
    rw[hall]
    obtain⟨L,hL⟩:=ih (pre++[a]) n (by rw[h];simp) (by simp at hn;omega) (fun hq=>hok (by simp[okA,hba,hq]))
    exact⟨L,by simpa using hL⟩
 obtain⟨L,hL⟩:=key atoms [] N rfl (by omega) (fun h=>h)
 exact⟨L,by simpa[Jx,rp] using hL⟩
end
theorem xb(up i:Int)(s:State)(r:List State):nL up i (s::r)=(i,up,s)::(nL i (i+1) s.Kids++nL up (i+1+(flL s.Kids).length) r):=by
 simp only[nL,MK,List.cons_append]
 congr 3
 rw[bM,List.length_cons];omega
theorem IU(s:State):((flS s).length:Int)=1+(flL s.Kids).length:=by rw[bM,List.length_cons];omega
def iota:Int→Nat→List Int
 |_,0=>[]
 |i,n+1=>i::iota (i+1) n
theorem VP(i:Int)(m n:Nat):iota i (m+n)=iota i m++iota (i+m) n:=by
 induction m generalizing i with
 |zero=>simp[iota]
 |succ m ih=>
  rw[show m+1+n=(m+n)+1 by omega]
  simp only[iota,ih,List.cons_append]
  rw[show i+1+(m:Int)=i+((m+1:Nat):Int) by omega]
theorem pR{P:List State→Prop}(h0:P [])(h1:∀s r,P s.Kids→P r→P (s::r))(l:List State):P l:=by
 have:∀(n:Nat)(l:List State),(flL l).length≤n→P l:=by
  intro n
  induction n with
  |zero=>
   intro l hl
   cases l with
   |nil=>exact h0
   |cons s r=>simp only[flL,bM,List.length_append,List.length_cons]at hl;omega
  |succ n ih=>
   intro l hl
   cases l with
   |nil=>exact h0
   |cons s r=>
    simp only[flL,bM,List.length_append,List.length_cons]at hl
    exact h1 s r (ih _ (by omega)) (ih _ (by omega))
 exact this _ l (Nat.le_refl _)
theorem Jz(l:List State):∀(up i:Int),(nL up i l).map (·.1)=iota i (flL l).length:=by
 induction l using pR with
 |h0=>intro up i;simp[nL,flL,iota]
 |h1 s r hk hr=>
  intro up i
  rw[xb]
  simp only[List.map_cons,List.map_append,hk,hr]
  simp only[flL,bM,List.length_append,List.length_cons]
  rw[show(flL s.Kids).length+1+(flL r).length=((flL s.Kids).length+(flL r).length)+1 by omega]
  simp only[iota]
  rw[VP]
theorem fH(l:List State):∀(up i:Int),∀k p s,(k,p,s)∈nL up i l→(i≤k∧k<i+(flL l).length)∧(p=up∨(i≤p∧p<k))∧k+(flS s).length≤i+(flL l).length:=by
 induction l using pR with
 |h0=>intro up i k p s h;simp[nL]at h
 |h1 s0 r hk hr=>
  intro up i k p s h
  rw[xb,List.mem_cons,List.mem_append]at h
  have e1:=IU s0
  have e2:((flL (s0::r)).length:Int)=(flS s0).length+(flL r).length:=by simp[flL]
  rcases h with h|h|h
  ·cases h;omega
  ·have:=hk i (i+1) k p s h
   omega
  ·have:=hr up (i+1+(flL s0.Kids).length) k p s h
   omega
theorem VQ(l:List State):∀(up i:Int),up<i→((nL up i l).filter fun x=>x.2.1==up).map (·.2.2)=l:=by
 induction l with
 |nil=>intro up i _;simp[nL]
 |cons s r ih=>
  intro up i hu
  rw[xb,List.filter_cons]
  have hn:(nL i (i+1) s.Kids).filter (fun x=>x.2.1==up)=[]:=by
   rw[List.filter_eq_nil_iff]
   rintro⟨k,p,x⟩ hx hc
   have:=fH _ _ _ _ _ _ hx
   simp only[beq_iff_eq]at hc
   omega
  rw[if_pos (by simp),List.filter_append,hn,List.nil_append,List.map_cons,ih up _ (by omega)]
theorem XM(l:List State):∀(up i:Int),up<i→∀q p s,(q,p,s)∈nL up i l→((nL up i l).filter fun x=>x.2.1==q).map (·.2.2)=s.Kids:=by
 induction l using pR with
 |h0=>intro up i _ q p s h;simp[nL]at h
 |h1 s0 r hk hr=>
  intro up i hu q p s h
  rw[xb,List.mem_cons,List.mem_append]at h
  rw[xb,List.filter_cons,List.filter_append]
  have nof:∀(up' i':Int)(l':List State),(∀k p s,(k,p,s)∈nL up' i' l'→p≠q)→(nL up' i' l').filter (fun x=>x.2.1==q)=[]:=by
   intro up' i' l' h'
   rw[List.filter_eq_nil_iff]
   rintro⟨k,p,x⟩ hx hc
   simp only[beq_iff_eq]at hc
   exact h' _ _ _ hx hc
  rcases h with h|h|h
  ·cases h
   rw[if_neg (by simp;omega),nof up _ r (fun k p s hx=>by have:=fH _ _ _ _ _ _ hx;omega),List.append_nil]
   exact VQ _ _ _ (by omega)
  ·have h1:=fH _ _ _ _ _ _ h
   rw[if_neg (by simp;omega),nof up _ r (fun k p s hx=>by have:=fH _ _ _ _ _ _ hx;omega),List.append_nil]
   exact hk i (i+1) (by omega) q p s h
  ·have h1:=fH _ _ _ _ _ _ h
   rw[if_neg (by simp;omega),nof i _ s0.Kids (fun k p s hx=>by have:=fH _ _ _ _ _ _ hx;omega),List.nil_append]
   exact hr up _ (by omega) q p s h
theorem YR(l:List State):∀(up i:Int),up<i→∀q p s,(q,p,s)∈nL up i l→∀k p' x,(k,p',x)∈nL up i l→k≠q→((q≤k∧k<q+(flS s).length)↔(q≤p'∧p'<q+(flS s).length)):=by
 induction l using pR with
 |h0=>intro up i _ q p s h;simp[nL]at h
 |h1 s0 r hk hr=>
  intro up i hu q p s h k p' x h' hne
  rw[xb,List.mem_cons,List.mem_append]at h h'
  have e1:=IU s0
  rcases h with h|h|h
  ·cases h
   rcases h' with h' | h' | h'
   ·cases h';omega
   ·have:=fH _ _ _ _ _ _ h';omega
   ·have:=fH _ _ _ _ _ _ h';omega
  ·have g:=fH _ _ _ _ _ _ h
   rcases h' with h' | h' | h'
   ·cases h';omega
   ·exact hk i (i+1) (by omega) q p s h k p' x h' hne
   ·have:=fH _ _ _ _ _ _ h';omega
  ·have g:=fH _ _ _ _ _ _ h
   rcases h' with h' | h' | h'
   ·cases h';omega
   ·have:=fH _ _ _ _ _ _ h';omega
   ·exact hr up _ (by omega) q p s h k p' x h' hne
theorem YS(l:List State):∀(up i:Int),∀q p s,(q,p,s)∈nL up i l→(∀k p' x,(k,p',x)∈nL up i l→q≤k→k<q+(flS s).length→x∈flS s)∧(∀x∈flS s,∃k p',(k,p',x)∈nL up i l∧q≤k∧k<q+(flS s).length):=by
 induction l using pR with
 |h0=>intro up i q p s h;simp[nL]at h
 |h1 s0 r hk hr=>
  intro up i q p s h
  rw[xb,List.mem_cons,List.mem_append]at h
  have e1:=IU s0
  rw[xb]
  simp only[List.mem_cons,List.mem_append]
  rcases h with h|h|h
  ·cases h
   refine⟨fun k p' x h' g1 g2=>?_,fun x hx=>?_⟩
   ·rw[bM]
    rcases h' with h' | h' | h'
    ·cases h';exact List.mem_cons_self ..
    ·refine List.mem_cons_of_mem _ ?_
     rw[← lX s0.Kids i (i+1)]
     exact List.mem_map.2 ⟨_,h',rfl⟩
    ·have:=fH _ _ _ _ _ _ h';omega
   ·rw[bM]at hx
    rcases List.mem_cons.1 hx with rfl|hx
    ·exact⟨i,up,.inl rfl,by omega,by omega⟩
    ·rw[← lX s0.Kids i (i+1)]at hx
     obtain⟨⟨k,p',y⟩,h1,rfl⟩:=List.mem_map.1 hx
     have:=fH _ _ _ _ _ _ h1
     exact⟨k,p',.inr (.inl h1),by omega,by omega⟩
  ·have g:=fH _ _ _ _ _ _ h
   obtain⟨a1,a2⟩:=hk i (i+1) q p s h
   refine⟨fun k p' x h' g1 g2=>?_,fun x hx=>?_⟩
   ·rcases h' with h' | h' | h'
    ·cases h';omega
    ·exact a1 k p' x h' g1 g2
    ·have:=fH _ _ _ _ _ _ h';omega
   ·obtain⟨k,p',b1,b2⟩:=a2 x hx
    exact⟨k,p',.inr (.inl b1),b2⟩
  ·have g:=fH _ _ _ _ _ _ h
   obtain⟨a1,a2⟩:=hr up _ q p s h
   refine⟨fun k p' x h' g1 g2=>?_,fun x hx=>?_⟩
   ·rcases h' with h' | h' | h'
    ·cases h';omega
    ·have:=fH _ _ _ _ _ _ h';omega
    ·exact a1 k p' x h' g1 g2
   ·obtain⟨k,p',b1,b2⟩:=a2 x hx
    exact⟨k,p',.inr (.inr b1),b2⟩
theorem Fc(n:Nat):∀(i:Int)(j:Nat),j<n→(iota i n)[j]?=some (i+j):=by
 induction n with
 |zero=>intro i j h;omega
 |succ n ih=>
  intro i j h
  cases j with
  |zero=>simp[iota]
  |succ j=>
   simp only[iota,List.getElem?_cons_succ]
   rw[ih (i+1) j (by omega)]
   congr 1;omega
theorem Fe{c:Chart}{nd:List Node}(h:nd.map tri=Tn c){k p:Int}{s:State}(hm:(k,p,s)∈nL 0 1 c.States):∃y,nd[k.toNat]?=some y∧y.Kind=lH s∧y.Parent=p∧y.Name=s.Name∧1≤k:=by
 obtain⟨j,hj⟩:=List.getElem?_of_mem hm
 have hlt:j<(flL c.States).length:=by
  have:=(List.getElem?_eq_some_iff.1 hj).1
  rwa [uY]at this
 have h1:((nL 0 1 c.States).map (·.1))[j]?=some k:=by rw[List.getElem?_map,hj];rfl
 rw[Jz,Fc _ _ _ hlt]at h1
 have hk:k=1+j:=(Option.some.inj h1).symm
 have h2:(nd.map tri)[j+1]?=some (Fa (k,p,s)):=by
  rw[h];unfold Tn
  rw[List.getElem?_cons_succ,List.getElem?_map,hj];rfl
 rw[List.getElem?_map]at h2
 have ht:k.toNat=j+1:=by omega
 rw[ht]
 cases hn:nd[j+1]? with
 |none=>rw[hn]at h2;cases h2
 |some y=>
  rw[hn]at h2
  have h3:tri y=Fa (k,p,s):=Option.some.inj h2
  unfold tri Fa at h3
  simp only[Prod.mk.injEq]at h3
  exact⟨y,rfl,h3.1,h3.2.1,h3.2.2,by omega⟩
theorem Be{c:Chart}{nd:List Node}(h:nd.map tri=Tn c){k:Int}(h1:1≤k)(h2:k<nd.length):∃p s,(k,p,s)∈nL 0 1 c.States:=by
 have hl:nd.length=1+(flL c.States).length:=by
  have:=congrArg List.length h
  simp only[List.length_map,Tn,List.length_cons,uY]at this
  omega
 have hj:k.toNat-1<(nL 0 1 c.States).length:=by rw[uY];omega
 refine⟨((nL 0 1 c.States)[k.toNat-1]).2.1,((nL 0 1 c.States)[k.toNat-1]).2.2,?_⟩
 have hm:=List.getElem_mem hj
 have hf:((nL 0 1 c.States).map (·.1))[k.toNat-1]?=some ((nL 0 1 c.States)[k.toNat-1]).1:=by
  rw[List.getElem?_map,List.getElem?_eq_getElem hj];rfl
 rw[Jz,Fc _ _ _ (by rw[uY]at hj;exact hj)]at hf
 have:((nL 0 1 c.States)[k.toNat-1]).1=k:=by have:=Option.some.inj hf;omega
 have e:(k,((nL 0 1 c.States)[k.toNat-1]).2.1,((nL 0 1 c.States)[k.toNat-1]).2.2)=(nL 0 1 c.States)[k.toNat-1]:=by
  refine Prod.ext ?_ rfl
  exact this.symm
 rw[e];exact hm
theorem VS(q:Int):∀(rest:List Node)(M:List (Int×Int×State))(i:Int),rest.map tri=M.map Fa→M.map (·.1)=iota i M.length→kI q i rest=(M.filter fun x=>x.2.1==q).map (·.1)
 | [],[],i,_,_=>by simp[kI]
 | [],_::_,i,h,_=>by simp at h
 |_::_,[],i,h,_=>by simp at h
 |y::r,x::M,i,h,h2=>by
  simp only[List.map_cons,List.cons.injEq]at h
  simp only[List.map_cons,List.length_cons,iota,List.cons.injEq]at h2
  have ih:=VS q r M (i+1) h.2 h2.2
  have hp:y.Parent=x.2.1:=by have:=h.1;unfold tri Fa at this;simp only[Prod.mk.injEq]at this;exact this.2.1
  simp only[kI,ih,List.filter_cons,hp]
  split
  ·simp[h2.1]
  ·simp
theorem ZJ{c:Chart}{nd:List Node}(h:nd.map tri=Tn c){q:Int}(hq:0≤q):kI q 0 nd=((nL 0 1 c.States).filter fun x=>x.2.1==q).map (·.1):=by
 cases nd with
 |nil=>simp[Tn]at h
 |cons y r=>
  simp only[List.map_cons,Tn,List.cons.injEq]at h
  have hp:y.Parent = -1:=by have:=h.1;unfold tri at this;simp only[Prod.mk.injEq]at this;exact this.2.1
  have hne:¬(y.Parent==q)=true:=by rw[hp];simp;omega
  simp only[kI,if_neg hne,List.nil_append]
  exact VS q r _ (0+1) h.2 (by rw[Jz,uY];rfl)
def act(set:List ae)(s:State):Bool := !(hasN set s==0)
def cS(set:List ae)(s:State):Prop:=(s.Kids.length=0→hasN set s=1)∧(s.Kids.length≠0→s.Kind=2→s.Kids.all (act set)=true)∧(s.Kids.length≠0→s.Kind≠2→(s.Kids.filter (act set)).length=1)
section
variable(set:List ae)
theorem ZK(l:List State):∀sum so,xF true set l sum so=if l.all (ok1 set)=true then(sum+mI set l,true) else(0,false):=by
 induction l with
 |nil=>intro sum so;simp[xF,mI]
 |cons s r ih=>
  intro sum so
  simp only[xF,Bool.not_true,Bool.and_false,Bool.false_eq_true,if_false,List.all_cons,mI]
  rcases Bool.eq_false_or_eq_true (ok1 set s) with h|h
  ·simp only[h,if_true,Bool.true_and,ih];rw[Int.add_assoc]
  ·simp[h]
theorem YT(l:List State):∀sum so,xF false set l sum so=if l.all (fun s => !act set s||ok1 set s)=true then(sum+mI set l,(so+((l.filter (act set)).length:Int))==1) else(0,false):=by
 induction l with
 |nil=>intro sum so;simp[xF,mI]
 |cons s r ih=>
  intro sum so
  simp only[xF,Bool.not_false,Bool.and_true,List.all_cons,mI,List.filter_cons]
  rcases Bool.eq_false_or_eq_true (hasN set s==0) with h|h
  ·have ha:act set s=false:=by unfold act;rw[h];rfl
   have hz:hasN set s=0:=by simpa using h
   rw[if_pos h]
   simp only[ih,ha,Bool.not_false,Bool.true_or,Bool.true_and,hz,Bool.false_eq_true,if_false]
   rw[Int.zero_add]
  ·have ha:act set s=true:=by unfold act;rw[h];rfl
   simp only[h,Bool.false_eq_true,if_false,ha,Bool.not_true,Bool.false_or,if_true]
   rcases Bool.eq_false_or_eq_true (ok1 set s) with h1|h1
   ·simp only[h1,if_true,Bool.true_and,ih,List.length_cons]
    rw[Int.add_assoc,show so+1+((r.filter (act set)).length:Int)=so+(((r.filter (act set)).length+1:Nat):Int) by omega]
   ·simp[h1]
theorem JA(l:List State):0≤mI set l:=(QB set l).1
theorem XN(s:State):ok1 set s=true→act set s=true:=by
 have:∀l:List State,∀s∈l,ok1 set s=true→act set s=true:=by
  intro l
  induction l using pR with
  |h0=>intro s h;cases h
  |h1 s0 r hk hr=>
   intro s hs h
   rcases List.mem_cons.1 hs with rfl|hs
   ·rw[QC]at h
    unfold act
    split at h
    ·simp only[beq_iff_eq]at h;rw[h];rfl
    ·rename_i hz
     have hp:0<mI set s.Kids:=by
      have key:∀l:List State,(∃x∈l,act set x=true)→0<mI set l:=by
       intro l
       induction l with
       |nil=>rintro⟨x,hx,_⟩;cases hx
       |cons y r ih=>
        rintro⟨x,hx,ha⟩
        have h1:=(Cq set y).1
        have h2:=JA set r
        simp only[mI]
        rcases List.mem_cons.1 hx with rfl|hx
        ·have:hasN set x≠0:=by unfold act at ha;simpa using ha
         omega
        ·have:=ih ⟨x,hx,ha⟩;omega
      apply key
      cases hb:(s.Kind==2) with
      |true=>
       rw[hb,ZK]at h
       split at h
       ·rename_i hall
        obtain⟨x,hx⟩:=List.exists_mem_of_length_pos (Nat.pos_of_ne_zero hz)
        exact⟨x,hx,hk x hx (List.all_eq_true.1 hall x hx)⟩
       ·cases h
      |false=>
       rw[hb,YT]at h
       split at h
       ·simp only[Int.zero_add,beq_iff_eq]at h
        obtain⟨x,hx⟩:=List.exists_mem_of_length_pos (show 0<(s.Kids.filter (act set)).length by omega)
        exact⟨x,(List.mem_filter.1 hx).1,(List.mem_filter.1 hx).2⟩
       ·cases h
     have h1:=(Cq set s).1
     have h2:=ES set s
     rw[if_neg hz]at h2
     have:hasN set s≠0:=by omega
     simpa using this
   ·exact hr s hs h
 exact this [s] s (by simp)
theorem Oh{s:State}(h:act set s=false):∀x∈s.Kids,act set x=false:=by
 have h0:hasN set s=0:=by unfold act at h;simpa using h
 have h2:=ES set s
 have hz:mI set s.Kids=0:=by
  have:=JA set s.Kids
  split at h2<;>omega
 have key:∀l:List State,mI set l=0→∀x∈l,act set x=false:=by
  intro l
  induction l with
  |nil=>intro _ x hx;cases hx
  |cons y r ih=>
   intro h x hx
   simp only[mI]at h
   have h1:=(Cq set y).1
   have h2:=JA set r
   rcases List.mem_cons.1 hx with rfl|hx
   ·unfold act;rw[show hasN set x=0 by omega];rfl
   ·exact ih (by omega) x hx
 exact key _ hz
theorem MM(s:State):ok1 set s=true↔cS set s∧(s.Kids.length=0∨s.Kids.all (fun x => !act set x||ok1 set x)=true):=by
 rw[QC]
 unfold cS
 by_cases hz:s.Kids.length=0
 ·simp[hz]
 ·rw[if_neg hz]
  simp only[hz,false_implies,not_false_eq_true,true_implies,true_and,false_or,ne_eq]
  by_cases hk:s.Kind=2
  ·have hb:(s.Kind==2)=true:=by simp[hk]
   rw[hb,ZK]
   simp only[hk,true_implies,not_true_eq_false,false_implies,and_true]
   constructor
   ·intro h
    split at h
    ·rename_i hall
     refine⟨List.all_eq_true.2 fun x hx=>XN set x (List.all_eq_true.1 hall x hx),List.all_eq_true.2 fun x hx=>?_⟩
     rw[List.all_eq_true.1 hall x hx];simp
    ·cases h
   ·rintro⟨h1,h2⟩
    rw[if_pos]
    refine List.all_eq_true.2 fun x hx=>?_
    have a1:=List.all_eq_true.1 h1 x hx
    have a2:=List.all_eq_true.1 h2 x hx
    simpa[a1] using a2
  ·have hb:(s.Kind==2)=false:=by simp[hk]
   rw[hb,YT]
   simp only[hk,false_implies,not_false_eq_true,true_implies,true_and,Int.zero_add]
   constructor
   ·intro h
    split at h
    ·rename_i hall
     simp only[beq_iff_eq]at h
     exact⟨by omega,hall⟩
    ·cases h
   ·rintro⟨h1,h2⟩
    rw[if_pos h2]
    simp[h1]
theorem XO(l:List State):l.all (fun x => !act set x||ok1 set x)=true↔∀s∈flL l,act set s=true→cS set s:=by
 induction l using pR with
 |h0=>simp[flL]
 |h1 s r hk hr=>
  rw[List.all_cons,Bool.and_eq_true,hr]
  simp only[flL,bM,List.cons_append,List.mem_cons,List.mem_append]
  constructor
  ·rintro⟨h1,h2⟩ x hx ha
   rcases hx with rfl|hx|hx
   ·rw[ha]at h1
    simp only[Bool.not_true,Bool.false_or]at h1
    exact((MM set x).1 h1).1
   ·cases hs:act set s with
    |true=>
     rw[hs]at h1
     simp only[Bool.not_true,Bool.false_or]at h1
     rcases((MM set s).1 h1).2 with hz|hz
     ·rw[List.length_eq_zero_iff.1 hz]at hx;simp[flL]at hx
     ·exact hk.1 hz x hx ha
    |false=>
     exfalso
     have key:∀l:List State,(∀y∈l,act set y=false)→∀y∈flL l,act set y=false:=by
      intro l
      induction l using pR with
      |h0=>intro _ y hy;simp[flL]at hy
      |h1 s' r' hk' hr' =>
       intro h y hy
       simp only[flL,bM,List.cons_append,List.mem_cons,List.mem_append]at hy
       have hs':=h s' (List.mem_cons_self ..)
       rcases hy with rfl|hy|hy
       ·exact hs'
       ·exact hk' (Oh set hs') y hy
       ·exact hr' (fun y hy=>h y (List.mem_cons_of_mem _ hy)) y hy
     rw[key _ (Oh set hs) x hx]at ha
     cases ha
   ·exact h2 x hx ha
  ·intro h
   refine⟨?_,fun x hx=>h x (.inr (.inr hx))⟩
   cases hs:act set s with
   |false=>rfl
   |true=>
    simp only[Bool.not_true,Bool.false_or]
    rw[MM]
    refine⟨h s (.inl rfl) hs,?_⟩
    by_cases hz:s.Kids.length=0
    ·exact .inl hz
    ·exact .inr (hk.2 fun x hx=>h x (.inr (.inl hx)))
theorem Oi(l:List State):oA l set=true↔(l.filter (act set)).length=1∧(∀s∈flL l,act set s=true→cS set s)∧mI set l=set.length:=by
 unfold oA
 rw[YT,← XO]
 split
 ·rename_i h
  simp only[Bool.and_eq_true,beq_iff_eq,Int.zero_add,h,true_and]
  constructor
  ·rintro⟨h1,h2⟩;exact⟨by omega,h2⟩
  ·rintro⟨h1,h2⟩;exact⟨by omega,h2⟩
 ·rename_i h
  simp[h]
def AB(nm:ae):Int:=(((set.filter fun e=>e==nm).length:Nat):Int)
def Ax(l:List State):List State:=(flL l).filter fun s=>s.Kids.length==0
theorem Oj(l:List State):mI set l=((Ax l).map fun s=>AB set s.Name).sum:=by
 unfold Ax
 induction l using pR with
 |h0=>simp[mI,flL]
 |h1 s r hk hr=>
  simp only[mI,ES,hk,hr,flL,bM,List.cons_append,List.filter_cons,List.filter_append]
  by_cases hz:s.Kids.length=0
  ·have:(s.Kids.length==0)=true:=by simp[hz]
   rw[if_pos hz,if_pos this]
   simp only[List.map_cons,List.sum_cons,List.map_append,List.sum_append,AB]
   omega
  ·have:¬(s.Kids.length==0)=true:=by simpa using hz
   rw[if_neg hz,if_neg this]
   simp only[List.map_append,List.sum_append]
   omega
end
theorem SW{α:Type}(p q:α→Bool)(h:∀x,¬(p x=true∧q x=true)):∀l:List α,(l.filter p).length+(l.filter q).length=(l.filter fun x=>p x||q x).length
 | []=>rfl
 |x::r=>by
  have ih:=SW p q h r
  simp only[List.filter_cons]
  have:=h x
  cases hp:p x<;>cases hq:q x<;>simp_all<;>omega
theorem SX(set:List ae):∀L:List State,(L.map (·.Name)).Nodup→(L.map fun s=>AB set s.Name).sum=(((set.filter fun nm=>L.any fun s=>s.Name==nm).length:Nat):Int)
 | [],_=>by
  have:(set.filter fun nm=>([]:List State).any fun s=>s.Name==nm)=[]:=by
   rw[List.filter_eq_nil_iff];intro x _ h;simp at h
  rw[this];rfl
 |s::r,h=>by
  simp only[List.map_cons,List.nodup_cons]at h
  have ih:=SX set r h.2
  simp only[List.map_cons,List.sum_cons,ih,List.any_cons]
  unfold AB
  have:=SW (fun e=>e==s.Name) (fun nm=>r.any fun x=>x.Name==nm) (fun x hx=>by
   obtain⟨h1,h2⟩:=hx
   simp only[beq_iff_eq]at h1
   subst h1
   obtain⟨y,hy,hy2⟩:=List.any_eq_true.1 h2
   simp only[beq_iff_eq]at hy2
   exact h.1 (List.mem_map.2 ⟨y,hy,hy2⟩)) set
  have e:(set.filter fun nm=>(s.Name==nm)||r.any fun x=>x.Name==nm)=set.filter fun x=>(x==s.Name)||r.any fun y=>y.Name==x:=by
   congr 1
   funext x
   congr 1
   rw[Bool.eq_iff_iff,beq_iff_eq,beq_iff_eq];exact eq_comm
  rw[e]
  omega
theorem Ua{set:List ae}(h:set.Nodup)(nm:ae):AB set nm≤1:=by
 unfold AB
 induction set with
 |nil=>simp
 |cons x r ih=>
  simp only[List.nodup_cons]at h
  have:=ih h.2
  simp only[List.filter_cons]
  by_cases hx:x=nm
  ·subst hx
   have hn:r.filter (fun e=>e==x)=[]:=by
    rw[List.filter_eq_nil_iff]
    intro y hy hc
    simp only[beq_iff_eq]at hc
    exact h.1 (hc▸hy)
   simp[hn]
  ·have:(x==nm)=false:=by simpa using hx
   rw[this];simpa using ih h.2
theorem Ub{set:List ae}(h:∀nm∈set,AB set nm≤1):set.Nodup:=by
 unfold AB at h
 induction set with
 |nil=>simp
 |cons x r ih=>
  rw[List.nodup_cons]
  refine⟨fun hx=>?_,ih fun nm hm=>?_⟩
  ·have:=h x (List.mem_cons_self ..)
   simp only[List.filter_cons,beq_self_eq_true,if_true,List.length_cons]at this
   have hm:x∈r.filter fun e=>e==x:=List.mem_filter.2 ⟨hx,by simp⟩
   have:=List.length_pos_of_mem hm
   omega
  ·have:=h nm (List.mem_cons_of_mem _ hm)
   simp only[List.filter_cons]at this
   split at this
   ·simp only[List.length_cons]at this;omega
   ·exact this
theorem Uc{l:List State}(h:Uq l)(p:State→Bool):((l.filter p).map (·.Name)).Nodup:=by
 unfold Uq at h
 exact List.Nodup.sublist (List.Sublist.map _ List.filter_sublist) h
def VD(set:List ae)(l:List State):Prop:=(∀nm∈set,∃x∈flL l,x.Name=nm∧x.Kids.length=0)∧set.Nodup
theorem VT(set:List ae)(l:List State)(hu:Uq (flL l)):mI set l=set.length↔∀nm∈set,∃x∈flL l,x.Name=nm∧x.Kids.length=0:=by
 rw[Oj,SX set (Ax l) (by unfold Ax;exact Uc hu _)]
 constructor
 ·intro h nm hm
  have h':(set.filter fun nm=>(Ax l).any fun s=>s.Name==nm).length=set.length:=by omega
  have:=List.length_filter_eq_length_iff.1 h' nm hm
  obtain⟨x,hx,hn⟩:=List.any_eq_true.1 this
  unfold Ax at hx
  rw[List.mem_filter]at hx
  exact⟨x,hx.1,by simpa using hn,by simpa using hx.2⟩
 ·intro h
  have:(set.filter fun nm=>(Ax l).any fun s=>s.Name==nm).length=set.length:=by
   rw[List.length_filter_eq_length_iff]
   intro nm hm
   obtain⟨x,hx,hn,hz⟩:=h nm hm
   refine List.any_eq_true.2 ⟨x,?_,by simp[hn]⟩
   unfold Ax
   rw[List.mem_filter]
   exact⟨hx,by simp[hz]⟩
  omega
theorem Ol{set:List ae}{x:State}(h:x.Kids.length=0):hasN set x=AB set x.Name:=by
 rw[ES,if_pos h,List.length_eq_zero_iff.1 h]
 simp[mI,AB]
def cP(set:List ae)(s:State):Prop:=(lH s=2→(s.Kids.filter (act set)).length=1)∧(lH s=3→(s.Kids.filter (act set)).length=s.Kids.length)
theorem Ff(set:List ae)(l:List State)(hu:Uq (flL l))(hk:∀s∈flL l,(s.Kind=1∨s.Kind=2)∧(s.Kind=2→s.Kids.length≠0)):
  oA l set=true↔VD set l∧(l.filter (act set)).length=1∧∀s∈flL l,act set s=true→cP set s:=by
 rw[Oi,VT set l hu]
 have hcp:∀s∈flL l,cS set s→cP set s:=by
  intro s hs h
  obtain⟨h1,h2,h3⟩:=h
  obtain⟨k1,k2⟩:=hk s hs
  unfold cP
  rcases k1 with e|e
  ·have hkn:lH s=if s.Kids.length=0 then 1 else 2:=by unfold lH;simp[e]
   rw[hkn]
   by_cases hz:s.Kids.length=0
   ·rw[if_pos hz];exact⟨fun h=>absurd h (by decide),fun h=>absurd h (by decide)⟩
   ·rw[if_neg hz];exact⟨fun _=>h3 hz (by omega),fun h=>absurd h (by decide)⟩
  ·have hkn:lH s=3:=by unfold lH;simp[e]
   have:=h2 (k2 e) e
   rw[hkn]
   refine⟨fun h=>absurd h (by decide),fun _=>?_⟩
   exact List.length_filter_eq_length_iff.2 fun x hx=>List.all_eq_true.1 this x hx
 constructor
 ·rintro⟨h1,h2,h3⟩
  refine⟨⟨h3,Ub fun nm hm=>?_⟩,h1,fun s hs ha=>hcp s hs (h2 s hs ha)⟩
  obtain⟨x,hx,rfl,hz⟩:=h3 nm hm
  have hl:=Ol (set:=set) hz
  cases ha:act set x with
  |true=>have:=(h2 x hx ha).1 hz;omega
  |false=>
   unfold act at ha
   have:hasN set x=0:=by simpa using ha
   omega
 ·rintro⟨⟨v,dd⟩,h1,h2⟩
  refine⟨h1,fun s hs ha=>?_,v⟩
  have hcp:=h2 s hs ha
  obtain⟨k1,k2⟩:=hk s hs
  unfold cP lH at hcp
  refine⟨fun hz=>?_,fun hz e=>?_,fun hz e=>?_⟩
  ·have hl:=Ol (set:=set) hz
   have:=Ua dd s.Name
   have h0:=(Cq set s).1
   have:hasN set s≠0:=by unfold act at ha;simpa using ha
   omega
  ·have:=hcp.2 (by simp[e])
   refine List.all_eq_true.2 fun x hx=>List.length_filter_eq_length_iff.1 this x hx
  ·have e1:s.Kind=1:=by omega
   exact hcp.1 (by simp[e1,hz])
def Flat(c:Chart):Prop:=Uq (flL c.States)∧(flL c.States).length≤63∧∀s∈flL c.States,(s.Kind=1∨s.Kind=2)∧(s.Kind=2→s.Kids.length≠0)
theorem NW{s:State}(h:s.Kind=1∨s.Kind=2):lH s≤3:=by
 unfold lH
 rcases h with e|e
 ·simp[e];split<;>omega
 ·simp[e]
theorem LX{s:State}(h:(s.Kind=1∨s.Kind=2)∧(s.Kind=2→s.Kids.length≠0)):lH s=1↔s.Kids.length=0:=by
 obtain⟨h1,h2⟩:=h
 rcases h1 with e|e
 ·have:lH s=if s.Kids.length=0 then 1 else 2:=by unfold lH;simp[e]
  rw[this]
  split<;>simp_all
 ·have:lH s=3:=by unfold lH;simp[e]
  rw[this]
  have:=h2 e
  simp[this]
section
variable{c:Chart}{nd:List Node}(h:nd.map tri=Tn c)
include h
theorem Jp:nd.length=1+(flL c.States).length:=by
 have:=congrArg List.length h
 simp only[List.length_map,Tn,List.length_cons,uY]at this
 omega
theorem MG:∃y,nd[0]?=some y∧y.Kind=2∧y.Parent = -1:=by
 cases nd with
 |nil=>simp[Tn]at h
 |cons y r=>
  simp only[List.map_cons,Tn,List.cons.injEq]at h
  have:=h.1
  unfold tri at this
  simp only[Prod.mk.injEq]at this
  exact⟨y,rfl,this.1,this.2.1⟩
theorem ZG(hf:Flat c):VM nd:=by
 have hl:=Jp h
 refine⟨by have:=hf.2.1;omega,fun i x hx=>?_⟩
 have hi:i<nd.length:=(List.getElem?_eq_some_iff.1 hx).1
 by_cases h0:i=0
 ·subst h0
  obtain⟨y,hy,h1,h2⟩:=MG h
  rw[hx]at hy
  cases hy
  omega
 ·obtain⟨p,s,hm⟩:=Be h (k:=i) (by omega) (by omega)
  obtain⟨y,hy,k1,k2,k3,_⟩:=Fe h hm
  rw[Int.toNat_natCast,hx]at hy
  cases hy
  have hr:=fH _ _ _ _ _ _ hm
  have hs:s∈flL c.States:=by rw[← lX c.States 0 1];exact List.mem_map.2 ⟨_,hm,rfl⟩
  have:=NW (hf.2.2 s hs).1
  omega
theorem MH{k p:Int}{s:State}(hm:(k,p,s)∈nL 0 1 c.States):s∈flL c.States:=by
 have _:=h
 rw[← lX c.States 0 1];exact List.mem_map.2 ⟨_,hm,rfl⟩
theorem YN(hu:Uq (flL c.States)){k p k' p':Int}{s s':State}(hm:(k,p,s)∈nL 0 1 c.States)(hm':(k',p',s')∈nL 0 1 c.States)(hn:s.Name=s'.Name):k=k'∧s=s':=by
 have _:=h
 obtain⟨j,hj⟩:=List.getElem?_of_mem hm
 obtain⟨j',hj'⟩:=List.getElem?_of_mem hm'
 have hlt:j<(flL c.States).length:=by have:=(List.getElem?_eq_some_iff.1 hj).1;rwa [uY]at this
 have e1:((flL c.States).map (·.Name))[j]?=some s.Name:=by rw[← lX c.States 0 1,List.map_map,List.getElem?_map,hj];rfl
 have e2:((flL c.States).map (·.Name))[j']?=some s'.Name:=by rw[← lX c.States 0 1,List.map_map,List.getElem?_map,hj'];rfl
 have:j=j':=(List.getElem?_inj (by simpa using hlt) hu).1 (by rw[e1,e2,hn])
 subst this
 rw[hj]at hj'
 have:=Option.some.inj hj'
 simp only[Prod.mk.injEq]at this
 exact⟨this.1,this.2.2⟩
theorem Yz{k p p':Int}{s s':State}(hm:(k,p,s)∈nL 0 1 c.States)(hm':(k,p',s')∈nL 0 1 c.States):s=s':=by
 have _:=h
 obtain⟨j,hj⟩:=List.getElem?_of_mem hm
 obtain⟨j',hj'⟩:=List.getElem?_of_mem hm'
 have hlt:j<(flL c.States).length:=by have:=(List.getElem?_eq_some_iff.1 hj).1;rwa [uY]at this
 have hlt':j'<(flL c.States).length:=by have:=(List.getElem?_eq_some_iff.1 hj').1;rwa [uY]at this
 have e1:((nL 0 1 c.States).map (·.1))[j]?=some k:=by rw[List.getElem?_map,hj];rfl
 have e2:((nL 0 1 c.States).map (·.1))[j']?=some k:=by rw[List.getElem?_map,hj'];rfl
 rw[Jz,Fc _ _ _ hlt]at e1
 rw[Jz,Fc _ _ _ hlt']at e2
 have:j=j':=by have:=Option.some.inj e1;have:=Option.some.inj e2;omega
 subst this
 rw[hj]at hj'
 have:=Option.some.inj hj'
 simp only[Prod.mk.injEq]at this
 exact this.2.2
theorem Jq{k p:Int}{s:State}(hm:(k,p,s)∈nL 0 1 c.States):sx nd k=p∧kdI nd k=lH s:=by
 obtain⟨y,hy,k1,k2,k3,_⟩:=Fe h hm
 unfold sx kdI
 rw[hy]
 exact⟨k2,k1⟩
theorem Vx(hf:Flat c):∀(m:Nat)(a:Int),0≤a→a<m→a<nd.length→(0:Int)∈chn (sx nd) m a:=by
 intro m
 induction m with
 |zero=>intro a h0 h1;omega
 |succ m ih=>
  intro a h0 h1 h2
  unfold chn
  rw[if_neg (by omega)]
  by_cases hz:a=0
  ·subst hz;exact List.mem_cons_self ..
  ·obtain⟨p,s,hm⟩:=Be h (k:=a) (by omega) h2
   have hr:=fH _ _ _ _ _ _ hm
   rw[(Jq h hm).1]
   exact List.mem_cons_of_mem _ (ih p (by omega) (by omega) (by omega))
theorem SJ{q p0:Int}{s:State}(hq:(q,p0,s)∈nL 0 1 c.States):∀(m:Nat)(a:Int),0≤a→a<m→a<nd.length→(q∈chn (sx nd) m a↔(q≤a∧a<q+(flS s).length)):=by
 have hq1:=fH _ _ _ _ _ _ hq
 have hsz:=IU s
 intro m
 induction m with
 |zero=>intro a h0 h1;omega
 |succ m ih=>
  intro a h0 h1 h2
  unfold chn
  rw[if_neg (by omega),List.mem_cons]
  by_cases hz:a=0
  ·subst hz
   obtain⟨y,hy,_,hp⟩:=MG h
   have hpar:sx nd 0 = -1:=by unfold sx;rw[show(0:Int).toNat=0 from rfl,hy];exact hp
   rw[hpar]
   have:chn (sx nd) m (-1)=[]:=by cases m<;>simp[chn]
   rw[this]
   simp only[List.not_mem_nil,or_false]
   omega
  ·obtain⟨p,x,hm⟩:=Be h (k:=a) (by omega) h2
   have hr:=fH _ _ _ _ _ _ hm
   rw[(Jq h hm).1]
   by_cases he:a=q
   ·subst he
    simp only[true_or,true_iff];omega
   ·rw[ih p (by omega) (by omega) (by omega),← YR _ _ _ (by omega) _ _ _ hq _ _ _ hm he]
    constructor
    ·rintro(h|h)
     ·exact absurd h.symm he
     ·exact h
    ·exact .inr
end
theorem EX{α β:Type}(f:α→β):∀l:List α,(l.map f).Nodup→l.Nodup
 | [],_=>List.nodup_nil
 |x::r,h=>by
  rw[List.map_cons,List.nodup_cons]at h
  rw[List.nodup_cons]
  exact⟨fun hx=>h.1 (List.mem_map.2 ⟨x,hx,rfl⟩),EX f r h.2⟩
def iM(nd:List Node)(nm:ae):Int:=if idx (fun e:Node=>e.Name==nm) (nd.drop 1)<0 then -1 else idx (fun e:Node=>e.Name==nm) (nd.drop 1)+1
section
variable{c:Chart}{nd:List Node}(h:nd.map tri=Tn c)
include h
theorem rn(nm:ae):(∃p x,(iM nd nm,p,x)∈nL 0 1 c.States∧x.Name=nm)∨(iM nd nm = -1∧∀x∈flL c.States,x.Name≠nm):=by
 unfold iM
 by_cases hz:idx (fun e:Node=>e.Name==nm) (nd.drop 1)<0
 ·rw[if_pos hz]
  refine .inr ⟨rfl,fun x hx hn=>?_⟩
  rw[← lX c.States 0 1]at hx
  obtain⟨⟨k,p,y⟩,hm,rfl⟩:=List.mem_map.1 hx
  obtain⟨w,hw,_,_,hn',hk⟩:=Fe h hm
  have hin:w∈nd.drop 1:=by
   rw[List.mem_iff_getElem?]
   refine⟨k.toNat-1,?_⟩
   rw[List.getElem?_drop,show 1+(k.toNat-1)=k.toNat by omega];exact hw
  have hany:(nd.drop 1).any (fun e:Node=>e.Name==nm)=true:=List.any_eq_true.2 ⟨w,hin,by simp only[beq_iff_eq];exact hn'.trans hn⟩
  have:=kK (fun e:Node=>e.Name==nm) (nd.drop 1)
  rw[hany,decide_eq_true hz]at this
  cases this
 ·rw[if_neg hz]
  left
  obtain⟨e,h1,h2⟩:=tW hz
  have he:=List.find?_some h2
  have hlt:=Vf (fun e:Node=>e.Name==nm) (nd.drop 1)
  have hdl:(nd.drop 1).length=nd.length-1:=by simp
  generalize idx (fun e:Node=>e.Name==nm) (nd.drop 1)=j at *
  obtain⟨p,x,hm⟩:=Be h (k:=j+1) (by omega) (by omega)
  obtain⟨y,hy,_,_,hn,_⟩:=Fe h hm
  refine⟨p,x,hm,?_⟩
  unfold at? at h1
  rw[if_neg hz,List.getElem?_drop,show 1+j.toNat=(j+1).toNat by omega,hy]at h1
  have:y=e:=Option.some.inj h1
  subst this
  rw[← hn]
  simpa using he
theorem SK:∀(l pre:List Int),okA nd pre l=true↔(∀a∈l,(0≤a∧a<nd.length)∧kdI nd a=1)∧l.Nodup∧∀a∈l,a∉pre
 | [],pre=>by have _:=h;simp[okA]
 |x::r,pre=>by
  simp only[okA,Bool.and_eq_true,Bool.not_eq_true',SK r (pre++[x])]
  constructor
  ·rintro⟨h1,h2,h3,h4⟩
   obtain⟨g1,g2,g3,g4⟩:=DF h1
   refine⟨fun a ha=>?_,?_,fun a ha=>?_⟩
   ·rcases List.mem_cons.1 ha with rfl|ha
    ·exact⟨⟨g1,g2⟩,g3⟩
    ·exact h2 a ha
   ·rw[List.nodup_cons]
    exact⟨fun hx=>h4 x hx (by simp),h3⟩
   ·rcases List.mem_cons.1 ha with rfl|ha
    ·exact g4
    ·exact fun hc=>h4 a ha (List.mem_append_left _ hc)
  ·rintro⟨h1,h2,h3⟩
   rw[List.nodup_cons]at h2
   obtain⟨⟨g1,g2⟩,g3⟩:=h1 x (List.mem_cons_self ..)
   refine⟨?_,fun a ha=>h1 a (List.mem_cons_of_mem _ ha),h2.2,fun a ha hc=>?_⟩
   ·unfold Og
    have hn:mJ pre x=false:=by
     rw[Bool.eq_false_iff];intro hc;exact h3 x (List.mem_cons_self ..) (kN.1 hc)
    rw[hn,g3]
    simp[g1,g2]
   ·rcases List.mem_append.1 hc with hc|hc
    ·exact h3 a (List.mem_cons_of_mem _ ha) hc
    ·rw[List.mem_singleton.1 hc]at ha;exact h2.1 ha
theorem YO(hf:Flat c)(set:List ae):okA nd [] (set.map (iM nd))=true↔VD set c.States:=by
 rw[SK h]
 unfold VD
 have hl:=Jp h
 have hv:(∀a∈set.map (iM nd),(0≤a∧a<nd.length)∧kdI nd a=1)↔∀nm∈set,∃x∈flL c.States,x.Name=nm∧x.Kids.length=0:=by
  constructor
  ·intro hv nm hm
   obtain⟨⟨h1,h2⟩,h3⟩:=hv _ (List.mem_map.2 ⟨nm,hm,rfl⟩)
   rcases rn h nm with⟨p,x,hx,hn⟩|⟨hx,_⟩
   ·have hs:=MH h hx
    rw[(Jq h hx).2]at h3
    exact⟨x,hs,hn,(LX (hf.2.2 x hs)).1 h3⟩
   ·omega
  ·intro hv a ha
   obtain⟨nm,hm,rfl⟩:=List.mem_map.1 ha
   obtain⟨y,hy,hyn,hyk⟩:=hv nm hm
   rcases rn h nm with⟨p,x,hx,hn⟩|⟨_,hx⟩
   ·have hr:=fH _ _ _ _ _ _ hx
    have hy':=hy
    rw[← lX c.States 0 1]at hy'
    obtain⟨⟨k,p',y'⟩,hm',rfl⟩:=List.mem_map.1 hy'
    have:=(YN h hf.1 hx hm' (hn.trans hyn.symm)).2
    subst this
    refine⟨by omega,?_⟩
    rw[(Jq h hx).2]
    exact(LX (hf.2.2 _ hy)).2 hyk
   ·exact absurd hyn (hx y hy)
 rw[hv]
 constructor
 ·rintro⟨h1,h2,_⟩
  refine⟨h1,?_⟩
  exact EX _ _ h2
 ·rintro⟨h1,h2⟩
  refine⟨h1,?_,fun _ _ hc=>by cases hc⟩
  have inj:∀a∈set,∀b∈set,iM nd a=iM nd b→a=b:=by
   intro a ha b hb he
   obtain⟨y,hy,hyn,_⟩:=h1 a ha
   obtain⟨z,hz,hzn,_⟩:=h1 b hb
   rcases rn h a with⟨p,x,hx,hn⟩|⟨_,hx⟩
   ·rcases rn h b with⟨p',x',hx',hn'⟩|⟨_,hx'⟩
    ·rw[he]at hx
     have:=Yz h hx hx'
     rw[← hn,← hn',this]
    ·exact absurd hzn (hx' z hz)
   ·exact absurd hyn (hx y hy)
  clear h1 hv
  induction set with
  |nil=>simp
  |cons x r ih=>
   rw[List.nodup_cons]at h2
   rw[List.map_cons,List.nodup_cons]
   refine⟨fun hc=>?_,ih h2.2 fun a ha b hb=>inj a (List.mem_cons_of_mem _ ha) b (List.mem_cons_of_mem _ hb)⟩
   obtain⟨y,hy,he⟩:=List.mem_map.1 hc
   have:=inj y (List.mem_cons_of_mem _ hy) x (List.mem_cons_self ..) he
   exact h2.1 (this▸hy)
end
theorem NX(set:List ae)(s:State):act set s=true↔∃x∈flS s,x.Kids.length=0∧x.Name∈set:=by
 have hs:hasN set s=((Ax [s]).map fun s=>AB set s.Name).sum:=by
  rw[← Oj];simp[mI]
 have hl:Ax [s]=(flS s).filter fun s=>s.Kids.length==0:=by simp[Ax,flL]
 have hcm:∀nm,0<AB set nm↔nm∈set:=by
  intro nm
  unfold AB
  constructor
  ·intro hp
   obtain⟨y,hy⟩:=List.exists_mem_of_length_pos (show 0<(set.filter fun e=>e==nm).length by omega)
   rw[List.mem_filter]at hy
   have:y=nm:=by simpa using hy.2
   exact this▸hy.1
  ·intro hm
   have:nm∈set.filter fun e=>e==nm:=List.mem_filter.2 ⟨hm,by simp⟩
   have:=List.length_pos_of_mem this
   omega
 have key:∀L:List State,0≤(L.map fun s=>AB set s.Name).sum∧((L.map fun s=>AB set s.Name).sum≠0↔∃x∈L,x.Name∈set):=by
  intro L
  induction L with
  |nil=>simp
  |cons y r ih=>
   have h0:0≤AB set y.Name:=by unfold AB;omega
   have h1:=hcm y.Name
   simp only[List.map_cons,List.sum_cons,List.mem_cons]
   refine⟨by omega,?_⟩
   constructor
   ·intro hne
    by_cases hy:y.Name∈set
    ·exact⟨y,.inl rfl,hy⟩
    ·have:¬0<AB set y.Name:=fun hc=>hy (h1.1 hc)
     obtain⟨x,hx,hx2⟩:=ih.2.1 (by omega)
     exact⟨x,.inr hx,hx2⟩
   ·rintro⟨x,hx,hx2⟩
    rcases hx with rfl|hx
    ·have:=h1.2 hx2;omega
    ·have:=ih.2.2 ⟨x,hx,hx2⟩;omega
 unfold act
 simp only[Bool.not_eq_true',beq_eq_false_iff_ne,ne_eq]
 rw[hs]
 have:=(key (Ax [s])).2
 rw[ne_eq]at this
 rw[this,hl]
 constructor
 ·rintro⟨x,hx,h2⟩
  rw[List.mem_filter]at hx
  exact⟨x,hx.1,by simpa using hx.2,h2⟩
 ·rintro⟨x,hx,h2,h3⟩
  exact⟨x,List.mem_filter.2 ⟨hx,by simp[h2]⟩,h3⟩
section
variable{c:Chart}{nd:List Node}(h:nd.map tri=Tn c)
include h
theorem XD(hf:Flat c)(set:List ae):Jx nd (set.map (iM nd))=oA c.States set:=by
 have hl:=Jp h
 have hl63:=hf.2.1
 rw[Bool.eq_iff_iff,Ff set c.States hf.1 hf.2.2]
 unfold Jx
 rw[Bool.and_eq_true,YO h hf set]
 refine and_congr_right fun vd=>?_
 -- atoms
 have hat:∀a∈set.map (iM nd),∃p x,(a,p,x)∈nL 0 1 c.States∧x.Name∈set∧x.Kids.length=0∧(0≤a∧a<nd.length):=by
  intro a ha
  obtain⟨nm,hm,rfl⟩:=List.mem_map.1 ha
  obtain⟨y,hy,hyn,hyk⟩:=vd.1 nm hm
  rcases rn h nm with⟨p,x,hx,hn⟩|⟨_,hx⟩
  ·have hr:=fH _ _ _ _ _ _ hx
   have hy':=hy
   rw[← lX c.States 0 1]at hy'
   obtain⟨⟨k,p',y'⟩,hm',rfl⟩:=List.mem_map.1 hy'
   have:=(YN h hf.1 hx hm' (hn.trans hyn.symm)).2
   subst this
   exact⟨p,_,hx,hn▸hm,hyk,by omega⟩
  ·exact absurd hyn (hx y hy)
 have hconf:∀q,mJ (ofL (rp nd (set.map (iM nd)))) q=true↔(0≤q∧q<128)∧∃a∈set.map (iM nd),q∈chn (sx nd) 64 a:=by
  intro q
  rw[kN]
  unfold ofL
  rw[Fb]
  unfold rp
  rw[List.mem_flatMap]
  constructor
  ·rintro⟨⟨h1,h2⟩,h3⟩;exact⟨⟨h1,by omega⟩,h3⟩
  ·rintro⟨⟨h1,h2⟩,h3⟩;exact⟨⟨h1,by omega⟩,h3⟩
 generalize hcf:ofL (rp nd (set.map (iM nd)))=conf at *
 have hact:∀q p s,(q,p,s)∈nL 0 1 c.States→(mJ conf q=act set s):=by
  intro q p s hq
  have hr:=fH _ _ _ _ _ _ hq
  rw[Bool.eq_iff_iff,hconf,NX]
  obtain⟨e1,e2⟩:=YS _ _ _ _ _ _ hq
  constructor
  ·rintro⟨_,a,ha,hc⟩
   obtain⟨p',x,hx,hn,hk,hb⟩:=hat a ha
   have:=(SJ h hq 64 a hb.1 (by omega) hb.2).1 hc
   exact⟨x,e1 _ _ _ hx this.1 this.2,hk,hn⟩
  ·rintro⟨x,hx,hk,hn⟩
   refine⟨by omega,iM nd x.Name,List.mem_map.2 ⟨_,hn,rfl⟩,?_⟩
   obtain⟨k,p',hm,g1,g2⟩:=e2 x hx
   obtain⟨p2,x2,hx2,hn2,hk2,hb⟩:=hat _ (List.mem_map.2 ⟨x.Name,hn,rfl⟩)
   have hn3:x2.Name=x.Name:=by
    rcases rn h x.Name with⟨p3,x3,hx3,hn3⟩|⟨hx3,_⟩
    ·rw[Yz h hx2 hx3];exact hn3
    ·omega
   have:=(YN h hf.1 hx2 hm hn3).1
   rw[this]at hb ⊢
   exact(SJ h hq 64 k hb.1 (by omega) hb.2).2 ⟨g1,g2⟩
 have hkI:∀q,0≤q→((kI q 0 nd).filter (mJ conf)).length=((((nL 0 1 c.States).filter fun x=>x.2.1==q).map (·.2.2)).filter (act set)).length∧(kI q 0 nd).length=(((nL 0 1 c.States).filter fun x=>x.2.1==q).map (·.2.2)).length:=by
  intro q hq
  rw[ZJ h hq]
  refine⟨?_,by simp⟩
  rw[List.filter_map,List.filter_map,List.length_map,List.length_map]
  congr 1
  apply List.filter_congr
  rintro⟨k,p,x⟩ hx
  exact hact k p x (List.mem_filter.1 hx).1
 have hc0:yE nd conf 0=true↔(c.States.filter (act set)).length=1:=by
  obtain⟨y,hy,hk,_⟩:=MG h
  have hkd:kdI nd 0=2:=by unfold kdI;rw[show(0:Int).toNat=0 from rfl,hy];exact hk
  obtain⟨k1,k2⟩:=hkI 0 (by omega)
  rw[VQ c.States 0 1 (by omega)]at k1 k2
  unfold yE
  rw[hkd,k1]
  simp only[show((2:Int)==2)=true from rfl,show((2:Int)==3)=false from rfl,Bool.true_and,Bool.false_and,Bool.not_false,Bool.and_true,Bool.not_eq_true',bne_eq_false_iff_eq]
  omega
 have hcq:∀q p s,(q,p,s)∈nL 0 1 c.States→(yE nd conf q=true↔cP set s):=by
  intro q p s hq
  have hr:=fH _ _ _ _ _ _ hq
  obtain⟨k1,k2⟩:=hkI q (by omega)
  rw[XM c.States 0 1 (by omega) q p s hq]at k1 k2
  unfold yE cP
  rw[(Jq h hq).2,k1,k2]
  by_cases e2:lH s=2
  ·simp only[e2,show((2:Int)==2)=true from rfl,show((2:Int)==3)=false from rfl,Bool.true_and,Bool.false_and,Bool.not_false,Bool.and_true,Bool.not_eq_true',bne_eq_false_iff_eq,true_implies,show ¬((2:Int)=3) by decide,false_implies,and_true]
   omega
  ·by_cases e3:lH s=3
   ·simp only[e3,show((3:Int)==2)=false from rfl,show((3:Int)==3)=true from rfl,Bool.true_and,Bool.false_and,Bool.not_false,Bool.true_and,Bool.not_eq_true',bne_eq_false_iff_eq,true_implies,show ¬((3:Int)=2) by decide,false_implies,true_and]
    omega
   ·have b2:(lH s==2)=false:=by simpa using e2
    have b3:(lH s==3)=false:=by simpa using e3
    simp[b2,b3,e2,e3]
 rw[Bool.and_eq_true]
 constructor
 ·rintro⟨h0,hall⟩
  have hm0:=kN.1 h0
  refine⟨hc0.1 (List.all_eq_true.1 hall 0 hm0),fun s hs ha=>?_⟩
  rw[← lX c.States 0 1]at hs
  obtain⟨⟨q,p,s'⟩,hq,rfl⟩:=List.mem_map.1 hs
  have:mJ conf q=true:=by rw[hact q p s' hq];exact ha
  exact(hcq q p s' hq).1 (List.all_eq_true.1 hall q (kN.1 this))
 ·rintro⟨h1,h2⟩
  have hex:∃s∈c.States,act set s=true:=by
   obtain⟨x,hx⟩:=List.exists_mem_of_length_pos (show 0<(c.States.filter (act set)).length by omega)
   exact⟨x,(List.mem_filter.1 hx).1,(List.mem_filter.1 hx).2⟩
  obtain⟨s0,_,ha0⟩:=hex
  obtain⟨x0,_,_,hn0⟩:=(NX set s0).1 ha0
  obtain⟨p,x,hx,_,_,hb⟩:=hat _ (List.mem_map.2 ⟨_,hn0,rfl⟩)
  refine⟨(hconf 0).2 ⟨by omega,_,List.mem_map.2 ⟨_,hn0,rfl⟩,Vx h hf 64 _ hb.1 (by omega) hb.2⟩,List.all_eq_true.2 fun q hq=>?_⟩
  by_cases hz:q=0
  ·subst hz;exact hc0.2 h1
  ·obtain⟨⟨g1,g2⟩,a,ha,hc⟩:=(hconf q).1 (kN.2 hq)
   obtain⟨p',x',hx',_,_,hb'⟩:=hat a ha
   have hrg:=(IT nd (ZG h hf) 64 a (by omega) hb'.2 q hc).1
   obtain⟨p2,s2,hq2⟩:=Be h (k:=q) (by omega) hrg.2
   have:act set s2=true:=by rw[← hact q p2 s2 hq2];exact kN.2 hq
   exact(hcq q p2 s2 hq2).2 (h2 s2 (MH h hq2) this)
end
theorem XE(l:List State):∀(top:Bool)(out:List State),out.length≤63→(trL top out l).1=0→(out++flL l).length≤63∧∀s∈flL l,∃t,GS t s=false:=by
 refine State.rec_1 (motive_1:=fun s=>∀(top:Bool)(out:List State),out.length≤63→(tr1 top out s).1=0→(out++flS s).length≤63∧∀x∈flS s,∃t,GS t x=false) (motive_2:=fun l=>∀(top:Bool)(out:List State),out.length≤63→(trL top out l).1=0→(out++flL l).length≤63∧∀s∈flL l,∃t,GS t s=false) ?_ ?_ ?_ l
 ·intro k n en ex tr kids a ih top out hu h
  rw[DE]at h
  obtain⟨h1,h2⟩:=cV.1 h
  unfold iV at h1
  obtain⟨h3,h4⟩:=cV.1 h1
  have h5:=(cV.1 h4).2
  rw[wW (by decide)]at h3 h5
  have h6:=of_decide_eq_true h3
  obtain⟨g1,g2⟩:=ih false _ (by simp;omega) h2
  rw[bM]
  refine⟨by simpa using g1,fun x hx=>?_⟩
  rcases List.mem_cons.1 hx with rfl|hx
  ·exact⟨top,by simpa using h5⟩
  ·exact g2 x hx
 ·intro top out hu _
  exact⟨by simpa[flL] using hu,fun s hs=>by simp[flL]at hs⟩
 ·intro s r h1 h2 top out hu h
  simp only[trL]at h
  obtain⟨g1,g2⟩:=cV.1 h
  obtain⟨a1,a2⟩:=h1 top out hu g1
  obtain⟨b1,b2⟩:=h2 top _ a1 g2
  refine⟨by simpa[flL] using b1,fun x hx=>?_⟩
  simp only[flL,List.mem_append]at hx
  rcases hx with hx|hx
  ·exact a2 x hx
  ·exact b2 x hx
def HN(c:Chart):Prop:=IB c∧(trL true [] c.States).1=0
theorem SL:HN c0:=by
 refine⟨⟨?_,?_,?_,?_,?_⟩,?_⟩<;>simp[c0,aV,nM,trL]
theorem LY{c:Chart}(h:HN c)(hh:(flL c.States).any isH=false):Flat c:=by
 obtain⟨h1,h2⟩:=h
 obtain⟨a1,a2⟩:=XE c.States true [] (by simp) h2
 refine⟨by simpa using VI c.States true [] (by simp[Uq]) h2,by simpa using a1,fun s hs=>?_⟩
 have hk:=(oc (SN c.States h1.2.2.2.2 s hs)).1
 have hn:isH s=false:=by
  have:=List.any_eq_false.1 hh s hs
  simpa using this
 unfold isH at hn
 simp only[Bool.or_eq_false_iff,beq_eq_false_iff_ne,ne_eq]at hn
 refine⟨by omega,fun h2 hz=>?_⟩
 obtain⟨t,ht⟩:=a2 s hs
 unfold GS at ht
 simp only[Bool.or_eq_false_iff,Bool.and_eq_false_iff]at ht
 have hnil:s.Kids=[]:=List.eq_nil_of_length_eq_zero hz
 rcases ht.1.2 with h|h
 ·simp[h2]at h
 ·simp[hnil]at h
theorem XF{Cs:List Chart}(h:(gP chartG [] Cs).1=0)(hc:∀c∈Cs,IB c):∀c∈Cs,HN c:=by
 intro c hm
 obtain⟨p,hp⟩:=GZ _ _ _ h c hm
 unfold chartG chF at hp
 exact⟨hc c hm,(cV.1 (cV.1 (cV.1 hp).2).2).1⟩
section
variable{R:Type}{N:Nat}
theorem LZ(c:Chart)(nm:ae)(k:Bool→ab R)(hN:big≤N)(hc:IB c)(hf:Flat c):rE N c.Name c.Steps c.Fuel c.Vars c.Ports c.Timers c.States c.At nm k=k ((flL c.States).any fun e=>e.Name==nm):=by
 have hb:big=1000000000:=rfl
 have h4:=hc.2.2.2.1
 have h63:=hf.2.1
 unfold rE
 obtain⟨nd,g1,g2⟩:=Oe c (fun(r1:List Node)=>
 zi N r1 nm (fun(r2:Int)=>
 (ifB (decide (r2>0)) true ((at? r1 r2).bind fun e3=>
 some (decide (e3.Kind≤3))) (some false)).bind fun c4=>
 k c4)) hN (by omega)
 have hl:=Jp g2
 rw[g1,Of _ _ _ hN (by omega)]
 change((ifB (decide (iM nd nm>0)) true ((at? nd (iM nd nm)).bind fun e3=>some (decide (e3.Kind≤3))) (some false)).bind fun c4=>k c4)=_
 rcases rn g2 nm with⟨p,x,hx,hn⟩|⟨hx,hn⟩
 ·obtain⟨y,hy,k1,k2,k3,k4⟩:=Fe g2 hx
  have hs:=MH g2 hx
  have:=NW (hf.2.2 x hs).1
  rw[bU (by omega) hy]
  have ha:((flL c.States).any fun e=>e.Name==nm)=true:=List.any_eq_true.2 ⟨x,hs,by simp[hn]⟩
  rw[ha,decide_eq_true (show iM nd nm>0 by omega)]
  simp[ifB,show y.Kind≤3 by omega]
 ·have ha:((flL c.States).any fun e=>e.Name==nm)=false:=by
   rw[List.any_eq_false]
   intro x hx
   simpa using hn x hx
  rw[hx,ha]
  simp[ifB]
theorem XG(c:Chart)(set:List ae)(k:List Int→Bool→ab R)(hN:big≤N)(hc:IB c)(hf:Flat c)(hs:set.length≤16386):∃L,Ja N c.Name c.Steps c.Fuel c.Vars c.Ports c.Timers c.States c.At set k=k L (oA c.States set):=by
 have hb:big=1000000000:=rfl
 have h4:=hc.2.2.2.1
 have h63:=hf.2.1
 unfold Ja
 obtain⟨nd,g1,g2⟩:=Oe c (fun(r1:List Node)=>
 ph N set r1 (fun(y13:List Int)=>
 vS N r1 y13 (fun(r14:List Int)(r15:Bool)=>
 k r14 r15)) N 0 ([]:List Int)) hN (by omega)
 have hl:=Jp g2
 obtain⟨L,hL⟩:=VO nd (set.map (iM nd)) k hN (ZG g2 hf) (by simpa using hs)
 refine⟨L,?_⟩
 rw[g1,← XD g2 hf set,← hL]
 have:=MF (fun _ e (a:List Int)=>a++[iM nd e]) (fun pre a=>a.length=pre.length) (fun y13=>vS N nd y13 (fun(r14:List Int)(r15:Bool)=>k r14 r15)) (l:=set) (by omega) (fun n i a=>ph N set nd (fun(y13:List Int)=>
 vS N nd y13 (fun(r14:List Int)(r15:Bool)=>
 k r14 r15)) n i a) (fun n pre e rest a h hi h1 h2=>⟨?_,by simp[hi]⟩) (fun n a hi=>?_) set [] [] N rfl rfl (by omega)
 ·rw[jR (fun(a:List Int)(e:ae)=>a++[iM nd e])]at this
  refine Eq.trans this ?_
  have hfo:∀(l:List ae)(a:List Int),l.foldl (fun a e=>a++[iM nd e]) a=a++l.map (iM nd):=by
   intro l
   induction l with
   |nil=>intro a;simp
   |cons e r ih=>intro a;simp only[List.foldl_cons,ih,List.map_cons];simp
  rw[hfo];rfl
 ·have hpl:pre.length≤set.length:=by rw[h];simp
  simp only[ph,ur,h1,h2,if_true,Option.bind_some]
  rw[Of _ _ _ hN (by omega)]
  change(if a.length+[iM nd e].length≤ah then _ else none)=_
  rw[if_pos (by simp[ah];omega)]
  rfl
 ·simp only[ph,ur]
  simp
end
def NY(a b:List ae):Bool:=(a.all fun e=>b.any fun x=>x==e)&&(((a.length:Nat):Int)==((b.length:Nat):Int))
def XH(y c:Cell):Bool:=((y.Sets.zip c.Sets).all fun p=>NY p.1 p.2)&&((y.Msgs.zip c.Msgs).all fun p=>GV p.1 p.2)
theorem Jr:∀(a b:List ae),a.Nodup→(∀x∈a,x∈b)→b.length≤a.length→∀y∈b,y∈a
 | [],b,_,_,hl,y,hy=>by
  have:b=[]:=List.eq_nil_of_length_eq_zero (by simpa using hl)
  subst this;exact hy
 |x::r,b,hn,hs,hl,y,hy=>by
  rw[List.nodup_cons]at hn
  have hx:=hs x (List.mem_cons_self ..)
  have hlen:=List.length_erase_of_mem hx
  have hlp:=List.length_pos_of_mem hx
  by_cases hyx:y=x
  ·subst hyx;exact List.mem_cons_self ..
  ·refine List.mem_cons_of_mem _ (Jr r (b.erase x) hn.2 (fun z hz=>?_) (by simp at hl;omega) y ((List.mem_erase_of_ne hyx).2 hy))
   exact(List.mem_erase_of_ne (fun hc:z=x=>hn.1 (by rw[← hc];exact hz))).2 (hs z (List.mem_cons_of_mem _ hz))
theorem Vy{a b:List ae}(ha:a.Nodup)(hb:b.Nodup):NY a b=yA b a:=by
 unfold NY yA
 rw[Bool.eq_iff_iff]
 simp only[Bool.and_eq_true,List.all_eq_true,List.any_eq_true,beq_iff_eq,Bool.not_eq_true',List.any_eq_false,Bool.not_eq_false',exists_eq_right,exists_eq_right']
 constructor
 ·rintro⟨h1,h2⟩
  refine⟨h2.symm,fun y hy=>?_⟩
  have:=Jr a b ha (fun x hx=>h1 x hx) (by omega) y hy
  simpa using this
 ·rintro⟨h1,h2⟩
  refine⟨fun x hx=>?_,h1.symm⟩
  have:=Jr b a hb (fun y hy=>by have:=h2 y hy;simpa using this) (by omega) x hx
  exact this
theorem EY{α β:Type}(f:α×β→Bool)(g:β×α→Bool):∀(a:List α)(b:List β),(∀x y,x∈a→y∈b→f (x,y)=g (y,x))→(a.zip b).all f=(b.zip a).all g
 | [],b,_=>by cases b<;>rfl
 |x::r,[],_=>rfl
 |x::r,y::s,h=>by
  simp only[List.zip_cons_cons,List.all_cons]
  rw[h x y (List.mem_cons_self ..) (List.mem_cons_self ..),EY f g r s fun u v hu hv=>h u v (List.mem_cons_of_mem _ hu) (List.mem_cons_of_mem _ hv)]
theorem Vz(a b:List ae):GV a b=GV b a:=by
 unfold GV
 rw[EY (fun p=>p.1==p.2) (fun p=>p.1==p.2) a b fun x y _ _=>by rw[Bool.eq_iff_iff];simp only[beq_iff_eq];exact eq_comm]
 congr 1
 exact decide_eq_decide.2 eq_comm
theorem TM{y c:Cell}(h1:y.Sets.length=c.Sets.length)(h2:y.Msgs.length=c.Msgs.length)(hy:∀s∈y.Sets,s.Nodup)(hc:∀s∈c.Sets,s.Nodup):XH y c=AZ c y:=by
 unfold XH AZ SE SF
 rw[decide_eq_true h1.symm,decide_eq_true h2.symm,Bool.true_and,Bool.true_and]
 rw[EY (fun p=>NY p.1 p.2) (fun p=>yA p.1 p.2) y.Sets c.Sets fun a b ha hb=>Vy (hy a ha) (hc b hb)]
 rw[EY (fun p=>GV p.1 p.2) (fun p=>GV p.1 p.2) y.Msgs c.Msgs fun a b _ _=>Vz a b]
section
variable{R:Type}{N:Nat}
theorem VA(a b:List ae)(k:Bool→ab R)(hN:big≤N)(ha:a.length<big)(hb:b.length<big):xw N a b k=k (NY a b):=by
 unfold xw NY
 have:=search (l:=a) (fun e => !b.any fun x=>x==e) (fun j=>if j<0 then k (((a.length:Nat):Int)==((b.length:Nat):Int)) else k false) ha (fun n i=>jO N a b (k (((a.length:Nat):Int)==((b.length:Nat):Int))) (fun y=>k y) n i) (fun n i e h0 h1 h2 h3 h4=>?_) (fun n i h=>?_) N (by omega)
 ·refine Eq.trans this ?_
  rw[SG,← kK]
  by_cases hz:idx (fun e => !b.any fun x=>x==e) a<0
  ·rw[if_pos hz,decide_eq_true hz,Bool.true_and]
  ·rw[if_neg hz,decide_eq_false hz,Bool.false_and]
 ·simp only[jO,ny,h2,h3,if_true,Option.bind_some]
  rw[eM _ _ _ hN hb,if_neg (show ¬i<0 by omega)]
 ·simp only[jO,ny,h]
  simp
theorem TN(a b:List ae)(k:Bool→ab R)(hN:big≤N)(ha:a.length<big):Cy N a b k=k (GV a b):=by
 unfold Cy GV
 by_cases h:a.length=b.length
 ·have h':((((a.length:Nat):Int) != ((b.length:Nat):Int)))=false:=by simp[h]
  simp only[h',Bool.false_eq_true,if_false]
  rw[decide_eq_true h,Bool.true_and]
  refine Lg a b (fun p=>p.1==p.2) k (by omega) h (fun n i=>nz N a b (k true) (fun y=>k y) n i) (fun n i e h0 h1 h2 h3 h4 h5=>?_) (fun n i h=>?_) N (by omega)
  ·simp only[nz,qv,h2,h3,h4,if_true,Option.bind_some]
  ·simp only[nz,qv,h]
   simp
 ·have h':((((a.length:Nat):Int) != ((b.length:Nat):Int)))=true:=by simp;omega
  simp only[h',if_true]
  rw[decide_eq_false h,Bool.false_and]
theorem MI(y c:Cell)(k:Bool→ab R)(hN:big≤N)(hy:vb y)(hc:vb c)(h1:y.Sets.length=c.Sets.length)(h2:y.Msgs.length=c.Msgs.length):uu N y.Rank y.Sets y.Msgs y.At c.Rank c.Sets c.Msgs c.At k=k (XH y c):=by
 have hbig:big=1000000000:=rfl
 have hB:B=16386:=rfl
 have l1:=hy.1.1;have l2:=hy.2.1
 unfold uu XH
 have m:=Lg y.Msgs c.Msgs (fun p=>GV p.1 p.2) (fun b=>k b) (by omega) h2 (fun n i=>eV N y.Rank y.Sets y.Msgs y.At c.Rank c.Sets c.Msgs c.At (k true) (fun z=>k z) n i) (fun n i e g0 g1 g2 g3 g4 g5=>?_) (fun n i h=>?_) N (by omega)
 rotate_left
 ·have e1:=hy.2.2 e.1 (List.of_mem_zip g5).1
  simp only[eV,lS,g2,g3,g4,if_true,Option.bind_some]
  rw[TN _ _ _ hN (by omega)]
 ·simp only[eV,lS,h]
  simp
 have s:=Lg y.Sets c.Sets (fun p=>NY p.1 p.2) (fun b=>if b=true then eV N y.Rank y.Sets y.Msgs y.At c.Rank c.Sets c.Msgs c.At (k true) (fun z=>k z) N 0 else k false) (by omega) h1 (fun n i=>iT N y.Rank y.Sets y.Msgs y.At c.Rank c.Sets c.Msgs c.At (eV N y.Rank y.Sets y.Msgs y.At c.Rank c.Sets c.Msgs c.At (k true) (fun z=>k z) N 0) (fun z=>k z) n i) (fun n i e g0 g1 g2 g3 g4 g5=>?_) (fun n i h=>?_) N (by omega)
 ·refine Eq.trans s ?_
  rw[m]
  cases(y.Sets.zip c.Sets).all fun p=>NY p.1 p.2<;>simp
 ·have e1:=hy.1.2 e.1 (List.of_mem_zip g5).1
  have e2:=hc.1.2 e.2 (List.of_mem_zip g5).2
  simp only[iT,lR,g2,g3,g4,if_true,Option.bind_some]
  rw[VA _ _ _ hN (by omega) (by omega)]
  rfl
 ·simp only[iT,lR,h]
  simp
end
theorem Js{Cs:List Chart}{Is:List Inst}{Hs:List ak}{x:Cert}{c:Cell}(hf:∀n∈x.Insts,Flat ((db Cs Is n).getD c0))(h:wZ Cs Is Hs x c=true):(c.Sets.length=x.Insts.length∧c.Msgs.length=x.Chans.length)∧∀s∈c.Sets,s.Nodup:=by
 unfold wZ at h
 simp only[Bool.and_eq_true,decide_eq_true_eq]at h
 obtain⟨⟨⟨h1,h2⟩,h3⟩,_⟩:=h
 refine⟨⟨h1,h2⟩,fun s hs=>?_⟩
 obtain⟨j,hj⟩:=List.getElem?_of_mem hs
 have hlt:j<x.Insts.length:=by have:=(List.getElem?_eq_some_iff.1 hj).1;omega
 have hz:(s,x.Insts[j])∈c.Sets.zip x.Insts:=by
  refine List.mem_of_getElem? (i:=j) ?_
  rw[List.getElem?_zip_eq_some]
  exact⟨hj,List.getElem?_eq_getElem hlt⟩
 unfold GW at h3
 have:=List.all_eq_true.1 h3 _ hz
 simp only[beq_iff_eq,Bool.and_eq_false_iff,decide_eq_false_iff_not,Bool.not_eq_false']at this
 rcases this with h|h
 ·have:s=[]:=List.eq_nil_of_length_eq_zero (by omega)
  subst this;exact List.nodup_nil
 ·have hfl:=hf _ (List.getElem_mem hlt)
  exact((Ff s _ hfl.1 hfl.2.2).1 h).1.2
section
variable{R:Type}{N:Nat}
theorem VB(x:Cert)(pre rest:List Cell)(c:Cell)(A:Int)(Cs:List Chart)(Is:List Inst)(Hs:List ak)(Es:List Cert)(k:Int→ab R)(hN:big≤N)(hc:Cs.length<big)(hi:Is.length<big)(hh:Hs.length<big)(hcs:∀c∈Cs,HN c)(hx:Bh x)(h:x.Cells=pre++c::rest)(hm:∀n∈x.Insts,(db Cs Is n).isSome=true∧(flL ((db Cs Is n).getD c0).States).any isH=false)(hch:∀n∈x.Chans,(Hs.any fun e=>e.Name==n)=true)(hp:∀y∈pre,wZ Cs Is Hs x y=true):
  Ga N A Cs Is Hs Es x.Name x.Inst x.Req x.Resp x.Insts x.Chans x.Cells x.At pre.length k=k (su Cs Is Hs x pre c).1:=by
 have hbig:big=1000000000:=rfl
 have hB:B=16386:=rfl
 obtain⟨x1,x2,x3,x4⟩:=hx
 have hlen:x.Cells.length=pre.length+(rest.length+1):=by rw[h];simp
 have hat:at? x.Cells pre.length=some c:=bU (by omega) (by rw[h];simp)
 have hgood:∀n,HN ((db Cs Is n).getD c0):=ET SL hcs
 have hflat:∀n∈x.Insts,Flat ((db Cs Is n).getD c0):=fun n hn=>LY (hgood n) (hm n hn).2
 have hcm:vb c:=x4 c (by rw[h];simp)
 unfold Ga
 rw[hat,Option.bind_some]
 simp only[bm,Option.bind_some]
 unfold su
 have hcnd:(decide (c.Rank<0)||decide (c.Rank>64)) = !(decide (c.Rank≥0)&&decide (c.Rank≤64)):=by
  rw[Bool.eq_iff_iff]
  simp only[Bool.or_eq_true,decide_eq_true_eq,Bool.not_eq_true',Bool.and_eq_false_iff,decide_eq_false_iff_not]
  omega
 rw[hcnd]
 rcases Bool.eq_false_or_eq_true (decide (c.Rank≥0)&&decide (c.Rank≤64)) with h16|h16
 rotate_left
 ·rw[h16,Bool.not_false,if_pos rfl,bb,aU (a:=(16,c.At)) _ (by simp)]
 rw[h16,Bool.not_true,if_neg (by simp),br,aS (av (aT _ _ (by decide)) (aT _ _ (by decide)))]
 by_cases h1:c.Sets.length=x.Insts.length
 rotate_left
 ·have e1:(((((c.Sets.length:Nat):Int) != ((x.Insts.length:Nat):Int)))||((((c.Msgs.length:Nat):Int) != ((x.Chans.length:Nat):Int))))=true:=by
   simp;omega
  have e2:wZ Cs Is Hs x c=false:=by unfold wZ;rw[decide_eq_false h1];simp
  rw[e1,if_pos rfl,e2,bb,aU (a:=(18,c.At)) _ (by simp)]
 by_cases h2:c.Msgs.length=x.Chans.length
 rotate_left
 ·have e1:(((((c.Sets.length:Nat):Int) != ((x.Insts.length:Nat):Int)))||((((c.Msgs.length:Nat):Int) != ((x.Chans.length:Nat):Int))))=true:=by
   simp;omega
  have e2:wZ Cs Is Hs x c=false:=by unfold wZ;rw[decide_eq_false h2];simp
  rw[e1,if_pos rfl,e2,bb,aU (a:=(18,c.At)) _ (by simp)]
 have e1:(((((c.Sets.length:Nat):Int) != ((x.Insts.length:Nat):Int)))||((((c.Msgs.length:Nat):Int) != ((x.Chans.length:Nat):Int))))=false:=by simp[h1,h2]
 rw[e1,if_neg (by simp)]
 have hfe:wZ Cs Is Hs x c=(GW Cs Is x c&&MC Hs x c):=by
  unfold wZ;rw[decide_eq_true h1,decide_eq_true h2];simp
 have l1:=hcm.1.1;have l2:=hcm.2.1
 -- alike
 have l4:wZ Cs Is Hs x c=true→∀kk:Int→ab R,jS N pre.length x.Name x.Inst x.Req x.Resp x.Insts x.Chans x.Cells x.At c.Rank c.Sets c.Msgs c.At (kk 0) (fun z=>kk z) N 0=kk (chk (!pre.any fun y=>AZ c y) 8 c.At).1:=by
  intro hfit kk
  obtain⟨⟨_,_⟩,hnd⟩:=Js hflat hfit
  have:=search (l:=pre) (fun y=>AZ c y) (fun j=>if j<0 then kk 0 else kk 8) (by omega) (fun n i=>jS N pre.length x.Name x.Inst x.Req x.Resp x.Insts x.Chans x.Cells x.At c.Rank c.Sets c.Msgs c.At (kk 0) (fun z=>kk z) n i) (fun n i e g0 g1 g2 g3 g4=>?_) (fun n i g=>?_) N (by omega)
  ·refine Eq.trans this ?_
   rw[← kK]
   by_cases hz:idx (fun y=>AZ c y) pre<0
   ·rw[if_pos hz,decide_eq_true hz,br]
   ·rw[if_neg hz,decide_eq_false hz,bb]
  ·have hem:=List.mem_of_getElem? g4
   have hi':x.Cells[i.toNat]?=some e:=by rw[h,List.getElem?_append_left (by omega)];exact g4
   obtain⟨⟨q1,q2⟩,q3⟩:=Js hflat (hp e hem)
   simp only[jS,sg,g2,bU g0 hi',if_true,Option.bind_some]
   rw[MI e c _ hN (x4 e (by rw[h];exact List.mem_append_left _ hem)) hcm (by omega) (by omega),TM (by omega) (by omega) q3 hnd,if_neg (show ¬i<0 by omega)]
  ·simp only[jS,sg,g]
   simp
 generalize hk4:jS N pre.length x.Name x.Inst x.Req x.Resp x.Insts x.Chans x.Cells x.At c.Rank c.Sets c.Msgs c.At (k 0) (fun z=>k z) N 0=rs4 at *
 have m:=Lg c.Msgs x.Chans (fun p=>match Hs.find? fun e=>e.Name==p.2 with
 |some h=>decide (((p.1.length:Nat):Int)≤h.Cap)
 |none=>false) (fun b=>if b=true then rs4 else k 18) (by omega) h2 (fun n i=>mz N pre.length A Cs Is Hs Es x.Name x.Inst x.Req x.Resp x.Insts x.Chans x.Cells x.At c.Rank c.Sets c.Msgs c.At rs4 (fun z=>k z) n i) (fun n i e g0 g1 g2 g3 g4 g5=>?_) (fun n i g=>?_) N (by omega)
 rotate_left
 ·have hany:=hch e.2 (List.of_mem_zip g5).2
  simp only[mz,sf,g2,g3,g4,if_true,Option.bind_some]
  rw[DD _ _ _ _ _ _ _ hN hh]
  have hz:¬idx (fun y=>y.Name==e.2) Hs<0:=by
   intro hc
   have:=kK (fun y:ak=>y.Name==e.2) Hs
   rw[hany,decide_eq_true hc]at this
   cases this
  obtain⟨y,y1,y2⟩:=tW hz
  rw[y1,Option.bind_some,y2]
  by_cases hcap:((e.1.length:Nat):Int)≤y.Cap
  ·simp[hcap,show ¬((e.1.length:Nat):Int)>y.Cap by omega]
  ·simp[hcap,show((e.1.length:Nat):Int)>y.Cap by omega]
 ·simp only[mz,sf,g]
  simp
 generalize hk2:mz N pre.length A Cs Is Hs Es x.Name x.Inst x.Req x.Resp x.Insts x.Chans x.Cells x.At c.Rank c.Sets c.Msgs c.At rs4 (fun z=>k z) N 0=rs2 at *
 have s:=Lg c.Sets x.Insts (fun p=>(decide (((p.1.length:Nat):Int)>0) && !oA ((db Cs Is p.2).getD c0).States p.1)==false) (fun b=>if b=true then rs2 else k 18) (by omega) h1 (fun n i=>pH N pre.length A Cs Is Hs Es x.Name x.Inst x.Req x.Resp x.Insts x.Chans x.Cells x.At c.Rank c.Sets c.Msgs c.At rs2 (fun z=>k z) n i) (fun n i e g0 g1 g2 g3 g4 g5=>?_) (fun n i g=>?_) N (by omega)
 ·refine Eq.trans s ?_
  have m':rs2=if MC Hs x c=true then rs4 else k 18:=m
  show(if GW Cs Is x c=true then rs2 else k 18)=_
  rw[m',hfe]
  rw[hfe]at l4
  rcases Bool.eq_false_or_eq_true (GW Cs Is x c) with hs|hs
  ·rw[hs,if_pos rfl,Bool.true_and]
   rw[hs,Bool.true_and]at l4
   split
   ·rename_i hmm
    rw[hmm,br,aS (aT _ _ (by decide)),← hk4,l4 hmm k]
   ·rename_i hmm
    rw[Bool.eq_false_iff.2 hmm,bb,aU (a:=(18,c.At)) _ (by simp)]
  ·rw[hs,if_neg (by simp),Bool.false_and,bb,aU (a:=(18,c.At)) _ (by simp)]
 ·have hin:=(List.of_mem_zip g5).2
  have he:=hcm.1.2 e.1 (List.of_mem_zip g5).1
  simp only[pH,se,g2,g3,g4,if_true,Option.bind_some]
  rw[Ha _ _ _ _ _ _ _ hN hc hi (hm e.2 hin).1]
  dsimp only
  refine(XG ((db Cs Is e.2).getD c0) e.1 _ hN (hgood e.2).1 (hflat e.2 hin) (by omega)).elim fun L hL=>hL.trans ?_
  simp only[aD,Option.bind_some]
  cases(decide (((e.1.length:Nat):Int)>0) && !oA ((db Cs Is e.2).getD c0).States e.1)<;>rfl
 ·simp only[pH,se,g]
  simp
end
def tY(Cs:List Chart)(Is:List Inst)(Hs:List ak)(x:Cert):Flt:=orF (gP (MD Cs Is x.At) [] x.Insts) (orF (TH Cs Is x) (orF (chk (!(x.Req==x.Resp)) 17 x.At) (gP (Iz Hs x) [] x.Chans)))
theorem VC(Cs:List Chart)(Is:List Inst)(Hs:List ak)(x:Cert):LU Cs Is Hs x=orF (tY Cs Is Hs x) (gP (su Cs Is Hs x) [] x.Cells):=by
 unfold LU tY
 simp only[aW]
def AtF(a:Int)(f:Flt):Prop:=f.1≠0→f.2=a
theorem pQ(b:Bool)(c a:Int):AtF a (chk b c a):=by
 unfold AtF chk
 split<;>simp
theorem rQ{a:Int}{f g:Flt}(h1:AtF a f)(h2:AtF a g):AtF a (orF f g):=by
 unfold orF
 split
 ·exact h2
 ·exact h1
theorem QG{E:Type}{a:Int}{g:List E→E→Flt}(h:∀pre e,AtF a (g pre e)):∀(r pre:List E),AtF a (gP g pre r)
 | [],pre=>fun h=>absurd rfl h
 |e::r,pre=>rQ (h pre e) (QG h r _)
theorem QH(Cs:List Chart)(Is:List Inst)(Hs:List ak)(x:Cert):AtF x.At (tY Cs Is Hs x):=by
 refine rQ (QG (fun pre e=>rQ (pQ _ _ _) (rQ (pQ _ _ _) (pQ _ _ _))) _ _) (rQ (pQ _ _ _) (rQ (pQ _ _ _) (QG (fun pre e=>rQ (pQ _ _ _) (rQ (pQ _ _ _) ?_)) _ _)))
 split
 ·exact pQ _ _ _
 ·exact fun h=>absurd rfl h
theorem VE(Cs:List Chart)(Is:List Inst)(Hs:List ak)(x:Cert)(pre:List Cell)(c:Cell):AtF c.At (su Cs Is Hs x pre c):=rQ (pQ _ _ _) (rQ (pQ _ _ _) (pQ _ _ _))
theorem QI(Cs:List Chart)(Is:List Inst)(Hs:List ak)(x:Cert):Nf (tY Cs Is Hs x):=av (fW (IQ _ _ _) _ _) (av (ME _ _ _) (av (aT _ _ (by decide)) (fW (Cu _ _) _ _)))
theorem EZ(l:List ae)(s:ae):(l.any fun e=>e==s)=l.any fun e=>s==e:=by
 congr 1
 funext e
 rw[Bool.eq_iff_iff]
 simp only[beq_iff_eq]
 exact eq_comm
section
variable{R:Type}{N:Nat}
theorem NZ(x:Cert)(A:Int)(Cs:List Chart)(Is:List Inst)(Hs:List ak)(Es:List Cert)(k:Int→ab R)(hN:big≤N)(hc:Cs.length<big)(hi:Is.length<big)(hh:Hs.length<big)(hcs:∀c∈Cs,HN c)(hx:Bh x)(hall:Oc Cs Is):
  sT N A Cs Is Hs Es x.Name x.Inst x.Req x.Resp x.Insts x.Chans x.Cells x.At k=k (tY Cs Is Hs x).1:=by
 have hbig:big=1000000000:=rfl
 have hB:B=16386:=rfl
 obtain⟨x1,x2,x3,x4⟩:=hx
 have hgood:∀n,HN ((db Cs Is n).getD c0):=ET SL hcs
 -- channels
 have l3:=(yB (Iz Hs x) (Cu Hs x) (fun _=>True) (fun c _=>k c) (l:=x.Chans) (by omega) (fun n i=>jN N A Cs Is Hs Es x.Name x.Inst x.Req x.Resp x.Insts x.Chans x.Cells x.At (k 0) (fun z=>k z) n i) (fun n pre e rest h _ h1 h2=>⟨?_,fun _=>trivial⟩) (k 0) (fun n h _=>?_) trivial N (by omega)).1
 rotate_left
 ·have hpl:pre.length≤x.Chans.length:=by rw[h];simp
  simp only[jN,nv,h1,h2,if_true,Option.bind_some]
  rw[DD _ _ _ _ _ _ _ hN hh,kK,if_pos (g01 hpl),kL h,eM _ _ _ hN (by omega),EZ]
  unfold Iz
  rcases Bool.eq_false_or_eq_true (Hs.any fun y=>y.Name==e) with h7|h7
  rotate_left
  ·rw[h7,Bool.not_false,if_pos rfl,bb,aU (a:=(7,x.At)) _ (by simp),if_neg (by simp)];rfl
  rw[h7,Bool.not_true,if_neg (by simp),br]
  have hz:¬idx (fun y=>y.Name==e) Hs<0:=by
   intro hc
   have:=kK (fun y:ak=>y.Name==e) Hs
   rw[h7,decide_eq_true hc]at this
   cases this
  obtain⟨y,y1,y2⟩:=tW hz
  rw[y2]
  dsimp only
  rw[aS (av (aT _ _ (by decide)) (aT _ _ (by decide)))]
  rcases Bool.eq_false_or_eq_true (pre.any fun n=>e==n) with h8|h8
  ·rw[h8,if_pos rfl,Bool.not_true,bb,aU (a:=(8,x.At)) _ (by simp),if_neg (by simp)];rfl
  rw[h8,if_neg (by simp),Bool.not_false,br,aS (aT _ _ (by decide)),y1,Option.bind_some,Option.bind_some,eM _ _ _ hN (by omega)]
  simp only[eM _ _ _ hN (show x.Insts.length<big by omega),bm,Option.bind_some,EZ]
  rcases Bool.eq_false_or_eq_true ((x.Insts.any fun n=>y.From==n)&&x.Insts.any fun n=>y.To==n) with hr|hr
  ·have h':=hr
   rw[Bool.and_eq_true]at h'
   rw[hr,h'.1,h'.2,br];simp
  ·rw[hr,bb]
   have h':=hr
   rw[Bool.and_eq_false_iff]at h'
   have:(!(x.Insts.any fun n=>y.From==n) || !(x.Insts.any fun n=>y.To==n))=true:=by
    rcases h' with h' | h'<;>simp[h']
   rw[this,if_pos rfl,if_neg (by simp)];rfl
 ·simp only[jN,nv,h]
  simp
 have hl3:∀f,f=gP (Iz Hs x) [] x.Chans→(if f.1=0 then k 0 else kf (fun c _=>k c) f)=k f.1:=by
  intro f _
  split
  ·rename_i hz;rw[hz]
  ·rfl
 rw[hl3 _ rfl]at l3
 have c12:kU N A Cs Is Hs Es x.Name x.Inst x.Req x.Resp x.Insts x.Chans x.Cells x.At (fun z=>k z)=k (orF (chk (!(x.Req==x.Resp)) 17 x.At) (gP (Iz Hs x) [] x.Chans)).1:=by
  unfold kU
  rcases Bool.eq_false_or_eq_true (x.Req==x.Resp) with h|h
  ·rw[h,if_pos rfl,Bool.not_true,bb,aU (a:=(17,x.At)) _ (by simp)]
  ·rw[h,if_neg (by simp),Bool.not_false,br,aS (fW (Cu _ _) _ _)]
   exact l3
 generalize hK0:(fD N x.Insts x.Inst (fun(r30:Bool)=>
 (ifB (!r30) false (tK N A Cs Is Hs Es x.Inst (fun(r31:ae)(r32:Int)(r33:Int)(r34:List ai)(r35:List ai)(r36:List ai)(r37:List State)(r38:Int)=>
 rE N r31 r32 r33 r34 r35 r36 r37 r38 x.Req (fun(r39:Bool)=>
 some (!r39)))) (some true)).bind fun c40=>
 (ifB c40 false (tK N A Cs Is Hs Es x.Inst (fun(r41:ae)(r42:Int)(r43:Int)(r44:List ai)(r45:List ai)(r46:List ai)(r47:List State)(r48:Int)=>
 rE N r41 r42 r43 r44 r45 r46 r47 r48 x.Resp (fun(r49:Bool)=>
 some (!r49)))) (some true)).bind fun c50=>
 if c50=true then
  (k 7)
 else
  (kU N A Cs Is Hs Es x.Name x.Inst x.Req x.Resp x.Insts x.Chans x.Cells x.At (fun(y88:Int)=>
  k y88))):ab R)=K0
 have l0:=(yB (MD Cs Is x.At) (IQ Cs Is x.At) (fun _=>True) (fun c _=>k c) (l:=x.Insts) (by omega) (fun n i=>jM N A Cs Is Hs Es x.Name x.Inst x.Req x.Resp x.Insts x.Chans x.Cells x.At K0 (fun z=>k z) n i) (fun n pre e rest h _ h1 h2=>⟨?_,fun _=>trivial⟩) K0 (fun n h _=>?_) trivial N (by omega)).1
 ·unfold sT
  rw[hK0]
  refine Eq.trans l0 ?_
  unfold tY
  split
  ·rename_i hz
   have hm:∀n∈x.Insts,(db Cs Is n).isSome=true∧(flL ((db Cs Is n).getD c0).States).any isH=false:=by
    intro n hn
    obtain⟨p,hp⟩:=GZ _ _ _ hz n hn
    unfold MD at hp
    obtain⟨a1,a2⟩:=cV.1 hp
    have a3:=(cV.1 a2).2
    rw[wW (by decide)]at a1 a3
    exact⟨a1,by simpa using a3⟩
   rw[fW (IQ _ _ _) _ _ hz,aS (av (ME _ _ _) (av (aT _ _ (by decide)) (fW (Cu _ _) _ _))),← hK0,eM _ _ _ hN (by omega),EZ]
   unfold TH
   rcases Bool.eq_false_or_eq_true (x.Insts.any fun n=>x.Inst==n) with hin|hin
   rotate_left
   ·rw[hin]
    rw[Bool.not_false,Bool.false_and,Bool.false_and,bb,aU (a:=(7,x.At)) _ (by simp)]
    simp[ifB]
   ·obtain⟨n,hn,he⟩:=List.any_eq_true.1 hin
    have:x.Inst=n:=by simpa using he
    subst this
    obtain⟨b1,b2⟩:=hm _ hn
    have hg:=hgood x.Inst
    have hfl:=LY hg b2
    rw[hin,Ha _ _ _ _ _ _ _ hN hc hi b1,Ha _ _ _ _ _ _ _ hN hc hi b1]
    dsimp only
    rw[LZ _ _ _ hN hg.1 hfl,LZ _ _ _ hN hg.1 hfl]
    simp only[bm,Option.bind_some,Bool.not_true,Bool.false_or,Bool.true_and]
    rw[c12]
    rcases Bool.eq_false_or_eq_true (((flL ((db Cs Is x.Inst).getD c0).States).any fun e=>e.Name==x.Req)&&(flL ((db Cs Is x.Inst).getD c0).States).any fun e=>e.Name==x.Resp) with hr|hr
    ·have h':=hr
     rw[Bool.and_eq_true]at h'
     rw[hr,h'.1,h'.2,br,aS (av (aT _ _ (by decide)) (fW (Cu _ _) _ _))];simp
    ·rw[hr,bb,aU (a:=(7,x.At)) _ (by simp)]
     have h':=hr
     rw[Bool.and_eq_false_iff]at h'
     have:(!((flL ((db Cs Is x.Inst).getD c0).States).any fun e=>e.Name==x.Req) || !((flL ((db Cs Is x.Inst).getD c0).States).any fun e=>e.Name==x.Resp))=true:=by
      rcases h' with h' | h'<;>simp[h']
     rw[this,if_pos rfl]
  ·rename_i hz
   rw[aU _ hz];rfl
 ·have hpl:pre.length≤x.Insts.length:=by rw[h];simp
  simp only[jM,nu,h1,h2,if_true,Option.bind_some]
  rw[zz _ _ _ _ _ _ _ hN hi,kK,if_pos (g01 hpl),kL h,eM _ _ _ hN (by omega),EZ,← xa hall e]
  unfold MD
  rcases Bool.eq_false_or_eq_true (db Cs Is e).isSome with h7|h7
  rotate_left
  ·rw[h7,Bool.not_false,if_pos rfl,bb,aU (a:=(7,x.At)) _ (by simp),if_neg (by simp)];rfl
  rw[h7,Bool.not_true,if_neg (by simp),br,aS (av (aT _ _ (by decide)) (aT _ _ (by decide)))]
  rcases Bool.eq_false_or_eq_true (pre.any fun n=>e==n) with h8|h8
  ·rw[h8,if_pos rfl,Bool.not_true,bb,aU (a:=(8,x.At)) _ (by simp),if_neg (by simp)];rfl
  have hst:=(hgood e).1
  have hs4:=hst.2.2.2.1
  rw[h8,if_neg (by simp),Bool.not_false,br,aS (aT _ _ (by decide)),Ha _ _ _ _ _ _ _ hN hc hi h7]
  dsimp only
  rw[VK hN _ _ (by omega) hst.2.2.2.2]
  rcases Bool.eq_false_or_eq_true ((flL ((db Cs Is e).getD c0).States).any isH) with h17|h17
  ·rw[h17,if_pos rfl,Bool.not_true,bb,if_neg (by simp)];rfl
  ·rw[h17,if_neg (by simp),Bool.not_false,br,if_pos rfl]
 ·simp only[jM,nu,h]
  simp
theorem TO(A:Int)(Cs:List Chart)(Is:List Inst)(Hs:List ak)(Es:List Cert)(k:Int→Int→ab R)(hN:big≤N)(hc:Cs.length<big)(hi:Is.length<big)(hh:Hs.length<big)(he:Es.length<big)(hcs:∀c∈Cs,HN c)(hes:∀x∈Es,Bh x)(hall:Oc Cs Is):
  Cz N A Cs Is Hs Es k=kf k (gP (Ba Cs Is Hs) [] Es):=by
 have hbig:big=1000000000:=rfl
 have hB:B=16386:=rfl
 unfold Cz
 have:=(yB (Ba Cs Is Hs) (EW Cs Is Hs) (fun _=>True) k he (fun n i=>kz N A Cs Is Hs Es 0 0 (k 0 0) (fun y z=>k y z) n i) (fun n pre x rest h _ h1 h2=>⟨?_,fun _=>trivial⟩) (k 0 0) (fun n h _=>?_) trivial N (by omega)).1
 ·rw[LV (fW (EW _ _ _) _ _)]at this
  exact this
 ·have hxok:=hes x (by rw[h];simp)
  have hlen:Es.length=pre.length+(rest.length+1):=by rw[h];simp
  simp only[kz,qy,h1,h2,if_true,Option.bind_some]
  generalize hrec:kz N A Cs Is Hs Es 0 0 (k 0 0) (fun y z=>k y z) n (IntKind.wrap .i64 (((pre.length:Nat):Int)+1))=rec
  -- cells
  have l4:(tY Cs Is Hs x).1=0→jg N pre.length A Cs Is Hs Es 0 0 x.Name x.Inst x.Req x.Resp x.Insts x.Chans x.Cells x.At rec (fun(y49:Int)(y50:Int)=>k y49 y50) N 0=if(gP (su Cs Is Hs x) [] x.Cells).1=0 then rec else kf k (gP (su Cs Is Hs x) [] x.Cells):=by
   intro hz
   unfold tY at hz
   obtain⟨z1,z2⟩:=cV.1 hz
   have z3:=(cV.1 (cV.1 z2).2).2
   have hm:∀n∈x.Insts,(db Cs Is n).isSome=true∧(flL ((db Cs Is n).getD c0).States).any isH=false:=by
    intro n hn
    obtain⟨p,hp⟩:=GZ _ _ _ z1 n hn
    unfold MD at hp
    obtain⟨a1,a2⟩:=cV.1 hp
    have a3:=(cV.1 a2).2
    rw[wW (by decide)]at a1 a3
    exact⟨a1,by simpa using a3⟩
   have hch:∀n∈x.Chans,(Hs.any fun e=>e.Name==n)=true:=by
    intro n hn
    obtain⟨p,hp⟩:=GZ _ _ _ z3 n hn
    unfold Iz at hp
    have a1:=(cV.1 hp).1
    rwa [wW (by decide)]at a1
   have hxl:=hxok.2.2.1
   refine(yB (su Cs Is Hs x) (Jn Cs Is Hs x) (fun p=>∀y∈p,wZ Cs Is Hs x y=true) k (l:=x.Cells) (by omega) (fun n i=>jg N pre.length A Cs Is Hs Es 0 0 x.Name x.Inst x.Req x.Resp x.Insts x.Chans x.Cells x.At rec (fun(y49:Int)(y50:Int)=>k y49 y50) n i) (fun n p c r hh1 hinv q1 q2=>⟨?_,fun hz y hy=>?_⟩) rec (fun n h _=>?_) (fun y hy=>by cases hy) N (by omega)).1
   ·simp only[jg,qx,q1,if_true,Option.bind_some]
    rw[VB x p r c A Cs Is Hs Es _ hN hc hi hh hcs hxok hh1 hm hch hinv,q2,Option.bind_some]
    have hat:=VE Cs Is Hs x p c
    generalize su Cs Is Hs x p c=f at *
    by_cases hf:f.1=0
    ·rw[hf,if_neg (by simp),if_pos rfl]
    ·rw[if_pos (by simpa using hf),if_neg hf,bq,hat hf]
   ·rcases List.mem_append.1 hy with hy|hy
    ·exact hinv y hy
    ·rw[List.mem_singleton.1 hy]
     unfold su at hz
     have a1:=(cV.1 (cV.1 hz).2).1
     rwa [wW (by decide)]at a1
   ·simp only[jg,qx,h]
    simp
  generalize hK:(sT N A Cs Is Hs Es x.Name x.Inst x.Req x.Resp x.Insts x.Chans x.Cells x.At (fun(r29:Int)=>
 if(r29 != 0)=true then
  (k r29 x.At)
 else
  (jg N pre.length A Cs Is Hs Es 0 0 x.Name x.Inst x.Req x.Resp x.Insts x.Chans x.Cells x.At rec
  (fun(y49:Int)(y50:Int)=>
 k y49 y50) N 0)):ab R)=rst
  have hs:=search (l:=pre) (fun e=>e.Name==x.Name) (fun j=>if j<0 then rst else k 8 x.At) (by omega) (fun n i=>nA N pre.length A Cs Is Hs Es 0 0 x.Name x.Inst x.Req x.Resp x.Insts x.Chans x.Cells x.At rst (fun y=>k y x.At) n i) (fun n i e g0 g1 g2 g3 g4=>?_) (fun n i hd=>?_) N (by omega)
  ·refine Eq.trans hs ?_
   have hany:=kK (fun e:Cert=>e.Name==x.Name) pre
   unfold Ba
   by_cases hz:idx (fun e:Cert=>e.Name==x.Name) pre<0
   ·have ha:(pre.any fun e=>e.Name==x.Name)=false:=by
     rw[decide_eq_true hz]at hany
     simpa using hany.symm
    rw[if_pos hz,ha,Bool.not_false,br,aS (NV _ _ _ _),← hK,NZ x A Cs Is Hs Es _ hN hc hi hh hcs hxok hall,VC]
    have hat:=QH Cs Is Hs x
    have hnf:=QI Cs Is Hs x
    generalize tY Cs Is Hs x=f at *
    by_cases hf:f.1=0
    ·rw[hf,if_neg (by simp),l4 hf,hnf hf,aS (fW (Jn _ _ _ _) _ _)]
    ·rw[if_pos (by simpa using hf),aU _ hf,if_neg hf,bq,hat hf]
   ·have ha:(pre.any fun e=>e.Name==x.Name)=true:=by
     rw[decide_eq_false hz]at hany
     simpa using hany.symm
    rw[if_neg hz,ha,Bool.not_true,bb,aU (a:=(8,x.At)) _ (by simp),if_neg (by simp)];rfl
  ·have hi:Es[i.toNat]?=some e:=by rw[h,List.getElem?_append_left (by omega)];exact g4
   simp only[nA,qw,g2,bU g0 hi,if_true,Option.bind_some]
   by_cases hn:(e.Name==x.Name)=true
   ·rw[if_pos hn,if_pos hn,if_neg (by omega)]
   ·rw[if_neg hn,if_neg hn]
  ·simp only[nA,qw,hd]
   simp
 ·simp only[kz,qy,h]
  simp
theorem TP(s:System)(k:Int→Int→ab R)(hN:big≤N)(hs:Wc s):r12_Check N s.Age s.Charts s.Insts s.Chans s.Certs k=kf k (XA s):=by
 have hbig:big=1000000000:=rfl
 have hB:B=16386:=rfl
 obtain⟨A,Cs,Is,Hs,Es⟩:=s
 obtain⟨b1,b2,b3,b4,b5,b6⟩:=hs
 dsimp only at b1 b2 b3 b4 b5 b6 ⊢
 unfold r12_Check XA
 simp only[bm,Option.bind_some]
 have nc:=fW GX Cs []
 have ni:=fW (EU Cs) Is []
 have nh:=fW (EV Cs Is) Hs []
 have nj:=fW (fun _ x=>Bb Cs Is Hs x) Is []
 have ne:=fW (EW Cs Is Hs) Es []
 have hcnd:(decide (A<1)||decide (A>65536)) = !(decide (A≥1)&&decide (A≤65536)):=by
  rw[Bool.eq_iff_iff]
  simp only[Bool.or_eq_true,decide_eq_true_eq,Bool.not_eq_true',Bool.and_eq_false_iff,decide_eq_false_iff_not]
  omega
 rw[hcnd]
 rcases Bool.eq_false_or_eq_true (decide (A≥1)&&decide (A≤65536)) with h16|h16
 rotate_left
 ·rw[h16,Bool.not_false,if_pos rfl,bb,aU (a:=(16,0)) _ (by simp)];rfl
 rw[h16,Bool.not_true,if_neg (by simp),br,aS (av (aT _ _ (by decide)) (av nc (av ni (av nh (av nj ne)))))]
 by_cases h7:Is.length=0
 ·rw[if_pos (by simp[h7]),decide_eq_false (by omega),bb,aU (a:=(7,0)) _ (by simp)];rfl
 rw[if_neg (by simpa using h7),decide_eq_true (by omega),br,aS (av nc (av ni (av nh (av nj ne))))]
 generalize hK:(zd N A Cs Is Hs Es (fun(r14:Int)(r15:Int)=>
 if(r14==0)=true then
  (zf N A Cs Is Hs Es (fun(r16:Int)(r17:Int)=>
  jo N A Cs Is Hs Es 0 0 r16 r17 (fun(y29:Int)(y30:Int)=>
  k y29 y30)))
 else
  (jo N A Cs Is Hs Es 0 0 r14 r15 (fun(y31:Int)(y32:Int)=>
  k y31 y32))):ab R)=K0
 have l0:=(yB chartG GX (fun _=>True) k (l:=Cs) (by omega) (fun n i=>nB N A Cs Is Hs Es 0 0 K0 (fun y z=>k y z) n i) (fun n pre x rest h _ h1 h2=>⟨?_,fun _=>trivial⟩) K0 (fun n h _=>?_) trivial N (by omega)).1
 ·refine Eq.trans l0 ?_
  split
  ·rename_i hz
   have hgood:=XF hz b5
   rw[nc hz,aS (av ni (av nh (av nj ne))),← hK,TW _ _ _ _ _ _ hN (by omega) (by omega),bq]
   by_cases hi0:(gP (Av Cs) [] Is).1=0
   ·have hall:=ZI hi0
    rw[if_pos (by simp[hi0]),ni hi0,aS (av nh (av nj ne)),TX _ _ _ _ _ _ hN (by omega) (by omega) (by omega) (fun c hc=>(b5 c hc).to) hall,bq,← aW]
    have nhj:=av nh nj
    generalize orF (gP (Aw Cs Is) [] Hs) (gP (fun _ x=>wY Cs Is Hs x) [] Is)=f at *
    unfold jo
    by_cases hf:f.1=0
    ·rw[if_pos (by simp[hf]),nhj hf,aS ne,TO _ _ _ _ _ _ hN (by omega) (by omega) (by omega) (by omega) hgood b6 hall]
    ·rw[if_neg (by simp[hf]),aU _ hf];rfl
   ·rw[if_neg (by simp[hi0]),aU _ hi0]
    unfold jo
    rw[if_neg (by simp[hi0])];rfl
  ·rename_i hz
   rw[aU _ hz]
 ·simp only[nB,qz,h1,if_true,Option.bind_some]
  rw[TU pre x rest Cs _ hN (by omega) (b5 x (by rw[h];simp)) h,bq]
  generalize chartG pre x=f at *
  by_cases hf:f.1=0
  ·rw[hf,if_neg (by simp),if_pos rfl]
  ·rw[if_pos (by simpa using hf),if_neg hf];rfl
 ·simp only[nB,qz,h]
  simp
end
end So
