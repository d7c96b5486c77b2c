/- The lexer answers for every text; its tokens end with one that is the end. -/
import Derived.Test.YtcllbmdpckfnhaaGreatT1x1
import Derived.Test.YtcllbmdpckfnhaaGreatT2x4
set_option maxRecDepth 1000000
set_option linter.unusedVariables false
set_option linter.unusedSimpArgs false
namespace So
open Go TE Go.Proofs
def Ok{R:Type}(P:R→Prop)(x:ab R):Prop:=∃r,x=some r∧P r
section
variable{R T:Type}{P:R→Prop}
theorem Ok.s{r:R}(h:P r):Ok P (some r):=⟨r,rfl,h⟩
theorem Ok.b{Q:T→Prop}{x:Option T}{k:T→ab R}(hx:Ok Q x)(hk:∀a,Q a→Ok P (k a)):Ok P (x.bind k):=by
 obtain⟨a,rfl,h⟩:=hx;exact hk a h
theorem Ok.i{c:Prop}[Decidable c]{x y:ab R}(h1:c→Ok P x)(h2:¬c→Ok P y):Ok P (if c then x else y):=by
 split
 ·exact h1 ‹_›
 ·exact h2 ‹_›
theorem Ok.g{c:Prop}[Decidable c]{x y:ab R}(h:c)(h1:Ok P x):Ok P (if c then x else y):=by
 rw[if_pos h];exact h1
theorem Ok.ib{q w:Bool}{P:Bool→Prop}{x y:Option Bool}(h1:q=w→Ok P x)(h2:q = !w→Ok P y):Ok P (ifB q w x y):=by
 unfold ifB
 cases q<;>cases w<;>simp_all
theorem bU{α:Type}{l:List α}{i:Int}{a:α}(h0:0≤i)(h:l[i.toNat]?=some a):at? l i=some a:=by
 unfold at?
 rw[if_neg (by omega)];exact h
theorem Ok.a{α:Type}{l:List α}{i:Int}{k:α→ab R}(h0:0≤i)(h1:i<((l.length:Nat):Int))(hk:∀a,l[i.toNat]?=some a→Ok P (k a)):Ok P ((at? l i).bind k):=by
 have hlt:i.toNat<l.length:=by omega
 rw[bU h0 (List.getElem?_eq_getElem hlt)]
 exact hk _ (List.getElem?_eq_getElem hlt)
end
theorem aD(a b:Bool):ifB a true (some b) (some false)=some (a&&b):=by cases a<;>rfl
theorem bm(a b:Bool):ifB a false (some b) (some true)=some (a||b):=by cases a<;>rfl
theorem wr(n:Int)(h1 : -9223372036854775808≤n)(h2:n≤9223372036854775807):IntKind.wrap .i64 n=n:=IntWalk.i64_in _ ⟨h1,h2⟩
def JB(x:Int):Bool:=decide (x≥97)&&decide (x≤122)||(decide (x≥65)&&decide (x≤90))||x==95
def isDigit(x:Int):Bool:=decide (x≥48)&&decide (x≤57)
theorem Hb{R:Type}(N:Nat)(x:Int)(k0:Bool→ab R):yG N x k0=k0 (JB x):=by
 unfold yG JB
 simp only[aD,bm,Option.bind_some]
theorem Bf{R:Type}(N:Nat)(x:Int)(k0:Bool→ab R):yH N x k0=k0 (isDigit x):=by
 unfold yH isDigit
 simp only[aD,bm,Option.bind_some]
def tC:Int:=4611686018427387904
section
variable{R:Type}{P:R→Prop}
theorem QN(N:Nat)(s:ae)(hs:(s.length:Int)<tC)(kp0:Int→ab R)(i0:Int)(hk:∀j,i0≤j→j≤s.length→Ok P (kp0 j)):
  ∀(n:Nat)(i:Int),i0≤i→0≤i→i≤s.length→((s.length:Int)-i).toNat<n→Ok P (ru N s kp0 n i):=by
 intro n
 induction n with
 |zero=>intro i _ _ _ h;omega
 |succ n ih=>
  intro i h0 h1 h2 h3
  show Ok P (mK N s kp0 (ru N s kp0 n) i)
  unfold mK
  refine Ok.b (Q:=fun c=>c=true→i<s.length) (Ok.ib (fun h=>?_) fun h=>Ok.s (by simp)) fun c hc=>Ok.i (fun h=>?_) fun h=>hk i h0 h2
  ·have hi:i<s.length:=by simpa using h
   exact Ok.a h1 hi fun a ha=>Ok.s fun _=>hi
  ·have:=hc h
   rw[wr _ (by omega) (by unfold tC at hs;omega)]
   exact ih _ (by omega) (by omega) (by omega) (by omega)
theorem QO(N:Nat)(s:ae)(hN:s.length<N)(hs:(s.length:Int)<tC)(kp0 kp1:Int→ab R)(i0:Int)(hk:∀j,i0≤j→j≤s.length→Ok P (kp0 j))(hk1:∀j,i0≤j→j≤s.length→Ok P (kp1 j)):
  ∀(n:Nat)(i:Int),i0≤i→0≤i→i≤s.length→((s.length:Int)-i).toNat<n→Ok P (ve N s kp0 kp1 n i):=by
 intro n
 induction n with
 |zero=>intro i _ _ _ h;omega
 |succ n ih=>
  intro i h0 h1 h2 h3
  show Ok P (tZ N s kp0 kp1 (ve N s kp0 kp1 n) i)
  unfold tZ
  refine Ok.i (fun h=>?_) fun h=>hk i h0 h2
  have hi:i<s.length:=by simpa using h
  refine Ok.a h1 hi fun a ha=>?_
  rw[bU h1 ha]
  simp only[Option.bind_some,bm]
  refine Ok.i (fun h=>?_) fun h=>Ok.i (fun h=>?_) fun h=>hk1 i h0 h2
  ·rw[wr _ (by omega) (by unfold tC at hs;omega)]
   exact ih _ (by omega) (by omega) (by omega) (by omega)
  ·have h35:(a.toNat:Int)=35:=by simpa using h
   -- the remark's sign is passed
   obtain⟨N',rfl⟩:∃N',N=N'+1:=⟨N-1,by omega⟩
   show Ok P (mK (N'+1) s _ (ru (N'+1) s _ N') i)
   unfold mK
   have hd:decide (i<((s.length:Nat):Int))=true:=by simpa using hi
   rw[hd,bU h1 ha]
   simp only[Option.bind_some,h35,aD,Bool.true_and]
   rw[if_pos (by decide),wr _ (by omega) (by unfold tC at hs;omega)]
   refine QN (N'+1) s hs _ (i+1) (fun j hj1 hj2=>?_) N' (i+1) (by omega) (by omega) (by omega) (by omega)
   exact ih j (by omega) (by omega) hj2 (by omega)
theorem SY(N:Nat)(s:ae)(hN:s.length<N)(hs:(s.length:Int)<tC)(i:Int)(h0:0≤i)(h1:i≤s.length)(k0:Int→ab R)(hk:∀j,i≤j→j≤s.length→Ok P (k0 j)):Ok P (IX N s i k0):=
 QO N s hN hs _ _ i hk hk N i (Int.le_refl _) h0 h1 (by omega)
end
section
variable{R:Type}{P:R→Prop}
theorem Om(N:Nat)(s:ae)(hs:(s.length:Int)<tC)(kp0:Int→ab R)(kp1:Int→Bool→ab R)(h0:∀x,Ok P (kp0 x))(h1:∀x b,Ok P (kp1 x b)):
  ∀(n:Nat)(v i:Int),0≤i→i≤s.length→((s.length:Int)-i).toNat<n→Ok P (sA N s kp0 kp1 n v i):=by
 intro n
 induction n with
 |zero=>intro v i _ _ h;omega
 |succ n ih=>
  intro v i hi h2 h3
  show Ok P (rR N s kp0 kp1 (sA N s kp0 kp1 n) v i)
  unfold rR
  refine Ok.i (fun h=>?_) fun h=>h0 _
  have hl:i<s.length:=by simpa using h
  refine Ok.a hi hl fun a ha=>Ok.i (fun h=>h1 _ _) fun h=>?_
  rw[wr (i+1) (by omega) (by unfold tC at hs;omega)]
  exact ih _ _ (by omega) (by omega) (by omega)
theorem VU(N:Nat)(s:ae)(hN:s.length<N)(hs:(s.length:Int)<tC)(k0:Int→Bool→ab R)(h:∀x b,Ok P (k0 x b)):Ok P (JL N s k0):=
 Om N s hs _ _ (fun x=>h x true) h N 0 0 (by omega) (by omega) (by omega)
theorem QP(N:Nat)(s:ae)(one:ae)(i:Int)(hi:0≤i)(hil:i<s.length)(ho:(one.length:Int)<tC)(kp0:ab R)(kp1:Int→ab R)(h0:Ok P kp0)(h1:Ok P (kp1 1)):
  ∀(n:Nat)(k:Int),0≤k→k≤one.length→((one.length:Int)-k).toNat<n→Ok P (vh N s i one kp0 kp1 n k):=by
 intro n
 induction n with
 |zero=>intro k _ _ h;omega
 |succ n ih=>
  intro k hk h2 h3
  show Ok P (ub N s i one kp0 kp1 (vh N s i one kp0 kp1 n) k)
  unfold ub
  refine Ok.i (fun h=>?_) fun h=>h0
  have hl:k<one.length:=by simpa using h
  refine Ok.a hi hil fun a ha=>Ok.a hk hl fun b hb=>Ok.i (fun h=>h1) fun h=>?_
  rw[wr (k+1) (by omega) (by unfold tC at ho;omega)]
  exact ih _ (by omega) (by omega) (by omega)
theorem QQ(N:Nat)(s:ae)(hs:(s.length:Int)<tC)(i:Int)(hi:0≤i)(hil:i<s.length)(t0 t1 t2 t3 t4 t5 t6:ae)(kp0:ab R)(kp1:Int→ab R)(h0:Ok P kp0)(h1:i+2≤s.length→Ok P (kp1 2)):
  ∀(n:Nat)(k:Int),0≤k→k≤7→(7-k).toNat<n→Ok P (vg N s i t0 t1 t2 t3 t4 t5 t6 kp0 kp1 n k):=by
 intro n
 induction n with
 |zero=>intro k _ _ h;omega
 |succ n ih=>
  intro k hk h2 h3
  show Ok P (ua N s i t0 t1 t2 t3 t4 t5 t6 kp0 kp1 (vg N s i t0 t1 t2 t3 t4 t5 t6 kp0 kp1 n) k)
  unfold ua
  rw[wr (i+1) (by omega) (by unfold tC at hs;omega),wr (i+2) (by omega) (by unfold tC at hs;omega),wr (k+1) (by omega) (by omega)]
  refine Ok.i (fun h=>?_) fun h=>h0
  have hl:k<7:=by simpa using h
  refine Ok.b (Q:=fun c=>c=true→i+2≤s.length) (Ok.ib (fun h=>?_) fun h=>Ok.s (by simp)) fun c hc=>Ok.i (fun h=>h1 (hc h)) fun h=>ih _ (by omega) (by omega) (by omega)
  have h1':i+1<s.length:=by simpa using h
  refine Ok.g (by omega) (Ok.g (by omega) ?_)
  obtain⟨q,hq,hq7⟩:∃q:Nat,(0+k.toNat*1)=q∧q<7:=⟨_,rfl,by omega⟩
  rw[hq]
  have:∃e,([t0,t1,t2,t3,t4,t5,t6]:List ae)[q]?=some e:=⟨_,List.getElem?_eq_getElem (by simpa using hq7)⟩
  obtain⟨e,he⟩:=this
  rw[he]
  exact Ok.s fun _=>by omega
theorem XP(N:Nat)(s:ae)(hN:30<N)(hs:(s.length:Int)<tC)(i:Int)(hi:0≤i)(hil:i<s.length)(k0:Int→ab R)(h:∀x,(x=0∨x=1∨x=2)→i+x≤s.length→Ok P (k0 x)):Ok P (IY N s i k0):=by
 unfold IY
 exact QQ N s hs i hi hil _ _ _ _ _ _ _ _ _ (QP N s _ i hi hil (by decide) _ _ (h 0 (.inl rfl) (by omega)) (h 1 (.inr (.inl rfl)) (by omega)) N 0 (by omega) (by decide) (by simp;omega)) (fun h2=>h 2 (.inr (.inr rfl)) h2) N 0 (by omega) (by omega) (by omega)
theorem Ud(N:Nat)(s:ae)(hs:(s.length:Int)<tC)(i v6 v7 v8 v10 t11 t12 t13 t15:Int)(v9 t14:ae)(kp0:Int→ab R)(i0:Int)(hk:∀j,i0≤j→j≤s.length→Ok P (kp0 j)):
  ∀(n:Nat)(j:Int),i0≤j→0≤j→j≤s.length→((s.length:Int)-j).toNat<n→Ok P (uI N s i v6 v7 v8 v9 v10 t11 t12 t13 t14 t15 kp0 n j):=by
 intro n
 induction n with
 |zero=>intro j _ _ _ h;omega
 |succ n ih=>
  intro j h0 h1 h2 h3
  show Ok P (sB N s i v6 v7 v8 v9 v10 t11 t12 t13 t14 t15 kp0 (uI N s i v6 v7 v8 v9 v10 t11 t12 t13 t14 t15 kp0 n) j)
  unfold sB
  refine Ok.b (Q:=fun c=>c=true→j<s.length) (Ok.ib (fun h=>?_) fun h=>Ok.s (by simp)) fun c hc=>Ok.i (fun h=>?_) fun h=>hk j h0 h2
  ·have hl:j<s.length:=by simpa using h
   refine Ok.a h1 hl fun a ha=>?_
   rw[bU h1 ha]
   simp only[Hb,Bf,Option.bind_some,bm]
   exact Ok.s fun _=>hl
  ·have:=hc h
   rw[wr _ (by omega) (by unfold tC at hs;omega)]
   exact ih _ (by omega) (by omega) (by omega) (by omega)
theorem Ue(N:Nat)(s:ae)(hs:(s.length:Int)<tC)(i v6 v7 v8 v10 t11 t12 t13 t15:Int)(v9 t14:ae)(kp0:Int→ab R)(i0:Int)(hk:∀j,i0≤j→j≤s.length→Ok P (kp0 j)):
  ∀(n:Nat)(j:Int),i0≤j→0≤j→j≤s.length→((s.length:Int)-j).toNat<n→Ok P (uJ N s i v6 v7 v8 v9 v10 t11 t12 t13 t14 t15 kp0 n j):=by
 intro n
 induction n with
 |zero=>intro j _ _ _ h;omega
 |succ n ih=>
  intro j h0 h1 h2 h3
  show Ok P (sC N s i v6 v7 v8 v9 v10 t11 t12 t13 t14 t15 kp0 (uJ N s i v6 v7 v8 v9 v10 t11 t12 t13 t14 t15 kp0 n) j)
  unfold sC
  refine Ok.b (Q:=fun c=>c=true→j<s.length) (Ok.ib (fun h=>?_) fun h=>Ok.s (by simp)) fun c hc=>Ok.i (fun h=>?_) fun h=>hk j h0 h2
  ·have hl:j<s.length:=by simpa using h
   refine Ok.a h1 hl fun a ha=>?_
   simp only[Bf]
   exact Ok.s fun _=>hl
  ·have:=hc h
   rw[wr _ (by omega) (by unfold tC at hs;omega)]
   exact ih _ (by omega) (by omega) (by omega) (by omega)
theorem one_ok(N:Nat)(s:ae)(hN:s.length+30<N)(hs:(s.length:Int)<tC)(i:Int)(hi:0≤i)(hil:i<s.length)(k0:Int→Int→Int→ae→Int→Int→ab R)(h:∀K A E T n c,(c=0→K≠4∧i<E∧E≤s.length)→Ok P (k0 K A E T n c)):Ok P (MT N s i k0):=by
 have hJ':∀(x6 x7 x8:Int) x9 x10 (K A E:Int) T (n j:Int) (k:Int→ae→ab R),i<j→j≤s.length→(∀T,Ok P (k 0 T))→Ok P (rv N s i j x6 x7 x8 x9 x10 K A E T n k):=by
  intro x6 x7 x8 x9 x10 K A E T n j k h1 h2 h3
  unfold rv
  exact Ok.g (by omega) (h3 _)
 unfold MT
 try dsimp only
 refine Ok.a hi hil fun a ha=>?_
 rw[Hb]
 obtain⟨N',rfl⟩:∃N',N=N'+1:=⟨N-1,by omega⟩
 have hd:decide (i<((s.length:Nat):Int))=true:=by simpa using hil
 refine Ok.i (fun hl=>?_) fun hl=>?_
 ·have hl':JB (a.toNat:Int)=true:=hl
  rw[uI]
  unfold sB
  dsimp only
  rw[hd,bU hi ha]
  simp only[Hb,Bf,Option.bind_some,bm,aD,Bool.true_and,hl',Bool.true_or,if_true]
  rw[wr _ (by omega) (by unfold tC at hs;omega)]
  refine Ud (N'+1) s hs _ _ _ _ _ _ _ _ _ _ _ _ (i+1) (fun j h1 h2=>?_) N' (i+1) (by omega) (by omega) (by omega) (by omega)
  exact Ok.i (fun _=>h _ _ _ _ _ _ fun e=>absurd e (by decide)) fun _=>hJ' _ _ _ _ _ _ _ _ _ _ _ _ (by omega) (by omega) (fun T=>h _ _ _ _ _ _ fun _=>⟨by decide,by omega,by omega⟩)
 ·rw[bU hi ha,Option.bind_some,Bf]
  refine Ok.i (fun hd'=>?_) fun hd'=>?_
  ·have hd'':isDigit (a.toNat:Int)=true:=hd'
   rw[uJ]
   unfold sC
   dsimp only
   rw[hd,bU hi ha]
   simp only[Bf,Option.bind_some,aD,Bool.true_and,hd'',if_true]
   rw[wr _ (by omega) (by unfold tC at hs;omega)]
   refine Ue (N'+1) s hs _ _ _ _ _ _ _ _ _ _ _ _ (i+1) (fun j h1 h2=>?_) N' (i+1) (by omega) (by omega) (by omega) (by omega)
   refine Ok.i (fun _=>h _ _ _ _ _ _ fun e=>absurd e (by decide)) fun _=>Ok.g (by omega) ?_
   refine VU (N'+1) _ (by simp;omega) (by simp;omega) _ fun x b=>Ok.i (fun _=>h _ _ _ _ _ _ fun e=>absurd e (by decide)) fun _=>hJ' _ _ _ _ _ _ _ _ _ _ _ _ (by omega) (by omega) (fun T=>h _ _ _ _ _ _ fun _=>⟨by decide,by omega,by omega⟩)
  ·refine XP (N'+1) s (by omega) hs i hi hil _ fun x hx hx2=>Ok.i (fun _=>h _ _ _ _ _ _ fun e=>absurd e (by decide)) fun hx0=>?_
   have hx0':x≠0:=by simpa using hx0
   rw[wr _ (by omega) (by unfold tC at hs;omega)]
   exact hJ' _ _ _ _ _ _ _ _ _ _ _ _ (by omega) (by omega) (fun T=>h _ _ _ _ _ _ fun _=>⟨by decide,by omega,by omega⟩)
def iK(l:List Token):Prop:=∃ts e,l=ts++[e]∧e.Kind=4∧(∀t∈ts,t.Kind≠4)∧l.length≤16385
theorem Uf(N:Nat)(s:ae)(hN:s.length+30<N)(hs:s.length≤16384)(v15 v16:Int)(kp0:List Token→ab R)(kp1:Int→Int→ab R)(h0:∀ts:List Token,(∀t∈ts,t.Kind≠4)→ts.length≤s.length→Ok P (kp0 ts))(h1:∀c a,c≠0→Ok P (kp1 c a)):
  ∀(n:Nat)(i:Int)(out:List Token),0≤i→i≤s.length→(out.length:Int)≤i→(∀t∈out,t.Kind≠4)→((s.length:Int)-i).toNat<n→Ok P (yI N s v15 v16 kp0 kp1 n i out):=by
 intro n
 induction n with
 |zero=>intro i _ _ _ _ _ h;omega
 |succ n ih=>
  intro i out hi h2 ho ht h3
  show Ok P (xc N s v15 v16 kp0 kp1 (yI N s v15 v16 kp0 kp1 n) i out)
  unfold xc
  have hm:tC=4611686018427387904:=rfl
  refine Ok.i (fun h=>?_) fun h=>h0 _ ht (by omega)
  have hl:i<s.length:=by simpa using h
  refine one_ok N s hN (by omega) i hi hl _ fun K A E T nn c hc=>Ok.i (fun hc'=>h1 _ _ (by simpa using hc')) fun hc'=>?_
  obtain⟨hK,hE,hE2⟩:=hc (by simpa using hc')
  refine Ok.g (by simp[ah];omega) (SY N s (by omega) (by omega) _ (by omega) hE2 _ fun j hj1 hj2=>?_)
  refine ih j _ (by omega) hj2 (by simp;omega) (fun t ht'=>?_) (by omega)
  rcases List.mem_append.1 ht' with h|h
  ·exact ht t h
  ·rw[List.mem_singleton.1 h];exact hK
theorem YU(N:Nat)(s:ae)(hN:16430<N)(k0:List Token→Int→Int→ab R)(h:∀l c a,(c=0→iK l)→Ok P (k0 l c a)):Ok P (MU N s k0):=by
 unfold MU
 refine Ok.i (fun hl=>h _ _ _ fun e=>absurd e (by decide)) fun hl=>?_
 have hs:s.length≤16384:=by
  have:¬((s.length:Int)>16384):=by simpa using hl
  omega
 have hm:tC=4611686018427387904:=rfl
 refine SY N s (by omega) (by omega) 0 (by omega) (by omega) _ fun j h1 h2=>?_
 refine Uf N s (by omega) hs _ _ _ _ (fun ts hts hl=>?_) (fun c a hc=>h _ _ _ (fun e=>absurd e hc)) N j [] h1 h2 (by simpa using h1) (by simp) (by omega)
 exact Ok.g (by simp[ah];omega) (h _ _ _ fun _=>⟨ts,_,rfl,rfl,hts,by simp;omega⟩)
end
mutual
def szE:Expr→Int
 |⟨_,_,_,kids,_⟩=>1+ju kids
def ju:List Expr→Int
 | []=>0
 |e::r=>szE e+ju r
end
mutual
def szA:Act→Int
 |⟨_,_,_,x,_,t,e,_⟩=>1+ju x+eY t+eY e
def eY:List Act→Int
 | []=>0
 |e::r=>szA e+eY r
end
def szT(t:Trans):Int:=1+ju t.Guard+eY t.Acts
def rq:List Trans→Int
 | []=>0
 |e::r=>szT e+rq r
mutual
def szS:State→Int
 |⟨_,_,en,ex,tr,kids,_⟩=>1+eY en+eY ex+rq tr+aV kids
def aV:List State→Int
 | []=>0
 |e::r=>szS e+aV r
end
theorem VV(a b:List Act):eY (a++b)=eY a+eY b:=by
 induction a with
 |nil=>simp[eY]
 |cons x r ih=>simp only[List.cons_append,eY,ih];omega
theorem VW(a b:List Trans):rq (a++b)=rq a+rq b:=by
 induction a with
 |nil=>simp[rq]
 |cons x r ih=>simp only[List.cons_append,rq,ih];omega
theorem Bg(a b:List State):aV (a++b)=aV a+aV b:=by
 induction a with
 |nil=>simp[aV]
 |cons x r ih=>simp only[List.cons_append,aV,ih];omega
mutual
def okS:State→Prop
 |⟨k,_,en,ex,tr,kids,_⟩=>(1≤k∧k≤4)∧(3≤k→en=[]∧ex=[]∧tr=[]∧kids=[])∧nM kids
def nM:List State→Prop
 | []=>True
 |e::r=>okS e∧nM r
end
theorem VX(a b:List State):nM (a++b)↔nM a∧nM b:=by
 induction a with
 |nil=>simp[nM]
 |cons x r ih=>simp only[List.cons_append,nM,ih,and_assoc]
def Rd(l:List Token)(a c a' c' n:Int):Prop:=a≤a'∧a'<l.length∧(c'=0→c=0∧a+n≤a')
def isT(l:List Token)(a:Int)(s:ae):Bool:=match l[a.toNat]? with
 |some t=>(t.Kind==3||t.Kind==1)&&t.Text==s
 |none=>false
section
variable{R:Type}{P:R→Prop}{l:List Token}{N:Nat}
theorem iK.last(hl:iK l){i:Nat}{t:Token}(h:l[i]?=some t)(hk:t.Kind≠4):i+1<l.length:=by
 obtain⟨ts,e,rfl,he,ht,hn⟩:=hl
 by_cases hi:i<ts.length
 ·simp;omega
 ·exfalso
  rw[List.getElem?_append_right (by omega)]at h
  have:i-ts.length=0:=by
   refine Classical.byContradiction fun hc=>?_
   rw[List.getElem?_eq_none (by simp;omega)]at h
   cases h
  rw[this]at h
  simp at h
  subst h
  exact hk he
theorem iK.most(hl:iK l):(l.length:Int)≤16385:=by
 obtain⟨ts,e,_,_,_,h⟩:=hl;omega
theorem JC{a:Int}(h0:0≤a)(h1:a<l.length):∃t,l[a.toNat]?=some t∧at? l a=some t:=
 have h:a.toNat<l.length:=by omega
 ⟨_,List.getElem?_eq_getElem h,bU h0 (List.getElem?_eq_getElem h)⟩
theorem ZL{a:Int}(h0:0≤a)(h1:a<l.length)(s:ae)(k:Bool→ab R):py N l a s k=k (isT l a s):=by
 obtain⟨t,h,h'⟩:=JC h0 h1
 unfold py isT
 have hd:decide (a<((l.length:Nat):Int))=true:=by simpa using h1
 simp only[hd,h',h,Option.bind_some,bm,aD,Bool.true_and]
theorem YV(hl:iK l){a:Int}{s:ae}(h0:0≤a)(h:isT l a s=true):a+1<l.length:=by
 unfold isT at h
 split at h
 ·rename_i t ht
  have:=hl.last ht (by intro e;rw[e]at h;simp at h)
  omega
 ·cases h
theorem rr{a:Int}(h0:0≤a)(h1:a<l.length){k:Int→Int→ab R}(hk:∀c A,c≠0→Ok P (k c A)):Ok P (oR N l a k):=by
 obtain⟨t,h,h'⟩:=JC h0 h1
 unfold oR
 simp only[h',Option.bind_some]
 exact Ok.i (fun _=>hk _ _ (by decide)) fun _=>hk _ _ (by decide)
theorem sy(hl:iK l){a:Int}(h0:0≤a)(h1:a<l.length)(s:ae){k:Bool→ab R}(hk:∀b,(b=true→a+1<l.length)→Ok P (k b)):Ok P (py N l a s k):=by
 rw[ZL h0 h1]
 exact hk _ fun h=>YV hl h0 h
theorem fh{a:Int}(h0:0≤a)(h1:a<l.length){k:Token→ab R}(hk:∀t,l[a.toNat]?=some t→Ok P (k t)):Ok P ((at? l a).bind k):=by
 obtain⟨t,h,h'⟩:=JC h0 h1
 rw[h',Option.bind_some];exact hk t h
theorem On(hN:40<N)(s:ae){k:Bool→ab R}(hk:∀b,Ok P (k b)):Ok P (xe N s k):=by
 have key:∀w0 w1 w2 w3 w4 w5 w6 w7 w8 w9 w10 w11 w12 w13 w14 w15 w16 w17 w18 w19 w20 w21 w22 w23 w24 w25 w26 w27 w28 w29 w30 w31 w32 w33 w34:ae,∀(kp0:ab R)(kp1:Bool→ab R),Ok P kp0→Ok P (kp1 true)→∀(n:Nat)(i:Int),0≤i→i≤35→(35-i).toNat<n →
   Ok P (lY N s w0 w1 w2 w3 w4 w5 w6 w7 w8 w9 w10 w11 w12 w13 w14 w15 w16 w17 w18 w19 w20 w21 w22 w23 w24 w25 w26 w27 w28 w29 w30 w31 w32 w33 w34 kp0 kp1 n i):=by
  intro w0 w1 w2 w3 w4 w5 w6 w7 w8 w9 w10 w11 w12 w13 w14 w15 w16 w17 w18 w19 w20 w21 w22 w23 w24 w25 w26 w27 w28 w29 w30 w31 w32 w33 w34 kp0 kp1 h0 h1 n
  induction n with
  |zero=>intro i _ _ h;omega
  |succ n ih=>
   intro i hi h2 h3
   rw[lY]
   unfold ry
   refine Ok.i (fun h=>?_) fun _=>h0
   have hl:i<35:=by simpa using h
   refine Ok.g (by omega) ?_
   generalize hL:([w0,w1,w2,w3,w4,w5,w6,w7,w8,w9,w10,w11,w12,w13,w14,w15,w16,w17,w18,w19,w20,w21,w22,w23,w24,w25,w26,w27,w28,w29,w30,w31,w32,w33,w34]:List ae)=L
   have hlen:L.length=35:=by rw[← hL];rfl
   have hq:(0+Int.toNat i*1)<L.length:=by omega
   rw[List.getElem?_eq_getElem hq,Option.bind_some]
   refine Ok.i (fun _=>h1) fun _=>?_
   rw[wr _ (by omega) (by omega)]
   exact ih _ (by omega) (by omega) (by omega)
 unfold xe
 exact key _ _ _ _ _ _ _ _ _ _ _ _ _ _ _ _ _ _ _ _ _ _ _ _ _ _ _ _ _ _ _ _ _ _ _ _ _ (hk _) (hk _) N 0 (by omega) (by omega) (by omega)
theorem named_ok(hl:iK l)(hN:40<N){a:Int}(h0:0≤a)(h1:a<l.length){k:Bool→ab R}(hk:∀b,(b=true→a+1<l.length)→Ok P (k b)):Ok P (sD N l a k):=by
 obtain⟨t,h,h'⟩:=JC h0 h1
 unfold sD
 have hd:decide (a<((l.length:Nat):Int))=true:=by simpa using h1
 simp only[hd,h',Option.bind_some,aD,Bool.true_and]
 refine Ok.b (Q:=fun c=>c=true→a+1<l.length) (Ok.ib (fun hk=>?_) fun _=>Ok.s (by simp)) fun c hc=>hk c hc
 refine On hN _ fun b=>Ok.s fun _=>?_
 have:=hl.last h (by intro e;rw[e]at hk;simp at hk)
 omega
theorem wr1(hl:iK l){a:Int}(h0:0≤a)(h1:a<l.length):IntKind.wrap .i64 (a+1)=a+1:=by
 have:=hl.most
 exact wr _ (by omega) (by omega)
theorem w9(hl:iK l){a c A:Int}(h0:0≤a)(h1:a<l.length)(s:ae){k:Int→Int→Int→ab R}(hk:∀a' c' A',Rd l a c a' c' 1→Ok P (k a' c' A')):Ok P (bu N s l a c A k):=by
 unfold bu lJ
 refine Ok.b (Q:=fun b=>(b=false→c=0→a+1<l.length)) (Ok.ib (fun h=>?_) fun h=>?_) fun b hb=>Ok.i (fun h=>?_) fun h=>Ok.i (fun h'=>?_) fun h'=>?_
 ·exact sy hl h0 h1 s fun b hb=>Ok.s fun h _=>hb (by simpa using h)
 ·exact Ok.s fun _ hc=>by simp[hc]at h
 ·exact rr h0 h1 fun c' A' hc=>Ok.i (fun h=>absurd (by simpa using h) hc) fun _=>hk _ _ _ ⟨by omega,by omega,fun h=>absurd h hc⟩
 ·have:=hb (by simpa using h) (by simpa using h')
  rw[wr1 hl h0 h1]
  exact hk _ _ _ ⟨by omega,by omega,fun h=>⟨h,by omega⟩⟩
 ·exact hk _ _ _ ⟨by omega,by omega,fun h=>absurd h (by simpa using h')⟩
theorem is9(hl:iK l){a c A:Int}(h0:0≤a)(h1:a<l.length)(s:ae){k:Bool→ab R}(hk:∀b,(b=true→c=0∧a+1<l.length)→Ok P (k b)):Ok P (bf N s l a c A k):=by
 unfold bf
 refine Ok.b (Q:=fun b=>b=true→c=0∧a+1<l.length) (Ok.ib (fun h=>?_) fun h=>Ok.s (by simp)) fun b hb=>hk b hb
 exact sy hl h0 h1 s fun b hb=>Ok.s fun h'=>⟨by simpa using h,hb h'⟩
theorem nm9(hl:iK l)(hN:40<N){a c A:Int}(h0:0≤a)(h1:a<l.length){k:ae→Int→Int→Int→ab R}(hk:∀s a' c' A',Rd l a c a' c' 1→Ok P (k s a' c' A')):Ok P (er N l a c A k):=by
 unfold er lK
 refine Ok.b (Q:=fun b=>(b=false→c=0→a+1<l.length)) (Ok.ib (fun h=>?_) fun h=>?_) fun b hb=>Ok.i (fun h=>?_) fun h=>Ok.i (fun h'=>?_) fun h'=>?_
 ·exact named_ok hl hN h0 h1 fun b hb=>Ok.s fun h _=>hb (by simpa using h)
 ·exact Ok.s fun _ hc=>by simp[hc]at h
 ·exact rr h0 h1 fun c' A' hc=>Ok.i (fun _=>hk _ _ _ _ ⟨by omega,by omega,fun h=>absurd h hc⟩) fun h=>absurd (by simpa using h) hc
 ·exact hk _ _ _ _ ⟨by omega,by omega,fun h=>absurd h (by simpa using h')⟩
 ·have:=hb (by simpa using h) (by simpa using h')
  have:=hl.most
  rw[wr1 hl h0 h1,wr _ (by omega) (by omega)]
  exact fh (by omega) (by omega) fun t _=>hk _ _ _ _ ⟨by omega,by omega,fun h=>⟨h,by omega⟩⟩
theorem nu9(hl:iK l){a c A:Int}(h0:0≤a)(h1:a<l.length){k:Int→Int→Int→Int→ab R}(hk:∀s a' c' A',Rd l a c a' c' 1→Ok P (k s a' c' A')):Ok P (hI N l a c A k):=by
 unfold hI jw
 refine Ok.b (Q:=fun b=>(b=false→c=0→a+1<l.length)) (Ok.ib (fun h=>?_) fun h=>?_) fun b hb=>Ok.i (fun h=>?_) fun h=>Ok.i (fun h'=>?_) fun h'=>?_
 ·refine fh h0 h1 fun t ht=>Ok.s fun hf _=>?_
  have:=hl.last ht (by intro e;rw[e]at hf;simp at hf)
  omega
 ·exact Ok.s fun _ hc=>by simp[hc]at h
 ·exact rr h0 h1 fun c' A' hc=>Ok.i (fun _=>hk _ _ _ _ ⟨by omega,by omega,fun h=>absurd h hc⟩) fun h=>absurd (by simpa using h) hc
 ·exact hk _ _ _ _ ⟨by omega,by omega,fun h=>absurd h (by simpa using h')⟩
 ·have:=hb (by simpa using h) (by simpa using h')
  have:=hl.most
  rw[wr1 hl h0 h1,wr _ (by omega) (by omega)]
  exact fh (by omega) (by omega) fun t _=>hk _ _ _ _ ⟨by omega,by omega,fun h=>⟨h,by omega⟩⟩
theorem w10(hl:iK l){a c A:Int}(h0:0≤a)(h1:a<l.length)(s:ae){k:Int→Int→Int→ab R}(hk:∀a' c' A',Rd l a c a' c' 1→Ok P (k a' c' A')):Ok P (ax N s l a c A k):=by
 unfold ax jV
 refine Ok.b (Q:=fun b=>(b=false→c=0→a+1<l.length)) (Ok.ib (fun h=>?_) fun h=>?_) fun b hb=>Ok.i (fun h=>?_) fun h=>Ok.i (fun h'=>?_) fun h'=>?_
 ·exact sy hl h0 h1 s fun b hb=>Ok.s fun h _=>hb (by simpa using h)
 ·exact Ok.s fun _ hc=>by simp[hc]at h
 ·exact rr h0 h1 fun c' A' hc=>Ok.i (fun h=>absurd (by simpa using h) hc) fun _=>hk _ _ _ ⟨by omega,by omega,fun h=>absurd h hc⟩
 ·have:=hb (by simpa using h) (by simpa using h')
  rw[wr1 hl h0 h1]
  exact hk _ _ _ ⟨by omega,by omega,fun h=>⟨h,by omega⟩⟩
 ·exact hk _ _ _ ⟨by omega,by omega,fun h=>absurd h (by simpa using h')⟩
theorem IA(hl:iK l){a c A:Int}(h0:0≤a)(h1:a<l.length)(s:ae){k:Bool→ab R}(hk:∀b,(b=true→c=0∧a+1<l.length)→Ok P (k b)):Ok P (bT N s l a c A k):=by
 unfold bT
 refine Ok.b (Q:=fun b=>b=true→c=0∧a+1<l.length) (Ok.ib (fun h=>?_) fun h=>Ok.s (by simp)) fun b hb=>hk b hb
 exact sy hl h0 h1 s fun b hb=>Ok.s fun h'=>⟨by simpa using h,hb h'⟩
theorem DG(hl:iK l)(hN:40<N){a c A:Int}(h0:0≤a)(h1:a<l.length){k:ae→Int→Int→Int→ab R}(hk:∀s a' c' A',Rd l a c a' c' 1→Ok P (k s a' c' A')):Ok P (aZ N l a c A k):=by
 unfold aZ jZ
 refine Ok.b (Q:=fun b=>(b=false→c=0→a+1<l.length)) (Ok.ib (fun h=>?_) fun h=>?_) fun b hb=>Ok.i (fun h=>?_) fun h=>Ok.i (fun h'=>?_) fun h'=>?_
 ·exact named_ok hl hN h0 h1 fun b hb=>Ok.s fun h _=>hb (by simpa using h)
 ·exact Ok.s fun _ hc=>by simp[hc]at h
 ·exact rr h0 h1 fun c' A' hc=>Ok.i (fun _=>hk _ _ _ _ ⟨by omega,by omega,fun h=>absurd h hc⟩) fun h=>absurd (by simpa using h) hc
 ·exact hk _ _ _ _ ⟨by omega,by omega,fun h=>absurd h (by simpa using h')⟩
 ·have:=hb (by simpa using h) (by simpa using h')
  have:=hl.most
  rw[wr1 hl h0 h1,wr _ (by omega) (by omega)]
  exact fh (by omega) (by omega) fun t _=>hk _ _ _ _ ⟨by omega,by omega,fun h=>⟨h,by omega⟩⟩
theorem QR(hl:iK l){a c A:Int}(h0:0≤a)(h1:a<l.length){k:Int→Int→Int→Int→ab R}(hk:∀s a' c' A',Rd l a c a' c' 1→Ok P (k s a' c' A')):Ok P (cp N l a c A k):=by
 unfold cp iX
 refine Ok.b (Q:=fun b=>(b=false→c=0→a+1<l.length)) (Ok.ib (fun h=>?_) fun h=>?_) fun b hb=>Ok.i (fun h=>?_) fun h=>Ok.i (fun h'=>?_) fun h'=>?_
 ·refine fh h0 h1 fun t ht=>Ok.s fun hf _=>?_
  have:=hl.last ht (by intro e;rw[e]at hf;simp at hf)
  omega
 ·exact Ok.s fun _ hc=>by simp[hc]at h
 ·exact rr h0 h1 fun c' A' hc=>Ok.i (fun _=>hk _ _ _ _ ⟨by omega,by omega,fun h=>absurd h hc⟩) fun h=>absurd (by simpa using h) hc
 ·exact hk _ _ _ _ ⟨by omega,by omega,fun h=>absurd h (by simpa using h')⟩
 ·have:=hb (by simpa using h) (by simpa using h')
  have:=hl.most
  rw[wr1 hl h0 h1,wr _ (by omega) (by omega)]
  exact fh (by omega) (by omega) fun t _=>hk _ _ _ _ ⟨by omega,by omega,fun h=>⟨h,by omega⟩⟩
end
section
variable{R:Type}{P:R→Prop}{l:List Token}{N:Nat}
theorem w7(hl:iK l){a o c A:Int}(h0:0≤a)(h1:a<l.length)(s:ae){k:Int→Int→Int→ab R}(hk:∀a' c' A',Rd l a c a' c' 1→Ok P (k a' c' A')):Ok P (jC N s l a o c A k):=by
 unfold jC gQ gw
 refine Ok.i (fun h=>?_) fun h=>?_
 ·exact hk _ _ _ ⟨by omega,by omega,fun h'=>absurd h' (by simpa using h)⟩
 have hc:c=0:=by simpa using h
 refine sy hl h0 h1 s fun b hb=>Ok.i (fun h=>?_) fun h=>?_
 ·refine Ok.i (fun _=>?_) fun h=>absurd hc (by simpa using h)
  exact rr h0 h1 fun c' A' hc=>hk _ _ _ ⟨by omega,by omega,fun h=>absurd h hc⟩
 ·have:=hb (by simpa using h)
  rw[wr1 hl h0 h1]
  exact hk _ _ _ ⟨by omega,by omega,fun h=>⟨h,by omega⟩⟩
theorem VY{a o c A:Int}(h0:0≤a)(h1:a<l.length){k:Int→Int→ae→List Expr→Int→Int→Int→ab R}(hk:∀c' A',c'≠0→Ok P (k 0 0 [] [] 0 c' A')):Ok P (gw N l a o c A k):=by
 unfold gw
 exact Ok.i (fun h=>rr h0 h1 fun c' A' hc=>hk _ _ hc) fun h=>hk _ _ (by simpa using h)
theorem is7(hl:iK l){a o c A:Int}(h0:0≤a)(h1:a<l.length)(s:ae){k:Bool→ab R}(hk:∀b,(b=true→a+1<l.length)→Ok P (k b)):Ok P (gQ N s l a o c A k):=sy hl h0 h1 s hk
theorem VZ(hl:iK l){a o c A:Int}(h0:0≤a)(h1:a<l.length)(h2:0≤o)(h3:o≤12){k:Bool→Int→Int→Int→Int→ab R}(hk:∀A',Ok P (k false a o 14 A'))(hk1:o<12→Ok P (k true (a+1) (o+1) c A)):Ok P (kQ N l a o c A k):=by
 unfold kQ
 refine Ok.i (fun h=>fh h0 h1 fun t _=>hk _) fun h=>?_
 have:o≠12:=by simpa using h
 rw[wr1 hl h0 h1,wr _ (by omega) (by omega)]
 exact hk1 (by omega)
theorem XQ(v:Int)(s:ae){k:Int→ab R}(hk:∀x,Ok P (k x)):Ok P (IZ N v s k):=by
 unfold IZ vk
 repeat' (first|exact hk _|refine Ok.i (fun _=>?_) fun _=>?_)
def ExK(P:R→Prop)(l:List Token)(a o c:Int)(k:Int→Int→ae→List Expr→Int→Int→Int→Int→Int→ab R):Prop:=
 ∀K n s es A a' c' A',Rd l a c a' c' (szE ⟨K,n,s,es,A⟩)→Ok P (k K n s es A a' o c' A')
theorem ep:∀l,0≤ju l:=by
 have:(∀e,0≤szE e)∧∀l,0≤ju l:=by
  refine⟨fun e=>?_,fun l=>?_⟩
  ·exact Expr.rec (motive_1:=fun e=>0≤szE e) (motive_2:=fun l=>0≤ju l) (fun k n s es a ih=>by simp only[szE];omega) (by simp[ju]) (fun e r h1 h2=>by simp only[ju];omega) e
  ·exact Expr.rec_1 (motive_1:=fun e=>0≤szE e) (motive_2:=fun l=>0≤ju l) (fun k n s es a ih=>by simp only[szE];omega) (by simp[ju]) (fun e r h1 h2=>by simp only[ju];omega) l
 exact this.2
theorem tD(K n s es A):szE ⟨K,n,s,es,A⟩=1+ju es:=by simp[szE]
theorem expr_ok(hl:iK l)(hN:16500<N):∀d:Nat,
  (∀(R:Type)(P:R→Prop)(v a o c A:Int) k,1≤v→v≤6→0≤a→a<l.length→0≤o→o≤12→9-v+9*(12-o)<d→ExK P l a o c k→Ok P ((aw N d).r7_reader_binary R v l a o c A k)) ∧
  (∀(R:Type)(P:R→Prop)(a o c A:Int) k,0≤a→a<l.length→0≤o→o≤12→2+9*(12-o)<d→ExK P l a o c k→Ok P ((aw N d).r7_reader_unary R l a o c A k)) ∧
  (∀(R:Type)(P:R→Prop)(a o c A:Int) k,0≤a→a<l.length→0≤o→o≤12→1+9*(12-o)<d→ExK P l a o c k→Ok P ((aw N d).r7_reader_prim R l a o c A k)):=by
 have hm:=hl.most
 intro d
 induction d with
 |zero=>exact⟨by intros;omega,by intros;omega,by intros;omega⟩
 |succ d ih=>
  obtain⟨ihb,ihu,ihp⟩:=ih
  refine⟨?_,?_,?_⟩
  ·intro R P v a o c A k hv1 hv6 h0 h1 h2 h3 hd hk
   rw[CU]
   unfold hR
   refine Ok.i (fun h=>?_) fun h=>?_
   ·have:v=6:=by simpa using h
    exact ihu R P a o c A _ h0 h1 h2 h3 (by omega) fun K n s es A a' c' A' hr=>hk _ _ _ _ _ _ _ _ hr
   have:v≠6:=by simpa using h
   rw[wr _ (by omega) (by omega)]
   refine ihb R P (v+1) a o c A _ (by omega) (by omega) h0 h1 h2 h3 (by omega) fun K n s es A a1 c1 A1 ⟨r1,r2,r3⟩=>?_
   rw[tD]at r3
   have key:∀(n:Nat)(a2 c2 A2 K2 n2:Int) s2 es2 AA2,a≤a2→a2<l.length→(c2=0→c=0∧a+szE ⟨K2,n2,s2,es2,AA2⟩≤a2)→(l.length-a2).toNat<n →
     Ok P (gE (aw N d) N v l 0 0 [] 0 (fun(y79:Int)(y80:Int)(y81:Int)(y82:Int)(y83:Int)(y84:Int)(y85:ae)(y86:List Expr)(y87:Int)=>k y83 y84 y85 y86 y87 y79 y80 y81 y82)
      (fun(y88:Int)(y89:Int)(y90:Int)(y91:Int)(y92:Int)(y93:Int)(y94:ae)(y95:List Expr)(y96:Int)=>k y92 y93 y94 y95 y96 y88 y89 y90 y91)
      (fun(y97:Int)(y98:Int)(y99:Int)(y100:Int)(y101:Int)(y102:Int)(y103:ae)(y104:Int)(y105:List Expr)=>k y101 y102 y103 y105 y104 y97 y98 y99 y100) n a2 o c2 A2 K2 n2 s2 es2 AA2):=by
    intro n
    induction n with
    |zero=>intros;omega
    |succ n ihn=>
     intro a2 c2 A2 K2 n2 s2 es2 AA2 q1 q2 q3 q4
     rw[gE]
     unfold lu
     have hd:decide (a2<((l.length:Nat):Int))=true:=by simpa using q2
     obtain⟨t,ht,ht'⟩:=JC (l:=l) (a:=a2) (by omega) q2
     simp only[hd,ht',Option.bind_some,aD,Bool.and_true]
     refine Ok.i (fun h=>?_) fun h=>?_
     ·have hc2:c2=0:=by simp only[Bool.and_eq_true,beq_iff_eq]at h;exact h.1
      have hb:a2+1<l.length:=by
       have:=hl.last ht (by intro e;rw[e]at h;simp at h)
       omega
      refine XQ _ _ fun x=>Ok.i (fun _=>?_) fun _=>?_
      ·exact hk _ _ _ _ _ _ _ _ ⟨q1,q2,q3⟩
      rw[wr1 hl (by omega) q2,wr (v+1) (by omega) (by omega)]
      refine ihb R P (v+1) (a2+1) o c2 A2 _ (by omega) (by omega) (by omega) hb h2 h3 (by omega) fun K n s es A a3 c3 A3 ⟨r1,r2,r3⟩=>?_
      have p1:=ep es
      have p2:=ep es2
      rw[tD]at r3 q3
      have big:a≤a3∧a3<l.length∧(c3=0→c=0∧a+(1+ju [⟨K2,n2,s2,es2,AA2⟩,⟨K,n,s,es,A⟩])≤a3):=by
       refine⟨by omega,by omega,fun h=>?_⟩
       simp only[ju,tD]
       have:=q3 hc2
       have:=r3 h
       omega
      refine Ok.i (fun _=>hk _ _ _ _ _ _ _ _ (by simpa only[tD,Rd] using big)) fun _=>?_
      exact ihn _ _ _ _ _ _ _ _ (by omega) (by omega) (by rw[tD];exact big.2.2) (by omega)
     ·exact hk _ _ _ _ _ _ _ _ ⟨q1,q2,q3⟩
   exact key N _ _ _ _ _ _ _ _ r1 r2 (by rw[tD];exact r3) (by omega)
  ·intro R P a o c A k h0 h1 h2 h3 hd hk
   rw[DM]
   have key6:∀kk,(kk≠0→a+1<l.length)→∀(kp0:Int→Int→Int→Int→Int→Int→ae→(List Expr)→Int→ab R)(kp1:Int→Int→Int→Int→Int→Int→ae→Int→ab R)(kp2:Int→Int→Int→Int→Int→ae→Int→(List Expr)→ab R),
     (∀a c A K n s es AA,Ok P (k K n s es AA a o c A)→Ok P (kp0 a o c A K n s es AA)) →
     (∀a c A K n s AA,Ok P (k K n s [] AA a o c A)→Ok P (kp1 a o c A K n s AA)) →
     (∀a c A n s es AA,Ok P (k kk n s es AA a o c A)→Ok P (kp2 a o c A n s AA es)) →
     Ok P (hU (aw N d) N kk l a o c A 0 0 [] 0 kp0 kp1 kp2):=by
    intro kk hkk kp0 kp1 kp2 e0 e1 e2
    unfold hU
    refine Ok.i (fun h=>?_) fun h=>?_
    ·exact ihp R P a o c A _ h0 h1 h2 h3 (by omega) fun K n s es A a' c' A' hr=>e0 _ _ _ _ _ _ _ _ (hk _ _ _ _ _ _ _ _ hr)
    refine fh h0 h1 fun t ht=>?_
    refine VZ hl h0 h1 h2 h3 (fun A'=>?_) fun ho=>?_
    ·exact e1 _ _ _ _ _ _ _ (hk _ _ _ _ _ _ _ _ ⟨by omega,h1,fun h=>absurd h (by decide)⟩)
    ·have hk1:=hkk (by simpa using h)
     refine Ok.i (fun h=>absurd h (by decide)) fun _=>?_
     refine ihu R P (a+1) (o+1) c A _ (by omega) hk1 (by omega) (by omega) (by omega) fun K n s es A a3 c3 A3 ⟨r1,r2,r3⟩=>?_
     rw[wr _ (by omega) (by omega),show o+1-1=o by omega]
     refine e2 _ _ _ _ _ _ _ (hk _ _ _ _ _ _ _ _ ⟨by omega,by omega,fun h=>?_⟩)
     have:=r3 h
     simp only[tD,ju]at this ⊢
     omega
   have key4:∀kk,(kk≠0→a+1<l.length)→∀(kp0:Int→Int→Int→Int→Int→Int→ae→(List Expr)→Int→ab R)(kp1:Int→Int→Int→Int→Int→Int→ae→Int→ab R)(kp2:Int→Int→Int→Int→Int→Int→ae→Int→(List Expr)→ab R),
     (∀a c A K n s es AA,Ok P (k K n s es AA a o c A)→Ok P (kp0 a o c A K n s es AA)) →
     (∀a c A K n s AA,Ok P (k K n s [] AA a o c A)→Ok P (kp1 a o c A K n s AA)) →
     (∀a c A K n s es AA,Ok P (k K n s es AA a o c A)→Ok P (kp2 a o c A K n s AA es)) →
     Ok P (hY (aw N d) N kk l a o c A 0 0 [] 0 kp0 kp1 kp2):=by
    intro kk hkk kp0 kp1 kp2 e0 e1 e2
    unfold hY
    refine is7 hl h0 h1 _ fun b hb=>Ok.i (fun h=>?_) fun h=>?_
    ·exact key6 _ (fun _=>hb h) _ _ _ (fun _ _ _ _ _ _ _ _ h=>e0 _ _ _ _ _ _ _ _ h) (fun _ _ _ _ _ _ _ h=>e1 _ _ _ _ _ _ _ h) (fun _ _ _ _ _ _ _ h=>e2 _ _ _ _ _ _ _ _ h)
    ·exact key6 _ hkk _ _ _ (fun _ _ _ _ _ _ _ _ h=>e0 _ _ _ _ _ _ _ _ h) (fun _ _ _ _ _ _ _ h=>e1 _ _ _ _ _ _ _ h) (fun _ _ _ _ _ _ _ h=>e2 _ _ _ _ _ _ _ _ h)
   unfold iY
   refine is7 hl h0 h1 _ fun b hb=>Ok.i (fun h=>?_) fun h=>?_
   ·exact key4 _ (fun _=>hb h) _ _ _ (fun _ _ _ _ _ _ _ _ h=>h) (fun _ _ _ _ _ _ _ h=>h) (fun _ _ _ _ _ _ _ _ h=>h)
   ·exact key4 _ (fun h=>absurd rfl h) _ _ _ (fun _ _ _ _ _ _ _ _ h=>h) (fun _ _ _ _ _ _ _ h=>h) (fun _ _ _ _ _ _ _ _ h=>h)
  ·intro R P a o c A k h0 h1 h2 h3 hd hk
   rw[Fp]
   unfold jD
   have one:∀(K n:Int) s (A A':Int),a+1<l.length→Ok P (k K n s [] A (a+1) o c A'):=by
    intro K n s A A' h
    refine hk _ _ _ _ _ _ _ _ ⟨by omega,h,fun hc=>⟨hc,?_⟩⟩
    simp only[tD,ju];omega
   refine fh h0 h1 fun t ht=>?_
   rw[wr1 hl h0 h1]
   refine Ok.i (fun h=>?_) fun h=>?_
   ·have:=hl.last ht (by intro e;rw[e]at h;simp at h)
    exact one _ _ _ _ _ (by omega)
   refine is7 hl h0 h1 _ fun b hb=>Ok.i (fun h=>one _ _ _ _ _ (hb h)) fun h=>?_
   refine is7 hl h0 h1 _ fun b hb=>Ok.i (fun h=>?_) fun h=>?_
   ·have h1':=hb h
    refine w7 hl (by omega) h1' _ fun a1 c1 A1 ⟨r1,r2,r3⟩=>Ok.i (fun h=>?_) fun hc=>?_
    ·exact hk _ _ _ _ _ _ _ _ ⟨by omega,r2,fun hc=>absurd hc (by simpa using h)⟩
    have hc1:c1=0:=by simpa using hc
    refine named_ok hl (by omega) (by omega) r2 fun b hb=>Ok.i (fun h=>?_) fun h=>?_
    ·exact VY (by omega) r2 fun c' A' hc=>hk _ _ _ _ _ _ _ _ ⟨by omega,r2,fun h=>absurd h hc⟩
    have h2':=hb (by simpa using h)
    refine fh (by omega) r2 fun t2 _=>?_
    rw[wr1 hl (by omega) r2]
    refine w7 hl (by omega) h2' _ fun a2 c2 A2 ⟨q1,q2,q3⟩=>hk _ _ _ _ _ _ _ _ ⟨by omega,q2,fun h=>?_⟩
    simp only[tD,ju]
    have:=q3 h
    have:=r3 hc1
    omega
   refine is7 hl h0 h1 _ fun b hb=>Ok.i (fun h=>?_) fun h=>?_
   ·have h1':=hb h
    refine VZ hl h0 h1 h2 h3 (fun A'=>?_) fun ho=>?_
    ·exact hk _ _ _ _ _ _ _ _ ⟨by omega,h1,fun h=>absurd h (by decide)⟩
    refine Ok.i (fun h=>absurd h (by decide)) fun _=>?_
    refine ihb R P 1 (a+1) (o+1) c A _ (by omega) (by omega) (by omega) h1' (by omega) (by omega) (by omega) fun K n s es A a1 c1 A1 ⟨r1,r2,r3⟩=>?_
    refine w7 hl (by omega) r2 _ fun a2 c2 A2 ⟨q1,q2,q3⟩=>?_
    rw[wr _ (by omega) (by omega),show o+1-1=o by omega]
    refine hk _ _ _ _ _ _ _ _ ⟨by omega,q2,fun h=>?_⟩
    obtain⟨hq,_⟩:=q3 h
    obtain⟨hr,_⟩:=r3 hq
    exact⟨hr,by omega⟩
   refine named_ok hl (by omega) h0 h1 fun b hb=>Ok.i (fun h=>one _ _ _ _ _ (hb h)) fun h=>?_
   exact VY h0 h1 fun c' A' hc=>hk _ _ _ _ _ _ _ _ ⟨by omega,h1,fun h=>absurd h hc⟩
theorem QS(hl:iK l)(hN:16500<N){a:Int}(h0:0≤a)(h1:a<l.length){k:Int→Int→ae→List Expr→Int→Int→Int→Int→ab R}(hk:∀K n s es A a' c' A',(c'=0→Rd l a 0 a' 0 (szE ⟨K,n,s,es,A⟩))→Ok P (k K n s es A a' c' A')):Ok P (yL N l a k):=by
 unfold yL r7_reader_binary
 refine(expr_ok hl hN N).1 R P 1 a 0 0 0 _ (by omega) (by omega) h0 h1 (by omega) (by omega) (by omega) fun K n s es A a1 c1 A1 ⟨r1,r2,r3⟩=>Ok.i (fun h=>?_) fun h=>?_
 ·exact hk _ _ _ _ _ _ _ _ fun h'=>absurd h' (by simpa using h)
 ·have:c1=0:=by simpa using h
  exact hk _ _ _ _ _ _ _ _ fun _=>⟨r1,r2,fun _=>r3 this⟩
end
def Gd(l:List Token)(a a' n:Int):Prop:=a+n≤a'∧a'<l.length
theorem bs:∀l,0≤eY l:=by
 intro l
 exact Act.rec_1 (motive_1:=fun e=>0≤szA e) (motive_2:=fun l=>0≤eY l) (fun k n s es x t e a ih1 ih2=>by simp only[szA];have:=ep es;omega) (by simp[eY]) (fun e r h1 h2=>by simp only[eY];omega) l
theorem oP(k n s es x t e a):szA ⟨k,n,s,es,x,t,e,a⟩=1+ju es+eY t+eY e:=by simp[szA]
section
variable{R:Type}{P:R→Prop}{l:List Token}{N:Nat}
theorem SZ(hl:iK l){a:Int}(h0:0≤a)(h1:a<l.length)(s:ae){k:Int→Int→Int→ab R}(hk:∀a' c' A',(c'=0→Gd l a a' 1)→Ok P (k a' c' A')):Ok P (zD N l a s k):=by
 unfold zD
 refine sy hl h0 h1 s fun b hb=>Ok.i (fun h=>?_) fun h=>?_
 ·exact rr h0 h1 fun c A hc=>hk _ _ _ fun h=>absurd h hc
 ·rw[wr1 hl h0 h1]
  exact hk _ _ _ fun _=>⟨by omega,hb (by simpa using h)⟩
theorem JD(hl:iK l)(hN:16500<N){a:Int}(h0:0≤a)(h1:a<l.length){k:List Expr→Int→Int→Int→ab R}(hk:∀es a' c' A',(c'=0→Gd l a a' (ju es+2))→Ok P (k es a' c' A')):Ok P (rA N l a k):=by
 unfold rA
 refine SZ hl h0 h1 _ fun a1 c1 A1 g1=>Ok.i (fun h=>?_) fun h=>?_
 ·exact hk _ _ _ _ fun h'=>absurd h' (by simpa using h)
 obtain⟨g1,g2⟩:=g1 (by simpa using h)
 refine QS hl hN (by omega) g2 fun K n s es A a2 c2 A2 r=>Ok.i (fun h=>?_) fun h=>?_
 ·exact hk _ _ _ _ fun h'=>absurd h' (by simpa using h)
 obtain⟨r1,r2,r3⟩:=r (by simpa using h)
 refine SZ hl (by omega) r2 _ fun a3 c3 A3 g=>hk _ _ _ _ fun h'=>?_
 obtain⟨g3,g4⟩:=g h'
 have:=(r3 rfl).2
 refine⟨?_,g4⟩
 simp only[ju];omega
theorem Ma(hl:iK l)(hN:16500<N){a:Int}(h0:0≤a)(h1:a<l.length){k:ae→Int→Int→Int→ab R}(hk:∀s a' c' A',(c'=0→Gd l a a' 1)→Ok P (k s a' c' A')):Ok P (uc N l a k):=by
 unfold uc
 refine named_ok hl (by omega) h0 h1 fun b hb=>Ok.i (fun h=>?_) fun h=>?_
 ·exact rr h0 h1 fun c A hc=>hk _ _ _ _ fun h=>absurd h hc
 ·refine fh h0 h1 fun t _=>?_
  rw[wr1 hl h0 h1]
  exact hk _ _ _ _ fun _=>⟨by omega,hb (by simpa using h)⟩
theorem Wa(hl:iK l)(hN:16500<N){a:Int}(h0:0≤a)(h1:a<l.length){k:List Expr→Int→Int→Int→ab R}(hk:∀es a' c' A',(c'=0→Gd l a a' (ju es))→Ok P (k es a' c' A')):Ok P (Bk N l a k):=by
 unfold Bk
 refine sy hl h0 h1 _ fun b hb=>Ok.i (fun h=>?_) fun h=>?_
 ·exact hk _ _ _ _ fun _=>⟨by simp[ju],h1⟩
 ·exact JD hl hN h0 h1 fun es a' c' A' g=>hk _ _ _ _ fun h=>by obtain⟨g1,g2⟩:=g h;exact⟨by omega,g2⟩
def AcK(P:R→Prop)(l:List Token)(a:Int)(k:Int→ae→ae→(List Expr)→Int→(List Act)→(List Act)→Int→Int→Int→Int→ab R):Prop:=
 ∀K s e X n T E A a' c' A',(c'=0→Gd l a a' (szA ⟨K,s,e,X,n,T,E,A⟩))→Ok P (k K s e X n T E A a' c' A')
theorem ZT(hl:iK l)(hN:16500<N){a:Int}(h0:0≤a)(h1:a<l.length){k}(hk:AcK P l a k):Ok P (MX N l a k):=by
 unfold MX
 refine fh h0 h1 fun t _=>Ma hl hN h0 h1 fun s a1 c1 A1 g=>Ok.i (fun h=>?_) fun h=>?_
 ·exact hk _ _ _ _ _ _ _ _ _ _ _ fun h'=>absurd h' (by simpa using h)
 obtain⟨g1,g2⟩:=g (by simpa using h)
 refine SZ hl (by omega) g2 _ fun a2 c2 A2 g=>Ok.i (fun h=>?_) fun h=>?_
 ·exact hk _ _ _ _ _ _ _ _ _ _ _ fun h'=>absurd h' (by simpa using h)
 obtain⟨g3,g4⟩:=g (by simpa using h)
 refine QS hl hN (by omega) g4 fun K n s es A a2 c2 A2 r=>hk _ _ _ _ _ _ _ _ _ _ _ fun h=>?_
 obtain⟨r1,r2,r3⟩:=r h
 have:=(r3 rfl).2
 refine⟨?_,r2⟩
 simp only[oP,ju,eY];omega
theorem c24(hl:iK l){a b1 b2 A:Int}{x1 x2 x3 x4 x5 x6 x7 y1 y2 y3 y4 y5 y6 y7}{kp0:Int→Int→ae→ae→Int→Int→ab R}{kp1:Int→Int→Int→ab R}(hb:b1=0→0≤a∧a<l.length)(e0:b1≠0→Ok P (kp0 0 0 [] [] 0 0))(e1:b1=0→∀a' c' A',(c'=0→Gd l a a' 1)→Ok P (kp1 a' c' A')):
  Ok P (cq N l a x1 x2 x3 x4 x5 x6 x7 y1 y2 y3 y4 y5 y6 y7 A b1 b2 kp0 kp1):=by
 unfold cq
 refine Ok.i (fun h=>e0 (by simpa using h)) fun h=>?_
 have hb1:b1=0:=by simpa using h
 exact SZ hl (hb hb1).1 (hb hb1).2 _ (e1 hb1)
theorem XR(hl:iK l)(hN:16500<N){a:Int}(h0:0≤a)(h1:a<l.length){k}(hk:AcK P l a k):Ok P (Cw N l a k):=by
 unfold Cw
 have none0:∀{b1:Int} A,b1≠0→Ok P (k 0 [] [] [] 0 [] [] 0 0 b1 A):=fun A hb=>hk _ _ _ _ _ _ _ _ _ _ _ fun h=>absurd h hb
 refine fh h0 h1 fun t _=>?_
 -- the common end
 have fin:∀{a1 b1 b2 A K n:Int} {s e X T E} {x1 x2 x3 x4 x5 x6 x7 y1 y2 y3 y4 y5 y6 y7},(b1=0→Gd l a a1 (szA ⟨K,s,e,X,n,T,E,A⟩))→∀{kp0:Int→Int→ae→ae→Int→Int→ab R} {kp1:Int→Int→Int→ab R},
   (Ok P (k 0 [] [] [] 0 [] [] 0 0 b1 b2)→Ok P (kp0 0 0 [] [] 0 0))→(∀a' c' A',Ok P (k K s e X n T E A a' c' A')→Ok P (kp1 a' c' A')) →
   Ok P (cq N l a1 x1 x2 x3 x4 x5 x6 x7 y1 y2 y3 y4 y5 y6 y7 A b1 b2 kp0 kp1):=by
  intro a1 b1 b2 A K n s e X T E x1 x2 x3 x4 x5 x6 x7 y1 y2 y3 y4 y5 y6 y7 g kp0 kp1 e0 e1
  have p1:=ep X;have p2:=bs T;have p3:=bs E
  refine c24 hl (fun h=>?_) (fun h=>e0 (none0 _ h)) fun h a' c' A' g'=>e1 _ _ _ (hk _ _ _ _ _ _ _ _ _ _ _ fun h'=>?_)
  ·obtain⟨g1,g2⟩:=g h;simp only[oP]at g1;exact⟨by omega,g2⟩
  ·obtain⟨g1,g2⟩:=g h;obtain⟨g3,g4⟩:=g' h';exact⟨by omega,g4⟩
 have em:ju []=0:=by simp[ju]
 have am:eY []=0:=by simp[eY]
 refine sy hl h0 h1 _ fun b hb=>Ok.i (fun h=>?_) fun h=>?_
 ·rw[wr1 hl h0 h1]
  refine Ma hl hN (by omega) (hb h) fun s a1 c1 A1 g=>Ok.i (fun h=>?_) fun h=>?_
  ·obtain⟨g1,g2⟩:=g (by simpa using h)
   refine Wa hl hN (by omega) g2 fun es a2 c2 A2 g=>fin (fun h=>?_) (fun h=>h) fun _ _ _ h=>h
   obtain⟨g3,g4⟩:=g h
   simp only[oP,am];exact⟨by omega,g4⟩
  ·exact fin (fun h'=>absurd h' (by simpa using h)) (fun h=>h) fun _ _ _ h=>h
 refine sy hl h0 h1 _ fun b hb=>Ok.i (fun h=>?_) fun h=>?_
 ·rw[wr1 hl h0 h1]
  have c14:∀{a1 b1 b2:Int} {x1 x2 x3 x4 x5 x6 x7 y1 y2 y3 y4 y5} {kp0:Int→(List Expr)→Int→Int→ab R} {kp1:ab R},(b1=0→Gd l a a1 2)→(∀a' es c' A',(c'=0→Gd l a a' (ju es+1))→Ok P (kp0 a' es c' A'))→(b1≠0→Ok P kp1) →
    Ok P (oe N l a1 x1 x2 x3 x4 x5 x6 x7 y1 y2 y3 y4 y5 b1 b2 kp0 kp1):=by
   intro a1 b1 b2 x1 x2 x3 x4 x5 x6 x7 y1 y2 y3 y4 y5 kp0 kp1 g e0 e1
   unfold oe
   refine Ok.i (fun h=>?_) fun h=>e1 (by simpa using h)
   obtain⟨g1,g2⟩:=g (by simpa using h)
   refine Wa hl hN (by omega) g2 fun es a2 c2 A2 g=>e0 _ _ _ _ fun h=>?_
   obtain⟨g3,g4⟩:=g h
   exact⟨by omega,g4⟩
  refine Ma hl hN (by omega) (hb h) fun s a1 c1 A1 g=>Ok.i (fun h=>?_) fun h=>?_
  ·obtain⟨g1,g2⟩:=g (by simpa using h)
   refine Ma hl hN (by omega) g2 fun s2 a2 c2 A2 g=>c14 (fun h=>?_) (fun a3 es c3 A3 g=>?_) fun h=>?_
   ·obtain⟨g3,g4⟩:=g h;exact⟨by omega,g4⟩
   ·refine fin (fun h=>?_) (fun h=>h) fun _ _ _ h=>h
    obtain⟨g3,g4⟩:=g h
    simp only[oP,am];exact⟨by omega,g4⟩
   ·exact fin (fun h'=>absurd h' h) (fun h=>h) fun _ _ _ h=>h
  ·refine c14 (fun h'=>absurd h' (by simpa using h)) (fun a3 es c3 A3 g=>?_) fun h=>?_
   ·refine fin (fun h=>?_) (fun h=>h) fun _ _ _ h=>h
    obtain⟨g3,g4⟩:=g h
    simp only[oP,am];exact⟨by omega,g4⟩
   ·exact fin (fun h'=>absurd h' h) (fun h=>h) fun _ _ _ h=>h
 refine sy hl h0 h1 _ fun b hb=>Ok.i (fun h=>?_) fun h=>?_
 ·rw[wr1 hl h0 h1]
  refine Ma hl hN (by omega) (hb h) fun s a1 c1 A1 g=>Ok.i (fun h=>?_) fun h=>?_
  ·obtain⟨g1,g2⟩:=g (by simpa using h)
   refine JD hl hN (by omega) g2 fun es a2 c2 A2 g=>fin (fun h=>?_) (fun h=>h) fun _ _ _ h=>h
   obtain⟨g3,g4⟩:=g h
   simp only[oP,am];exact⟨by omega,g4⟩
  ·exact fin (fun h'=>absurd h' (by simpa using h)) (fun h=>h) fun _ _ _ h=>h
 refine sy hl h0 h1 _ fun b hb=>Ok.i (fun h=>?_) fun h=>?_
 ·rw[wr1 hl h0 h1]
  refine Ma hl hN (by omega) (hb h) fun s a1 c1 A1 g=>fin (fun h=>?_) (fun h=>h) fun _ _ _ h=>h
  obtain⟨g1,g2⟩:=g h
  simp only[oP,am,em];exact⟨by omega,g2⟩
 refine ZT hl hN h0 h1 fun K s e X n T E A a1 c1 A1 g=>fin g (fun h=>h) fun _ _ _ h=>h
theorem block_ok(hl:iK l)(hN:16500<N):∀d:Nat,
  (∀(R:Type)(P:R→Prop)(a dp:Int) k,0≤a→a<l.length→0≤dp→dp≤4→1+2*(4-dp)<d→(∀aa a' c' A',(c'=0→Gd l a a' (eY aa+2))→Ok P (k aa a' c' A'))→Ok P ((aY N d).r8_block R l a dp k)) ∧
  (∀(R:Type)(P:R→Prop)(a dp:Int) k,0≤a→a+1<l.length→0≤dp→dp≤4→2+2*(4-dp)<d→AcK P l a k→Ok P ((aY N d).r8_choice R l a dp k)) ∧
  (∀(R:Type)(P:R→Prop)(a dp:Int) k,0≤a→a+1<l.length→0≤dp→dp≤4→2+2*(4-dp)<d→AcK P l a k→Ok P ((aY N d).r8_round R l a dp k)):=by
 have hm:=hl.most
 intro d
 induction d with
 |zero=>exact⟨by intros;omega,by intros;omega,by intros;omega⟩
 |succ d ih=>
  obtain⟨ihb,ihc,ihr⟩:=ih
  refine⟨?_,?_,?_⟩
  ·intro R P a dp k h0 h1 h2 h3 hd hk
   rw[Oy]
   unfold vm
   refine sy hl h0 h1 _ fun b hb=>Ok.i (fun h=>?_) fun h=>?_
   ·exact rr h0 h1 fun c A hc=>hk _ _ _ _ fun h=>absurd h hc
   have ha1:=hb (by simpa using h)
   refine Ok.i (fun h=>fh h0 h1 fun t _=>hk _ _ _ _ fun h=>absurd h (by decide)) fun hdp=>?_
   have hdp:dp≠4:=by simpa using hdp
   rw[wr1 hl h0 h1]
   have key:∀(n:Nat)(a2:Int)(out:List Act),a+1≤a2→a2<l.length→a+1+eY out≤a2→(out.length:Int)≤a2→(l.length-a2).toNat<n →
     Ok P (pz (aY N d) N l dp 0 0 (fun(y69:Int)(y70:List Act)=>k y70 (IntKind.wrap .i64 (y69+1)) 0 0) (fun(y71:Int)(y72:Int)(y73:Int)=>k ([]:List Act) y71 y72 y73) n a2 out):=by
    intro n
    induction n with
    |zero=>intros;omega
    |succ n ihn=>
     intro a2 out q1 q2 q3 q4 q5
     rw[pz]
     unfold xJ
     refine sy hl (by omega) q2 _ fun b hb=>Ok.i (fun h=>?_) fun h=>?_
     ·have c15:∀{K m:Int} {s e X T E A} {a3 c3 A3:Int},(c3=0→Gd l a2 a3 (szA ⟨K,s,e,X,m,T,E,A⟩))→Ok P (mL (aY N d) N l a3 dp 0 0 out K s e X m T E A c3 A3 (fun(y40:Int)=>k ([]:List Act) y40 c3 A3) (fun(y41:List Act)=>pz (aY N d) N l dp 0 0 (fun(y69:Int)(y70:List Act)=>k y70 (IntKind.wrap .i64 (y69+1)) 0 0) (fun(y71:Int)(y72:Int)(y73:Int)=>k ([]:List Act) y71 y72 y73) n a3 y41)):=by
       intro K m s e X T E A a3 c3 A3 g
       unfold mL
       refine Ok.i (fun h=>hk _ _ _ _ fun h'=>absurd h' (by simpa using h)) fun h=>?_
       obtain⟨g1,g2⟩:=g (by simpa using h)
       have p1:=ep X;have p2:=bs T;have p3:=bs E;have p4:=bs out
       simp only[oP]at g1
       refine Ok.g (by simp[ah];omega) (ihn _ _ (by omega) g2 ?_ (by simp;omega) (by omega))
       rw[VV];simp only[eY,oP];omega
      refine sy hl (by omega) q2 _ fun b hb=>Ok.i (fun h=>?_) fun h=>?_
      ·rw[wr _ (by omega) (by omega)]
       exact ihc R P a2 (dp+1) _ (by omega) (hb h) (by omega) (by omega) (by omega) fun K s e X n T E A a3 c3 A3 g=>c15 g
      refine sy hl (by omega) q2 _ fun b hb=>Ok.i (fun h=>?_) fun h=>?_
      ·rw[wr _ (by omega) (by omega)]
       exact ihr R P a2 (dp+1) _ (by omega) (hb h) (by omega) (by omega) (by omega) fun K s e X n T E A a3 c3 A3 g=>c15 g
      ·exact XR hl hN (by omega) q2 fun K s e X n T E A a3 c3 A3 g=>c15 g
     ·have:=hb (by simpa using h)
      show Ok P (k out (IntKind.wrap .i64 (a2+1)) 0 0)
      rw[wr1 hl (by omega) q2]
      exact hk _ _ _ _ fun _=>⟨by omega,this⟩
   exact key N _ _ (by omega) ha1 (by simp[eY]) (by simp;omega) (by omega)
  ·intro R P a dp k h0 h1 h2 h3 hd hk
   rw[Na]
   unfold sE
   refine fh h0 (by omega) fun t _=>?_
   rw[wr1 hl h0 (by omega)]
   refine JD hl hN (by omega) h1 fun es a1 c1 A1 g=>Ok.i (fun h=>?_) fun h=>?_
   ·exact hk _ _ _ _ _ _ _ _ _ _ _ fun h'=>absurd h' (by simpa using h)
   obtain⟨g1,g2⟩:=g (by simpa using h)
   have p1:=ep es
   refine ihb R P a1 dp _ (by omega) g2 h2 h3 (by omega) fun aa a2 c2 A2 g=>?_
   have p2:=bs aa
   refine Ok.b (Q:=fun b=>b=true→c2=0∧a2+1<l.length) (Ok.ib (fun h=>?_) fun _=>Ok.s (by simp)) fun b hb=>Ok.i (fun h=>?_) fun h=>?_
   ·have hc:c2=0:=by simpa using h
    obtain⟨g3,g4⟩:=g hc
    exact sy hl (by omega) g4 _ fun b hb=>Ok.s fun h=>⟨hc,hb h⟩
   ·obtain⟨hc,hb⟩:=hb h
    obtain⟨g3,g4⟩:=g hc
    rw[wr1 hl (by omega) g4]
    refine ihb R P (a2+1) dp _ (by omega) hb h2 h3 (by omega) fun aa2 a3 c3 A3 g=>hk _ _ _ _ _ _ _ _ _ _ _ fun h=>?_
    obtain⟨g5,g6⟩:=g h
    refine⟨?_,g6⟩
    simp only[oP];omega
   ·refine hk _ _ _ _ _ _ _ _ _ _ _ fun h=>?_
    obtain⟨g3,g4⟩:=g h
    refine⟨?_,g4⟩
    simp only[oP,eY];omega
  ·intro R P a dp k h0 h1 h2 h3 hd hk
   rw[Oz]
   unfold vn
   refine fh h0 (by omega) fun t _=>?_
   rw[wr1 hl h0 (by omega)]
   refine fh (by omega) h1 fun t2 ht2=>Ok.i (fun h=>?_) fun h=>?_
   ·exact rr (by omega) h1 fun c A hc=>hk _ _ _ _ _ _ _ _ _ _ _ fun h=>absurd h hc
   have h2':=hl.last ht2 (by intro e;rw[e]at h;simp at h)
   refine fh (by omega) h1 fun t3 _=>?_
   rw[wr1 hl (by omega) h1]
   refine ihb R P (a+1+1) dp _ (by omega) (by omega) h2 h3 (by omega) fun aa a2 c2 A2 g=>hk _ _ _ _ _ _ _ _ _ _ _ fun h=>?_
   obtain⟨g3,g4⟩:=g h
   refine⟨?_,g4⟩
   simp only[oP,eY,ju];omega
theorem YW(hl:iK l)(hN:16500<N){a:Int}(h0:0≤a)(h1:a<l.length){k:(List Act)→Int→Int→Int→ab R}(hk:∀aa a' c' A',(c'=0→Gd l a a' (eY aa+2))→Ok P (k aa a' c' A')):Ok P (Fs N l a k):=by
 unfold Fs r8_block
 exact(block_ok hl hN N).1 R P a 0 _ h0 h1 (by omega) (by omega) (by omega) hk
end
theorem uZ:∀l,0≤rq l:=by
 intro l
 induction l with
 |nil=>simp[rq]
 |cons t r ih=>simp only[rq,szT];have:=ep t.Guard;have:=bs t.Acts;omega
theorem bR:∀l,0≤aV l:=by
 intro l
 exact State.rec_1 (motive_1:=fun e=>0≤szS e) (motive_2:=fun l=>0≤aV l) (fun k n en ex tr kids a ih=>by simp only[szS];have:=bs en;have:=bs ex;have:=uZ tr;omega) (by simp[aV]) (fun e r h1 h2=>by simp only[aV];omega) l
theorem xI(k n en ex tr kids a):szS ⟨k,n,en,ex,tr,kids,a⟩=1+eY en+eY ex+rq tr+aV kids:=by simp[szS]
section
variable{R:Type}{P:R→Prop}{l:List Token}{N:Nat}
theorem QT(hl:iK l)(hN:16500<N)(w:ae){a c A:Int}(h0:0≤a)(h1:a<l.length){k:(List ai)→Int→Int→Int→ab R}(hk:∀out a' c' A',Rd l a c a' c' 0→(out.length:Int)≤a'→Ok P (k out a' c' A')):Ok P (iQ N w l a c A k):=by
 have hm:=hl.most
 have c14:∀{a2 c2 A2:Int} {w2 out x y z} {kp:Int→Int→Int→(List ai)→ab R},0≤a2→a2<l.length→(out.length:Int)<a2→(∀a' c' A' o,Rd l a2 c2 a' c' 1→(o.length:Int)≤a'→Ok P (kp a' c' A' o))→Ok P (eN N w2 l a2 c2 A2 out x y z kp):=by
  intro a2 c2 A2 w2 out x y z kp q1 q2 q3 e
  unfold eN
  exact w9 hl q1 q2 _ fun a' c' A' ⟨r1,r2,r3⟩=>Ok.g (by simp[ah];omega) (e _ _ _ _ ⟨r1,r2,r3⟩ (by simp;omega))
 have key:∀(n:Nat)(a2 c2 A2:Int)(out:List ai),Rd l a c a2 c2 0→(out.length:Int)≤a2→(l.length-a2).toNat<n→Ok P (hP N w l (fun(y63:Int)(y64:Int)(y65:Int)(y66:List ai)=>k y66 y63 y64 y65) n a2 c2 A2 out):=by
  intro n
  induction n with
  |zero=>intro a2 c2 A2 out ⟨q1,q2,q3⟩ _ _;omega
  |succ n ihn=>
   intro a2 c2 A2 out ⟨q1,q2,q3⟩ q4 q5
   rw[hP]
   unfold ma
   refine is9 hl (by omega) q2 _ fun b hb=>Ok.i (fun h=>?_) fun h=>hk _ _ _ _ ⟨q1,q2,q3⟩ q4
   obtain⟨hc,hb⟩:=hb h
   have hc0:=(q3 hc).1
   rw[wr1 hl (by omega) q2]
   refine fh (by omega) hb fun t _=>nm9 hl (by omega) (by omega) hb fun s a3 c3 A3 ⟨r1,r2,r3⟩=>Ok.i (fun h=>?_) fun h=>?_
   ·refine w9 hl (by omega) r2 _ fun a4 c4 A4 ⟨s1,s2,s3⟩=>is9 hl (by omega) s2 _ fun b hb=>Ok.i (fun h=>?_) fun h=>?_
    ·have:=(hb h).2
     rw[wr1 hl (by omega) s2]
     unfold gD
     refine nu9 hl (by omega) this fun x a5 c5 A5 ⟨t1,t2,t3⟩=>Ok.i (fun _=>?_) fun _=>?_
     ·refine c14 (by omega) t2 (by omega) fun a' c' A' o ⟨u1,u2,u3⟩ hlen=>ihn _ _ _ _ ⟨by omega,u2,fun h=>⟨hc0,by omega⟩⟩ hlen (by omega)
     ·refine c14 (by omega) t2 (by omega) fun a' c' A' o ⟨u1,u2,u3⟩ hlen=>ihn _ _ _ _ ⟨by omega,u2,fun h=>⟨hc0,by omega⟩⟩ hlen (by omega)
    ·unfold gD
     refine nu9 hl (by omega) s2 fun x a5 c5 A5 ⟨t1,t2,t3⟩=>Ok.i (fun _=>?_) fun _=>?_
     ·refine c14 (by omega) t2 (by omega) fun a' c' A' o ⟨u1,u2,u3⟩ hlen=>ihn _ _ _ _ ⟨by omega,u2,fun h=>⟨hc0,by omega⟩⟩ hlen (by omega)
     ·refine c14 (by omega) t2 (by omega) fun a' c' A' o ⟨u1,u2,u3⟩ hlen=>ihn _ _ _ _ ⟨by omega,u2,fun h=>⟨hc0,by omega⟩⟩ hlen (by omega)
   ·exact c14 (by omega) r2 (by omega) fun a' c' A' o ⟨u1,u2,u3⟩ hlen=>ihn _ _ _ _ ⟨by omega,u2,fun h=>⟨hc0,by omega⟩⟩ hlen (by omega)
 unfold iQ
 exact key N a c A [] ⟨by omega,h1,fun h=>⟨h,by omega⟩⟩ (by simpa using h0) (by omega)
theorem QU(hl:iK l)(hN:16500<N){a c A:Int}(h0:0≤a)(h1:a<l.length){k:(List Act)→Int→Int→Int→ab R}(hk:∀x a' c' A',Rd l a c a' c' (eY x+1)→Ok P (k x a' c' A')):Ok P (iR N l a c A k):=by
 unfold iR
 refine Ok.i (fun h=>?_) fun h=>?_
 ·exact hk _ _ _ _ ⟨by omega,h1,fun h'=>absurd h' (by simpa using h)⟩
 have hc:c=0:=by simpa using h
 refine YW hl hN h0 h1 fun x a1 c1 A1 g=>Ok.i (fun h=>?_) fun h=>?_
 ·obtain⟨g1,g2⟩:=g (by simpa using h)
  have:=bs x
  exact hk _ _ _ _ ⟨by omega,g2,fun _=>⟨hc,by omega⟩⟩
 ·exact hk _ _ _ _ ⟨by omega,h1,fun h'=>absurd h' (by simpa using h)⟩
theorem YX(hl:iK l)(hN:16500<N){a c A:Int}(h0:0≤a)(h1:a<l.length){k:(List Expr)→Int→Int→Int→ab R}(hk:∀x a' c' A',Rd l a c a' c' (ju x)→Ok P (k x a' c' A')):Ok P (oC N l a c A k):=by
 unfold oC
 refine w9 hl h0 h1 _ fun a1 c1 A1 ⟨r1,r2,r3⟩=>Ok.i (fun h=>?_) fun h=>?_
 ·exact hk _ _ _ _ ⟨by omega,r2,fun h'=>absurd h' (by simpa using h)⟩
 have hc1:c1=0:=by simpa using h
 have hc:=r3 hc1
 refine QS hl hN (by omega) r2 fun K n s es A a2 c2 A2 g=>Ok.i (fun h=>?_) fun h=>?_
 ·obtain⟨g1,g2,g3⟩:=g (by simpa using h)
  have g3:=(g3 rfl).2
  unfold hZ
  refine w9 hl (by omega) g2 _ fun a3 c3 A3 ⟨u1,u2,u3⟩=>hk _ _ _ _ ⟨by omega,u2,fun h=>⟨hc.1,?_⟩⟩
  simp only[ju];omega
 ·unfold hZ
  have hc2:c2≠0:=by simpa using h
  exact w9 hl (by omega) r2 _ fun a3 c3 A3 ⟨u1,u2,u3⟩=>hk _ _ _ _ ⟨by omega,u2,fun h=>absurd (u3 h).1 hc2⟩
theorem YY(hl:iK l)(hN:16500<N){a c A:Int}(h0:0≤a)(h1:a<l.length){k:ae→(List Expr)→ae→(List Act)→Int→Int→Int→Int→ab R}(hk:∀e g t x A a' c' A',Rd l a c a' c' (szT ⟨e,g,t,x,A⟩)→Ok P (k e g t x A a' c' A')):Ok P (oD N l a c A k):=by
 unfold oD
 have am:eY []=0:=by simp[eY]
 have em:ju []=0:=by simp[ju]
 have c11:∀{a1 c1 A1:Int} {x1 x2 x3 x4 x5 x6 x7} {kp0:Int→ab R} {kp1:Int→Int→Int→(List Act)→ab R},0≤a1→a1<l.length→(∀a',c1=0→a'=a1+1→a'<l.length→Ok P (kp0 a'))→(∀a' c' A' x,Rd l a1 c1 a' c' (eY x+1)→Ok P (kp1 a' c' A' x))→Ok P (gF N l a1 c1 A1 x1 x2 x3 x4 x5 x6 x7 kp0 kp1):=by
  intro a1 c1 A1 x1 x2 x3 x4 x5 x6 x7 kp0 kp1 q1 q2 e0 e1
  unfold gF
  refine is9 hl q1 q2 _ fun b hb=>Ok.i (fun h=>?_) fun h=>?_
  ·rw[wr1 hl q1 q2];exact e0 _ (hb h).1 rfl (hb h).2
  ·exact QU hl hN q1 q2 fun x a' c' A' r=>e1 _ _ _ _ r
 have c8:∀{a1 c1 A1:Int} {x1 x2 x3 x4 x5 x6 x7} {kp0:Int→Int→Int→ae→ab R} {kp1:Int→Int→Int→ae→(List Act)→ab R},0≤a1→a1<l.length→(∀a' c' A' t,Rd l a1 c1 a' c' 1→Ok P (kp0 a' c' A' t))→(∀a' c' A' t x,Rd l a1 c1 a' c' (eY x+1)→Ok P (kp1 a' c' A' t x))→Ok P (ia N l a1 c1 A1 x1 x2 x3 x4 x5 x6 x7 kp0 kp1):=by
  intro a1 c1 A1 x1 x2 x3 x4 x5 x6 x7 kp0 kp1 q1 q2 e0 e1
  unfold ia
  refine is9 hl q1 q2 _ fun b hb=>Ok.i (fun h=>?_) fun h=>?_
  ·obtain⟨hc,hb⟩:=hb h
   rw[wr1 hl q1 q2]
   refine nm9 hl (by omega) (by omega) hb fun s a2 c2 A2 ⟨r1,r2,r3⟩=>c11 (by omega) r2 (fun a' hc' he hlt=>e0 _ _ _ _ ⟨by omega,hlt,fun _=>⟨hc,by omega⟩⟩) fun a' c' A' x ⟨u1,u2,u3⟩=>e1 _ _ _ _ _ ⟨by omega,u2,fun h=>⟨hc,by omega⟩⟩
  ·exact c11 q1 q2 (fun a' hc' he hlt=>e0 _ _ _ _ ⟨by omega,hlt,fun h=>⟨h,by omega⟩⟩) fun a' c' A' x r=>e1 _ _ _ _ _ r
 have c6:∀{a1 c1 A1:Int} {x1 x2 x3 x4 x5 x6} {kp0:Int→Int→Int→(List Expr)→ae→ab R} {kp1:Int→Int→Int→(List Expr)→ae→(List Act)→ab R},0≤a1→a1<l.length→(∀a' c' A' g t,Rd l a1 c1 a' c' (ju g+1)→Ok P (kp0 a' c' A' g t))→(∀a' c' A' g t x,Rd l a1 c1 a' c' (ju g+eY x+1)→Ok P (kp1 a' c' A' g t x))→Ok P (ic N l a1 c1 A1 x1 x2 x3 x4 x5 x6 kp0 kp1):=by
  intro a1 c1 A1 x1 x2 x3 x4 x5 x6 kp0 kp1 q1 q2 e0 e1
  unfold ic
  refine is9 hl q1 q2 _ fun b hb=>Ok.i (fun h=>?_) fun h=>?_
  ·refine YX hl hN q1 q2 fun x a2 c2 A2 ⟨r1,r2,r3⟩=>c8 (by omega) r2 (fun a' c' A' t ⟨u1,u2,u3⟩=>e0 _ _ _ _ _ ⟨by omega,u2,fun h=>?_⟩) fun a' c' A' t y ⟨u1,u2,u3⟩=>e1 _ _ _ _ _ _ ⟨by omega,u2,fun h=>?_⟩
   ·obtain⟨v1,v2⟩:=u3 h;obtain⟨v3,v4⟩:=r3 v1;exact⟨v3,by omega⟩
   ·obtain⟨v1,v2⟩:=u3 h;obtain⟨v3,v4⟩:=r3 v1;exact⟨v3,by omega⟩
  ·refine c8 q1 q2 (fun a' c' A' t ⟨u1,u2,u3⟩=>e0 _ _ _ _ _ ⟨by omega,u2,fun h=>?_⟩) fun a' c' A' t y ⟨u1,u2,u3⟩=>e1 _ _ _ _ _ _ ⟨by omega,u2,fun h=>?_⟩
   ·obtain⟨v1,v2⟩:=u3 h;exact⟨v1,by omega⟩
   ·obtain⟨v1,v2⟩:=u3 h;exact⟨v1,by omega⟩
 refine fh h0 h1 fun t _=>is9 hl h0 h1 _ fun b hb=>Ok.i (fun h=>?_) fun h=>?_
 ·obtain⟨hc,hb⟩:=hb h
  rw[wr1 hl h0 h1]
  refine c6 (by omega) hb (fun a' c' A' g t ⟨u1,u2,u3⟩=>hk _ _ _ _ _ _ _ _ ⟨by omega,u2,fun h=>⟨hc,?_⟩⟩) fun a' c' A' g t x ⟨u1,u2,u3⟩=>hk _ _ _ _ _ _ _ _ ⟨by omega,u2,fun h=>⟨hc,?_⟩⟩
  ·simp only[szT,am];have:=u3 h;omega
  ·simp only[szT];have:=u3 h;omega
 ·refine w9 hl h0 h1 _ fun a1 c1 A1 ⟨r1,r2,r3⟩=>nm9 hl (by omega) (by omega) r2 fun s a2 c2 A2 ⟨s1,s2,s3⟩=>?_
  refine c6 (by omega) s2 (fun a' c' A' g t ⟨u1,u2,u3⟩=>hk _ _ _ _ _ _ _ _ ⟨by omega,u2,fun h=>?_⟩) fun a' c' A' g t x ⟨u1,u2,u3⟩=>hk _ _ _ _ _ _ _ _ ⟨by omega,u2,fun h=>?_⟩
  ·obtain⟨v1,v2⟩:=u3 h;obtain⟨v3,v4⟩:=s3 v1;obtain⟨v5,v6⟩:=r3 v3
   simp only[szT,am];exact⟨v5,by omega⟩
  ·obtain⟨v1,v2⟩:=u3 h;obtain⟨v3,v4⟩:=s3 v1;obtain⟨v5,v6⟩:=r3 v3
   simp only[szT];exact⟨v5,by omega⟩
def StK(P:R→Prop)(l:List Token)(a c:Int)(k:Int→ae→(List Act)→(List Act)→(List Trans)→(List State)→Int→Int→Int→Int→ab R):Prop:=
 ∀K s en ex tr kids A a' c' A',a+1≤a'→Rd l a c a' c' (szS ⟨K,s,en,ex,tr,kids,A⟩)→(c'=0→okS ⟨K,s,en,ex,tr,kids,A⟩)→Ok P (k K s en ex tr kids A a' c' A')
theorem Wb(hl:iK l)(hN:16500<N){a c A:Int}(h0:0≤a)(h1:a+1<l.length){k}(hk:StK P l a c k):Ok P (lL N l a c A k):=by
 unfold lL
 have c4:∀{x1 x2 x3 x4 x5 x6} {kp:Int→Int→Int→ae→ab R},(∀a' c' A' s,Rd l a c a' c' 1→a+1≤a'→Ok P (kp a' c' A' s))→Ok P (fJ N l a c A x1 x2 x3 x4 x5 x6 kp):=by
  intro x1 x2 x3 x4 x5 x6 kp e
  unfold fJ
  rw[wr1 hl h0 (by omega)]
  refine nm9 hl (by omega) (by omega) h1 fun s a1 c1 A1 ⟨r1,r2,r3⟩=>w9 hl (by omega) r2 _ fun a2 c2 A2 ⟨s1,s2,s3⟩=>e _ _ _ _ ⟨by omega,s2,fun h=>?_⟩ (by omega)
  obtain⟨v1,v2⟩:=s3 h;obtain⟨v3,v4⟩:=r3 v1;exact⟨v3,by omega⟩
 refine fh h0 (by omega) fun t _=>is9 hl h0 (by omega) _ fun b hb=>Ok.i (fun h=>?_) fun h=>?_
 ·exact c4 fun a' c' A' s r ha=>hk _ _ _ _ _ _ _ _ _ _ ha (by simpa[xI,eY,rq,aV] using r) fun _=>by simp[okS,nM]
 ·exact c4 fun a' c' A' s r ha=>hk _ _ _ _ _ _ _ _ _ _ ha (by simpa[xI,eY,rq,aV] using r) fun _=>by simp[okS,nM]
theorem Ug(hl:iK l)(hN:16500<N):∀d:Nat,
  (∀(R:Type)(P:R→Prop)(dp a c A:Int) k,0≤a→a<l.length→0≤dp→dp≤13→1+2*(13-dp)<d→(∀x a' c' A',Rd l a c a' c' (aV x)→(c'=0→nM x)→Ok P (k x a' c' A'))→Ok P ((aA N d).r9_reader_states R dp l a c A k)) ∧
  (∀(R:Type)(P:R→Prop)(dp a c A:Int) k,0≤a→a+1<l.length→0≤dp→dp≤12→2*(13-dp)<d→StK P l a c k→Ok P ((aA N d).r9_reader_state R dp l a c A k)):=by
 have hm:=hl.most
 intro d
 induction d with
 |zero=>exact⟨by intros;omega,by intros;omega⟩
 |succ d ih=>
  obtain⟨ihs,iht⟩:=ih
  refine⟨?_,?_⟩
  ·intro R P dp a c A k h0 h1 h2 h3 hd hk
   rw[CW]
   unfold ig
   have key:∀(n:Nat)(a2 c2 A2:Int)(out:List State),Rd l a c a2 c2 (aV out)→(c2=0→nM out)→(out.length:Int)≤a2→(l.length-a2).toNat<n →
     Ok P (eO (aA N d) N dp l (fun(y49:Int)(y50:Int)(y51:Int)(y52:List State)=>k y52 y49 y50 y51) (fun(y53:Int)(y54:Int)(y55:Int)=>k ([]:List State) y53 y54 y55) n a2 c2 A2 out):=by
    intro n
    induction n with
    |zero=>intro a2 c2 A2 out ⟨q1,q2,q3⟩ _ _ _;omega
    |succ n ihn=>
     intro a2 c2 A2 out ⟨q1,q2,q3⟩ qo q4 q5
     rw[eO]
     unfold lx
     have or2:∀(b:Bool)(w:ae),(b=true→c2=0∧a2+1<l.length)→Ok (fun b'=>b'=true→c2=0∧a2+1<l.length) (ifB b false (bf N w l a2 c2 A2 (fun r=>some r)) (some true)):=by
      intro b w hb
      exact Ok.ib (fun _=>is9 hl (by omega) q2 _ fun b hb=>Ok.s hb) fun h=>Ok.s fun _=>hb (by simpa using h)
     refine is9 hl (by omega) q2 _ fun b hb=>Ok.b (or2 b _ hb) fun b hb=>Ok.b (or2 b _ hb) fun b hb=>Ok.b (or2 b _ hb) fun b hb=>Ok.i (fun h=>?_) fun h=>?_
     ·obtain⟨hc,hlt⟩:=hb h
      obtain⟨hc0,hs⟩:=q3 hc
      have ho:=qo hc
      refine Ok.i (fun h=>fh (by omega) q2 fun t _=>hk _ _ _ _ ⟨by omega,q2,fun h=>absurd h (by decide)⟩ fun h=>absurd h (by decide)) fun hdp=>?_
      have hdp:dp≤12:=by simpa using hdp
      refine is9 hl (by omega) q2 _ fun b hb=>Ok.b (or2 b _ hb) fun b hb=>?_
      have fin:∀K s en ex tr kids A a3 c3 A3,a2+1≤a3→Rd l a2 c2 a3 c3 (szS ⟨K,s,en,ex,tr,kids,A⟩)→(c3=0→okS ⟨K,s,en,ex,tr,kids,A⟩) →
        Ok P (if out.length+[(⟨K,s,en,ex,tr,kids,A⟩:State)].length≤ah then(eO (aA N d) N dp l (fun(y49:Int)(y50:Int)(y51:Int)(y52:List State)=>k y52 y49 y50 y51) (fun(y53:Int)(y54:Int)(y55:Int)=>k ([]:List State) y53 y54 y55) n a3 c3 A3 (out++[(⟨K,s,en,ex,tr,kids,A⟩:State)])) else none):=by
       intro K s en ex tr kids A a3 c3 A3 u0 ⟨u1,u2,u3⟩ uo
       refine Ok.g (by simp[ah];omega) (ihn _ _ _ _ ⟨by omega,u2,fun h=>?_⟩ (fun h=>?_) (by simp;omega) (by omega))
       ·have:=(u3 h).2
        refine⟨hc0,?_⟩
        rw[Bg];simp only[aV];omega
       ·rw[VX];exact⟨ho,uo h,trivial⟩
      unfold nN
      refine Ok.i (fun _=>?_) fun _=>?_
      ·exact Wb hl hN (by omega) hlt fun K s en ex tr kids A a3 c3 A3 u0 u uo=>fin _ _ _ _ _ _ _ _ _ _ u0 u uo
      ·exact iht R P dp a2 c2 A2 _ (by omega) hlt (by omega) hdp (by omega) fun K s en ex tr kids A a3 c3 A3 u0 u uo=>fin _ _ _ _ _ _ _ _ _ _ u0 u uo
     ·exact hk _ _ _ _ ⟨q1,q2,q3⟩ qo
   exact key N a c A [] ⟨by omega,h1,fun h=>⟨h,by simp[aV]⟩⟩ (fun _=>trivial) (by simpa using h0) (by omega)
  ·intro R P dp a c A k h0 h1 h2 h3 hd hk
   rw[DS]
   unfold iZ
   have am:eY []=0:=by simp[eY]
   have c13:∀{a1 c1 A1:Int} {x1 x2 x3 x4 x5 x6 x7 x8} {kp0:Int→Int→Int→(List State)→(List Trans)→ab R},0≤a1→a1<l.length→(∀a' c' A' ks ts,Rd l a1 c1 a' c' (aV ks+rq ts)→(c'=0→nM ks)→Ok P (kp0 a' c' A' ks ts))→Ok P (gG (aA N d) N dp l a1 c1 A1 x1 x2 x3 x4 x5 x6 x7 x8 kp0):=by
    intro a1 c1 A1 x1 x2 x3 x4 x5 x6 x7 x8 kp0 q1 q2 e
    unfold gG
    have key:∀(kp:Int→Int→Int→List Trans→ab R),(∀a' c' A' ts,Rd l a1 c1 a' c' (rq ts)→Ok P (kp a' c' A' ts))→∀(n:Nat)(a2 c2 A2:Int)(out:List Trans),Rd l a1 c1 a2 c2 (rq out)→(out.length:Int)≤a2+1→(c2=0→(out.length:Int)≤a2)→(l.length-a2).toNat+(if c2=0 then 1 else 0)<n →
      Ok P (ij (aA N d) N dp l x1 x2 x3 x4 x5 x6 x7 x8 kp n a2 c2 A2 out):=by
     intro kp ek n
     induction n with
     |zero=>intro a2 c2 A2 out ⟨q1,q2,q3⟩ _ _ _;omega
     |succ n ihn=>
      intro a2 c2 A2 out ⟨u1,u2,u3⟩ q4 q4' q5
      rw[ij]
      unfold mb
      refine is9 hl (by omega) u2 _ fun b hb=>Ok.b (Q:=fun b=>b=true→c2=0∧a2+1<l.length) (Ok.ib (fun _=>is9 hl (by omega) u2 _ fun b hb=>Ok.s hb) fun h=>Ok.s fun _=>hb (by simpa using h)) fun b hb=>Ok.i (fun h=>?_) fun h=>ek _ _ _ _ ⟨u1,u2,u3⟩
      obtain⟨hc,_⟩:=hb h
      obtain⟨hc0,hs⟩:=u3 hc
      have q4'':=q4' hc
      refine YY hl hN (by omega) u2 fun e g t x A a3 c3 A3 ⟨v1,v2,v3⟩=>Ok.g (by simp[ah];omega) (ihn _ _ _ _ ⟨by omega,v2,fun h=>?_⟩ (by simp;omega) (fun h=>?_) ?_)
      ·have:=(v3 h).2
       refine⟨hc0,?_⟩
       rw[VW];simp only[rq];omega
      ·have:=(v3 h).2
       have p1:=ep g;have p2:=bs x
       simp only[szT]at this
       simp;omega
      ·rw[hc]at q5
       simp only[if_true]at q5
       split
       ·rename_i h
        have:=(v3 h).2
        have p1:=ep g;have p2:=bs x
        simp only[szT]at this
        omega
       ·omega
    refine key _ (fun a2 c2 A2 ts ⟨u1,u2,u3⟩=>?_) N a1 c1 A1 [] ⟨by omega,q2,fun h=>⟨h,by simp[rq]⟩⟩ (by simp;omega) (fun _=>by simp;omega) (by split<;>omega)
    rw[wr _ (by omega) (by omega)]
    refine ihs R P (dp+1) a2 c2 A2 _ (by omega) u2 (by omega) (by omega) (by omega) fun x a3 c3 A3 ⟨v1,v2,v3⟩ vo=>w9 hl (by omega) v2 _ fun a4 c4 A4 ⟨w1,w2,w3⟩=>e _ _ _ _ _ ⟨by omega,w2,fun h=>?_⟩ fun h=>vo (w3 h).1
    obtain⟨y1,y2⟩:=w3 h;obtain⟨y3,y4⟩:=v3 y1;obtain⟨y5,y6⟩:=u3 y3
    exact⟨y5,by omega⟩
   have c10:∀{a1 c1 A1:Int} {x1 x2 x3 x4 x5 x6 x7} {kp0:Int→Int→Int→(List Act)→(List State)→(List Trans)→ab R},0≤a1→a1<l.length→(∀a' c' A' ex ks ts,Rd l a1 c1 a' c' (eY ex+aV ks+rq ts)→(c'=0→nM ks)→Ok P (kp0 a' c' A' ex ks ts))→Ok P (gH (aA N d) N dp l a1 c1 A1 x1 x2 x3 x4 x5 x6 x7 kp0):=by
    intro a1 c1 A1 x1 x2 x3 x4 x5 x6 x7 kp0 q1 q2 e
    unfold gH
    refine is9 hl q1 q2 _ fun b hb=>Ok.i (fun h=>?_) fun h=>?_
    ·obtain⟨hc,hb⟩:=hb h
     rw[wr1 hl q1 q2]
     refine QU hl hN (by omega) hb fun x a2 c2 A2 ⟨v1,v2,v3⟩=>c13 (by omega) v2 fun a3 c3 A3 ks ts ⟨w1,w2,w3⟩ wo=>e _ _ _ _ _ _ ⟨by omega,w2,fun h=>?_⟩ wo
     obtain⟨y1,y2⟩:=w3 h;obtain⟨y3,y4⟩:=v3 y1
     exact⟨hc,by omega⟩
    ·refine c13 q1 q2 fun a3 c3 A3 ks ts ⟨w1,w2,w3⟩ wo=>e _ _ _ _ _ _ ⟨by omega,w2,fun h=>?_⟩ wo
     obtain⟨y1,y2⟩:=w3 h
     rw[am];exact⟨y1,by omega⟩
   have c4:∀{x1 x2 x3 x4 x5 x6} {kp0:Int→Int→Int→ae→(List Act)→(List Act)→(List State)→(List Trans)→ab R},(∀a' c' A' s en ex ks ts,a+1≤a'→Rd l a c a' c' (1+eY en+eY ex+aV ks+rq ts)→(c'=0→nM ks)→Ok P (kp0 a' c' A' s en ex ks ts))→Ok P (ik (aA N d) N dp l a c A x1 x2 x3 x4 x5 x6 kp0):=by
    intro x1 x2 x3 x4 x5 x6 kp0 e
    unfold ik
    rw[wr1 hl h0 (by omega)]
    refine nm9 hl (by omega) (by omega) h1 fun s a1 c1 A1 ⟨r1,r2,r3⟩=>w9 hl (by omega) r2 _ fun a2 c2 A2 ⟨s1,s2,s3⟩=>is9 hl (by omega) s2 _ fun b hb=>Ok.i (fun h=>?_) fun h=>?_
    ·obtain⟨hc,hb⟩:=hb h
     rw[wr1 hl (by omega) s2]
     refine QU hl hN (by omega) hb fun x a3 c3 A3 ⟨v1,v2,v3⟩=>c10 (by omega) v2 fun a4 c4 A4 ex ks ts ⟨w1,w2,w3⟩ wo=>e _ _ _ _ _ _ _ _ (by omega) ⟨by omega,w2,fun h=>?_⟩ wo
     obtain⟨y1,y2⟩:=w3 h;obtain⟨y3,y4⟩:=v3 y1;obtain⟨y5,y6⟩:=s3 hc;obtain⟨y7,y8⟩:=r3 y5
     exact⟨y7,by omega⟩
    ·refine c10 (by omega) s2 fun a4 c4 A4 ex ks ts ⟨w1,w2,w3⟩ wo=>e _ _ _ _ _ _ _ _ (by omega) ⟨by omega,w2,fun h=>?_⟩ wo
     obtain⟨y1,y2⟩:=w3 h;obtain⟨y5,y6⟩:=s3 y1;obtain⟨y7,y8⟩:=r3 y5
     rw[am];exact⟨y7,by omega⟩
   refine fh h0 (by omega) fun t _=>is9 hl h0 (by omega) _ fun b hb=>Ok.i (fun h=>?_) fun h=>?_
   ·refine c4 fun a' c' A' s en ex ks ts u0 ⟨u1,u2,u3⟩ uo=>hk _ _ _ _ _ _ _ _ _ _ u0 ⟨u1,u2,fun h=>?_⟩ fun h=>?_
    ·obtain⟨y1,y2⟩:=u3 h;rw[xI];exact⟨y1,by omega⟩
    ·simp[okS,uo h]
   ·refine c4 fun a' c' A' s en ex ks ts u0 ⟨u1,u2,u3⟩ uo=>hk _ _ _ _ _ _ _ _ _ _ u0 ⟨u1,u2,fun h=>?_⟩ fun h=>?_
    ·obtain⟨y1,y2⟩:=u3 h;rw[xI];exact⟨y1,by omega⟩
    ·simp[okS,uo h]
def IB(c:Chart):Prop:=(c.Vars.length:Int)≤16385∧(c.Ports.length:Int)≤16385∧(c.Timers.length:Int)≤16385∧aV c.States≤16385∧nM c.States
theorem YZ(hl:iK l)(hN:16500<N){a:Int}(h0:0≤a)(h1:a<l.length){k:ae→Int→Int→(List ai)→(List ai)→(List ai)→(List State)→Int→Int→Int→Int→ab R}(hk:∀s st fu va po ti ss A a' c' A',(c'=0→Gd l a a' 1∧IB ⟨s,st,fu,va,po,ti,ss,A⟩)→Ok P (k s st fu va po ti ss A a' c' A')):Ok P (Fy N l a k):=by
 have hm:=hl.most
 unfold Fy
 refine fh h0 h1 fun t _=>w9 hl h0 h1 _ fun a1 c1 A1 ⟨r1,r2,r3⟩=>nm9 hl (by omega) (by omega) r2 fun s a2 c2 A2 ⟨s1,s2,s3⟩=>w9 hl (by omega) s2 _ fun a3 c3 A3 ⟨t1,t2,t3⟩=>nu9 hl (by omega) t2 fun st a4 c4 A4 ⟨u1,u2,u3⟩=>w9 hl (by omega) u2 _ fun a5 c5 A5 ⟨v1,v2,v3⟩=>?_
 unfold Bn
 refine nu9 hl (by omega) v2 fun fu a6 c6 A6 ⟨w1,w2,w3⟩=>w9 hl (by omega) w2 _ fun a7 c7 A7 ⟨x1,x2,x3⟩=>QT hl hN _ (by omega) x2 fun va a8 c8 A8 ⟨y1,y2,y3⟩ lv=>QT hl hN _ (by omega) y2 fun po a9 c9 A9 ⟨z1,z2,z3⟩ lp=>QT hl hN _ (by omega) z2 fun ti a10 c10 A10 ⟨q1,q2,q3⟩ lt=>?_
 unfold zH r9_reader_states
 refine(Ug hl hN N).1 R P 1 a10 c10 A10 _ (by omega) q2 (by omega) (by omega) (by omega) fun ss a11 c11 A11 ⟨e1,e2,e3⟩ eo=>w9 hl (by omega) e2 _ fun a12 c12 A12 ⟨f1,f2,f3⟩=>Ok.i (fun h=>?_) fun h=>?_
 ·exact hk _ _ _ _ _ _ _ _ _ _ _ fun h'=>absurd h' (by simpa using h)
 ·obtain⟨g1,g2⟩:=f3 (by simpa using h)
  obtain⟨g3,g4⟩:=e3 g1
  refine hk _ _ _ _ _ _ _ _ _ _ _ fun _=>⟨⟨?_,f2⟩,?_⟩
  ·have:=bR ss
   omega
  ·refine⟨?_,?_,?_,?_,eo g1⟩<;>(simp only;omega)
end
def B:Int:=16386
def DH(x:List (List ae)):Prop:=(x.length:Int)≤B∧∀r∈x,(r.length:Int)≤B
def vb(c:Cell):Prop:=DH c.Sets∧DH c.Msgs
def Bh(x:Cert):Prop:=(x.Insts.length:Int)≤B∧(x.Chans.length:Int)≤B∧(x.Cells.length:Int)≤B∧∀c∈x.Cells,vb c
def Wc(s:System):Prop:=(s.Charts.length:Int)≤B∧(s.Insts.length:Int)≤B∧(s.Chans.length:Int)≤B∧(s.Certs.length:Int)≤B∧(∀c∈s.Charts,IB c)∧∀x∈s.Certs,Bh x
section
variable{R:Type}{P:R→Prop}{l:List Token}{N:Nat}
theorem MN{a c A:Int}(h0:0≤a)(h1:a<l.length){k:Int→ab R}(hk:∀x,Ok P (k x)):Ok P (gy N l a c A k):=by
 unfold gy
 exact fh h0 h1 fun t _=>hk _
theorem JE{n m a c A:Int}(h0:0≤a)(h1:a<l.length){k:Bool→Int→Int→ab R}(hk:∀b c' A',(b=false→c=0∧c'=0)→(c'=0→c=0)→Ok P (k b c' A')):Ok P (eU N n m l a c A k):=by
 unfold eU jW
 refine Ok.b (Q:=fun _=>True) (Ok.ib (fun _=>Ok.s trivial) fun _=>Ok.s trivial) fun b _=>Ok.i (fun h=>fh h0 h1 fun t _=>hk _ _ _ (fun h=>by simp at h) fun h=>absurd h (by decide)) fun h=>hk _ _ _ (fun h=>?_) fun h=>h
 have:c=0:=by simpa using h
 exact⟨this,this⟩
theorem Za(hl:iK l)(hN:16500<N){a c A:Int}(h0:0≤a)(h1:a+1<l.length){k:ae→ae→Int→Int→Int→Int→Int→Int→Int→ab R}(hk:∀n ch q e p at_ a' c' A',a+1≤a'→a'<l.length→(c'=0→c=0)→Ok P (k n ch q e p at_ a' c' A')):Ok P (oE N l a c A k):=by
 unfold oE
 refine MN h0 (by omega) fun x=>?_
 rw[wr1 hl h0 (by omega)]
 refine DG hl (by omega) (by omega) h1 fun s a1 c1 A1 ⟨r1,r2,r3⟩=>w10 hl (by omega) r2 _ fun a2 c2 A2 ⟨s1,s2,s3⟩=>DG hl (by omega) (by omega) s2 fun t a3 c3 A3 ⟨t1,t2,t3⟩=>w10 hl (by omega) t2 _ fun a4 c4 A4 ⟨u1,u2,u3⟩=>?_
 unfold oV
 refine QR hl (by omega) u2 fun q a5 c5 A5 ⟨v1,v2,v3⟩=>w10 hl (by omega) v2 _ fun a6 c6 A6 ⟨w1,w2,w3⟩=>QR hl (by omega) w2 fun e a7 c7 A7 ⟨x1,x2,x3⟩=>w10 hl (by omega) x2 _ fun a8 c8 A8 ⟨y1,y2,y3⟩=>QR hl (by omega) y2 fun p a9 c9 A9 ⟨z1,z2,z3⟩=>w10 hl (by omega) z2 _ fun a0 c0 A0 ⟨q1,q2,q3⟩=>hk _ _ _ _ _ _ _ _ _ (by omega) q2 fun h=>?_
 exact(r3 (s3 (t3 (u3 (v3 (w3 (x3 (y3 (z3 (q3 h).1).1).1).1).1).1).1).1).1).1
theorem Zb(hl:iK l)(hN:16500<N){a c A:Int}(h0:0≤a)(h1:a+1<l.length){k:ae→ae→ae→ae→Int→Int→Int→Int→Int→Int→ab R}(hk:∀n f p t q e at_ a' c' A',a+1≤a'→a'<l.length→(c'=0→c=0)→Ok P (k n f p t q e at_ a' c' A')):Ok P (kb N l a c A k):=by
 unfold kb
 refine MN h0 (by omega) fun x=>?_
 rw[wr1 hl h0 (by omega)]
 refine DG hl (by omega) (by omega) h1 fun s a1 c1 A1 ⟨r1,r2,r3⟩=>w10 hl (by omega) r2 _ fun a2 c2 A2 ⟨s1,s2,s3⟩=>DG hl (by omega) (by omega) s2 fun t a3 c3 A3 ⟨t1,t2,t3⟩=>w10 hl (by omega) t2 _ fun a4 c4 A4 ⟨u1,u2,u3⟩=>?_
 unfold ly
 refine DG hl (by omega) (by omega) u2 fun q a5 c5 A5 ⟨v1,v2,v3⟩=>w10 hl (by omega) v2 _ fun a6 c6 A6 ⟨w1,w2,w3⟩=>DG hl (by omega) (by omega) w2 fun e a7 c7 A7 ⟨x1,x2,x3⟩=>w10 hl (by omega) x2 _ fun a8 c8 A8 ⟨y1,y2,y3⟩=>QR hl (by omega) y2 fun p a9 c9 A9 ⟨z1,z2,z3⟩=>?_
 unfold ka
 refine w10 hl (by omega) z2 _ fun b1 d1 B1 ⟨k1,k2,k3⟩=>QR hl (by omega) k2 fun p a10 c10 A10 ⟨j1,j2,j3⟩=>w10 hl (by omega) j2 _ fun a0 c0 A0 ⟨q1,q2,q3⟩=>hk _ _ _ _ _ _ _ _ _ _ (by omega) q2 fun h=>?_
 exact(r3 (s3 (t3 (u3 (v3 (w3 (x3 (y3 (z3 (k3 (j3 (q3 h).1).1).1).1).1).1).1).1).1).1).1).1
theorem Ta(hl:iK l)(hN:16500<N){a c A:Int}(h0:0≤a)(h1:a<l.length){k:(List ae)→Int→Int→Int→ab R}(hk:∀x a' c' A',a≤a'→a'<l.length→(c'=0→c=0)→(x.length:Int)≤a'+1→Ok P (k x a' c' A')):Ok P (jE N l a c A k):=by
 have hm:=hl.most
 unfold jE
 refine DG hl (by omega) h0 h1 fun s a1 c1 A1 ⟨r1,r2,r3⟩=>?_
 have key:∀(n:Nat)(a2 c2 A2:Int)(out:List ae),a≤a2→a2<l.length→(c2=0→c=0)→(out.length:Int)≤a2+1→(l.length-a2).toNat<n→Ok P (gI N l (fun(y15:Int)(y16:Int)(y17:Int)(y18:List ae)=>k y18 y15 y16 y17) n a2 c2 A2 out):=by
  intro n
  induction n with
  |zero=>intros;omega
  |succ n ihn=>
   intro a2 c2 A2 out q1 q2 q3 q4 q5
   rw[gI]
   unfold lz
   refine IA hl (by omega) q2 _ fun b hb=>Ok.i (fun h=>?_) fun h=>hk _ _ _ _ q1 q2 q3 q4
   obtain⟨hc,hb⟩:=hb h
   rw[wr1 hl (by omega) q2]
   exact DG hl (by omega) (by omega) hb fun s a3 c3 A3 ⟨r1,r2,r3⟩=>Ok.g (by simp[ah];omega) (ihn _ _ _ _ (by omega) r2 (fun h=>q3 (r3 h).1) (by simp;omega) (by omega))
 exact key N _ _ _ _ r1 r2 (fun h=>(r3 h).1) (by simp;omega) (by omega)
theorem YA(hl:iK l)(hN:16500<N){a c A:Int}(h0:0≤a)(h1:a<l.length){k:(List ae)→Int→Int→Int→ab R}(hk:∀x a' c' A',a≤a'→a'<l.length→(c'=0→c=0)→(x.length:Int)≤B→Ok P (k x a' c' A')):Ok P (mc N l a c A k):=by
 have hm:=hl.most
 have hB:B=16386:=rfl
 unfold mc
 refine IA hl h0 h1 _ fun b hb=>Ok.i (fun h=>?_) fun h=>?_
 ·rw[wr1 hl h0 h1]
  exact hk _ _ _ _ (by omega) (hb h).2 (fun h=>h) (by simp[B])
 refine DG hl (by omega) h0 h1 fun s a1 c1 A1 ⟨r1,r2,r3⟩=>?_
 have key:∀(n:Nat)(a2 c2 A2:Int)(out:List ae),a≤a2→a2<l.length→(c2=0→c=0)→(out.length:Int)≤a2+1→(l.length-a2).toNat<n→Ok P (ja N l (fun(y15:Int)(y16:Int)(y17:Int)(y18:List ae)=>k y18 y15 y16 y17) n a2 c2 A2 out):=by
  intro n
  induction n with
  |zero=>intros;omega
  |succ n ihn=>
   intro a2 c2 A2 out q1 q2 q3 q4 q5
   rw[ja]
   unfold nO
   refine IA hl (by omega) q2 _ fun b hb=>Ok.i (fun h=>?_) fun h=>hk _ _ _ _ q1 q2 q3 (by omega)
   obtain⟨hc,hb⟩:=hb h
   rw[wr1 hl (by omega) q2]
   exact DG hl (by omega) (by omega) hb fun s a3 c3 A3 ⟨r1,r2,r3⟩=>Ok.g (by simp[ah];omega) (ihn _ _ _ _ (by omega) r2 (fun h=>q3 (r3 h).1) (by simp;omega) (by omega))
 exact key N _ _ _ _ r1 r2 (fun h=>(r3 h).1) (by simp;omega) (by omega)
theorem JF{x:List (List ae)}{r:List ae}(h:∀r∈x,(r.length:Int)≤B)(hr:(r.length:Int)≤B):∀q∈x++[r],(q.length:Int)≤B:=by
 intro q hq
 rcases List.mem_append.1 hq with h1|h1
 ·exact h q h1
 ·rw[List.mem_singleton.1 h1];exact hr
theorem Zc(hl:iK l)(hN:16500<N){a c A:Int}(h0:0≤a)(h1:a+1<l.length){k:Int→(List (List ae))→(List (List ae))→Int→Int→Int→Int→ab R}(hk:∀r s m A a' c' A',a+1≤a'→a'<l.length→(c'=0→c=0)→vb ⟨r,s,m,A⟩→Ok P (k r s m A a' c' A')):Ok P (oF N l a c A k):=by
 have hm:=hl.most
 have hB:B=16386:=rfl
 unfold oF
 refine MN h0 (by omega) fun x=>?_
 rw[wr1 hl h0 (by omega)]
 refine QR hl (by omega) h1 fun q a1 c1 A1 ⟨r1,r2,r3⟩=>w10 hl (by omega) r2 _ fun a2 c2 A2 ⟨s1,s2,s3⟩=>YA hl hN (by omega) s2 fun st a3 c3 A3 t1 t2 t3 ts=>Ok.g (by simp[ah]) ?_
 have k0:∀(kp:Int→Int→Int→List (List ae)→ab R),(∀a' c' A' o,a+1≤a'→a'<l.length→(c'=0→c=0)→DH o→Ok P (kp a' c' A' o))→∀x3 x4,∀(n:Nat)(a2 c2 A2:Int)(out:List (List ae)),a+1≤a2→a2<l.length→(c2=0→c=0)→(out.length:Int)≤a2+1→(∀r∈out,(r.length:Int)≤B)→(l.length-a2).toNat<n →
   Ok P (im N l 0 0 x3 x4 kp n a2 c2 A2 out):=by
  intro kp ek x3 x4 n
  induction n with
  |zero=>intros;omega
  |succ n ihn=>
   intro a2 c2 A2 out q1 q2 q3 q4 qr q5
   rw[im]
   unfold me
   refine IA hl (by omega) q2 _ fun b hb=>Ok.i (fun h=>?_) fun h=>ek _ _ _ _ q1 q2 q3 ⟨by omega,qr⟩
   obtain⟨hc,hb⟩:=hb h
   rw[wr1 hl (by omega) q2]
   refine YA hl hN (by omega) hb fun st a3 c3 A3 t1 t2 t3 ts=>Ok.g (by simp[ah];omega) (ihn _ _ _ _ (by omega) t2 (fun h=>q3 (t3 h)) (by simp;omega) (JF qr ts) (by omega))
 have k4:∀(kp:Int→Int→Int→List ae→ab R)(a9:Int),(∀a' c' A' o,a9≤a'→a'<l.length→(c'=0→c=0)→(o.length:Int)≤B→Ok P (kp a' c' A' o))→∀x3 x4 o1 o2,∀(n:Nat)(a2 c2 A2:Int)(out:List ae),0≤a2→a9≤a2→a2<l.length→(c2=0→c=0)→(out.length:Int)≤a2+1→(c2=0→(out.length:Int)≤a2)→(l.length-a2).toNat+(if c2=0 then 1 else 0)<n →
   Ok P (iq N l 0 0 x3 x4 o1 o2 kp n a2 c2 A2 out):=by
  intro kp a9 ek x3 x4 o1 o2 n
  induction n with
  |zero=>intros;omega
  |succ n ihn=>
   intro a2 c2 A2 out q0 q1 q2 q3 q4 q4' q5
   rw[iq]
   unfold mf
   refine Ok.b (Q:=fun b=>b=true→c2=0) (Ok.ib (fun h=>IA hl (by omega) q2 _ fun b hb=>Ok.s fun _=>by simpa using h) fun _=>Ok.s (by simp)) fun b hb=>Ok.i (fun h=>?_) fun h=>ek _ _ _ _ q1 q2 q3 (by omega)
   have hc:=hb h
   have:=q4' hc
   rw[hc]at q5
   simp only[if_true]at q5
   refine DG hl (by omega) q0 q2 fun s a3 c3 A3 ⟨r1,r2,r3⟩=>Ok.g (by simp[ah];omega) (ihn _ _ _ _ (by omega) (by omega) r2 (fun h=>q3 (r3 h).1) (by simp;omega) (fun h=>?_) ?_)
   ·have:=(r3 h).2;simp;omega
   ·split
    ·rename_i h;have:=(r3 h).2;omega
    ·omega
 have k2:∀(kp:Int→Int→Int→List (List ae)→ab R),(∀a' c' A' o,a+1≤a'→a'<l.length→(c'=0→c=0)→DH o→Ok P (kp a' c' A' o))→∀x3 x4 o1,∀(n:Nat)(a2 c2 A2:Int)(out:List (List ae)),a+1≤a2→a2<l.length→(c2=0→c=0)→(out.length:Int)≤a2→(∀r∈out,(r.length:Int)≤B)→(l.length-a2).toNat<n →
   Ok P (ir N l 0 0 x3 x4 o1 kp n a2 c2 A2 out):=by
  intro kp ek x3 x4 o1 n
  induction n with
  |zero=>intros;omega
  |succ n ihn=>
   intro a2 c2 A2 out q1 q2 q3 q4 qr q5
   rw[ir]
   unfold mg
   refine IA hl (by omega) q2 _ fun b hb=>Ok.i (fun h=>?_) fun h=>ek _ _ _ _ q1 q2 q3 ⟨by omega,qr⟩
   obtain⟨hc,hb⟩:=hb h
   rw[wr1 hl (by omega) q2]
   refine k4 _ (a2+1) (fun a3 c3 A3 o u1 u2 u3 uo=>?_) _ _ _ _ N (a2+1) c2 A2 [] (by omega) (by omega) hb q3 (by simp;omega) (fun _=>by simp;omega) (by split<;>omega)
   refine w10 hl (by omega) u2 _ fun a4 c4 A4 ⟨v1,v2,v3⟩=>Ok.g (by simp[ah];omega) (ihn _ _ _ _ (by omega) v2 (fun h=>u3 (v3 h).1) (by simp;omega) (JF qr uo) (by omega))
 refine k0 _ (fun a4 c4 A4 o u1 u2 u3 uo=>?_) _ _ N _ _ _ _ (by omega) t2 (fun h=>(r3 (s3 (t3 h)).1).1) (by simp;omega) (fun r hr=>by rw[List.mem_singleton.1 hr];exact ts) (by omega)
 refine w10 hl (by omega) u2 _ fun a5 c5 A5 ⟨v1,v2,v3⟩=>k2 _ (fun a6 c6 A6 o2 w1 w2 w3 wo=>?_) _ _ _ N _ _ _ _ (by omega) v2 (fun h=>u3 (v3 h).1) (by simp;omega) (by simp) (by omega)
 refine w10 hl (by omega) w2 _ fun a7 c7 A7 ⟨x1,x2,x3⟩=>hk _ _ _ _ _ _ _ (by omega) x2 (fun h=>w3 (x3 h).1) ⟨uo,wo⟩
theorem Zd(hl:iK l)(hN:16500<N){a c A:Int}(h0:0≤a)(h1:a+1<l.length){k:ae→ae→ae→ae→(List ae)→(List ae)→(List Cell)→Int→Int→Int→Int→ab R}(hk:∀n i q p ins chs cs A a' c' A',a+1≤a'→a'<l.length→(c'=0→c=0)→Bh ⟨n,i,q,p,ins,chs,cs,A⟩→Ok P (k n i q p ins chs cs A a' c' A')):Ok P (oG N l a c A k):=by
 have hm:=hl.most
 have hB:B=16386:=rfl
 have k0:∀(kp:Int→Int→Int→List Cell→ab R),(∀a' c' A' o,a+1≤a'→a'<l.length→(c'=0→c=0)→(o.length:Int)≤B→(∀x∈o,vb x)→Ok P (kp a' c' A' o))→∀x1 x2 x3 x4 x5 x6 x7 x8 x9 x10 x11 x12,∀(n:Nat)(a2 c2 A2:Int)(out:List Cell),a+1≤a2→a2<l.length→(c2=0→c=0)→(out.length:Int)≤a2→(∀r∈out,vb r)→(l.length-a2).toNat<n →
   Ok P (iu N l x1 x2 x3 x4 x5 x6 x7 x8 x9 x10 x11 x12 kp n a2 c2 A2 out):=by
  intro kp ek x1 x2 x3 x4 x5 x6 x7 x8 x9 x10 x11 x12 n
  induction n with
  |zero=>intros;omega
  |succ n ihn=>
   intro a2 c2 A2 out q1 q2 q3 q4 qr q5
   rw[iu]
   unfold mh
   refine IA hl (by omega) q2 _ fun b hb=>Ok.i (fun h=>?_) fun h=>ek _ _ _ _ q1 q2 q3 (by omega) qr
   obtain⟨hc,hb⟩:=hb (by simpa using h)
   refine JE (by omega) q2 fun b c3 A3 m1 m2=>Ok.i (fun h=>?_) fun h=>ek _ _ _ _ q1 q2 (fun h=>q3 (m2 h)) (by omega) qr
   refine Zc hl hN (by omega) hb fun r s m A a4 c4 A4 t1 t2 t3 tc=>Ok.g (by simp[ah];omega) (ihn _ _ _ _ (by omega) t2 (fun h=>q3 (m2 (t3 h))) (by simp;omega) (fun x hx=>?_) (by omega))
   rcases List.mem_append.1 hx with h1|h1
   ·exact qr x h1
   ·rw[List.mem_singleton.1 h1];exact tc
 have c18:∀{a1 c1 A1:Int} {x1 x2 x3 x4 x5 x6 x7 x8 x9 x10 x11 x12} {kp0:Int→Int→Int→(List Cell)→ab R},a+1≤a1→a1<l.length→(c1=0→c=0)→(∀a' c' A' o,a+1≤a'→a'<l.length→(c'=0→c=0)→(o.length:Int)≤B→(∀x∈o,vb x)→Ok P (kp0 a' c' A' o))→Ok P (gJ N l a1 c1 A1 x1 x2 x3 x4 x5 x6 x7 x8 x9 x10 x11 x12 kp0):=by
  intro a1 c1 A1 x1 x2 x3 x4 x5 x6 x7 x8 x9 x10 x11 x12 kp0 q1 q2 q3 e
  unfold gJ
  refine k0 _ (fun a2 c2 A2 o u1 u2 u3 u4 u5=>?_) _ _ _ _ _ _ _ _ _ _ _ _ N _ _ _ _ q1 q2 q3 (by simp;omega) (by simp) (by omega)
  exact w10 hl (by omega) u2 _ fun a3 c3 A3 ⟨v1,v2,v3⟩=>e _ _ _ _ (by omega) v2 (fun h=>u3 (v3 h).1) u4 u5
 unfold oG
 refine MN h0 (by omega) fun x=>?_
 rw[wr1 hl h0 (by omega)]
 refine DG hl (by omega) (by omega) h1 fun s a1 c1 A1 ⟨r1,r2,r3⟩=>w10 hl (by omega) r2 _ fun a2 c2 A2 ⟨s1,s2,s3⟩=>DG hl (by omega) (by omega) s2 fun t a3 c3 A3 ⟨t1,t2,t3⟩=>w10 hl (by omega) t2 _ fun a4 c4 A4 ⟨u1,u2,u3⟩=>?_
 unfold oW
 refine DG hl (by omega) (by omega) u2 fun q a5 c5 A5 ⟨v1,v2,v3⟩=>w10 hl (by omega) v2 _ fun a6 c6 A6 ⟨w1,w2,w3⟩=>DG hl (by omega) (by omega) w2 fun e a7 c7 A7 ⟨x1,x2,x3⟩=>w10 hl (by omega) x2 _ fun a8 c8 A8 ⟨y1,y2,y3⟩=>w10 hl (by omega) y2 _ fun a9 c9 A9 ⟨z1,z2,z3⟩=>?_
 have hc9:c9=0→c=0:=fun h=>(r3 (s3 (t3 (u3 (v3 (w3 (x3 (y3 (z3 h).1).1).1).1).1).1).1).1).1
 unfold nP
 refine Ta hl hN (by omega) z2 fun ins b1 d1 B1 e1 e2 e3 e4=>w10 hl (by omega) e2 _ fun b2 d2 B2 ⟨f1,f2,f3⟩=>IA hl (by omega) f2 _ fun b hb=>Ok.i (fun h=>?_) fun h=>?_
 ·rw[wr1 hl (by omega) f2]
  refine Ta hl hN (by omega) (hb h).2 fun chs b3 d3 B3 g1 g2 g3 g4=>w10 hl (by omega) g2 _ fun b4 d4 B4 ⟨i1,i2,i3⟩=>c18 (by omega) i2 (fun h=>hc9 (e3 (f3 (g3 (i3 h).1)).1)) fun a' c' A' o j1 j2 j3 j4 j5=>hk _ _ _ _ _ _ _ _ _ _ _ j1 j2 j3 ⟨by simp only;omega,by simp only;omega,j4,j5⟩
 ·exact c18 (by omega) f2 (fun h=>hc9 (e3 (f3 h).1)) fun a' c' A' o j1 j2 j3 j4 j5=>hk _ _ _ _ _ _ _ _ _ _ _ j1 j2 j3 ⟨by simp only;omega,by simp[B],j4,j5⟩
theorem XS(hl:iK l)(hN:16500<N){a c A:Int}(h0:0≤a)(h1:a<l.length){k:ae→Int→Int→(List ai)→(List ai)→(List ai)→(List State)→Int→Int→Int→Int→ab R}(hk:∀s st fu va po ti ss A a' c' A',a≤a'→a'<l.length→(c'=0→a+1≤a'∧IB ⟨s,st,fu,va,po,ti,ss,A⟩)→Ok P (k s st fu va po ti ss A a' c' A')):Ok P (mM N l a c A k):=by
 unfold mM
 refine YZ hl hN h0 h1 fun s st fu va po ti ss A a' c' A' g=>Ok.i (fun h=>?_) fun h=>?_
 ·obtain⟨⟨g1,g2⟩,g3⟩:=g (by simpa using h)
  exact hk _ _ _ _ _ _ _ _ _ _ _ (by omega) g2 fun _=>⟨by omega,g3⟩
 ·exact hk _ _ _ _ _ _ _ _ _ _ _ (by omega) h1 fun h'=>absurd h' (by simpa using h)
theorem XT(hN:16500<N)(text:ae){k:Int→(List Chart)→(List Inst)→(List ak)→(List Cert)→Int→Int→ab R}(hk:∀g cs is hs es c A,(c=0→Wc ⟨g,cs,is,hs,es⟩)→Ok P (k g cs is hs es c A)):Ok P (r10_Parse N text k):=by
 have hB:B=16386:=rfl
 unfold r10_Parse
 refine YU N text (by omega) _ fun l c A hl=>Ok.i (fun h=>hk _ _ _ _ _ _ _ fun h'=>absurd h' (by simpa using h)) fun h=>?_
 have hl:iK l:=hl (by simpa using h)
 have hm:=hl.most
 have h1:(0:Int)<l.length:=by obtain⟨ts,e,rfl,_⟩:=hl;simp only[List.length_append,List.length_singleton];omega
 refine w10 hl (by omega) h1 _ fun a1 c1 A1 ⟨r1,r2,r3⟩=>w10 hl (by omega) r2 _ fun a2 c2 A2 ⟨s1,s2,s3⟩=>QR hl (by omega) s2 fun g a3 c3 A3 ⟨t1,t2,t3⟩=>w10 hl (by omega) t2 _ fun a4 c4 A4 ⟨u1,u2,u3⟩=>?_
 unfold xK
 have k0:∀(kp:Int→Int→Int→List Chart→ab R),(∀(a' c' A':Int) o,0≤a'→a'<l.length→(o.length:Int)≤B→(c'=0→∀x∈o,IB x)→Ok P (kp a' c' A' o))→∀x1 x2 x3 x4,∀(n:Nat)(a2 c2 A2:Int)(out:List Chart),0≤a2→a2<l.length→(out.length:Int)≤a2+1→(c2=0→(out.length:Int)≤a2)→(c2=0→∀r∈out,IB r)→(l.length-a2).toNat+(if c2=0 then 1 else 0)<n →
   Ok P (pV N x1 x2 x3 l x4 kp n a2 c2 A2 out):=by
  intro kp ek x1 x2 x3 x4 n
  induction n with
  |zero=>intros;omega
  |succ n ihn=>
   intro a2 c2 A2 out q1 q2 q4 q4' qr q5
   rw[pV]
   unfold vq
   refine IA hl (by omega) q2 _ fun b hb=>Ok.i (fun h=>?_) fun h=>ek _ _ _ _ q1 q2 (by omega) qr
   obtain⟨hc,hb⟩:=hb (by simpa using h)
   have:=q4' hc
   have qr:=qr hc
   rw[hc]at q5
   simp only[if_true]at q5
   refine JE (by omega) q2 fun b c3 A3 m1 m2=>Ok.i (fun h=>?_) fun h=>ek _ _ _ _ q1 q2 (by omega) (fun _=>qr)
   refine XS hl hN (by omega) q2 fun s st fu va po ti ss A a4 c4 A4 t1 t2 t3=>Ok.g (by simp[ah];omega) (ihn _ _ _ _ (by omega) t2 (by simp;omega) (fun h=>?_) (fun h x hx=>?_) ?_)
   ·have:=(t3 h).1;simp;omega
   ·rcases List.mem_append.1 hx with h1|h1
    ·exact qr x h1
    ·rw[List.mem_singleton.1 h1];exact(t3 h).2
   ·split
    ·rename_i h;have:=(t3 h).1;omega
    ·omega
 have k2:∀(c0:Int)(kp:Int→Int→Int→List Inst→ab R),(∀(a' c' A':Int) o,0≤a'→a'<l.length→(c'=0→c0=0)→(o.length:Int)≤B→(∀x∈o,(fun _:Inst=>True) x)→Ok P (kp a' c' A' o))→∀x1 x2 x3 x4 x5,∀(n:Nat)(a2 c2 A2:Int)(out:List Inst),0≤a2→a2<l.length→(c2=0→c0=0)→(out.length:Int)≤a2→(∀r∈out,(fun _:Inst=>True) r)→(l.length-a2).toNat<n →
   Ok P (pW N x1 x2 x3 l x4 x5 kp n a2 c2 A2 out):=by
  intro c0 kp ek x1 x2 x3 x4 x5 n
  induction n with
  |zero=>intros;omega
  |succ n ihn=>
   intro a2 c2 A2 out q1 q2 q3 q4 qr q5
   rw[pW]
   unfold vr
   refine IA hl (by omega) q2 _ fun b hb=>Ok.i (fun h=>?_) fun h=>ek _ _ _ _ q1 q2 q3 (by omega) qr
   obtain⟨hc,hb⟩:=hb (by simpa using h)
   refine JE (by omega) q2 fun b c3 A3 m1 m2=>Ok.i (fun h=>?_) fun h=>ek _ _ _ _ q1 q2 (fun h=>q3 (m2 h)) (by omega) qr
   refine Za hl hN (by omega) hb fun n1 n2 n3 n4 n5 n6 a4 c4 A4 t1 t2 t3=>Ok.g (by simp[ah];omega) (ihn _ _ _ _ (by omega) t2 (fun h=>q3 (m2 (t3 h))) (by simp;omega) (fun x hx=>?_) (by omega))
   rcases List.mem_append.1 hx with h1|h1
   ·exact qr x h1
   ·trivial
 have k4:∀(c0:Int)(kp:Int→Int→Int→List ak→ab R),(∀(a' c' A':Int) o,0≤a'→a'<l.length→(c'=0→c0=0)→(o.length:Int)≤B→(∀x∈o,(fun _:ak=>True) x)→Ok P (kp a' c' A' o))→∀x1 x2 x3 x4 x5 x6,∀(n:Nat)(a2 c2 A2:Int)(out:List ak),0≤a2→a2<l.length→(c2=0→c0=0)→(out.length:Int)≤a2→(∀r∈out,(fun _:ak=>True) r)→(l.length-a2).toNat<n →
   Ok P (pX N x1 x2 x3 l x4 x5 x6 kp n a2 c2 A2 out):=by
  intro c0 kp ek x1 x2 x3 x4 x5 x6 n
  induction n with
  |zero=>intros;omega
  |succ n ihn=>
   intro a2 c2 A2 out q1 q2 q3 q4 qr q5
   rw[pX]
   unfold vt
   refine IA hl (by omega) q2 _ fun b hb=>Ok.i (fun h=>?_) fun h=>ek _ _ _ _ q1 q2 q3 (by omega) qr
   obtain⟨hc,hb⟩:=hb (by simpa using h)
   refine JE (by omega) q2 fun b c3 A3 m1 m2=>Ok.i (fun h=>?_) fun h=>ek _ _ _ _ q1 q2 (fun h=>q3 (m2 h)) (by omega) qr
   refine Zb hl hN (by omega) hb fun n1 n2 n3 n4 n5 n6 n7 a4 c4 A4 t1 t2 t3=>Ok.g (by simp[ah];omega) (ihn _ _ _ _ (by omega) t2 (fun h=>q3 (m2 (t3 h))) (by simp;omega) (fun x hx=>?_) (by omega))
   rcases List.mem_append.1 hx with h1|h1
   ·exact qr x h1
   ·trivial
 have k6:∀(c0:Int)(kp:Int→Int→Int→List Cert→ab R),(∀(a' c' A':Int) o,0≤a'→a'<l.length→(c'=0→c0=0)→(o.length:Int)≤B→(∀x∈o,Bh x)→Ok P (kp a' c' A' o))→∀x1 x2 x3 x4 x5 x6 x7,∀(n:Nat)(a2 c2 A2:Int)(out:List Cert),0≤a2→a2<l.length→(c2=0→c0=0)→(out.length:Int)≤a2→(∀r∈out,Bh r)→(l.length-a2).toNat<n →
   Ok P (pY N x1 x2 x3 l x4 x5 x6 x7 kp n a2 c2 A2 out):=by
  intro c0 kp ek x1 x2 x3 x4 x5 x6 x7 n
  induction n with
  |zero=>intros;omega
  |succ n ihn=>
   intro a2 c2 A2 out q1 q2 q3 q4 qr q5
   rw[pY]
   unfold vu
   refine IA hl (by omega) q2 _ fun b hb=>Ok.i (fun h=>?_) fun h=>ek _ _ _ _ q1 q2 q3 (by omega) qr
   obtain⟨hc,hb⟩:=hb (by simpa using h)
   refine JE (by omega) q2 fun b c3 A3 m1 m2=>Ok.i (fun h=>?_) fun h=>ek _ _ _ _ q1 q2 (fun h=>q3 (m2 h)) (by omega) qr
   refine Zd hl hN (by omega) hb fun n1 n2 n3 n4 n5 n6 n7 n8 a4 c4 A4 t1 t2 t3 tc=>Ok.g (by simp[ah];omega) (ihn _ _ _ _ (by omega) t2 (fun h=>q3 (m2 (t3 h))) (by simp;omega) (fun x hx=>?_) (by omega))
   rcases List.mem_append.1 hx with h1|h1
   ·exact qr x h1
   ·rw[List.mem_singleton.1 h1];exact tc
 refine k0 _ (fun a5 c5 A5 o1 v1 v2 v3 v4=>?_) _ _ _ _ N _ _ _ _ (by omega) u2 (by simp;omega) (fun h=>by simp;omega) (fun _=>by simp) (by split<;>omega)
 refine k2 c5 _ (fun a6 c6 A6 o2 w1 w2 w3 w4 _=>?_) _ _ _ _ _ N _ _ _ _ v1 v2 (fun h=>h) (by simp;omega) (by simp) (by omega)
 refine k4 c6 _ (fun a7 c7 A7 o3 x1 x2 x3 x4 _=>?_) _ _ _ _ _ _ N _ _ _ _ w1 w2 (fun h=>h) (by simp;omega) (by simp) (by omega)
 refine k6 c7 _ (fun a8 c8 A8 o4 y1 y2 y3 y4 y5=>?_) _ _ _ _ _ _ _ N _ _ _ _ x1 x2 (fun h=>h) (by simp;omega) (by simp) (by omega)
 have c19:∀{b:Bool} {c A:Int} {x1 x2 x3 x4 x5 x6 x7 x8} {kp:Int→Int→ab R},(b=true→c=0)→(∀c' A',(c'=0→c=0)→Ok P (kp c' A'))→Ok P (og N b x1 x2 x3 l a8 c A x4 x5 x6 x7 x8 kp):=by
  intro b c A x1 x2 x3 x4 x5 x6 x7 x8 kp hb e
  unfold og
  exact Ok.i (fun h=>rr y1 y2 fun c' A' h'=>e _ _ fun h=>absurd h h') fun _=>e _ _ fun h=>h
 have c20:∀{c A:Int} {x1 x2 x3 x4 x5 x6 x7 x8} {kp0:Int→ab R} {kp1:Int→Int→ab R},(c≠0→Ok P (kp0 0))→(c=0→Ok P (kp1 0 0))→Ok P (la N x1 x2 x3 l a8 c A x4 x5 x6 x7 x8 kp0 kp1):=by
  intro c A x1 x2 x3 x4 x5 x6 x7 x8 kp0 kp1 e0 e1
  unfold la
  exact Ok.i (fun h=>e0 (by simpa using h)) fun h=>e1 (by simpa using h)
 have fin:∀c' A',(c'=0→c8=0)→Ok P (la N 0 0 0 l a8 c' A' g o1 o2 o3 o4 (fun(y170:Int)=>k y170 [] [] [] [] c' A') (fun(y171:Int)(y172:Int)=>k g o1 o2 o3 o4 y171 y172)):=by
  intro c' A' h
  refine c20 (fun h'=>hk _ _ _ _ _ _ _ fun h=>absurd h h') fun h'=>hk _ _ _ _ _ _ _ fun _=>⟨v3,w4,x4,y4,v4 (w3 (x3 (y3 (h h')))),y5⟩
 refine Ok.i (fun h=>fh y1 y2 fun t _=>c19 (fun _=>by simpa using h) fun c' A' h=>fin _ _ h) fun h=>c19 (fun h=>by cases h) fun c' A' h=>fin _ _ h
end
end So
