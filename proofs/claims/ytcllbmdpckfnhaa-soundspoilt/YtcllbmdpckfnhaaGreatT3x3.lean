/- T3_3: a part of the proof of SoundSpoilt: lemmas on the evaluator and on the functions that the law reaches. -/
import Derived.Test.YtcllbmdpckfnhaaGreatT3x2
set_option maxRecDepth 100000
set_option linter.unusedVariables false
namespace So
open Go TE Go.Proofs
noncomputable section
variable{R:Type}
def bH(N:Nat)(inst:ae)(Age:Int)(Charts:List Chart)(Insts:List Inst)(Chans:List ak)(Certs:List Cert)(Code At:Int)(o:ae→Int→Int→(List ai)→(List ai)→(List ai)→(List State)→Int→Bool→ab R):ab R:=
 kT N Insts inst (fun C=>
 if(decide (C<0))=true then
 (o [] 0 0 ([]:List ai) ([]:List ai) ([]:List ai) ([]:List State) 0 false)
 else
 ((at? Insts C).bind fun J=>
 fj N Charts J.Chart (fun I=>
 if(decide (I<0))=true then
 (o [] 0 0 ([]:List ai) ([]:List ai) ([]:List ai) ([]:List State) 0 false)
 else
 ((at? Charts I).bind fun j=>
 o j.Name j.Steps j.Fuel j.Vars j.Ports j.Timers j.States j.At true))))
def yT(N:Nat):FD E0:={f:=72,fn:=Tryz.f72,q:=⟨[.p 0 0 0,.st],[z34]⟩,g:=[oX N,xn N],exit:=[(⟨4,[3]⟩,.tree .named),(⟨4,[4]⟩,.tree .named),(⟨4,[5]⟩,.tree .named),(⟨4,[6]⟩,.tree .state)]}
def gh(N:Nat):OC E0:=⟨_,FD.ctq e0 (yT N) N (fun R k a b c d e g h i=>bH N a b c d e g h i (oQ ⟨.tp [y12,.b],[],[]⟩ k))⟩
def gi(N:Nat)(Name From Port To:ae)(Cap Prio At:Int)(J j o U:ae)(b9 j6 j7:Int)(C:Bool→ab R):ab R:=
 (ifB (From==j) true (some (Port==o)) (some false)).bind fun I=>
 C I
def wL(N:Nat):FD E0:={f:=75,fn:=Tryz.f75,q:=⟨[y15,.p 0 0 0],[z22]⟩}
def wM(N:Nat):OC E0:=⟨_,FD.ctq e0 (wL N) N (fun R k a b c d e g h i j l m o p q=>gi N a b c d e g h i j l m o p q (oQ ⟨.b,[],[]⟩ k))⟩
def dN(N:Nat)(C:List ak)(I:Int)(J U b9 j6:ae)(j7 j8 j9:Int)(k5:ab R)(k7:Int→ab R)(rec:Int→ab R)(o:Int):ab R:=
 if(decide (o<I))=true then
 ((at? C o).bind fun j=>
 gi N j.Name j.From j.Port j.To j.Cap j.Prio j.At J U b9 j6 j7 j8 j9 (fun k8=>
 if k8=true then
 (k7 o)
 else
 (rec (IntKind.wrap .i64 (o+1)))))
 else
 (k5 )
def cj(N:Nat)(j:List ak)(o:Int)(C I J U:ae)(b9 j6 j7:Int)(j8:ab R)(j9:Int→ab R):Nat→Int→ab R
 |0=>fun _=>none
 |n+1=>fun k5=>dN N j o C I J U b9 j6 j7 j8 j9 (cj N j o C I J U b9 j6 j7 j8 j9 n) k5
def gk(N:Nat)(s:List ak)(o C I J:ae)(U b9 j6:Int)(j:Int→ab R):ab R:=
 cj N s ((s.length:Nat):Int) o C I J U b9 j6 (j (-1))
 (fun y13=>
 j y13) N 0
def wN(N:Nat):FD E0:={f:=133,fn:=Tryz.f133,q:=⟨[.t .chan,.fn 75 [.p 0 0 0]],[z22]⟩,loops:=[{cur:=0,live:=[0,1,7,8],out:=fun | .exit 0=>([],[]) | .ret=>([4],[])|_=>([],[]),q:=⟨[.t .chan,.fn 75 [.p 0 0 0],.i .i64,.i .i64],[z22]⟩,G:=fun R K n a b c d e g h i j l=>cj N a b d e g h i j l (pK ⟨[],[z22]⟩ (K (.exit 0)) d e g h i j l) (fun m=>pK ⟨[.i .i64],[z22]⟩ (K .ret) m d e g h i j l) n c,B:=fun R K rec a b c d e g h i j l=>dN N a b d e g h i j l (pK ⟨[],[z22]⟩ (K (.exit 0)) d e g h i j l) (fun m=>pK ⟨[.i .i64],[z22]⟩ (K .ret) m d e g h i j l) (fun c=>rec a b c d e g h i j l) c}],g:=[wM N]}
def wO(N:Nat):OC E0:=⟨_,FD.ctq e0 (wN N) N (fun R k a b c d e g h i=>gk N a b c d e g h i (oQ ⟨.i .i64,[],[]⟩ k))⟩
def fv(N:Nat)(s:List ak)(j o C I:ae)(J U b9:Int)(k0:Bool→ab R):ab R:=
 gk N s j o C I J U b9 (fun r1=>
 k0 (decide (r1≥0)))
def vA(N:Nat):FD E0:={f:=76,fn:=Tryz.f76,q:=⟨[.t .chan,.fn 75 [.p 0 0 0]],[z22]⟩,g:=[wO N]}
def vB(N:Nat):OC E0:=⟨_,FD.ctq e0 (vA N) N (fun R k a b c d e g h i=>fv N a b c d e g h i (oQ ⟨.b,[],[]⟩ k))⟩
def jl(N:Nat)(o I:Int)(J:List Chart)(U:List Inst)(j:List ak)(b9:List Cert)(j8 j9:Int)(k5 k7 k8 k9:ae)(j6 j7 C:Int)(l7:Int→Int→ab R):ab R:=
 if(0:Int)≤0∧0≤o∧o≤((j.length:Nat):Int) then(fv N ((j.take o.toNat).drop (Int.toNat 0)) k5 k7 k8 k9 j6 j7 C (fun l9=>
 aj N (!l9) 8 C I J U j b9 j8 j9 (fun m0 m3=>
 dL N j6 1 32 (fun m4=>
 (ifB m4 true (dL N j7 0 7 (fun m5=>
 some m5)) (some false)).bind fun m6=>
 aj N m6 16 C I J U j b9 m0 m3 (fun m7 m8=>
 l7 m7 m8))))) else none
def iG(N:Nat)(i:Int)(Name From Port To:ae)(Cap Prio At Age:Int)(Charts:List Chart)(Insts:List Inst)(Chans:List ak)(Certs:List Cert)(Code C:Int)(I:Int→Int→ab R):ab R:=
 if(0:Int)≤0∧0≤i∧i≤((Chans.length:Nat):Int) then(mO N ((Chans.take i.toNat).drop (Int.toNat 0)) Name From Port To Cap Prio At (fun J=>
 aj N (!J) 8 At Age Charts Insts Chans Certs Code C (fun j o=>
 bH N From Age Charts Insts Chans Certs j o (fun r4 r5 r6 r7 U r9 m4 m5 b9=>
 bH N To Age Charts Insts Chans Certs j o (fun m6 m7 m8 m9 n9 o0 o5 o6 j6=>
 (ifB b9 true (some j6) (some false)).bind fun j7=>
 (ifB j7 true (bN N U Port (fun j8=>
 some (decide (j8≥0)))) (some false)).bind fun c24=>
 aj N c24 7 At Age Charts Insts Chans Certs j o (fun j9 k5=>
 jl N i Age Charts Insts Chans Certs j9 k5 Name From Port To Cap Prio At (fun k7 k8=>
 I k7 k8))))))) else none
def yU(N:Nat):FD E0:={f:=34,fn:=Tryz.f34,q:=⟨[.p 0 0 0,.i .i64,y15],[z34]⟩,cuts:=[{key:=5,live:=[0,1,5],out:=fun | .normal=>([],[])|_=>([],[]),q:=⟨[.p 0 0 0,.i .i64,.p 1 0 0],[z34,z22]⟩,G:=fun R K a b c d e g h i j l m o p q s=>jl N a b c d e g h i j l m o p q s (pK ⟨[],[z34]⟩ (K .normal) b c d e g)}],g:=[bc N,mi N,Eg N,gh N,kc N,vB N]}
def yV(N:Nat):OC E0:=⟨_,FD.ct e0 (yU N) N (fun R k a b c d e g h i j l m o p q s=>iG N a b c d e g h i j l m o p q s (oK ⟨.tp [],[z34],[]⟩ k j l m o p))⟩
def gV(N:Nat)(Name From Port To:ae)(Cap Prio At:Int)(j J:ae)(U b9 j6 j7:Int)(o:ae)(j8 j9:Int)(C:Bool→ab R):ab R:=
 (ifB (From==j) true (some (Port==o)) (some false)).bind fun I=>
 C I
def xS(N:Nat):FD E0:={f:=77,fn:=Tryz.f77,q:=⟨[y15,.p 0 0 0,.p 1 0 0],[z21,.bx [.st,.i .i64,.i .i64]]⟩}
def xT(N:Nat):OC E0:=⟨_,FD.ctq e0 (xS N) N (fun R k a b c d e g h i j l m o p q s t=>gV N a b c d e g h i j l m o p q s t (oQ ⟨.b,[],[]⟩ k))⟩
def dO(N:Nat)(C:List ak)(I:Int)(J U:ae)(b9 j6 j7 j8:Int)(j9:ae)(k5 k7:Int)(k8:ab R)(k9:Int→ab R)(rec:Int→ab R)(o:Int):ab R:=
 if(decide (o<I))=true then
 ((at? C o).bind fun j=>
 gV N j.Name j.From j.Port j.To j.Cap j.Prio j.At J U b9 j6 j7 j8 j9 k5 k7 (fun l7=>
 if l7=true then
 (k9 o)
 else
 (rec (IntKind.wrap .i64 (o+1)))))
 else
 (k8 )
def ck(N:Nat)(j:List ak)(o:Int)(C I:ae)(J U b9 j6:Int)(j7:ae)(j8 j9:Int)(k5:ab R)(k7:Int→ab R):Nat→Int→ab R
 |0=>fun _=>none
 |n+1=>fun k8=>dO N j o C I J U b9 j6 j7 j8 j9 k5 k7 (ck N j o C I J U b9 j6 j7 j8 j9 k5 k7 n) k8
def gl(N:Nat)(s:List ak)(o C:ae)(I J U b9:Int)(j6:ae)(j7 j8:Int)(j:Int→ab R):ab R:=
 ck N s ((s.length:Nat):Int) o C I J U b9 j6 j7 j8 (j (-1))
 (fun y15=>
 j y15) N 0
def wP(N:Nat):FD E0:={f:=133,fn:=Tryz.f133,q:=⟨[.t .chan,.fn 77 [.p 0 0 0,.p 1 0 0]],[z21,.bx [.st,.i .i64,.i .i64]]⟩,loops:=[{cur:=0,live:=[0,1,7,8],out:=fun | .exit 0=>([],[]) | .ret=>([4],[])|_=>([],[]),q:=⟨[.t .chan,.fn 77 [.p 0 0 0,.p 1 0 0],.i .i64,.i .i64],[z21,.bx [.st,.i .i64,.i .i64]]⟩,G:=fun R K n a b c d e g h i j l m o=>ck N a b d e g h i j l m o (pK ⟨[],[z21,.bx [.st,.i .i64,.i .i64]]⟩ (K (.exit 0)) d e g h i j l m o) (fun p=>pK ⟨[.i .i64],[z21,.bx [.st,.i .i64,.i .i64]]⟩ (K .ret) p d e g h i j l m o) n c,B:=fun R K rec a b c d e g h i j l m o=>dO N a b d e g h i j l m o (pK ⟨[],[z21,.bx [.st,.i .i64,.i .i64]]⟩ (K (.exit 0)) d e g h i j l m o) (fun p=>pK ⟨[.i .i64],[z21,.bx [.st,.i .i64,.i .i64]]⟩ (K .ret) p d e g h i j l m o) (fun c=>rec a b c d e g h i j l m o) c}],g:=[xT N]}
def wQ(N:Nat):OC E0:=⟨_,FD.ctq e0 (wP N) N (fun R k a b c d e g h i j l=>gl N a b c d e g h i j l (oQ ⟨.i .i64,[],[]⟩ k))⟩
def eB(N:Nat)(s:List ak)(j o:ae)(C I J U:Int)(b9:ae)(j6 j7:Int)(k0:Bool→ab R):ab R:=
 gl N s j o C I J U b9 j6 j7 (fun r1=>
 k0 (decide (r1≥0)))
def tE(N:Nat):FD E0:={f:=76,fn:=Tryz.f76,q:=⟨[.t .chan,.fn 77 [.p 0 0 0,.p 1 0 0]],[z21,.bx [.st,.i .i64,.i .i64]]⟩,g:=[wQ N]}
def tF(N:Nat):OC E0:=⟨_,FD.ctq e0 (tE N) N (fun R k a b c d e g h i j l=>eB N a b c d e g h i j l (oQ ⟨.b,[],[]⟩ k))⟩
def fa(N:Nat)(b9:List ai)(j6 j7:Int)(j8:List Chart)(j9:List Inst)(C:List ak)(k5:List Cert)(k7 k8:ae)(k9 l7 l9 I:Int)(m0:Int→Int→ab R)(rec:Int→Int→Int→ab R)(j J U:Int):ab R:=
 if(decide (j<j6))=true then
 ((at? b9 j).bind fun o=>
 eB N C k7 k8 k9 l7 l9 I o.Name o.N o.At (fun m3=>
 aj N m3 7 I j7 j8 j9 C k5 J U (fun m4 m5=>
 rec (IntKind.wrap .i64 (j+1)) m4 m5)))
 else
 (m0 J U)
def cT(N:Nat)(j:List ai)(o C:Int)(I:List Chart)(J:List Inst)(U:List ak)(b9:List Cert)(j6 j7:ae)(j8 j9 k5 k7:Int)(k8:Int→Int→ab R):Nat→Int→Int→Int→ab R
 |0=>fun _ _ _=>none
 |n+1=>fun k9 l7 l9=>fa N j o C I J U b9 j6 j7 j8 j9 k5 k7 k8 (cT N j o C I J U b9 j6 j7 j8 j9 k5 k7 k8 n) k9 l7 l9
def jc(N:Nat)(Name Chart_:ae)(Quantum Ext Prio At Age:Int)(Charts:List Chart)(Insts:List Inst)(Chans:List ak)(Certs:List Cert)(Code j:Int)(C:Int→Int→ab R):ab R:=
 bH N Name Age Charts Insts Chans Certs Code j (fun U r2 r3 r4 o r6 r7 r8 r9=>
 cT N o ((o.length:Nat):Int) Age Charts Insts Chans Certs Name Chart_ Quantum Ext Prio At (fun I J=>
 C I J) N 0 Code j)
def zL(N:Nat):FD E0:={f:=35,fn:=Tryz.f35,q:=⟨[.p 0 0 0,y14],[z34]⟩,loops:=[{cur:=0,live:=[0,3,17,18,19],out:=fun | .exit 0=>([],[])|_=>([],[]),q:=⟨[.p 0 0 0,.p 1 0 0,.t .named,.i .i64,.i .i64],[z34,z21]⟩,G:=fun R K n a b c d e g h i j l m o p q s t=>cT N a b d e g h i m o p q s t (pK ⟨[],[z34]⟩ (K (.exit 0)) d e g h i) n c j l,B:=fun R K rec a b c d e g h i j l m o p q s t=>fa N a b d e g h i m o p q s t (pK ⟨[],[z34]⟩ (K (.exit 0)) d e g h i) (fun c j l=>rec a b c d e g h i j l m o p q s t) c j l}],g:=[bc N,gh N,tF N]}
def zM(N:Nat):OC E0:=⟨_,FD.ct e0 (zL N) N (fun R k a b c d e g h i j l m o p=>jc N a b c d e g h i j l m o p (oK ⟨.tp [],[z34],[]⟩ k h i j l m))⟩
def JW(N:Nat)(Name Inst_ Req Resp:ae)(Insts Chans:List ae)(Cells:List Cell)(At:Int)(j:ab R):ab R:=
 j 
def Hp(N:Nat):FD E0:={f:=37,fn:=Tryz.f37,q:=⟨[y17],[]⟩}
def yW(N:Nat):OC E0:=⟨_,FD.ct e0 (Hp N) N (fun R k a b c d e g h i=>JW N a b c d e g h i (oK ⟨.st,[],[]⟩ k a))⟩
def FO(N:Nat)(Name Inst_ Req Resp:ae)(Insts Chans:List ae)(Cells:List Cell)(At:Int)(j:ae)(o:Bool→ab R):ab R:=
 o (Name==j)
def Df(N:Nat):FD E0:={f:=135,fn:=Tryz.f135,q:=⟨[y17,.p 0 0 0,.p 1 0 0],[.bx [.fn 37 []],.bx [.st]]⟩,g:=[yW N]}
def Dg(N:Nat):OC E0:=⟨_,FD.ctq e0 (Df N) N (fun R k a b c d e g h i j=>FO N a b c d e g h i j (oQ ⟨.b,[],[]⟩ k))⟩
def eC(N:Nat)(o:List Cert)(C:Int)(I:ae)(J:ab R)(U:Int→ab R)(rec:Int→ab R)(j:Int):ab R:=
 if(decide (j<C))=true then
 ((at? o j).bind fun e5=>
 if(e5.Name==I)=true then
 (U j)
 else
 (rec (IntKind.wrap .i64 (j+1))))
 else
 (J )
def cG(N:Nat)(j:List Cert)(o:Int)(C:ae)(I:ab R)(J:Int→ab R):Nat→Int→ab R
 |0=>fun _=>none
 |n+1=>fun U=>eC N j o C I J (cG N j o C I J n) U
def iH(N:Nat)(s:List Cert)(o:ae)(j:Int→ab R):ab R:=
 cG N s ((s.length:Nat):Int) o (j (-1))
 (fun y6=>
 j y6) N 0
def yX(N:Nat):FD E0:={f:=134,fn:=Tryz.f134,q:=⟨[.t .cert,.fn 135 [.p 0 0 0,.p 1 0 0]],[.bx [.fn 37 []],.bx [.st]]⟩,loops:=[{cur:=0,live:=[0,1,7,8],out:=fun | .exit 0=>([],[]) | .ret=>([4],[])|_=>([],[]),q:=⟨[.t .cert,.fn 135 [.p 0 0 0,.p 1 0 0],.i .i64,.i .i64],[.bx [.fn 37 []],.bx [.st]]⟩,G:=fun R K n a b c d=>cG N a b d (pK ⟨[],[.bx [.fn 37 []],.bx [.st]]⟩ (K (.exit 0)) d) (fun e=>pK ⟨[.i .i64],[.bx [.fn 37 []],.bx [.st]]⟩ (K .ret) e d) n c,B:=fun R K rec a b c d=>eC N a b d (pK ⟨[],[.bx [.fn 37 []],.bx [.st]]⟩ (K (.exit 0)) d) (fun e=>pK ⟨[.i .i64],[.bx [.fn 37 []],.bx [.st]]⟩ (K .ret) e d) (fun c=>rec a b c d) c}],g:=[Dg N]}
def yY(N:Nat):OC E0:=⟨_,FD.ctq e0 (yX N) N (fun R k a b=>iH N a b (oQ ⟨.i .i64,[],[]⟩ k))⟩
def tG(N:Nat)(l:List Cert)(s:ae)(j:Int→ab R):ab R:=
 iH N l s (fun o=>
 j o)
def FP(N:Nat):FD E0:={f:=78,fn:=Tryz.f78,q:=⟨[.t .cert,.st,.fn 37 []],[]⟩,g:=[yY N]}
def FQ(N:Nat):OC E0:=⟨_,FD.ct e0 (FP N) N (fun R k a b=>tG N a b (oK ⟨.i .i64,[],[]⟩ k))⟩
def mP(N:Nat)(l:List Cert)(Name Inst_ Req Resp:ae)(Insts Chans:List ae)(Cells:List Cell)(At:Int)(j:Bool→ab R):ab R:=
 tG N l Name (fun o=>
 j (decide (o≥0)))
def Eh(N:Nat):FD E0:={f:=36,fn:=Tryz.f36,q:=⟨[.t .cert,y17,.fn 37 []],[]⟩,g:=[yW N,FQ N]}
def Ei(N:Nat):OC E0:=⟨_,FD.ct e0 (Eh N) N (fun R k a b c d e g h i j=>mP N a b c d e g h i j (oK ⟨.b,[],[]⟩ k))⟩
def fy(N:Nat)(o:List ae)(C:ae)(I:Int)(J:ab R)(U:Int→ab R)(rec:Int→ab R)(j:Int):ab R:=
 if(decide (j<I))=true then
 ((at? o j).bind fun e5=>
 if(C==e5)=true then
 (U j)
 else
 (rec (IntKind.wrap .i64 (j+1))))
 else
 (J )
def dg(N:Nat)(j:List ae)(o:ae)(C:Int)(I:ab R)(J:Int→ab R):Nat→Int→ab R
 |0=>fun _=>none
 |n+1=>fun U=>fy N j o C I J (dg N j o C I J n) U
def jz(N:Nat)(s:List ae)(v:ae)(j:Int→ab R):ab R:=
 dg N s v ((s.length:Nat):Int) (j (-1))
 (fun y6=>
 j y6) N 0
def AM(N:Nat):FD E0:={f:=136,fn:=Tryz.f136,q:=⟨[.t .str,.st],[]⟩,loops:=[{cur:=0,live:=[0,1,7,8],out:=fun | .exit 0=>([],[]) | .ret=>([4],[])|_=>([],[]),q:=⟨[.t .str,.st,.i .i64,.i .i64],[]⟩,G:=fun R K n a b c d=>dg N a b c (pK ⟨[],[]⟩ (K (.exit 0))) (pK ⟨[.i .i64],[]⟩ (K .ret)) n d,B:=fun R K rec a b c d=>fy N a b c (pK ⟨[],[]⟩ (K (.exit 0))) (pK ⟨[.i .i64],[]⟩ (K .ret)) (rec a b c) d}]}
def AN(N:Nat):OC E0:=⟨_,FD.ct e0 (AM N) N (fun R k a b=>jz N a b (oK ⟨.i .i64,[],[]⟩ k))⟩
def bB(N:Nat)(s:List ae)(v:ae)(j:Bool→ab R):ab R:=
 jz N s v (fun o=>
 j (decide (o≥0)))
def xU(N:Nat):FD E0:={f:=79,fn:=Tryz.f79,q:=⟨[.t .str,.st],[]⟩,g:=[AN N]}
def oh(N:Nat):OC E0:=⟨_,FD.ct e0 (xU N) N (fun R k a b=>bB N a b (oK ⟨.b,[],[]⟩ k))⟩
structure dE where
 sound_flat:(R:Type)→(List State)→((List State)→ab R)→ab R
def FR:Pat S:=⟨[.t .state],[]⟩
def zN(F:dE):Ct S:=⟨81,FR,fun R k a=>F.sound_flat R a (oK ⟨.t .state,[],[]⟩ k)⟩
structure qc(F:dE):Prop where
 sound_flat:(zN F).ok E0
def oH(F:dE)(N:Nat)(J:List State)(U:Int)(b9:(List State)→ab R)(rec:Int→(List State)→ab R)(C:Int)(o:List State):ab R:=
 if(decide (C<U))=true then
 ((at? J C).bind fun j=>
 if o.length+[(⟨j.Kind,j.Name,j.Entry,j.Exit,j.Trans,j.Kids,j.At⟩:State)].length≤ah then(F.sound_flat _ j.Kids (fun I=>
 if(o++[(⟨j.Kind,j.Name,j.Entry,j.Exit,j.Trans,j.Kids,j.At⟩:State)]).length+I.length≤ah then(rec (IntKind.wrap .i64 (C+1)) ((o++[(⟨j.Kind,j.Name,j.Entry,j.Exit,j.Trans,j.Kids,j.At⟩:State)])++I)) else none)) else none)
 else
 (b9 o)
def lb(F:dE)(N:Nat)(j:List State)(o:Int)(C:(List State)→ab R):Nat→Int→(List State)→ab R
 |0=>fun _ _=>none
 |n+1=>fun I J=>oH F N j o C (lb F N j o C n) I J
def qd(F:dE)(N:Nat)(l:List State)(j:(List State)→ab R):ab R:=
 lb F N l ((l.length:Nat):Int) (fun y12=>
 j y12) N 0 ([]:List State)
def zO(F:dE)(hF:qc F)(N:Nat):FD E0:={f:=81,fn:=Tryz.f81,q:=FR,loops:=[{cur:=0,live:=[3,6,7,8],fix:=[(⟨3,[]⟩,.row .state .app)],out:=fun | .exit 0=>([3],[])|_=>([],[]),q:=⟨[.sw 0,.t .state,.i .i64,.i .i64],[.rw .state .app]⟩,G:=fun R K n a b c d=>lb F N a b (pK ⟨[.sw 0],[.rw .state .app]⟩ (K (.exit 0))) n c d,B:=fun R K rec a b c d=>oH F N a b (pK ⟨[.sw 0],[.rw .state .app]⟩ (K (.exit 0))) (rec a b) c d}],g:=[⟨zN F,hF.sound_flat⟩],mode:=fun|14=>.ro|_=>.app,exit:=[(⟨2,[]⟩,.tree .state)]}
theorem JX(F:dE)(hF:qc F)(N:Nat):Ct.ok E0 ⟨(zO F hF N).f,(zO F hF N).q,fun R k a=>qd F N a (oK ⟨.t .state,[],[]⟩ k)⟩:=FD.ct e0 (zO F hF N) N (fun R k a=>qd F N a (oK ⟨.t .state,[],[]⟩ k))
def Dh(F:dE)(N:Nat):dE where
 sound_flat:=fun R l j=>qd F N l j
def dr(N:Nat):Nat→dE
 |0=>{sound_flat:=fun _ _ _=>none}
 |d+1=>Dh (dr N d) N
theorem sL(N:Nat):∀d,qc (dr N d)
 |0=>{sound_flat:=Ct.ok_none}
 |d+1=>{sound_flat:=JX _ (sL N d) N}
def sound_flat(N:Nat)(l:List State)(j:(List State)→ab R):ab R:=(dr N N).sound_flat R l j
theorem Lm(N d:Nat)(l:List State)(k0:(List State)→ab R):(dr N (d+1)).sound_flat R l k0=qd (dr N d) N l k0:=rfl
def Nb(N:Nat):OC E0:=⟨zN (dr N N),(sL N N).sound_flat⟩
def dt(N:Nat)(C:List State)(I:Int)(J:ab R)(U:Int→ab R)(rec:Int→ab R)(o:Int):ab R:=
 if(decide (o<I))=true then
 ((at? C o).bind fun j=>
 eh N j.Kind j.Name j.Entry j.Exit j.Trans j.Kids j.At (fun r5=>
 if r5=true then
 (U o)
 else
 (rec (IntKind.wrap .i64 (o+1)))))
 else
 (J )
def bW(N:Nat)(j:List State)(o:Int)(C:ab R)(I:Int→ab R):Nat→Int→ab R
 |0=>fun _=>none
 |n+1=>fun J=>dt N j o C I (bW N j o C I n) J
def fz(N:Nat)(s:List State)(j:Int→ab R):ab R:=
 bW N s ((s.length:Nat):Int) (j (-1))
 (fun y6=>
 j y6) N 0
def vC(N:Nat):FD E0:={f:=137,fn:=Tryz.f137,q:=⟨[.t .state,.fn 65 []],[]⟩,loops:=[{cur:=0,live:=[0,1,7,8],out:=fun | .exit 0=>([],[]) | .ret=>([4],[])|_=>([],[]),q:=⟨[.t .state,.fn 65 [],.i .i64,.i .i64],[]⟩,G:=fun R K n a b c=>bW N a b (pK ⟨[],[]⟩ (K (.exit 0))) (pK ⟨[.i .i64],[]⟩ (K .ret)) n c,B:=fun R K rec a b c=>dt N a b (pK ⟨[],[]⟩ (K (.exit 0))) (pK ⟨[.i .i64],[]⟩ (K .ret)) (rec a b) c}],g:=[iS N]}
def vD(N:Nat):OC E0:=⟨_,FD.ct e0 (vC N) N (fun R k a=>fz N a (oK ⟨.i .i64,[],[]⟩ k))⟩
def ec(N:Nat)(s:List State)(j:Bool→ab R):ab R:=
 fz N s (fun o=>
 j (decide (o≥0)))
def sM(N:Nat):FD E0:={f:=80,fn:=Tryz.f80,q:=⟨[.t .state,.fn 65 []],[]⟩,g:=[vD N]}
def sN(N:Nat):OC E0:=⟨_,FD.ct e0 (sM N) N (fun R k a=>ec N a (oK ⟨.b,[],[]⟩ k))⟩
def du(N:Nat)(o:List State)(C:Int)(I:ae)(J:ab R)(U:Int→ab R)(rec:Int→ab R)(j:Int):ab R:=
 if(decide (j<C))=true then
 ((at? o j).bind fun e5=>
 if(e5.Name==I)=true then
 (U j)
 else
 (rec (IntKind.wrap .i64 (j+1))))
 else
 (J )
def bX(N:Nat)(j:List State)(o:Int)(C:ae)(I:ab R)(J:Int→ab R):Nat→Int→ab R
 |0=>fun _=>none
 |n+1=>fun U=>du N j o C I J (bX N j o C I J n) U
def fA(N:Nat)(s:List State)(o:ae)(j:Int→ab R):ab R:=
 bX N s ((s.length:Nat):Int) o (j (-1))
 (fun y6=>
 j y6) N 0
def vE(N:Nat):FD E0:={f:=137,fn:=Tryz.f137,q:=⟨[.t .state,.fn 138 [.p 0 0 0,.p 1 0 0]],[.bx [.fn 84 []],.bx [.st]]⟩,loops:=[{cur:=0,live:=[0,1,7,8],out:=fun | .exit 0=>([],[]) | .ret=>([4],[])|_=>([],[]),q:=⟨[.t .state,.fn 138 [.p 0 0 0,.p 1 0 0],.i .i64,.i .i64],[.bx [.fn 84 []],.bx [.st]]⟩,G:=fun R K n a b c d=>bX N a b d (pK ⟨[],[.bx [.fn 84 []],.bx [.st]]⟩ (K (.exit 0)) d) (fun e=>pK ⟨[.i .i64],[.bx [.fn 84 []],.bx [.st]]⟩ (K .ret) e d) n c,B:=fun R K rec a b c d=>du N a b d (pK ⟨[],[.bx [.fn 84 []],.bx [.st]]⟩ (K (.exit 0)) d) (fun e=>pK ⟨[.i .i64],[.bx [.fn 84 []],.bx [.st]]⟩ (K .ret) e d) (fun c=>rec a b c d) c}],g:=[sF N]}
def vF(N:Nat):OC E0:=⟨_,FD.ctq e0 (vE N) N (fun R k a b=>fA N a b (oQ ⟨.i .i64,[],[]⟩ k))⟩
def oY(N:Nat)(l:List State)(s:ae)(j:Int→ab R):ab R:=
 fA N l s (fun o=>
 j o)
def BB(N:Nat):FD E0:={f:=83,fn:=Tryz.f83,q:=⟨[.t .state,.st,.fn 84 []],[]⟩,g:=[vF N]}
def BC(N:Nat):OC E0:=⟨_,FD.ct e0 (BB N) N (fun R k a b=>oY N a b (oK ⟨.i .i64,[],[]⟩ k))⟩
def jd(N:Nat)(name:ae)(j:List State)(o:Bool→ab R):ab R:=
 oY N j name (fun C=>
 o (decide (C≥0)))
def zP(N:Nat):FD E0:={f:=82,fn:=Tryz.f82,q:=⟨[.st,.p 0 0 0],[.bx [.t .state]]⟩,g:=[BC N]}
def zQ(N:Nat):OC E0:=⟨_,FD.ctq e0 (zP N) N (fun R k a b=>jd N a b (oQ ⟨.b,[],[]⟩ k))⟩
structure cH where
 sound_has:(R:Type)→Int→ae→(List Act)→(List Act)→(List Trans)→(List State)→Int→(List ae)→(Int→ab R)→ab R
def HR:Pat S:=⟨[y2,.t .str],[]⟩
def BD(F:cH):Ct S:=⟨186,HR,fun R k a b c d e g h i=>F.sound_has R a b c d e g h i (oK ⟨.i .i64,[],[]⟩ k)⟩
structure rB(F:cH):Prop where
 sound_has:(BD F).ok E0
def qe(F:cH)(N:Nat)(j6 C:List ae)(I j7:Int)(J:ae)(j8 j9:List Act)(k5:List Trans)(k7:List State)(k8:Int)(U:Int→ab R)(rec:Int→Int→ab R)(o j:Int):ab R:=
 if(decide (j<I))=true then
 ((at? C j).bind fun b9=>
 if(b9==J)=true then
 (rec (IntKind.wrap .i64 (o+1)) (IntKind.wrap .i64 (j+1)))
 else
 (rec o (IntKind.wrap .i64 (j+1))))
 else
 (U o)
def mQ(F:cH)(N:Nat)(j o:List ae)(C I:Int)(J:ae)(U b9:List Act)(j6:List Trans)(j7:List State)(j8:Int)(j9:Int→ab R):Nat→Int→Int→ab R
 |0=>fun _ _=>none
 |n+1=>fun k5 k7=>qe F N j o C I J U b9 j6 j7 j8 j9 (mQ F N j o C I J U b9 j6 j7 j8 j9 n) k5 k7
def qf(F:cH)(N:Nat)(I:List ae)(J:List State)(U:Int)(b9:Int→ab R)(rec:Int→Int→ab R)(C o:Int):ab R:=
 if(decide (o<U))=true then
 ((at? J o).bind fun j=>
 F.sound_has _ j.Kind j.Name j.Entry j.Exit j.Trans j.Kids j.At I (fun j6=>
 rec (IntKind.wrap .i64 (C+j6)) (IntKind.wrap .i64 (o+1))))
 else
 (b9 C)
def mR(F:cH)(N:Nat)(j:List ae)(o:List State)(C:Int)(I:Int→ab R):Nat→Int→Int→ab R
 |0=>fun _ _=>none
 |n+1=>fun J U=>qf F N j o C I (mR F N j o C I n) J U
def kl(F:cH)(N:Nat)(o:List ae)(C U:Int)(b9:ae)(j6 j7:List Act)(j8:List Trans)(j:List State)(j9:Int)(I:Int→ab R):ab R:=
 mR F N o j ((j.length:Nat):Int) (fun J=>
 I J) N C 0
def sO(F:cH)(N:Nat)(Kind:Int)(Name:ae)(Entry Exit:List Act)(Trans_:List Trans)(Kids:List State)(At:Int)(set_:List ae)(j:Int→ab R):ab R:=
 if(((Kids.length:Nat):Int)==0)=true then
 (mQ F N set_ set_ ((set_.length:Nat):Int) Kind Name Entry Exit Trans_ Kids At (fun y14=>
 kl F N set_ y14 Kind Name Entry Exit Trans_ Kids At (fun o=>
 j o)) N 0 0)
 else
 (kl F N set_ 0 Kind Name Entry Exit Trans_ Kids At (fun C=>
 j C))
def BE(F:cH)(hF:rB F)(N:Nat):FD E0:={f:=186,fn:=Tryz.f186,q:=HR,loops:=[{cur:=0,live:=[1,2,5,14,15,16],out:=fun | .exit 0=>([1,2,5],[])|_=>([],[]),q:=⟨[.t .str,.p 0 0 0,.i .i64,.t .str,.i .i64,.i .i64],[z35]⟩,G:=fun R K n a b c d e g h i j l m o=>mQ F N a c d g h i j l m o (fun p=>pK ⟨[.t .str,.p 0 0 0,.i .i64],[z35]⟩ (K (.exit 0)) a p g h i j l m o) n b e,B:=fun R K rec a b c d e g h i j l m o=>qe F N a c d g h i j l m o (fun p=>pK ⟨[.t .str,.p 0 0 0,.i .i64],[z35]⟩ (K (.exit 0)) a p g h i j l m o) (fun b e=>rec a b c d e g h i j l m o) b e},{cur:=2,live:=[1,5,28,29,30],out:=fun | .exit 2=>([5],[])|_=>([],[]),q:=⟨[.t .str,.i .i64,.t .state,.i .i64,.i .i64],[]⟩,G:=fun R K n a b c d e=>mR F N a c d (pK ⟨[.i .i64],[]⟩ (K (.exit 2))) n b e,B:=fun R K rec a b c d e=>qf F N a c d (pK ⟨[.i .i64],[]⟩ (K (.exit 2))) (fun b e=>rec a b c d e) b e}],cuts:=[{key:=9,live:=[1,2,5],out:=fun | .ret=>([4],[])|_=>([],[]),q:=⟨[.t .str,.p 0 0 0,.i .i64],[z35]⟩,G:=fun R K a b c d e g h i j=>kl F N a b c d e g h i j (pK ⟨[.i .i64],[]⟩ (K .ret))}],g:=[⟨BD F,hF.sound_has⟩]}
theorem Ln(F:cH)(hF:rB F)(N:Nat):Ct.ok E0 ⟨(BE F hF N).f,(BE F hF N).q,fun R k a b c d e g h i=>sO F N a b c d e g h i (oK ⟨.i .i64,[],[]⟩ k)⟩:=FD.ct e0 (BE F hF N) N (fun R k a b c d e g h i=>sO F N a b c d e g h i (oK ⟨.i .i64,[],[]⟩ k))
def Ej(F:cH)(N:Nat):cH where
 sound_has:=fun R Kind Name Entry Exit Trans_ Kids At set_ j=>sO F N Kind Name Entry Exit Trans_ Kids At set_ j
def bO(N:Nat):Nat→cH
 |0=>{sound_has:=fun _ _ _ _ _ _ _ _ _ _=>none}
 |d+1=>Ej (bO N d) N
theorem tS(N:Nat):∀d,rB (bO N d)
 |0=>{sound_has:=Ct.ok_none}
 |d+1=>{sound_has:=Ln _ (tS N d) N}
def sound_has(N:Nat)(Kind:Int)(Name:ae)(Entry Exit:List Act)(Trans_:List Trans)(Kids:List State)(At:Int)(set_:List ae)(j:Int→ab R):ab R:=(bO N N).sound_has R Kind Name Entry Exit Trans_ Kids At set_ j
theorem Nc(N d:Nat)(Kind:Int)(Name:ae)(Entry Exit:List Act)(Trans_:List Trans)(Kids:List State)(At:Int)(set_:List ae)(k0:Int→ab R):(bO N (d+1)).sound_has R Kind Name Entry Exit Trans_ Kids At set_ k0=sO (bO N d) N Kind Name Entry Exit Trans_ Kids At set_ k0:=rfl
def OD(N:Nat):OC E0:=⟨BD (bO N N),(tS N N).sound_has⟩
structure cI where
 sound_active:(R:Type)→(List State)→Bool→(List ae)→(Int→Bool→ab R)→ab R
def BF:Pat S:=⟨[.t .state,.b,.t .str],[]⟩
def vG(F:cI):Ct S:=⟨167,BF,fun R k a b c=>F.sound_active R a b c (oK ⟨.tp [.i .i64,.b],[],[]⟩ k)⟩
structure nQ(F:cI):Prop where
 sound_active:(vG F).ok E0
def lP(F:cI)(N:Nat)(j6:Bool)(U:List ae)(j7:List State)(j8:Int)(j9:Int→Int→ab R)(b9:Int→Bool→ab R)(rec:Int→Int→Int→ab R)(C I o:Int):ab R:=
 if(decide (o<j8))=true then
 ((at? j7 o).bind fun j=>
 sound_has N j.Kind j.Name j.Entry j.Exit j.Trans j.Kids j.At U (fun J=>
 (ifB (J==0) true (some (!j6)) (some false)).bind fun k5=>
 if k5=true then
 (rec C I (IntKind.wrap .i64 (o+1)))
 else
 (if(((j.Kids.length:Nat):Int)==0)=true then
 (if(J != 1)=true then
 (b9 0 false)
 else
 (rec (IntKind.wrap .i64 (C+J)) (IntKind.wrap .i64 (I+1)) (IntKind.wrap .i64 (o+1))))
 else
 (F.sound_active _ j.Kids (j.Kind==2) U (fun k8 k7=>
 if(!k7)=true then
 (b9 0 false)
 else
 (rec (IntKind.wrap .i64 (C+J)) (IntKind.wrap .i64 (I+1)) (IntKind.wrap .i64 (o+1))))))))
 else
 (j9 C I)
def gA(F:cI)(N:Nat)(j:Bool)(o:List ae)(C:List State)(I:Int)(J:Int→Int→ab R)(U:Int→Bool→ab R):Nat→Int→Int→Int→ab R
 |0=>fun _ _ _=>none
 |n+1=>fun b9 j6 j7=>lP F N j o C I J U (gA F N j o C I J U n) b9 j6 j7
def mr(F:cI)(N:Nat)(l:List State)(all:Bool)(set_:List ae)(j:Int→Bool→ab R):ab R:=
 gA F N all set_ l ((l.length:Nat):Int) (fun y13 y14=>
 (ifB all false (some (y14==1)) (some true)).bind fun o=>
 j y13 o)
 (fun y15 y16=>
 j y15 y16) N 0 0 0
def vH(F:cI)(hF:nQ F)(N:Nat):FD E0:={f:=167,fn:=Tryz.f167,q:=BF,loops:=[{cur:=0,live:=[1,2,8,9,15,16,17],out:=fun | .exit 0=>([1,8,9],[]) | .ret=>([6,7],[])|_=>([],[]),q:=⟨[.b,.t .str,.i .i64,.i .i64,.t .state,.i .i64,.i .i64],[]⟩,G:=fun R K n a b c d e g h=>gA F N a b e g (pK ⟨[.b,.i .i64,.i .i64],[]⟩ (K (.exit 0)) a) (pK ⟨[.i .i64,.b],[]⟩ (K .ret)) n c d h,B:=fun R K rec a b c d e g h=>lP F N a b e g (pK ⟨[.b,.i .i64,.i .i64],[]⟩ (K (.exit 0)) a) (pK ⟨[.i .i64,.b],[]⟩ (K .ret)) (fun c d h=>rec a b c d e g h) c d h}],g:=[⟨vG F,hF.sound_active⟩,OD N]}
theorem Hq(F:cI)(hF:nQ F)(N:Nat):Ct.ok E0 ⟨(vH F hF N).f,(vH F hF N).q,fun R k a b c=>mr F N a b c (oK ⟨.tp [.i .i64,.b],[],[]⟩ k)⟩:=FD.ct e0 (vH F hF N) N (fun R k a b c=>mr F N a b c (oK ⟨.tp [.i .i64,.b],[],[]⟩ k))
def AO(F:cI)(N:Nat):cI where
 sound_active:=fun R l all set_ j=>mr F N l all set_ j
def cc(N:Nat):Nat→cI
 |0=>{sound_active:=fun _ _ _ _ _=>none}
 |d+1=>AO (cc N d) N
theorem qg(N:Nat):∀d,nQ (cc N d)
 |0=>{sound_active:=Ct.ok_none}
 |d+1=>{sound_active:=Hq _ (qg N d) N}
def sound_active(N:Nat)(l:List State)(all:Bool)(set_:List ae)(j:Int→Bool→ab R):ab R:=(cc N N).sound_active R l all set_ j
theorem IH(N d:Nat)(l:List State)(all:Bool)(set_:List ae)(k0:Int→Bool→ab R):(cc N (d+1)).sound_active R l all set_ k0=mr (cc N d) N l all set_ k0:=rfl
def JY(N:Nat):OC E0:=⟨vG (cc N N),(qg N N).sound_active⟩
def ui(N:Nat)(l:List State)(set_:List ae)(j:Bool→ab R):ab R:=
 sound_active N l false set_ (fun o C=>
 (ifB C true (some (o==((set_.length:Nat):Int))) (some false)).bind fun I=>
 j I)
def JZ(N:Nat):FD E0:={f:=140,fn:=Tryz.f140,q:=⟨[.t .state,.t .str],[]⟩,g:=[JY N]}
def Ka(N:Nat):OC E0:=⟨_,FD.ct e0 (JZ N) N (fun R k a b=>ui N a b (oK ⟨.b,[],[]⟩ k))⟩
def z36:ShO S:=.bx [.st,.st,.st,.st,.t .str,.t .str,.t .cell,.i .i64]
def z37:ShO S:=.bx [.i .i64,.t .strs,.t .strs,.i .i64]
end
end So
