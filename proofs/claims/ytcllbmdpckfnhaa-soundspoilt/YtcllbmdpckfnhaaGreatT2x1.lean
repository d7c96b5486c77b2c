/- T2_1: a part of the proof of SoundSpoilt: lemmas on the evaluator and on the functions that the law reaches. -/
import Derived.Test.YtcllbmdpckfnhaaGreatT1x1
set_option maxRecDepth 100000
set_option linter.unusedVariables false
namespace So
open Go TE Go.Proofs
noncomputable section
variable{R:Type}
def z2:ShO S:=.bx [.t .tok,.i .i64,.i .i64,.i .i64]
def Lh(N:Nat)(l:List Token)(at_ Code At:Int)(j:Bool→ab R):ab R:=
 j (Code==0)
def IC(N:Nat):FD E0:={f:=26,fn:=Tryz.f26,q:=⟨[.p 0 0 0],[z2]⟩}
def eT(N:Nat):OC E0:=⟨_,FD.ctq e0 (IC N) N (fun R k a b c d=>Lh N a b c d (oQ ⟨.b,[],[]⟩ k))⟩
def py(N:Nat)(l:List Token)(at_:Int)(s:ae)(j:Bool→ab R):ab R:=
 (ifB (decide (at_<((l.length:Nat):Int))) true ((at? l at_).bind fun o=>
 (ifB (o.Kind==3) false ((at? l at_).bind fun C=>
 some (C.Kind==1)) (some true)).bind fun I=>
 some I) (some false)).bind fun J=>
 (ifB J true ((at? l at_).bind fun U=>
 some (U.Text==s)) (some false)).bind fun c6=>
 j c6
def Yd(N:Nat):FD E0:={f:=54,fn:=Tryz.f54,q:=⟨[.t .tok,.i .i64,.st],[]⟩}
def rS(N:Nat):OC E0:=⟨_,FD.ct e0 (Yd N) N (fun R k a b c=>py N a b c (oK ⟨.b,[],[]⟩ k))⟩
def oR(N:Nat)(l:List Token)(at_:Int)(j:Int→Int→ab R):ab R:=
 (at? l at_).bind fun o=>
 if(o.Kind==4)=true then
 ((at? l at_).bind fun C=>
 j 12 C.At)
 else
 ((at? l at_).bind fun I=>
 j 11 I.At)
def Ws(N:Nat):FD E0:={f:=27,fn:=Tryz.f27,q:=⟨[.t .tok,.i .i64],[]⟩}
def kO(N:Nat):OC E0:=⟨_,FD.ct e0 (Ws N) N (fun R k a b=>oR N a b (oK ⟨.ag [.i .i64,.i .i64],[],[]⟩ k))⟩
def jV(N:Nat)(I:List Token)(j C J:Int)(o:Int→ab R):ab R:=
 if(C==0)=true then
 (o (IntKind.wrap .i64 (j+1)))
 else
 (o j)
def ax(N:Nat)(s:ae)(l:List Token)(at_ Code At:Int)(j:Int→Int→Int→ab R):ab R:=
 (ifB (Code==0) true (py N l at_ s (fun I=>
 some (!I))) (some false)).bind fun J=>
 if J=true then
 (oR N l at_ (fun o C=>
 jV N l at_ o C (fun y9=>
 j y9 o C)))
 else
 (jV N l at_ Code At (fun y10=>
 j y10 Code At))
def Fi(N:Nat):FD E0:={f:=18,fn:=Tryz.f18,q:=⟨[.p 0 0 0,.st],[z2]⟩,cuts:=[{key:=2,live:=[0],out:=fun | .normal=>([],[])|_=>([],[]),q:=⟨[.p 0 0 0],[z2]⟩,G:=fun R K a b c d=>jV N a b c d (fun e=>pK ⟨[],[z2]⟩ (K .normal) a e c d)}],g:=[eT N,kO N,rS N]}
def iW(N:Nat):OC E0:=⟨_,FD.ct e0 (Fi N) N (fun R k a b c d e=>ax N a b c d e (oK ⟨.tp [],[z2],[]⟩ k b))⟩
def iX(N:Nat)(C:List Token)(j I U:Int)(o:Int→Int→ab R):ab R:=
 if(!(I==0))=true then
 (o 0 j)
 else
 ((at? C (IntKind.wrap .i64 ((IntKind.wrap .i64 (j+1))-1))).bind fun J=>
 o J.N (IntKind.wrap .i64 (j+1)))
def cp(N:Nat)(l:List Token)(at_ Code At:Int)(j:Int→Int→Int→Int→ab R):ab R:=
 (ifB (Code==0) true ((at? l at_).bind fun I=>
 some (I.Kind != 2)) (some false)).bind fun J=>
 if J=true then
 (oR N l at_ (fun o C=>
 iX N l at_ o C (fun y10 y11=>
 j y10 y11 o C)))
 else
 (iX N l at_ Code At (fun y12 y13=>
 j y12 y13 Code At))
def CP(N:Nat):FD E0:={f:=19,fn:=Tryz.f19,q:=⟨[.p 0 0 0],[z2]⟩,cuts:=[{key:=3,live:=[0],out:=fun | .ret=>([2],[])|_=>([],[]),q:=⟨[.p 0 0 0],[z2]⟩,G:=fun R K a b c d=>iX N a b c d (fun e g=>pK ⟨[.i .i64],[z2]⟩ (K .ret) e a g c d)}],g:=[eT N,kO N]}
def jv(N:Nat):OC E0:=⟨_,FD.ct e0 (CP N) N (fun R k a b c d=>cp N a b c d (fun e=>oK ⟨.i .i64,[z2],[]⟩ k e a))⟩
def bT(N:Nat)(s:ae)(l:List Token)(at_ Code At:Int)(j:Bool→ab R):ab R:=
 (ifB (Code==0) true (py N l at_ s (fun o=>
 some o)) (some false)).bind fun C=>
 j C
def ID(N:Nat):FD E0:={f:=20,fn:=Tryz.f20,q:=⟨[.p 0 0 0,.st],[z2]⟩,g:=[eT N,rS N]}
def kP(N:Nat):OC E0:=⟨_,FD.ctq e0 (ID N) N (fun R k a b c d e=>bT N a b c d e (oQ ⟨.b,[],[]⟩ k))⟩
def jW(N:Nat)(C:List Token)(I j J:Int)(o:Bool→ab R):ab R:=
 o (!(j==0))
def eU(N:Nat)(n_ most:Int)(l:List Token)(at_ Code At:Int)(j:Bool→Int→Int→ab R):ab R:=
 (ifB (Code==0) true (some (n_==most)) (some false)).bind fun C=>
 if C=true then
 ((at? l at_).bind fun o=>
 jW N l at_ 15 o.At (fun y7=>
 j y7 15 o.At))
 else
 (jW N l at_ Code At (fun y8=>
 j y8 Code At))
def Fj(N:Nat):FD E0:={f:=21,fn:=Tryz.f21,q:=⟨[.p 0 0 0,.i .i64,.i .i64],[z2]⟩,cuts:=[{key:=3,live:=[0],out:=fun | .ret=>([6],[])|_=>([],[]),q:=⟨[.p 0 0 0],[z2]⟩,G:=fun R K a b c d=>jW N a b c d (fun e=>pK ⟨[.b],[z2]⟩ (K .ret) e a b c d)}],g:=[eT N]}
def xd(N:Nat):OC E0:=⟨_,FD.ct e0 (Fj N) N (fun R k a b c d e g=>eU N a b c d e g (fun h=>oK ⟨.b,[z2],[]⟩ k h c d))⟩
def MV(N:Nat)(l:List Token)(at_ Code At:Int)(j:Bool→ab R):ab R:=
 j (Code==0)
def JM(N:Nat):FD E0:={f:=121,fn:=Tryz.f121,q:=⟨[.p 0 0 0],[z2]⟩}
def hO(N:Nat):OC E0:=⟨_,FD.ctq e0 (JM N) N (fun R k a b c d=>MV N a b c d (oQ ⟨.b,[],[]⟩ k))⟩
def lJ(N:Nat)(I:List Token)(j C J:Int)(o:Int→ab R):ab R:=
 if(C==0)=true then
 (o (IntKind.wrap .i64 (j+1)))
 else
 (o j)
def bu(N:Nat)(s:ae)(l:List Token)(at_ Code At:Int)(j:Int→Int→Int→ab R):ab R:=
 (ifB (Code==0) true (py N l at_ s (fun I=>
 some (!I))) (some false)).bind fun J=>
 if J=true then
 (oR N l at_ (fun o C=>
 lJ N l at_ o C (fun y9=>
 j y9 o C)))
 else
 (lJ N l at_ Code At (fun y10=>
 j y10 Code At))
def He(N:Nat):FD E0:={f:=116,fn:=Tryz.f116,q:=⟨[.p 0 0 0,.st],[z2]⟩,cuts:=[{key:=2,live:=[0],out:=fun | .normal=>([],[])|_=>([],[]),q:=⟨[.p 0 0 0],[z2]⟩,G:=fun R K a b c d=>lJ N a b c d (fun e=>pK ⟨[],[z2]⟩ (K .normal) a e c d)}],g:=[kO N,rS N,hO N]}
def hH(N:Nat):OC E0:=⟨_,FD.ct e0 (He N) N (fun R k a b c d e=>bu N a b c d e (oK ⟨.tp [],[z2],[]⟩ k b))⟩
def z3:ShO S:=.bx [.st,.st,.st,.st,.st,.st,.st,.st,.st,.st,.st,.st,.st,.st,.st,.st,.st,.st,.st,.st,.st,.st,.st,.st,.st,.st,.st,.st,.st,.st,.st,.st,.st,.st,.st]
def ry(N:Nat)(o C I J U b9 j6 j7 j8 j9 k5 k7 k8 k9 l7 l9 m0 m3 m4 m5 m6 m7 m8 m9 n9 o0 o5 o6 o7 o8 o9 p5 p6 p7 p8 p9:ae)(q8:ab R)(q9:Bool→ab R)(rec:Int→ab R)(j:Int):ab R:=
 if(decide (j<35))=true then
 (if(0:Int)≤j∧j<((35:Nat):Int) then((([C,I,J,U,b9,j6,j7,j8,j9,k5,k7,k8,k9,l7,l9,m0,m3,m4,m5,m6,m7,m8,m9,n9,o0,o5,o6,o7,o8,o9,p5,p6,p7,p8,p9]:List ae)[(0+Int.toNat j*1)]?).bind fun s8=>
 if(s8==o)=true then
 (q9 true)
 else
 (rec (IntKind.wrap .i64 (j+1)))) else none)
 else
 (q8 )
def lY(N:Nat)(j o C I J U b9 j6 j7 j8 j9 k5 k7 k8 k9 l7 l9 m0 m3 m4 m5 m6 m7 m8 m9 n9 o0 o5 o6 o7 o8 o9 p5 p6 p7 p8:ae)(p9:ab R)(q8:Bool→ab R):Nat→Int→ab R
 |0=>fun _=>none
 |n+1=>fun q9=>ry N j o C I J U b9 j6 j7 j8 j9 k5 k7 k8 k9 l7 l9 m0 m3 m4 m5 m6 m7 m8 m9 n9 o0 o5 o6 o7 o8 o9 p5 p6 p7 p8 p9 q8 (lY N j o C I J U b9 j6 j7 j8 j9 k5 k7 k8 k9 l7 l9 m0 m3 m4 m5 m6 m7 m8 m9 n9 o0 o5 o6 o7 o8 o9 p5 p6 p7 p8 p9 q8 n) q9
def xe(N:Nat)(s:ae)(j:Bool→ab R):ab R:=
 lY N s [115,121,115,116,101,109] [97,103,101] [99,104,97,114,116] [115,116,101,112,115] [102,117,101,108] [118,97,114] [112,111,114,116] [116,105,109,101,114] [115,116,97,116,101] [112,97,114,97,108,108,101,108] [104,105,115,116,111,114,121] [100,101,101,112] [101,110,116,114,121] [101,120,105,116] [111,110] [97,117,116,111] [114,97,105,115,101] [115,101,110,100] [97,114,109] [99,97,110,99,101,108] [105,102] [101,108,115,101] [108,111,111,112] [105,110] [105,110,115,116] [113,117,97,110,116,117,109] [101,120,116] [112,114,105,111] [99,104,97,110] [99,97,112] [99,101,114,116] [105,110,115,116,115] [99,104,97,110,115] [99,101,108,108] [111,102,102] (j false)
 (fun o=>
 j o) N 0
def Li(N:Nat):FD E0:={f:=164,fn:=Tryz.f164,q:=⟨[.st],[]⟩,loops:=[{cur:=0,live:=[0,3,4],out:=fun | .exit 0=>([],[]) | .ret=>([2],[])|_=>([],[]),q:=⟨[.st,.p 0 0 0,.i .i64],[z3]⟩,G:=fun R K n a b c d e g h i j l m o p q s t u v w x y z a1 b1 c1 d1 e1 g1 h1 i1 j1 l1 m1 o1 p1 q1 s1=>lY N a c d e g h i j l m o p q s t u v w x y z a1 b1 c1 d1 e1 g1 h1 i1 j1 l1 m1 o1 p1 q1 s1 (pK ⟨[],[]⟩ (K (.exit 0))) (pK ⟨[.b],[]⟩ (K .ret)) n b,B:=fun R K rec a b c d e g h i j l m o p q s t u v w x y z a1 b1 c1 d1 e1 g1 h1 i1 j1 l1 m1 o1 p1 q1 s1=>ry N a c d e g h i j l m o p q s t u v w x y z a1 b1 c1 d1 e1 g1 h1 i1 j1 l1 m1 o1 p1 q1 s1 (pK ⟨[],[]⟩ (K (.exit 0))) (pK ⟨[.b],[]⟩ (K .ret)) (fun b=>rec a b c d e g h i j l m o p q s t u v w x y z a1 b1 c1 d1 e1 g1 h1 i1 j1 l1 m1 o1 p1 q1 s1) b}]}
def Lj(N:Nat):OC E0:=⟨_,FD.ct e0 (Li N) N (fun R k a=>xe N a (oK ⟨.b,[],[]⟩ k))⟩
def sD(N:Nat)(l:List Token)(at_:Int)(j:Bool→ab R):ab R:=
 (ifB (decide (at_<((l.length:Nat):Int))) true ((at? l at_).bind fun o=>
 some (o.Kind==1)) (some false)).bind fun C=>
 (ifB C true ((at? l at_).bind fun I=>
 xe N I.Text (fun J=>
 some (!J))) (some false)).bind fun U=>
 j U
def Rc(N:Nat):FD E0:={f:=122,fn:=Tryz.f122,q:=⟨[.t .tok,.i .i64],[]⟩,g:=[Lj N]}
def zC(N:Nat):OC E0:=⟨_,FD.ct e0 (Rc N) N (fun R k a b=>sD N a b (oK ⟨.b,[],[]⟩ k))⟩
def lK(N:Nat)(C:List Token)(j I U:Int)(o:ae→Int→ab R):ab R:=
 if(!(I==0))=true then
 (o [] j)
 else
 ((at? C (IntKind.wrap .i64 ((IntKind.wrap .i64 (j+1))-1))).bind fun J=>
 o J.Text (IntKind.wrap .i64 (j+1)))
def er(N:Nat)(l:List Token)(at_ Code At:Int)(j:ae→Int→Int→Int→ab R):ab R:=
 (ifB (Code==0) true (sD N l at_ (fun I=>
 some (!I))) (some false)).bind fun J=>
 if J=true then
 (oR N l at_ (fun o C=>
 lK N l at_ o C (fun y10 y11=>
 j y10 y11 o C)))
 else
 (lK N l at_ Code At (fun y12 y13=>
 j y12 y13 Code At))
def Hf(N:Nat):FD E0:={f:=117,fn:=Tryz.f117,q:=⟨[.p 0 0 0],[z2]⟩,cuts:=[{key:=3,live:=[0],out:=fun | .ret=>([2],[])|_=>([],[]),q:=⟨[.p 0 0 0],[z2]⟩,G:=fun R K a b c d=>lK N a b c d (fun e g=>pK ⟨[.st],[z2]⟩ (K .ret) e a g c d)}],g:=[kO N,hO N,zC N]}
def jB(N:Nat):OC E0:=⟨_,FD.ct e0 (Hf N) N (fun R k a b c d=>er N a b c d (fun e=>oK ⟨.st,[z2],[]⟩ k e a))⟩
def jw(N:Nat)(C:List Token)(j I U:Int)(o:Int→Int→ab R):ab R:=
 if(!(I==0))=true then
 (o 0 j)
 else
 ((at? C (IntKind.wrap .i64 ((IntKind.wrap .i64 (j+1))-1))).bind fun J=>
 o J.N (IntKind.wrap .i64 (j+1)))
def hI(N:Nat)(l:List Token)(at_ Code At:Int)(j:Int→Int→Int→Int→ab R):ab R:=
 (ifB (Code==0) true ((at? l at_).bind fun I=>
 some (I.Kind != 2)) (some false)).bind fun J=>
 if J=true then
 (oR N l at_ (fun o C=>
 jw N l at_ o C (fun y10 y11=>
 j y10 y11 o C)))
 else
 (jw N l at_ Code At (fun y12 y13=>
 j y12 y13 Code At))
def DJ(N:Nat):FD E0:={f:=118,fn:=Tryz.f118,q:=⟨[.p 0 0 0],[z2]⟩,cuts:=[{key:=3,live:=[0],out:=fun | .ret=>([2],[])|_=>([],[]),q:=⟨[.p 0 0 0],[z2]⟩,G:=fun R K a b c d=>jw N a b c d (fun e g=>pK ⟨[.i .i64],[z2]⟩ (K .ret) e a g c d)}],g:=[kO N,hO N]}
def vi(N:Nat):OC E0:=⟨_,FD.ct e0 (DJ N) N (fun R k a b c d=>hI N a b c d (fun e=>oK ⟨.i .i64,[z2],[]⟩ k e a))⟩
def bf(N:Nat)(s:ae)(l:List Token)(at_ Code At:Int)(j:Bool→ab R):ab R:=
 (ifB (Code==0) true (py N l at_ s (fun o=>
 some o)) (some false)).bind fun C=>
 j C
def JN(N:Nat):FD E0:={f:=161,fn:=Tryz.f161,q:=⟨[.p 0 0 0,.st],[z2]⟩,g:=[rS N,hO N]}
def lZ(N:Nat):OC E0:=⟨_,FD.ctq e0 (JN N) N (fun R k a b c d e=>bf N a b c d e (oQ ⟨.b,[],[]⟩ k))⟩
def gD(N:Nat)(j9:ae)(U:Bool)(b9:List Token)(j6 j7 j8:Int)(k5:List ai)(k7:ae)(k8 k9:Int)(j:Int→Int→Int→Int→ab R):ab R:=
 hI N b9 j6 j7 j8 (fun o C I J=>
 if U=true then
 (j C I J (IntKind.wrap .i64 (0-o)))
 else
 (j C I J o))
def eN(N:Nat)(k7:ae)(J:List Token)(U b9 j6:Int)(j:List ai)(o:ae)(C I:Int)(j7:Int→Int→Int→(List ai)→ab R):ab R:=
 bu N [59] J U b9 j6 (fun j8 j9 k5=>
 if j.length+[(⟨o,C,I⟩:ai)].length≤ah then(j7 j8 j9 k5 (j++[(⟨o,C,I⟩:ai)])) else none)
def ma(N:Nat)(o:ae)(j:List Token)(l7:Int→Int→Int→(List ai)→ab R)(rec:Int→Int→Int→(List ai)→ab R)(U b9 j6:Int)(C:List ai):ab R:=
 bf N o j U b9 j6 (fun r7=>
 if r7=true then
 ((at? j (IntKind.wrap .i64 (U+1))).bind fun I=>
 er N j (IntKind.wrap .i64 (U+1)) b9 j6 (fun J k7 k8 k9=>
 if(o==([118,97,114]:ae))=true then
 (bu N [61] j k7 k8 k9 (fun j7 j8 j9=>
 bf N [45] j j7 j8 j9 (fun k5=>
 if k5=true then
 (gD N o k5 j (IntKind.wrap .i64 (j7+1)) j8 j9 C J 0 I.At (fun m0 m3 m4 m5=>
 eN N o j m0 m3 m4 C J m5 I.At (fun m6 m7 m8 m9=>
 rec m6 m7 m8 m9)))
 else
 (gD N o k5 j j7 j8 j9 C J 0 I.At (fun n9 o0 o5 o6=>
 eN N o j n9 o0 o5 C J o6 I.At (fun o7 o8 o9 p5=>
 rec o7 o8 o9 p5))))))
 else
 (eN N o j k7 k8 k9 C J 0 I.At (fun p6 p7 p8 p9=>
 rec p6 p7 p8 p9))))
 else
 (l7 U b9 j6 C))
def hP(N:Nat)(j:ae)(o:List Token)(C:Int→Int→Int→(List ai)→ab R):Nat→Int→Int→Int→(List ai)→ab R
 |0=>fun _ _ _ _=>none
 |n+1=>fun I J U b9=>ma N j o C (hP N j o C n) I J U b9
def iQ(N:Nat)(word:ae)(l:List Token)(at_ Code At:Int)(j:(List ai)→Int→Int→Int→ab R):ab R:=
 hP N word l (fun o C I J=>
 j J o C I) N at_ Code At ([]:List ai)
def Fk(N:Nat):FD E0:={f:=119,fn:=Tryz.f119,q:=⟨[.p 0 0 0,.st],[z2]⟩,loops:=[{cur:=0,live:=[0,1,5],fix:=[(⟨5,[]⟩,.row .named .app)],out:=fun | .exit 0=>([5],[])|_=>([],[]),q:=⟨[.p 0 0 0,.st,.sw 1],[z2,.rw .named .app]⟩,G:=fun R K n a b c d e g=>hP N a b (pK ⟨[.sw 1],[z2,.rw .named .app]⟩ (K (.exit 0)) b) n c d e g,B:=fun R K rec a b c d e g=>ma N a b (pK ⟨[.sw 1],[z2,.rw .named .app]⟩ (K (.exit 0)) b) (rec a b) c d e g}],cuts:=[{key:=11,live:=[0,1,5,6,7],fix:=[(⟨5,[]⟩,.row .named .app)],out:=fun | .normal=>([0,1,5,6],[])|_=>([],[]),q:=⟨[.p 0 0 0,.st,.sw 1,.p 2 0 0,.b],[z2,.rw .named .app,.bx [.st,.i .i64,.i .i64]]⟩,G:=fun R K a b c d e g h i j l=>gD N a b c d e g h i j l (fun m o p q=>pK ⟨[.p 0 0 0,.st,.sw 1,.p 2 0 0],[z2,.rw .named .app,.bx [.st,.i .i64,.i .i64]]⟩ (K .normal) a c m o p h i q l)},{key:=14,live:=[0,1,5,6],out:=fun | .normal=>([0,1,5],[])|_=>([],[]),q:=⟨[.p 0 0 0,.st,.sw 1,.p 2 0 0],[z2,.rw .named .app,.bx [.st,.i .i64,.i .i64]]⟩,G:=fun R K a b c d e g h i j=>eN N a b c d e g h i j (pK ⟨[.p 0 0 0,.st,.sw 1],[z2,.rw .named .app]⟩ (K .normal) a b)}],g:=[hH N,jB N,vi N,lZ N],exit:=[(⟨4,[]⟩,.tree .named)]}
def Fl(N:Nat):OC E0:=⟨_,FD.ct e0 (Fk N) N (fun R k a b c d e=>iQ N a b c d e (fun g=>oK ⟨.t .named,[z2],[]⟩ k g b))⟩
def z4:ShO S:=.bx [.i .i64,.st,.ns,.ns,.ns,.ns,.i .i64]
def y2:Sh S:=.ag [.i .i64,.st,.t .act,.t .act,.t .trans,.t .state,.i .i64]
def fJ(N:Nat)(j:List Token)(o C I k7:Int)(k8:ae)(k9 l7:Int)(l9:ae)(m0:Int)(J:Int→Int→Int→ae→ab R):ab R:=
 er N j (IntKind.wrap .i64 (o+1)) C I (fun U b9 j6 j7=>
 bu N [59] j b9 j6 j7 (fun j8 j9 k5=>
 J j8 j9 k5 U))
def lL(N:Nat)(l:List Token)(at_ Code At:Int)(o:Int→ae→(List Act)→(List Act)→(List Trans)→(List State)→Int→Int→Int→Int→ab R):ab R:=
 (at? l at_).bind fun j=>
 bf N [100,101,101,112] l at_ Code At (fun C=>
 if C=true then
 (fJ N l at_ Code At 0 [] 0 4 [] j.At (fun y20 y21 y22 y23=>
 o 4 y23 ([]:List Act) ([]:List Act) ([]:List Trans) ([]:List State) j.At y20 y21 y22))
 else
 (fJ N l at_ Code At 0 [] 0 3 [] j.At (fun y24 y25 I J=>
 o 3 J ([]:List Act) ([]:List Act) ([]:List Trans) ([]:List State) j.At y24 y25 I)))
def CQ(N:Nat):FD E0:={f:=162,fn:=Tryz.f162,q:=⟨[.p 0 0 0],[z2]⟩,cuts:=[{key:=4,live:=[0,2,3],out:=fun | .ret=>([2],[])|_=>([],[]),q:=⟨[.p 0 0 0,.p 1 0 0,.p 2 0 0],[z2,z4,z4]⟩,G:=fun R K a b c d e g h i j l=>fJ N a b c d e g h i j l (fun m o p q=>pK ⟨[.p 1 0 0],[z2,z4]⟩ (K .ret) a m o p i q l)}],g:=[hH N,jB N,lZ N],exit:=[(⟨2,[2]⟩,.tree .act),(⟨2,[3]⟩,.tree .act),(⟨2,[4]⟩,.tree .trans),(⟨2,[5]⟩,.tree .state)]}
def CS(N:Nat):OC E0:=⟨_,FD.ct e0 (CQ N) N (fun R k a b c d=>lL N a b c d (fun e g h i j l m=>oK ⟨y2,[z2],[]⟩ k e g h i j l m a))⟩
def y3:Sh S:=.tp [.i .i64,.ag [.i .i64,.i .i64]]
def zD(N:Nat)(l:List Token)(at_:Int)(s:ae)(j:Int→Int→Int→ab R):ab R:=
 py N l at_ s (fun o=>
 if(!o)=true then
 (oR N l at_ (fun C I=>
 j 0 C I))
 else
 (j (IntKind.wrap .i64 (at_+1)) 0 0))
def Ut(N:Nat):FD E0:={f:=219,fn:=Tryz.f219,q:=⟨[.t .tok,.i .i64,.st],[]⟩,g:=[kO N,rS N]}
def Hg(N:Nat):OC E0:=⟨_,FD.ct e0 (Ut N) N (fun R k a b c=>zD N a b c (oK ⟨y3,[],[]⟩ k))⟩
def z5:ShO S:=.bx [.t .tok,.i .i64,.i .i64,.i .i64,.i .i64]
def gQ(N:Nat)(s:ae)(l:List Token)(at_ open_ Code At:Int)(j:Bool→ab R):ab R:=
 py N l at_ s (fun o=>
 j o)
def JO(N:Nat):FD E0:={f:=222,fn:=Tryz.f222,q:=⟨[.p 0 0 0,.st],[z5]⟩,g:=[rS N]}
def vj(N:Nat):OC E0:=⟨_,FD.ctq e0 (JO N) N (fun R k a b c d e g=>gQ N a b c d e g (oQ ⟨.b,[],[]⟩ k))⟩
def y4:Sh S:=.ag [.i .i64,.i .i64,.st,.t .expr,.i .i64]
def gw(N:Nat)(l:List Token)(at_ open_ Code At:Int)(j:Int→Int→ae→(List Expr)→Int→Int→Int→ab R):ab R:=
 if(Code==0)=true then
 (oR N l at_ (fun o C=>
 j 0 0 [] ([]:List Expr) 0 o C))
 else
 (j 0 0 [] ([]:List Expr) 0 Code At)
def Fm(N:Nat):FD E0:={f:=227,fn:=Tryz.f227,q:=⟨[.p 0 0 0],[z5]⟩,g:=[kO N],exit:=[(⟨2,[3]⟩,.tree .expr)]}
def xf(N:Nat):OC E0:=⟨_,FD.ct e0 (Fm N) N (fun R k a b c d e=>gw N a b c d e (fun g h i j l=>oK ⟨y4,[z5],[]⟩ k g h i j l a b c))⟩
def jC(N:Nat)(s:ae)(l:List Token)(at_ open_ Code At:Int)(j:Int→Int→Int→ab R):ab R:=
 if(Code != 0)=true then
 (j at_ Code At)
 else
 (gQ N s l at_ open_ Code At (fun o=>
 if(!o)=true then
 (gw N l at_ open_ Code At (fun J U r4 r5 r6 C I=>
 j at_ C I))
 else
 (j (IntKind.wrap .i64 (at_+1)) Code At)))
def Hh(N:Nat):FD E0:={f:=226,fn:=Tryz.f226,q:=⟨[.p 0 0 0,.st],[z5]⟩,g:=[vj N,xf N]}
def Hi(N:Nat):OC E0:=⟨_,FD.ct e0 (Hh N) N (fun R k a b c d e g=>jC N a b c d e g (fun h=>oK ⟨.tp [],[z5],[]⟩ k b h d))⟩
def kQ(N:Nat)(l:List Token)(at_ open_ Code At:Int)(j:Bool→Int→Int→Int→Int→ab R):ab R:=
 if(open_==12)=true then
 ((at? l at_).bind fun o=>
 j false at_ open_ 14 o.At)
 else
 (j true (IntKind.wrap .i64 (at_+1)) (IntKind.wrap .i64 (open_+1)) Code At)
def Fo(N:Nat):FD E0:={f:=224,fn:=Tryz.f224,q:=⟨[.p 0 0 0],[z5]⟩}
def xg(N:Nat):OC E0:=⟨_,FD.ct e0 (Fo N) N (fun R k a b c d e=>kQ N a b c d e (fun g=>oK ⟨.b,[z5],[]⟩ k g a))⟩
def vk(N:Nat)(level own kind:Int)(j:Int→ab R):ab R:=
 if(level==own)=true then
 (j kind)
 else
 (j 0)
def Ye(N:Nat):FD E0:={f:=225,fn:=Tryz.f225,q:=⟨[.i .i64,.i .i64,.i .i64],[]⟩}
def Yf(N:Nat):OC E0:=⟨_,FD.ct e0 (Ye N) N (fun R k a b c=>vk N a b c (oK ⟨.i .i64,[],[]⟩ k))⟩
def IZ(N:Nat)(level:Int)(s:ae)(j:Int→ab R):ab R:=
 if(s==([124,124]:ae))=true then
 (vk N level 1 19 (fun o=>
 j o))
 else
 (if(s==([38,38]:ae))=true then
 (vk N level 2 18 (fun C=>
 j C))
 else
 (if(s==([60]:ae))=true then
 (vk N level 3 12 (fun I=>
 j I))
 else
 (if(s==([60,61]:ae))=true then
 (vk N level 3 13 (fun J=>
 j J))
 else
 (if(s==([62]:ae))=true then
 (vk N level 3 14 (fun U=>
 j U))
 else
 (if(s==([62,61]:ae))=true then
 (vk N level 3 15 (fun r6=>
 j r6))
 else
 (if(s==([61,61]:ae))=true then
 (vk N level 3 16 (fun r7=>
 j r7))
 else
 (if(s==([33,61]:ae))=true then
 (vk N level 3 17 (fun r8=>
 j r8))
 else
 (if(s==([43]:ae))=true then
 (vk N level 4 10 (fun r9=>
 j r9))
 else
 (if(s==([45]:ae))=true then
 (vk N level 4 11 (fun j9=>
 j j9))
 else
 (if(s==([42]:ae))=true then
 (vk N level 5 7 (fun k5=>
 j k5))
 else
 (if(s==([47]:ae))=true then
 (vk N level 5 8 (fun k7=>
 j k7))
 else
 (if(s==([37]:ae))=true then
 (vk N level 5 9 (fun k8=>
 j k8))
 else
 (j 0)))))))))))))
def Uu(N:Nat):FD E0:={f:=221,fn:=Tryz.f221,q:=⟨[.i .i64,.st],[]⟩,g:=[Yf N]}
def Uv(N:Nat):OC E0:=⟨_,FD.ct e0 (Uu N) N (fun R k a b=>IZ N a b (oK ⟨.i .i64,[],[]⟩ k))⟩
structure ay where
 r7_reader_binary:(R:Type)→Int→(List Token)→Int→Int→Int→Int→(Int→Int→ae→(List Expr)→Int→Int→Int→Int→Int→ab R)→ab R
 r7_reader_unary:(R:Type)→(List Token)→Int→Int→Int→Int→(Int→Int→ae→(List Expr)→Int→Int→Int→Int→Int→ab R)→ab R
 r7_reader_prim:(R:Type)→(List Token)→Int→Int→Int→Int→(Int→Int→ae→(List Expr)→Int→Int→Int→Int→Int→ab R)→ab R
def vl:Pat S:=⟨[.p 0 0 0,.i .i64],[z5]⟩
def jX(F:ay):Ct S:=⟨214,vl,fun R k a b c d e g=>F.r7_reader_binary R a b c d e g (fun h i j l m=>oK ⟨y4,[z5],[]⟩ k h i j l m b)⟩
def xh:Pat S:=⟨[.p 0 0 0],[z5]⟩
def pS(F:ay):Ct S:=⟨220,xh,fun R k a b c d e=>F.r7_reader_unary R a b c d e (fun g h i j l=>oK ⟨y4,[z5],[]⟩ k g h i j l a)⟩
def yJ:Pat S:=⟨[.p 0 0 0],[z5]⟩
def yK(F:ay):Ct S:=⟨223,yJ,fun R k a b c d e=>F.r7_reader_prim R a b c d e (fun g h i j l=>oK ⟨y4,[z5],[]⟩ k g h i j l a)⟩
structure cf(F:ay):Prop where
 r7_reader_binary:(jX F).ok E0
 r7_reader_unary:(pS F).ok E0
 r7_reader_prim:(yK F).ok E0
def z6:ShO S:=.bx [.i .i64,.i .i64,.st,.ns,.i .i64]
def z7:ShO S:=.bx [.i .i64,.i .i64,.st,.t .expr,.i .i64]
def z8:ShO S:=.bx [.i .i64,.i .i64,.st,.sw 2,.i .i64]
def lu(F:ay)(N:Nat)(j7:Int)(o:List Token)(o7 o8:Int)(o9:ae)(p5:Int)(m7 m8:Int→Int→Int→Int→Int→Int→ae→(List Expr)→Int→ab R)(m9:Int→Int→Int→Int→Int→Int→ae→Int→(List Expr)→ab R)(rec:Int→Int→Int→Int→Int→Int→ae→(List Expr)→Int→ab R)(j j8 C j9 I J:Int)(U:ae)(b9:List Expr)(j6:Int):ab R:=
 (ifB (C==0) true (some (decide (j<((o.length:Nat):Int)))) (some false)).bind fun n9=>
 (ifB n9 true ((at? o j).bind fun o0=>
 some (o0.Kind==3)) (some false)).bind fun o5=>
 if o5=true then
 ((at? o j).bind fun o6=>
 IZ N j7 o6.Text (fun k5=>
 if(k5==0)=true then
 (m8 j j8 C j9 I J U b9 j6)
 else
 ((at? o j).bind fun k7=>
 F.r7_reader_binary _ (IntKind.wrap .i64 (j7+1)) o (IntKind.wrap .i64 (j+1)) j8 C j9 (fun k8 k9 l7 l9 m0 m3 m4 m5 m6=>
 if(j7==3)=true then
 (m9 m3 m4 m5 m6 k5 0 [] k7.At [(⟨I,J,U,b9,j6⟩:Expr),(⟨k8,k9,l7,l9,m0⟩:Expr)])
 else
 (rec m3 m4 m5 m6 k5 0 [] [(⟨I,J,U,b9,j6⟩:Expr),(⟨k8,k9,l7,l9,m0⟩:Expr)] k7.At)))))
 else
 (m7 j j8 C j9 I J U b9 j6)
def gE(F:ay)(N:Nat)(j:Int)(o:List Token)(C I:Int)(J:ae)(U:Int)(b9 j6:Int→Int→Int→Int→Int→Int→ae→(List Expr)→Int→ab R)(j7:Int→Int→Int→Int→Int→Int→ae→Int→(List Expr)→ab R):Nat→Int→Int→Int→Int→Int→Int→ae→(List Expr)→Int→ab R
 |0=>fun _ _ _ _ _ _ _ _ _=>none
 |n+1=>fun j8 j9 k5 k7 k8 k9 l7 l9 m0=>lu F N j o C I J U b9 j6 j7 (gE F N j o C I J U b9 j6 j7 n) j8 j9 k5 k7 k8 k9 l7 l9 m0
def hR(F:ay)(N:Nat)(level:Int)(l:List Token)(at_ open_ Code At:Int)(j:Int→Int→ae→(List Expr)→Int→Int→Int→Int→Int→ab R):ab R:=
 if(level==6)=true then
 (F.r7_reader_unary _ l at_ open_ Code At (fun o C I J U r6 r7 r8 r9=>
 j o C I J U r6 r7 r8 r9))
 else
 (F.r7_reader_binary _ (IntKind.wrap .i64 (level+1)) l at_ open_ Code At (fun j9 k5 k7 k8 k9 l7 l9 m0 m3=>
 gE F N level l 0 0 [] 0 (fun m4 m5 m6 m7 m8 m9 n9 o0 o5=>
 j m8 m9 n9 o0 o5 m4 m5 m6 m7)
 (fun o6 o7 o8 o9 p5 p6 p7 p8 p9=>
 j p5 p6 p7 p8 p9 o6 o7 o8 o9)
 (fun q8 q9 s8 s9 u9 B0 B5 B6 B7=>
 j u9 B0 B5 B7 B6 q8 q9 s8 s9) N l7 l9 m0 m3 j9 k5 k7 k8 k9))
def oS(F:ay)(hF:cf F)(N:Nat):FD E0:={f:=214,fn:=Tryz.f214,q:=vl,loops:=[{cur:=0,live:=[0,1,4,5],fix:=[(⟨5,[3]⟩,.tree .expr)],out:=fun | .exit 0=>([4,5],[]) | .ret=>([4],[])|_=>([],[]),q:=⟨[.p 0 0 0,.i .i64,.p 1 0 0,.p 2 0 0],[z5,z6,z7]⟩,G:=fun R K n a b c d e g h i j l m o p q s=>gE F N a b h i j l (fun t u v w=>pK ⟨[.p 1 0 0,.p 2 0 0],[z5,z6,z7]⟩ (K (.exit 0)) b t u v w h i j l) (pK ⟨[.p 1 0 0],[z5,z7]⟩ (K .ret) b) (pK ⟨[.p 1 0 0],[z5,z8,.rw .expr .app]⟩ (K .ret) b) n c d e g m o p q s,B:=fun R K rec a b c d e g h i j l m o p q s=>lu F N a b h i j l (fun t u v w=>pK ⟨[.p 1 0 0,.p 2 0 0],[z5,z6,z7]⟩ (K (.exit 0)) b t u v w h i j l) (pK ⟨[.p 1 0 0],[z5,z7]⟩ (K .ret) b) (pK ⟨[.p 1 0 0],[z5,z8,.rw .expr .app]⟩ (K .ret) b) (fun c d e g m o p q s=>rec a b c d e g h i j l m o p q s) c d e g m o p q s}],g:=[⟨jX F,hF.r7_reader_binary⟩,⟨pS F,hF.r7_reader_unary⟩,Uv N],exit:=[(⟨4,[3]⟩,.tree .expr)]}
theorem Bj(F:ay)(hF:cf F)(N:Nat):Ct.ok E0 ⟨(oS F hF N).f,(oS F hF N).q,fun R k a b c d e g=>hR F N a b c d e g (fun h i j l m=>oK ⟨y4,[z5],[]⟩ k h i j l m b)⟩:=FD.ct e0 (oS F hF N) N (fun R k a b c d e g=>hR F N a b c d e g (fun h i j l m=>oK ⟨y4,[z5],[]⟩ k h i j l m b))
def hU(F:ay)(N:Nat)(j8:Int)(j:List Token)(o C I J p6 p7:Int)(p8:ae)(p9:Int)(j9:Int→Int→Int→Int→Int→Int→ae→(List Expr)→Int→ab R)(k5:Int→Int→Int→Int→Int→Int→ae→Int→ab R)(k7:Int→Int→Int→Int→Int→ae→Int→(List Expr)→ab R):ab R:=
 if(j8==0)=true then
 (F.r7_reader_prim _ j o C I J (fun k8 k9 l7 l9 m0 m3 m4 m5 m6=>
 j9 m3 m4 m5 m6 k8 k9 l7 l9 m0))
 else
 ((at? j o).bind fun m7=>
 kQ N j o C I J (fun m8 U b9 j6 j7=>
 if(!m8)=true then
 (k5 U b9 j6 j7 0 0 [] 0)
 else
 (F.r7_reader_unary _ j U b9 j6 j7 (fun m9 n9 o0 o5 o6 o7 o8 o9 p5=>
 k7 o7 (IntKind.wrap .i64 (o8-1)) o9 p5 0 [] m7.At [(⟨m9,n9,o0,o5,o6⟩:Expr)]))))
def hY(F:ay)(N:Nat)(U:Int)(j:List Token)(o C I J b9 j6:Int)(j7:ae)(j8:Int)(j9:Int→Int→Int→Int→Int→Int→ae→(List Expr)→Int→ab R)(k5:Int→Int→Int→Int→Int→Int→ae→Int→ab R)(k7:Int→Int→Int→Int→Int→Int→ae→Int→(List Expr)→ab R):ab R:=
 gQ N [33] j o C I J (fun k8=>
 if k8=true then
 (hU F N 6 j o C I J b9 j6 j7 j8 (fun k9 l7 l9 m0 m3 m4 m5 m6 m7=>
 j9 k9 l7 l9 m0 m3 m4 m5 m6 m7)
 (fun m8 m9 n9 o0 o5 o6 o7 o8=>
 k5 m8 m9 n9 o0 o5 o6 o7 o8)
 (fun o9 p5 p6 p7 p8 p9 q8 q9=>
 k7 o9 p5 p6 p7 6 p8 p9 q8 q9))
 else
 (hU F N U j o C I J b9 j6 j7 j8 (fun s8 s9 u9 B0 B5 B6 B7 B8 B9=>
 j9 s8 s9 u9 B0 B5 B6 B7 B8 B9)
 (fun C0 C1 C2 C3 C4 C5 C6 C7=>
 k5 C0 C1 C2 C3 C4 C5 C6 C7)
 (fun C8 C9 D0 D3 D4 D5 D6 D7=>
 k7 C8 C9 D0 D3 U D4 D5 D6 D7)))
def iY(F:ay)(N:Nat)(l:List Token)(at_ open_ Code At:Int)(j:Int→Int→ae→(List Expr)→Int→Int→Int→Int→Int→ab R):ab R:=
 gQ N [45] l at_ open_ Code At (fun o=>
 if o=true then
 (hY F N 5 l at_ open_ Code At 0 0 [] 0 (fun C I J U b9 j6 j7 j8 j9=>
 j b9 j6 j7 j8 j9 C I J U)
 (fun k5 k7 k8 k9 l7 l9 m0 m3=>
 j l7 l9 m0 ([]:List Expr) m3 k5 k7 k8 k9)
 (fun m4 m5 m6 m7 m8 m9 n9 o0 o5=>
 j m8 m9 n9 o5 o0 m4 m5 m6 m7))
 else
 (hY F N 0 l at_ open_ Code At 0 0 [] 0 (fun o6 o7 o8 o9 p5 p6 p7 p8 p9=>
 j p5 p6 p7 p8 p9 o6 o7 o8 o9)
 (fun q8 q9 s8 s9 u9 B0 B5 B6=>
 j u9 B0 B5 ([]:List Expr) B6 q8 q9 s8 s9)
 (fun B7 B8 B9 C0 C1 C2 C3 C4 C5=>
 j C1 C2 C3 C5 C4 B7 B8 B9 C0)))
def pT(F:ay)(hF:cf F)(N:Nat):FD E0:={f:=220,fn:=Tryz.f220,q:=xh,cuts:=[{key:=6,live:=[0,2,3],out:=fun | .ret=>([2],[])|_=>([],[]),q:=⟨[.p 0 0 0,.p 1 0 0,.i .i64],[z5,z6]⟩,G:=fun R K a b c d e g h i j l=>hU F N a b c d e g h i j l (pK ⟨[.p 1 0 0],[z5,z7]⟩ (K .ret) b) (pK ⟨[.p 1 0 0],[z5,z6]⟩ (K .ret) b) (fun m o p q=>pK ⟨[.p 1 0 0],[z5,z8,.rw .expr .app]⟩ (K .ret) b m o p q a)},{key:=4,live:=[0,2,3],out:=fun | .ret=>([2],[])|_=>([],[]),q:=⟨[.p 0 0 0,.p 1 0 0,.i .i64],[z5,z6]⟩,G:=fun R K a b c d e g h i j l=>hY F N a b c d e g h i j l (pK ⟨[.p 1 0 0],[z5,z7]⟩ (K .ret) b) (pK ⟨[.p 1 0 0],[z5,z6]⟩ (K .ret) b) (pK ⟨[.p 1 0 0],[z5,z8,.rw .expr .app]⟩ (K .ret) b)}],g:=[⟨pS F,hF.r7_reader_unary⟩,vj N,⟨yK F,hF.r7_reader_prim⟩,xg N],exit:=[(⟨2,[3]⟩,.tree .expr)]}
theorem CT(F:ay)(hF:cf F)(N:Nat):Ct.ok E0 ⟨(pT F hF N).f,(pT F hF N).q,fun R k a b c d e=>iY F N a b c d e (fun g h i j l=>oK ⟨y4,[z5],[]⟩ k g h i j l a)⟩:=FD.ct e0 (pT F hF N) N (fun R k a b c d e=>iY F N a b c d e (fun g h i j l=>oK ⟨y4,[z5],[]⟩ k g h i j l a))
end
end So
