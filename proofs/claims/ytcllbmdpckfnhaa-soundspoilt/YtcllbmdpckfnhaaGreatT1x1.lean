/- T1_1: a part of the proof of SoundSpoilt: lemmas on the evaluator and on the functions that the law reaches. -/
import Derived.Test.YtcllbmdpckfnhaaGreatSB
set_option maxRecDepth 100000
set_option linter.unusedVariables false
namespace So
open Go TE Go.Proofs
noncomputable section
variable{R:Type}
def mK(N:Nat)(o:ae)(C:Int→ab R)(rec:Int→ab R)(j:Int):ab R:=
 (ifB (decide (j<((o.length:Nat):Int))) true ((at? o j).bind fun I=>
 some ((I.toNat:Int) != 10)) (some false)).bind fun J=>
 if J=true then
 (rec (IntKind.wrap .i64 (j+1)))
 else
 (C j)
def ru(N:Nat)(j:ae)(o:Int→ab R):Nat→Int→ab R
 |0=>fun _=>none
 |n+1=>fun C=>mK N j o (ru N j o n) C
def tZ(N:Nat)(o:ae)(C I:Int→ab R)(rec:Int→ab R)(j:Int):ab R:=
 if(decide (j<((o.length:Nat):Int)))=true then
 ((at? o j).bind fun J=>
 (ifB ((J.toNat:Int)==32) false ((at? o j).bind fun U=>
 some ((U.toNat:Int)==9)) (some true)).bind fun c5=>
 (ifB c5 false ((at? o j).bind fun b6=>
 some ((b6.toNat:Int)==10)) (some true)).bind fun c7=>
 (ifB c7 false ((at? o j).bind fun b8=>
 some ((b8.toNat:Int)==13)) (some true)).bind fun c9=>
 if c9=true then
 (rec (IntKind.wrap .i64 (j+1)))
 else
 ((at? o j).bind fun k5=>
 if((k5.toNat:Int)==35)=true then
 (ru N o (fun y15=>
 rec y15) N j)
 else
 (I j)))
 else
 (C j)
def ve(N:Nat)(j:ae)(o C:Int→ab R):Nat→Int→ab R
 |0=>fun _=>none
 |n+1=>fun I=>tZ N j o C (ve N j o C n) I
def IX(N:Nat)(s:ae)(i:Int)(j:Int→ab R):ab R:=
 ve N s (fun y16=>
 j y16)
 (fun y17=>
 j y17) N i
def Uo(N:Nat):FD E0:={f:=52,fn:=Tryz.f52,q:=⟨[.st,.i .i64],[]⟩,loops:=[{cur:=3,live:=[0,1],out:=fun | .exit 3=>([0,1],[])|_=>([],[]),q:=⟨[.st,.i .i64],[]⟩,G:=fun R K n a b=>ru N a (pK ⟨[.st,.i .i64],[]⟩ (K (.exit 3)) a) n b,B:=fun R K rec a b=>mK N a (pK ⟨[.st,.i .i64],[]⟩ (K (.exit 3)) a) (rec a) b},{cur:=0,live:=[0,1],out:=fun | .exit 0=>([1],[]) | .ret=>([4],[])|_=>([],[]),q:=⟨[.st,.i .i64],[]⟩,G:=fun R K n a b=>ve N a (pK ⟨[.i .i64],[]⟩ (K (.exit 0))) (pK ⟨[.i .i64],[]⟩ (K .ret)) n b,B:=fun R K rec a b=>tZ N a (pK ⟨[.i .i64],[]⟩ (K (.exit 0))) (pK ⟨[.i .i64],[]⟩ (K .ret)) (rec a) b}]}
def Up(N:Nat):OC E0:=⟨_,FD.ct e0 (Uo N) N (fun R k a b=>IX N a b (oK ⟨.i .i64,[],[]⟩ k))⟩
def yG(N:Nat)(x:Int)(j:Bool→ab R):ab R:=
 (ifB (decide (x≥97)) true (some (decide (x≤122))) (some false)).bind fun o=>
 (ifB o false ((ifB (decide (x≥65)) true (some (decide (x≤90))) (some false)).bind fun C=>
 some C) (some true)).bind fun I=>
 (ifB I false (some (x==95)) (some true)).bind fun J=>
 j J
def Ou(N:Nat):FD E0:={f:=112,fn:=Tryz.f112,q:=⟨[.i .u8],[]⟩}
def Ov(N:Nat):OC E0:=⟨_,FD.ct e0 (Ou N) N (fun R k a=>yG N a (oK ⟨.b,[],[]⟩ k))⟩
def yH(N:Nat)(x:Int)(j:Bool→ab R):ab R:=
 (ifB (decide (x≥48)) true (some (decide (x≤57))) (some false)).bind fun o=>
 j o
def QY(N:Nat):FD E0:={f:=113,fn:=Tryz.f113,q:=⟨[.i .u8],[]⟩}
def QZ(N:Nat):OC E0:=⟨_,FD.ct e0 (QY N) N (fun R k a=>yH N a (oK ⟨.b,[],[]⟩ k))⟩
def rR(N:Nat)(C:ae)(J:Int→ab R)(U:Int→Bool→ab R)(rec:Int→Int→ab R)(j o:Int):ab R:=
 if(decide (o<((C.length:Nat):Int)))=true then
 ((at? C o).bind fun I=>
 if(decide (j>(IntKind.wrap .i64 (Int.tdiv (IntKind.wrap .i64 (9223372036854775807-(IntKind.wrap .i64 (IntKind.wrap .u8 ((I.toNat:Int)-48))))) 10))))=true then
 (U 0 false)
 else
 (rec (IntKind.wrap .i64 ((IntKind.wrap .i64 (10*j))+(IntKind.wrap .i64 (IntKind.wrap .u8 ((I.toNat:Int)-48))))) (IntKind.wrap .i64 (o+1))))
 else
 (J j)
def sA(N:Nat)(j:ae)(o:Int→ab R)(C:Int→Bool→ab R):Nat→Int→Int→ab R
 |0=>fun _ _=>none
 |n+1=>fun I J=>rR N j o C (sA N j o C n) I J
def JL(N:Nat)(s:ae)(j:Int→Bool→ab R):ab R:=
 sA N s (fun y5=>
 j y5 true)
 (fun y6 y7=>
 j y6 y7) N 0 0
def Ra(N:Nat):FD E0:={f:=114,fn:=Tryz.f114,q:=⟨[.st],[]⟩,loops:=[{cur:=0,live:=[0,4,5],out:=fun | .exit 0=>([4],[]) | .ret=>([2,3],[])|_=>([],[]),q:=⟨[.st,.i .i64,.i .i64],[]⟩,G:=fun R K n a b c=>sA N a (pK ⟨[.i .i64],[]⟩ (K (.exit 0))) (pK ⟨[.i .i64,.b],[]⟩ (K .ret)) n b c,B:=fun R K rec a b c=>rR N a (pK ⟨[.i .i64],[]⟩ (K (.exit 0))) (pK ⟨[.i .i64,.b],[]⟩ (K .ret)) (rec a) b c}]}
def Rb(N:Nat):OC E0:=⟨_,FD.ct e0 (Ra N) N (fun R k a=>JL N a (oK ⟨.tp [.i .i64,.b],[],[]⟩ k))⟩
def z0:ShO S:=.bx [.st,.st,.st,.st,.st,.st,.st]
def ua(N:Nat)(C:ae)(j:Int)(I J U b9 j6 j7 j8:ae)(j9:ab R)(k5:Int→ab R)(rec:Int→ab R)(o:Int):ab R:=
 if(decide (o<7))=true then
 ((ifB (decide ((IntKind.wrap .i64 (j+1))<((C.length:Nat):Int))) true (if(0:Int)≤j∧j≤IntKind.wrap .i64 (j+2)∧IntKind.wrap .i64 (j+2)≤((C.length:Nat):Int) then(if(0:Int)≤o∧o<((7:Nat):Int) then((([I,J,U,b9,j6,j7,j8]:List ae)[(0+Int.toNat o*1)]?).bind fun k7=>
 some (((C.take (IntKind.wrap .i64 (j+2)).toNat).drop j.toNat)==k7)) else none) else none) (some false)).bind fun k8=>
 if k8=true then
 (k5 2)
 else
 (rec (IntKind.wrap .i64 (o+1))))
 else
 (j9 )
def vg(N:Nat)(j:ae)(o:Int)(C I J U b9 j6 j7:ae)(j8:ab R)(j9:Int→ab R):Nat→Int→ab R
 |0=>fun _=>none
 |n+1=>fun k5=>ua N j o C I J U b9 j6 j7 j8 j9 (vg N j o C I J U b9 j6 j7 j8 j9 n) k5
def ub(N:Nat)(C:ae)(I:Int)(o:ae)(J:ab R)(U:Int→ab R)(rec:Int→ab R)(j:Int):ab R:=
 if(decide (j<((o.length:Nat):Int)))=true then
 ((at? C I).bind fun b9=>
 (at? o j).bind fun j6=>
 if((b9.toNat:Int)==(j6.toNat:Int))=true then
 (U 1)
 else
 (rec (IntKind.wrap .i64 (j+1))))
 else
 (J )
def vh(N:Nat)(j:ae)(o:Int)(C:ae)(I:ab R)(J:Int→ab R):Nat→Int→ab R
 |0=>fun _=>none
 |n+1=>fun U=>ub N j o C I J (vh N j o C I J n) U
def IY(N:Nat)(s:ae)(i:Int)(j:Int→ab R):ab R:=
 vg N s i [45,62] [61,61] [33,61] [60,61] [62,61] [38,38] [124,124] (vh N s i [123,125,40,41,91,93,59,44,46,58,61,60,62,43,45,42,47,37,33,36] (j 0)
 (fun y20=>
 j y20) N 0)
 (fun y13=>
 j y13) N 0
def Ur(N:Nat):FD E0:={f:=115,fn:=Tryz.f115,q:=⟨[.st,.i .i64],[]⟩,loops:=[{cur:=0,live:=[0,1,5,6],out:=fun | .exit 0=>([0,1],[]) | .ret=>([4],[])|_=>([],[]),q:=⟨[.st,.i .i64,.p 0 0 0,.i .i64],[z0]⟩,G:=fun R K n a b c d e g h i j l=>vg N a b d e g h i j l (pK ⟨[.st,.i .i64],[]⟩ (K (.exit 0)) a b) (pK ⟨[.i .i64],[]⟩ (K .ret)) n c,B:=fun R K rec a b c d e g h i j l=>ua N a b d e g h i j l (pK ⟨[.st,.i .i64],[]⟩ (K (.exit 0)) a b) (pK ⟨[.i .i64],[]⟩ (K .ret)) (fun c=>rec a b c d e g h i j l) c},{cur:=2,live:=[0,1,7,8],out:=fun | .exit 2=>([],[]) | .ret=>([4],[])|_=>([],[]),q:=⟨[.st,.i .i64,.st,.i .i64],[]⟩,G:=fun R K n a b c d=>vh N a b c (pK ⟨[],[]⟩ (K (.exit 2))) (pK ⟨[.i .i64],[]⟩ (K .ret)) n d,B:=fun R K rec a b c d=>ub N a b c (pK ⟨[],[]⟩ (K (.exit 2))) (pK ⟨[.i .i64],[]⟩ (K .ret)) (rec a b c) d}]}
def Us(N:Nat):OC E0:=⟨_,FD.ct e0 (Ur N) N (fun R k a b=>IY N a b (oK ⟨.i .i64,[],[]⟩ k))⟩
def z1:ShO S:=.bx [.i .i64,.i .i64,.i .i64,.st,.i .i64]
def y0:Sh S:=.ag [.i .i64,.i .i64,.i .i64,.st,.i .i64]
def sB(N:Nat)(o:ae)(j8 j9 k5 k7:Int)(k8:ae)(k9 l7 l9 m0:Int)(m3:ae)(m4:Int)(C:Int→ab R)(rec:Int→ab R)(j:Int):ab R:=
 (ifB (decide (j<((o.length:Nat):Int))) true ((at? o j).bind fun I=>
 yG N (I.toNat:Int) (fun J=>
 (ifB J false ((at? o j).bind fun U=>
 yH N (U.toNat:Int) (fun b9=>
 some b9)) (some true)).bind fun j6=>
 some j6)) (some false)).bind fun j7=>
 if j7=true then
 (rec (IntKind.wrap .i64 (j+1)))
 else
 (C j)
def uI(N:Nat)(j:ae)(o C I J:Int)(U:ae)(b9 j6 j7 j8:Int)(j9:ae)(k5:Int)(k7:Int→ab R):Nat→Int→ab R
 |0=>fun _=>none
 |n+1=>fun k8=>sB N j o C I J U b9 j6 j7 j8 j9 k5 k7 (uI N j o C I J U b9 j6 j7 j8 j9 k5 k7 n) k8
def rv(N:Nat)(C:ae)(j o J U b9:Int)(j6:ae)(j7 j8 j9 k5:Int)(k7:ae)(k8:Int)(I:Int→ae→ab R):ab R:=
 if(0:Int)≤j∧j≤o∧o≤((C.length:Nat):Int) then(I 0 ((C.take o.toNat).drop j.toNat)) else none
def sC(N:Nat)(o:ae)(b9 j6 j7 j8:Int)(j9:ae)(k5 k7 k8 k9:Int)(l7:ae)(l9:Int)(C:Int→ab R)(rec:Int→ab R)(j:Int):ab R:=
 (ifB (decide (j<((o.length:Nat):Int))) true ((at? o j).bind fun I=>
 yH N (I.toNat:Int) (fun J=>
 some J)) (some false)).bind fun U=>
 if U=true then
 (rec (IntKind.wrap .i64 (j+1)))
 else
 (C j)
def uJ(N:Nat)(j:ae)(o C I J:Int)(U:ae)(b9 j6 j7 j8:Int)(j9:ae)(k5:Int)(k7:Int→ab R):Nat→Int→ab R
 |0=>fun _=>none
 |n+1=>fun k8=>sC N j o C I J U b9 j6 j7 j8 j9 k5 k7 (uJ N j o C I J U b9 j6 j7 j8 j9 k5 k7 n) k8
def MT(N:Nat)(s:ae)(i:Int)(j:Int→Int→Int→ae→Int→Int→ab R):ab R:=
 (at? s i).bind fun J=>
 yG N (J.toNat:Int) (fun U=>
 if U=true then
 (uI N s i 0 0 0 [] 0 0 i 0 [] 0 (fun y22=>
 if(decide ((IntKind.wrap .i64 (y22-i))>24))=true then
 (j 0 0 0 [] 0 13)
 else
 (rv N s i y22 0 0 0 [] 0 1 i 0 [] 0 (fun b9 j6=>
 j 1 i y22 j6 0 b9))) N i)
 else
 ((at? s i).bind fun j7=>
 yH N (j7.toNat:Int) (fun j8=>
 if j8=true then
 (uJ N s i 0 0 0 [] 0 0 i 0 [] 0 (fun o=>
 (ifB (decide ((IntKind.wrap .i64 (o-i))>1)) true ((at? s i).bind fun j9=>
 some ((j9.toNat:Int)==48)) (some false)).bind fun k5=>
 if k5=true then
 (j 0 0 0 [] 0 11)
 else
 (if(0:Int)≤i∧i≤o∧o≤((s.length:Nat):Int) then(JL N ((s.take o.toNat).drop i.toNat) (fun I k7=>
 if(!k7)=true then
 (j 0 0 0 [] 0 16)
 else
 (rv N s i o 0 0 0 [] 0 2 i 0 [] I (fun k8 k9=>
 j 2 i o k9 I k8)))) else none)) N i)
 else
 (IY N s i (fun C=>
 if(C==0)=true then
 (j 0 0 0 [] 0 10)
 else
 (rv N s i (IntKind.wrap .i64 (i+C)) 0 0 0 [] 0 3 i 0 [] 0 (fun l7 l9=>
 j 3 i (IntKind.wrap .i64 (i+C)) l9 0 l7)))))))
def Wo(N:Nat):FD E0:={f:=53,fn:=Tryz.f53,q:=⟨[.st,.i .i64],[]⟩,loops:=[{cur:=1,live:=[0,1,4,6,7],out:=fun | .exit 1=>([0,1,4,6,7],[])|_=>([],[]),q:=⟨[.st,.i .i64,.p 0 0 0,.i .i64,.p 1 0 0],[z1,z1]⟩,G:=fun R K n a b c d e g h i j l m o p=>uI N a b d e g h i j l m o p (fun q=>pK ⟨[.st,.i .i64,.p 0 0 0,.i .i64,.p 1 0 0],[z1,z1]⟩ (K (.exit 1)) a b q d e g h i j l m o p) n c,B:=fun R K rec a b c d e g h i j l m o p=>sB N a b d e g h i j l m o p (fun q=>pK ⟨[.st,.i .i64,.p 0 0 0,.i .i64,.p 1 0 0],[z1,z1]⟩ (K (.exit 1)) a b q d e g h i j l m o p) (fun c=>rec a b c d e g h i j l m o p) c},{cur:=3,live:=[0,1,4,6,7],out:=fun | .exit 3=>([0,1,4,6,7],[])|_=>([],[]),q:=⟨[.st,.i .i64,.p 0 0 0,.i .i64,.p 1 0 0],[z1,z1]⟩,G:=fun R K n a b c d e g h i j l m o p=>uJ N a b d e g h i j l m o p (fun q=>pK ⟨[.st,.i .i64,.p 0 0 0,.i .i64,.p 1 0 0],[z1,z1]⟩ (K (.exit 3)) a b q d e g h i j l m o p) n c,B:=fun R K rec a b c d e g h i j l m o p=>sC N a b d e g h i j l m o p (fun q=>pK ⟨[.st,.i .i64,.p 0 0 0,.i .i64,.p 1 0 0],[z1,z1]⟩ (K (.exit 3)) a b q d e g h i j l m o p) (fun c=>rec a b c d e g h i j l m o p) c}],cuts:=[{key:=22,live:=[0,1,4,6,7],out:=fun | .ret=>([4,5],[])|_=>([],[]),q:=⟨[.st,.i .i64,.p 0 0 0,.i .i64,.p 1 0 0],[z1,z1]⟩,G:=fun R K a b c d e g h i j l m o p=>rv N a b c d e g h i j l m o p (fun q s=>pK ⟨[.p 0 0 0,.i .i64],[z1]⟩ (K .ret) q j l c s p)}],g:=[Ov N,QZ N,Rb N,Us N]}
def Wp(N:Nat):OC E0:=⟨_,FD.ct e0 (Wo N) N (fun R k a b=>MT N a b (oK ⟨.tp [y0,.i .i64],[],[]⟩ k))⟩
def y1:Sh S:=.tp [.t .tok,.ag [.i .i64,.i .i64]]
def xc(N:Nat)(j:ae)(k7 k8:Int)(j8:(List Token)→ab R)(j9:Int→Int→ab R)(rec:Int→(List Token)→ab R)(o:Int)(C:List Token):ab R:=
 if(decide (o<((j.length:Nat):Int)))=true then
 (MT N j o (fun J U I b9 j6 j7=>
 if(j7 != 0)=true then
 (j9 j7 o)
 else
 (if C.length+[(⟨J,U,I,b9,j6⟩:Token)].length≤ah then(IX N j I (fun k5=>
 rec k5 (C++[(⟨J,U,I,b9,j6⟩:Token)]))) else none)))
 else
 (j8 C)
def yI(N:Nat)(j:ae)(o C:Int)(I:(List Token)→ab R)(J:Int→Int→ab R):Nat→Int→(List Token)→ab R
 |0=>fun _ _=>none
 |n+1=>fun U b9=>xc N j o C I J (yI N j o C I J n) U b9
def MU(N:Nat)(s:ae)(j:(List Token)→Int→Int→ab R):ab R:=
 if(decide (((s.length:Nat):Int)>16384))=true then
 (j ([]:List Token) 13 16384)
 else
 (IX N s 0 (fun o=>
 yI N s 0 0 (fun y25=>
 if y25.length+([(⟨4,((s.length:Nat):Int),((s.length:Nat):Int),[],0⟩:Token)]).length≤ah then(j (y25++([(⟨4,((s.length:Nat):Int),((s.length:Nat):Int),[],0⟩:Token)])) 0 0) else none)
 (fun C I=>
 j ([]:List Token) C I) N o ([]:List Token)))
def Wq(N:Nat):FD E0:={f:=17,fn:=Tryz.f17,q:=⟨[.st],[]⟩,loops:=[{cur:=0,live:=[0,3,4,5],fix:=[(⟨4,[]⟩,.row .tok .app)],out:=fun | .exit 0=>([0,3,4],[]) | .ret=>([2,3],[])|_=>([],[]),q:=⟨[.st,.p 0 0 0,.sw 1,.i .i64],[.bx [.i .i64,.i .i64],.rw .tok .app]⟩,G:=fun R K n a b c d e=>yI N a c d (pK ⟨[.st,.p 0 0 0,.sw 1],[.bx [.i .i64,.i .i64],.rw .tok .app]⟩ (K (.exit 0)) a c d) (pK ⟨[.ns,.p 0 0 0],[.bx [.i .i64,.i .i64]]⟩ (K .ret)) n b e,B:=fun R K rec a b c d e=>xc N a c d (pK ⟨[.st,.p 0 0 0,.sw 1],[.bx [.i .i64,.i .i64],.rw .tok .app]⟩ (K (.exit 0)) a c d) (pK ⟨[.ns,.p 0 0 0],[.bx [.i .i64,.i .i64]]⟩ (K .ret)) (fun b e=>rec a b c d e) b e}],g:=[Up N,Wp N],exit:=[(⟨2,[]⟩,.tree .tok)]}
def Wr(N:Nat):OC E0:=⟨_,FD.ct e0 (Wq N) N (fun R k a=>MU N a (oK ⟨y1,[],[]⟩ k))⟩
end
end So
