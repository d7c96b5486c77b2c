/- TX_4: a part of the proof of SoundSpoilt: lemmas on the evaluator and on the functions that the law reaches. -/
import Derived.Test.YtcllbmdpckfnhaaGreatTXx3
set_option maxRecDepth 100000
set_option linter.unusedVariables false
namespace So
open Go TE Go.Proofs
noncomputable section
variable{R:Type}
def lq(N:Nat)(k8 j7 o:Int)(j8:List Int)(j9 k9 l7:Int)(C:List Chart)(I:List Inst)(k5:Int→(List Inst)→ab R):ab R:=
 fe N j7 (fun j=>
 if([105]:ae).length+j.length≤ah then(if(0:Int)≤o∧o<(C.length:Int) then(match C[o.toNat]? with
 |some e83=>(qP N (([105]:ae)++j) e83.Name j8 j9 (fun J U b9 j6 k7=>
 if I.length+([(⟨(([105]:ae)++j),e83.Name,J,U,b9,j6⟩:Inst)]).length≤ah then(k5 k7 (I++([(⟨(([105]:ae)++j),e83.Name,J,U,b9,j6⟩:Inst)]))) else none))
 |none=>none) else none) else none)
def ox(N:Nat)(C j j7:Int)(o:List Int)(j8 I J:Int)(U:List Chart)(b9:List Inst)(j6:Int→(List Inst)→ab R):ab R:=
 if((j==1)==true)=true then
 (ao N 2 o j8 (fun k5 j9=>
 if(k5==0)=true then
 (lq N C j 2 o j9 I J U b9 (fun k7 k8=>
 j6 k7 k8))
 else
 (lq N C j j7 o j9 I J U b9 (fun k9 l7=>
 j6 k9 l7))))
 else
 (lq N C j j7 o j8 I J U b9 (fun l9 m0=>
 j6 l9 m0))
def wy(N:Nat)(o:Int)(C:List Int)(J U:Int)(b9:List Chart)(j8:Int→(List Inst)→ab R)(rec:Int→Int→(List Inst)→ab R)(j j6:Int)(I:List Inst):ab R:=
 if(decide (j<o))=true then
 (ao N 2 C j6 (fun j9 j7=>
 if(j==0)=true then
 (ox N o j 0 C j7 J U b9 I (fun k5 k7=>
 rec (IntKind.wrap .i64 (j+1)) k5 k7))
 else
 (ox N o j j9 C j7 J U b9 I (fun k8 k9=>
 rec (IntKind.wrap .i64 (j+1)) k8 k9))))
 else
 (j8 j6 I)
def kH(N:Nat)(j:Int)(o:List Int)(C I:Int)(J:List Chart)(U:Int→(List Inst)→ab R):Nat→Int→Int→(List Inst)→ab R
 |0=>fun _ _ _=>none
 |n+1=>fun b9 j6 j7=>wy N j o C I J U (kH N j o C I J U n) b9 j6 j7
def yi(N:Nat)(k5 j:Int)(I:List Int)(J k7 k8:Int)(k9:List Chart)(U:List Inst)(o:List ak)(b9:Int→(List ak)→ab R):ab R:=
 if(0:Int)≤j∧j<(U.length:Int) then(match U[j.toNat]? with
 |some e125=>(if(e125.Chart==([116,101,108,108,115]:ae))=true then
 (fe N j (fun C=>
 if([105]:ae).length+C.length≤ah then(ao N 3 I J (fun j6 j8=>
 ao N 8 I j8 (fun j7 j9=>
 if o.length+([(⟨[111,117,116],([105]:ae)++C,[113],[104,101,97,114,101,114],IntKind.wrap .i64 (1+j6),j7,0⟩:ak)]).length≤ah then(b9 j9 (o++([(⟨[111,117,116],([105]:ae)++C,[113],[104,101,97,114,101,114],IntKind.wrap .i64 (1+j6),j7,0⟩:ak)]))) else none))) else none))
 else
 (b9 J o))
 |none=>none) else none
def wz(N:Nat)(o:Int)(C:List Int)(j9 k5:Int)(k7:List Chart)(k8:List Inst)(k9:Int→(List ak)→ab R)(rec:Int→Int→(List ak)→ab R)(j j6:Int)(I:List ak):ab R:=
 if(decide (j<o))=true then
 (fe N j (fun J=>
 if([107]:ae).length+J.length≤ah then(fe N j (fun U=>
 if([105]:ae).length+U.length≤ah then(if o=0 then none else(fe N (Int.tmod (IntKind.wrap .i64 (j+1)) o) (fun b9=>
 if([105]:ae).length+b9.length≤ah then(ao N 3 C j6 (fun j7 l7=>
 ao N 8 C l7 (fun j8 l9=>
 if I.length+([(⟨([107]:ae)++J,([105]:ae)++U,[112],([105]:ae)++b9,IntKind.wrap .i64 (1+j7),j8,0⟩:ak)]).length≤ah then(yi N o j C l9 j9 k5 k7 k8 (I++([(⟨([107]:ae)++J,([105]:ae)++U,[112],([105]:ae)++b9,IntKind.wrap .i64 (1+j7),j8,0⟩:ak)])) (fun m0 m3=>
 rec (IntKind.wrap .i64 (j+1)) m0 m3)) else none))) else none))) else none)) else none))
 else
 (k9 j6 I)
def qQ(N:Nat)(j:Int)(o:List Int)(C I:Int)(J:List Chart)(U:List Inst)(b9:Int→(List ak)→ab R):Nat→Int→Int→(List ak)→ab R
 |0=>fun _ _ _=>none
 |n+1=>fun j6 j7 j8=>wz N j o C I J U b9 (qQ N j o C I J U b9 n) j6 j7 j8
def wA(N:Nat)(I:Int)(U:List Int)(b9 j6 j7:Int)(j8:List Chart)(j9:List ak)(J:(List Inst)→ab R)(rec:Int→(List Inst)→ab R)(j:Int)(C:List Inst):ab R:=
 if(decide (j<I))=true then
 (if(0:Int)≤j∧j<(C.length:Int) then(match C[j.toNat]? with
 |some o=>(rec (IntKind.wrap .i64 (j+1)) (C.set j.toNat (⟨o.Name,o.Chart,o.Quantum,0,o.Prio,o.At⟩:Inst)))
 |none=>none) else none)
 else
 (J C)
def qR(N:Nat)(j:Int)(o:List Int)(C I J:Int)(U:List Chart)(b9:List ak)(j6:(List Inst)→ab R):Nat→Int→(List Inst)→ab R
 |0=>fun _ _=>none
 |n+1=>fun j7 j8=>wA N j o C I J U b9 j6 (qR N j o C I J U b9 j6 n) j7 j8
def uF(N:Nat)(j:List Int)(k7 o C:Int)(I:List Chart)(k8:Int→(List Inst)→(List ak)→ab R):ab R:=
 ao N 3 j k7 (fun J k9=>
 kH N (IntKind.wrap .i64 (1+J)) j o C I (fun l7 U=>
 qQ N (IntKind.wrap .i64 (1+J)) j o C I U (fun l9 b9=>
 qP N [104,101,97,114,101,114] [104,101,97,114,115] j l9 (fun j6 j7 j8 j9 k5=>
 if U.length+([(⟨[104,101,97,114,101,114],[104,101,97,114,115],j6,j7,j8,j9⟩:Inst)]).length≤ah then(qR N (IntKind.wrap .i64 (1+J)) j k5 o C I b9 (fun m0=>
 k8 k5 m0 b9) N 0 (U++([(⟨[104,101,97,114,101,114],[104,101,97,114,115],j6,j7,j8,j9⟩:Inst)]))) else none)) N 0 l7 ([]:List ak)) N 0 k9 ([]:List Inst))
def Ar(N:Nat)(o7:List Int)(o8 o9 p5:Int)(j:ae)(o C:Int)(I J U:List ai)(b9:Int)(j6:List State)(p6:List Act)(p7:Int→(List Chart)→(List Inst)→(List ak)→ab R):ab R:=
 pN N [116,104,101,110] ([[112]]) ([(⟨[98,97,108,108],([]:List Expr),[],([(⟨3,[112],[98,97,108,108],[(⟨3,0,[],[],0⟩:Expr)],0,[],[],0⟩:Act)]),0⟩:Trans)]) (fun j7 j8 j9 k5 k7 k8 k9=>
 pN N [116,101,108,108,115] ([[112],[113]]) ([(⟨[98,97,108,108],([]:List Expr),[],p6,0⟩:Trans)]) (fun l7 l9 m0 m3 m4 m5 m6=>
 CI N [104,101,97,114,115] ([(⟨[112,105,110,103],([]:List Expr),[],([]:List Act),0⟩:Trans)]) (fun m7 m8 m9 n9 o0 o5 o6=>
 uF N o7 o8 o9 p5 ([(⟨j,o,C,I,J,U,j6,b9⟩:Chart),(⟨[116,104,101,110],j7,j8,j9,k5,k7,k9,k8⟩:Chart),(⟨[116,101,108,108,115],l7,l9,m0,m3,m4,m6,m5⟩:Chart),(⟨[104,101,97,114,115],m7,m8,m9,n9,o0,o6,o5⟩:Chart)]) (fun p8 p9 q8=>
 p7 p8 ([(⟨j,o,C,I,J,U,j6,b9⟩:Chart),(⟨[116,104,101,110],j7,j8,j9,k5,k7,k9,k8⟩:Chart),(⟨[116,101,108,108,115],l7,l9,m0,m3,m4,m6,m5⟩:Chart),(⟨[104,101,97,114,115],m7,m8,m9,n9,o0,o6,o5⟩:Chart)]) p9 q8))))
def CJ(N:Nat)(L:List Int)(At:Int)(C:Int→(List Chart)→(List Inst)→(List ak)→Int→ab R):ab R:=
 ao N 3 L At (fun o I=>
 pN N [102,105,114,115,116] ([[112]]) ([(⟨[98,97,108,108],([]:List Expr),[],([(⟨3,[112],[98,97,108,108],[(⟨3,0,[],[],0⟩:Expr)],0,[],[],0⟩:Act)]),0⟩:Trans)]) (fun J U r5 r6 r7 r8 j=>
 if(0:Int)≤0∧0<(j.length:Int) then(match j[(Int.toNat 0)]? with
 |some e10=>(if([(⟨3,[112],[98,97,108,108],[(⟨3,0,[],[],0⟩:Expr)],0,[],[],0⟩:Act)]).length+([(⟨3,[113],[112,105,110,103],[(⟨3,0,[],[],0⟩:Expr)],0,[],[],0⟩:Act)]).length≤ah then(Ar N L I 0 (IntKind.wrap .i64 (1+o)) [102,105,114,115,116] J U r5 r6 r7 r8 (j.set (Int.toNat 0) (⟨e10.Kind,e10.Name,[(⟨3,[112],[98,97,108,108],[],0,[],[],0⟩:Act)],e10.Exit,e10.Trans,e10.Kids,e10.At⟩:State)) (([(⟨3,[112],[98,97,108,108],[(⟨3,0,[],[],0⟩:Expr)],0,[],[],0⟩:Act)])++([(⟨3,[113],[112,105,110,103],[(⟨3,0,[],[],0⟩:Expr)],0,[],[],0⟩:Act)])) (fun j9 k5 k7 k8=>
 C (IntKind.wrap .i64 (1+o)) k5 k7 k8 j9)) else none)
 |none=>none) else none))
def Qc(N:Nat):FD E0:={f:=106,fn:=Tryz.f106,q:=⟨[.p 0 0 0],[.bx [.t .int,.i .i64]]⟩,loops:=[{cur:=0,live:=[0,2,3,6,7],fix:=[(⟨3,[2]⟩,.row .inst .own)],out:=fun | .exit 0=>([0,2,3,6],[])|_=>([],[]),q:=⟨[.p 0 0 0,.p 1 0 0,.p 2 0 0,.i .i64,.i .i64],[.bx [.t .int,.i .i64],.bx [.i .i64,.ns,.ns,.ns,.ns],z60,.rw .chart .app,.rw .inst .own]⟩,G:=fun R K n a b c d e g h i=>kH N a c e g h (fun j=>pK ⟨[.p 0 0 0,.p 1 0 0,.p 2 0 0,.i .i64],[.bx [.t .int,.i .i64],.bx [.i .i64,.ns,.ns,.ns,.ns],z60,.rw .chart .app,.rw .inst .own]⟩ (K (.exit 0)) a c j e g h) n b d i,B:=fun R K rec a b c d e g h i=>wy N a c e g h (fun j=>pK ⟨[.p 0 0 0,.p 1 0 0,.p 2 0 0,.i .i64],[.bx [.t .int,.i .i64],.bx [.i .i64,.ns,.ns,.ns,.ns],z60,.rw .chart .app,.rw .inst .own]⟩ (K (.exit 0)) a c j e g h) (fun b d i=>rec a b c d e g h i) b d i},{cur:=2,live:=[0,2,3,6,9],fix:=[(⟨3,[3]⟩,.row .chan .app)],out:=fun | .exit 2=>([0,2,3,6],[])|_=>([],[]),q:=⟨[.p 0 0 0,.p 1 0 0,.p 2 0 0,.i .i64,.i .i64],[.bx [.t .int,.i .i64],.bx [.i .i64,.ns,.ns,.ns,.ns],z61,.rw .chart .app,.rw .inst .own,.rw .chan .app]⟩,G:=fun R K n a b c d e g h i j=>qQ N a c e g h i (fun l=>pK ⟨[.p 0 0 0,.p 1 0 0,.p 2 0 0,.i .i64],[.bx [.t .int,.i .i64],.bx [.i .i64,.ns,.ns,.ns,.ns],z61,.rw .chart .app,.rw .inst .own,.rw .chan .app]⟩ (K (.exit 2)) a c l e g h i) n b d j,B:=fun R K rec a b c d e g h i j=>wz N a c e g h i (fun l=>pK ⟨[.p 0 0 0,.p 1 0 0,.p 2 0 0,.i .i64],[.bx [.t .int,.i .i64],.bx [.i .i64,.ns,.ns,.ns,.ns],z61,.rw .chart .app,.rw .inst .own,.rw .chan .app]⟩ (K (.exit 2)) a c l e g h i) (fun b d j=>rec a b c d e g h i j) b d j},{cur:=4,live:=[2,3,6,10],out:=fun | .exit 4=>([2,3],[])|_=>([],[]),q:=⟨[.p 1 0 0,.p 2 0 0,.i .i64,.i .i64],[.bx [.t .int,.i .i64],.bx [.i .i64,.ns,.ns,.ns,.ns],z61,.rw .chart .app,.rw .inst .own,.rw .chan .app]⟩,G:=fun R K n a b c d e g h i j=>qR N a c d e g h j (fun l=>pK ⟨[.p 1 0 0,.p 2 0 0],[.bx [.t .int,.i .i64],.bx [.i .i64,.ns,.ns,.ns,.ns],z61,.rw .chart .app,.rw .inst .own,.rw .chan .app]⟩ (K (.exit 4)) c d e g h l j) n b i,B:=fun R K rec a b c d e g h i j=>wA N a c d e g h j (fun l=>pK ⟨[.p 1 0 0,.p 2 0 0],[.bx [.t .int,.i .i64],.bx [.i .i64,.ns,.ns,.ns,.ns],z61,.rw .chart .app,.rw .inst .own,.rw .chan .app]⟩ (K (.exit 4)) c d e g h l j) (fun b i=>rec a b c d e g h i j) b i}],cuts:=[{key:=15,live:=[0,2,3,6,7,8],out:=fun | .normal=>([0,2,3,6,7],[])|_=>([],[]),q:=⟨[.p 0 0 0,.p 1 0 0,.p 2 0 0,.i .i64,.i .i64,.i .i64],[.bx [.t .int,.i .i64],.bx [.i .i64,.ns,.ns,.ns,.ns],z60,.rw .chart .app,.rw .inst .own]⟩,G:=fun R K a b c d e g h i j=>lq N a b c d e g h i j (fun l=>pK ⟨[.p 0 0 0,.p 1 0 0,.p 2 0 0,.i .i64,.i .i64],[.bx [.t .int,.i .i64],.bx [.i .i64,.ns,.ns,.ns,.ns],z60,.rw .chart .app,.rw .inst .own]⟩ (K .normal) a b d l g h i)},{key:=13,live:=[0,2,3,6,7,8],out:=fun | .normal=>([0,2,3,6,7],[])|_=>([],[]),q:=⟨[.p 0 0 0,.p 1 0 0,.p 2 0 0,.i .i64,.i .i64,.i .i64],[.bx [.t .int,.i .i64],.bx [.i .i64,.ns,.ns,.ns,.ns],z60,.rw .chart .app,.rw .inst .own]⟩,G:=fun R K a b c d e g h i j=>ox N a b c d e g h i j (fun l=>pK ⟨[.p 0 0 0,.p 1 0 0,.p 2 0 0,.i .i64,.i .i64],[.bx [.t .int,.i .i64],.bx [.i .i64,.ns,.ns,.ns,.ns],z60,.rw .chart .app,.rw .inst .own]⟩ (K .normal) a b d l g h i)},{key:=20,live:=[0,2,3,6,9],out:=fun | .normal=>([0,2,3,6,9],[])|_=>([],[]),q:=⟨[.p 0 0 0,.p 1 0 0,.p 2 0 0,.i .i64,.i .i64],[.bx [.t .int,.i .i64],.bx [.i .i64,.ns,.ns,.ns,.ns],z61,.rw .chart .app,.rw .inst .own,.rw .chan .app]⟩,G:=fun R K a b c d e g h i j=>yi N a b c d e g h i j (fun l=>pK ⟨[.p 0 0 0,.p 1 0 0,.p 2 0 0,.i .i64,.i .i64],[.bx [.t .int,.i .i64],.bx [.i .i64,.ns,.ns,.ns,.ns],z61,.rw .chart .app,.rw .inst .own,.rw .chan .app]⟩ (K .normal) a b c l e g h i)},{key:=6,live:=[0,2,3],out:=fun | .ret=>([2],[])|_=>([],[]),q:=⟨[.p 0 0 0,.p 1 0 0,.p 2 0 0],[.bx [.t .int,.i .i64],.bx [.i .i64,.ns,.ns,.ns,.ns],z63,.rw .chart .app]⟩,G:=fun R K a b c d e=>uF N a b c d e (fun g=>pK ⟨[.p 1 0 0],[.bx [.t .int,.i .i64],z62,.rw .chart .app,.rw .inst .own,.rw .chan .app]⟩ (K .ret) a g d e)},{key:=5,live:=[0,2,3,4,5],out:=fun | .ret=>([2],[])|_=>([],[]),q:=⟨[.p 0 0 0,.p 1 0 0,.p 2 0 0,.p 3 0 0,.sw 5],[.bx [.t .int,.i .i64],.bx [.i .i64,.ns,.ns,.ns,.ns],.bx [.i .i64,.ns,.ns,.ns,.ns],z64,.rw .state .own,.rw .act .app]⟩,G:=fun R K a b c d e g h i j l m o p=>Ar N a b c d e g h i j l m o p (fun q=>pK ⟨[.p 1 0 0],[.bx [.t .int,.i .i64],z62,.rw .chart .app,.rw .inst .own,.rw .chan .app]⟩ (K .ret) a q d)}],g:=[cn N,zw N,EH N,Iw N,Qb N,KY N,PY N,Sl N],exit:=[(⟨2,[1]⟩,.tree .chart),(⟨2,[2]⟩,.tree .inst),(⟨2,[3]⟩,.tree .chan)],fork:=true}
def Qd(N:Nat):OC E0:=⟨_,FD.ct e0 (Qc N) N (fun R k a b=>CJ N a b (fun c d e g=>oK ⟨y24,[.bx [.t .int,.i .i64]],[]⟩ k c d e g a))⟩
def z65:ShO S:=.bx [.i .i64,.t .chart,.t .inst,.t .chan,.ns]
def oy(N:Nat)(I:Int)(J:Bool)(k9:Int)(j:List Int)(o:Int)(C:Int→(List Chart)→(List Inst)→(List ak)→ab R)(U:ab R):ab R:=
 if J=true then
 (zy N true j o (fun b9 j6 j7 j8 l7=>
 C b9 j6 j7 j8))
 else
 (if(I==4)=true then
 (GH N j o (fun j9 k5 k7 k8 l9=>
 C j9 k5 k7 k8))
 else
 (U ))
def oz(N:Nat)(j:Int)(b9:Bool)(J:Int)(o:List Int)(C:Int)(I:Int→(List Chart)→(List Inst)→(List ak)→ab R)(U:ab R):ab R:=
 if b9=true then
 (zy N false o C (fun r8 r9 j8 j9 m4=>
 I r8 r9 j8 j9))
 else
 (if(j==2)=true then
 (oy N j (j==2) J o C (fun k5 k7 k8 k9=>
 I k5 k7 k8 k9)
 (U ))
 else
 (oy N j (j==3) J o C (fun l7 l9 m0 m3=>
 I l7 l9 m0 m3)
 (U )))
def mH(N:Nat)(k8:Int)(j:List Int)(I:Int)(o:Int→(List Chart)→(List Inst)→(List ak)→ab R):ab R:=
 ao N 2 j I (fun J C=>
 if(J==0)=true then
 (zy N true j C (fun U b9 j6 j7 k9=>
 o U b9 j6 j7))
 else
 (CJ N j C (fun j8 j9 k5 k7 l7=>
 o j8 j9 k5 k7)))
def As(N:Nat)(v:List Int)(o:Int→(List Chart)→(List Inst)→(List ak)→ab R):ab R:=
 ao N 7 v 0 (fun j C=>
 if(j==0)=true then
 (oz N j (j==0) 0 v C (fun I J U b9=>
 o I J U b9)
 (mH N 0 v C (fun j6 j7 j8 j9=>
 o j6 j7 j8 j9)))
 else
 (oz N j (j==1) 0 v C (fun k5 k7 k8 k9=>
 o k5 k7 k8 k9)
 (mH N 0 v C (fun l7 l9 m0 m3=>
 o l7 l9 m0 m3))))
def NJ(N:Nat):FD E0:={f:=45,fn:=Tryz.f45,q:=⟨[.t .int],[]⟩,cuts:=[{key:=8,live:=[2,3,8,14],out:=fun | .ret=>([2],[]) | .normal=>([2,3],[])|_=>([],[]),q:=⟨[.p 0 0 0,.p 1 0 0,.i .i64,.b],[.bx [.i .i64,.ns,.ns,.ns,.ns],.bx [.t .int,.i .i64]]⟩,G:=fun R K a b c d e=>oy N a b c d e (pK ⟨[.p 0 0 0],[z65]⟩ (K .ret)) (pK ⟨[.p 0 0 0,.p 1 0 0],[.bx [.i .i64,.ns,.ns,.ns,.ns],.bx [.t .int,.i .i64]]⟩ (K .normal) c d e)},{key:=5,live:=[2,3,8,9],out:=fun | .ret=>([2],[]) | .normal=>([2,3],[])|_=>([],[]),q:=⟨[.p 0 0 0,.p 1 0 0,.i .i64,.b],[.bx [.i .i64,.ns,.ns,.ns,.ns],.bx [.t .int,.i .i64]]⟩,G:=fun R K a b c d e=>oz N a b c d e (pK ⟨[.p 0 0 0],[z65]⟩ (K .ret)) (pK ⟨[.p 0 0 0,.p 1 0 0],[.bx [.i .i64,.ns,.ns,.ns,.ns],.bx [.t .int,.i .i64]]⟩ (K .normal) c d e)},{key:=11,live:=[2,3],out:=fun | .ret=>([2],[])|_=>([],[]),q:=⟨[.p 0 0 0,.p 1 0 0],[.bx [.i .i64,.ns,.ns,.ns,.ns],.bx [.t .int,.i .i64]]⟩,G:=fun R K a b c=>mH N a b c (pK ⟨[.p 0 0 0],[z65]⟩ (K .ret))}],g:=[cn N,Sf N,Sj N,Qd N],exit:=[(⟨2,[1]⟩,.tree .chart),(⟨2,[2]⟩,.tree .inst),(⟨2,[3]⟩,.tree .chan)]}
def NK(N:Nat):OC E0:=⟨_,FD.ct e0 (NJ N) N (fun R k a=>As N a (oK ⟨y24,[],[]⟩ k))⟩
def uG(N:Nat)(n_:Int)(j:ae→ab R):ab R:=
 r7_Dec N n_ (fun o=>
 j o)
def UY(N:Nat):FD E0:={f:=47,fn:=Tryz.f47,q:=⟨[.i .i64],[]⟩,g:=[Cg N]}
def HI(N:Nat):OC E0:=⟨_,FD.ct e0 (UY N) N (fun R k a=>uG N a (oK ⟨.st,[],[]⟩ k))⟩
def wB(N:Nat)(C:Int)(I:ae→ab R)(rec:ae→Int→ab R)(j:ae)(o:Int):ab R:=
 if(decide (o<C))=true then
 (if j.length+([32,32]:ae).length≤ah then(rec (j++([32,32]:ae)) (IntKind.wrap .i64 (o+1))) else none)
 else
 (I j)
def qS(N:Nat)(j:Int)(o:ae→ab R):Nat→ae→Int→ab R
 |0=>fun _ _=>none
 |n+1=>fun C I=>wB N j o (qS N j o n) C I
def uT(N:Nat)(n_:Int)(j:ae→ab R):ab R:=
 qS N n_ (fun y4=>
 j y4) N [] 0
def Qe(N:Nat):FD E0:={f:=158,fn:=Tryz.f158,q:=⟨[.i .i64],[]⟩,loops:=[{cur:=0,live:=[0,3,4],out:=fun | .exit 0=>([3],[])|_=>([],[]),q:=⟨[.i .i64,.st,.i .i64],[]⟩,G:=fun R K n a b c=>qS N a (pK ⟨[.st],[]⟩ (K (.exit 0))) n b c,B:=fun R K rec a b c=>wB N a (pK ⟨[.st],[]⟩ (K (.exit 0))) (rec a) b c}]}
def Ix(N:Nat):OC E0:=⟨_,FD.ct e0 (Qe N) N (fun R k a=>uT N a (oK ⟨.st,[],[]⟩ k))⟩
def jk(N:Nat)(in_:Int)(s:ae)(o:ae→ab R):ab R:=
 uT N in_ (fun j=>
 if j.length+s.length≤ah then(if(j++s).length+([10]:ae).length≤ah then(o ((j++s)++([10]:ae))) else none) else none)
def UZ(N:Nat):FD E0:={f:=108,fn:=Tryz.f108,q:=⟨[.i .i64,.st],[]⟩,g:=[Ix N]}
def HJ(N:Nat):OC E0:=⟨_,FD.ct e0 (UZ N) N (fun R k a b=>jk N a b (oK ⟨.st,[],[]⟩ k))⟩
def Cm(N:Nat)(k_:Int)(j:Int→ab R):ab R:=
 if(k_==19)=true then
 (j 1)
 else
 (if(k_==18)=true then
 (j 2)
 else
 ((ifB (decide (k_≥12)) true (some (decide (k_≤17))) (some false)).bind fun o=>
 if o=true then
 (j 3)
 else
 ((ifB (k_==10) false (some (k_==11)) (some true)).bind fun C=>
 if C=true then
 (j 4)
 else
 ((ifB (k_==7) false (some (k_==8)) (some true)).bind fun I=>
 (ifB I false (some (k_==9)) (some true)).bind fun J=>
 if J=true then
 (j 5)
 else
 ((ifB (k_==5) false (some (k_==6)) (some true)).bind fun U=>
 if U=true then
 (j 6)
 else
 (j 7))))))
def Sm(N:Nat):FD E0:={f:=199,fn:=Tryz.f199,q:=⟨[.i .i64],[]⟩}
def KZ(N:Nat):OC E0:=⟨_,FD.ct e0 (Sm N) N (fun R k a=>Cm N a (oK ⟨.i .i64,[],[]⟩ k))⟩
def GJ(N:Nat)(k_:Int)(j:ae→ab R):ab R:=
 if(0:Int)≤k_∧k_<((20:Nat):Int) then((([[],[],[],[],[],[45],[33],[42],[47],[37],[43],[45],[60],[60,61],[62],[62,61],[61,61],[33,61],[38,38],[124,124]]:List ae)[(0+Int.toNat k_*1)]?).bind fun o=>
 j o) else none
def Va(N:Nat):FD E0:={f:=200,fn:=Tryz.f200,q:=⟨[.i .i64],[]⟩}
def Vb(N:Nat):OC E0:=⟨_,FD.ct e0 (Va N) N (fun R k a=>GJ N a (oK ⟨.st,[],[]⟩ k))⟩
structure cB where
 r7_Print:(R:Type)→Int→Int→ae→(List Expr)→Int→(ae→ab R)→ab R
 r7_kid:(R:Type)→Int→Int→ae→(List Expr)→Int→Int→(ae→ab R)→ab R
def La:Pat S:=⟨[y4],[]⟩
def EI(F:cB):Ct S:=⟨183,La,fun R k a b c d e=>F.r7_Print R a b c d e (oK ⟨.st,[],[]⟩ k)⟩
def Qf:Pat S:=⟨[y4,.i .i64],[]⟩
def Qg(F:cB):Ct S:=⟨201,Qf,fun R k a b c d e g=>F.r7_kid R a b c d e g (oK ⟨.st,[],[]⟩ k)⟩
structure kX(F:cB):Prop where
 r7_Print:(EI F).ok E0
 r7_kid:(Qg F).ok E0
def kJ(F:cB)(N:Nat)(j7:Int)(I:Bool)(J j8:Int)(j9:ae)(U:List Expr)(k5:Int)(b9:ae→ab R)(j6:ab R):ab R:=
 if I=true then
 (GJ N J (fun o=>
 (at? U 0).bind fun j=>
 F.r7_kid _ j.Kind j.N j.Name j.Kids j.At 6 (fun C=>
 if o.length+C.length≤ah then(b9 (o++C)) else none)))
 else
 (j6 )
def qT(F:cB)(N:Nat)(b9 j6 j7 j9:Int)(k5:ae)(J:List Expr)(k7:Int)(j8:ae→ab R):ab R:=
 (at? J 0).bind fun j=>
 F.r7_kid _ j.Kind j.N j.Name j.Kids j.At j6 (fun o=>
 if o.length+([32]:ae).length≤ah then(GJ N j7 (fun I=>
 if(o++([32]:ae)).length+I.length≤ah then(if((o++([32]:ae))++I).length+([32]:ae).length≤ah then((at? J 1).bind fun C=>
 F.r7_kid _ C.Kind C.N C.Name C.Kids C.At (IntKind.wrap .i64 (b9+1)) (fun U=>
 if(((o++([32]:ae))++I)++([32]:ae)).length+U.length≤ah then(j8 ((((o++([32]:ae))++I)++([32]:ae))++U)) else none)) else none) else none)) else none)
def qU(F:cB)(N:Nat)(j o C:Int)(I:ae)(J:List Expr)(U:Int)(b9:ae→ab R):ab R:=
 if(j==3)=true then
 (qT F N j 4 o C I J U (fun j6=>
 b9 j6))
 else
 (qT F N j j o C I J U (fun j7=>
 b9 j7))
def wC(F:cB)(N:Nat)(Kind N_:Int)(Name:ae)(Kids:List Expr)(At:Int)(j:ae→ab R):ab R:=
 Cm N Kind (fun o=>
 if(Kind==1)=true then
 (r7_Dec N N_ (fun C=>
 j C))
 else
 (if(Kind==2)=true then
 (j Name)
 else
 (if(Kind==3)=true then
 (j [36])
 else
 (if(Kind==4)=true then
 (if([105,110,40]:ae).length+Name.length≤ah then(if(([105,110,40]:ae)++Name).length+([41]:ae).length≤ah then(j ((([105,110,40]:ae)++Name)++([41]:ae))) else none) else none)
 else
 (if(Kind==5)=true then
 (kJ F N o (Kind==5) Kind N_ Name Kids At (fun y13=>
 j y13)
 (qU F N o Kind N_ Name Kids At (fun I=>
 j I)))
 else
 (kJ F N o (Kind==6) Kind N_ Name Kids At (fun J=>
 j J)
 (qU F N o Kind N_ Name Kids At (fun U=>
 j U))))))))
def EJ(F:cB)(hF:kX F)(N:Nat):FD E0:={f:=183,fn:=Tryz.f183,q:=La,cuts:=[{key:=13,live:=[1,3,27],out:=fun | .ret=>([2],[]) | .normal=>([1,3],[])|_=>([],[]),q:=⟨[.p 0 0 0,.i .i64,.b],[z7]⟩,G:=fun R K a b c d e g h=>kJ F N a b c d e g h (pK ⟨[.st],[]⟩ (K .ret)) (pK ⟨[.p 0 0 0,.i .i64],[z7]⟩ (K .normal) a c d e g h)},{key:=17,live:=[1,3,4],out:=fun | .ret=>([2],[])|_=>([],[]),q:=⟨[.p 0 0 0,.i .i64,.i .i64],[z7]⟩,G:=fun R K a b c d e g h=>qT F N a b c d e g h (pK ⟨[.st],[]⟩ (K .ret))},{key:=14,live:=[1,3],out:=fun | .ret=>([2],[])|_=>([],[]),q:=⟨[.p 0 0 0,.i .i64],[z7]⟩,G:=fun R K a b c d e g=>qU F N a b c d e g (pK ⟨[.st],[]⟩ (K .ret))}],g:=[Cg N,KZ N,Vb N,⟨Qg F,hF.r7_kid⟩]}
theorem NL(F:cB)(hF:kX F)(N:Nat):Ct.ok E0 ⟨(EJ F hF N).f,(EJ F hF N).q,fun R k a b c d e=>wC F N a b c d e (oK ⟨.st,[],[]⟩ k)⟩:=FD.ct e0 (EJ F hF N) N (fun R k a b c d e=>wC F N a b c d e (oK ⟨.st,[],[]⟩ k))
def Cn(F:cB)(N:Nat)(Kind N_:Int)(Name:ae)(Kids:List Expr)(At asks:Int)(o:ae→ab R):ab R:=
 Cm N Kind (fun C=>
 if(decide (C<asks))=true then
 (F.r7_Print _ Kind N_ Name Kids At (fun j=>
 if([40]:ae).length+j.length≤ah then(if(([40]:ae)++j).length+([41]:ae).length≤ah then(o ((([40]:ae)++j)++([41]:ae))) else none) else none))
 else
 (F.r7_Print _ Kind N_ Name Kids At (fun I=>
 o I)))
def Lb(F:cB)(hF:kX F)(N:Nat):FD E0:={f:=201,fn:=Tryz.f201,q:=Qf,g:=[⟨EI F,hF.r7_Print⟩,KZ N]}
theorem Sn(F:cB)(hF:kX F)(N:Nat):Ct.ok E0 ⟨(Lb F hF N).f,(Lb F hF N).q,fun R k a b c d e g=>Cn F N a b c d e g (oK ⟨.st,[],[]⟩ k)⟩:=FD.ct e0 (Lb F hF N) N (fun R k a b c d e g=>Cn F N a b c d e g (oK ⟨.st,[],[]⟩ k))
def GK(F:cB)(N:Nat):cB where
 r7_Print:=fun R Kind N_ Name Kids At j=>wC F N Kind N_ Name Kids At j
 r7_kid:=fun R Kind N_ Name Kids At asks j=>Cn F N Kind N_ Name Kids At asks j
def bl(N:Nat):Nat→cB
 |0=>{r7_Print:=fun _ _ _ _ _ _ _=>none,r7_kid:=fun _ _ _ _ _ _ _ _=>none}
 |d+1=>GK (bl N d) N
theorem pv(N:Nat):∀d,kX (bl N d)
 |0=>{r7_Print:=Ct.ok_none,r7_kid:=Ct.ok_none}
 |d+1=>{r7_Print:=NL _ (pv N d) N,r7_kid:=Sn _ (pv N d) N}
def r7_Print(N:Nat)(Kind N_:Int)(Name:ae)(Kids:List Expr)(At:Int)(j:ae→ab R):ab R:=(bl N N).r7_Print R Kind N_ Name Kids At j
theorem Qh(N d:Nat)(Kind N_:Int)(Name:ae)(Kids:List Expr)(At:Int)(k0:ae→ab R):(bl N (d+1)).r7_Print R Kind N_ Name Kids At k0=wC (bl N d) N Kind N_ Name Kids At k0:=rfl
def EK(N:Nat):OC E0:=⟨EI (bl N N),(pv N N).r7_Print⟩
def r7_kid(N:Nat)(Kind N_:Int)(Name:ae)(Kids:List Expr)(At asks:Int)(j:ae→ab R):ab R:=(bl N N).r7_kid R Kind N_ Name Kids At asks j
theorem Vc(N d:Nat)(Kind N_:Int)(Name:ae)(Kids:List Expr)(At asks:Int)(k0:ae→ab R):(bl N (d+1)).r7_kid R Kind N_ Name Kids At asks k0=Cn (bl N d) N Kind N_ Name Kids At asks k0:=rfl
def EL(N:Nat)(x:List Expr)(C:ae→ab R):ab R:=
 if(((x.length:Nat):Int)==0)=true then
 (C [])
 else
 ((at? x 0).bind fun j=>
 r7_Print N j.Kind j.N j.Name j.Kids j.At (fun o=>
 if([40]:ae).length+o.length≤ah then(if(([40]:ae)++o).length+([41]:ae).length≤ah then(C ((([40]:ae)++o)++([41]:ae))) else none) else none))
def Xr(N:Nat):FD E0:={f:=198,fn:=Tryz.f198,q:=⟨[.t .expr],[]⟩,g:=[EK N]}
def Xs(N:Nat):OC E0:=⟨_,FD.ct e0 (Xr N) N (fun R k a=>EL N a (oK ⟨.st,[],[]⟩ k))⟩
structure cR where
 r8_Print:(R:Type)→(List Act)→Int→(ae→ab R)→ab R
 r8_one:(R:Type)→Int→ae→ae→(List Expr)→Int→(List Act)→(List Act)→Int→Int→(ae→ab R)→ab R
def Lc:Pat S:=⟨[.t .act,.i .i64],[]⟩
def EM(F:cR):Ct S:=⟨159,Lc,fun R k a b=>F.r8_Print R a b (oK ⟨.st,[],[]⟩ k)⟩
def Qi:Pat S:=⟨[y8,.i .i64],[]⟩
def Qj(F:cR):Ct S:=⟨182,Qi,fun R k a b c d e g h i j=>F.r8_one R a b c d e g h i j (oK ⟨.st,[],[]⟩ k)⟩
structure kY(F:cR):Prop where
 r8_Print:(EM F).ok E0
 r8_one:(Qj F).ok E0
def yj(F:cR)(N:Nat)(U:List Act)(b9:Int)(j6:ae→ab R)(rec:ae→Int→ab R)(o:ae)(I:Int):ab R:=
 if(decide (I<((U.length:Nat):Int)))=true then
 (uT N (IntKind.wrap .i64 (b9+1)) (fun C=>
 if o.length+C.length≤ah then((at? U I).bind fun j=>
 F.r8_one _ j.Kind j.Name j.Event j.X j.N j.Then j.Else j.At (IntKind.wrap .i64 (b9+1)) (fun J=>
 if(o++C).length+J.length≤ah then(if((o++C)++J).length+([10]:ae).length≤ah then(rec (((o++C)++J)++([10]:ae)) (IntKind.wrap .i64 (I+1))) else none) else none)) else none))
 else
 (j6 o)
def tj(F:cR)(N:Nat)(j:List Act)(o:Int)(C:ae→ab R):Nat→ae→Int→ab R
 |0=>fun _ _=>none
 |n+1=>fun I J=>yj F N j o C (tj F N j o C n) I J
def rP(F:cR)(N:Nat)(l:List Act)(in_:Int)(o:ae→ab R):ab R:=
 if(((l.length:Nat):Int)==0)=true then
 (o [123,125])
 else
 (tj F N l (if(0>in_) then 0 else in_) (fun y8=>
 uT N (if(0>in_) then 0 else in_) (fun j=>
 if y8.length+j.length≤ah then(if(y8++j).length+([125]:ae).length≤ah then(o ((y8++j)++([125]:ae))) else none) else none)) N [123,10] 0)
def EN(F:cR)(hF:kY F)(N:Nat):FD E0:={f:=159,fn:=Tryz.f159,q:=Lc,loops:=[{cur:=0,live:=[0,5,6,7],out:=fun | .exit 0=>([5,6],[])|_=>([],[]),q:=⟨[.t .act,.i .i64,.st,.i .i64],[]⟩,G:=fun R K n a b c d=>tj F N a b (pK ⟨[.i .i64,.st],[]⟩ (K (.exit 0)) b) n c d,B:=fun R K rec a b c d=>yj F N a b (pK ⟨[.i .i64,.st],[]⟩ (K (.exit 0)) b) (rec a b) c d}],g:=[Ix N,⟨Qj F,hF.r8_one⟩]}
theorem NM(F:cR)(hF:kY F)(N:Nat):Ct.ok E0 ⟨(EN F hF N).f,(EN F hF N).q,fun R k a b=>rP F N a b (oK ⟨.st,[],[]⟩ k)⟩:=FD.ct e0 (EN F hF N) N (fun R k a b=>rP F N a b (oK ⟨.st,[],[]⟩ k))
def Co(F:cR)(N:Nat)(Kind:Int)(Name Event:ae)(X:List Expr)(N_:Int)(Then Else:List Act)(At in_:Int)(j:ae→ab R):ab R:=
 if(Kind==1)=true then
 (if Name.length+([32,61,32]:ae).length≤ah then((at? X 0).bind fun C=>
 r7_Print N C.Kind C.N C.Name C.Kids C.At (fun U=>
 if(Name++([32,61,32]:ae)).length+U.length≤ah then(if((Name++([32,61,32]:ae))++U).length+([59]:ae).length≤ah then(j (((Name++([32,61,32]:ae))++U)++([59]:ae))) else none) else none)) else none)
 else
 (if(Kind==2)=true then
 (if([114,97,105,115,101,32]:ae).length+Event.length≤ah then(EL N X (fun r3=>
 if(([114,97,105,115,101,32]:ae)++Event).length+r3.length≤ah then(if((([114,97,105,115,101,32]:ae)++Event)++r3).length+([59]:ae).length≤ah then(j (((([114,97,105,115,101,32]:ae)++Event)++r3)++([59]:ae))) else none) else none)) else none)
 else
 (if(Kind==3)=true then
 (if([115,101,110,100,32]:ae).length+Name.length≤ah then(if(([115,101,110,100,32]:ae)++Name).length+([32]:ae).length≤ah then(if((([115,101,110,100,32]:ae)++Name)++([32]:ae)).length+Event.length≤ah then(EL N X (fun r4=>
 if(((([115,101,110,100,32]:ae)++Name)++([32]:ae))++Event).length+r4.length≤ah then(if((((([115,101,110,100,32]:ae)++Name)++([32]:ae))++Event)++r4).length+([59]:ae).length≤ah then(j (((((([115,101,110,100,32]:ae)++Name)++([32]:ae))++Event)++r4)++([59]:ae))) else none) else none)) else none) else none) else none)
 else
 (if(Kind==4)=true then
 (if([97,114,109,32]:ae).length+Name.length≤ah then(EL N X (fun r5=>
 if(([97,114,109,32]:ae)++Name).length+r5.length≤ah then(if((([97,114,109,32]:ae)++Name)++r5).length+([59]:ae).length≤ah then(j (((([97,114,109,32]:ae)++Name)++r5)++([59]:ae))) else none) else none)) else none)
 else
 (if(Kind==5)=true then
 (if([99,97,110,99,101,108,32]:ae).length+Name.length≤ah then(if(([99,97,110,99,101,108,32]:ae)++Name).length+([59]:ae).length≤ah then(j ((([99,97,110,99,101,108,32]:ae)++Name)++([59]:ae))) else none) else none)
 else
 (if(Kind==7)=true then
 (r7_Dec N N_ (fun J=>
 if([108,111,111,112,32]:ae).length+J.length≤ah then(if(([108,111,111,112,32]:ae)++J).length+([32]:ae).length≤ah then(F.r8_Print _ Then in_ (fun r7=>
 if((([108,111,111,112,32]:ae)++J)++([32]:ae)).length+r7.length≤ah then(j (((([108,111,111,112,32]:ae)++J)++([32]:ae))++r7)) else none)) else none) else none))
 else
 (EL N X (fun o=>
 if([105,102,32]:ae).length+o.length≤ah then(if(([105,102,32]:ae)++o).length+([32]:ae).length≤ah then(F.r8_Print _ Then in_ (fun I=>
 if((([105,102,32]:ae)++o)++([32]:ae)).length+I.length≤ah then(if(decide (((Else.length:Nat):Int)>0))=true then
 (if(((([105,102,32]:ae)++o)++([32]:ae))++I).length+([32,101,108,115,101,32]:ae).length≤ah then(F.r8_Print _ Else in_ (fun j9=>
 if((((([105,102,32]:ae)++o)++([32]:ae))++I)++([32,101,108,115,101,32]:ae)).length+j9.length≤ah then(j (((((([105,102,32]:ae)++o)++([32]:ae))++I)++([32,101,108,115,101,32]:ae))++j9)) else none)) else none)
 else
 (j (((([105,102,32]:ae)++o)++([32]:ae))++I))) else none)) else none) else none)))))))
def Ld(F:cR)(hF:kY F)(N:Nat):FD E0:={f:=182,fn:=Tryz.f182,q:=Qi,g:=[Cg N,⟨EM F,hF.r8_Print⟩,EK N,Xs N]}
theorem Sp(F:cR)(hF:kY F)(N:Nat):Ct.ok E0 ⟨(Ld F hF N).f,(Ld F hF N).q,fun R k a b c d e g h i j=>Co F N a b c d e g h i j (oK ⟨.st,[],[]⟩ k)⟩:=FD.ct e0 (Ld F hF N) N (fun R k a b c d e g h i j=>Co F N a b c d e g h i j (oK ⟨.st,[],[]⟩ k))
def GL(F:cR)(N:Nat):cR where
 r8_Print:=fun R l in_ j=>rP F N l in_ j
 r8_one:=fun R Kind Name Event X N_ Then Else At in_ j=>Co F N Kind Name Event X N_ Then Else At in_ j
def bQ(N:Nat):Nat→cR
 |0=>{r8_Print:=fun _ _ _ _=>none,r8_one:=fun _ _ _ _ _ _ _ _ _ _ _=>none}
 |d+1=>GL (bQ N d) N
theorem pw(N:Nat):∀d,kY (bQ N d)
 |0=>{r8_Print:=Ct.ok_none,r8_one:=Ct.ok_none}
 |d+1=>{r8_Print:=NM _ (pw N d) N,r8_one:=Sp _ (pw N d) N}
def r8_Print(N:Nat)(l:List Act)(in_:Int)(j:ae→ab R):ab R:=(bQ N N).r8_Print R l in_ j
theorem Iy(N d:Nat)(l:List Act)(in_:Int)(k0:ae→ab R):(bQ N (d+1)).r8_Print R l in_ k0=rP (bQ N d) N l in_ k0:=rfl
def Le(N:Nat):OC E0:=⟨EM (bQ N N),(pw N N).r8_Print⟩
def r8_one(N:Nat)(Kind:Int)(Name Event:ae)(X:List Expr)(N_:Int)(Then Else:List Act)(At in_:Int)(j:ae→ab R):ab R:=(bQ N N).r8_one R Kind Name Event X N_ Then Else At in_ j
theorem Vd(N d:Nat)(Kind:Int)(Name Event:ae)(X:List Expr)(N_:Int)(Then Else:List Act)(At in_:Int)(k0:ae→ab R):(bQ N (d+1)).r8_one R Kind Name Event X N_ Then Else At in_ k0=Co (bQ N d) N Kind Name Event X N_ Then Else At in_ k0:=rfl
end
end So
