/- TX_3: a part of the proof of SoundSpoilt: lemmas on the evaluator and on the functions that the law reaches. -/
import Derived.Test.YtcllbmdpckfnhaaGreatTXx2
set_option maxRecDepth 100000
set_option linter.unusedVariables false
namespace So
open Go TE Go.Proofs
noncomputable section
variable{R:Type}
def wk(N:Nat)(U:List Int)(m7:ae)(m8 m9 n9:Int)(b9 j6 j7:List ae)(o0:ae)(o5 o6:Int)(o7 o8 o9:List ai)(p5:Int)(j8:Int→Int→(List ae)→(List State)→ab R)(rec:Int→Int→Int→(List ae)→(List State)→ab R)(C I o:Int)(J:List ae)(j:List State):ab R:=
 (ifB (decide (C>0)) true ((ifB (decide (o>0)) false (some (((j.length:Nat):Int)==0)) (some true)).bind fun j9=>
 some j9) (some false)).bind fun k5=>
 if k5=true then
 (r37_growing_state_2 N 2 false b9 j6 j7 o U I J (fun k7 k8 k9 l7 l9 m0 m3 m4 m5 m6=>
 if j.length+1≤ah then(rec (IntKind.wrap .i64 (C-1)) m3 m0 m4 (j++[(⟨k7,k8,k9,l7,m5,m6,l9⟩:State)])) else none))
 else
 (j8 I o J j)
def qN(N:Nat)(j:List Int)(o:ae)(C I J:Int)(U b9 j6:List ae)(j7:ae)(j8 j9:Int)(k5 k7 k8:List ai)(k9:Int)(l7:Int→Int→(List ae)→(List State)→ab R):Nat→Int→Int→Int→(List ae)→(List State)→ab R
 |0=>fun _ _ _ _ _=>none
 |n+1=>fun l9 m0 m3 m4 m5=>wk N j o C I J U b9 j6 j7 j8 j9 k5 k7 k8 k9 l7 (qN N j o C I J U b9 j6 j7 j8 j9 k5 k7 k8 k9 l7 n) l9 m0 m3 m4 m5
def wm(N:Nat)(U:List Int)(b9:Int)(j6:ae)(j7 j8 j9:Int)(k5 k7 k8:List ae)(k9:Int)(o:List ae)(l7:ae)(l9 m0:Int)(m3 m4 m5:List ai)(m6:Int)(m7:List State)(I:(List ae)→ab R)(rec:Int→(List ae)→ab R)(j:Int)(C:List ae):ab R:=
 if(decide (j<((o.length:Nat):Int)))=true then
 (if(0:Int)≤j∧j<(o.length:Int) then(match o[j.toNat]? with
 |some e159=>((at? e159 0).bind fun J=>
 if((J.toNat:Int)==115)=true then
 (if(0:Int)≤j∧j<(o.length:Int) then(match o[j.toNat]? with
 |some e161=>(if C.length+[e161].length≤ah then(rec (IntKind.wrap .i64 (j+1)) (C++[e161])) else none)
 |none=>none) else none)
 else
 (rec (IntKind.wrap .i64 (j+1)) C))
 |none=>none) else none)
 else
 (I C)
def qO(N:Nat)(j:List Int)(o:Int)(C:ae)(I J U:Int)(b9 j6 j7:List ae)(j8:Int)(j9:List ae)(k5:ae)(k7 k8:Int)(k9 l7 l9:List ai)(m0:Int)(m3:List State)(m4:(List ae)→ab R):Nat→Int→(List ae)→ab R
 |0=>fun _ _=>none
 |n+1=>fun m5 m6=>wm N j o C I J U b9 j6 j7 j8 j9 k5 k7 k8 k9 l7 l9 m0 m3 m4 (qO N j o C I J U b9 j6 j7 j8 j9 k5 k7 k8 k9 l7 l9 m0 m3 m4 n) m5 m6
def wu(N:Nat)(J:List Int)(m0:ae)(m3 m4 m5:Int)(U b9 j6:List ae)(j7:Int)(j8 j9:List ae)(m6:ae)(m7 m8:Int)(m9 n9 o0:List ai)(o5:Int)(k5:Int→(List State)→ab R)(rec:Int→Int→(List State)→ab R)(j I:Int)(C:List State):ab R:=
 if(decide (j<((C.length:Nat):Int)))=true then
 (if(0:Int)≤j∧j<(C.length:Int) then(match C[j.toNat]? with
 |some o=>(r37_growing_fill N o.Kind o.Name o.Entry o.Exit o.At U b9 j6 j7 J I j8 j9 o.Trans o.Kids (if(0:Int)≤j∧j<(C.length:Int) then(if j.toNat=j.toNat∧j.toNat<C.length then(rec (IntKind.wrap .i64 (j+1)) I (C.set j.toNat (⟨o.Kind,o.Name,o.Entry,o.Exit,o.Trans,o.Kids,o.At⟩:State))) else none) else none) (fun k7 k8 k9 l7 l9=>
 if(0:Int)≤j∧j<(C.length:Int) then(if j.toNat=j.toNat∧j.toNat<C.length then(rec (IntKind.wrap .i64 (j+1)) k9 (C.set j.toNat (⟨o.Kind,o.Name,k7,k8,l9,l7,o.At⟩:State))) else none) else none))
 |none=>none) else none)
 else
 (k5 I C)
def nG(N:Nat)(j:List Int)(o:ae)(C I J:Int)(U b9 j6:List ae)(j7:Int)(j8 j9:List ae)(k5:ae)(k7 k8:Int)(k9 l7 l9:List ai)(m0:Int)(m3:Int→(List State)→ab R):Nat→Int→Int→(List State)→ab R
 |0=>fun _ _ _=>none
 |n+1=>fun m4 m5 m6=>wu N j o C I J U b9 j6 j7 j8 j9 k5 k7 k8 k9 l7 l9 m0 m3 (nG N j o C I J U b9 j6 j7 j8 j9 k5 k7 k8 k9 l7 l9 m0 m3 n) m4 m5 m6
def Ao(N:Nat)(j:List Int)(m4:Int)(o:ae)(C I J:Int)(U b9 j6:List ae)(m5:Int)(j7:ae)(j8 j9:Int)(k5 k7 k8:List ai)(k9:Int)(m6:Int→(List State)→ab R):ab R:=
 ao N 2 j m4 (fun m7 m8=>
 qN N j o C I J U b9 j6 j7 j8 j9 k5 k7 k8 k9 (fun l7 l9 m0 m3=>
 qO N j l7 o C I J U b9 j6 l9 m0 j7 j8 j9 k5 k7 k8 k9 m3 (fun m9=>
 nG N j o C I J U b9 j6 l9 m9 m0 j7 j8 j9 k5 k7 k8 k9 (fun n9 o0=>
 m6 n9 o0) N 0 l7 m3) N 0 ([]:List ae)) N (IntKind.wrap .i64 (1+m7)) m8 m5 ([]:List ae) ([]:List State))
def Ap(N:Nat)(j8:ae)(j:List Int)(j9:Int)(k5:ae)(k7 k8 k9:Int)(o C I:List ae)(l7:Int)(l9:Int→Int→Int→(List ai)→(List ai)→(List ai)→Int→(List State)→ab R):ab R:=
 ao N 5 j j9 (fun J m0=>
 ao N 4 j m0 (fun m3 m4=>
 (at? [40,12,4,200] m3).bind fun U=>
 CG N o j m4 (fun b9 m5=>
 rM N C (fun j6=>
 rM N I (fun j7=>
 Ao N j m5 k5 k7 k8 k9 o C I l7 j8 (IntKind.wrap .i64 (2+J)) U b9 j6 j7 0 (fun m6 m7=>
 l9 m6 (IntKind.wrap .i64 (2+J)) U b9 j6 j7 0 m7))))))
def CH(N:Nat)(name:ae)(ports:Int)(L:List Int)(At:Int)(j:Int→Int→(List ai)→(List ai)→(List ai)→(List State)→Int→Int→ab R):ab R:=
 ao N 8 L At (fun o C=>
 ao N 3 L C (fun I J=>
 uR N [118] I (fun U=>
 uR N [112] ports (fun r6=>
 ao N 3 L J (fun r7 r8=>
 uR N [116] r7 (fun r9=>
 Ap N name L r8 [] 0 0 0 U r6 r9 (IntKind.wrap .i64 (2+o)) (fun j9 k5 k7 k8 k9 l7 l9 m0=>
 j k5 k7 k8 k9 l7 m0 l9 j9)))))))
def PW(N:Nat):FD E0:={f:=152,fn:=Tryz.f152,q:=⟨[.p 0 0 0,.st,.i .i64],[.bx [.t .int,.i .i64]]⟩,loops:=[{cur:=0,live:=[6,7,8,9],fix:=[(⟨7,[6]⟩,.row .str .app),(⟨8,[6]⟩,.deep .state)],out:=fun | .exit 0=>([6,7,8],[])|_=>([],[]),q:=⟨[.p 1 0 0,.p 2 0 0,.p 4 0 0,.i .i64],[.bx [.t .int,.i .i64],z18,z53,.rw .str .app,z54,.dp .state]⟩,G:=fun R K n a b c d e g h i j l m o p q s t u v w x=>qN N b d e g h i j l p q s t u v w (fun y z a1=>pK ⟨[.p 1 0 0,.p 2 0 0,.p 4 0 0],[.bx [.t .int,.i .i64],z18,z53,.rw .str .app,z54,.dp .state]⟩ (K (.exit 0)) b y d e g h i j l z a1 p q s t u v w) n a c m o x,B:=fun R K rec a b c d e g h i j l m o p q s t u v w x=>wk N b d e g h i j l p q s t u v w (fun y z a1=>pK ⟨[.p 1 0 0,.p 2 0 0,.p 4 0 0],[.bx [.t .int,.i .i64],z18,z53,.rw .str .app,z54,.dp .state]⟩ (K (.exit 0)) b y d e g h i j l z a1 p q s t u v w) (fun a c m o x=>rec a b c d e g h i j l m o p q s t u v w x) a c m o x},{cur:=2,live:=[6,7,8,10],fix:=[(⟨7,[4]⟩,.row .str .app)],out:=fun | .exit 2=>([6,7,8],[])|_=>([],[]),q:=⟨[.p 1 0 0,.p 2 0 0,.p 5 0 0,.i .i64],[.bx [.t .int,.i .i64],z18,z55,.rw .str .app,.rw .str .app,z56,.dp .state]⟩,G:=fun R K n a b c d e g h i j l m o p q s t u v w x y=>qO N b c d e g h i j l m p q s t u v w x y (fun z=>pK ⟨[.p 1 0 0,.p 2 0 0,.p 5 0 0],[.bx [.t .int,.i .i64],z18,z55,.rw .str .app,.rw .str .app,z56,.dp .state]⟩ (K (.exit 2)) b c d e g h i j l m z p q s t u v w x y) n a o,B:=fun R K rec a b c d e g h i j l m o p q s t u v w x y=>wm N b c d e g h i j l m p q s t u v w x y (fun z=>pK ⟨[.p 1 0 0,.p 2 0 0,.p 5 0 0],[.bx [.t .int,.i .i64],z18,z55,.rw .str .app,.rw .str .app,z56,.dp .state]⟩ (K (.exit 2)) b c d e g h i j l m z p q s t u v w x y) (fun a o=>rec a b c d e g h i j l m o p q s t u v w x y) a o},{cur:=4,live:=[6,7,8,11],out:=fun | .exit 4=>([6,8],[])|_=>([],[]),q:=⟨[.p 1 0 0,.p 2 0 0,.p 5 0 0,.i .i64],[.bx [.t .int,.i .i64],z18,z55,.rw .str .app,.rw .str .app,z56,.dp .state]⟩,G:=fun R K n a b c d e g h i j l m o p q s t u v w x y=>nG N b d e g h i j l m o p q s t u v w x (fun z=>pK ⟨[.p 1 0 0,.p 2 0 0],[.bx [.t .int,.i .i64],z18,z57,.dp .state]⟩ (K (.exit 4)) b z d e g h q s t u v w x) n a c y,B:=fun R K rec a b c d e g h i j l m o p q s t u v w x y=>wu N b d e g h i j l m o p q s t u v w x (fun z=>pK ⟨[.p 1 0 0,.p 2 0 0],[.bx [.t .int,.i .i64],z18,z57,.dp .state]⟩ (K (.exit 4)) b z d e g h q s t u v w x) (fun a c y=>rec a b c d e g h i j l m o p q s t u v w x y) a c y}],cuts:=[{key:=5,live:=[0,6,7,8],out:=fun | .ret=>([6],[])|_=>([],[]),q:=⟨[.p 0 0 0,.p 1 0 0,.p 2 0 0,.p 3 0 0],[.bx [.t .int,.i .i64],z18,z59,z20]⟩,G:=fun R K a b c d e g h i j l m o p q s t u=>Ao N a b c d e g h i j l m o p q s t u (fun v=>pK ⟨[.p 1 0 0],[.bx [.t .int,.i .i64],z58,.dp .state]⟩ (K .ret) a v m o p q s t u)},{key:=3,live:=[0,1,6,7],out:=fun | .ret=>([6],[])|_=>([],[]),q:=⟨[.p 0 0 0,.st,.p 1 0 0,.p 2 0 0],[.bx [.t .int,.i .i64],z18,z59]⟩,G:=fun R K a b c d e g h i j l m=>Ap N a b c d e g h i j l m (fun o=>pK ⟨[.p 1 0 0],[.bx [.t .int,.i .i64],z58,.dp .state]⟩ (K .ret) b o a)}],g:=[cn N,PO N,PR N,Ch N,Dp N,rj N,EG N],exit:=[(⟨6,[3]⟩,.tree .named),(⟨6,[4]⟩,.tree .named),(⟨6,[5]⟩,.tree .named),(⟨6,[6]⟩,.tree .state)]}
def PX(N:Nat):OC E0:=⟨_,FD.ct e0 (PW N) N (fun R k a b c d=>CH N a b c d (fun e g h i j l m=>oK ⟨y12,[.bx [.t .int,.i .i64]],[]⟩ k a e g h i j l m c))⟩
def qP(N:Nat)(name chart:ae)(L:List Int)(At:Int)(j:Int→Int→Int→Int→Int→ab R):ab R:=
 ao N 40 L At (fun o C=>
 ao N 4 L C (fun I J=>
 ao N 8 L J (fun U r6=>
 j (IntKind.wrap .i64 (1+o)) I U 0 r6)))
def Sd(N:Nat):FD E0:={f:=154,fn:=Tryz.f154,q:=⟨[.p 0 0 0,.st,.st],[.bx [.t .int,.i .i64]]⟩,g:=[cn N]}
def EH(N:Nat):OC E0:=⟨_,FD.ct e0 (Sd N) N (fun R k a b c d=>qP N a b c d (fun e g h i=>oK ⟨y14,[.bx [.t .int,.i .i64]],[]⟩ k a b e g h i c))⟩
def z60:ShO S:=.bx [.i .i64,.sw 3,.sw 4,.ns,.ns]
def z61:ShO S:=.bx [.i .i64,.sw 3,.sw 4,.sw 5,.ns]
def z62:ShO S:=.bx [.i .i64,.sw 2,.sw 3,.sw 4,.ns]
def y24:Sh S:=.ag [.i .i64,.t .chart,.t .inst,.t .chan,.ns]
def pJ(N:Nat)(m8:Bool)(m9 I m3:Int)(J:List Int)(m4 n9 o0:Int)(U:List Chart)(b9:List Inst)(m5:Int→(List Chart)→(List Inst)→ab R):ab R:=
 fe N I (fun j=>
 if([99]:ae).length+j.length≤ah then(CH N (([99]:ae)++j) m3 J m4 (fun j6 j7 j8 j9 k5 k7 k8 m6=>
 if U.length+([(⟨(([99]:ae)++j),j6,j7,j8,j9,k5,k7,k8⟩:Chart)]).length≤ah then(fe N I (fun o=>
 if([105]:ae).length+o.length≤ah then(fe N I (fun C=>
 if([99]:ae).length+C.length≤ah then(qP N (([105]:ae)++o) (([99]:ae)++C) J m6 (fun k9 l7 l9 m0 m7=>
 if b9.length+([(⟨(([105]:ae)++o),(([99]:ae)++C),k9,l7,l9,m0⟩:Inst)]).length≤ah then(m5 m7 (U++([(⟨(([99]:ae)++j),j6,j7,j8,j9,k5,k7,k8⟩:Chart)])) (b9++([(⟨(([105]:ae)++o),(([99]:ae)++C),k9,l7,l9,m0⟩:Inst)]))) else none)) else none)) else none)) else none)) else none)
def ye(N:Nat)(C:Bool)(o:Int)(I:List Int)(b9 j6:Int)(j9:Int→(List Chart)→(List Inst)→ab R)(rec:Int→Int→(List Chart)→(List Inst)→ab R)(j j7:Int)(J:List Chart)(U:List Inst):ab R:=
 if(decide (j<o))=true then
 (ao N 3 I j7 (fun k5 j8=>
 (ifB C true (some (j==(IntKind.wrap .i64 (o-1)))) (some false)).bind fun k7=>
 if k7=true then
 (pJ N C o j 0 I j8 b9 j6 J U (fun k8 k9 l7=>
 rec (IntKind.wrap .i64 (j+1)) k8 k9 l7))
 else
 (pJ N C o j k5 I j8 b9 j6 J U (fun l9 m0 m3=>
 rec (IntKind.wrap .i64 (j+1)) l9 m0 m3))))
 else
 (j9 j7 J U)
def pL(N:Nat)(j:Bool)(o:Int)(C:List Int)(I J:Int)(U:Int→(List Chart)→(List Inst)→ab R):Nat→Int→Int→(List Chart)→(List Inst)→ab R
 |0=>fun _ _ _ _=>none
 |n+1=>fun b9 j6 j7 j8=>ye N j o C I J U (pL N j o C I J U n) b9 j6 j7 j8
def nH(N:Nat)(l9:Bool)(m0 j7 j8 j9:Int)(U:List Int)(k5 m3 m4:Int)(m5:List Chart)(m6:List Inst)(j:List ak)(k7:Int→(List ak)→ab R):ab R:=
 fe N ((j.length:Nat):Int) (fun o=>
 if([107]:ae).length+o.length≤ah then(fe N j7 (fun C=>
 if([105]:ae).length+C.length≤ah then(fe N j8 (fun I=>
 if([112]:ae).length+I.length≤ah then(fe N j9 (fun J=>
 if([105]:ae).length+J.length≤ah then(ao N 5 U k5 (fun k8 k9=>
 (at? [12,32,4,2,1] k8).bind fun b9=>
 ao N 8 U k9 (fun j6 l7=>
 if j.length+([(⟨([107]:ae)++o,([105]:ae)++C,([112]:ae)++I,([105]:ae)++J,b9,j6,0⟩:ak)]).length≤ah then(k7 l7 (j++([(⟨([107]:ae)++o,([105]:ae)++C,([112]:ae)++I,([105]:ae)++J,b9,j6,0⟩:ak)]))) else none))) else none)) else none)) else none)) else none)
def yf(N:Nat)(U:Bool)(C j:Int)(I:List Int)(j6 j7:Int)(J:List Chart)(j8:List Inst)(k7:Int→(List ak)→ab R)(rec:Int→Int→(List ak)→ab R)(o j9:Int)(b9:List ak):ab R:=
 if(0:Int)≤j∧j<(J.length:Int) then(match J[j.toNat]? with
 |some k8=>(if(decide (o<((k8.Ports.length:Nat):Int)))=true then
 (ao N C I j9 (fun k9 k5=>
 if U=true then
 (ao N (IntKind.wrap .i64 ((IntKind.wrap .i64 (C-1))-j)) I k5 (fun l7 l9=>
 nH N U C j o (IntKind.wrap .i64 ((IntKind.wrap .i64 (j+1))+l7)) I l9 j6 j7 J j8 b9 (fun m0 m3=>
 rec (IntKind.wrap .i64 (o+1)) m0 m3)))
 else
 (nH N U C j o k9 I k5 j6 j7 J j8 b9 (fun m4 m5=>
 rec (IntKind.wrap .i64 (o+1)) m4 m5))))
 else
 (k7 j9 b9))
 |none=>none) else none
def pM(N:Nat)(j:Bool)(o C:Int)(I:List Int)(J U:Int)(b9:List Chart)(j6:List Inst)(j7:Int→(List ak)→ab R):Nat→Int→Int→(List ak)→ab R
 |0=>fun _ _ _=>none
 |n+1=>fun j8 j9 k5=>yf N j o C I J U b9 j6 j7 (pM N j o C I J U b9 j6 j7 n) j8 j9 k5
def yg(N:Nat)(J:Bool)(o:Int)(U:List Int)(b9 j6:Int)(j7:List Chart)(j8:List Inst)(j9:Int→(List ak)→ab R)(rec:Int→Int→(List ak)→ab R)(j C:Int)(I:List ak):ab R:=
 if(decide (j<o))=true then
 (pM N J o j U b9 j6 j7 j8 (fun k5 k7=>
 rec (IntKind.wrap .i64 (j+1)) k5 k7) N 0 C I)
 else
 (j9 C I)
def tf(N:Nat)(j:Bool)(o:Int)(C:List Int)(I J:Int)(U:List Chart)(b9:List Inst)(j6:Int→(List ak)→ab R):Nat→Int→Int→(List ak)→ab R
 |0=>fun _ _ _=>none
 |n+1=>fun j7 j8 j9=>yg N j o C I J U b9 j6 (tf N j o C I J U b9 j6 n) j7 j8 j9
def Aq(N:Nat)(j:Bool)(o:Int)(C:List Int)(I J U:Int)(b9:List Chart)(j6:List Inst)(j7:Int→(List ak)→ab R):ab R:=
 tf N j o C J U b9 j6 (fun j8 j9=>
 j7 j8 j9) N 0 I ([]:List ak)
def zy(N:Nat)(forward:Bool)(L:List Int)(At:Int)(J:Int→(List Chart)→(List Inst)→(List ak)→Int→ab R):ab R:=
 ao N 5 L At (fun j U=>
 ao N 3 L U (fun o r4=>
 pL N forward (IntKind.wrap .i64 (1+o)) L 0 (IntKind.wrap .i64 (1+j)) (fun j6 C I=>
 Aq N forward (IntKind.wrap .i64 (1+o)) L j6 0 (IntKind.wrap .i64 (1+j)) C I (fun j7 j8=>
 J (IntKind.wrap .i64 (1+j)) C I j8 j7)) N 0 r4 ([]:List Chart) ([]:List Inst)))
def Se(N:Nat):FD E0:={f:=104,fn:=Tryz.f104,q:=⟨[.p 0 0 0,.b],[.bx [.t .int,.i .i64]]⟩,loops:=[{cur:=0,live:=[0,1,4,5,6,7],fix:=[(⟨5,[1]⟩,.row .chart .app),(⟨5,[2]⟩,.row .inst .app)],out:=fun | .exit 0=>([0,1,4,5,6],[])|_=>([],[]),q:=⟨[.p 0 0 0,.b,.p 1 0 0,.p 2 0 0,.i .i64,.i .i64],[.bx [.t .int,.i .i64],.bx [.i .i64,.ns,.ns,.ns,.ns],z60,.rw .chart .app,.rw .inst .app]⟩,G:=fun R K n a b c d e g h i j=>pL N a b d g h (fun l=>pK ⟨[.p 0 0 0,.b,.p 1 0 0,.p 2 0 0,.i .i64],[.bx [.t .int,.i .i64],.bx [.i .i64,.ns,.ns,.ns,.ns],z60,.rw .chart .app,.rw .inst .app]⟩ (K (.exit 0)) a b d l g h) n c e i j,B:=fun R K rec a b c d e g h i j=>ye N a b d g h (fun l=>pK ⟨[.p 0 0 0,.b,.p 1 0 0,.p 2 0 0,.i .i64],[.bx [.t .int,.i .i64],.bx [.i .i64,.ns,.ns,.ns,.ns],z60,.rw .chart .app,.rw .inst .app]⟩ (K (.exit 0)) a b d l g h) (fun c e i j=>rec a b c d e g h i j) c e i j},{cur:=4,live:=[0,1,4,5,6,9,10],fix:=[(⟨5,[3]⟩,.row .chan .app)],out:=fun | .exit 4=>([0,1,4,5,6,9],[])|_=>([],[]),q:=⟨[.p 0 0 0,.b,.p 1 0 0,.p 2 0 0,.i .i64,.i .i64,.i .i64],[.bx [.t .int,.i .i64],.bx [.i .i64,.ns,.ns,.ns,.ns],z61,.rw .chart .app,.rw .inst .app,.rw .chan .app]⟩,G:=fun R K n a b c d e g h i j l m=>pM N a b c e h i j l (fun o=>pK ⟨[.p 0 0 0,.b,.p 1 0 0,.p 2 0 0,.i .i64,.i .i64],[.bx [.t .int,.i .i64],.bx [.i .i64,.ns,.ns,.ns,.ns],z61,.rw .chart .app,.rw .inst .app,.rw .chan .app]⟩ (K (.exit 4)) a b c e o h i j l) n d g m,B:=fun R K rec a b c d e g h i j l m=>yf N a b c e h i j l (fun o=>pK ⟨[.p 0 0 0,.b,.p 1 0 0,.p 2 0 0,.i .i64,.i .i64],[.bx [.t .int,.i .i64],.bx [.i .i64,.ns,.ns,.ns,.ns],z61,.rw .chart .app,.rw .inst .app,.rw .chan .app]⟩ (K (.exit 4)) a b c e o h i j l) (fun d g m=>rec a b c d e g h i j l m) d g m},{cur:=2,live:=[0,1,4,5,6,9],fix:=[(⟨5,[3]⟩,.row .chan .app)],out:=fun | .exit 2=>([4,5],[])|_=>([],[]),q:=⟨[.p 0 0 0,.b,.p 1 0 0,.p 2 0 0,.i .i64,.i .i64],[.bx [.t .int,.i .i64],.bx [.i .i64,.ns,.ns,.ns,.ns],z61,.rw .chart .app,.rw .inst .app,.rw .chan .app]⟩,G:=fun R K n a b c d e g h i j l=>tf N a b d g h i j (fun m=>pK ⟨[.p 1 0 0,.p 2 0 0],[.bx [.t .int,.i .i64],.bx [.i .i64,.ns,.ns,.ns,.ns],z61,.rw .chart .app,.rw .inst .app,.rw .chan .app]⟩ (K (.exit 2)) d m g h i j) n c e l,B:=fun R K rec a b c d e g h i j l=>yg N a b d g h i j (fun m=>pK ⟨[.p 1 0 0,.p 2 0 0],[.bx [.t .int,.i .i64],.bx [.i .i64,.ns,.ns,.ns,.ns],z61,.rw .chart .app,.rw .inst .app,.rw .chan .app]⟩ (K (.exit 2)) d m g h i j) (fun c e l=>rec a b c d e g h i j l) c e l}],cuts:=[{key:=9,live:=[0,1,4,5,6,7,8],fix:=[(⟨5,[1]⟩,.row .chart .app),(⟨5,[2]⟩,.row .inst .app)],out:=fun | .normal=>([0,1,4,5,6,7],[])|_=>([],[]),q:=⟨[.p 0 0 0,.b,.p 1 0 0,.p 2 0 0,.i .i64,.i .i64,.i .i64],[.bx [.t .int,.i .i64],.bx [.i .i64,.ns,.ns,.ns,.ns],z60,.rw .chart .app,.rw .inst .app]⟩,G:=fun R K a b c d e g h i j l=>pJ N a b c d e g h i j l (fun m=>pK ⟨[.p 0 0 0,.b,.p 1 0 0,.p 2 0 0,.i .i64,.i .i64],[.bx [.t .int,.i .i64],.bx [.i .i64,.ns,.ns,.ns,.ns],z60,.rw .chart .app,.rw .inst .app]⟩ (K .normal) a b c e m h i)},{key:=20,live:=[0,1,4,5,6,9,10,11],fix:=[(⟨5,[3]⟩,.row .chan .app)],out:=fun | .normal=>([0,1,4,5,6,9,10],[])|_=>([],[]),q:=⟨[.p 0 0 0,.b,.p 1 0 0,.p 2 0 0,.i .i64,.i .i64,.i .i64,.i .i64],[.bx [.t .int,.i .i64],.bx [.i .i64,.ns,.ns,.ns,.ns],z61,.rw .chart .app,.rw .inst .app,.rw .chan .app]⟩,G:=fun R K a b c d e g h i j l m o=>nH N a b c d e g h i j l m o (fun p=>pK ⟨[.p 0 0 0,.b,.p 1 0 0,.p 2 0 0,.i .i64,.i .i64,.i .i64],[.bx [.t .int,.i .i64],.bx [.i .i64,.ns,.ns,.ns,.ns],z61,.rw .chart .app,.rw .inst .app,.rw .chan .app]⟩ (K .normal) a b c d g p i j l m)},{key:=11,live:=[0,1,4,5,6],out:=fun | .ret=>([4],[])|_=>([],[]),q:=⟨[.p 0 0 0,.b,.p 1 0 0,.p 2 0 0,.i .i64],[.bx [.t .int,.i .i64],.bx [.i .i64,.ns,.ns,.ns,.ns],z60,.rw .chart .app,.rw .inst .app]⟩,G:=fun R K a b c d e g h i=>Aq N a b c d e g h i (fun j=>pK ⟨[.p 1 0 0],[.bx [.t .int,.i .i64],z62,.rw .chart .app,.rw .inst .app,.rw .chan .app]⟩ (K .ret) c j g h i)}],g:=[cn N,PX N,zw N,EH N],exit:=[(⟨4,[1]⟩,.tree .chart),(⟨4,[2]⟩,.tree .inst),(⟨4,[3]⟩,.tree .chan)]}
def Sf(N:Nat):OC E0:=⟨_,FD.ct e0 (Se N) N (fun R k a b c=>zy N a b c (fun d e g h=>oK ⟨y24,[.bx [.t .int,.i .i64]],[]⟩ k d e g h b))⟩
def y25:Sh S:=.ag [.st,.i .i64,.i .i64,.t .named,.t .named,.t .named,.sw 0,.i .i64]
def Jd(N:Nat)(name:ae)(ports:List ae)(j:Int→Int→(List ai)→(List ai)→(List ai)→Int→(List State)→ab R):ab R:=
 rM N ports (fun o=>
 j 2 20 ([]:List ai) o ([]:List ai) 0 ([(⟨1,[114,101,97,100,121],[],[],[],[],0⟩:State)]))
def UW(N:Nat):FD E0:={f:=155,fn:=Tryz.f155,q:=⟨[.st,.t .str,.ns],[]⟩,g:=[Ch N],mode:=fun|12=>.own|_=>.app,exit:=[(⟨6,[3]⟩,.tree .named),(⟨6,[4]⟩,.tree .named),(⟨6,[5]⟩,.tree .named)]}
def UX(N:Nat):OC E0:=⟨_,FD.ct e0 (UW N) N (fun R k a b=>Jd N a b (oK ⟨y25,[],[.rw .state .own]⟩ k a))⟩
def Xo(N:Nat)(port event:ae)(j:(List Act)→ab R):ab R:=
 j ([(⟨3,port,event,[(⟨3,0,[],[],0⟩:Expr)],0,[],[],0⟩:Act)])
def Sg(N:Nat):FD E0:={f:=156,fn:=Tryz.f156,q:=⟨[.st,.st],[]⟩}
def KY(N:Nat):OC E0:=⟨_,FD.ct e0 (Sg N) N (fun R k a b=>Xo N a b (oK ⟨.sw 0,[],[.rw .act .app]⟩ k))⟩
def ZD(N:Nat)(event:ae)(acts:List Act)(j:(List Expr)→ae→Int→ab R):ab R:=
 j ([]:List Expr) [] 0
def Xp(N:Nat):FD E0:={f:=157,fn:=Tryz.f157,q:=⟨[.st,.t .act],[]⟩,exit:=[(⟨4,[1]⟩,.tree .expr),(⟨4,[3]⟩,.tree .act)]}
def PY(N:Nat):OC E0:=⟨_,FD.ct e0 (Xp N) N (fun R k a b=>ZD N a b (fun c d=>oK ⟨y11,[],[]⟩ k a c d b))⟩
def pN(N:Nat)(name:ae)(ports:List ae)(t:List Trans)(j:Int→Int→(List ai)→(List ai)→(List ai)→Int→(List State)→ab R):ab R:=
 rM N ports (fun o=>
 j 2 20 ([]:List ai) o ([]:List ai) 0 ([(⟨1,[114,101,97,100,121],[],[],t,[],0⟩:State)]))
def PZ(N:Nat):FD E0:={f:=155,fn:=Tryz.f155,q:=⟨[.st,.t .str,.t .trans],[]⟩,g:=[Ch N],mode:=fun|12=>.own|_=>.app,exit:=[(⟨6,[3]⟩,.tree .named),(⟨6,[4]⟩,.tree .named),(⟨6,[5]⟩,.tree .named)]}
def Iw(N:Nat):OC E0:=⟨_,FD.ct e0 (PZ N) N (fun R k a b c=>pN N a b c (oK ⟨y25,[],[.rw .state .own]⟩ k a))⟩
def z63:ShO S:=.bx [.i .i64,.sw 3,.ns,.ns,.ns]
def yh(N:Nat)(J:List Int)(j9 k5:Int)(k7:List Chart)(k8:List Inst)(b9:Int→(List ak)→ab R)(rec:Int→Int→(List ak)→ab R)(j U:Int)(o:List ak):ab R:=
 if(decide (j<4))=true then
 (ao N 3 J U (fun I j6=>
 ao N 8 J j6 (fun j7 j8=>
 if(0:Int)≤j∧j<(o.length:Int) then(match o[j.toNat]? with
 |some e59=>(if(0:Int)≤j∧j<((o.set j.toNat (⟨e59.Name,e59.From,e59.Port,e59.To,IntKind.wrap .i64 (1+I),e59.Prio,e59.At⟩:ak)).length:Int) then(match(o.set j.toNat (⟨e59.Name,e59.From,e59.Port,e59.To,IntKind.wrap .i64 (1+I),e59.Prio,e59.At⟩:ak))[j.toNat]? with
 |some C=>(rec (IntKind.wrap .i64 (j+1)) j8 ((o.set j.toNat (⟨e59.Name,e59.From,e59.Port,e59.To,IntKind.wrap .i64 (1+I),e59.Prio,e59.At⟩:ak)).set j.toNat (⟨C.Name,C.From,C.Port,C.To,C.Cap,j7,C.At⟩:ak)))
 |none=>none) else none)
 |none=>none) else none)))
 else
 (b9 U o)
def th(N:Nat)(j:List Int)(o C:Int)(I:List Chart)(J:List Inst)(U:Int→(List ak)→ab R):Nat→Int→Int→(List ak)→ab R
 |0=>fun _ _ _=>none
 |n+1=>fun b9 j6 j7=>yh N j o C I J U (th N j o C I J U n) b9 j6 j7
def xD(N:Nat)(j:List Int)(k9 l7 l9:Int)(m0:List Chart)(m3:Int→(List Inst)→(List ak)→ab R):ab R:=
 qP N [97] [97,115,107,101,114] j k9 (fun o C I J m4=>
 qP N [98] [98,114,111,107,101,114] j m4 (fun U b9 j6 j7 m5=>
 qP N [119] [119,111,114,107,101,114] j m5 (fun j8 j9 k5 k7 m6=>
 ao N 3 j m6 (fun k8 m7=>
 if(0:Int)≤0∧0<(([(⟨[97],[97,115,107,101,114],o,C,I,J⟩:Inst),(⟨[98],[98,114,111,107,101,114],U,b9,j6,j7⟩:Inst),(⟨[119],[119,111,114,107,101,114],j8,j9,k5,k7⟩:Inst)]).length:Int) then(match([(⟨[97],[97,115,107,101,114],o,C,I,J⟩:Inst),(⟨[98],[98,114,111,107,101,114],U,b9,j6,j7⟩:Inst),(⟨[119],[119,111,114,107,101,114],j8,j9,k5,k7⟩:Inst)])[(Int.toNat 0)]? with
 |some e46=>(th N j l7 l9 m0 (([(⟨[97],[97,115,107,101,114],o,C,I,J⟩:Inst),(⟨[98],[98,114,111,107,101,114],U,b9,j6,j7⟩:Inst),(⟨[119],[119,111,114,107,101,114],j8,j9,k5,k7⟩:Inst)]).set (Int.toNat 0) (⟨e46.Name,e46.Chart,e46.Quantum,IntKind.wrap .i64 (1+k8),e46.Prio,e46.At⟩:Inst)) (fun m8 m9=>
 m3 m8 (([(⟨[97],[97,115,107,101,114],o,C,I,J⟩:Inst),(⟨[98],[98,114,111,107,101,114],U,b9,j6,j7⟩:Inst),(⟨[119],[119,111,114,107,101,114],j8,j9,k5,k7⟩:Inst)]).set (Int.toNat 0) (⟨e46.Name,e46.Chart,e46.Quantum,IntKind.wrap .i64 (1+k8),e46.Prio,e46.At⟩:Inst)) m9) N 0 m7 ([(⟨[113],[97],[97,115,107],[98],0,0,0⟩:ak),(⟨[106],[98],[116,104,101,114,101],[119],0,0,0⟩:ak),(⟨[100],[119],[111,117,116],[98],0,0,0⟩:ak),(⟨[114],[98],[98,97,99,107],[97],0,0,0⟩:ak)]))
 |none=>none) else none))))
def GH(N:Nat)(L:List Int)(At:Int)(k0:Int→(List Chart)→(List Inst)→(List ak)→Int→ab R):ab R:=
 ao N 3 L At (fun j r2=>
 Jd N [97,115,107,101,114] ([[97,115,107]]) (fun o C I J U r8 r9=>
 pN N [98,114,111,107,101,114] ([[116,104,101,114,101],[98,97,99,107]]) ([(⟨[113,117,101,115,116,105,111,110],([]:List Expr),[],([(⟨3,[116,104,101,114,101],[119,111,114,107],[(⟨3,0,[],[],0⟩:Expr)],0,[],[],0⟩:Act)]),0⟩:Trans),(⟨[100,111,110,101],([]:List Expr),[],([(⟨3,[98,97,99,107],[97,110,115,119,101,114],[(⟨3,0,[],[],0⟩:Expr)],0,[],[],0⟩:Act)]),0⟩:Trans)]) (fun j6 j7 j8 j9 k5 k7 k8=>
 pN N [119,111,114,107,101,114] ([[111,117,116]]) ([(⟨[119,111,114,107],([]:List Expr),[],([(⟨3,[111,117,116],[100,111,110,101],[(⟨3,0,[],[],0⟩:Expr)],0,[],[],0⟩:Act)]),0⟩:Trans)]) (fun k9 l7 l9 m0 m3 m4 m5=>
 xD N L r2 0 (IntKind.wrap .i64 (1+j)) ([(⟨[97,115,107,101,114],o,C,I,J,U,[(⟨1,[105,100,108,101],[],[],[(⟨[103,111],[],[119,97,105,116,105,110,103],[(⟨3,[97,115,107],[113,117,101,115,116,105,111,110],[(⟨3,0,[],[],0⟩:Expr)],0,[],[],0⟩:Act)],0⟩:Trans)],[],0⟩:State),(⟨1,[119,97,105,116,105,110,103],[],[],[(⟨[97,110,115,119,101,114],[],[105,100,108,101],[],0⟩:Trans)],[],0⟩:State)],r8⟩:Chart),(⟨[98,114,111,107,101,114],j6,j7,j8,j9,k5,k8,k7⟩:Chart),(⟨[119,111,114,107,101,114],k9,l7,l9,m0,m3,m5,m4⟩:Chart)]) (fun m8 m9 n9=>
 k0 (IntKind.wrap .i64 (1+j)) ([(⟨[97,115,107,101,114],o,C,I,J,U,[(⟨1,[105,100,108,101],[],[],[(⟨[103,111],[],[119,97,105,116,105,110,103],[(⟨3,[97,115,107],[113,117,101,115,116,105,111,110],[(⟨3,0,[],[],0⟩:Expr)],0,[],[],0⟩:Act)],0⟩:Trans)],[],0⟩:State),(⟨1,[119,97,105,116,105,110,103],[],[],[(⟨[97,110,115,119,101,114],[],[105,100,108,101],[],0⟩:Trans)],[],0⟩:State)],r8⟩:Chart),(⟨[98,114,111,107,101,114],j6,j7,j8,j9,k5,k8,k7⟩:Chart),(⟨[119,111,114,107,101,114],k9,l7,l9,m0,m3,m5,m4⟩:Chart)]) m9 n9 m8)))))
def Si(N:Nat):FD E0:={f:=105,fn:=Tryz.f105,q:=⟨[.p 0 0 0],[.bx [.t .int,.i .i64]]⟩,loops:=[{cur:=0,live:=[0,2,3,6],out:=fun | .exit 0=>([2,3],[])|_=>([],[]),q:=⟨[.p 0 0 0,.p 1 0 0,.p 2 0 0,.i .i64],[.bx [.t .int,.i .i64],.bx [.i .i64,.ns,.ns,.ns,.ns],z61,.rw .chart .app,.rw .inst .own,.rw .chan .own]⟩,G:=fun R K n a b c d e g h i=>th N b d e g h (fun j=>pK ⟨[.p 1 0 0,.p 2 0 0],[.bx [.t .int,.i .i64],.bx [.i .i64,.ns,.ns,.ns,.ns],z61,.rw .chart .app,.rw .inst .own,.rw .chan .own]⟩ (K (.exit 0)) b j d e g h) n a c i,B:=fun R K rec a b c d e g h i=>yh N b d e g h (fun j=>pK ⟨[.p 1 0 0,.p 2 0 0],[.bx [.t .int,.i .i64],.bx [.i .i64,.ns,.ns,.ns,.ns],z61,.rw .chart .app,.rw .inst .own,.rw .chan .own]⟩ (K (.exit 0)) b j d e g h) (fun a c i=>rec a b c d e g h i) a c i}],cuts:=[{key:=6,live:=[0,2,3],out:=fun | .ret=>([2],[])|_=>([],[]),q:=⟨[.p 0 0 0,.p 1 0 0,.p 2 0 0],[.bx [.t .int,.i .i64],.bx [.i .i64,.ns,.ns,.ns,.ns],z63,.rw .chart .app]⟩,G:=fun R K a b c d e=>xD N a b c d e (fun g=>pK ⟨[.p 1 0 0],[.bx [.t .int,.i .i64],z62,.rw .chart .app,.rw .inst .own,.rw .chan .own]⟩ (K .ret) a g d e)}],g:=[cn N,EH N,UX N,Iw N,KY N,PY N],mode:=fun|44=>.own|57=>.own|_=>.app,exit:=[(⟨2,[1]⟩,.tree .chart),(⟨2,[2]⟩,.tree .inst),(⟨2,[3]⟩,.tree .chan)]}
def Sj(N:Nat):OC E0:=⟨_,FD.ct e0 (Si N) N (fun R k a b=>GH N a b (fun c d e g=>oK ⟨y24,[.bx [.t .int,.i .i64]],[]⟩ k c d e g a))⟩
def Xq(N:Nat)(event:ae)(j:(List Expr)→ae→(List Act)→Int→ab R):ab R:=
 j ([]:List Expr) [] ([]:List Act) 0
def Sk(N:Nat):FD E0:={f:=157,fn:=Tryz.f157,q:=⟨[.st,.ns],[]⟩,exit:=[(⟨4,[1]⟩,.tree .expr),(⟨4,[3]⟩,.tree .act)]}
def Sl(N:Nat):OC E0:=⟨_,FD.ct e0 (Sk N) N (fun R k a=>Xq N a (oK ⟨y11,[],[]⟩ k a))⟩
def nI(N:Nat)(j:Int)(o:ab R)(rec:ab R): ab R:=
 if(decide (j<0))=true then
 (none)
 else
 (o )
def wx(N:Nat)(j:Int)(o:ab R):Nat→ab R
 |0=>none
 |n+1=>nI N j o (wx N j o n)
def Cl(N:Nat)(j:(List ai)→ab R):ab R:=
 wx N 0 (j ([]:List ai)) N 
def LP(N:Nat):FD E0:={f:=179,fn:=Tryz.f179,q:=⟨[.ns],[]⟩,loops:=[{cur:=0,live:=[0,3,4],out:=fun | .exit 0=>([3],[])|_=>([],[]),q:=⟨[.ns,.ns,.i .i64],[]⟩,G:=fun R K n a=>wx N a (pK ⟨[.ns],[]⟩ (K (.exit 0))) n ,B:=fun R K rec a=>nI N a (pK ⟨[.ns],[]⟩ (K (.exit 0))) (rec a)}],exit:=[(⟨2,[]⟩,.tree .named)]}
def LQ(N:Nat):OC E0:=⟨_,FD.ct e0 (LP N) N (fun R k=>Cl N (oK ⟨.t .named,[],[]⟩ k))⟩
def CI(N:Nat)(name:ae)(t:List Trans)(j:Int→Int→(List ai)→(List ai)→(List ai)→Int→(List State)→ab R):ab R:=
 Cl N (fun o=>
 j 2 20 ([]:List ai) o ([]:List ai) 0 ([(⟨1,[114,101,97,100,121],[],[],t,[],0⟩:State)]))
def Qa(N:Nat):FD E0:={f:=155,fn:=Tryz.f155,q:=⟨[.st,.ns,.t .trans],[]⟩,g:=[LQ N],mode:=fun|12=>.own|_=>.app,exit:=[(⟨6,[3]⟩,.tree .named),(⟨6,[4]⟩,.tree .named),(⟨6,[5]⟩,.tree .named)]}
def Qb(N:Nat):OC E0:=⟨_,FD.ct e0 (Qa N) N (fun R k a b=>CI N a b (oK ⟨y25,[],[.rw .state .own]⟩ k a))⟩
def z64:ShO S:=.bx [.st,.i .i64,.i .i64,.t .named,.t .named,.t .named,.sw 4,.i .i64]
end
end So
