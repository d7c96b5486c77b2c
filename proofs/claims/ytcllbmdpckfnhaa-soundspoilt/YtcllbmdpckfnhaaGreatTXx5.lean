/- TX_5: a part of the proof of SoundSpoilt: lemmas on the evaluator and on the functions that the law reaches. -/
import Derived.Test.YtcllbmdpckfnhaaGreatTXx4
set_option maxRecDepth 100000
set_option linter.unusedVariables false
namespace So
open Go TE Go.Proofs
noncomputable section
variable{R:Type}
def tk(N:Nat)(o:Int)(j j6:ae)(j7:List Expr)(j8:ae)(C:List Act)(j9:Int)(I:ae→ab R):ab R:=
 if(((C.length:Nat):Int)==0)=true then
 (if j.length+([59]:ae).length≤ah then(jk N o (j++([59]:ae)) (fun U=>
 I U)) else none)
 else
 (if j.length+([32]:ae).length≤ah then(r8_Print N C o (fun J=>
 if(j++([32]:ae)).length+J.length≤ah then(jk N o ((j++([32]:ae))++J) (fun b9=>
 I b9)) else none)) else none)
def tl(N:Nat)(C:Int)(o I:ae)(J:List Expr)(j:ae)(U:List Act)(b9:Int)(j6:ae→ab R):ab R:=
 if(!(j==([]:ae)))=true then
 (if o.length+([32,45,62,32]:ae).length≤ah then(if(o++([32,45,62,32]:ae)).length+j.length≤ah then(tk N C ((o++([32,45,62,32]:ae))++j) I J j U b9 (fun j7=>
 j6 j7)) else none) else none)
 else
 (tk N C o I J j U b9 (fun j8=>
 j6 j8))
def tn(N:Nat)(J:Int)(j U:ae)(C:List Expr)(b9:ae)(j6:List Act)(j7:Int)(j8:ae→ab R):ab R:=
 if(decide (((C.length:Nat):Int)>0))=true then
 (if j.length+([32,91]:ae).length≤ah then((at? C 0).bind fun o=>
 r7_Print N o.Kind o.N o.Name o.Kids o.At (fun I=>
 if(j++([32,91]:ae)).length+I.length≤ah then(if((j++([32,91]:ae))++I).length+([93]:ae).length≤ah then(tl N J (((j++([32,91]:ae))++I)++([93]:ae)) U C b9 j6 j7 (fun j9=>
 j8 j9)) else none) else none)) else none)
 else
 (tl N J j U C b9 j6 j7 (fun k5=>
 j8 k5))
def GM(N:Nat)(Event:ae)(Guard:List Expr)(Target:ae)(Acts:List Act)(At in_:Int)(j:ae→ab R):ab R:=
 if(!(Event==([]:ae)))=true then
 (if([111,110,32]:ae).length+Event.length≤ah then(tn N in_ (([111,110,32]:ae)++Event) Event Guard Target Acts At (fun o=>
 j o)) else none)
 else
 (tn N in_ [97,117,116,111] Event Guard Target Acts At (fun C=>
 j C))
def Sq(N:Nat):FD E0:={f:=160,fn:=Tryz.f160,q:=⟨[y11,.i .i64],[]⟩,cuts:=[{key:=8,live:=[1,2,5],out:=fun | .ret=>([4],[])|_=>([],[]),q:=⟨[.i .i64,.p 0 0 0,.st],[z13]⟩,G:=fun R K a b c d e g h=>tk N a b c d e g h (pK ⟨[.st],[]⟩ (K .ret))},{key:=6,live:=[1,2,5],out:=fun | .ret=>([4],[])|_=>([],[]),q:=⟨[.i .i64,.p 0 0 0,.st],[z13]⟩,G:=fun R K a b c d e g h=>tl N a b c d e g h (pK ⟨[.st],[]⟩ (K .ret))},{key:=4,live:=[1,2,5],out:=fun | .ret=>([4],[])|_=>([],[]),q:=⟨[.i .i64,.p 0 0 0,.st],[z13]⟩,G:=fun R K a b c d e g h=>tn N a b c d e g h (pK ⟨[.st],[]⟩ (K .ret))}],g:=[HJ N,Le N,EK N]}
def Sr(N:Nat):OC E0:=⟨_,FD.ct e0 (Sq N) N (fun R k a b c d e g=>GM N a b c d e g (oK ⟨.st,[],[]⟩ k))⟩
structure cC where
 r9_state:(R:Type)→Int→ae→(List Act)→(List Act)→(List Trans)→(List State)→Int→Int→(ae→ab R)→ab R
def Lf:Pat S:=⟨[y2,.i .i64],[]⟩
def EO(F:cC):Ct S:=⟨109,Lf,fun R k a b c d e g h i=>F.r9_state R a b c d e g h i (oK ⟨.st,[],[]⟩ k)⟩
structure tR(F:cC):Prop where
 r9_state:(EO F).ok E0
def yk(F:cC)(N:Nat)(U:Int)(j6:ae)(j7:Int)(j8:ae)(j9 k5:List Act)(I:List Trans)(k7:List State)(k8:Int)(b9:ae→ab R)(rec:ae→Int→ab R)(o:ae)(C:Int):ab R:=
 if(decide (C<((I.length:Nat):Int)))=true then
 ((at? I C).bind fun j=>
 GM N j.Event j.Guard j.Target j.Acts j.At (IntKind.wrap .i64 (U+1)) (fun J=>
 if o.length+J.length≤ah then(rec (o++J) (IntKind.wrap .i64 (C+1))) else none))
 else
 (b9 o)
def tq(F:cC)(N:Nat)(j:Int)(o:ae)(C:Int)(I:ae)(J U:List Act)(b9:List Trans)(j6:List State)(j7:Int)(j8:ae→ab R):Nat→ae→Int→ab R
 |0=>fun _ _=>none
 |n+1=>fun j9 k5=>yk F N j o C I J U b9 j6 j7 j8 (tq F N j o C I J U b9 j6 j7 j8 n) j9 k5
def yl(F:cC)(N:Nat)(U:Int)(j6:ae)(j7:Int)(j8:ae)(j9 k5:List Act)(k7:List Trans)(I:List State)(k8:Int)(b9:ae→ab R)(rec:ae→Int→ab R)(o:ae)(C:Int):ab R:=
 if(decide (C<((I.length:Nat):Int)))=true then
 ((at? I C).bind fun j=>
 F.r9_state _ j.Kind j.Name j.Entry j.Exit j.Trans j.Kids j.At (IntKind.wrap .i64 (U+1)) (fun J=>
 if o.length+J.length≤ah then(rec (o++J) (IntKind.wrap .i64 (C+1))) else none))
 else
 (b9 o)
def tt(F:cC)(N:Nat)(j:Int)(o:ae)(C:Int)(I:ae)(J U:List Act)(b9:List Trans)(j6:List State)(j7:Int)(j8:ae→ab R):Nat→ae→Int→ab R
 |0=>fun _ _=>none
 |n+1=>fun j9 k5=>yl F N j o C I J U b9 j6 j7 j8 (tt F N j o C I J U b9 j6 j7 j8 n) j9 k5
def qV(F:cC)(N:Nat)(j:Int)(o k8:ae)(J:Int)(U:ae)(b9 j6:List Act)(j7:List Trans)(j8:List State)(j9:Int)(k5:ae→ab R):ab R:=
 tq F N j o J U b9 j6 j7 j8 j9 (fun k9=>
 tt F N j o J U b9 j6 j7 j8 j9 (fun C=>
 if(C==([]:ae))=true then
 (if o.length+([125]:ae).length≤ah then(jk N j (o++([125]:ae)) (fun l7=>
 k5 l7)) else none)
 else
 (jk N j o (fun I=>
 if I.length+C.length≤ah then(jk N j [125] (fun k7=>
 if(I++C).length+k7.length≤ah then(k5 ((I++C)++k7)) else none)) else none))) N k9 0) N k8 0
def qW(F:cC)(N:Nat)(j:Int)(I C:ae)(J:Int)(U:ae)(b9 o:List Act)(j6:List Trans)(j7:List State)(j8:Int)(j9:ae→ab R):ab R:=
 if(decide (((o.length:Nat):Int)>0))=true then
 (r8_Print N o (IntKind.wrap .i64 (j+1)) (fun k5=>
 if([101,120,105,116,32]:ae).length+k5.length≤ah then(jk N (IntKind.wrap .i64 (j+1)) (([101,120,105,116,32]:ae)++k5) (fun k7=>
 if C.length+k7.length≤ah then(qV F N j I (C++k7) J U b9 o j6 j7 j8 (fun k8=>
 j9 k8)) else none)) else none))
 else
 (qV F N j I C J U b9 o j6 j7 j8 (fun k9=>
 j9 k9))
def tu(F:cC)(N:Nat)(j:Int)(C:ae)(I:Int)(J:ae)(o U:List Act)(b9:List Trans)(j6:List State)(j7:Int)(j8:ae→ab R):ab R:=
 if(decide (((o.length:Nat):Int)>0))=true then
 (r8_Print N o (IntKind.wrap .i64 (j+1)) (fun j9=>
 if([101,110,116,114,121,32]:ae).length+j9.length≤ah then(jk N (IntKind.wrap .i64 (j+1)) (([101,110,116,114,121,32]:ae)++j9) (fun k5=>
 if([]:ae).length+k5.length≤ah then(qW F N j C (([]:ae)++k5) I J o U b9 j6 j7 (fun k7=>
 j8 k7)) else none)) else none))
 else
 (qW F N j C [] I J o U b9 j6 j7 (fun k8=>
 j8 k8))
def wD(F:cC)(N:Nat)(Kind:Int)(Name:ae)(Entry Exit:List Act)(Trans_:List Trans)(Kids:List State)(At in_:Int)(j:ae→ab R):ab R:=
 if(Kind==3)=true then
 (if([104,105,115,116,111,114,121,32]:ae).length+Name.length≤ah then(if(([104,105,115,116,111,114,121,32]:ae)++Name).length+([59]:ae).length≤ah then(jk N in_ ((([104,105,115,116,111,114,121,32]:ae)++Name)++([59]:ae)) (fun o=>
 j o)) else none) else none)
 else
 (if(Kind==4)=true then
 (if([100,101,101,112,32]:ae).length+Name.length≤ah then(if(([100,101,101,112,32]:ae)++Name).length+([59]:ae).length≤ah then(jk N in_ ((([100,101,101,112,32]:ae)++Name)++([59]:ae)) (fun C=>
 j C)) else none) else none)
 else
 (if([115,116,97,116,101,32]:ae).length+Name.length≤ah then(if(([115,116,97,116,101,32]:ae)++Name).length+([32,123]:ae).length≤ah then(if(Kind==2)=true then
 (if([112,97,114,97,108,108,101,108,32]:ae).length+Name.length≤ah then(if(([112,97,114,97,108,108,101,108,32]:ae)++Name).length+([32,123]:ae).length≤ah then(tu F N in_ ((([112,97,114,97,108,108,101,108,32]:ae)++Name)++([32,123]:ae)) Kind Name Entry Exit Trans_ Kids At (fun I=>
 j I)) else none) else none)
 else
 (tu F N in_ ((([115,116,97,116,101,32]:ae)++Name)++([32,123]:ae)) Kind Name Entry Exit Trans_ Kids At (fun J=>
 j J))) else none) else none))
def EP(F:cC)(hF:tR F)(N:Nat):FD E0:={f:=109,fn:=Tryz.f109,q:=Lf,loops:=[{cur:=1,live:=[1,2,5,6,7],out:=fun | .exit 1=>([1,2,5,6],[])|_=>([],[]),q:=⟨[.i .i64,.p 0 0 0,.st,.st,.i .i64],[z35]⟩,G:=fun R K n a b c d e g h i j l m=>tq F N a b e g h i j l m (fun o=>pK ⟨[.i .i64,.p 0 0 0,.st,.st],[z35]⟩ (K (.exit 1)) a b o e g h i j l m) n c d,B:=fun R K rec a b c d e g h i j l m=>yk F N a b e g h i j l m (fun o=>pK ⟨[.i .i64,.p 0 0 0,.st,.st],[z35]⟩ (K (.exit 1)) a b o e g h i j l m) (fun c d=>rec a b c d e g h i j l m) c d},{cur:=3,live:=[1,2,5,6,8],out:=fun | .exit 3=>([1,5,6],[])|_=>([],[]),q:=⟨[.i .i64,.p 0 0 0,.st,.st,.i .i64],[z35]⟩,G:=fun R K n a b c d e g h i j l m=>tt F N a b e g h i j l m (pK ⟨[.i .i64,.st,.st],[]⟩ (K (.exit 3)) a b) n c d,B:=fun R K rec a b c d e g h i j l m=>yl F N a b e g h i j l m (pK ⟨[.i .i64,.st,.st],[]⟩ (K (.exit 3)) a b) (fun c d=>rec a b c d e g h i j l m) c d}],cuts:=[{key:=14,live:=[1,2,5,6],out:=fun | .ret=>([4],[])|_=>([],[]),q:=⟨[.i .i64,.p 0 0 0,.st,.st],[z35]⟩,G:=fun R K a b c d e g h i j l=>qV F N a b c d e g h i j l (pK ⟨[.st],[]⟩ (K .ret))},{key:=12,live:=[1,2,5,6],out:=fun | .ret=>([4],[])|_=>([],[]),q:=⟨[.i .i64,.p 0 0 0,.st,.st],[z35]⟩,G:=fun R K a b c d e g h i j l=>qW F N a b c d e g h i j l (pK ⟨[.st],[]⟩ (K .ret))},{key:=9,live:=[1,2,5],out:=fun | .ret=>([4],[])|_=>([],[]),q:=⟨[.i .i64,.p 0 0 0,.st],[z35]⟩,G:=fun R K a b c d e g h i j=>tu F N a b c d e g h i j (pK ⟨[.st],[]⟩ (K .ret))}],g:=[HJ N,⟨EO F,hF.r9_state⟩,Le N,Sr N]}
theorem NN(F:cC)(hF:tR F)(N:Nat):Ct.ok E0 ⟨(EP F hF N).f,(EP F hF N).q,fun R k a b c d e g h i=>wD F N a b c d e g h i (oK ⟨.st,[],[]⟩ k)⟩:=FD.ct e0 (EP F hF N) N (fun R k a b c d e g h i=>wD F N a b c d e g h i (oK ⟨.st,[],[]⟩ k))
def GO(F:cC)(N:Nat):cC where
 r9_state:=fun R Kind Name Entry Exit Trans_ Kids At in_ j=>wD F N Kind Name Entry Exit Trans_ Kids At in_ j
def cd(N:Nat):Nat→cC
 |0=>{r9_state:=fun _ _ _ _ _ _ _ _ _ _=>none}
 |d+1=>GO (cd N d) N
theorem wE(N:Nat):∀d,tR (cd N d)
 |0=>{r9_state:=Ct.ok_none}
 |d+1=>{r9_state:=NN _ (wE N d) N}
def r9_state(N:Nat)(Kind:Int)(Name:ae)(Entry Exit:List Act)(Trans_:List Trans)(Kids:List State)(At in_:Int)(j:ae→ab R):ab R:=(cd N N).r9_state R Kind Name Entry Exit Trans_ Kids At in_ j
theorem Qk(N d:Nat)(Kind:Int)(Name:ae)(Entry Exit:List Act)(Trans_:List Trans)(Kids:List State)(At in_:Int)(k0:ae→ab R):(cd N (d+1)).r9_state R Kind Name Entry Exit Trans_ Kids At in_ k0=wD (cd N d) N Kind Name Entry Exit Trans_ Kids At in_ k0:=rfl
def Ss(N:Nat):OC E0:=⟨EO (cd N N),(wE N N).r9_state⟩
def ym(N:Nat)(j7:ae)(j8 j9:Int)(C k5 k7:List ai)(k8:List State)(k9:Int)(b9:ae→ab R)(rec:ae→Int→ab R)(I:ae)(o:Int):ab R:=
 if(decide (o<((C.length:Nat):Int)))=true then
 ((at? C o).bind fun j=>
 if([118,97,114,32]:ae).length+j.Name.length≤ah then(if(([118,97,114,32]:ae)++j.Name).length+([32,61,32]:ae).length≤ah then((at? C o).bind fun j6=>
 r7_Dec N j6.N (fun J=>
 if((([118,97,114,32]:ae)++j.Name)++([32,61,32]:ae)).length+J.length≤ah then(if(((([118,97,114,32]:ae)++j.Name)++([32,61,32]:ae))++J).length+([59]:ae).length≤ah then(jk N 1 ((((([118,97,114,32]:ae)++j.Name)++([32,61,32]:ae))++J)++([59]:ae)) (fun U=>
 if I.length+U.length≤ah then(rec (I++U) (IntKind.wrap .i64 (o+1))) else none)) else none) else none)) else none) else none)
 else
 (b9 I)
def tw(N:Nat)(j:ae)(o C:Int)(I J U:List ai)(b9:List State)(j6:Int)(j7:ae→ab R):Nat→ae→Int→ab R
 |0=>fun _ _=>none
 |n+1=>fun j8 j9=>ym N j o C I J U b9 j6 j7 (tw N j o C I J U b9 j6 j7 n) j8 j9
def yn(N:Nat)(b9:ae)(j6 j7:Int)(j8 I j9:List ai)(k5:List State)(k7:Int)(U:ae→ab R)(rec:ae→Int→ab R)(j:ae)(o:Int):ab R:=
 if(decide (o<((I.length:Nat):Int)))=true then
 ((at? I o).bind fun C=>
 if([112,111,114,116,32]:ae).length+C.Name.length≤ah then(if(([112,111,114,116,32]:ae)++C.Name).length+([59]:ae).length≤ah then(jk N 1 ((([112,111,114,116,32]:ae)++C.Name)++([59]:ae)) (fun J=>
 if j.length+J.length≤ah then(rec (j++J) (IntKind.wrap .i64 (o+1))) else none)) else none) else none)
 else
 (U j)
def tx(N:Nat)(j:ae)(o C:Int)(I J U:List ai)(b9:List State)(j6:Int)(j7:ae→ab R):Nat→ae→Int→ab R
 |0=>fun _ _=>none
 |n+1=>fun j8 j9=>yn N j o C I J U b9 j6 j7 (tx N j o C I J U b9 j6 j7 n) j8 j9
def yp(N:Nat)(b9:ae)(j6 j7:Int)(j8 j9 I:List ai)(k5:List State)(k7:Int)(U:ae→ab R)(rec:ae→Int→ab R)(j:ae)(o:Int):ab R:=
 if(decide (o<((I.length:Nat):Int)))=true then
 ((at? I o).bind fun C=>
 if([116,105,109,101,114,32]:ae).length+C.Name.length≤ah then(if(([116,105,109,101,114,32]:ae)++C.Name).length+([59]:ae).length≤ah then(jk N 1 ((([116,105,109,101,114,32]:ae)++C.Name)++([59]:ae)) (fun J=>
 if j.length+J.length≤ah then(rec (j++J) (IntKind.wrap .i64 (o+1))) else none)) else none) else none)
 else
 (U j)
def tz(N:Nat)(j:ae)(o C:Int)(I J U:List ai)(b9:List State)(j6:Int)(j7:ae→ab R):Nat→ae→Int→ab R
 |0=>fun _ _=>none
 |n+1=>fun j8 j9=>yp N j o C I J U b9 j6 j7 (tz N j o C I J U b9 j6 j7 n) j8 j9
def yq(N:Nat)(b9:ae)(j6 j7:Int)(j8 j9 k5:List ai)(I:List State)(k7:Int)(U:ae→ab R)(rec:ae→Int→ab R)(o:ae)(C:Int):ab R:=
 if(decide (C<((I.length:Nat):Int)))=true then
 ((at? I C).bind fun j=>
 r9_state N j.Kind j.Name j.Entry j.Exit j.Trans j.Kids j.At 1 (fun J=>
 if o.length+J.length≤ah then(rec (o++J) (IntKind.wrap .i64 (C+1))) else none))
 else
 (U o)
def tA(N:Nat)(j:ae)(o C:Int)(I J U:List ai)(b9:List State)(j6:Int)(j7:ae→ab R):Nat→ae→Int→ab R
 |0=>fun _ _=>none
 |n+1=>fun j8 j9=>yq N j o C I J U b9 j6 j7 (tA N j o C I J U b9 j6 j7 n) j8 j9
def GP(N:Nat)(Name:ae)(Steps Fuel:Int)(Vars Ports Timers:List ai)(States:List State)(At:Int)(J:ae→ab R):ab R:=
 if([99,104,97,114,116,32]:ae).length+Name.length≤ah then(if(([99,104,97,114,116,32]:ae)++Name).length+([32,115,116,101,112,115,32]:ae).length≤ah then(r7_Dec N Steps (fun j=>
 if((([99,104,97,114,116,32]:ae)++Name)++([32,115,116,101,112,115,32]:ae)).length+j.length≤ah then(if(((([99,104,97,114,116,32]:ae)++Name)++([32,115,116,101,112,115,32]:ae))++j).length+([32,102,117,101,108,32]:ae).length≤ah then(r7_Dec N Fuel (fun o=>
 if((((([99,104,97,114,116,32]:ae)++Name)++([32,115,116,101,112,115,32]:ae))++j)++([32,102,117,101,108,32]:ae)).length+o.length≤ah then(if(((((([99,104,97,114,116,32]:ae)++Name)++([32,115,116,101,112,115,32]:ae))++j)++([32,102,117,101,108,32]:ae))++o).length+([32,123]:ae).length≤ah then(jk N 0 ((((((([99,104,97,114,116,32]:ae)++Name)++([32,115,116,101,112,115,32]:ae))++j)++([32,102,117,101,108,32]:ae))++o)++([32,123]:ae)) (fun U=>
 tw N Name Steps Fuel Vars Ports Timers States At (fun y18=>
 tx N Name Steps Fuel Vars Ports Timers States At (fun b9=>
 tz N Name Steps Fuel Vars Ports Timers States At (fun j6=>
 tA N Name Steps Fuel Vars Ports Timers States At (fun C=>
 jk N 0 [125] (fun I=>
 if C.length+I.length≤ah then(J (C++I)) else none)) N j6 0) N b9 0) N y18 0) N U 0)) else none) else none)) else none) else none)) else none) else none
def Su(N:Nat):FD E0:={f:=48,fn:=Tryz.f48,q:=⟨[y12],[]⟩,loops:=[{cur:=0,live:=[1,3,4],out:=fun | .exit 0=>([1,3],[])|_=>([],[]),q:=⟨[.p 0 0 0,.st,.i .i64],[z19]⟩,G:=fun R K n a b c d e g h i j l=>tw N c d e g h i j l (fun m=>pK ⟨[.p 0 0 0,.st],[z19]⟩ (K (.exit 0)) m c d e g h i j l) n a b,B:=fun R K rec a b c d e g h i j l=>ym N c d e g h i j l (fun m=>pK ⟨[.p 0 0 0,.st],[z19]⟩ (K (.exit 0)) m c d e g h i j l) (fun a b=>rec a b c d e g h i j l) a b},{cur:=2,live:=[1,3,5],out:=fun | .exit 2=>([1,3],[])|_=>([],[]),q:=⟨[.p 0 0 0,.st,.i .i64],[z19]⟩,G:=fun R K n a b c d e g h i j l=>tx N c d e g h i j l (fun m=>pK ⟨[.p 0 0 0,.st],[z19]⟩ (K (.exit 2)) m c d e g h i j l) n a b,B:=fun R K rec a b c d e g h i j l=>yn N c d e g h i j l (fun m=>pK ⟨[.p 0 0 0,.st],[z19]⟩ (K (.exit 2)) m c d e g h i j l) (fun a b=>rec a b c d e g h i j l) a b},{cur:=4,live:=[1,3,6],out:=fun | .exit 4=>([1,3],[])|_=>([],[]),q:=⟨[.p 0 0 0,.st,.i .i64],[z19]⟩,G:=fun R K n a b c d e g h i j l=>tz N c d e g h i j l (fun m=>pK ⟨[.p 0 0 0,.st],[z19]⟩ (K (.exit 4)) m c d e g h i j l) n a b,B:=fun R K rec a b c d e g h i j l=>yp N c d e g h i j l (fun m=>pK ⟨[.p 0 0 0,.st],[z19]⟩ (K (.exit 4)) m c d e g h i j l) (fun a b=>rec a b c d e g h i j l) a b},{cur:=6,live:=[1,3,7],out:=fun | .exit 6=>([3],[])|_=>([],[]),q:=⟨[.p 0 0 0,.st,.i .i64],[z19]⟩,G:=fun R K n a b c d e g h i j l=>tA N c d e g h i j l (pK ⟨[.st],[]⟩ (K (.exit 6))) n a b,B:=fun R K rec a b c d e g h i j l=>yq N c d e g h i j l (pK ⟨[.st],[]⟩ (K (.exit 6))) (fun a b=>rec a b c d e g h i j l) a b}],g:=[Cg N,HJ N,Ss N]}
def Sv(N:Nat):OC E0:=⟨_,FD.ct e0 (Su N) N (fun R k a b c d e g h i=>GP N a b c d e g h i (oK ⟨.st,[],[]⟩ k))⟩
def wF(N:Nat)(b9:List Inst)(j6:ae→ab R)(rec:ae→Int→ab R)(o:ae)(J:Int):ab R:=
 if(decide (J<((b9.length:Nat):Int)))=true then
 ((at? b9 J).bind fun j=>
 if o.length+([105,110,115,116,32]:ae).length≤ah then(if(o++([105,110,115,116,32]:ae)).length+j.Name.length≤ah then(if((o++([105,110,115,116,32]:ae))++j.Name).length+([32,58,32]:ae).length≤ah then(if(((o++([105,110,115,116,32]:ae))++j.Name)++([32,58,32]:ae)).length+j.Chart.length≤ah then(if((((o++([105,110,115,116,32]:ae))++j.Name)++([32,58,32]:ae))++j.Chart).length+([32,113,117,97,110,116,117,109,32]:ae).length≤ah then(uG N j.Quantum (fun C=>
 if(((((o++([105,110,115,116,32]:ae))++j.Name)++([32,58,32]:ae))++j.Chart)++([32,113,117,97,110,116,117,109,32]:ae)).length+C.length≤ah then(if((((((o++([105,110,115,116,32]:ae))++j.Name)++([32,58,32]:ae))++j.Chart)++([32,113,117,97,110,116,117,109,32]:ae))++C).length+([32,101,120,116,32]:ae).length≤ah then(uG N j.Ext (fun I=>
 if(((((((o++([105,110,115,116,32]:ae))++j.Name)++([32,58,32]:ae))++j.Chart)++([32,113,117,97,110,116,117,109,32]:ae))++C)++([32,101,120,116,32]:ae)).length+I.length≤ah then(if((((((((o++([105,110,115,116,32]:ae))++j.Name)++([32,58,32]:ae))++j.Chart)++([32,113,117,97,110,116,117,109,32]:ae))++C)++([32,101,120,116,32]:ae))++I).length+([32,112,114,105,111,32]:ae).length≤ah then(uG N j.Prio (fun U=>
 if(((((((((o++([105,110,115,116,32]:ae))++j.Name)++([32,58,32]:ae))++j.Chart)++([32,113,117,97,110,116,117,109,32]:ae))++C)++([32,101,120,116,32]:ae))++I)++([32,112,114,105,111,32]:ae)).length+U.length≤ah then(if((((((((((o++([105,110,115,116,32]:ae))++j.Name)++([32,58,32]:ae))++j.Chart)++([32,113,117,97,110,116,117,109,32]:ae))++C)++([32,101,120,116,32]:ae))++I)++([32,112,114,105,111,32]:ae))++U).length+([59,10]:ae).length≤ah then(rec (((((((((((o++([105,110,115,116,32]:ae))++j.Name)++([32,58,32]:ae))++j.Chart)++([32,113,117,97,110,116,117,109,32]:ae))++C)++([32,101,120,116,32]:ae))++I)++([32,112,114,105,111,32]:ae))++U)++([59,10]:ae)) (IntKind.wrap .i64 (J+1))) else none) else none)) else none) else none)) else none) else none)) else none) else none) else none) else none) else none)
 else
 (j6 o)
def qX(N:Nat)(j:List Inst)(o:ae→ab R):Nat→ae→Int→ab R
 |0=>fun _ _=>none
 |n+1=>fun C I=>wF N j o (qX N j o n) C I
def CL(N:Nat)(l:List Inst)(j:ae→ab R):ab R:=
 qX N l (fun y8=>
 j y8) N [] 0
def Ql(N:Nat):FD E0:={f:=49,fn:=Tryz.f49,q:=⟨[.t .inst],[]⟩,loops:=[{cur:=0,live:=[0,3,4],out:=fun | .exit 0=>([3],[])|_=>([],[]),q:=⟨[.t .inst,.st,.i .i64],[]⟩,G:=fun R K n a b c=>qX N a (pK ⟨[.st],[]⟩ (K (.exit 0))) n b c,B:=fun R K rec a b c=>wF N a (pK ⟨[.st],[]⟩ (K (.exit 0))) (rec a) b c}],g:=[HI N]}
def Qm(N:Nat):OC E0:=⟨_,FD.ct e0 (Ql N) N (fun R k a=>CL N a (oK ⟨.st,[],[]⟩ k))⟩
def wG(N:Nat)(U:List ak)(b9:ae→ab R)(rec:ae→Int→ab R)(o:ae)(I:Int):ab R:=
 if(decide (I<((U.length:Nat):Int)))=true then
 ((at? U I).bind fun j=>
 if o.length+([99,104,97,110,32]:ae).length≤ah then(if(o++([99,104,97,110,32]:ae)).length+j.Name.length≤ah then(if((o++([99,104,97,110,32]:ae))++j.Name).length+([32,58,32]:ae).length≤ah then(if(((o++([99,104,97,110,32]:ae))++j.Name)++([32,58,32]:ae)).length+j.From.length≤ah then(if((((o++([99,104,97,110,32]:ae))++j.Name)++([32,58,32]:ae))++j.From).length+([46]:ae).length≤ah then(if(((((o++([99,104,97,110,32]:ae))++j.Name)++([32,58,32]:ae))++j.From)++([46]:ae)).length+j.Port.length≤ah then(if((((((o++([99,104,97,110,32]:ae))++j.Name)++([32,58,32]:ae))++j.From)++([46]:ae))++j.Port).length+([32,45,62,32]:ae).length≤ah then(if(((((((o++([99,104,97,110,32]:ae))++j.Name)++([32,58,32]:ae))++j.From)++([46]:ae))++j.Port)++([32,45,62,32]:ae)).length+j.To.length≤ah then(if((((((((o++([99,104,97,110,32]:ae))++j.Name)++([32,58,32]:ae))++j.From)++([46]:ae))++j.Port)++([32,45,62,32]:ae))++j.To).length+([32,99,97,112,32]:ae).length≤ah then(uG N j.Cap (fun C=>
 if(((((((((o++([99,104,97,110,32]:ae))++j.Name)++([32,58,32]:ae))++j.From)++([46]:ae))++j.Port)++([32,45,62,32]:ae))++j.To)++([32,99,97,112,32]:ae)).length+C.length≤ah then(if((((((((((o++([99,104,97,110,32]:ae))++j.Name)++([32,58,32]:ae))++j.From)++([46]:ae))++j.Port)++([32,45,62,32]:ae))++j.To)++([32,99,97,112,32]:ae))++C).length+([32,112,114,105,111,32]:ae).length≤ah then(uG N j.Prio (fun J=>
 if(((((((((((o++([99,104,97,110,32]:ae))++j.Name)++([32,58,32]:ae))++j.From)++([46]:ae))++j.Port)++([32,45,62,32]:ae))++j.To)++([32,99,97,112,32]:ae))++C)++([32,112,114,105,111,32]:ae)).length+J.length≤ah then(if((((((((((((o++([99,104,97,110,32]:ae))++j.Name)++([32,58,32]:ae))++j.From)++([46]:ae))++j.Port)++([32,45,62,32]:ae))++j.To)++([32,99,97,112,32]:ae))++C)++([32,112,114,105,111,32]:ae))++J).length+([59,10]:ae).length≤ah then(rec (((((((((((((o++([99,104,97,110,32]:ae))++j.Name)++([32,58,32]:ae))++j.From)++([46]:ae))++j.Port)++([32,45,62,32]:ae))++j.To)++([32,99,97,112,32]:ae))++C)++([32,112,114,105,111,32]:ae))++J)++([59,10]:ae)) (IntKind.wrap .i64 (I+1))) else none) else none)) else none) else none)) else none) else none) else none) else none) else none) else none) else none) else none) else none)
 else
 (b9 o)
def qY(N:Nat)(j:List ak)(o:ae→ab R):Nat→ae→Int→ab R
 |0=>fun _ _=>none
 |n+1=>fun C I=>wG N j o (qY N j o n) C I
def CM(N:Nat)(l:List ak)(j:ae→ab R):ab R:=
 qY N l (fun y7=>
 j y7) N [] 0
def Qn(N:Nat):FD E0:={f:=50,fn:=Tryz.f50,q:=⟨[.t .chan],[]⟩,loops:=[{cur:=0,live:=[0,3,4],out:=fun | .exit 0=>([3],[])|_=>([],[]),q:=⟨[.t .chan,.st,.i .i64],[]⟩,G:=fun R K n a b c=>qY N a (pK ⟨[.st],[]⟩ (K (.exit 0))) n b c,B:=fun R K rec a b c=>wG N a (pK ⟨[.st],[]⟩ (K (.exit 0))) (rec a) b c}],g:=[HI N]}
def Qo(N:Nat):OC E0:=⟨_,FD.ct e0 (Qn N) N (fun R k a=>CM N a (oK ⟨.st,[],[]⟩ k))⟩
def qZ(N:Nat)(C:ae)(j:Int)(o:ab R)(rec:ab R): ab R:=
 if(decide (j<0))=true then
 (none)
 else
 (o )
def Au(N:Nat)(j:ae)(o:Int)(C:ab R):Nat→ab R
 |0=>none
 |n+1=>qZ N j o C (Au N j o C n)
def CN(N:Nat)(j:ae→ab R):ab R:=
 Au N [] 0 (j []) N 
def Qp(N:Nat):FD E0:={f:=51,fn:=Tryz.f51,q:=⟨[.ns],[]⟩,loops:=[{cur:=0,live:=[0,3,4],out:=fun | .exit 0=>([3],[])|_=>([],[]),q:=⟨[.ns,.st,.i .i64],[]⟩,G:=fun R K n a b=>Au N a b (pK ⟨[.st],[]⟩ (K (.exit 0)) a) n ,B:=fun R K rec a b=>qZ N a b (pK ⟨[.st],[]⟩ (K (.exit 0)) a) (rec a b)}]}
def Qq(N:Nat):OC E0:=⟨_,FD.ct e0 (Qp N) N (fun R k=>CN N (oK ⟨.st,[],[]⟩ k))⟩
def yr(N:Nat)(b9:Int)(I:List Chart)(j6:List Inst)(j7:List ak)(U:ae→ab R)(rec:ae→Int→ab R)(o:ae)(C:Int):ab R:=
 if(decide (C<((I.length:Nat):Int)))=true then
 ((at? I C).bind fun j=>
 GP N j.Name j.Steps j.Fuel j.Vars j.Ports j.Timers j.States j.At (fun J=>
 if o.length+J.length≤ah then(rec (o++J) (IntKind.wrap .i64 (C+1))) else none))
 else
 (U o)
def tB(N:Nat)(j:Int)(o:List Chart)(C:List Inst)(I:List ak)(J:ae→ab R):Nat→ae→Int→ab R
 |0=>fun _ _=>none
 |n+1=>fun U b9=>yr N j o C I J (tB N j o C I J n) U b9
def GQ(N:Nat)(Age:Int)(Charts:List Chart)(Insts:List Inst)(Chans:List ak)(J:ae→ab R):ab R:=
 uG N Age (fun o=>
 if([115,121,115,116,101,109,32,97,103,101,32]:ae).length+o.length≤ah then(if(([115,121,115,116,101,109,32,97,103,101,32]:ae)++o).length+([59,10]:ae).length≤ah then(tB N Age Charts Insts Chans (fun y10=>
 CL N Insts (fun j=>
 if y10.length+j.length≤ah then(CM N Chans (fun C=>
 if(y10++j).length+C.length≤ah then(CN N (fun I=>
 if((y10++j)++C).length+I.length≤ah then(J (((y10++j)++C)++I)) else none)) else none)) else none)) N ((([115,121,115,116,101,109,32,97,103,101,32]:ae)++o)++([59,10]:ae)) 0) else none) else none)
def Sw(N:Nat):FD E0:={f:=16,fn:=Tryz.f16,q:=⟨[y24],[]⟩,loops:=[{cur:=0,live:=[1,3,4],out:=fun | .exit 0=>([1,3],[])|_=>([],[]),q:=⟨[.p 0 0 0,.st,.i .i64],[z65]⟩,G:=fun R K n a b c d e g=>tB N c d e g (fun h=>pK ⟨[.p 0 0 0,.st],[z65]⟩ (K (.exit 0)) h c d e g) n a b,B:=fun R K rec a b c d e g=>yr N c d e g (fun h=>pK ⟨[.p 0 0 0,.st],[z65]⟩ (K (.exit 0)) h c d e g) (fun a b=>rec a b c d e g) a b}],g:=[HI N,Sv N,Qm N,Qo N,Qq N]}
def Sx(N:Nat):OC E0:=⟨_,FD.ct e0 (Sw N) N (fun R k a b c d=>GQ N a b c d (oK ⟨.st,[],[]⟩ k))⟩
def r37_Text(N:Nat)(v:List Int)(j:ae→ab R):ab R:=
 As N v (fun o C I J=>
 GQ N o C I J (fun U=>
 j U))
def Sy(N:Nat):FD E0:={f:=13,fn:=Tryz.f13,q:=⟨[.t .int],[]⟩,g:=[Sx N,NK N]}
def Sz(N:Nat):OC E0:=⟨_,FD.ct e0 (Sy N) N (fun R k a=>r37_Text N a (oK ⟨.st,[],[]⟩ k))⟩
end
end So
