/- T3_5: a part of the proof of SoundSpoilt: lemmas on the evaluator and on the functions that the law reaches. -/
import Derived.Test.YtcllbmdpckfnhaaGreatT3x4
set_option maxRecDepth 100000
set_option linter.unusedVariables false
namespace So
open Go TE Go.Proofs
noncomputable section
variable{R:Type}
def Zg(N:Nat)(e place:Int)(j:ab R):ab R:=
 j 
def Wv(N:Nat):FD E0:={f:=39,fn:=Tryz.f39,q:=⟨[.i .i64,.i .i64],[]⟩}
def mv(N:Nat):OC E0:=⟨_,FD.ct e0 (Wv N) N (fun R k a b=>Zg N a b (oK ⟨.ag [.i .i64,.i .i64],[],[]⟩ k a b))⟩
def je(N:Nat)(Kind:Int)(Name:ae)(Entry Exit:List Act)(Trans_:List Trans)(Kids:List State)(At:Int)(j:Bool→ab R):ab R:=
 (ifB (Kind==1) false (some (Kind==2)) (some true)).bind fun o=>
 j o
def Lr(N:Nat):FD E0:={f:=145,fn:=Tryz.f145,q:=⟨[y2],[]⟩}
def rU(N:Nat):OC E0:=⟨_,FD.ct e0 (Lr N) N (fun R k a b c d e g h=>je N a b c d e g h (oK ⟨.b,[],[]⟩ k))⟩
def rV(N:Nat)(C:List State)(I:ab R)(J:Bool→ab R)(rec:Int→ab R)(o:Int):ab R:=
 if(decide (o<((C.length:Nat):Int)))=true then
 ((at? C o).bind fun j=>
 je N j.Kind j.Name j.Entry j.Exit j.Trans j.Kids j.At (fun U=>
 if U=true then
 (J true)
 else
 (rec (IntKind.wrap .i64 (o+1)))))
 else
 (I )
def pA(N:Nat)(j:List State)(o:ab R)(C:Bool→ab R):Nat→Int→ab R
 |0=>fun _=>none
 |n+1=>fun I=>rV N j o C (pA N j o C n) I
def qh(N:Nat)(l:List State)(j:Bool→ab R):ab R:=
 pA N l (j false)
 (fun y5=>
 j y5) N 0
def Rm(N:Nat):FD E0:={f:=90,fn:=Tryz.f90,q:=⟨[.t .state],[]⟩,loops:=[{cur:=0,live:=[0,3],out:=fun | .exit 0=>([],[]) | .ret=>([2],[])|_=>([],[]),q:=⟨[.t .state,.i .i64],[]⟩,G:=fun R K n a b=>pA N a (pK ⟨[],[]⟩ (K (.exit 0))) (pK ⟨[.b],[]⟩ (K .ret)) n b,B:=fun R K rec a b=>rV N a (pK ⟨[],[]⟩ (K (.exit 0))) (pK ⟨[.b],[]⟩ (K .ret)) (rec a) b}],g:=[rU N]}
def Ek(N:Nat):OC E0:=⟨_,FD.ct e0 (Rm N) N (fun R k a=>qh N a (oK ⟨.b,[],[]⟩ k))⟩
def qi(N:Nat)(C:List ai)(J:(List ae)→ab R)(rec:Int→(List ae)→ab R)(j:Int)(o:List ae):ab R:=
 if(decide (j<((C.length:Nat):Int)))=true then
 ((at? C j).bind fun I=>
 if o.length+[I.Name].length≤ah then(rec (IntKind.wrap .i64 (j+1)) (o++[I.Name])) else none)
 else
 (J o)
def mX(N:Nat)(j:List ai)(o:(List ae)→ab R):Nat→Int→(List ae)→ab R
 |0=>fun _ _=>none
 |n+1=>fun C I=>qi N j o (mX N j o n) C I
def jI(N:Nat)(l:List ai)(j:(List ae)→ab R):ab R:=
 mX N l (fun y8=>
 j y8) N 0 ([]:List ae)
def OE(N:Nat):FD E0:={f:=98,fn:=Tryz.f98,q:=⟨[.t .named],[]⟩,loops:=[{cur:=0,live:=[0,3,4],fix:=[(⟨3,[]⟩,.row .str .app)],out:=fun | .exit 0=>([3],[])|_=>([],[]),q:=⟨[.t .named,.sw 0,.i .i64],[.rw .str .app]⟩,G:=fun R K n a b c=>mX N a (pK ⟨[.sw 0],[.rw .str .app]⟩ (K (.exit 0))) n b c,B:=fun R K rec a b c=>qi N a (pK ⟨[.sw 0],[.rw .str .app]⟩ (K (.exit 0))) (rec a) b c}],exit:=[(⟨2,[]⟩,.tree .str)]}
def xp(N:Nat):OC E0:=⟨_,FD.ct e0 (OE N) N (fun R k a=>jI N a (oK ⟨.t .str,[],[]⟩ k))⟩
def um(N:Nat)(o:List ae)(C:ae)(I:ab R)(J:Bool→ab R)(rec:Int→ab R)(j:Int):ab R:=
 if(decide (j<((o.length:Nat):Int)))=true then
 ((at? o j).bind fun U=>
 if(U==C)=true then
 (J true)
 else
 (rec (IntKind.wrap .i64 (j+1))))
 else
 (I )
def rC(N:Nat)(j:List ae)(o:ae)(C:ab R)(I:Bool→ab R):Nat→Int→ab R
 |0=>fun _=>none
 |n+1=>fun J=>um N j o C I (rC N j o C I n) J
def fD(N:Nat)(l:List ae)(s:ae)(j:Bool→ab R):ab R:=
 rC N l s (j false)
 (fun y5=>
 j y5) N 0
def Ux(N:Nat):FD E0:={f:=97,fn:=Tryz.f97,q:=⟨[.t .str,.st],[]⟩,loops:=[{cur:=0,live:=[0,1,5],out:=fun | .exit 0=>([],[]) | .ret=>([4],[])|_=>([],[]),q:=⟨[.t .str,.st,.i .i64],[]⟩,G:=fun R K n a b c=>rC N a b (pK ⟨[],[]⟩ (K (.exit 0))) (pK ⟨[.b],[]⟩ (K .ret)) n c,B:=fun R K rec a b c=>um N a b (pK ⟨[],[]⟩ (K (.exit 0))) (pK ⟨[.b],[]⟩ (K .ret)) (rec a b) c}]}
def mY(N:Nat):OC E0:=⟨_,FD.ct e0 (Ux N) N (fun R k a b=>fD N a b (oK ⟨.b,[],[]⟩ k))⟩
def qj(N:Nat)(o:List ai)(I j9 k5:Int)(J:ab R)(C:Int→Int→ab R)(rec:Int→ab R)(j:Int):ab R:=
 if(decide (j<((o.length:Nat):Int)))=true then
 (if(j==I)=true then
 ((at? o j).bind fun U=>
 C 15 U.At)
 else
 (if(0:Int)≤0∧0≤j∧j≤((o.length:Nat):Int) then(jI N ((o.take j.toNat).drop (Int.toNat 0)) (fun r7=>
 (at? o j).bind fun e8=>
 fD N r7 e8.Name (fun r9=>
 if r9=true then
 ((at? o j).bind fun j8=>
 C 8 j8.At)
 else
 (rec (IntKind.wrap .i64 (j+1)))))) else none))
 else
 (J )
def mZ(N:Nat)(j:List ai)(o C I:Int)(J:ab R)(U:Int→Int→ab R):Nat→Int→ab R
 |0=>fun _=>none
 |n+1=>fun b9=>qj N j o C I J U (mZ N j o C I J U n) b9
def rD(N:Nat)(l:List ai)(most:Int)(j:Int→Int→ab R):ab R:=
 mZ N l most 0 0 (j 0 0)
 (fun y11 y12=>
 j y11 y12) N 0
def OF(N:Nat):FD E0:={f:=91,fn:=Tryz.f91,q:=⟨[.t .named,.i .i64],[]⟩,loops:=[{cur:=0,live:=[0,1,4,5],out:=fun | .exit 0=>([4],[]) | .ret=>([4],[])|_=>([],[]),q:=⟨[.t .named,.i .i64,.p 0 0 0,.i .i64],[.bx [.i .i64,.i .i64]]⟩,G:=fun R K n a b c d e=>mZ N a b d e (pK ⟨[.p 0 0 0],[.bx [.i .i64,.i .i64]]⟩ (K (.exit 0)) d e) (pK ⟨[.p 0 0 0],[.bx [.i .i64,.i .i64]]⟩ (K .ret)) n c,B:=fun R K rec a b c d e=>qj N a b d e (pK ⟨[.p 0 0 0],[.bx [.i .i64,.i .i64]]⟩ (K (.exit 0)) d e) (pK ⟨[.p 0 0 0],[.bx [.i .i64,.i .i64]]⟩ (K .ret)) (fun c=>rec a b c d e) c}],g:=[mv N,mY N,xp N]}
def OG(N:Nat):OC E0:=⟨_,FD.ct e0 (OF N) N (fun R k a b=>rD N a b (oK ⟨.ag [.i .i64,.i .i64],[],[]⟩ k))⟩
def z39:ShO S:=.bx [.st,.i .i64,.i .i64,.t .named,.t .named,.t .named,.t .state,.i .i64,.sw 1,.sw 2,.i .i64]
def z40:ShO S:=.bx [.st,.i .i64,.i .i64,.t .named,.t .named,.t .named,.t .state,.i .i64,.sw 3,.sw 4,.i .i64]
structure aJ where
 r12_looking_shapes_2:(R:Type)→(List State)→Bool→ae→Int→Int→(List ai)→(List ai)→(List ai)→(List State)→Int→Int→(List ae)→(List ae)→(Int→Int→(List ae)→(List ae)→ab R)→ab R
def qk:Pat S:=⟨[.p 0 0 0,.t .state,.b],[z39,.rw .str .app,.rw .str .app]⟩
def kr(F:aJ):Ct S:=⟨92,qk,fun R k a b c d e g h i j l m o p=>F.r12_looking_shapes_2 R a b c d e g h i j l m o p (fun q s=>oK ⟨.ag [.i .i64,.i .i64],[z40,.rw .str .ro,.rw .str .ro],[.rw .str .app,.rw .str .app]⟩ k q s c d e g h i j l m o p)⟩
structure gW(F:aJ):Prop where
 r12_looking_shapes_2:(kr F).ok E0
def dG(F:aJ)(N:Nat)(m3:List State)(m4:Bool)(m5:Int)(I:ae)(J U:Int)(b9 j6 j7:List ai)(j8:List State)(j9 k5:Int)(m6 m7 k7 k8:List ae)(m8 m9 n9:Int)(o0:ae)(o5 o6:List Act)(o7:List Trans)(k9:List State)(o8:Int)(l7:(List ae)→(List ae)→Int→Int→ab R)(l9:(List ae)→(List ae)→ab R):ab R:=
 F.r12_looking_shapes_2 _ k9 false I J U b9 j6 j7 j8 j9 k5 k7 k8 (fun j m0 o C=>
 if(j != 0)=true then
 (l7 o C j m0)
 else
 (l9 o C))
def jm(F:aJ)(N:Nat)(j8:List State)(j9:Bool)(k5:Int)(k7:ae)(k8 k9:Int)(l7 l9 m0:List ai)(m3:List State)(m4 m5:Int)(m6 m7 o C:List ae)(m8 m9 I:Int)(j:ae)(J U:List Act)(b9:List Trans)(j6:List State)(j7:Int)(n9:(List ae)→(List ae)→Int→Int→ab R)(o0:(List ae)→(List ae)→ab R):ab R:=
 if o.length+[j].length≤ah then(je N I j J U b9 j6 j7 (fun o5=>
 if o5=true then
 (if C.length+[j].length≤ah then(dG F N j8 j9 k5 k7 k8 k9 l7 l9 m0 m3 m4 m5 m6 m7 (o++[j]) (C++[j]) m8 m9 I j J U b9 j6 j7 (fun o6 o7 o8 o9=>
 n9 o6 o7 o8 o9)
 (fun p5 p6=>
 o0 p5 p6)) else none)
 else
 (dG F N j8 j9 k5 k7 k8 k9 l7 l9 m0 m3 m4 m5 m6 m7 (o++[j]) C m8 m9 I j J U b9 j6 j7 (fun p7 p8 p9 q8=>
 n9 p7 p8 p9 q8)
 (fun q9 s8=>
 o0 q9 s8)))) else none
def fc(F:aJ)(N:Nat)(U:List State)(b9:Bool)(j6:ae)(j7 j8:Int)(j9 k5 k7:List ai)(k8:List State)(k9 l7:Int)(l9 m0:List ae)(m3 m4:Int)(m5:(List ae)→(List ae)→ab R)(I:(List ae)→(List ae)→Int→Int→ab R)(rec:Int→(List ae)→(List ae)→ab R)(J:Int)(o C:List ae):ab R:=
 if(decide (J<((U.length:Nat):Int)))=true then
 ((at? U J).bind fun j=>
 if(((o.length:Nat):Int)==63)=true then
 (I o C 15 j.At)
 else
 (fD N o j.Name (fun m6=>
 if m6=true then
 (I o C 8 j.At)
 else
 ((ifB b9 true (je N j.Kind j.Name j.Entry j.Exit j.Trans j.Kids j.At (fun m7=>
 some (!m7))) (some false)).bind fun m8=>
 (ifB m8 false ((ifB (j.Kind==2) true (qh N j.Kids (fun m9=>
 some (!m9))) (some false)).bind fun c24=>
 some c24) (some true)).bind fun n9=>
 (ifB n9 false ((ifB (j.Kind==1) true (some (decide (((j.Kids.length:Nat):Int)>0))) (some false)).bind fun o0=>
 (ifB o0 true (qh N j.Kids (fun o5=>
 some (!o5))) (some false)).bind fun o6=>
 some o6) (some true)).bind fun o7=>
 if o7=true then
 (I o C 17 j.At)
 else
 (jm F N U b9 J j6 j7 j8 j9 k5 k7 k8 k9 l7 l9 m0 o C m3 m4 j.Kind j.Name j.Entry j.Exit j.Trans j.Kids j.At (fun o8 o9 p5 p6=>
 I o8 o9 p5 p6)
 (fun p7 p8=>
 rec (IntKind.wrap .i64 (J+1)) p7 p8))))))
 else
 (m5 o C)
def bK(F:aJ)(N:Nat)(j:List State)(o:Bool)(C:ae)(I J:Int)(U b9 j6:List ai)(j7:List State)(j8 j9:Int)(k5 k7:List ae)(k8 k9:Int)(l7:(List ae)→(List ae)→ab R)(l9:(List ae)→(List ae)→Int→Int→ab R):Nat→Int→(List ae)→(List ae)→ab R
 |0=>fun _ _ _=>none
 |n+1=>fun m0 m3 m4=>fc F N j o C I J U b9 j6 j7 j8 j9 k5 k7 k8 k9 l7 l9 (bK F N j o C I J U b9 j6 j7 j8 j9 k5 k7 k8 k9 l7 l9 n) m0 m3 m4
def eH(F:aJ)(N:Nat)(l:List State)(top:Bool)(Name:ae)(Steps Fuel:Int)(Vars Ports Timers:List ai)(States:List State)(At trans:Int)(names states:List ae)(j:Int→Int→(List ae)→(List ae)→ab R):ab R:=
 bK F N l top Name Steps Fuel Vars Ports Timers States At trans names states 0 0 (fun o C=>
 j 0 0 o C)
 (fun I J U b9=>
 j U b9 I J) N 0 names states
def ku(F:aJ)(hF:gW F)(N:Nat):FD E0:={f:=92,fn:=Tryz.f92,q:=qk,loops:=[{cur:=0,live:=[0,1,2,6,7],fix:=[(⟨0,[8]⟩,.fresh .str .app),(⟨0,[9]⟩,.fresh .str .app)],out:=fun | .exit 0=>([6],[]) | .ret=>([6],[])|_=>([],[]),q:=⟨[.p 0 0 0,.t .state,.b,.p 5 0 0,.i .i64],[z40,.rw .str .ro,.rw .str .ro,.rw .str .app,.rw .str .app,.bx [.i .i64,.i .i64]]⟩,G:=fun R K n a b c d e g h i j l m o p q s t u v=>bK F N a b d e g h i j l m o p q u v (fun w x=>pK ⟨[.p 5 0 0],[z40,.rw .str .ro,.rw .str .ro,.rw .str .app,.rw .str .app,.bx [.i .i64,.i .i64]]⟩ (K (.exit 0)) d e g h i j l m o p q w x u v) (pK ⟨[.p 5 0 0],[z40,.rw .str .ro,.rw .str .ro,.rw .str .app,.rw .str .app,.bx [.i .i64,.i .i64]]⟩ (K .ret) d e g h i j l m o p q) n c s t,B:=fun R K rec a b c d e g h i j l m o p q s t u v=>fc F N a b d e g h i j l m o p q u v (fun w x=>pK ⟨[.p 5 0 0],[z40,.rw .str .ro,.rw .str .ro,.rw .str .app,.rw .str .app,.bx [.i .i64,.i .i64]]⟩ (K (.exit 0)) d e g h i j l m o p q w x u v) (pK ⟨[.p 5 0 0],[z40,.rw .str .ro,.rw .str .ro,.rw .str .app,.rw .str .app,.bx [.i .i64,.i .i64]]⟩ (K .ret) d e g h i j l m o p q) (fun c s t=>rec a b c d e g h i j l m o p q s t u v) c s t}],cuts:=[{key:=14,live:=[0,1,2,6,7,8],fix:=[(⟨0,[9]⟩,.fresh .str .app)],out:=fun | .ret=>([6],[]) | .normal=>([0,1,2,6,7],[])|_=>([],[]),q:=⟨[.p 0 0 0,.t .state,.b,.p 5 0 0,.i .i64,.p 6 0 0],[z40,.rw .str .ro,.rw .str .ro,.rw .str .app,.rw .str .app,.bx [.i .i64,.i .i64],z35]⟩,G:=fun R K a b c d e g h i j l m o p q s t u v w x y z a1 b1 c1=>dG F N a b c d e g h i j l m o p q s t u v w x y z a1 b1 c1 (pK ⟨[.p 5 0 0],[z40,.rw .str .ro,.rw .str .ro,.rw .str .app,.rw .str .app,.bx [.i .i64,.i .i64]]⟩ (K .ret) d e g h i j l m o p q) (fun d1 e1=>pK ⟨[.p 0 0 0,.t .state,.b,.p 5 0 0,.i .i64],[z40,.rw .str .ro,.rw .str .ro,.rw .str .app,.rw .str .app,.bx [.i .i64,.i .i64]]⟩ (K .normal) a b c d e g h i j l m o p q d1 e1 u v)},{key:=11,live:=[0,1,2,6,7,8],fix:=[(⟨0,[8]⟩,.fresh .str .app),(⟨0,[9]⟩,.fresh .str .app)],out:=fun | .ret=>([6],[]) | .normal=>([0,1,2,6,7],[])|_=>([],[]),q:=⟨[.p 0 0 0,.t .state,.b,.p 5 0 0,.i .i64,.p 6 0 0],[z40,.rw .str .ro,.rw .str .ro,.rw .str .app,.rw .str .app,.bx [.i .i64,.i .i64],z35]⟩,G:=fun R K a b c d e g h i j l m o p q s t u v w x y z a1 b1 c1=>jm F N a b c d e g h i j l m o p q s t u v w x y z a1 b1 c1 (pK ⟨[.p 5 0 0],[z40,.rw .str .ro,.rw .str .ro,.rw .str .app,.rw .str .app,.bx [.i .i64,.i .i64]]⟩ (K .ret) d e g h i j l m o p q) (fun d1 e1=>pK ⟨[.p 0 0 0,.t .state,.b,.p 5 0 0,.i .i64],[z40,.rw .str .ro,.rw .str .ro,.rw .str .app,.rw .str .app,.bx [.i .i64,.i .i64]]⟩ (K .normal) a b c d e g h i j l m o p q d1 e1 u v)}],g:=[mv N,Ek N,⟨kr F,hF.r12_looking_shapes_2⟩,mY N,rU N]}
theorem xV(F:aJ)(hF:gW F)(N:Nat):Ct.ok E0 ⟨(ku F hF N).f,(ku F hF N).q,fun R k a b c d e g h i j l m o p=>eH F N a b c d e g h i j l m o p (fun q s=>oK ⟨.ag [.i .i64,.i .i64],[z40,.rw .str .ro,.rw .str .ro],[.rw .str .app,.rw .str .app]⟩ k q s c d e g h i j l m o p)⟩:=FD.ct e0 (ku F hF N) N (fun R k a b c d e g h i j l m o p=>eH F N a b c d e g h i j l m o p (fun q s=>oK ⟨.ag [.i .i64,.i .i64],[z40,.rw .str .ro,.rw .str .ro],[.rw .str .app,.rw .str .app]⟩ k q s c d e g h i j l m o p))
def sR(F:aJ)(N:Nat):aJ where
 r12_looking_shapes_2:=fun R l top Name Steps Fuel Vars Ports Timers States At trans names states j=>eH F N l top Name Steps Fuel Vars Ports Timers States At trans names states j
def bC(N:Nat):Nat→aJ
 |0=>{r12_looking_shapes_2:=fun _ _ _ _ _ _ _ _ _ _ _ _ _ _ _=>none}
 |d+1=>sR (bC N d) N
theorem jJ(N:Nat):∀d,gW (bC N d)
 |0=>{r12_looking_shapes_2:=Ct.ok_none}
 |d+1=>{r12_looking_shapes_2:=xV _ (jJ N d) N}
def r12_looking_shapes_2(N:Nat)(l:List State)(top:Bool)(Name:ae)(Steps Fuel:Int)(Vars Ports Timers:List ai)(States:List State)(At trans:Int)(names states:List ae)(j:Int→Int→(List ae)→(List ae)→ab R):ab R:=(bC N N).r12_looking_shapes_2 R l top Name Steps Fuel Vars Ports Timers States At trans names states j
theorem zb(N d:Nat)(l:List State)(top:Bool)(Name:ae)(Steps Fuel:Int)(Vars Ports Timers:List ai)(States:List State)(At trans:Int)(names states:List ae)(k0:Int→Int→(List ae)→(List ae)→ab R):(bC N (d+1)).r12_looking_shapes_2 R l top Name Steps Fuel Vars Ports Timers States At trans names states k0=eH (bC N d) N l top Name Steps Fuel Vars Ports Timers States At trans names states k0:=rfl
def zT(N:Nat):OC E0:=⟨kr (bC N N),(jJ N N).r12_looking_shapes_2⟩
def z41:ShO S:=.bx [.st,.i .i64,.i .i64,.t .named,.t .named,.t .named,.t .state,.i .i64,.ns,.ns,.i .i64]
def eI(N:Nat)(m3:List State)(m4:Bool)(m5:Int)(I:ae)(J U:Int)(b9 j6 j7:List ai)(j8:List State)(j9 k5:Int)(k7 k8:List ae)(m6 m7 m8:Int)(m9:ae)(n9 o0:List Act)(o5:List Trans)(k9:List State)(o6:Int)(l7:(List ae)→(List ae)→Int→Int→ab R)(l9:(List ae)→(List ae)→ab R):ab R:=
 r12_looking_shapes_2 N k9 false I J U b9 j6 j7 j8 j9 k5 k7 k8 (fun j m0 o C=>
 if(j != 0)=true then
 (l7 o C j m0)
 else
 (l9 o C))
def kv(N:Nat)(j8:List State)(j9:Bool)(k5:Int)(k7:ae)(k8 k9:Int)(l7 l9 m0:List ai)(m3:List State)(m4 m5:Int)(o C:List ae)(m6 m7 I:Int)(j:ae)(J U:List Act)(b9:List Trans)(j6:List State)(j7:Int)(m8:(List ae)→(List ae)→Int→Int→ab R)(m9:(List ae)→(List ae)→ab R):ab R:=
 if o.length+[j].length≤ah then(je N I j J U b9 j6 j7 (fun n9=>
 if n9=true then
 (if C.length+[j].length≤ah then(eI N j8 j9 k5 k7 k8 k9 l7 l9 m0 m3 m4 m5 (o++[j]) (C++[j]) m6 m7 I j J U b9 j6 j7 (fun o0 o5 o6 o7=>
 m8 o0 o5 o6 o7)
 (fun o8 o9=>
 m9 o8 o9)) else none)
 else
 (eI N j8 j9 k5 k7 k8 k9 l7 l9 m0 m3 m4 m5 (o++[j]) C m6 m7 I j J U b9 j6 j7 (fun p5 p6 p7 p8=>
 m8 p5 p6 p7 p8)
 (fun p9 q8=>
 m9 p9 q8)))) else none
def gu(N:Nat)(U:List State)(b9:Bool)(j6:ae)(j7 j8:Int)(j9 k5 k7:List ai)(k8:List State)(k9 l7 l9 m0:Int)(m3:(List ae)→(List ae)→ab R)(I:(List ae)→(List ae)→Int→Int→ab R)(rec:Int→(List ae)→(List ae)→ab R)(J:Int)(o C:List ae):ab R:=
 if(decide (J<((U.length:Nat):Int)))=true then
 ((at? U J).bind fun j=>
 if(((o.length:Nat):Int)==63)=true then
 (I o C 15 j.At)
 else
 (fD N o j.Name (fun m4=>
 if m4=true then
 (I o C 8 j.At)
 else
 ((ifB b9 true (je N j.Kind j.Name j.Entry j.Exit j.Trans j.Kids j.At (fun m5=>
 some (!m5))) (some false)).bind fun m6=>
 (ifB m6 false ((ifB (j.Kind==2) true (qh N j.Kids (fun m7=>
 some (!m7))) (some false)).bind fun m8=>
 some m8) (some true)).bind fun m9=>
 (ifB m9 false ((ifB (j.Kind==1) true (some (decide (((j.Kids.length:Nat):Int)>0))) (some false)).bind fun c24=>
 (ifB c24 true (qh N j.Kids (fun n9=>
 some (!n9))) (some false)).bind fun o0=>
 some o0) (some true)).bind fun o5=>
 if o5=true then
 (I o C 17 j.At)
 else
 (kv N U b9 J j6 j7 j8 j9 k5 k7 k8 k9 l7 o C l9 m0 j.Kind j.Name j.Entry j.Exit j.Trans j.Kids j.At (fun o6 o7 o8 o9=>
 I o6 o7 o8 o9)
 (fun p5 p6=>
 rec (IntKind.wrap .i64 (J+1)) p5 p6))))))
 else
 (m3 o C)
def ca(N:Nat)(j:List State)(o:Bool)(C:ae)(I J:Int)(U b9 j6:List ai)(j7:List State)(j8 j9 k5 k7:Int)(k8:(List ae)→(List ae)→ab R)(k9:(List ae)→(List ae)→Int→Int→ab R):Nat→Int→(List ae)→(List ae)→ab R
 |0=>fun _ _ _=>none
 |n+1=>fun l7 l9 m0=>gu N j o C I J U b9 j6 j7 j8 j9 k5 k7 k8 k9 (ca N j o C I J U b9 j6 j7 j8 j9 k5 k7 k8 k9 n) l7 l9 m0
def kx(N:Nat)(l:List State)(top:Bool)(Name:ae)(Steps Fuel:Int)(Vars Ports Timers:List ai)(States:List State)(At trans:Int)(j:Int→Int→(List ae)→(List ae)→ab R):ab R:=
 ca N l top Name Steps Fuel Vars Ports Timers States At trans 0 0 (fun o C=>
 j 0 0 o C)
 (fun I J U b9=>
 j U b9 I J) N 0 ([]:List ae) ([]:List ae)
def BL(N:Nat):FD E0:={f:=92,fn:=Tryz.f92,q:=⟨[.p 0 0 0,.t .state,.b],[z41]⟩,loops:=[{cur:=0,live:=[0,1,2,6,7],fix:=[(⟨0,[8]⟩,.row .str .app),(⟨0,[9]⟩,.row .str .app)],out:=fun | .exit 0=>([6],[]) | .ret=>([6],[])|_=>([],[]),q:=⟨[.p 0 0 0,.t .state,.b,.p 3 0 0,.i .i64],[z39,.rw .str .app,.rw .str .app,.bx [.i .i64,.i .i64]]⟩,G:=fun R K n a b c d e g h i j l m o p q s t=>ca N a b d e g h i j l m o s t (fun u v=>pK ⟨[.p 3 0 0],[z39,.rw .str .app,.rw .str .app,.bx [.i .i64,.i .i64]]⟩ (K (.exit 0)) d e g h i j l m o u v s t) (pK ⟨[.p 3 0 0],[z39,.rw .str .app,.rw .str .app,.bx [.i .i64,.i .i64]]⟩ (K .ret) d e g h i j l m o) n c p q,B:=fun R K rec a b c d e g h i j l m o p q s t=>gu N a b d e g h i j l m o s t (fun u v=>pK ⟨[.p 3 0 0],[z39,.rw .str .app,.rw .str .app,.bx [.i .i64,.i .i64]]⟩ (K (.exit 0)) d e g h i j l m o u v s t) (pK ⟨[.p 3 0 0],[z39,.rw .str .app,.rw .str .app,.bx [.i .i64,.i .i64]]⟩ (K .ret) d e g h i j l m o) (fun c p q=>rec a b c d e g h i j l m o p q s t) c p q}],cuts:=[{key:=14,live:=[0,1,2,6,7,8],fix:=[(⟨0,[9]⟩,.row .str .app)],out:=fun | .ret=>([6],[]) | .normal=>([0,1,2,6,7],[])|_=>([],[]),q:=⟨[.p 0 0 0,.t .state,.b,.p 3 0 0,.i .i64,.p 4 0 0],[z39,.rw .str .app,.rw .str .app,.bx [.i .i64,.i .i64],z35]⟩,G:=fun R K a b c d e g h i j l m o p q s t u v w x y z a1=>eI N a b c d e g h i j l m o p q s t u v w x y z a1 (pK ⟨[.p 3 0 0],[z39,.rw .str .app,.rw .str .app,.bx [.i .i64,.i .i64]]⟩ (K .ret) d e g h i j l m o) (fun b1 c1=>pK ⟨[.p 0 0 0,.t .state,.b,.p 3 0 0,.i .i64],[z39,.rw .str .app,.rw .str .app,.bx [.i .i64,.i .i64]]⟩ (K .normal) a b c d e g h i j l m o b1 c1 s t)},{key:=11,live:=[0,1,2,6,7,8],fix:=[(⟨0,[8]⟩,.row .str .app),(⟨0,[9]⟩,.row .str .app)],out:=fun | .ret=>([6],[]) | .normal=>([0,1,2,6,7],[])|_=>([],[]),q:=⟨[.p 0 0 0,.t .state,.b,.p 3 0 0,.i .i64,.p 4 0 0],[z39,.rw .str .app,.rw .str .app,.bx [.i .i64,.i .i64],z35]⟩,G:=fun R K a b c d e g h i j l m o p q s t u v w x y z a1=>kv N a b c d e g h i j l m o p q s t u v w x y z a1 (pK ⟨[.p 3 0 0],[z39,.rw .str .app,.rw .str .app,.bx [.i .i64,.i .i64]]⟩ (K .ret) d e g h i j l m o) (fun b1 c1=>pK ⟨[.p 0 0 0,.t .state,.b,.p 3 0 0,.i .i64],[z39,.rw .str .app,.rw .str .app,.bx [.i .i64,.i .i64]]⟩ (K .normal) a b c d e g h i j l m o b1 c1 s t)}],g:=[mv N,Ek N,zT N,mY N,rU N]}
def BM(N:Nat):OC E0:=⟨_,FD.ct e0 (BL N) N (fun R k a b c d e g h i j l m=>kx N a b c d e g h i j l m (fun o p=>oK ⟨.ag [.i .i64,.i .i64],[z39],[.rw .str .app,.rw .str .app]⟩ k o p c d e g h i j l m))⟩
structure aQ where
 r12_looking_exprs:(R:Type)→(List Expr)→ae→Int→Int→(List ai)→(List ai)→(List ai)→(List State)→Int→Int→(List ae)→(List ae)→(Int→Int→ab R)→ab R
 r12_looking_expr:(R:Type)→Int→Int→ae→(List Expr)→Int→ae→Int→Int→(List ai)→(List ai)→(List ai)→(List State)→Int→Int→(List ae)→(List ae)→(Int→Int→ab R)→ab R
def nR:Pat S:=⟨[.p 0 0 0,.t .expr],[z39,.rw .str .app,.rw .str .app]⟩
def nT(F:aQ):Ct S:=⟨170,nR,fun R k=>((fun R k a b c d e g h i j l m o=>F.r12_looking_exprs R a b c d e g h i j l m o (oQ ⟨.ag [.i .i64,.i .i64],[],[]⟩ k):(R:Type)→(TV S→List (Obj S)→ab R)→nR.Fn (ab R))) R fun v ns=>k ⟨v,none,ns⟩⟩
def oZ:Pat S:=⟨[.p 0 0 0,y4],[z39,.rw .str .app,.rw .str .app]⟩
def vK(F:aQ):Ct S:=⟨188,oZ,fun R k=>((fun R k a b c d e g h i j l m o p q s t=>F.r12_looking_expr R a b c d e g h i j l m o p q s t (oQ ⟨.ag [.i .i64,.i .i64],[],[]⟩ k):(R:Type)→(TV S→List (Obj S)→ab R)→oZ.Fn (ab R))) R fun v ns=>k ⟨v,none,ns⟩⟩
structure dH(F:aQ):Prop where
 r12_looking_exprs:(nT F).ok E0
 r12_looking_expr:(vK F).ok E0
def gX(F:aQ)(N:Nat)(C:List Expr)(J:ae)(U b9:Int)(j6 j7 j8:List ai)(j9:List State)(k5 k7:Int)(k8 k9:List ae)(m3 m4:Int)(l7:ab R)(l9:Int→Int→ab R)(rec:Int→ab R)(o:Int):ab R:=
 if(decide (o<((C.length:Nat):Int)))=true then
 ((at? C o).bind fun j=>
 F.r12_looking_expr _ j.Kind j.N j.Name j.Kids j.At J U b9 j6 j7 j8 j9 k5 k7 k8 k9 (fun I m0=>
 if(I != 0)=true then
 (l9 I m0)
 else
 (rec (IntKind.wrap .i64 (o+1)))))
 else
 (l7 )
def dV(F:aQ)(N:Nat)(j:List Expr)(o:ae)(C I:Int)(J U b9:List ai)(j6:List State)(j7 j8:Int)(j9 k5:List ae)(k7 k8:Int)(k9:ab R)(l7:Int→Int→ab R):Nat→Int→ab R
 |0=>fun _=>none
 |n+1=>fun l9=>gX F N j o C I J U b9 j6 j7 j8 j9 k5 k7 k8 k9 l7 (dV F N j o C I J U b9 j6 j7 j8 j9 k5 k7 k8 k9 l7 n) l9
def gL(F:aQ)(N:Nat)(l:List Expr)(Name:ae)(Steps Fuel:Int)(Vars Ports Timers:List ai)(States:List State)(At trans:Int)(names states:List ae)(j:Int→Int→ab R):ab R:=
 dV F N l Name Steps Fuel Vars Ports Timers States At trans names states 0 0 (j 0 0)
 (fun y19 y20=>
 j y19 y20) N 0
def nU(F:aQ)(hF:dH F)(N:Nat):FD E0:={f:=170,fn:=Tryz.f170,q:=nR,loops:=[{cur:=0,live:=[0,1,4,5],out:=fun | .exit 0=>([4],[]) | .ret=>([4],[])|_=>([],[]),q:=⟨[.p 0 0 0,.t .expr,.p 3 0 0,.i .i64],[z39,.rw .str .app,.rw .str .app,.bx [.i .i64,.i .i64]]⟩,G:=fun R K n a b c d e g h i j l m o p q s=>dV F N a c d e g h i j l m o p q s (pK ⟨[.p 3 0 0],[z39,.rw .str .app,.rw .str .app,.bx [.i .i64,.i .i64]]⟩ (K (.exit 0)) c d e g h i j l m o p q s) (pK ⟨[.p 3 0 0],[z39,.rw .str .app,.rw .str .app,.bx [.i .i64,.i .i64]]⟩ (K .ret) c d e g h i j l m o p) n b,B:=fun R K rec a b c d e g h i j l m o p q s=>gX F N a c d e g h i j l m o p q s (pK ⟨[.p 3 0 0],[z39,.rw .str .app,.rw .str .app,.bx [.i .i64,.i .i64]]⟩ (K (.exit 0)) c d e g h i j l m o p q s) (pK ⟨[.p 3 0 0],[z39,.rw .str .app,.rw .str .app,.bx [.i .i64,.i .i64]]⟩ (K .ret) c d e g h i j l m o p) (fun b=>rec a b c d e g h i j l m o p q s) b}],g:=[⟨vK F,hF.r12_looking_expr⟩]}
theorem AR(F:aQ)(hF:dH F)(N:Nat):Ct.ok E0 ⟨(nU F hF N).f,(nU F hF N).q,fun R k=>(fun R k a b c d e g h i j l m o=>gL F N a b c d e g h i j l m o (oQ ⟨.ag [.i .i64,.i .i64],[],[]⟩ k)) R fun v ns=>k ⟨v,none,ns⟩⟩:=FD.ctq e0 (nU F hF N) N (fun R k a b c d e g h i j l m o=>gL F N a b c d e g h i j l m o (oQ ⟨.ag [.i .i64,.i .i64],[],[]⟩ k))
def iw(F:aQ)(N:Nat)(Kind N_:Int)(Name:ae)(Kids:List Expr)(At:Int)(o:ae)(Steps Fuel:Int)(Vars Ports Timers:List ai)(States:List State)(C trans:Int)(names states:List ae)(j:Int→Int→ab R):ab R:=
 (ifB (Kind==2) true (jI N Vars (fun I=>
 fD N I Name (fun J=>
 some (!J)))) (some false)).bind fun U=>
 (ifB U false ((ifB (Kind==4) true (fD N states Name (fun r4=>
 some (!r4))) (some false)).bind fun c5=>
 some c5) (some true)).bind fun c6=>
 if c6=true then
 (j 7 At)
 else
 (F.r12_looking_exprs _ Kids o Steps Fuel Vars Ports Timers States C trans names states (fun r7 r8=>
 j r7 r8))
def pc(F:aQ)(hF:dH F)(N:Nat):FD E0:={f:=188,fn:=Tryz.f188,q:=oZ,g:=[mv N,mY N,xp N,⟨nT F,hF.r12_looking_exprs⟩]}
theorem BN(F:aQ)(hF:dH F)(N:Nat):Ct.ok E0 ⟨(pc F hF N).f,(pc F hF N).q,fun R k=>(fun R k a b c d e g h i j l m o p q s t=>iw F N a b c d e g h i j l m o p q s t (oQ ⟨.ag [.i .i64,.i .i64],[],[]⟩ k)) R fun v ns=>k ⟨v,none,ns⟩⟩:=FD.ctq e0 (pc F hF N) N (fun R k a b c d e g h i j l m o p q s t=>iw F N a b c d e g h i j l m o p q s t (oQ ⟨.ag [.i .i64,.i .i64],[],[]⟩ k))
def vL(F:aQ)(N:Nat):aQ where
 r12_looking_exprs:=fun R l Name Steps Fuel Vars Ports Timers States At trans names states j=>gL F N l Name Steps Fuel Vars Ports Timers States At trans names states j
 r12_looking_expr:=fun R Kind N_ Name Kids At o Steps Fuel Vars Ports Timers States C trans names states j=>iw F N Kind N_ Name Kids At o Steps Fuel Vars Ports Timers States C trans names states j
def aO(N:Nat):Nat→aQ
 |0=>{r12_looking_exprs:=fun _ _ _ _ _ _ _ _ _ _ _ _ _ _=>none,r12_looking_expr:=fun _ _ _ _ _ _ _ _ _ _ _ _ _ _ _ _ _ _=>none}
 |d+1=>vL (aO N d) N
theorem gY(N:Nat):∀d,dH (aO N d)
 |0=>{r12_looking_exprs:=Ct.ok_none,r12_looking_expr:=Ct.ok_none}
 |d+1=>{r12_looking_exprs:=AR _ (gY N d) N,r12_looking_expr:=BN _ (gY N d) N}
def r12_looking_exprs(N:Nat)(l:List Expr)(Name:ae)(Steps Fuel:Int)(Vars Ports Timers:List ai)(States:List State)(At trans:Int)(names states:List ae)(j:Int→Int→ab R):ab R:=(aO N N).r12_looking_exprs R l Name Steps Fuel Vars Ports Timers States At trans names states j
theorem BO(N d:Nat)(l:List Expr)(Name:ae)(Steps Fuel:Int)(Vars Ports Timers:List ai)(States:List State)(At trans:Int)(names states:List ae)(k0:Int→Int→ab R):(aO N (d+1)).r12_looking_exprs R l Name Steps Fuel Vars Ports Timers States At trans names states k0=gL (aO N d) N l Name Steps Fuel Vars Ports Timers States At trans names states k0:=rfl
def tT(N:Nat):OC E0:=⟨nT (aO N N),(gY N N).r12_looking_exprs⟩
def r12_looking_expr(N:Nat)(Kind N_:Int)(Name:ae)(Kids:List Expr)(At:Int)(j:ae)(Steps Fuel:Int)(Vars Ports Timers:List ai)(States:List State)(o trans:Int)(names states:List ae)(C:Int→Int→ab R):ab R:=(aO N N).r12_looking_expr R Kind N_ Name Kids At j Steps Fuel Vars Ports Timers States o trans names states C
theorem Di(N d:Nat)(Kind N_:Int)(Name:ae)(Kids:List Expr)(At:Int)(Name_2:ae)(Steps Fuel:Int)(Vars Ports Timers:List ai)(States:List State)(At_2 trans:Int)(names states:List ae)(k0:Int→Int→ab R):(aO N (d+1)).r12_looking_expr R Kind N_ Name Kids At Name_2 Steps Fuel Vars Ports Timers States At_2 trans names states k0=iw (aO N d) N Kind N_ Name Kids At Name_2 Steps Fuel Vars Ports Timers States At_2 trans names states k0:=rfl
structure aX where
 r12_looking_acts:(R:Type)→(List Act)→ae→Int→Int→(List ai)→(List ai)→(List ai)→(List State)→Int→Int→(List ae)→(List ae)→(Int→Int→ab R)→ab R
def pd:Pat S:=⟨[.p 0 0 0,.t .act],[z39,.rw .str .app,.rw .str .app]⟩
def pe(F:aX):Ct S:=⟨146,pd,fun R k=>((fun R k a b c d e g h i j l m o=>F.r12_looking_acts R a b c d e g h i j l m o (oQ ⟨.ag [.i .i64,.i .i64],[],[]⟩ k):(R:Type)→(TV S→List (Obj S)→ab R)→pd.Fn (ab R))) R fun v ns=>k ⟨v,none,ns⟩⟩
structure jK(F:aX):Prop where
 r12_looking_acts:(pe F).ok E0
end
end So
