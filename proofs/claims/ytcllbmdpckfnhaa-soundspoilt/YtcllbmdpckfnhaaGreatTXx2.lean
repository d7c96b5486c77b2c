/- TX_2: a part of the proof of SoundSpoilt: lemmas on the evaluator and on the functions that the law reaches. -/
import Derived.Test.YtcllbmdpckfnhaaGreatTXx1
set_option maxRecDepth 100000
set_option linter.unusedVariables false
namespace So
open Go TE Go.Proofs
noncomputable section
variable{R:Type}
def tb(F:fG)(N:Nat)(b9 C:Int)(j:List Int)(o:Int)(I j6 j7 J:List ae)(u9 B0:Int)(B5:ae)(B6:Int)(U:Int→Int→Int→ae→Int→ab R)(j8:Int→Int→Int→ae→Int→(List Expr)→ab R):ab R:=
 if(decide (C<2))=true then
 (ao N 6 j o (fun j9 k5=>
 (at? [0,1,2,7,1099511627776,9223372036854775807] j9).bind fun k7=>
 U k5 1 k7 [] 0))
 else
 ((ifB (C==2) true (some (decide (((I.length:Nat):Int)>0))) (some false)).bind fun k8=>
 if k8=true then
 (ow N I [] j o (fun k9 l7=>
 U l7 2 0 k9 0))
 else
 ((ifB (C==3) true (some (decide (((J.length:Nat):Int)>0))) (some false)).bind fun l9=>
 if l9=true then
 (ow N J [] j o (fun m0 m3=>
 U m3 4 0 m0 0))
 else
 (if(decide (C<6))=true then
 (U o 3 0 [] 0)
 else
 (if(C==6)=true then
 (ao N 2 j o (fun m4 m5=>
 F.r37_Expr _ I j6 j7 J (IntKind.wrap .i64 (b9-1)) j m5 (fun m6 m7 m8 m9 n9 o0=>
 j8 o0 (IntKind.wrap .i64 (5+m4)) 0 [] 0 [(⟨m6,m7,m8,m9,n9⟩:Expr)])))
 else
 (F.r37_Expr _ I j6 j7 J (IntKind.wrap .i64 (b9-1)) j o (fun o5 o6 o7 o8 o9 p5=>
 ao N 13 j p5 (fun p6 p7=>
 F.r37_Expr _ I j6 j7 J (IntKind.wrap .i64 (b9-1)) j p7 (fun p8 p9 q8 q9 s8 s9=>
 j8 s9 (IntKind.wrap .i64 (7+p6)) 0 [] 0 [(⟨o5,o6,o7,o8,o9⟩:Expr),(⟨p8,p9,q8,q9,s8⟩:Expr)]))))))))
def rN(F:fG)(N:Nat)(Vars Ports Timers States:List ae)(deep:Int)(L:List Int)(At:Int)(j:Int→Int→ae→(List Expr)→Int→Int→ab R):ab R:=
 ao N 14 L At (fun o C=>
 (ifB (deep==0) true (some (decide (o>5))) (some false)).bind fun I=>
 if I=true then
 (tb F N deep (Int.tmod o 6) L C Vars Ports Timers States 0 0 [] 0 (fun J U b9 j6 j7=>
 j U b9 j6 ([]:List Expr) j7 J)
 (fun j8 j9 k5 k7 k8 k9=>
 j j9 k5 k7 k9 k8 j8))
 else
 (tb F N deep o L C Vars Ports Timers States 0 0 [] 0 (fun l7 l9 m0 m3 m4=>
 j l9 m0 m3 ([]:List Expr) m4 l7)
 (fun m5 m6 m7 m8 m9 n9=>
 j m6 m7 m8 n9 m9 m5)))
def ED(F:fG)(hF:tQ F)(N:Nat):FD E0:={f:=196,fn:=Tryz.f196,q:=KW,cuts:=[{key:=4,live:=[0,2,4,6,7],out:=fun | .ret=>([6],[])|_=>([],[]),q:=⟨[.p 0 0 0,.i .i64,.p 1 0 0,.p 2 0 0,.i .i64],[.bx [.t .int,.i .i64],z47,z6]⟩,G:=fun R K a b c d e g h i j l m o=>tb F N a b c d e g h i j l m o (pK ⟨[.p 1 0 0],[.bx [.t .int,.i .i64],z6]⟩ (K .ret) c) (pK ⟨[.p 1 0 0],[.bx [.t .int,.i .i64],z8,.rw .expr .app]⟩ (K .ret) c)}],g:=[cn N,⟨EC F,hF.r37_Expr⟩,EB N],exit:=[(⟨6,[3]⟩,.tree .expr)]}
theorem NH(F:fG)(hF:tQ F)(N:Nat):Ct.ok E0 ⟨(ED F hF N).f,(ED F hF N).q,fun R k a b c d e g h=>rN F N a b c d e g h (fun i j l m o=>oK ⟨y4,[.bx [.t .int,.i .i64]],[]⟩ k i j l m o g)⟩:=FD.ct e0 (ED F hF N) N (fun R k a b c d e g h=>rN F N a b c d e g h (fun i j l m o=>oK ⟨y4,[.bx [.t .int,.i .i64]],[]⟩ k i j l m o g))
def GG(F:fG)(N:Nat):fG where
 r37_Expr:=fun R Vars Ports Timers States deep L At j=>rN F N Vars Ports Timers States deep L At j
def eX(N:Nat):Nat→fG
 |0=>{r37_Expr:=fun _ _ _ _ _ _ _ _ _=>none}
 |d+1=>GG (eX N d) N
theorem wg(N:Nat):∀d,tQ (eX N d)
 |0=>{r37_Expr:=Ct.ok_none}
 |d+1=>{r37_Expr:=NH _ (wg N d) N}
def r37_Expr(N:Nat)(Vars Ports Timers States:List ae)(deep:Int)(L:List Int)(At:Int)(j:Int→Int→ae→(List Expr)→Int→Int→ab R):ab R:=(eX N N).r37_Expr R Vars Ports Timers States deep L At j
theorem It(N d:Nat)(Vars Ports Timers States:List ae)(deep:Int)(L:List Int)(At:Int)(k0:Int→Int→ae→(List Expr)→Int→Int→ab R):(eX N (d+1)).r37_Expr R Vars Ports Timers States deep L At k0=rN (eX N d) N Vars Ports Timers States deep L At k0:=rfl
def KX(N:Nat):OC E0:=⟨EC (eX N N),(wg N N).r37_Expr⟩
def uS(N:Nat)(k_:Int)(j:ae→ab R):ab R:=
 uQ N k_ 8 (fun o=>
 (at? [[103,111],[112,105,110,103],[112,111,110,103],[101,114,114,111,114],[116,48],[98,97,108,108],[103,111],[112,105,110,103]] o).bind fun C=>
 j C)
def PT(N:Nat):FD E0:={f:=195,fn:=Tryz.f195,q:=⟨[.i .i64],[]⟩,g:=[Cf N]}
def Iu(N:Nat):OC E0:=⟨_,FD.ct e0 (PT N) N (fun R k a=>uS N a (oK ⟨.st,[],[]⟩ k))⟩
structure ei where
 r37_Block:(R:Type)→(List ae)→(List ae)→(List ae)→(List ae)→Int→(List Int)→Int→((List Act)→Int→ab R)→ab R
def Iv:Pat S:=⟨[.p 0 0 0,y22,.i .i64],[.bx [.t .int,.i .i64]]⟩
def Ci(F:ei):Ct S:=⟨194,Iv,fun R k a b c d e g h=>F.r37_Block R a b c d e g h (fun i=>oK ⟨.t .act,[.bx [.t .int,.i .i64]],[]⟩ k i g)⟩
structure rO(F:ei):Prop where
 r37_Block:(Ci F).ok E0
def wh(F:ei)(N:Nat)(k8:Int)(o:List Int)(j9 k5 j7 k9:List ae)(o7:Int→(List Act)→ab R)(rec:Int→Int→(List Act)→ab R)(j6 m0:Int)(j:List Act):ab R:=
 if(decide (j6>0))=true then
 (ao N 10 o m0 (fun k7 o8=>
 r37_Expr N j9 k5 j7 k9 2 o o8 (fun C I J U b9 j8=>
 (ifB (decide (k7<3)) true (some (decide (((j9.length:Nat):Int)>0))) (some false)).bind fun o9=>
 if o9=true then
 (ow N j9 [] o j8 (fun m3 p5=>
 if j.length+([(⟨1,m3,[],[(⟨C,I,J,U,b9⟩:Expr)],0,[],[],0⟩:Act)]).length≤ah then(rec (IntKind.wrap .i64 (j6-1)) p5 (j++([(⟨1,m3,[],[(⟨C,I,J,U,b9⟩:Expr)],0,[],[],0⟩:Act)]))) else none))
 else
 (if(k7==3)=true then
 (ao N 8 o j8 (fun p6 p7=>
 uS N p6 (fun m4=>
 ao N 2 o p7 (fun l7 p8=>
 if(0:Int)≤0∧0≤l7∧l7≤(([(⟨C,I,J,U,b9⟩:Expr)].length:Nat):Int) then(if j.length+([(⟨2,[],m4,([(⟨C,I,J,U,b9⟩:Expr)].drop (Int.toNat 0)).take (l7.toNat-(Int.toNat 0)),0,[],[],0⟩:Act)]).length≤ah then(rec (IntKind.wrap .i64 (j6-1)) p8 (j++([(⟨2,[],m4,([(⟨C,I,J,U,b9⟩:Expr)].drop (Int.toNat 0)).take (l7.toNat-(Int.toNat 0)),0,[],[],0⟩:Act)]))) else none) else none))))
 else
 ((ifB (decide (k7<7)) true (some (decide (((k5.length:Nat):Int)>0))) (some false)).bind fun p9=>
 if p9=true then
 (ow N k5 [] o j8 (fun m5 q8=>
 ao N 3 o q8 (fun q9 s8=>
 uS N q9 (fun m6=>
 ao N 2 o s8 (fun l9 s9=>
 if(0:Int)≤0∧0≤l9∧l9≤(([(⟨C,I,J,U,b9⟩:Expr)].length:Nat):Int) then(if j.length+([(⟨3,m5,m6,([(⟨C,I,J,U,b9⟩:Expr)].drop (Int.toNat 0)).take (l9.toNat-(Int.toNat 0)),0,[],[],0⟩:Act)]).length≤ah then(rec (IntKind.wrap .i64 (j6-1)) s9 (j++([(⟨3,m5,m6,([(⟨C,I,J,U,b9⟩:Expr)].drop (Int.toNat 0)).take (l9.toNat-(Int.toNat 0)),0,[],[],0⟩:Act)]))) else none) else none)))))
 else
 ((ifB (k7==7) true (some (decide (((j7.length:Nat):Int)>0))) (some false)).bind fun u9=>
 if u9=true then
 (ow N j7 [] o j8 (fun m7 B0=>
 ao N 3 o B0 (fun m8 B5=>
 if j.length+([(⟨4,m7,[],[(⟨1,IntKind.wrap .i64 (1+m8),[],[],0⟩:Expr)],0,[],[],0⟩:Act)]).length≤ah then(rec (IntKind.wrap .i64 (j6-1)) B5 (j++([(⟨4,m7,[],[(⟨1,IntKind.wrap .i64 (1+m8),[],[],0⟩:Expr)],0,[],[],0⟩:Act)]))) else none)))
 else
 ((ifB (k7==8) true (some (decide (((j7.length:Nat):Int)>0))) (some false)).bind fun B6=>
 if B6=true then
 (ow N j7 [] o j8 (fun m9 B7=>
 if j.length+([(⟨5,m9,[],[],0,[],[],0⟩:Act)]).length≤ah then(rec (IntKind.wrap .i64 (j6-1)) B7 (j++([(⟨5,m9,[],[],0,[],[],0⟩:Act)]))) else none))
 else
 ((ifB (decide (k8>0)) true (some ((Int.tmod k7 2)==0)) (some false)).bind fun B8=>
 if B8=true then
 (F.r37_Block _ j9 k5 j7 k9 (IntKind.wrap .i64 (k8-1)) o j8 (fun n9 B9=>
 F.r37_Block _ j9 k5 j7 k9 (IntKind.wrap .i64 (k8-1)) o B9 (fun o0 C0=>
 if j.length+([(⟨6,[],[],[(⟨C,I,J,U,b9⟩:Expr)],0,n9,o0,0⟩:Act)]).length≤ah then(rec (IntKind.wrap .i64 (j6-1)) C0 (j++([(⟨6,[],[],[(⟨C,I,J,U,b9⟩:Expr)],0,n9,o0,0⟩:Act)]))) else none)))
 else
 (if(decide (k8>0))=true then
 (ao N 4 o j8 (fun o5 C1=>
 F.r37_Block _ j9 k5 j7 k9 (IntKind.wrap .i64 (k8-1)) o C1 (fun o6 C2=>
 if j.length+([(⟨7,[],[],[],IntKind.wrap .i64 (1+o5),o6,[],0⟩:Act)]).length≤ah then(rec (IntKind.wrap .i64 (j6-1)) C2 (j++([(⟨7,[],[],[],IntKind.wrap .i64 (1+o5),o6,[],0⟩:Act)]))) else none)))
 else
 (rec (IntKind.wrap .i64 (j6-1)) j8 j))))))))))
 else
 (o7 m0 j)
def nF(F:ei)(N:Nat)(j:Int)(o:List Int)(C I J U:List ae)(b9:Int→(List Act)→ab R):Nat→Int→Int→(List Act)→ab R
 |0=>fun _ _ _=>none
 |n+1=>fun j6 j7 j8=>wh F N j o C I J U b9 (nF F N j o C I J U b9 n) j6 j7 j8
def te(F:ei)(N:Nat)(Vars Ports Timers States:List ae)(deep:Int)(L:List Int)(At:Int)(j:(List Act)→Int→ab R):ab R:=
 ao N 3 L At (fun o C=>
 nF F N deep L Vars Ports Timers States (fun I J=>
 j J I) N o C ([]:List Act))
def Cj(F:ei)(hF:rO F)(N:Nat):FD E0:={f:=194,fn:=Tryz.f194,q:=Iv,loops:=[{cur:=0,live:=[0,2,4,7,8],fix:=[(⟨7,[]⟩,.row .act .app)],out:=fun | .exit 0=>([7],[])|_=>([],[]),q:=⟨[.p 0 0 0,.i .i64,.p 1 0 0,.sw 2,.i .i64],[.bx [.t .int,.i .i64],z47,.rw .act .app]⟩,G:=fun R K n a b c d e g h i j=>nF F N a c e g h i (pK ⟨[.sw 1],[.bx [.t .int,.i .i64],.rw .act .app]⟩ (K (.exit 0)) c) n b d j,B:=fun R K rec a b c d e g h i j=>wh F N a c e g h i (pK ⟨[.sw 1],[.bx [.t .int,.i .i64],.rw .act .app]⟩ (K (.exit 0)) c) (fun b d j=>rec a b c d e g h i j) b d j}],g:=[cn N,⟨Ci F,hF.r37_Block⟩,Iu N,KX N,EB N],exit:=[(⟨6,[]⟩,.tree .act)]}
theorem LO(F:ei)(hF:rO F)(N:Nat):Ct.ok E0 ⟨(Cj F hF N).f,(Cj F hF N).q,fun R k a b c d e g h=>te F N a b c d e g h (fun i=>oK ⟨.t .act,[.bx [.t .int,.i .i64]],[]⟩ k i g)⟩:=FD.ct e0 (Cj F hF N) N (fun R k a b c d e g h=>te F N a b c d e g h (fun i=>oK ⟨.t .act,[.bx [.t .int,.i .i64]],[]⟩ k i g))
def EF(F:ei)(N:Nat):ei where
 r37_Block:=fun R Vars Ports Timers States deep L At j=>te F N Vars Ports Timers States deep L At j
def dm(N:Nat):Nat→ei
 |0=>{r37_Block:=fun _ _ _ _ _ _ _ _ _=>none}
 |d+1=>EF (dm N d) N
theorem tV(N:Nat):∀d,rO (dm N d)
 |0=>{r37_Block:=Ct.ok_none}
 |d+1=>{r37_Block:=LO _ (tV N d) N}
def r37_Block(N:Nat)(Vars Ports Timers States:List ae)(deep:Int)(L:List Int)(At:Int)(j:(List Act)→Int→ab R):ab R:=(dm N N).r37_Block R Vars Ports Timers States deep L At j
theorem NI(N d:Nat)(Vars Ports Timers States:List ae)(deep:Int)(L:List Int)(At:Int)(k0:(List Act)→Int→ab R):(dm N (d+1)).r37_Block R Vars Ports Timers States deep L At k0=te (dm N d) N Vars Ports Timers States deep L At k0:=rfl
def PU(N:Nat):OC E0:=⟨Ci (dm N N),(tV N N).r37_Block⟩
def z48:ShO S:=.bx [.p 1 0 0,.t .str,.t .str,.t .str,.sw 2,.i .i64,.sw 3]
def y23:Sh S:=.ag [.i .i64,.st,.t .act,.t .act,.sw 6,.sw 5,.i .i64]
structure aB where
 r37_growing_fill:(R:Type)→Int→ae→(List Act)→(List Act)→Int→(List ae)→(List ae)→(List ae)→Int→(List Int)→Int→(List ae)→(List ae)→(List Trans)→(List State)→(ab R)→((List Act)→(List Act)→Int→(List State)→(List Trans)→ab R)→ab R
def wj:Pat S:=⟨[.p 0 0 0,y20],[z48,.bx [.t .int,.i .i64],.rw .str .app,.rw .str .app,.rw .trans .own,.dp .state]⟩
def pn(F:aB):Ct S:=⟨181,wj,fun R k a b c d e g h i j l m o p q s=>F.r37_growing_fill R a b c d e g h i j l m o p q s (oK ⟨y20,[z48,.bx [.t .int,.i .i64],.rw .str .app,.rw .str .app,.rw .trans .own,.dp .state],[]⟩ k a b c d e g h i j l m o p q s) (fun t u v=>oK ⟨y23,[z48,.bx [.t .int,.i .i64],.rw .str .app,.rw .str .app,.g,.dp .state],[.rw .trans .own]⟩ k a b t u e g h i j l v o p)⟩
structure jQ(F:aB):Prop where
 r37_growing_fill:(pn F).ok E0
def z49:ShO S:=.bx [.i .i64,.st,.t .act,.t .act,.sw 7,.sw 5,.i .i64]
def z50:ShO S:=.bx [.st,.sw 10,.st,.t .act,.i .i64]
def z51:ShO S:=.bx [.st,.sw 10,.st,.ns,.i .i64]
def z52:ShO S:=.bx [.i .i64,.st,.t .act,.t .act,.sw 4,.sw 5,.i .i64]
def fS(F:aB)(N:Nat)(j6:Int)(j7 j8 j9:List ae)(k5:Int)(k7:List Int)(k8:Int)(k9 l7:List ae)(l9:List State)(m0:Int)(m3:ae)(m4 m5:List Act)(m6:Int)(j:List Trans)(m7:Int)(m8:ae)(m9:Int)(o C:ae)(I:List Act)(J:Int)(U:List Expr)(b9:(List Trans)→ab R):ab R:=
 if j.length+[(⟨o,U,C,I,J⟩:Trans)].length≤ah then(b9 (j++[(⟨o,U,C,I,J⟩:Trans)])) else none
def fT(F:aB)(N:Nat)(b9:Int)(o C I:List ae)(j6:Int)(j:List Int)(n9:Int)(J j7:List ae)(j8:List State)(j9:Int)(k5:ae)(k7 k8:List Act)(k9:Int)(l7:List Trans)(l9:Int)(m0:ae)(m3:Int)(m4 m5:ae)(m6:Int)(m7:List Expr)(m8:Int→(List Trans)→ab R):ab R:=
 ao N 2 j n9 (fun o0 U=>
 if(o0==0)=true then
 (r37_Block N o C I J 2 j U (fun o5 m9=>
 fS F N b9 o C I j6 j m9 J j7 j8 j9 k5 k7 k8 k9 l7 l9 m0 m3 m4 m5 o5 m6 m7 (fun o6=>
 m8 m9 o6)))
 else
 (fS F N b9 o C I j6 j U J j7 j8 j9 k5 k7 k8 k9 l7 l9 m0 m3 m4 m5 ([]:List Act) m6 m7 (fun o7=>
 m8 U o7)))
def fU(F:aB)(N:Nat)(C:Int)(I J U:List ae)(b9:Int)(j:List Int)(m8:Int)(j6 o:List ae)(j7:List State)(j8:Int)(j9:ae)(k5 k7:List Act)(k8:Int)(k9:List Trans)(l7:Int)(l9:ae)(m0:Int)(m3 m9:ae)(m4:Int)(m5:List Expr)(m6:Int→(List Trans)→ab R):ab R:=
 ao N 4 j m8 (fun n9 m7=>
 if(decide (n9>0))=true then
 (ow N o [] j m7 (fun o0 o5=>
 fT F N C I J U b9 j o5 j6 o j7 j8 j9 k5 k7 k8 k9 l7 l9 m0 m3 o0 m4 m5 (fun o6 o7=>
 m6 o6 o7)))
 else
 (fT F N C I J U b9 j m7 j6 o j7 j8 j9 k5 k7 k8 k9 l7 l9 m0 m3 m9 m4 m5 (fun o8 o9=>
 m6 o8 o9)))
def fV(F:aB)(N:Nat)(U:Int)(o C I:List ae)(b9:Int)(j:List Int)(m8:Int)(J j6:List ae)(j7:List State)(j8:Int)(j9:ae)(k5 k7:List Act)(k8:Int)(k9:List Trans)(l7:Int)(l9:ae)(m0:Int)(m3 m4:ae)(m5:Int)(m6:Int→(List Trans)→ab R):ab R:=
 ao N 3 j m8 (fun m9 m7=>
 if(m9==0)=true then
 (r37_Expr N o C I J 2 j m7 (fun n9 o0 o5 o6 o7 o8=>
 fU F N U o C I b9 j o8 J j6 j7 j8 j9 k5 k7 k8 k9 l7 l9 m0 m3 m4 m5 [(⟨n9,o0,o5,o6,o7⟩:Expr)] (fun o9 p5=>
 m6 o9 p5)))
 else
 (fU F N U o C I b9 j m7 J j6 j7 j8 j9 k5 k7 k8 k9 l7 l9 m0 m3 m4 m5 ([]:List Expr) (fun p6 p7=>
 m6 p6 p7)))
def lF(F:aB)(N:Nat)(I J U:List ae)(b9:Int)(o:List Int)(j6 j7:List ae)(j8:List State)(j9:Int)(k5:ae)(k7 k8:List Act)(k9 l7:Int)(l9:ae)(m0:Int)(m5:Int→(List Trans)→ab R)(rec:Int→Int→(List Trans)→ab R)(j m3:Int)(C:List Trans):ab R:=
 if(decide (j>0))=true then
 (ao N 8 o m3 (fun m6 m7=>
 uS N m6 (fun m8=>
 ao N 9 o m7 (fun m9 m4=>
 if(m9==0)=true then
 (fV F N j I J U b9 o m4 j6 j7 j8 j9 k5 k7 k8 k9 C l7 l9 m0 [] [] 0 (fun n9 o0=>
 rec (IntKind.wrap .i64 (j-1)) n9 o0))
 else
 (fV F N j I J U b9 o m4 j6 j7 j8 j9 k5 k7 k8 k9 C l7 l9 m0 m8 [] 0 (fun o5 o6=>
 rec (IntKind.wrap .i64 (j-1)) o5 o6))))))
 else
 (m5 m3 C)
def eR(F:aB)(N:Nat)(j o C:List ae)(I:Int)(J:List Int)(U b9:List ae)(j6:List State)(j7:Int)(j8:ae)(j9 k5:List Act)(k7 k8:Int)(k9:ae)(l7:Int)(l9:Int→(List Trans)→ab R):Nat→Int→Int→(List Trans)→ab R
 |0=>fun _ _ _=>none
 |n+1=>fun m0 m3 m4=>lF F N j o C I J U b9 j6 j7 j8 j9 k5 k7 k8 k9 l7 l9 (eR F N j o C I J U b9 j6 j7 j8 j9 k5 k7 k8 k9 l7 l9 n) m0 m3 m4
def nZ(F:aB)(N:Nat)(j:Int)(o C I:List ae)(J:Int)(U:List Int)(b9:Int)(j6 j7:List ae)(j8:List Trans)(j9:List State)(k5:Int)(k7:ae)(k8 k9:List Act)(l7 l9:Int)(m0:ae)(m3:Int)(m4:Int→(List Trans)→ab R):ab R:=
 eR F N o C I J U j6 j7 j9 k5 k7 k8 k9 l7 l9 m0 m3 (fun m5 m6=>
 m4 m5 m6) N j b9 j8
def lG(F:aB)(N:Nat)(J U b9:List ae)(j6:Int)(j7:List Int)(j8 j9:List ae)(m0:Int)(m3:ae)(m4 m5:List Act)(m6:Int)(m7:List Trans)(m8:Int)(m9:ae)(n9:Int)(k5:Int→(List State)→ab R)(rec:Int→Int→(List State)→ab R)(j I:Int)(C:List State):ab R:=
 if(decide (j<((C.length:Nat):Int)))=true then
 (if(0:Int)≤j∧j<(C.length:Int) then(match C[j.toNat]? with
 |some o=>(F.r37_growing_fill _ o.Kind o.Name o.Entry o.Exit o.At J U b9 j6 j7 I j8 j9 o.Trans o.Kids (if(0:Int)≤j∧j<(C.length:Int) then(if j.toNat=j.toNat∧j.toNat<C.length then(rec (IntKind.wrap .i64 (j+1)) I (C.set j.toNat (⟨o.Kind,o.Name,o.Entry,o.Exit,o.Trans,o.Kids,o.At⟩:State))) else none) else none) (fun k7 k8 k9 l7 l9=>
 if(0:Int)≤j∧j<(C.length:Int) then(if j.toNat=j.toNat∧j.toNat<C.length then(rec (IntKind.wrap .i64 (j+1)) k9 (C.set j.toNat (⟨o.Kind,o.Name,k7,k8,l9,l7,o.At⟩:State))) else none) else none))
 |none=>none) else none)
 else
 (k5 I C)
def eS(F:aB)(N:Nat)(j o C:List ae)(I:Int)(J:List Int)(U b9:List ae)(j6:Int)(j7:ae)(j8 j9:List Act)(k5:Int)(k7:List Trans)(k8:Int)(k9:ae)(l7:Int)(l9:Int→(List State)→ab R):Nat→Int→Int→(List State)→ab R
 |0=>fun _ _ _=>none
 |n+1=>fun m0 m3 m4=>lG F N j o C I J U b9 j6 j7 j8 j9 k5 k7 k8 k9 l7 l9 (eS F N j o C I J U b9 j6 j7 j8 j9 k5 k7 k8 k9 l7 l9 n) m0 m3 m4
def gN(F:aB)(N:Nat)(o C I:List ae)(J:Int)(j:List Int)(m0:Int)(U b9:List ae)(m3:List Trans)(j6:List State)(j7:Int)(j8:ae)(j9 k5:List Act)(k7 k8:Int)(k9:ae)(l7:Int)(m4:Int→(List State)→(List Trans)→ab R):ab R:=
 ao N 3 j m0 (fun m5 m6=>
 nZ F N m5 o C I J j m6 U b9 m3 j6 j7 j8 j9 k5 k7 k8 k9 l7 (fun m7 l9=>
 eS F N o C I J j U b9 j7 j8 j9 k5 k7 l9 k8 k9 l7 (fun m8 m9=>
 m4 m8 m9 l9) N 0 m7 j6))
def gO(F:aB)(N:Nat)(o C I:List ae)(U:Int)(j:List Int)(m5:Int)(J b9:List ae)(j6:List Trans)(j7:List State)(j8:Int)(j9:ae)(k5 k7:List Act)(k8 k9:Int)(l7:ae)(l9:Int)(m0:Int→(List State)→(List Act)→(List Trans)→ab R):ab R:=
 ao N 4 j m5 (fun m6 m3=>
 if(m6==0)=true then
 (r37_Block N o C I J 1 j m3 (fun m4 m7=>
 gN F N o C I U j m7 J b9 j6 j7 j8 j9 k5 m4 k8 k9 l7 l9 (fun m8 m9 n9=>
 m0 m8 m9 m4 n9)))
 else
 (gN F N o C I U j m3 J b9 j6 j7 j8 j9 k5 k7 k8 k9 l7 l9 (fun o0 o5 o6=>
 m0 o0 o5 k7 o6)))
def iB(F:aB)(N:Nat)(Kind:Int)(Name:ae)(Entry Exit:List Act)(At:Int)(Vars Ports Timers:List ae)(left:Int)(L:List Int)(I:Int)(States all:List ae)(Trans_:List Trans)(Kids:List State)(J:ab R)(j:(List Act)→(List Act)→Int→(List State)→(List Trans)→ab R):ab R:=
 if(decide (Kind>2))=true then
 (J )
 else
 (ao N 3 L I (fun U o=>
 if(U==0)=true then
 (r37_Block N Vars Ports Timers States 1 L o (fun C r4=>
 gO F N Vars Ports Timers left L r4 States all Trans_ Kids Kind Name C Exit At 0 [] 0 (fun j6 j7 j8 j9=>
 j C j8 j6 j7 j9)))
 else
 (gO F N Vars Ports Timers left L o States all Trans_ Kids Kind Name Entry Exit At 0 [] 0 (fun k5 k7 k8 k9=>
 j Entry k8 k5 k7 k9))))
def pq(F:aB)(hF:jQ F)(N:Nat):FD E0:={f:=181,fn:=Tryz.f181,q:=wj,loops:=[{cur:=0,live:=[0,3,4,5],fix:=[(⟨3,[4]⟩,.fresh .trans .own)],out:=fun | .exit 0=>([0,3,4],[])|_=>([],[]),q:=⟨[.p 0 0 0,.p 6 0 0,.p 8 0 0,.i .i64],[z48,.bx [.t .int,.i .i64],.rw .str .app,.rw .str .app,.g,.dp .state,z49,.rw .trans .own,z4]⟩,G:=fun R K n a b c d e g h i j l m o p q s t u v w=>eR F N b c d e g i j l m o p q s u v w (fun x y=>pK ⟨[.p 0 0 0,.p 6 0 0,.p 8 0 0],[z48,.bx [.t .int,.i .i64],.rw .str .app,.rw .str .app,.g,.dp .state,z49,.rw .trans .own,z4]⟩ (K (.exit 0)) b c d e g x i j l m o p q s y u v w) n a h t,B:=fun R K rec a b c d e g h i j l m o p q s t u v w=>lF F N b c d e g i j l m o p q s u v w (fun x y=>pK ⟨[.p 0 0 0,.p 6 0 0,.p 8 0 0],[z48,.bx [.t .int,.i .i64],.rw .str .app,.rw .str .app,.g,.dp .state,z49,.rw .trans .own,z4]⟩ (K (.exit 0)) b c d e g x i j l m o p q s y u v w) (fun a h t=>rec a b c d e g h i j l m o p q s t u v w) a h t},{cur:=2,live:=[0,3,4,7],out:=fun | .exit 2=>([3,4],[])|_=>([],[]),q:=⟨[.p 0 0 0,.p 6 0 0,.p 8 0 0,.i .i64],[z48,.bx [.t .int,.i .i64],.rw .str .app,.rw .str .app,.g,.dp .state,z49,.rw .trans .own,z4]⟩,G:=fun R K n a b c d e g h i j l m o p q s t u v w=>eS F N b c d e g i j m o p q s t u v w (fun x y=>pK ⟨[.p 6 0 0,.p 8 0 0],[z48,.bx [.t .int,.i .i64],.rw .str .app,.rw .str .app,.g,.dp .state,z49,.rw .trans .own,z4]⟩ (K (.exit 2)) b c d e g x i j y m o p q s t u v w) n a h l,B:=fun R K rec a b c d e g h i j l m o p q s t u v w=>lG F N b c d e g i j m o p q s t u v w (fun x y=>pK ⟨[.p 6 0 0,.p 8 0 0],[z48,.bx [.t .int,.i .i64],.rw .str .app,.rw .str .app,.g,.dp .state,z49,.rw .trans .own,z4]⟩ (K (.exit 2)) b c d e g x i j y m o p q s t u v w) (fun a h l=>rec a b c d e g h i j l m o p q s t u v w) a h l}],cuts:=[{key:=19,live:=[0,3,4,5,6],fix:=[(⟨6,[3]⟩,.tree .act)],out:=fun | .normal=>([0,3,4,5],[])|_=>([],[]),q:=⟨[.p 0 0 0,.p 6 0 0,.p 8 0 0,.i .i64,.p 9 0 0],[z48,.bx [.t .int,.i .i64],.rw .str .app,.rw .str .app,.g,.dp .state,z49,.rw .trans .own,z4,z50,.rw .expr .app]⟩,G:=fun R K a b c d e g h i j l m o p q s t u v w x y z a1 b1=>fS F N a b c d e g h i j l m o p q s t u v w x y z a1 b1 (fun c1=>pK ⟨[.p 0 0 0,.p 6 0 0,.p 8 0 0,.i .i64],[z48,.bx [.t .int,.i .i64],.rw .str .app,.rw .str .app,.g,.dp .state,z49,.rw .trans .own,z4]⟩ (K .normal) a b c d e g h i j l m o p q s c1 u v w)},{key:=17,live:=[0,3,4,5,6],out:=fun | .normal=>([0,3,4,5],[])|_=>([],[]),q:=⟨[.p 0 0 0,.p 6 0 0,.p 8 0 0,.i .i64,.p 9 0 0],[z48,.bx [.t .int,.i .i64],.rw .str .app,.rw .str .app,.g,.dp .state,z49,.rw .trans .own,z4,z51,.rw .expr .app]⟩,G:=fun R K a b c d e g h i j l m o p q s t u v w x y z a1=>fT F N a b c d e g h i j l m o p q s t u v w x y z a1 (fun b1 c1=>pK ⟨[.p 0 0 0,.p 6 0 0,.p 8 0 0,.i .i64],[z48,.bx [.t .int,.i .i64],.rw .str .app,.rw .str .app,.g,.dp .state,z49,.rw .trans .own,z4]⟩ (K .normal) a b c d e g b1 i j l m o p q s c1 u v w)},{key:=15,live:=[0,3,4,5,6],fix:=[(⟨6,[1]⟩,.row .expr .app)],out:=fun | .normal=>([0,3,4,5],[])|_=>([],[]),q:=⟨[.p 0 0 0,.p 6 0 0,.p 8 0 0,.i .i64,.p 9 0 0],[z48,.bx [.t .int,.i .i64],.rw .str .app,.rw .str .app,.g,.dp .state,z49,.rw .trans .own,z4,z51,.rw .expr .app]⟩,G:=fun R K a b c d e g h i j l m o p q s t u v w x y z a1=>fU F N a b c d e g h i j l m o p q s t u v w x y z a1 (fun b1 c1=>pK ⟨[.p 0 0 0,.p 6 0 0,.p 8 0 0,.i .i64],[z48,.bx [.t .int,.i .i64],.rw .str .app,.rw .str .app,.g,.dp .state,z49,.rw .trans .own,z4]⟩ (K .normal) a b c d e g b1 i j l m o p q s c1 u v w)},{key:=13,live:=[0,3,4,5,6],fix:=[(⟨3,[4]⟩,.fresh .trans .own)],out:=fun | .normal=>([0,3,4,5],[])|_=>([],[]),q:=⟨[.p 0 0 0,.p 6 0 0,.p 8 0 0,.i .i64,.p 9 0 0],[z48,.bx [.t .int,.i .i64],.rw .str .app,.rw .str .app,.g,.dp .state,z49,.rw .trans .own,z4,.bx [.st,.ns,.st,.ns,.i .i64]]⟩,G:=fun R K a b c d e g h i j l m o p q s t u v w x y z=>fV F N a b c d e g h i j l m o p q s t u v w x y z (fun a1 b1=>pK ⟨[.p 0 0 0,.p 6 0 0,.p 8 0 0,.i .i64],[z48,.bx [.t .int,.i .i64],.rw .str .app,.rw .str .app,.g,.dp .state,z49,.rw .trans .own,z4]⟩ (K .normal) a b c d e g a1 i j l m o p q s b1 u v w)},{key:=8,live:=[0,3,4,5],out:=fun | .normal=>([0,3,4],[])|_=>([],[]),q:=⟨[.p 0 0 0,.p 6 0 0,.p 7 0 0,.i .i64],[z48,.bx [.t .int,.i .i64],.rw .str .app,.rw .str .app,.rw .trans .own,.dp .state,z52,z4]⟩,G:=fun R K a b c d e g h i j l m o p q s t u v w=>nZ F N a b c d e g h i j l m o p q s t u v w (fun x y=>pK ⟨[.p 0 0 0,.p 6 0 0,.p 8 0 0],[z48,.bx [.t .int,.i .i64],.rw .str .app,.rw .str .app,.g,.dp .state,z49,.rw .trans .own,z4]⟩ (K .normal) b c d e g x i j m o p q s t y u v w)},{key:=7,live:=[0,3,4],out:=fun | .ret=>([4],[])|_=>([],[]),q:=⟨[.p 0 0 0,.p 6 0 0,.p 7 0 0],[z48,.bx [.t .int,.i .i64],.rw .str .app,.rw .str .app,.rw .trans .own,.dp .state,z52,z4]⟩,G:=fun R K a b c d e g h i j l m o p q s t u v=>gN F N a b c d e g h i j l m o p q s t u v (fun w x=>pK ⟨[.p 6 0 0],[z48,.bx [.t .int,.i .i64],.rw .str .app,.rw .str .app,.g,.dp .state,z49,.rw .trans .own]⟩ (K .ret) a b c d e w h i x m o p q s)},{key:=5,live:=[0,3,4],out:=fun | .ret=>([4],[])|_=>([],[]),q:=⟨[.p 0 0 0,.p 6 0 0,.p 7 0 0],[z48,.bx [.t .int,.i .i64],.rw .str .app,.rw .str .app,.rw .trans .own,.dp .state,z52,z4]⟩,G:=fun R K a b c d e g h i j l m o p q s t u v=>gO F N a b c d e g h i j l m o p q s t u v (fun w x y=>pK ⟨[.p 6 0 0],[z48,.bx [.t .int,.i .i64],.rw .str .app,.rw .str .app,.g,.dp .state,z49,.rw .trans .own]⟩ (K .ret) a b c d e w h i x m o p y s)}],g:=[cn N,⟨pn F,hF.r37_growing_fill⟩,PU N,Iu N,KX N,EB N],exit:=[(⟨4,[2]⟩,.tree .act),(⟨4,[3]⟩,.tree .act),(⟨4,[4]⟩,.row .trans .own),(⟨4,[5]⟩,.deep .state)]}
theorem Ck(F:aB)(hF:jQ F)(N:Nat):Ct.ok E0 ⟨(pq F hF N).f,(pq F hF N).q,fun R k a b c d e g h i j l m o p q s=>iB F N a b c d e g h i j l m o p q s (oK ⟨y20,[z48,.bx [.t .int,.i .i64],.rw .str .app,.rw .str .app,.rw .trans .own,.dp .state],[]⟩ k a b c d e g h i j l m o p q s) (fun t u v=>oK ⟨y23,[z48,.bx [.t .int,.i .i64],.rw .str .app,.rw .str .app,.g,.dp .state],[.rw .trans .own]⟩ k a b t u e g h i j l v o p)⟩:=FD.ct e0 (pq F hF N) N (fun R k a b c d e g h i j l m o p q s=>iB F N a b c d e g h i j l m o p q s (oK ⟨y20,[z48,.bx [.t .int,.i .i64],.rw .str .app,.rw .str .app,.rw .trans .own,.dp .state],[]⟩ k a b c d e g h i j l m o p q s) (fun t u v=>oK ⟨y23,[z48,.bx [.t .int,.i .i64],.rw .str .app,.rw .str .app,.g,.dp .state],[.rw .trans .own]⟩ k a b t u e g h i j l v o p))
def wU(F:aB)(N:Nat):aB where
 r37_growing_fill:=fun R Kind Name Entry Exit At Vars Ports Timers left L j States all Trans_ Kids o C=>iB F N Kind Name Entry Exit At Vars Ports Timers left L j States all Trans_ Kids o C
def aN(N:Nat):Nat→aB
 |0=>{r37_growing_fill:=fun _ _ _ _ _ _ _ _ _ _ _ _ _ _ _ _ _ _=>none}
 |d+1=>wU (aN N d) N
theorem mG(N:Nat):∀d,jQ (aN N d)
 |0=>{r37_growing_fill:=Ct.ok_none}
 |d+1=>{r37_growing_fill:=Ck _ (mG N d) N}
def r37_growing_fill(N:Nat)(Kind:Int)(Name:ae)(Entry Exit:List Act)(At:Int)(Vars Ports Timers:List ae)(left:Int)(L:List Int)(j:Int)(States all:List ae)(Trans_:List Trans)(Kids:List State)(o:ab R)(C:(List Act)→(List Act)→Int→(List State)→(List Trans)→ab R):ab R:=(aN N N).r37_growing_fill R Kind Name Entry Exit At Vars Ports Timers left L j States all Trans_ Kids o C
theorem Dq(N d:Nat)(Kind:Int)(Name:ae)(Entry Exit:List Act)(At:Int)(Vars Ports Timers:List ae)(left:Int)(L:List Int)(At_2:Int)(States all:List ae)(Trans_:List Trans)(Kids:List State)(k0:ab R)(k1:(List Act)→(List Act)→Int→(List State)→(List Trans)→ab R):(aN N (d+1)).r37_growing_fill R Kind Name Entry Exit At Vars Ports Timers left L At_2 States all Trans_ Kids k0 k1=iB (aN N d) N Kind Name Entry Exit At Vars Ports Timers left L At_2 States all Trans_ Kids k0 k1:=rfl
def EG(N:Nat):OC E0:=⟨pn (aN N N),(mG N N).r37_growing_fill⟩
def z53:ShO S:=.bx [.p 0 0 0,.t .str,.t .str,.t .str,.ns,.i .i64,.sw 3]
def z54:ShO S:=.bx [.st,.i .i64,.i .i64,.t .named,.t .named,.t .named,.sw 5,.i .i64]
def z55:ShO S:=.bx [.p 0 0 0,.t .str,.t .str,.t .str,.sw 3,.i .i64,.sw 4]
def z56:ShO S:=.bx [.st,.i .i64,.i .i64,.t .named,.t .named,.t .named,.sw 6,.i .i64]
def z57:ShO S:=.bx [.st,.i .i64,.i .i64,.t .named,.t .named,.t .named,.sw 3,.i .i64]
def z58:ShO S:=.bx [.st,.i .i64,.i .i64,.t .named,.t .named,.t .named,.sw 2,.i .i64]
def z59:ShO S:=.bx [.p 0 0 0,.t .str,.t .str,.t .str,.ns,.i .i64,.ns]
end
end So
