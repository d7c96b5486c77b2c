/- T3_6: a part of the proof of SoundSpoilt: lemmas on the evaluator and on the functions that the law reaches. -/
import Derived.Test.YtcllbmdpckfnhaaGreatT3x5
set_option maxRecDepth 100000
set_option linter.unusedVariables false
namespace So
open Go TE Go.Proofs
noncomputable section
variable{R:Type}
def fN(F:aX)(N:Nat)(I:List Act)(J:Int)(U:ae)(b9 j6:Int)(j7 j8 j9:List ai)(k5:List State)(k7 k8:Int)(k9 l7:List ae)(l9 m0 j m3:Int)(o C:ab R):ab R:=
 if(j != 0)=true then
 (o )
 else
 (C )
def fO(F:aX)(N:Nat)(k7:List Act)(k8:Int)(j:ae)(o C:Int)(I J U:List ai)(b9:List State)(j6 j7:Int)(j8 j9:List ae)(k9 l7 m7:Int)(m8 m9:ae)(n9:List Expr)(o0:Int)(o5 m6:List Act)(o6 k5 l9:Int)(m0:Int→Int→ab R)(m3:ab R):ab R:=
 if(k5==0)=true then
 (F.r12_looking_acts _ m6 j o C I J U b9 j6 j7 j8 j9 (fun m4 m5=>
 fN F N k7 k8 j o C I J U b9 j6 j7 j8 j9 k9 l7 m4 m5 (m0 m4 m5)
 (m3 )))
 else
 (fN F N k7 k8 j o C I J U b9 j6 j7 j8 j9 k9 l7 k5 l9 (m0 k5 l9)
 (m3 ))
def nV(F:aX)(N:Nat)(m0:List Act)(m3:Int)(o0:Bool)(j:ae)(o C:Int)(I J U:List ai)(b9:List State)(j6 j7:Int)(j8 j9:List ae)(m4 m5 k9:Int)(m6 m7:ae)(l7:List Expr)(k5:Int)(l9 m8:List Act)(k7:Int)(k8:Int→Int→ab R)(m9:ab R):ab R:=
 if o0=true then
 (k8 7 k7)
 else
 ((ifB (k9==7) true ((ifB (decide (k5<1)) false (some (decide (k5>16))) (some true)).bind fun o5=>
 some o5) (some false)).bind fun o6=>
 if o6=true then
 (k8 16 k7)
 else
 (r12_looking_exprs N l7 j o C I J U b9 j6 j7 j8 j9 (fun n9 o7=>
 if(n9==0)=true then
 (F.r12_looking_acts _ l9 j o C I J U b9 j6 j7 j8 j9 (fun o8 o9=>
 fO F N m0 m3 j o C I J U b9 j6 j7 j8 j9 m4 m5 k9 m6 m7 l7 k5 l9 m8 k7 o8 o9 (fun p5 p6=>
 k8 p5 p6)
 (m9 )))
 else
 (fO F N m0 m3 j o C I J U b9 j6 j7 j8 j9 m4 m5 k9 m6 m7 l7 k5 l9 m8 k7 n9 o7 (fun p7 p8=>
 k8 p7 p8)
 (m9 )))))
def iJ(F:aX)(N:Nat)(C:List Act)(b9:ae)(j6 j7:Int)(I J U:List ai)(j8:List State)(j9 k5:Int)(k7 k8:List ae)(k9 l7:Int)(l9:ab R)(m0:Int→Int→ab R)(rec:Int→ab R)(o:Int):ab R:=
 if(decide (o<((C.length:Nat):Int)))=true then
 ((at? C o).bind fun j=>
 (ifB (j.Kind==1) true (jI N I (fun m3=>
 fD N m3 j.Name (fun m4=>
 some (!m4)))) (some false)).bind fun m5=>
 (ifB m5 false ((ifB (j.Kind==3) true (jI N J (fun m6=>
 fD N m6 j.Name (fun m7=>
 some (!m7)))) (some false)).bind fun m8=>
 some m8) (some true)).bind fun m9=>
 (ifB m9 false ((ifB (j.Kind==4) false (some (j.Kind==5)) (some true)).bind fun c24=>
 (ifB c24 true (jI N U (fun n9=>
 fD N n9 j.Name (fun o0=>
 some (!o0)))) (some false)).bind fun o5=>
 some o5) (some true)).bind fun o6=>
 nV F N C o o6 b9 j6 j7 I J U j8 j9 k5 k7 k8 k9 l7 j.Kind j.Name j.Event j.X j.N j.Then j.Else j.At (fun o7 o8=>
 m0 o7 o8)
 (rec (IntKind.wrap .i64 (o+1))))
 else
 (l9 )
def eQ(F:aX)(N:Nat)(j:List Act)(o:ae)(C I:Int)(J U b9:List ai)(j6:List State)(j7 j8:Int)(j9 k5:List ae)(k7 k8:Int)(k9:ab R)(l7:Int→Int→ab R):Nat→Int→ab R
 |0=>fun _=>none
 |n+1=>fun l9=>iJ F N j o C I J U b9 j6 j7 j8 j9 k5 k7 k8 k9 l7 (eQ F N j o C I J U b9 j6 j7 j8 j9 k5 k7 k8 k9 l7 n) l9
def ix(F:aX)(N:Nat)(l:List Act)(Name:ae)(Steps Fuel:Int)(Vars Ports Timers:List ai)(States:List State)(At trans:Int)(names states:List ae)(j:Int→Int→ab R):ab R:=
 eQ F N l Name Steps Fuel Vars Ports Timers States At trans names states 0 0 (j 0 0)
 (fun o C=>
 j o C) N 0
def pf(F:aX)(hF:jK F)(N:Nat):FD E0:={f:=146,fn:=Tryz.f146,q:=pd,loops:=[{cur:=0,live:=[0,1,4,5],out:=fun | .exit 0=>([4],[]) | .ret=>([4],[])|_=>([],[]),q:=⟨[.p 0 0 0,.t .act,.p 3 0 0,.i .i64],[z39,.rw .str .app,.rw .str .app,.bx [.i .i64,.i .i64]]⟩,G:=fun R K n a b c d e g h i j l m o p q s=>eQ F N a c d e g h i j l m o p q s (pK ⟨[.p 3 0 0],[z39,.rw .str .app,.rw .str .app,.bx [.i .i64,.i .i64]]⟩ (K (.exit 0)) c d e g h i j l m o p q s) (pK ⟨[.p 3 0 0],[z39,.rw .str .app,.rw .str .app,.bx [.i .i64,.i .i64]]⟩ (K .ret) c d e g h i j l m o p) n b,B:=fun R K rec a b c d e g h i j l m o p q s=>iJ F N a c d e g h i j l m o p q s (pK ⟨[.p 3 0 0],[z39,.rw .str .app,.rw .str .app,.bx [.i .i64,.i .i64]]⟩ (K (.exit 0)) c d e g h i j l m o p q s) (pK ⟨[.p 3 0 0],[z39,.rw .str .app,.rw .str .app,.bx [.i .i64,.i .i64]]⟩ (K .ret) c d e g h i j l m o p) (fun b=>rec a b c d e g h i j l m o p q s) b}],cuts:=[{key:=15,live:=[0,1,4,5,8],out:=fun | .ret=>([4],[]) | .normal=>([0,1,4,5],[])|_=>([],[]),q:=⟨[.p 0 0 0,.t .act,.p 3 0 0,.i .i64,.p 4 0 0],[z39,.rw .str .app,.rw .str .app,.bx [.i .i64,.i .i64],.bx [.i .i64,.i .i64]]⟩,G:=fun R K a b c d e g h i j l m o p q s t u=>fN F N a b c d e g h i j l m o p q s t u (pK ⟨[.p 3 0 0],[z39,.rw .str .app,.rw .str .app,.bx [.i .i64,.i .i64]]⟩ (K .ret) c d e g h i j l m o p t u) (pK ⟨[.p 0 0 0,.t .act,.p 3 0 0,.i .i64],[z39,.rw .str .app,.rw .str .app,.bx [.i .i64,.i .i64]]⟩ (K .normal) a b c d e g h i j l m o p q s)},{key:=13,live:=[0,1,4,5,6,8],out:=fun | .ret=>([4],[]) | .normal=>([0,1,4,5],[])|_=>([],[]),q:=⟨[.p 0 0 0,.t .act,.p 3 0 0,.i .i64,.p 4 0 0,.p 5 0 0],[z39,.rw .str .app,.rw .str .app,.bx [.i .i64,.i .i64],z10,.bx [.i .i64,.i .i64]]⟩,G:=fun R K a b c d e g h i j l m o p q s t u v w x y z a1 b1 c1=>fO F N a b c d e g h i j l m o p q s t u v w x y z a1 b1 c1 (pK ⟨[.p 3 0 0],[z39,.rw .str .app,.rw .str .app,.bx [.i .i64,.i .i64]]⟩ (K .ret) c d e g h i j l m o p) (pK ⟨[.p 0 0 0,.t .act,.p 3 0 0,.i .i64],[z39,.rw .str .app,.rw .str .app,.bx [.i .i64,.i .i64]]⟩ (K .normal) a b c d e g h i j l m o p q s)},{key:=6,live:=[0,1,4,5,6,7],out:=fun | .ret=>([4],[]) | .normal=>([0,1,4,5],[])|_=>([],[]),q:=⟨[.p 0 0 0,.t .act,.p 3 0 0,.i .i64,.p 4 0 0,.b],[z39,.rw .str .app,.rw .str .app,.bx [.i .i64,.i .i64],z10]⟩,G:=fun R K a b c d e g h i j l m o p q s t u v w x y z a1 b1=>nV F N a b c d e g h i j l m o p q s t u v w x y z a1 b1 (pK ⟨[.p 3 0 0],[z39,.rw .str .app,.rw .str .app,.bx [.i .i64,.i .i64]]⟩ (K .ret) d e g h i j l m o p q) (pK ⟨[.p 0 0 0,.t .act,.p 3 0 0,.i .i64],[z39,.rw .str .app,.rw .str .app,.bx [.i .i64,.i .i64]]⟩ (K .normal) a b d e g h i j l m o p q s t)}],g:=[mv N,mY N,xp N,⟨pe F,hF.r12_looking_acts⟩,tT N]}
theorem BP(F:aX)(hF:jK F)(N:Nat):Ct.ok E0 ⟨(pf F hF N).f,(pf F hF N).q,fun R k=>(fun R k a b c d e g h i j l m o=>ix F N a b c d e g h i j l m o (oQ ⟨.ag [.i .i64,.i .i64],[],[]⟩ k)) R fun v ns=>k ⟨v,none,ns⟩⟩:=FD.ctq e0 (pf F hF N) N (fun R k a b c d e g h i j l m o=>ix F N a b c d e g h i j l m o (oQ ⟨.ag [.i .i64,.i .i64],[],[]⟩ k))
def wT(F:aX)(N:Nat):aX where
 r12_looking_acts:=fun R l Name Steps Fuel Vars Ports Timers States At trans names states j=>ix F N l Name Steps Fuel Vars Ports Timers States At trans names states j
def bd(N:Nat):Nat→aX
 |0=>{r12_looking_acts:=fun _ _ _ _ _ _ _ _ _ _ _ _ _ _=>none}
 |d+1=>wT (bd N d) N
theorem mw(N:Nat):∀d,jK (bd N d)
 |0=>{r12_looking_acts:=Ct.ok_none}
 |d+1=>{r12_looking_acts:=BP _ (mw N d) N}
def r12_looking_acts(N:Nat)(l:List Act)(Name:ae)(Steps Fuel:Int)(Vars Ports Timers:List ai)(States:List State)(At trans:Int)(names states:List ae)(j:Int→Int→ab R):ab R:=(bd N N).r12_looking_acts R l Name Steps Fuel Vars Ports Timers States At trans names states j
theorem Dj(N d:Nat)(l:List Act)(Name:ae)(Steps Fuel:Int)(Vars Ports Timers:List ai)(States:List State)(At trans:Int)(names states:List ae)(k0:Int→Int→ab R):(bd N (d+1)).r12_looking_acts R l Name Steps Fuel Vars Ports Timers States At trans names states k0=ix (bd N d) N l Name Steps Fuel Vars Ports Timers States At trans names states k0:=rfl
def vM(N:Nat):OC E0:=⟨pe (bd N N),(mw N N).r12_looking_acts⟩
def oI(N:Nat)(Event:ae)(Guard:List Expr)(Target:ae)(Acts:List Act)(At:Int)(Name:ae)(Steps Fuel:Int)(Vars Ports Timers:List ai)(States:List State)(o trans:Int)(names states:List ae)(j:Int→Int→Int→ab R):ab R:=
 if(trans==96)=true then
 (j 15 At trans)
 else
 ((ifB (!(Target==([]:ae))) true (fD N names Target (fun I=>
 some (!I))) (some false)).bind fun J=>
 if J=true then
 (j 7 At (IntKind.wrap .i64 (trans+1)))
 else
 (r12_looking_exprs N Guard Name Steps Fuel Vars Ports Timers States o (IntKind.wrap .i64 (trans+1)) names states (fun C U=>
 if(C==0)=true then
 (r12_looking_acts N Acts Name Steps Fuel Vars Ports Timers States o (IntKind.wrap .i64 (trans+1)) names states (fun r5 r6=>
 j r5 r6 (IntKind.wrap .i64 (trans+1))))
 else
 (j C U (IntKind.wrap .i64 (trans+1))))))
def FV(N:Nat):FD E0:={f:=147,fn:=Tryz.f147,q:=⟨[.p 0 0 0,y11],[z39,.rw .str .app,.rw .str .app]⟩,g:=[mv N,mY N,vM N,tT N]}
def FW(N:Nat):OC E0:=⟨_,FD.ct e0 (FV N) N (fun R k a b c d e g h i j l m o p q s t=>oI N a b c d e g h i j l m o p q s t (fun u v w=>oK ⟨.ag [.i .i64,.i .i64],[z39,.rw .str .app,.rw .str .app],[]⟩ k u v g h i j l m o p w s t))⟩
structure aR where
 r12_looking_inner:(R:Type)→(List State)→ae→Int→Int→(List ai)→(List ai)→(List ai)→(List State)→Int→Int→(List ae)→(List ae)→(Int→Int→Int→ab R)→ab R
def tU:Pat S:=⟨[.p 0 0 0,.t .state],[z39,.rw .str .app,.rw .str .app]⟩
def nW(F:aR):Ct S:=⟨93,tU,fun R k a b c d e g h i j l m o=>F.r12_looking_inner R a b c d e g h i j l m o (fun p q s=>oK ⟨.ag [.i .i64,.i .i64],[z39,.rw .str .app,.rw .str .app],[]⟩ k p q b c d e g h i j s m o)⟩
structure jn(F:aR):Prop where
 r12_looking_inner:(nW F).ok E0
def dj(F:aR)(N:Nat)(m6:List State)(m7:Int)(U:ae)(b9 j6:Int)(j7 j8 j9:List ai)(k5:List State)(k7:Int)(k8 k9:List ae)(m8 m9 n9:Int)(o0:ae)(o5 o6:List Act)(C:List Trans)(o7:List State)(o8:Int)(l7:Int→Int→Int→ab R)(rec:Int→Int→Int→Int→ab R)(o I J l9:Int):ab R:=
 (ifB (J==0) true (some (decide (o<((C.length:Nat):Int)))) (some false)).bind fun m0=>
 if m0=true then
 ((at? C o).bind fun j=>
 oI N j.Event j.Guard j.Target j.Acts j.At U b9 j6 j7 j8 j9 k5 k7 I k8 k9 (fun m3 m4 m5=>
 rec (IntKind.wrap .i64 (o+1)) m5 m3 m4))
 else
 (l7 I J l9)
def bS(F:aR)(N:Nat)(j:List State)(o:Int)(C:ae)(I J:Int)(U b9 j6:List ai)(j7:List State)(j8:Int)(j9 k5:List ae)(k7 k8 k9:Int)(l7:ae)(l9 m0:List Act)(m3:List Trans)(m4:List State)(m5:Int)(m6:Int→Int→Int→ab R):Nat→Int→Int→Int→Int→ab R
 |0=>fun _ _ _ _=>none
 |n+1=>fun m7 m8 m9 n9=>dj F N j o C I J U b9 j6 j7 j8 j9 k5 k7 k8 k9 l7 l9 m0 m3 m4 m5 m6 (bS F N j o C I J U b9 j6 j7 j8 j9 k5 k7 k8 k9 l7 l9 m0 m3 m4 m5 m6 n) m7 m8 m9 n9
def cb(F:aR)(N:Nat)(I:List State)(J:Int)(U:ae)(b9 j6:Int)(j7 j8 j9:List ai)(k5:List State)(k7 k8:Int)(k9 l7:List ae)(l9 m0 j m3:Int)(o C:ab R):ab R:=
 if(j != 0)=true then
 (o )
 else
 (C )
def fP(F:aR)(N:Nat)(k5:List State)(k7:Int)(j:ae)(o C:Int)(I J U:List ai)(b9:List State)(j6 m8:Int)(j7 j8:List ae)(k8 k9 m9:Int)(n9:ae)(o0 o5:List Act)(o6:List Trans)(m0:List State)(o7 o8 o9:Int)(m3:Int→Int→Int→ab R)(m4:Int→ab R):ab R:=
 bS F N k5 k7 j o C I J U b9 j6 j7 j8 k8 k9 m9 n9 o0 o5 o6 m0 o7 (fun j9 l7 m5=>
 if(l7==0)=true then
 (F.r12_looking_inner _ m0 j o C I J U b9 j6 j9 j7 j8 (fun m6 m7 l9=>
 cb F N k5 k7 j o C I J U b9 j6 l9 j7 j8 k8 k9 m6 m7 (m3 l9 m6 m7)
 (m4 l9)))
 else
 (cb F N k5 k7 j o C I J U b9 j6 j9 j7 j8 k8 k9 l7 m5 (m3 j9 l7 m5)
 (m4 j9))) N 0 m8 o8 o9
def gZ(F:aR)(N:Nat)(I:List State)(J:ae)(U b9:Int)(j6 j7 j8:List ai)(j9:List State)(k5:Int)(k7 k8:List ae)(k9 l7:Int)(m3:Int→ab R)(l9:Int→Int→Int→ab R)(rec:Int→Int→ab R)(o C:Int):ab R:=
 if(decide (o<((I.length:Nat):Int)))=true then
 ((at? I o).bind fun j=>
 r12_looking_acts N j.Entry J U b9 j6 j7 j8 j9 k5 C k7 k8 (fun m0 m4=>
 if(m0==0)=true then
 (r12_looking_acts N j.Exit J U b9 j6 j7 j8 j9 k5 C k7 k8 (fun m5 m6=>
 fP F N I o J U b9 j6 j7 j8 j9 k5 C k7 k8 k9 l7 j.Kind j.Name j.Entry j.Exit j.Trans j.Kids j.At m5 m6 (fun m7 m8 m9=>
 l9 m7 m8 m9)
 (fun n9=>
 rec (IntKind.wrap .i64 (o+1)) n9)))
 else
 (fP F N I o J U b9 j6 j7 j8 j9 k5 C k7 k8 k9 l7 j.Kind j.Name j.Entry j.Exit j.Trans j.Kids j.At m0 m4 (fun o0 o5 o6=>
 l9 o0 o5 o6)
 (fun o7=>
 rec (IntKind.wrap .i64 (o+1)) o7))))
 else
 (m3 C)
def bD(F:aR)(N:Nat)(j:List State)(o:ae)(C I:Int)(J U b9:List ai)(j6:List State)(j7:Int)(j8 j9:List ae)(k5 k7:Int)(k8:Int→ab R)(k9:Int→Int→Int→ab R):Nat→Int→Int→ab R
 |0=>fun _ _=>none
 |n+1=>fun l7 l9=>gZ F N j o C I J U b9 j6 j7 j8 j9 k5 k7 k8 k9 (bD F N j o C I J U b9 j6 j7 j8 j9 k5 k7 k8 k9 n) l7 l9
def gM(F:aR)(N:Nat)(l:List State)(Name:ae)(Steps Fuel:Int)(Vars Ports Timers:List ai)(States:List State)(At trans:Int)(names states:List ae)(j:Int→Int→Int→ab R):ab R:=
 bD F N l Name Steps Fuel Vars Ports Timers States At names states 0 0 (fun o=>
 j 0 0 o)
 (fun C I J=>
 j I J C) N 0 trans
def nX(F:aR)(hF:jn F)(N:Nat):FD E0:={f:=93,fn:=Tryz.f93,q:=tU,loops:=[{cur:=2,live:=[0,1,4,5,6,7,8],out:=fun | .exit 2=>([0,1,4,5,6,7],[])|_=>([],[]),q:=⟨[.p 0 0 0,.t .state,.p 3 0 0,.i .i64,.p 4 0 0,.p 5 0 0,.i .i64],[z39,.rw .str .app,.rw .str .app,.bx [.i .i64,.i .i64],z35,.bx [.i .i64,.i .i64]]⟩,G:=fun R K n a b c d e g h i j l m o p q s t u v w x y z a1 b1 c1=>bS F N a b d e g h i j l m p q s t u v w x y z a1 (fun d1=>pK ⟨[.p 0 0 0,.t .state,.p 3 0 0,.i .i64,.p 4 0 0,.p 5 0 0],[z39,.rw .str .app,.rw .str .app,.bx [.i .i64,.i .i64],z35,.bx [.i .i64,.i .i64]]⟩ (K (.exit 2)) a b d e g h i j l m d1 p q s t u v w x y z a1) n c o b1 c1,B:=fun R K rec a b c d e g h i j l m o p q s t u v w x y z a1 b1 c1=>dj F N a b d e g h i j l m p q s t u v w x y z a1 (fun d1=>pK ⟨[.p 0 0 0,.t .state,.p 3 0 0,.i .i64,.p 4 0 0,.p 5 0 0],[z39,.rw .str .app,.rw .str .app,.bx [.i .i64,.i .i64],z35,.bx [.i .i64,.i .i64]]⟩ (K (.exit 2)) a b d e g h i j l m d1 p q s t u v w x y z a1) (fun c o b1 c1=>rec a b c d e g h i j l m o p q s t u v w x y z a1 b1 c1) c o b1 c1},{cur:=0,live:=[0,1,4,5],out:=fun | .exit 0=>([4],[]) | .ret=>([4],[])|_=>([],[]),q:=⟨[.p 0 0 0,.t .state,.p 3 0 0,.i .i64],[z39,.rw .str .app,.rw .str .app,.bx [.i .i64,.i .i64]]⟩,G:=fun R K n a b c d e g h i j l m o p q s=>bD F N a c d e g h i j l o p q s (fun t=>pK ⟨[.p 3 0 0],[z39,.rw .str .app,.rw .str .app,.bx [.i .i64,.i .i64]]⟩ (K (.exit 0)) c d e g h i j l t o p q s) (fun t=>pK ⟨[.p 3 0 0],[z39,.rw .str .app,.rw .str .app,.bx [.i .i64,.i .i64]]⟩ (K .ret) c d e g h i j l t o p) n b m,B:=fun R K rec a b c d e g h i j l m o p q s=>gZ F N a c d e g h i j l o p q s (fun t=>pK ⟨[.p 3 0 0],[z39,.rw .str .app,.rw .str .app,.bx [.i .i64,.i .i64]]⟩ (K (.exit 0)) c d e g h i j l t o p q s) (fun t=>pK ⟨[.p 3 0 0],[z39,.rw .str .app,.rw .str .app,.bx [.i .i64,.i .i64]]⟩ (K .ret) c d e g h i j l t o p) (fun b m=>rec a b c d e g h i j l m o p q s) b m}],cuts:=[{key:=14,live:=[0,1,4,5,7],out:=fun | .ret=>([4],[]) | .normal=>([0,1,4,5],[])|_=>([],[]),q:=⟨[.p 0 0 0,.t .state,.p 3 0 0,.i .i64,.p 4 0 0],[z39,.rw .str .app,.rw .str .app,.bx [.i .i64,.i .i64],.bx [.i .i64,.i .i64]]⟩,G:=fun R K a b c d e g h i j l m o p q s t u=>cb F N a b c d e g h i j l m o p q s t u (pK ⟨[.p 3 0 0],[z39,.rw .str .app,.rw .str .app,.bx [.i .i64,.i .i64]]⟩ (K .ret) c d e g h i j l m o p t u) (pK ⟨[.p 0 0 0,.t .state,.p 3 0 0,.i .i64],[z39,.rw .str .app,.rw .str .app,.bx [.i .i64,.i .i64]]⟩ (K .normal) a b c d e g h i j l m o p q s)},{key:=8,live:=[0,1,4,5,6,7],out:=fun | .ret=>([4],[]) | .normal=>([0,1,4,5],[])|_=>([],[]),q:=⟨[.p 0 0 0,.t .state,.p 3 0 0,.i .i64,.p 4 0 0,.p 5 0 0],[z39,.rw .str .app,.rw .str .app,.bx [.i .i64,.i .i64],z35,.bx [.i .i64,.i .i64]]⟩,G:=fun R K a b c d e g h i j l m o p q s t u v w x y z a1 b1=>fP F N a b c d e g h i j l m o p q s t u v w x y z a1 b1 (fun c1=>pK ⟨[.p 3 0 0],[z39,.rw .str .app,.rw .str .app,.bx [.i .i64,.i .i64]]⟩ (K .ret) c d e g h i j l c1 o p) (fun c1=>pK ⟨[.p 0 0 0,.t .state,.p 3 0 0,.i .i64],[z39,.rw .str .app,.rw .str .app,.bx [.i .i64,.i .i64]]⟩ (K .normal) a b c d e g h i j l c1 o p q s)}],g:=[⟨nW F,hF.r12_looking_inner⟩,vM N,FW N]}
theorem AS(F:aR)(hF:jn F)(N:Nat):Ct.ok E0 ⟨(nX F hF N).f,(nX F hF N).q,fun R k a b c d e g h i j l m o=>gM F N a b c d e g h i j l m o (fun p q s=>oK ⟨.ag [.i .i64,.i .i64],[z39,.rw .str .app,.rw .str .app],[]⟩ k p q b c d e g h i j s m o)⟩:=FD.ct e0 (nX F hF N) N (fun R k a b c d e g h i j l m o=>gM F N a b c d e g h i j l m o (fun p q s=>oK ⟨.ag [.i .i64,.i .i64],[z39,.rw .str .app,.rw .str .app],[]⟩ k p q b c d e g h i j s m o))
def vN(F:aR)(N:Nat):aR where
 r12_looking_inner:=fun R l Name Steps Fuel Vars Ports Timers States At trans names states j=>gM F N l Name Steps Fuel Vars Ports Timers States At trans names states j
def au(N:Nat):Nat→aR
 |0=>{r12_looking_inner:=fun _ _ _ _ _ _ _ _ _ _ _ _ _ _=>none}
 |d+1=>vN (au N d) N
theorem lQ(N:Nat):∀d,jn (au N d)
 |0=>{r12_looking_inner:=Ct.ok_none}
 |d+1=>{r12_looking_inner:=AS _ (lQ N d) N}
def r12_looking_inner(N:Nat)(l:List State)(Name:ae)(Steps Fuel:Int)(Vars Ports Timers:List ai)(States:List State)(At trans:Int)(names states:List ae)(j:Int→Int→Int→ab R):ab R:=(au N N).r12_looking_inner R l Name Steps Fuel Vars Ports Timers States At trans names states j
theorem BQ(N d:Nat)(l:List State)(Name:ae)(Steps Fuel:Int)(Vars Ports Timers:List ai)(States:List State)(At trans:Int)(names states:List ae)(k0:Int→Int→Int→ab R):(au N (d+1)).r12_looking_inner R l Name Steps Fuel Vars Ports Timers States At trans names states k0=gM (au N d) N l Name Steps Fuel Vars Ports Timers States At trans names states k0:=rfl
def Dk(N:Nat):OC E0:=⟨nW (au N N),(lQ N N).r12_looking_inner⟩
def ql(N:Nat)(o:List Chart)(C j6 j7:Int)(I:ae)(j8 j9:Int)(k5 k7 k8:List ai)(k9:List State)(l7:Int)(J:ab R)(U:Int→ab R)(rec:Int→ab R)(j:Int):ab R:=
 if(decide (j<C))=true then
 ((at? o j).bind fun b9=>
 if(b9.Name==I)=true then
 (U 8)
 else
 (rec (IntKind.wrap .i64 (j+1))))
 else
 (J )
def na(N:Nat)(j:List Chart)(o C I:Int)(J:ae)(U b9:Int)(j6 j7 j8:List ai)(j9:List State)(k5:Int)(k7:ab R)(k8:Int→ab R):Nat→Int→ab R
 |0=>fun _=>none
 |n+1=>fun k9=>ql N j o C I J U b9 j6 j7 j8 j9 k5 k7 k8 (na N j o C I J U b9 j6 j7 j8 j9 k5 k7 k8 n) k9
def ld(N:Nat)(m0 m3:Int)(m4:ae)(m5 m6:Int)(m7 m8 m9:List ai)(C:List State)(n9:Int)(I:ae)(J U:Int)(b9 j6 j7:List ai)(j8:List State)(j9 k5:Int)(k7 k8:List ae)(j k9:Int)(o:Int→Int→ab R):ab R:=
 if(j==0)=true then
 (r12_looking_inner N C I J U b9 j6 j7 j8 j9 k5 k7 k8 (fun l7 l9 o0=>
 o l7 l9))
 else
 (o j k9)
def oi(N:Nat)(j9 k5:Int)(k7:ae)(k8 k9:Int)(l7 l9 m0:List ai)(j:List State)(m3:Int)(o:ae)(C I:Int)(J U b9:List ai)(j6:List State)(j7 j8 m4 m6:Int)(m5:Int→Int→ab R):ab R:=
 if(m4==0)=true then
 (kx N j true o C I J U b9 j6 j7 j8 (fun m7 m8 m9 n9=>
 ld N j9 k5 k7 k8 k9 l7 l9 m0 j m3 o C I J U b9 j6 j7 j8 m9 n9 m7 m8 (fun o0 o5=>
 m5 o0 o5)))
 else
 (ld N j9 k5 k7 k8 k9 l7 l9 m0 j m3 o C I J U b9 j6 j7 j8 ([]:List ae) ([]:List ae) m4 m6 (fun o6 o7=>
 m5 o6 o7))
def om(N:Nat)(o C:Int)(I:ae)(J U:Int)(b9 j6 j:List ai)(j7:List State)(j8:Int)(j9:ae)(k5 k7:Int)(k8 k9 l7:List ai)(l9:List State)(m0 m3 m4 m6:Int)(m5:Int→Int→ab R):ab R:=
 if(m4==0)=true then
 (rD N j 6 (fun m7 m8=>
 oi N o C I J U b9 j6 j j7 j8 j9 k5 k7 k8 k9 l7 l9 m0 m3 m7 m8 (fun m9 n9=>
 m5 m9 n9)))
 else
 (oi N o C I J U b9 j6 j j7 j8 j9 k5 k7 k8 k9 l7 l9 m0 m3 m4 m6 (fun o0 o5=>
 m5 o0 o5))
def oo(N:Nat)(o C:Int)(I:ae)(J U:Int)(b9 j j6:List ai)(j7:List State)(j8:Int)(j9:ae)(k5 k7:Int)(k8 k9 l7:List ai)(l9:List State)(m0 m3 m4 m6:Int)(m5:Int→Int→ab R):ab R:=
 if(m4==0)=true then
 (rD N j 6 (fun m7 m8=>
 om N o C I J U b9 j j6 j7 j8 j9 k5 k7 k8 k9 l7 l9 m0 m3 m7 m8 (fun m9 n9=>
 m5 m9 n9)))
 else
 (om N o C I J U b9 j j6 j7 j8 j9 k5 k7 k8 k9 l7 l9 m0 m3 m4 m6 (fun o0 o5=>
 m5 o0 o5))
def Cx(N:Nat)(l:List Chart)(i:Int)(o:Int→Int→ab R):ab R:=
 (at? l i).bind fun j=>
 na N l i 0 0 j.Name j.Steps j.Fuel j.Vars j.Ports j.Timers j.States j.At ((ifB (decide (j.Steps<2)) false (some (decide (j.Steps>16))) (some true)).bind fun C=>
 (ifB C false (some (decide (j.Fuel<1))) (some true)).bind fun I=>
 (ifB I false (some (decide (j.Fuel>4096))) (some true)).bind fun J=>
 if J=true then
 (o 16 j.At)
 else
 (qh N j.States (fun U=>
 if(!U)=true then
 (o 7 j.At)
 else
 (rD N j.Vars 8 (fun b9 j6=>
 oo N 0 0 j.Name j.Steps j.Fuel j.Vars j.Ports j.Timers j.States j.At j.Name j.Steps j.Fuel j.Vars j.Ports j.Timers j.States j.At 0 b9 j6 (fun j7 j8=>
 o j7 j8))))))
 (fun y16=>
 o y16 j.At) N 0
def OH(N:Nat):FD E0:={f:=40,fn:=Tryz.f40,q:=⟨[.t .chart,.i .i64],[]⟩,loops:=[{cur:=0,live:=[0,1,4,5,6],out:=fun | .exit 0=>([4,5],[]) | .ret=>([4],[])|_=>([],[]),q:=⟨[.t .chart,.i .i64,.p 0 0 0,.p 1 0 0,.i .i64],[.bx [.i .i64,.i .i64],z19]⟩,G:=fun R K n a b c d e g h i j l m o p=>na N a b d e g h i j l m o p (pK ⟨[.p 0 0 0,.p 1 0 0],[.bx [.i .i64,.i .i64],z19]⟩ (K (.exit 0)) d e g h i j l m o p) (fun q=>pK ⟨[.p 0 0 0],[.bx [.i .i64,.i .i64]]⟩ (K .ret) q p) n c,B:=fun R K rec a b c d e g h i j l m o p=>ql N a b d e g h i j l m o p (pK ⟨[.p 0 0 0,.p 1 0 0],[.bx [.i .i64,.i .i64],z19]⟩ (K (.exit 0)) d e g h i j l m o p) (fun q=>pK ⟨[.p 0 0 0],[.bx [.i .i64,.i .i64]]⟩ (K .ret) q p) (fun c=>rec a b c d e g h i j l m o p) c}],cuts:=[{key:=19,live:=[4,5,7,8],fix:=[(⟨7,[8]⟩,.row .str .app),(⟨7,[9]⟩,.row .str .app)],out:=fun | .ret=>([4],[])|_=>([],[]),q:=⟨[.p 0 0 0,.p 1 0 0,.p 2 0 0,.p 5 0 0],[.bx [.i .i64,.i .i64],z19,z40,.rw .str .app,.rw .str .app,.bx [.i .i64,.i .i64]]⟩,G:=fun R K a b c d e g h i j l m o p q s t u v w x y z a1=>ld N a b c d e g h i j l m o p q s t u v w x y z a1 (pK ⟨[.p 0 0 0],[.bx [.i .i64,.i .i64]]⟩ (K .ret))},{key:=17,live:=[4,5,7,8],out:=fun | .ret=>([4],[])|_=>([],[]),q:=⟨[.p 0 0 0,.p 1 0 0,.p 2 0 0,.p 3 0 0],[.bx [.i .i64,.i .i64],z19,z41,.bx [.i .i64,.i .i64]]⟩,G:=fun R K a b c d e g h i j l m o p q s t u v w x y=>oi N a b c d e g h i j l m o p q s t u v w x y (pK ⟨[.p 0 0 0],[.bx [.i .i64,.i .i64]]⟩ (K .ret))},{key:=15,live:=[4,5,7,8],out:=fun | .ret=>([4],[])|_=>([],[]),q:=⟨[.p 0 0 0,.p 1 0 0,.p 2 0 0,.p 3 0 0],[.bx [.i .i64,.i .i64],z19,z41,.bx [.i .i64,.i .i64]]⟩,G:=fun R K a b c d e g h i j l m o p q s t u v w x y=>om N a b c d e g h i j l m o p q s t u v w x y (pK ⟨[.p 0 0 0],[.bx [.i .i64,.i .i64]]⟩ (K .ret))},{key:=13,live:=[4,5,7,8],out:=fun | .ret=>([4],[])|_=>([],[]),q:=⟨[.p 0 0 0,.p 1 0 0,.p 2 0 0,.p 3 0 0],[.bx [.i .i64,.i .i64],z19,z41,.bx [.i .i64,.i .i64]]⟩,G:=fun R K a b c d e g h i j l m o p q s t u v w x y=>oo N a b c d e g h i j l m o p q s t u v w x y (pK ⟨[.p 0 0 0],[.bx [.i .i64,.i .i64]]⟩ (K .ret))}],g:=[mv N,Ek N,OG N,BM N,Dk N]}
def OI(N:Nat):OC E0:=⟨_,FD.ct e0 (OH N) N (fun R k a b=>Cx N a b (oK ⟨.ag [.i .i64,.i .i64],[],[]⟩ k))⟩
def rW(N:Nat)(C:ae)(b9:Int)(j6:List Chart)(o:List Inst)(j7:List ak)(j8:List Cert)(I:ab R)(J:Int→ab R)(rec:Int→ab R)(j:Int):ab R:=
 if(decide (j<((o.length:Nat):Int)))=true then
 ((at? o j).bind fun U=>
 if(U.Name==C)=true then
 (J j)
 else
 (rec (IntKind.wrap .i64 (j+1))))
 else
 (I )
def pB(N:Nat)(j:ae)(o:Int)(C:List Chart)(I:List Inst)(J:List ak)(U:List Cert)(b9:ab R)(j6:Int→ab R):Nat→Int→ab R
 |0=>fun _=>none
 |n+1=>fun j7=>rW N j o C I J U b9 j6 (pB N j o C I J U b9 j6 n) j7
def sS(N:Nat)(Age:Int)(Charts:List Chart)(Insts:List Inst)(Chans:List ak)(Certs:List Cert)(name:ae)(j:Int→ab R):ab R:=
 pB N name Age Charts Insts Chans Certs (j (-1))
 (fun y9=>
 j y9) N 0
def Rn(N:Nat):FD E0:={f:=94,fn:=Tryz.f94,q:=⟨[y18,.st],[]⟩,loops:=[{cur:=0,live:=[1,2,5],out:=fun | .exit 0=>([],[]) | .ret=>([4],[])|_=>([],[]),q:=⟨[.st,.p 0 0 0,.i .i64],[z38]⟩,G:=fun R K n a b c d e g h=>pB N a c d e g h (pK ⟨[],[]⟩ (K (.exit 0))) (pK ⟨[.i .i64],[]⟩ (K .ret)) n b,B:=fun R K rec a b c d e g h=>rW N a c d e g h (pK ⟨[],[]⟩ (K (.exit 0))) (pK ⟨[.i .i64],[]⟩ (K .ret)) (fun b=>rec a b c d e g h) b}]}
def zU(N:Nat):OC E0:=⟨_,FD.ct e0 (Rn N) N (fun R k a b c d e g=>sS N a b c d e g (oK ⟨.i .i64,[],[]⟩ k))⟩
def qm(N:Nat)(C:ae)(b9:Int)(o:List Chart)(j6:List Inst)(j7:List ak)(j8:List Cert)(I:ab R)(J:Int→ab R)(rec:Int→ab R)(j:Int):ab R:=
 if(decide (j<((o.length:Nat):Int)))=true then
 ((at? o j).bind fun U=>
 if(U.Name==C)=true then
 (J j)
 else
 (rec (IntKind.wrap .i64 (j+1))))
 else
 (I )
def nb(N:Nat)(j:ae)(o:Int)(C:List Chart)(I:List Inst)(J:List ak)(U:List Cert)(b9:ab R)(j6:Int→ab R):Nat→Int→ab R
 |0=>fun _=>none
 |n+1=>fun j7=>qm N j o C I J U b9 j6 (nb N j o C I J U b9 j6 n) j7
def zc(N:Nat)(Age:Int)(Charts:List Chart)(Insts:List Inst)(Chans:List ak)(Certs:List Cert)(name:ae)(j:Int→ab R):ab R:=
 nb N name Age Charts Insts Chans Certs (j (-1))
 (fun y9=>
 j y9) N 0
def OJ(N:Nat):FD E0:={f:=95,fn:=Tryz.f95,q:=⟨[y18,.st],[]⟩,loops:=[{cur:=0,live:=[1,2,5],out:=fun | .exit 0=>([],[]) | .ret=>([4],[])|_=>([],[]),q:=⟨[.st,.p 0 0 0,.i .i64],[z38]⟩,G:=fun R K n a b c d e g h=>nb N a c d e g h (pK ⟨[],[]⟩ (K (.exit 0))) (pK ⟨[.i .i64],[]⟩ (K .ret)) n b,B:=fun R K rec a b c d e g h=>qm N a c d e g h (pK ⟨[],[]⟩ (K (.exit 0))) (pK ⟨[.i .i64],[]⟩ (K .ret)) (fun b=>rec a b c d e g h) b}]}
def HS(N:Nat):OC E0:=⟨_,FD.ct e0 (OJ N) N (fun R k a b c d e g=>zc N a b c d e g (oK ⟨.i .i64,[],[]⟩ k))⟩
def qn(N:Nat)(J:Int)(U:List Chart)(o:List Inst)(b9:List ak)(j6:List Cert)(l9 m0:Int)(j7:ab R)(I:Int→Int→ab R)(rec:Int→ab R)(C:Int):ab R:=
 if(decide (C<((o.length:Nat):Int)))=true then
 ((at? o C).bind fun j=>
 sS N J U o b9 j6 j.Name (fun j8=>
 if(decide (j8<C))=true then
 (I 8 j.At)
 else
 (zc N J U o b9 j6 j.Chart (fun j9=>
 if(decide (j9<0))=true then
 (I 7 j.At)
 else
 ((ifB (decide (j.Quantum<1)) false (some (decide (j.Quantum>65536))) (some true)).bind fun k5=>
 (ifB k5 false (some (decide (j.Ext<0))) (some true)).bind fun k7=>
 (ifB k7 false (some (decide (j.Ext>32))) (some true)).bind fun k8=>
 (ifB k8 false (some (decide (j.Prio<0))) (some true)).bind fun k9=>
 (ifB k9 false (some (decide (j.Prio>7))) (some true)).bind fun l7=>
 if l7=true then
 (I 16 j.At)
 else
 (rec (IntKind.wrap .i64 (C+1))))))))
 else
 (j7 )
def ng(N:Nat)(j:Int)(o:List Chart)(C:List Inst)(I:List ak)(J:List Cert)(U b9:Int)(j6:ab R)(j7:Int→Int→ab R):Nat→Int→ab R
 |0=>fun _=>none
 |n+1=>fun j8=>qn N j o C I J U b9 j6 j7 (ng N j o C I J U b9 j6 j7 n) j8
def zd(N:Nat)(Age:Int)(Charts:List Chart)(Insts:List Inst)(Chans:List ak)(Certs:List Cert)(j:Int→Int→ab R):ab R:=
 ng N Age Charts Insts Chans Certs 0 0 (j 0 0)
 (fun y17 y18=>
 j y17 y18) N 0
def OK(N:Nat):FD E0:={f:=41,fn:=Tryz.f41,q:=⟨[y18],[]⟩,loops:=[{cur:=0,live:=[1,2,3],out:=fun | .exit 0=>([2],[]) | .ret=>([2],[])|_=>([],[]),q:=⟨[.p 0 0 0,.p 1 0 0,.i .i64],[z38,.bx [.i .i64,.i .i64]]⟩,G:=fun R K n a b c d e g h i=>ng N b c d e g h i (pK ⟨[.p 0 0 0],[.bx [.i .i64,.i .i64]]⟩ (K (.exit 0)) h i) (pK ⟨[.p 0 0 0],[.bx [.i .i64,.i .i64]]⟩ (K .ret)) n a,B:=fun R K rec a b c d e g h i=>qn N b c d e g h i (pK ⟨[.p 0 0 0],[.bx [.i .i64,.i .i64]]⟩ (K (.exit 0)) h i) (pK ⟨[.p 0 0 0],[.bx [.i .i64,.i .i64]]⟩ (K .ret)) (fun a=>rec a b c d e g h i) a}],g:=[mv N,zU N,HS N]}
def OL(N:Nat):OC E0:=⟨_,FD.ct e0 (OK N) N (fun R k a b c d e=>zd N a b c d e (oK ⟨.ag [.i .i64,.i .i64],[],[]⟩ k))⟩
def rX(N:Nat)(C:ae)(b9:Int)(j6:List Chart)(j7:List Inst)(o:List ak)(j8:List Cert)(I:ab R)(J:Int→ab R)(rec:Int→ab R)(j:Int):ab R:=
 if(decide (j<((o.length:Nat):Int)))=true then
 ((at? o j).bind fun U=>
 if(U.Name==C)=true then
 (J j)
 else
 (rec (IntKind.wrap .i64 (j+1))))
 else
 (I )
def pC(N:Nat)(j:ae)(o:Int)(C:List Chart)(I:List Inst)(J:List ak)(U:List Cert)(b9:ab R)(j6:Int→ab R):Nat→Int→ab R
 |0=>fun _=>none
 |n+1=>fun j7=>rX N j o C I J U b9 j6 (pC N j o C I J U b9 j6 n) j7
def ze(N:Nat)(Age:Int)(Charts:List Chart)(Insts:List Inst)(Chans:List ak)(Certs:List Cert)(name:ae)(j:Int→ab R):ab R:=
 pC N name Age Charts Insts Chans Certs (j (-1))
 (fun y9=>
 j y9) N 0
def Ro(N:Nat):FD E0:={f:=96,fn:=Tryz.f96,q:=⟨[y18,.st],[]⟩,loops:=[{cur:=0,live:=[1,2,5],out:=fun | .exit 0=>([],[]) | .ret=>([4],[])|_=>([],[]),q:=⟨[.st,.p 0 0 0,.i .i64],[z38]⟩,G:=fun R K n a b c d e g h=>pC N a c d e g h (pK ⟨[],[]⟩ (K (.exit 0))) (pK ⟨[.i .i64],[]⟩ (K .ret)) n b,B:=fun R K rec a b c d e g h=>rX N a c d e g h (pK ⟨[],[]⟩ (K (.exit 0))) (pK ⟨[.i .i64],[]⟩ (K .ret)) (fun b=>rec a b c d e g h) b}]}
def Em(N:Nat):OC E0:=⟨_,FD.ct e0 (Ro N) N (fun R k a b c d e g=>ze N a b c d e g (oK ⟨.i .i64,[],[]⟩ k))⟩
def tK(N:Nat)(Age:Int)(Charts:List Chart)(Insts:List Inst)(Chans:List ak)(Certs:List Cert)(inst:ae)(o:ae→Int→Int→(List ai)→(List ai)→(List ai)→(List State)→Int→ab R):ab R:=
 sS N Age Charts Insts Chans Certs inst (fun C=>
 (at? Insts C).bind fun I=>
 zc N Age Charts Insts Chans Certs I.Chart (fun J=>
 (at? Charts J).bind fun j=>
 o j.Name j.Steps j.Fuel j.Vars j.Ports j.Timers j.States j.At))
def Ww(N:Nat):FD E0:={f:=99,fn:=Tryz.f99,q:=⟨[y18,.st],[]⟩,g:=[zU N,HS N],exit:=[(⟨4,[3]⟩,.tree .named),(⟨4,[4]⟩,.tree .named),(⟨4,[5]⟩,.tree .named),(⟨4,[6]⟩,.tree .state)]}
def Kb(N:Nat):OC E0:=⟨_,FD.ct e0 (Ww N) N (fun R k a b c d e g=>tK N a b c d e g (oK ⟨y12,[],[]⟩ k))⟩
def rY(N:Nat)(C:Int)(I J:ae)(j9:Int)(k5:List Chart)(k7:List Inst)(o:List ak)(k8:List Cert)(U:ab R)(b9:Bool→ab R)(rec:Int→ab R)(j:Int):ab R:=
 if(decide (j<C))=true then
 ((at? o j).bind fun j6=>
 (ifB (j6.From==I) true ((at? o j).bind fun j7=>
 some (j7.Port==J)) (some false)).bind fun j8=>
 if j8=true then
 (b9 true)
 else
 (rec (IntKind.wrap .i64 (j+1))))
 else
 (U )
def pD(N:Nat)(j:Int)(o C:ae)(I:Int)(J:List Chart)(U:List Inst)(b9:List ak)(j6:List Cert)(j7:ab R)(j8:Bool→ab R):Nat→Int→ab R
 |0=>fun _=>none
 |n+1=>fun j9=>rY N j o C I J U b9 j6 j7 j8 (pD N j o C I J U b9 j6 j7 j8 n) j9
def BR(N:Nat)(Age:Int)(Charts:List Chart)(Insts:List Inst)(Chans:List ak)(Certs:List Cert)(n_:Int)(inst port:ae)(j:Bool→ab R):ab R:=
 pD N n_ inst port Age Charts Insts Chans Certs (j false)
 (fun y13=>
 j y13) N 0
def Rp(N:Nat):FD E0:={f:=100,fn:=Tryz.f100,q:=⟨[y18,.i .i64,.st,.st],[]⟩,loops:=[{cur:=0,live:=[1,2,3,4,9],out:=fun | .exit 0=>([],[]) | .ret=>([8],[])|_=>([],[]),q:=⟨[.i .i64,.st,.st,.p 0 0 0,.i .i64],[z38]⟩,G:=fun R K n a b c d e g h i j=>pD N a b c e g h i j (pK ⟨[],[]⟩ (K (.exit 0))) (pK ⟨[.b],[]⟩ (K .ret)) n d,B:=fun R K rec a b c d e g h i j=>rY N a b c e g h i j (pK ⟨[],[]⟩ (K (.exit 0))) (pK ⟨[.b],[]⟩ (K .ret)) (fun d=>rec a b c d e g h i j) d}]}
def Rq(N:Nat):OC E0:=⟨_,FD.ct e0 (Rp N) N (fun R k a b c d e g h i=>BR N a b c d e g h i (oK ⟨.b,[],[]⟩ k))⟩
end
end So
