/- T3_2: a part of the proof of SoundSpoilt: lemmas on the evaluator and on the functions that the law reaches. -/
import Derived.Test.YtcllbmdpckfnhaaGreatT3x1
set_option maxRecDepth 100000
set_option linter.unusedVariables false
namespace So
open Go TE Go.Proofs
noncomputable section
variable{R:Type}
def ga(F:ba)(N:Nat)(J:List Expr)(U b9:Int)(j6:List Chart)(j7:List Inst)(j8:List ak)(j9:List Cert)(k5:List State)(k7:ae)(k8 k9:Int)(l7 l9 m0:List ai)(m3:List State)(m4:Int)(m5:Int→Int→ab R)(rec:Int→Int→Int→ab R)(o C I:Int):ab R:=
 if(decide (o<U))=true then
 ((at? J o).bind fun j=>
 F.sound_checker_expr _ k7 k8 k9 l7 l9 m0 m3 m4 j.Kind j.N j.Name j.Kids j.At b9 j6 j7 j8 j9 C I k5 (fun m6 m7=>
 rec (IntKind.wrap .i64 (o+1)) m6 m7))
 else
 (m5 C I)
def dv(F:ba)(N:Nat)(j:List Expr)(o C:Int)(I:List Chart)(J:List Inst)(U:List ak)(b9:List Cert)(j6:List State)(j7:ae)(j8 j9:Int)(k5 k7 k8:List ai)(k9:List State)(l7:Int)(l9:Int→Int→ab R):Nat→Int→Int→Int→ab R
 |0=>fun _ _ _=>none
 |n+1=>fun m0 m3 m4=>ga F N j o C I J U b9 j6 j7 j8 j9 k5 k7 k8 k9 l7 l9 (dv F N j o C I J U b9 j6 j7 j8 j9 k5 k7 k8 k9 l7 l9 n) m0 m3 m4
def dw(F:ba)(N:Nat)(o:Int)(C:List Chart)(I:List Inst)(J:List ak)(U:List Cert)(b9 j6:Int)(j7:List State)(j8:ae)(j9 k5:Int)(k7 k8 k9:List ai)(l7:List State)(l9 m5 m6:Int)(m7:ae)(j:List Expr)(m8:Int)(m0:Int→Int→ab R):ab R:=
 dv F N j ((j.length:Nat):Int) o C I J U j7 j8 j9 k5 k7 k8 k9 l7 l9 (fun m3 m4=>
 m0 m3 m4) N 0 b9 j6
def fK(F:ba)(N:Nat)(Name:ae)(Steps Fuel:Int)(Vars Ports Timers:List ai)(States:List State)(At Kind N_:Int)(o:ae)(Kids:List Expr)(C Age:Int)(Charts:List Chart)(Insts:List Inst)(Chans:List ak)(Certs:List Cert)(Code I:Int)(l:List State)(J:Int→Int→ab R):ab R:=
 if(Kind==2)=true then
 (bN N Vars o (fun U=>
 aj N (decide (U≥0)) 7 C Age Charts Insts Chans Certs Code I (fun r2 r3=>
 dw F N Age Charts Insts Chans Certs r2 r3 l Name Steps Fuel Vars Ports Timers States At Kind N_ o Kids C (fun j7 j8=>
 J j7 j8))))
 else
 (if(Kind==4)=true then
 (dR N o l (fun j=>
 (ifB (decide (j≥0)) true (if(0:Int)≤(if(0>j) then 0 else j)∧(if(0>j) then 0 else j)<(l.length:Int) then(match l[(if(0>j) then 0 else j).toNat]? with
 |some e52=>(eh N e52.Kind e52.Name e52.Entry e52.Exit e52.Trans e52.Kids e52.At (fun j9=>
 some (!j9)))
 |none=>none) else none) (some false)).bind fun k5=>
 aj N k5 7 C Age Charts Insts Chans Certs Code I (fun k7 k8=>
 dw F N Age Charts Insts Chans Certs k7 k8 l Name Steps Fuel Vars Ports Timers States At Kind N_ o Kids C (fun k9 l7=>
 J k9 l7))))
 else
 (dw F N Age Charts Insts Chans Certs Code I l Name Steps Fuel Vars Ports Timers States At Kind N_ o Kids C (fun l9 m0=>
 J l9 m0)))
def mn(F:ba)(hF:iO F)(N:Nat):FD E0:={f:=129,fn:=Tryz.f129,q:=sH,loops:=[{cur:=1,live:=[0,2,5,47,48,49],out:=fun | .exit 1=>([],[])|_=>([],[]),q:=⟨[.p 0 0 0,.sw 1,.p 2 0 0,.t .expr,.i .i64,.i .i64],[z34,.rw .state .own,z19]⟩,G:=fun R K n a b c d e g h i j l m o p q s t u v w=>dv F N a b d e g h i m o p q s t u v w (fun x y=>pK ⟨[],[z34,.rw .state .own]⟩ (K (.exit 1)) d e g h i x y m) n c j l,B:=fun R K rec a b c d e g h i j l m o p q s t u v w=>ga F N a b d e g h i m o p q s t u v w (fun x y=>pK ⟨[],[z34,.rw .state .own]⟩ (K (.exit 1)) d e g h i x y m) (fun c j l=>rec a b c d e g h i j l m o p q s t u v w) c j l}],cuts:=[{key:=7,live:=[0,2,5,7],out:=fun | .normal=>([],[])|_=>([],[]),q:=⟨[.p 0 0 0,.sw 1,.p 2 0 0,.p 3 0 0],[z34,.rw .state .own,z19,z7]⟩,G:=fun R K a b c d e g h i j l m o p q s t u v w x y=>dw F N a b c d e g h i j l m o p q s t u v w x y (fun z a1=>pK ⟨[],[z34,.rw .state .own]⟩ (K .normal) a b c d e z a1 i)}],g:=[bc N,iS N,kc N,mj N,⟨ml F,hF.sound_checker_expr⟩]}
theorem zJ(F:ba)(hF:iO F)(N:Nat):Ct.ok E0 ⟨(mn F hF N).f,(mn F hF N).q,fun R k a b c d e g h i j l m o p q s t u v w x y=>fK F N a b c d e g h i j l m o p q s t u v w x y (fun z a1=>oK ⟨.tp [],[z34,.rw .state .own],[]⟩ k q s t u v z a1 y)⟩:=FD.ct e0 (mn F hF N) N (fun R k a b c d e g h i j l m o p q s t u v w x y=>fK F N a b c d e g h i j l m o p q s t u v w x y (fun z a1=>oK ⟨.tp [],[z34,.rw .state .own],[]⟩ k q s t u v z a1 y))
def ug(F:ba)(N:Nat):ba where
 sound_checker_expr:=fun R Name Steps Fuel Vars Ports Timers States At Kind N_ j Kids o Age Charts Insts Chans Certs Code C l I=>fK F N Name Steps Fuel Vars Ports Timers States At Kind N_ j Kids o Age Charts Insts Chans Certs Code C l I
def bg(N:Nat):Nat→ba
 |0=>{sound_checker_expr:=fun _ _ _ _ _ _ _ _ _ _ _ _ _ _ _ _ _ _ _ _ _ _ _=>none}
 |d+1=>ug (bg N d) N
theorem kR(N:Nat):∀d,iO (bg N d)
 |0=>{sound_checker_expr:=Ct.ok_none}
 |d+1=>{sound_checker_expr:=zJ _ (kR N d) N}
def sound_checker_expr(N:Nat)(Name:ae)(Steps Fuel:Int)(Vars Ports Timers:List ai)(States:List State)(At Kind N_:Int)(j:ae)(Kids:List Expr)(o Age:Int)(Charts:List Chart)(Insts:List Inst)(Chans:List ak)(Certs:List Cert)(Code C:Int)(l:List State)(I:Int→Int→ab R):ab R:=(bg N N).sound_checker_expr R Name Steps Fuel Vars Ports Timers States At Kind N_ j Kids o Age Charts Insts Chans Certs Code C l I
theorem AG(N d:Nat)(Name:ae)(Steps Fuel:Int)(Vars Ports Timers:List ai)(States:List State)(At Kind N_:Int)(Name_2:ae)(Kids:List Expr)(At_2 Age:Int)(Charts:List Chart)(Insts:List Inst)(Chans:List ak)(Certs:List Cert)(Code At_3:Int)(l:List State)(k0:Int→Int→ab R):(bg N (d+1)).sound_checker_expr R Name Steps Fuel Vars Ports Timers States At Kind N_ Name_2 Kids At_2 Age Charts Insts Chans Certs Code At_3 l k0=fK (bg N d) N Name Steps Fuel Vars Ports Timers States At Kind N_ Name_2 Kids At_2 Age Charts Insts Chans Certs Code At_3 l k0:=rfl
def sI(N:Nat):OC E0:=⟨ml (bg N N),(kR N N).sound_checker_expr⟩
structure aK where
 sound_checker_acts:(R:Type)→ae→Int→Int→(List ai)→(List ai)→(List ai)→(List State)→Int→(List Act)→Int→(List Chart)→(List Inst)→(List ak)→(List Cert)→Int→Int→(List State)→(Int→Int→ab R)→ab R
def sJ:Pat S:=⟨[.p 0 0 0,y12,.sw 1,.t .act],[z34,.rw .state .own]⟩
def mo(F:aK):Ct S:=⟨66,sJ,fun R k a b c d e g h i j l m o p q s t u=>F.sound_checker_acts R a b c d e g h i j l m o p q s t u (fun v w=>oK ⟨.tp [],[z34,.rw .state .own],[]⟩ k l m o p q v w u)⟩
structure iP(F:aK):Prop where
 sound_checker_acts:(mo F).ok E0
def gf(F:aK)(N:Nat)(m8:List Act)(m9 n9:Int)(J:List Expr)(U b9:Int)(j6:List Chart)(j7:List Inst)(j8:List ak)(j9:List Cert)(k5:List State)(k7:ae)(k8 k9:Int)(l7 l9 m0:List ai)(m3:List State)(m4 o0:Int)(o5 o6:ae)(o7:List Expr)(o8:Int)(o9 p5:List Act)(p6:Int)(m5:Int→Int→ab R)(rec:Int→Int→Int→ab R)(o C I:Int):ab R:=
 if(decide (o<U))=true then
 ((at? J o).bind fun j=>
 sound_checker_expr N k7 k8 k9 l7 l9 m0 m3 m4 j.Kind j.N j.Name j.Kids j.At b9 j6 j7 j8 j9 C I k5 (fun m6 m7=>
 rec (IntKind.wrap .i64 (o+1)) m6 m7))
 else
 (m5 C I)
def dy(F:aK)(N:Nat)(j:List Act)(o C:Int)(I:List Expr)(J U:Int)(b9:List Chart)(j6:List Inst)(j7:List ak)(j8:List Cert)(j9:List State)(k5:ae)(k7 k8:Int)(k9 l7 l9:List ai)(m0:List State)(m3 m4:Int)(m5 m6:ae)(m7:List Expr)(m8:Int)(m9 n9:List Act)(o0:Int)(o5:Int→Int→ab R):Nat→Int→Int→Int→ab R
 |0=>fun _ _ _=>none
 |n+1=>fun o6 o7 o8=>gf F N j o C I J U b9 j6 j7 j8 j9 k5 k7 k8 k9 l7 l9 m0 m3 m4 m5 m6 m7 m8 m9 n9 o0 o5 (dy F N j o C I J U b9 j6 j7 j8 j9 k5 k7 k8 k9 l7 l9 m0 m3 m4 m5 m6 m7 m8 m9 n9 o0 o5 n) o6 o7 o8
def cw(F:aK)(N:Nat)(m5:Bool)(m6:List Act)(m7 m8 j:Int)(o:List Chart)(C:List Inst)(I:List ak)(J:List Cert)(m9 n9:Int)(U:List State)(b9:ae)(j6 j7:Int)(j8 j9 k5:List ai)(k7:List State)(k8 l9:Int)(o0 o5:ae)(k9:List Expr)(m0:Int)(m3 m4:List Act)(l7:Int)(o6:Int→Int→ab R):ab R:=
 aj N m5 7 l7 j o C I J m9 n9 (fun o7 o8=>
 (ifB (l9 != 7) false (dL N m0 1 16 (fun o9=>
 some o9)) (some true)).bind fun p5=>
 aj N p5 16 l7 j o C I J o7 o8 (fun p6 p7=>
 dy F N m6 m7 m8 k9 ((k9.length:Nat):Int) j o C I J U b9 j6 j7 j8 j9 k5 k7 k8 l9 o0 o5 k9 m0 m3 m4 l7 (fun p8 p9=>
 F.sound_checker_acts _ b9 j6 j7 j8 j9 k5 k7 k8 m3 j o C I J p8 p9 U (fun q8 q9=>
 F.sound_checker_acts _ b9 j6 j7 j8 j9 k5 k7 k8 m4 j o C I J q8 q9 U (fun s8 s9=>
 o6 s8 s9))) N 0 p6 p7))
def ew(F:aK)(N:Nat)(o:Bool)(b9:List Act)(j6 j7:Int)(C:Bool)(j8:Int)(j9:List Chart)(k5:List Inst)(k7:List ak)(k8:List Cert)(k9 l7:Int)(l9:List State)(m0:ae)(m3 m4:Int)(m5 m6 I:List ai)(m7:List State)(m8 m9:Int)(J n9:ae)(o0:List Expr)(o5:Int)(o6 o7:List Act)(o8:Int)(j:Bool→ab R):ab R:=
 if C=true then
 (bN N I J (fun U=>
 j (decide (U≥0))))
 else
 (j o)
def gg(F:aK)(N:Nat)(C:List Act)(I j7:Int)(j8:List Chart)(j9:List Inst)(k5:List ak)(k7:List Cert)(k8:List State)(k9:ae)(l7 l9:Int)(J U m0:List ai)(m3:List State)(m4:Int)(m5:Int→Int→ab R)(rec:Int→Int→Int→ab R)(o b9 j6:Int):ab R:=
 if(decide (o<I))=true then
 ((at? C o).bind fun j=>
 if(j.Kind==1)=true then
 (bN N J j.Name (fun m6=>
 cw F N (decide (m6≥0)) C I o j7 j8 j9 k5 k7 b9 j6 k8 k9 l7 l9 J U m0 m3 m4 j.Kind j.Name j.Event j.X j.N j.Then j.Else j.At (fun m7 m8=>
 rec (IntKind.wrap .i64 (o+1)) m7 m8)))
 else
 (if(j.Kind==3)=true then
 (bN N U j.Name (fun m9=>
 cw F N (decide (m9≥0)) C I o j7 j8 j9 k5 k7 b9 j6 k8 k9 l7 l9 J U m0 m3 m4 j.Kind j.Name j.Event j.X j.N j.Then j.Else j.At (fun n9 o0=>
 rec (IntKind.wrap .i64 (o+1)) n9 o0)))
 else
 (if(j.Kind==4)=true then
 (ew F N true C I o (j.Kind==4) j7 j8 j9 k5 k7 b9 j6 k8 k9 l7 l9 J U m0 m3 m4 j.Kind j.Name j.Event j.X j.N j.Then j.Else j.At (fun o5=>
 cw F N o5 C I o j7 j8 j9 k5 k7 b9 j6 k8 k9 l7 l9 J U m0 m3 m4 j.Kind j.Name j.Event j.X j.N j.Then j.Else j.At (fun o6 o7=>
 rec (IntKind.wrap .i64 (o+1)) o6 o7)))
 else
 (ew F N true C I o (j.Kind==5) j7 j8 j9 k5 k7 b9 j6 k8 k9 l7 l9 J U m0 m3 m4 j.Kind j.Name j.Event j.X j.N j.Then j.Else j.At (fun o8=>
 cw F N o8 C I o j7 j8 j9 k5 k7 b9 j6 k8 k9 l7 l9 J U m0 m3 m4 j.Kind j.Name j.Event j.X j.N j.Then j.Else j.At (fun o9 p5=>
 rec (IntKind.wrap .i64 (o+1)) o9 p5))))))
 else
 (m5 b9 j6)
def dz(F:aK)(N:Nat)(j:List Act)(o C:Int)(I:List Chart)(J:List Inst)(U:List ak)(b9:List Cert)(j6:List State)(j7:ae)(j8 j9:Int)(k5 k7 k8:List ai)(k9:List State)(l7:Int)(l9:Int→Int→ab R):Nat→Int→Int→Int→ab R
 |0=>fun _ _ _=>none
 |n+1=>fun m0 m3 m4=>gg F N j o C I J U b9 j6 j7 j8 j9 k5 k7 k8 k9 l7 l9 (dz F N j o C I J U b9 j6 j7 j8 j9 k5 k7 k8 k9 l7 l9 n) m0 m3 m4
def fL(F:aK)(N:Nat)(Name:ae)(Steps Fuel:Int)(Vars Ports Timers:List ai)(States:List State)(At:Int)(acts:List Act)(Age:Int)(Charts:List Chart)(Insts:List Inst)(Chans:List ak)(Certs:List Cert)(Code j:Int)(l:List State)(o:Int→Int→ab R):ab R:=
 dz F N acts ((acts.length:Nat):Int) Age Charts Insts Chans Certs l Name Steps Fuel Vars Ports Timers States At (fun C I=>
 o C I) N 0 Code j
def mq(F:aK)(hF:iP F)(N:Nat):FD E0:={f:=66,fn:=Tryz.f66,q:=sJ,loops:=[{cur:=3,live:=[0,2,5,9,13,14,15,64,65,66],out:=fun | .exit 3=>([0,2,5,9,13,14,15],[])|_=>([],[]),q:=⟨[.p 0 0 0,.sw 1,.p 2 0 0,.p 3 0 0,.t .act,.i .i64,.i .i64,.t .expr,.i .i64,.i .i64],[z34,.rw .state .own,z19,z10]⟩,G:=fun R K n a b c d e g h i j l m o p q s t u v w x y z a1 b1 c1 d1 e1 g1 h1 i1=>dy F N a b c d e h i j l m q s t u v w x y z a1 b1 c1 d1 e1 g1 h1 i1 (fun j1 l1=>pK ⟨[.p 0 0 0,.sw 1,.p 2 0 0,.p 3 0 0,.t .act,.i .i64,.i .i64],[z34,.rw .state .own,z19,z10]⟩ (K (.exit 3)) a b c h i j l m j1 l1 q s t u v w x y z a1 b1 c1 d1 e1 g1 h1 i1) n g o p,B:=fun R K rec a b c d e g h i j l m o p q s t u v w x y z a1 b1 c1 d1 e1 g1 h1 i1=>gf F N a b c d e h i j l m q s t u v w x y z a1 b1 c1 d1 e1 g1 h1 i1 (fun j1 l1=>pK ⟨[.p 0 0 0,.sw 1,.p 2 0 0,.p 3 0 0,.t .act,.i .i64,.i .i64],[z34,.rw .state .own,z19,z10]⟩ (K (.exit 3)) a b c h i j l m j1 l1 q s t u v w x y z a1 b1 c1 d1 e1 g1 h1 i1) (fun g o p=>rec a b c d e g h i j l m o p q s t u v w x y z a1 b1 c1 d1 e1 g1 h1 i1) g o p},{cur:=0,live:=[0,2,5,13,14,15],out:=fun | .exit 0=>([],[])|_=>([],[]),q:=⟨[.p 0 0 0,.sw 1,.p 2 0 0,.t .act,.i .i64,.i .i64],[z34,.rw .state .own,z19]⟩,G:=fun R K n a b c d e g h i j l m o p q s t u v w=>dz F N a b d e g h i m o p q s t u v w (fun x y=>pK ⟨[],[z34,.rw .state .own]⟩ (K (.exit 0)) d e g h i x y m) n c j l,B:=fun R K rec a b c d e g h i j l m o p q s t u v w=>gg F N a b d e g h i m o p q s t u v w (fun x y=>pK ⟨[],[z34,.rw .state .own]⟩ (K (.exit 0)) d e g h i x y m) (fun c j l=>rec a b c d e g h i j l m o p q s t u v w) c j l}],cuts:=[{key:=13,live:=[0,2,5,9,10,13,14,15],out:=fun | .normal=>([0,2,5,13,14,15],[])|_=>([],[]),q:=⟨[.p 0 0 0,.sw 1,.p 2 0 0,.p 3 0 0,.b,.t .act,.i .i64,.i .i64],[z34,.rw .state .own,z19,z10]⟩,G:=fun R K a b c d e g h i j l m o p q s t u v w x y z a1 b1 c1 d1 e1 g1=>cw F N a b c d e g h i j l m o p q s t u v w x y z a1 b1 c1 d1 e1 g1 (fun h1 i1=>pK ⟨[.p 0 0 0,.sw 1,.p 2 0 0,.t .act,.i .i64,.i .i64],[z34,.rw .state .own,z19]⟩ (K .normal) b c d e g h i j h1 i1 o p q s t u v w x)},{key:=12,live:=[0,2,5,9,10,13,14,15,37],out:=fun | .normal=>([0,2,5,9,10,13,14,15],[])|_=>([],[]),q:=⟨[.p 0 0 0,.sw 1,.p 2 0 0,.p 3 0 0,.b,.t .act,.i .i64,.i .i64,.b],[z34,.rw .state .own,z19,z10]⟩,G:=fun R K a b c d e g h i j l m o p q s t u v w x y z a1 b1 c1 d1 e1 g1 h1=>ew F N a b c d e g h i j l m o p q s t u v w x y z a1 b1 c1 d1 e1 g1 h1 (fun i1=>pK ⟨[.p 0 0 0,.sw 1,.p 2 0 0,.p 3 0 0,.b,.t .act,.i .i64,.i .i64],[z34,.rw .state .own,z19,z10]⟩ (K .normal) i1 b c d g h i j l m o p q s t u v w x y z a1 b1 c1 d1 e1 g1 h1)}],g:=[bc N,mi N,⟨mo F,hF.sound_checker_acts⟩,kc N,sI N]}
theorem zK(F:aK)(hF:iP F)(N:Nat):Ct.ok E0 ⟨(mq F hF N).f,(mq F hF N).q,fun R k a b c d e g h i j l m o p q s t u=>fL F N a b c d e g h i j l m o p q s t u (fun v w=>oK ⟨.tp [],[z34,.rw .state .own],[]⟩ k l m o p q v w u)⟩:=FD.ct e0 (mq F hF N) N (fun R k a b c d e g h i j l m o p q s t u=>fL F N a b c d e g h i j l m o p q s t u (fun v w=>oK ⟨.tp [],[z34,.rw .state .own],[]⟩ k l m o p q v w u))
def uh(F:aK)(N:Nat):aK where
 sound_checker_acts:=fun R Name Steps Fuel Vars Ports Timers States At acts Age Charts Insts Chans Certs Code j l o=>fL F N Name Steps Fuel Vars Ports Timers States At acts Age Charts Insts Chans Certs Code j l o
def aH(N:Nat):Nat→aK
 |0=>{sound_checker_acts:=fun _ _ _ _ _ _ _ _ _ _ _ _ _ _ _ _ _ _ _=>none}
 |d+1=>uh (aH N d) N
theorem kS(N:Nat):∀d,iP (aH N d)
 |0=>{sound_checker_acts:=Ct.ok_none}
 |d+1=>{sound_checker_acts:=zK _ (kS N d) N}
def sound_checker_acts(N:Nat)(Name:ae)(Steps Fuel:Int)(Vars Ports Timers:List ai)(States:List State)(At:Int)(acts:List Act)(Age:Int)(Charts:List Chart)(Insts:List Inst)(Chans:List ak)(Certs:List Cert)(Code j:Int)(l:List State)(o:Int→Int→ab R):ab R:=(aH N N).sound_checker_acts R Name Steps Fuel Vars Ports Timers States At acts Age Charts Insts Chans Certs Code j l o
theorem AH(N d:Nat)(Name:ae)(Steps Fuel:Int)(Vars Ports Timers:List ai)(States:List State)(At:Int)(acts:List Act)(Age:Int)(Charts:List Chart)(Insts:List Inst)(Chans:List ak)(Certs:List Cert)(Code At_2:Int)(l:List State)(k0:Int→Int→ab R):(aH N (d+1)).sound_checker_acts R Name Steps Fuel Vars Ports Timers States At acts Age Charts Insts Chans Certs Code At_2 l k0=fL (aH N d) N Name Steps Fuel Vars Ports Timers States At acts Age Charts Insts Chans Certs Code At_2 l k0:=rfl
def sK(N:Nat):OC E0:=⟨mo (aH N N),(kS N N).sound_checker_acts⟩
def fo(N:Nat)(J:List Expr)(U b9:Int)(j6:List Chart)(j7:List Inst)(j8:List ak)(j9:List Cert)(k5:List State)(k7:ae)(k8 k9:Int)(l7 l9 m0:List ai)(m3:List State)(m4:Int)(m8:ae)(m9:List Expr)(n9:ae)(o0:List Act)(o5:Int)(m5:Int→Int→ab R)(rec:Int→Int→Int→ab R)(o C I:Int):ab R:=
 if(decide (o<U))=true then
 ((at? J o).bind fun j=>
 sound_checker_expr N k7 k8 k9 l7 l9 m0 m3 m4 j.Kind j.N j.Name j.Kids j.At b9 j6 j7 j8 j9 C I k5 (fun m6 m7=>
 rec (IntKind.wrap .i64 (o+1)) m6 m7))
 else
 (m5 C I)
def de(N:Nat)(j:List Expr)(o C:Int)(I:List Chart)(J:List Inst)(U:List ak)(b9:List Cert)(j6:List State)(j7:ae)(j8 j9:Int)(k5 k7 k8:List ai)(k9:List State)(l7:Int)(l9:ae)(m0:List Expr)(m3:ae)(m4:List Act)(m5:Int)(m6:Int→Int→ab R):Nat→Int→Int→Int→ab R
 |0=>fun _ _ _=>none
 |n+1=>fun m7 m8 m9=>fo N j o C I J U b9 j6 j7 j8 j9 k5 k7 k8 k9 l7 l9 m0 m3 m4 m5 m6 (de N j o C I J U b9 j6 j7 j8 j9 k5 k7 k8 k9 l7 l9 m0 m3 m4 m5 m6 n) m7 m8 m9
def jx(N:Nat)(Name:ae)(Steps Fuel:Int)(Vars Ports Timers:List ai)(States:List State)(At:Int)(Event:ae)(Guard:List Expr)(Target:ae)(Acts:List Act)(j n_ Age:Int)(Charts:List Chart)(Insts:List Inst)(Chans:List ak)(Certs:List Cert)(Code o:Int)(l:List State)(C:Int→Int→ab R):ab R:=
 aj N (decide (n_≤96)) 15 j Age Charts Insts Chans Certs Code o (fun I J=>
 (ifB (Target==([]:ae)) false (dR N Target l (fun U=>
 some (decide (U≥0)))) (some true)).bind fun c4=>
 aj N c4 7 j Age Charts Insts Chans Certs I J (fun r5 r6=>
 de N Guard ((Guard.length:Nat):Int) Age Charts Insts Chans Certs l Name Steps Fuel Vars Ports Timers States At Event Guard Target Acts j (fun j8 j9=>
 sound_checker_acts N Name Steps Fuel Vars Ports Timers States At Acts Age Charts Insts Chans Certs j8 j9 l (fun k5 k7=>
 C k5 k7)) N 0 r5 r6))
def AI(N:Nat):FD E0:={f:=67,fn:=Tryz.f67,q:=⟨[.p 0 0 0,y12,.sw 1,y11,.i .i64],[z34,.rw .state .own]⟩,loops:=[{cur:=0,live:=[0,2,6,8,33,34,35],out:=fun | .exit 0=>([0,2,6,8],[])|_=>([],[]),q:=⟨[.p 0 0 0,.sw 1,.p 2 0 0,.p 3 0 0,.t .expr,.i .i64,.i .i64],[z34,.rw .state .own,z19,z13]⟩,G:=fun R K n a b c d e g h i j l m o p q s t u v w x y z a1 b1=>de N a b d e g h i m o p q s t u v w x y z a1 b1 (fun c1 d1=>pK ⟨[.p 0 0 0,.sw 1,.p 2 0 0,.p 3 0 0],[z34,.rw .state .own,z19,z13]⟩ (K (.exit 0)) d e g h i c1 d1 m o p q s t u v w x y z a1 b1) n c j l,B:=fun R K rec a b c d e g h i j l m o p q s t u v w x y z a1 b1=>fo N a b d e g h i m o p q s t u v w x y z a1 b1 (fun c1 d1=>pK ⟨[.p 0 0 0,.sw 1,.p 2 0 0,.p 3 0 0],[z34,.rw .state .own,z19,z13]⟩ (K (.exit 0)) d e g h i c1 d1 m o p q s t u v w x y z a1 b1) (fun c j l=>rec a b c d e g h i j l m o p q s t u v w x y z a1 b1) c j l}],g:=[bc N,sK N,mj N,sI N]}
def AJ(N:Nat):OC E0:=⟨_,FD.ct e0 (AI N) N (fun R k a b c d e g h i j l m o p q s t u v w x y z=>jx N a b c d e g h i j l m o p q s t u v w x y z (fun a1 b1=>oK ⟨.tp [],[z34,.rw .state .own],[]⟩ k s t u v w a1 b1 z))⟩
def fp(N:Nat)(m9 n9:Int)(U:List Trans)(b9 j6:Int)(j7:List Chart)(j8:List Inst)(j9:List ak)(k5:List Cert)(k7:ae)(k8 k9:Int)(l7 l9 m0:List ai)(m3:List State)(m4:Int)(m5:List State)(m6:Int→Int→Int→ab R)(rec:Int→Int→Int→Int→ab R)(o C I J:Int):ab R:=
 if(decide (C<b9))=true then
 ((at? U C).bind fun j=>
 jx N k7 k8 k9 l7 l9 m0 m3 m4 j.Event j.Guard j.Target j.Acts j.At (IntKind.wrap .i64 (o+1)) j6 j7 j8 j9 k5 I J m5 (fun m7 m8=>
 rec (IntKind.wrap .i64 (o+1)) (IntKind.wrap .i64 (C+1)) m7 m8))
 else
 (m6 o I J)
def df(N:Nat)(j o:Int)(C:List Trans)(I J:Int)(U:List Chart)(b9:List Inst)(j6:List ak)(j7:List Cert)(j8:ae)(j9 k5:Int)(k7 k8 k9:List ai)(l7:List State)(l9:Int)(m0:List State)(m3:Int→Int→Int→ab R):Nat→Int→Int→Int→Int→ab R
 |0=>fun _ _ _ _=>none
 |n+1=>fun m4 m5 m6 m7=>fp N j o C I J U b9 j6 j7 j8 j9 k5 k7 k8 k9 l7 l9 m0 m3 (df N j o C I J U b9 j6 j7 j8 j9 k5 k7 k8 k9 l7 l9 m0 m3 n) m4 m5 m6 m7
def fq(N:Nat)(m3 I:Int)(J:List Chart)(U:List Inst)(b9:List ak)(j6:List Cert)(j7:ae)(j8 j9:Int)(k5 k7 k8:List ai)(k9:List State)(l7:Int)(C:List State)(m5:Int→Int→ab R)(rec:Int→Int→Int→Int→ab R)(m4 o l9 m0:Int):ab R:=
 if(decide (o<m3))=true then
 (if(0:Int)≤o∧o<(C.length:Int) then(match C[o.toNat]? with
 |some j=>(eh N j.Kind j.Name j.Entry j.Exit j.Trans j.Kids j.At (fun m6=>
 if m6=true then
 (rec m4 (IntKind.wrap .i64 (o+1)) l9 m0)
 else
 (sound_checker_acts N j7 j8 j9 k5 k7 k8 k9 l7 j.Entry I J U b9 j6 l9 m0 C (fun m7 m8=>
 sound_checker_acts N j7 j8 j9 k5 k7 k8 k9 l7 j.Exit I J U b9 j6 m7 m8 C (fun m9 n9=>
 df N m3 o j.Trans ((j.Trans.length:Nat):Int) I J U b9 j6 j7 j8 j9 k5 k7 k8 k9 l7 C (fun o0 o5 o6=>
 rec o0 (IntKind.wrap .i64 (o+1)) o5 o6) N m4 0 m9 n9)))))
 |none=>none) else none)
 else
 (m5 l9 m0)
def bo(N:Nat)(j o:Int)(C:List Chart)(I:List Inst)(J:List ak)(U:List Cert)(b9:ae)(j6 j7:Int)(j8 j9 k5:List ai)(k7:List State)(k8:Int)(k9:List State)(l7:Int→Int→ab R):Nat→Int→Int→Int→Int→ab R
 |0=>fun _ _ _ _=>none
 |n+1=>fun l9 m0 m3 m4=>fq N j o C I J U b9 j6 j7 j8 j9 k5 k7 k8 k9 l7 (bo N j o C I J U b9 j6 j7 j8 j9 k5 k7 k8 k9 l7 n) l9 m0 m3 m4
def ki(N:Nat)(j:Int)(o:List Chart)(C:List Inst)(I:List ak)(J:List Cert)(j9 k5:Int)(k7:ae)(k8 k9:Int)(U b9 j6:List ai)(j7:List State)(l7:Int)(l9:Int→Int→ab R):ab R:=
 eP N U 8 j o C I J j9 k5 (fun m0 m3=>
 eP N b9 6 j o C I J m0 m3 (fun m4 m5=>
 eP N j6 6 j o C I J m4 m5 (fun m6 m7=>
 kh N j7 true j o C I J m6 m7 (fun m8 m9 j8=>
 bo N ((j8.length:Nat):Int) j o C I J k7 k8 k9 U b9 j6 j7 l7 j8 (fun n9 o0=>
 l9 n9 o0) N 0 0 m8 m9))))
def jy(N:Nat)(Name:ae)(Steps Fuel:Int)(Vars Ports Timers:List ai)(States:List State)(At Age:Int)(Charts:List Chart)(Insts:List Inst)(Chans:List ak)(Certs:List Cert)(Code j:Int)(o:Int→Int→ab R):ab R:=
 dL N Steps 2 16 (fun C=>
 (ifB C true (dL N Fuel 1 4096 (fun I=>
 some I)) (some false)).bind fun J=>
 aj N J 16 At Age Charts Insts Chans Certs Code j (fun U r5=>
 jb N States (fun r6=>
 aj N r6 7 At Age Charts Insts Chans Certs U r5 (fun r7 r8=>
 ki N Age Charts Insts Chans Certs r7 r8 Name Steps Fuel Vars Ports Timers States At (fun j9 k5=>
 o j9 k5)))))
def AK(N:Nat):FD E0:={f:=32,fn:=Tryz.f32,q:=⟨[.p 0 0 0,y12],[z34]⟩,loops:=[{cur:=2,live:=[0,3,4,5,45,46,47,66,67,68],out:=fun | .exit 2=>([0,3,4,5,45,46,47],[])|_=>([],[]),q:=⟨[.p 0 0 0,.p 1 0 0,.p 2 0 0,.i .i64,.sw 3,.i .i64,.i .i64,.t .trans,.i .i64,.i .i64],[z34,z19,.bx [.sw 3],.rw .state .own]⟩,G:=fun R K n a b c d e g h i j l m o p q s t u v w x y z=>df N b c d e h i j l m q s t u v w x y z (fun a1 b1 c1=>pK ⟨[.p 0 0 0,.p 1 0 0,.p 2 0 0,.i .i64,.sw 3,.i .i64,.i .i64],[z34,z19,.bx [.sw 3],.rw .state .own]⟩ (K (.exit 2)) a1 b c h i j l m b1 c1 q s t u v w x y z) n a g o p,B:=fun R K rec a b c d e g h i j l m o p q s t u v w x y z=>fp N b c d e h i j l m q s t u v w x y z (fun a1 b1 c1=>pK ⟨[.p 0 0 0,.p 1 0 0,.p 2 0 0,.i .i64,.sw 3,.i .i64,.i .i64],[z34,z19,.bx [.sw 3],.rw .state .own]⟩ (K (.exit 2)) a1 b c h i j l m b1 c1 q s t u v w x y z) (fun a g o p=>rec a b c d e g h i j l m o p q s t u v w x y z) a g o p},{cur:=0,live:=[0,3,4,5,45,46,47],out:=fun | .exit 0=>([],[])|_=>([],[]),q:=⟨[.p 0 0 0,.p 1 0 0,.p 2 0 0,.i .i64,.sw 3,.i .i64,.i .i64],[z34,z19,.bx [.sw 3],.rw .state .own]⟩,G:=fun R K n a b c d e g h i j l m o p q s t u v w=>bo N b d e g h i m o p q s t u v w (pK ⟨[],[z34]⟩ (K (.exit 0)) d e g h i) n a c j l,B:=fun R K rec a b c d e g h i j l m o p q s t u v w=>fq N b d e g h i m o p q s t u v w (pK ⟨[],[z34]⟩ (K (.exit 0)) d e g h i) (fun a c j l=>rec a b c d e g h i j l m o p q s t u v w) a c j l}],cuts:=[{key:=3,live:=[0,3],out:=fun | .normal=>([],[])|_=>([],[]),q:=⟨[.p 0 0 0,.p 1 0 0],[z34,z19]⟩,G:=fun R K a b c d e g h i j l m o p q s=>ki N a b c d e g h i j l m o p q s (pK ⟨[],[z34]⟩ (K .normal) a b c d e)}],g:=[bc N,mi N,vv N,AE N,By N,iS N,sK N,AJ N]}
def AL(N:Nat):OC E0:=⟨_,FD.ct e0 (AK N) N (fun R k a b c d e g h i j l m o p q s=>jy N a b c d e g h i j l m o p q s (oK ⟨.tp [],[z34],[]⟩ k j l m o p))⟩
def JU(N:Nat)(Name Chart_:ae)(Quantum Ext Prio At:Int)(j:ab R):ab R:=
 j 
def Hn(N:Nat):FD E0:={f:=69,fn:=Tryz.f69,q:=⟨[y14],[]⟩}
def yN(N:Nat):OC E0:=⟨_,FD.ct e0 (Hn N) N (fun R k a b c d e g=>JU N a b c d e g (oK ⟨.st,[],[]⟩ k a))⟩
def FK(N:Nat)(Name Chart_:ae)(Quantum Ext Prio At:Int)(j:ae)(o:Bool→ab R):ab R:=
 o (Name==j)
def Db(N:Nat):FD E0:={f:=166,fn:=Tryz.f166,q:=⟨[y14,.p 0 0 0,.p 1 0 0],[.bx [.fn 69 []],.bx [.st]]⟩,g:=[yN N]}
def Dc(N:Nat):OC E0:=⟨_,FD.ctq e0 (Db N) N (fun R k a b c d e g h=>FK N a b c d e g h (oQ ⟨.b,[],[]⟩ k))⟩
def ez(N:Nat)(o:List Inst)(C:Int)(I:ae)(J:ab R)(U:Int→ab R)(rec:Int→ab R)(j:Int):ab R:=
 if(decide (j<C))=true then
 ((at? o j).bind fun e5=>
 if(e5.Name==I)=true then
 (U j)
 else
 (rec (IntKind.wrap .i64 (j+1))))
 else
 (J )
def cE(N:Nat)(j:List Inst)(o:Int)(C:ae)(I:ab R)(J:Int→ab R):Nat→Int→ab R
 |0=>fun _=>none
 |n+1=>fun U=>ez N j o C I J (cE N j o C I J n) U
def iE(N:Nat)(s:List Inst)(o:ae)(j:Int→ab R):ab R:=
 cE N s ((s.length:Nat):Int) o (j (-1))
 (fun y6=>
 j y6) N 0
def yO(N:Nat):FD E0:={f:=165,fn:=Tryz.f165,q:=⟨[.t .inst,.fn 166 [.p 0 0 0,.p 1 0 0]],[.bx [.fn 69 []],.bx [.st]]⟩,loops:=[{cur:=0,live:=[0,1,7,8],out:=fun | .exit 0=>([],[]) | .ret=>([4],[])|_=>([],[]),q:=⟨[.t .inst,.fn 166 [.p 0 0 0,.p 1 0 0],.i .i64,.i .i64],[.bx [.fn 69 []],.bx [.st]]⟩,G:=fun R K n a b c d=>cE N a b d (pK ⟨[],[.bx [.fn 69 []],.bx [.st]]⟩ (K (.exit 0)) d) (fun e=>pK ⟨[.i .i64],[.bx [.fn 69 []],.bx [.st]]⟩ (K .ret) e d) n c,B:=fun R K rec a b c d=>ez N a b d (pK ⟨[],[.bx [.fn 69 []],.bx [.st]]⟩ (K (.exit 0)) d) (fun e=>pK ⟨[.i .i64],[.bx [.fn 69 []],.bx [.st]]⟩ (K .ret) e d) (fun c=>rec a b c d) c}],g:=[Dc N]}
def yP(N:Nat):OC E0:=⟨_,FD.ctq e0 (yO N) N (fun R k a b=>iE N a b (oQ ⟨.i .i64,[],[]⟩ k))⟩
def kT(N:Nat)(l:List Inst)(s:ae)(j:Int→ab R):ab R:=
 iE N l s (fun o=>
 j o)
def FL(N:Nat):FD E0:={f:=130,fn:=Tryz.f130,q:=⟨[.t .inst,.st,.fn 69 []],[]⟩,g:=[yP N]}
def xn(N:Nat):OC E0:=⟨_,FD.ct e0 (FL N) N (fun R k a b=>kT N a b (oK ⟨.i .i64,[],[]⟩ k))⟩
def mN(N:Nat)(l:List Inst)(Name Chart_:ae)(Quantum Ext Prio At:Int)(j:Bool→ab R):ab R:=
 kT N l Name (fun o=>
 j (decide (o≥0)))
def Ed(N:Nat):FD E0:={f:=68,fn:=Tryz.f68,q:=⟨[.t .inst,y14,.fn 69 []],[]⟩,g:=[yN N,xn N]}
def Ee(N:Nat):OC E0:=⟨_,FD.ct e0 (Ed N) N (fun R k a b c d e g h=>mN N a b c d e g h (oK ⟨.b,[],[]⟩ k))⟩
def kj(N:Nat)(i:Int)(Name Chart_:ae)(Quantum Ext Prio At Age:Int)(Charts:List Chart)(Insts:List Inst)(Chans:List ak)(Certs:List Cert)(Code j:Int)(o:Int→Int→ab R):ab R:=
 if(0:Int)≤0∧0≤i∧i≤((Insts.length:Nat):Int) then(mN N ((Insts.take i.toNat).drop (Int.toNat 0)) Name Chart_ Quantum Ext Prio At (fun C=>
 aj N (!C) 8 At Age Charts Insts Chans Certs Code j (fun I J=>
 fj N Charts Chart_ (fun U=>
 aj N (decide (U≥0)) 7 At Age Charts Insts Chans Certs I J (fun r5 r6=>
 dL N Quantum 1 65536 (fun r7=>
 (ifB r7 true (dL N Ext 0 32 (fun r8=>
 some r8)) (some false)).bind fun c9=>
 (ifB c9 true (dL N Prio 0 7 (fun k5=>
 some k5)) (some false)).bind fun k7=>
 aj N k7 16 At Age Charts Insts Chans Certs r5 r6 (fun k8 k9=>
 o k8 k9))))))) else none
def Bz(N:Nat):FD E0:={f:=33,fn:=Tryz.f33,q:=⟨[.p 0 0 0,.i .i64,y14],[z34]⟩,g:=[bc N,oX N,mi N,Ee N]}
def BA(N:Nat):OC E0:=⟨_,FD.ct e0 (Bz N) N (fun R k a b c d e g h i j l m o p q=>kj N a b c d e g h i j l m o p q (oK ⟨.tp [],[z34],[]⟩ k i j l m o))⟩
def JV(N:Nat)(Name From Port To:ae)(Cap Prio At:Int)(j:ab R):ab R:=
 j 
def Ho(N:Nat):FD E0:={f:=71,fn:=Tryz.f71,q:=⟨[y15],[]⟩}
def yQ(N:Nat):OC E0:=⟨_,FD.ct e0 (Ho N) N (fun R k a b c d e g h=>JV N a b c d e g h (oK ⟨.st,[],[]⟩ k a))⟩
def FM(N:Nat)(Name From Port To:ae)(Cap Prio At:Int)(j:ae)(o:Bool→ab R):ab R:=
 o (Name==j)
def Dd(N:Nat):FD E0:={f:=139,fn:=Tryz.f139,q:=⟨[y15,.p 0 0 0,.p 1 0 0],[.bx [.fn 71 []],.bx [.st]]⟩,g:=[yQ N]}
def De(N:Nat):OC E0:=⟨_,FD.ctq e0 (Dd N) N (fun R k a b c d e g h i=>FM N a b c d e g h i (oQ ⟨.b,[],[]⟩ k))⟩
def eA(N:Nat)(o:List ak)(C:Int)(I:ae)(J:ab R)(U:Int→ab R)(rec:Int→ab R)(j:Int):ab R:=
 if(decide (j<C))=true then
 ((at? o j).bind fun e5=>
 if(e5.Name==I)=true then
 (U j)
 else
 (rec (IntKind.wrap .i64 (j+1))))
 else
 (J )
def cF(N:Nat)(j:List ak)(o:Int)(C:ae)(I:ab R)(J:Int→ab R):Nat→Int→ab R
 |0=>fun _=>none
 |n+1=>fun U=>eA N j o C I J (cF N j o C I J n) U
def iF(N:Nat)(s:List ak)(o:ae)(j:Int→ab R):ab R:=
 cF N s ((s.length:Nat):Int) o (j (-1))
 (fun y6=>
 j y6) N 0
def yR(N:Nat):FD E0:={f:=133,fn:=Tryz.f133,q:=⟨[.t .chan,.fn 139 [.p 0 0 0,.p 1 0 0]],[.bx [.fn 71 []],.bx [.st]]⟩,loops:=[{cur:=0,live:=[0,1,7,8],out:=fun | .exit 0=>([],[]) | .ret=>([4],[])|_=>([],[]),q:=⟨[.t .chan,.fn 139 [.p 0 0 0,.p 1 0 0],.i .i64,.i .i64],[.bx [.fn 71 []],.bx [.st]]⟩,G:=fun R K n a b c d=>cF N a b d (pK ⟨[],[.bx [.fn 71 []],.bx [.st]]⟩ (K (.exit 0)) d) (fun e=>pK ⟨[.i .i64],[.bx [.fn 71 []],.bx [.st]]⟩ (K .ret) e d) n c,B:=fun R K rec a b c d=>eA N a b d (pK ⟨[],[.bx [.fn 71 []],.bx [.st]]⟩ (K (.exit 0)) d) (fun e=>pK ⟨[.i .i64],[.bx [.fn 71 []],.bx [.st]]⟩ (K .ret) e d) (fun c=>rec a b c d) c}],g:=[De N]}
def yS(N:Nat):OC E0:=⟨_,FD.ctq e0 (yR N) N (fun R k a b=>iF N a b (oQ ⟨.i .i64,[],[]⟩ k))⟩
def gz(N:Nat)(l:List ak)(s:ae)(j:Int→ab R):ab R:=
 iF N l s (fun o=>
 j o)
def FN(N:Nat):FD E0:={f:=85,fn:=Tryz.f85,q:=⟨[.t .chan,.st,.fn 71 []],[]⟩,g:=[yS N]}
def qb(N:Nat):OC E0:=⟨_,FD.ct e0 (FN N) N (fun R k a b=>gz N a b (oK ⟨.i .i64,[],[]⟩ k))⟩
def mO(N:Nat)(l:List ak)(Name From Port To:ae)(Cap Prio At:Int)(j:Bool→ab R):ab R:=
 gz N l Name (fun o=>
 j (decide (o≥0)))
def Ef(N:Nat):FD E0:={f:=70,fn:=Tryz.f70,q:=⟨[.t .chan,y15,.fn 71 []],[]⟩,g:=[yQ N,qb N]}
def Eg(N:Nat):OC E0:=⟨_,FD.ct e0 (Ef N) N (fun R k a b c d e g h i=>mO N a b c d e g h i (oK ⟨.b,[],[]⟩ k))⟩
end
end So
