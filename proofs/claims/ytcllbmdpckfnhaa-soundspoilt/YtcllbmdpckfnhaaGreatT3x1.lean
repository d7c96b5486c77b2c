/- T3_1: a part of the proof of SoundSpoilt: lemmas on the evaluator and on the functions that the law reaches. -/
import Derived.Test.YtcllbmdpckfnhaaGreatT2x4
set_option maxRecDepth 100000
set_option linter.unusedVariables false
namespace So
open Go TE Go.Proofs
noncomputable section
variable{R:Type}
def z34:ShO S:=.bx [.i .i64,.t .chart,.t .inst,.t .chan,.t .cert,.i .i64,.i .i64]
def aj(N:Nat)(holds:Bool)(code at_ Age:Int)(Charts:List Chart)(Insts:List Inst)(Chans:List ak)(Certs:List Cert)(Code At:Int)(j:Int→Int→ab R):ab R:=
 (ifB (!holds) true (some (Code==0)) (some false)).bind fun o=>
 if o=true then
 (j code at_)
 else
 (j Code At)
def Bq(N:Nat):FD E0:={f:=29,fn:=Tryz.f29,q:=⟨[.p 0 0 0,.b,.i .i64,.i .i64],[z34]⟩}
def bc(N:Nat):OC E0:=⟨_,FD.ct e0 (Bq N) N (fun R k a b c d e g h i j l=>aj N a b c d e g h i j l (oK ⟨.tp [],[z34],[]⟩ k d e g h i))⟩
def IE(N:Nat)(Name:ae)(Steps Fuel:Int)(Vars Ports Timers:List ai)(States:List State)(At:Int)(j:ab R):ab R:=
 j 
def FI(N:Nat):FD E0:={f:=31,fn:=Tryz.f31,q:=⟨[y12],[]⟩}
def xl(N:Nat):OC E0:=⟨_,FD.ct e0 (FI N) N (fun R k a b c d e g h i=>IE N a b c d e g h i (oK ⟨.st,[],[]⟩ k a))⟩
def DY(N:Nat)(Name:ae)(Steps Fuel:Int)(Vars Ports Timers:List ai)(States:List State)(At:Int)(j:ae)(o:Bool→ab R):ab R:=
 o (Name==j)
def Br(N:Nat):FD E0:={f:=125,fn:=Tryz.f125,q:=⟨[y12,.p 0 0 0,.p 1 0 0],[.bx [.fn 31 []],.bx [.st]]⟩,g:=[xl N]}
def Bs(N:Nat):OC E0:=⟨_,FD.ctq e0 (Br N) N (fun R k a b c d e g h i j=>DY N a b c d e g h i j (oQ ⟨.b,[],[]⟩ k))⟩
def dZ(N:Nat)(o:List Chart)(C:Int)(I:ae)(J:ab R)(U:Int→ab R)(rec:Int→ab R)(j:Int):ab R:=
 if(decide (j<C))=true then
 ((at? o j).bind fun e5=>
 if(e5.Name==I)=true then
 (U j)
 else
 (rec (IntKind.wrap .i64 (j+1))))
 else
 (J )
def cr(N:Nat)(j:List Chart)(o:Int)(C:ae)(I:ab R)(J:Int→ab R):Nat→Int→ab R
 |0=>fun _=>none
 |n+1=>fun U=>dZ N j o C I J (cr N j o C I J n) U
def gR(N:Nat)(s:List Chart)(o:ae)(j:Int→ab R):ab R:=
 cr N s ((s.length:Nat):Int) o (j (-1))
 (fun y6=>
 j y6) N 0
def xL(N:Nat):FD E0:={f:=124,fn:=Tryz.f124,q:=⟨[.t .chart,.fn 125 [.p 0 0 0,.p 1 0 0]],[.bx [.fn 31 []],.bx [.st]]⟩,loops:=[{cur:=0,live:=[0,1,7,8],out:=fun | .exit 0=>([],[]) | .ret=>([4],[])|_=>([],[]),q:=⟨[.t .chart,.fn 125 [.p 0 0 0,.p 1 0 0],.i .i64,.i .i64],[.bx [.fn 31 []],.bx [.st]]⟩,G:=fun R K n a b c d=>cr N a b d (pK ⟨[],[.bx [.fn 31 []],.bx [.st]]⟩ (K (.exit 0)) d) (fun e=>pK ⟨[.i .i64],[.bx [.fn 31 []],.bx [.st]]⟩ (K .ret) e d) n c,B:=fun R K rec a b c d=>dZ N a b d (pK ⟨[],[.bx [.fn 31 []],.bx [.st]]⟩ (K (.exit 0)) d) (fun e=>pK ⟨[.i .i64],[.bx [.fn 31 []],.bx [.st]]⟩ (K .ret) e d) (fun c=>rec a b c d) c}],g:=[Bs N]}
def xM(N:Nat):OC E0:=⟨_,FD.ctq e0 (xL N) N (fun R k a b=>gR N a b (oQ ⟨.i .i64,[],[]⟩ k))⟩
def fj(N:Nat)(l:List Chart)(s:ae)(j:Int→ab R):ab R:=
 gR N l s (fun o=>
 j o)
def DZ(N:Nat):FD E0:={f:=60,fn:=Tryz.f60,q:=⟨[.t .chart,.st,.fn 31 []],[]⟩,g:=[xM N]}
def oX(N:Nat):OC E0:=⟨_,FD.ct e0 (DZ N) N (fun R k a b=>fj N a b (oK ⟨.i .i64,[],[]⟩ k))⟩
def lN(N:Nat)(l:List Chart)(Name:ae)(Steps Fuel:Int)(Vars Ports Timers:List ai)(States:List State)(At:Int)(j:Bool→ab R):ab R:=
 fj N l Name (fun o=>
 j (decide (o≥0)))
def CX(N:Nat):FD E0:={f:=30,fn:=Tryz.f30,q:=⟨[.t .chart,y12,.fn 31 []],[]⟩,g:=[xl N,oX N]}
def CY(N:Nat):OC E0:=⟨_,FD.ct e0 (CX N) N (fun R k a b c d e g h i j=>lN N a b c d e g h i j (oK ⟨.b,[],[]⟩ k))⟩
def dL(N:Nat)(n_ least most:Int)(j:Bool→ab R):ab R:=
 (ifB (decide (n_≥least)) true (some (decide (n_≤most))) (some false)).bind fun o=>
 j o
def JS(N:Nat):FD E0:={f:=61,fn:=Tryz.f61,q:=⟨[.i .i64,.i .i64,.i .i64],[]⟩}
def mi(N:Nat):OC E0:=⟨_,FD.ct e0 (JS N) N (fun R k a b c=>dL N a b c (oK ⟨.b,[],[]⟩ k))⟩
def eh(N:Nat)(Kind:Int)(Name:ae)(Entry Exit:List Act)(Trans_:List Trans)(Kids:List State)(At:Int)(j:Bool→ab R):ab R:=
 (ifB (Kind==3) false (some (Kind==4)) (some true)).bind fun o=>
 j o
def IF(N:Nat):FD E0:={f:=65,fn:=Tryz.f65,q:=⟨[y2],[]⟩}
def iS(N:Nat):OC E0:=⟨_,FD.ct e0 (IF N) N (fun R k a b c d e g h=>eh N a b c d e g h (oK ⟨.b,[],[]⟩ k))⟩
def pZ(N:Nat)(Kind:Int)(Name:ae)(Entry Exit:List Act)(Trans_:List Trans)(Kids:List State)(At:Int)(j:Bool→ab R):ab R:=
 eh N Kind Name Entry Exit Trans_ Kids At (fun o=>
 j (!o))
def Hl(N:Nat):FD E0:={f:=126,fn:=Tryz.f126,q:=⟨[y2],[]⟩,g:=[iS N]}
def Hm(N:Nat):OC E0:=⟨_,FD.ct e0 (Hl N) N (fun R k a b c d e g h=>pZ N a b c d e g h (oK ⟨.b,[],[]⟩ k))⟩
def ea(N:Nat)(C:List State)(I:Int)(J:ab R)(U:Int→ab R)(rec:Int→ab R)(o:Int):ab R:=
 if(decide (o<I))=true then
 ((at? C o).bind fun j=>
 pZ N j.Kind j.Name j.Entry j.Exit j.Trans j.Kids j.At (fun r5=>
 if r5=true then
 (U o)
 else
 (rec (IntKind.wrap .i64 (o+1)))))
 else
 (J )
def cu(N:Nat)(j:List State)(o:Int)(C:ab R)(I:Int→ab R):Nat→Int→ab R
 |0=>fun _=>none
 |n+1=>fun J=>ea N j o C I (cu N j o C I n) J
def gS(N:Nat)(s:List State)(j:Int→ab R):ab R:=
 cu N s ((s.length:Nat):Int) (j (-1))
 (fun y6=>
 j y6) N 0
def xN(N:Nat):FD E0:={f:=137,fn:=Tryz.f137,q:=⟨[.t .state,.fn 126 []],[]⟩,loops:=[{cur:=0,live:=[0,1,7,8],out:=fun | .exit 0=>([],[]) | .ret=>([4],[])|_=>([],[]),q:=⟨[.t .state,.fn 126 [],.i .i64,.i .i64],[]⟩,G:=fun R K n a b c=>cu N a b (pK ⟨[],[]⟩ (K (.exit 0))) (pK ⟨[.i .i64],[]⟩ (K .ret)) n c,B:=fun R K rec a b c=>ea N a b (pK ⟨[],[]⟩ (K (.exit 0))) (pK ⟨[.i .i64],[]⟩ (K .ret)) (rec a b) c}],g:=[Hm N]}
def xO(N:Nat):OC E0:=⟨_,FD.ct e0 (xN N) N (fun R k a=>gS N a (oK ⟨.i .i64,[],[]⟩ k))⟩
def iN(N:Nat)(s:List State)(j:Bool→ab R):ab R:=
 gS N s (fun o=>
 j (decide (o≥0)))
def ue(N:Nat):FD E0:={f:=80,fn:=Tryz.f80,q:=⟨[.t .state,.fn 126 []],[]⟩,g:=[xO N]}
def uf(N:Nat):OC E0:=⟨_,FD.ct e0 (ue N) N (fun R k a=>iN N a (oK ⟨.b,[],[]⟩ k))⟩
def jb(N:Nat)(l:List State)(j:Bool→ab R):ab R:=
 iN N l (fun o=>
 j o)
def JT(N:Nat):FD E0:={f:=62,fn:=Tryz.f62,q:=⟨[.t .state],[]⟩,g:=[uf N]}
def vv(N:Nat):OC E0:=⟨_,FD.ct e0 (JT N) N (fun R k a=>jb N a (oK ⟨.b,[],[]⟩ k))⟩
def OB(N:Nat)(Name:ae)(N_ At:Int)(j:ab R):ab R:=
 j 
def Ll(N:Nat):FD E0:={f:=74,fn:=Tryz.f74,q:=⟨[.ag [.st,.i .i64,.i .i64]],[]⟩}
def Ds(N:Nat):OC E0:=⟨_,FD.ct e0 (Ll N) N (fun R k a b c=>OB N a b c (oK ⟨.st,[],[]⟩ k a))⟩
def Ea(N:Nat)(Name:ae)(N_ At:Int)(j:ae)(o:Bool→ab R):ab R:=
 o (Name==j)
def Bt(N:Nat):FD E0:={f:=132,fn:=Tryz.f132,q:=⟨[.ag [.st,.i .i64,.i .i64],.p 0 0 0,.p 1 0 0],[.bx [.fn 74 []],.bx [.st]]⟩,g:=[Ds N]}
def Bu(N:Nat):OC E0:=⟨_,FD.ctq e0 (Bt N) N (fun R k a b c d=>Ea N a b c d (oQ ⟨.b,[],[]⟩ k))⟩
def eb(N:Nat)(o:List ai)(C:Int)(I:ae)(J:ab R)(U:Int→ab R)(rec:Int→ab R)(j:Int):ab R:=
 if(decide (j<C))=true then
 ((at? o j).bind fun e5=>
 if(e5.Name==I)=true then
 (U j)
 else
 (rec (IntKind.wrap .i64 (j+1))))
 else
 (J )
def cv(N:Nat)(j:List ai)(o:Int)(C:ae)(I:ab R)(J:Int→ab R):Nat→Int→ab R
 |0=>fun _=>none
 |n+1=>fun U=>eb N j o C I J (cv N j o C I J n) U
def gT(N:Nat)(s:List ai)(o:ae)(j:Int→ab R):ab R:=
 cv N s ((s.length:Nat):Int) o (j (-1))
 (fun y6=>
 j y6) N 0
def xP(N:Nat):FD E0:={f:=131,fn:=Tryz.f131,q:=⟨[.t .named,.fn 132 [.p 0 0 0,.p 1 0 0]],[.bx [.fn 74 []],.bx [.st]]⟩,loops:=[{cur:=0,live:=[0,1,7,8],out:=fun | .exit 0=>([],[]) | .ret=>([4],[])|_=>([],[]),q:=⟨[.t .named,.fn 132 [.p 0 0 0,.p 1 0 0],.i .i64,.i .i64],[.bx [.fn 74 []],.bx [.st]]⟩,G:=fun R K n a b c d=>cv N a b d (pK ⟨[],[.bx [.fn 74 []],.bx [.st]]⟩ (K (.exit 0)) d) (fun e=>pK ⟨[.i .i64],[.bx [.fn 74 []],.bx [.st]]⟩ (K .ret) e d) n c,B:=fun R K rec a b c d=>eb N a b d (pK ⟨[],[.bx [.fn 74 []],.bx [.st]]⟩ (K (.exit 0)) d) (fun e=>pK ⟨[.i .i64],[.bx [.fn 74 []],.bx [.st]]⟩ (K .ret) e d) (fun c=>rec a b c d) c}],g:=[Bu N]}
def xQ(N:Nat):OC E0:=⟨_,FD.ctq e0 (xP N) N (fun R k a b=>gT N a b (oQ ⟨.i .i64,[],[]⟩ k))⟩
def bN(N:Nat)(l:List ai)(s:ae)(j:Int→ab R):ab R:=
 gT N l s (fun o=>
 j o)
def Eb(N:Nat):FD E0:={f:=73,fn:=Tryz.f73,q:=⟨[.t .named,.st,.fn 74 []],[]⟩,g:=[xQ N]}
def kc(N:Nat):OC E0:=⟨_,FD.ct e0 (Eb N) N (fun R k a b=>bN N a b (oK ⟨.i .i64,[],[]⟩ k))⟩
def lO(N:Nat)(l:List ai)(Name:ae)(N_ At:Int)(j:Bool→ab R):ab R:=
 bN N l Name (fun o=>
 j (decide (o≥0)))
def CZ(N:Nat):FD E0:={f:=127,fn:=Tryz.f127,q:=⟨[.t .named,.ag [.st,.i .i64,.i .i64],.fn 74 []],[]⟩,g:=[kc N,Ds N]}
def Da(N:Nat):OC E0:=⟨_,FD.ct e0 (CZ N) N (fun R k a b c d=>lO N a b c d (oK ⟨.b,[],[]⟩ k))⟩
def fl(N:Nat)(C:List ai)(j9:Int)(k5:List ai)(k7 I:Int)(J:List Chart)(U:List Inst)(b9:List ak)(j6:List Cert)(k8:Int→Int→ab R)(rec:Int→Int→Int→ab R)(j j7 j8:Int):ab R:=
 if(decide (j<k7))=true then
 ((at? k5 j).bind fun o=>
 aj N (decide (j<j9)) 15 o.At I J U b9 j6 j7 j8 (fun k9 l7=>
 if(0:Int)≤0∧0≤j∧j≤((C.length:Nat):Int) then(lO N ((C.take j.toNat).drop (Int.toNat 0)) o.Name o.N o.At (fun l9=>
 aj N (!l9) 8 o.At I J U b9 j6 k9 l7 (fun m0 m3=>
 rec (IntKind.wrap .i64 (j+1)) m0 m3))) else none))
 else
 (k8 j7 j8)
def dc(N:Nat)(j:List ai)(o:Int)(C:List ai)(I J:Int)(U:List Chart)(b9:List Inst)(j6:List ak)(j7:List Cert)(j8:Int→Int→ab R):Nat→Int→Int→Int→ab R
 |0=>fun _ _ _=>none
 |n+1=>fun j9 k5 k7=>fl N j o C I J U b9 j6 j7 j8 (dc N j o C I J U b9 j6 j7 j8 n) j9 k5 k7
def eP(N:Nat)(l:List ai)(most Age:Int)(Charts:List Chart)(Insts:List Inst)(Chans:List ak)(Certs:List Cert)(Code At:Int)(j:Int→Int→ab R):ab R:=
 dc N l most l ((l.length:Nat):Int) Age Charts Insts Chans Certs (fun y19 y20=>
 j y19 y20) N 0 Code At
def AD(N:Nat):FD E0:={f:=63,fn:=Tryz.f63,q:=⟨[.p 0 0 0,.t .named,.i .i64],[z34]⟩,loops:=[{cur:=0,live:=[0,1,2,8,9,10],out:=fun | .exit 0=>([],[])|_=>([],[]),q:=⟨[.p 0 0 0,.t .named,.i .i64,.t .named,.i .i64,.i .i64],[z34]⟩,G:=fun R K n a b c d e g h i j l m o=>dc N a b c d g h i j l (pK ⟨[],[z34]⟩ (K (.exit 0)) g h i j l) n e m o,B:=fun R K rec a b c d e g h i j l m o=>fl N a b c d g h i j l (pK ⟨[],[z34]⟩ (K (.exit 0)) g h i j l) (fun e m o=>rec a b c d e g h i j l m o) e m o}],g:=[bc N,Da N]}
def AE(N:Nat):OC E0:=⟨_,FD.ct e0 (AD N) N (fun R k a b c d e g h i j=>eP N a b c d e g h i j (oK ⟨.tp [],[z34],[]⟩ k c d e g h))⟩
def IG(N:Nat)(Kind:Int)(Name:ae)(Entry Exit:List Act)(Trans_:List Trans)(Kids:List State)(At:Int)(j:ab R):ab R:=
 j 
def FJ(N:Nat):FD E0:={f:=84,fn:=Tryz.f84,q:=⟨[y2],[]⟩}
def xm(N:Nat):OC E0:=⟨_,FD.ct e0 (FJ N) N (fun R k a b c d e g h=>IG N a b c d e g h (oK ⟨.st,[],[]⟩ k b))⟩
def Ec(N:Nat)(Kind:Int)(Name:ae)(Entry Exit:List Act)(Trans_:List Trans)(Kids:List State)(At:Int)(j:ae)(o:Bool→ab R):ab R:=
 o (Name==j)
def Bv(N:Nat):FD E0:={f:=138,fn:=Tryz.f138,q:=⟨[y2,.p 0 0 0,.p 1 0 0],[.bx [.fn 84 []],.bx [.st]]⟩,g:=[xm N]}
def sF(N:Nat):OC E0:=⟨_,FD.ctq e0 (Bv N) N (fun R k a b c d e g h i=>Ec N a b c d e g h i (oQ ⟨.b,[],[]⟩ k))⟩
def dq(N:Nat)(C:Int)(o:List State)(I:ae)(J:ab R)(U:Int→ab R)(rec:Int→ab R)(j:Int):ab R:=
 if(decide (j<C))=true then
 (if(0:Int)≤j∧j<(o.length:Int) then(match o[j.toNat]? with
 |some e5=>(if(e5.Name==I)=true then
 (U j)
 else
 (rec (IntKind.wrap .i64 (j+1))))
 |none=>none) else none)
 else
 (J )
def bV(N:Nat)(j:Int)(o:List State)(C:ae)(I:ab R)(J:Int→ab R):Nat→Int→ab R
 |0=>fun _=>none
 |n+1=>fun U=>dq N j o C I J (bV N j o C I J n) U
def fm(N:Nat)(s:List State)(o:ae)(j:Int→ab R):ab R:=
 bV N ((s.length:Nat):Int) s o (j (-1))
 (fun y6=>
 j y6) N 0
def vw(N:Nat):FD E0:={f:=137,fn:=Tryz.f137,q:=⟨[.sw 0,.fn 138 [.p 1 0 0,.p 2 0 0]],[.rw .state .own,.bx [.fn 84 []],.bx [.st]]⟩,loops:=[{cur:=0,live:=[0,1,7,8],out:=fun | .exit 0=>([],[]) | .ret=>([4],[])|_=>([],[]),q:=⟨[.sw 0,.fn 138 [.p 1 0 0,.p 2 0 0],.i .i64,.i .i64],[.rw .state .own,.bx [.fn 84 []],.bx [.st]]⟩,G:=fun R K n a b c d=>bV N a c d (pK ⟨[],[.rw .state .own,.bx [.fn 84 []],.bx [.st]]⟩ (K (.exit 0)) c d) (fun e=>pK ⟨[.i .i64],[.rw .state .own,.bx [.fn 84 []],.bx [.st]]⟩ (K .ret) e c d) n b,B:=fun R K rec a b c d=>dq N a c d (pK ⟨[],[.rw .state .own,.bx [.fn 84 []],.bx [.st]]⟩ (K (.exit 0)) c d) (fun e=>pK ⟨[.i .i64],[.rw .state .own,.bx [.fn 84 []],.bx [.st]]⟩ (K .ret) e c d) (fun b=>rec a b c d) b}],g:=[sF N]}
def vz(N:Nat):OC E0:=⟨_,FD.ctq e0 (vw N) N (fun R k a b=>fm N a b (oQ ⟨.i .i64,[],[]⟩ k))⟩
def dR(N:Nat)(s:ae)(l:List State)(j:Int→ab R):ab R:=
 fm N l s (fun o=>
 j o)
def Bw(N:Nat):FD E0:={f:=83,fn:=Tryz.f83,q:=⟨[.sw 0,.st,.fn 84 []],[.rw .state .own]⟩,g:=[vz N]}
def mj(N:Nat):OC E0:=⟨_,FD.ctq e0 (Bw N) N (fun R k a b=>dR N a b (oQ ⟨.i .i64,[],[]⟩ k))⟩
def gK(N:Nat)(Kind:Int)(Name:ae)(Entry Exit:List Act)(Trans_:List Trans)(Kids:List State)(At:Int)(l:List State)(j:Bool→ab R):ab R:=
 dR N Name l (fun o=>
 j (decide (o≥0)))
def AF(N:Nat):FD E0:={f:=128,fn:=Tryz.f128,q:=⟨[.sw 0,y2,.fn 84 []],[.rw .state .own]⟩,g:=[mj N,xm N]}
def rb(N:Nat):OC E0:=⟨_,FD.ctq e0 (AF N) N (fun R k a b c d e g h i=>gK N a b c d e g h i (oQ ⟨.b,[],[]⟩ k))⟩
structure aI where
 sound_checker_tree_2:(R:Type)→(List State)→Bool→Int→(List Chart)→(List Inst)→(List ak)→(List Cert)→Int→Int→(List State)→(Int→Int→(List State)→ab R)→ab R
def qa:Pat S:=⟨[.p 0 0 0,.t .state,.b,.p 1 0 0],[z34,.bx [.sw 2],.rw .state .own]⟩
def ke(F:aI):Ct S:=⟨64,qa,fun R k a b c d e g h i j l=>F.sound_checker_tree_2 R a b c d e g h i j l (oK ⟨.tp [],[z34,.bx [.sw 3],.g],[.rw .state .own]⟩ k c d e g h)⟩
structure gU(F:aI):Prop where
 sound_checker_tree_2:(ke F).ok E0
def z35:ShO S:=.bx [.i .i64,.st,.t .act,.t .act,.t .trans,.t .state,.i .i64]
def fY(F:aI)(N:Nat)(m8 l7:Bool)(m9:List State)(n9 o0 J:Int)(U:List Chart)(b9:List Inst)(j6:List ak)(j7:List Cert)(l9 m0:Int)(j:List State)(j8:Int)(j9:ae)(k5 k7:List Act)(k8:List Trans)(o:List State)(C:Int)(m3 m4:Int→Int→(List State)→ab R):ab R:=
 aj N (!l7) 17 C J U b9 j6 j7 l9 m0 (fun I k9=>
 if j.length+([(⟨0,[],[],[],[],[],0⟩:State)]).length≤ah then(if(0:Int)≤((j.length:Nat):Int)∧((j.length:Nat):Int)<((j++([(⟨0,[],[],[],[],[],0⟩:State)])).length:Int) then(match(j++([(⟨0,[],[],[],[],[],0⟩:State)]))[((j.length:Nat):Int).toNat]? with
 |some e49=>(if(I != 0)=true then
 (m3 I k9 ((j++([(⟨0,[],[],[],[],[],0⟩:State)])).set (((j.length:Nat):Int).toNat) (⟨j8,j9,k5,k7,k8,o,C⟩:State)))
 else
 (F.sound_checker_tree_2 _ o false J U b9 j6 j7 I k9 ((j++([(⟨0,[],[],[],[],[],0⟩:State)])).set (((j.length:Nat):Int).toNat) (⟨j8,j9,k5,k7,k8,o,C⟩:State)) (fun m5 m6 m7=>
 m4 m5 m6 m7)))
 |none=>none) else none) else none)
def eZ(F:aI)(N:Nat)(j7:Bool)(j8:List State)(j9 I:Int)(J:List Chart)(U:List Inst)(b9:List ak)(j6:List Cert)(k8 k9:Int→Int→(List State)→ab R)(rec:Int→Int→Int→(List State)→ab R)(o k5 k7:Int)(C:List State):ab R:=
 if(decide (o<j9))=true then
 ((at? j8 o).bind fun j=>
 aj N (decide (((C.length:Nat):Int)<63)) 15 j.At I J U b9 j6 k5 k7 (fun l7 l9=>
 gK N j.Kind j.Name j.Entry j.Exit j.Trans j.Kids j.At C (fun m0=>
 aj N (!m0) 8 j.At I J U b9 j6 l7 l9 (fun m3 m4=>
 (ifB j7 true (eh N j.Kind j.Name j.Entry j.Exit j.Trans j.Kids j.At (fun m5=>
 some m5)) (some false)).bind fun m6=>
 (ifB m6 false ((ifB (j.Kind==2) true (jb N j.Kids (fun m7=>
 some (!m7))) (some false)).bind fun m8=>
 some m8) (some true)).bind fun m9=>
 (ifB m9 false ((ifB (decide (((j.Kids.length:Nat):Int)>0)) true (jb N j.Kids (fun n9=>
 some (!n9))) (some false)).bind fun o0=>
 some o0) (some true)).bind fun o5=>
 fY F N j7 o5 j8 j9 o I J U b9 j6 m3 m4 C j.Kind j.Name j.Entry j.Exit j.Trans j.Kids j.At (fun o6 o7 o8=>
 k9 o6 o7 o8)
 (fun o9 p5 p6=>
 rec (IntKind.wrap .i64 (o+1)) o9 p5 p6)))))
 else
 (k8 k5 k7 C)
def cg(F:aI)(N:Nat)(j:Bool)(o:List State)(C I:Int)(J:List Chart)(U:List Inst)(b9:List ak)(j6:List Cert)(j7 j8:Int→Int→(List State)→ab R):Nat→Int→Int→Int→(List State)→ab R
 |0=>fun _ _ _ _=>none
 |n+1=>fun j9 k5 k7 k8=>eZ F N j o C I J U b9 j6 j7 j8 (cg F N j o C I J U b9 j6 j7 j8 n) j9 k5 k7 k8
def eu(F:aI)(N:Nat)(l:List State)(top:Bool)(Age:Int)(Charts:List Chart)(Insts:List Inst)(Chans:List ak)(Certs:List Cert)(Code At:Int)(out:List State)(j:Int→Int→(List State)→ab R):ab R:=
 cg F N top l ((l.length:Nat):Int) Age Charts Insts Chans Certs (fun o C I=>
 j o C I)
 (fun J U b9=>
 j J U b9) N 0 Code At out
def kg(F:aI)(hF:gU F)(N:Nat):FD E0:={f:=64,fn:=Tryz.f64,q:=qa,loops:=[{cur:=0,live:=[0,2,3,11,12,13],fix:=[(⟨3,[0]⟩,.fresh .state .own)],out:=fun | .exit 0=>([],[]) | .ret=>([],[])|_=>([],[]),q:=⟨[.p 0 0 0,.b,.p 1 0 0,.t .state,.i .i64,.i .i64],[z34,.bx [.sw 3],.g,.rw .state .own]⟩,G:=fun R K n a b c d e g h i j l m o=>cg F N a b c e g h i j (pK ⟨[],[z34,.bx [.sw 3],.g,.rw .state .own]⟩ (K (.exit 0)) e g h i j) (pK ⟨[],[z34,.bx [.sw 3],.g,.rw .state .own]⟩ (K .ret) e g h i j) n d l m o,B:=fun R K rec a b c d e g h i j l m o=>eZ F N a b c e g h i j (pK ⟨[],[z34,.bx [.sw 3],.g,.rw .state .own]⟩ (K (.exit 0)) e g h i j) (pK ⟨[],[z34,.bx [.sw 3],.g,.rw .state .own]⟩ (K .ret) e g h i j) (fun d l m o=>rec a b c d e g h i j l m o) d l m o}],cuts:=[{key:=6,live:=[0,2,3,9,10,11,12,13],fix:=[(⟨3,[0]⟩,.fresh .state .own)],out:=fun | .ret=>([],[]) | .normal=>([0,2,3,11,12,13],[])|_=>([],[]),q:=⟨[.p 0 0 0,.b,.p 1 0 0,.p 4 0 0,.b,.t .state,.i .i64,.i .i64],[z34,.bx [.sw 3],.g,.rw .state .own,z35]⟩,G:=fun R K a b c d e g h i j l m o p q s t u v w x=>fY F N a b c d e g h i j l m o p q s t u v w x (pK ⟨[],[z34,.bx [.sw 3],.g,.rw .state .own]⟩ (K .ret) g h i j l) (pK ⟨[.p 0 0 0,.b,.p 1 0 0,.t .state,.i .i64,.i .i64],[z34,.bx [.sw 3],.g,.rw .state .own]⟩ (K .normal) a c d e g h i j l)}],g:=[bc N,vv N,⟨ke F,hF.sound_checker_tree_2⟩,iS N,rb N],mode:=fun|75=>.ro|_=>.app}
theorem xR(F:aI)(hF:gU F)(N:Nat):Ct.ok E0 ⟨(kg F hF N).f,(kg F hF N).q,fun R k a b c d e g h i j l=>eu F N a b c d e g h i j l (oK ⟨.tp [],[z34,.bx [.sw 3],.g],[.rw .state .own]⟩ k c d e g h)⟩:=FD.ct e0 (kg F hF N) N (fun R k a b c d e g h i j l=>eu F N a b c d e g h i j l (oK ⟨.tp [],[z34,.bx [.sw 3],.g],[.rw .state .own]⟩ k c d e g h))
def sG(F:aI)(N:Nat):aI where
 sound_checker_tree_2:=fun R l top Age Charts Insts Chans Certs Code At out j=>eu F N l top Age Charts Insts Chans Certs Code At out j
def bA(N:Nat):Nat→aI
 |0=>{sound_checker_tree_2:=fun _ _ _ _ _ _ _ _ _ _ _ _=>none}
 |d+1=>sG (bA N d) N
theorem jF(N:Nat):∀d,gU (bA N d)
 |0=>{sound_checker_tree_2:=Ct.ok_none}
 |d+1=>{sound_checker_tree_2:=xR _ (jF N d) N}
def sound_checker_tree_2(N:Nat)(l:List State)(top:Bool)(Age:Int)(Charts:List Chart)(Insts:List Inst)(Chans:List ak)(Certs:List Cert)(Code At:Int)(out:List State)(j:Int→Int→(List State)→ab R):ab R:=(bA N N).sound_checker_tree_2 R l top Age Charts Insts Chans Certs Code At out j
theorem yM(N d:Nat)(l:List State)(top:Bool)(Age:Int)(Charts:List Chart)(Insts:List Inst)(Chans:List ak)(Certs:List Cert)(Code At:Int)(out:List State)(k0:Int→Int→(List State)→ab R):(bA N (d+1)).sound_checker_tree_2 R l top Age Charts Insts Chans Certs Code At out k0=eu (bA N d) N l top Age Charts Insts Chans Certs Code At out k0:=rfl
def zI(N:Nat):OC E0:=⟨ke (bA N N),(jF N N).sound_checker_tree_2⟩
def iD(N:Nat)(m8 l7:Bool)(m9:List State)(n9 o0 J:Int)(U:List Chart)(b9:List Inst)(j6:List ak)(j7:List Cert)(l9 m0:Int)(j:List State)(j8:Int)(j9:ae)(k5 k7:List Act)(k8:List Trans)(o:List State)(C:Int)(m3 m4:Int→Int→(List State)→ab R):ab R:=
 aj N (!l7) 17 C J U b9 j6 j7 l9 m0 (fun I k9=>
 if j.length+([(⟨0,[],[],[],[],[],0⟩:State)]).length≤ah then(if(0:Int)≤((j.length:Nat):Int)∧((j.length:Nat):Int)<((j++([(⟨0,[],[],[],[],[],0⟩:State)])).length:Int) then(match(j++([(⟨0,[],[],[],[],[],0⟩:State)]))[((j.length:Nat):Int).toNat]? with
 |some e49=>(if(I != 0)=true then
 (m3 I k9 ((j++([(⟨0,[],[],[],[],[],0⟩:State)])).set (((j.length:Nat):Int).toNat) (⟨j8,j9,k5,k7,k8,o,C⟩:State)))
 else
 (sound_checker_tree_2 N o false J U b9 j6 j7 I k9 ((j++([(⟨0,[],[],[],[],[],0⟩:State)])).set (((j.length:Nat):Int).toNat) (⟨j8,j9,k5,k7,k8,o,C⟩:State)) (fun m5 m6 m7=>
 m4 m5 m6 m7)))
 |none=>none) else none) else none)
def fZ(N:Nat)(j7:Bool)(j8:List State)(j9 I:Int)(J:List Chart)(U:List Inst)(b9:List ak)(j6:List Cert)(k8 k9:Int→Int→(List State)→ab R)(rec:Int→Int→Int→(List State)→ab R)(o k5 k7:Int)(C:List State):ab R:=
 if(decide (o<j9))=true then
 ((at? j8 o).bind fun j=>
 aj N (decide (((C.length:Nat):Int)<63)) 15 j.At I J U b9 j6 k5 k7 (fun l7 l9=>
 gK N j.Kind j.Name j.Entry j.Exit j.Trans j.Kids j.At C (fun m0=>
 aj N (!m0) 8 j.At I J U b9 j6 l7 l9 (fun m3 m4=>
 (ifB j7 true (eh N j.Kind j.Name j.Entry j.Exit j.Trans j.Kids j.At (fun m5=>
 some m5)) (some false)).bind fun m6=>
 (ifB m6 false ((ifB (j.Kind==2) true (jb N j.Kids (fun m7=>
 some (!m7))) (some false)).bind fun m8=>
 some m8) (some true)).bind fun m9=>
 (ifB m9 false ((ifB (decide (((j.Kids.length:Nat):Int)>0)) true (jb N j.Kids (fun n9=>
 some (!n9))) (some false)).bind fun o0=>
 some o0) (some true)).bind fun o5=>
 iD N j7 o5 j8 j9 o I J U b9 j6 m3 m4 C j.Kind j.Name j.Entry j.Exit j.Trans j.Kids j.At (fun o6 o7 o8=>
 k9 o6 o7 o8)
 (fun o9 p5 p6=>
 rec (IntKind.wrap .i64 (o+1)) o9 p5 p6)))))
 else
 (k8 k5 k7 C)
def cM(N:Nat)(j:Bool)(o:List State)(C I:Int)(J:List Chart)(U:List Inst)(b9:List ak)(j6:List Cert)(j7 j8:Int→Int→(List State)→ab R):Nat→Int→Int→Int→(List State)→ab R
 |0=>fun _ _ _ _=>none
 |n+1=>fun j9 k5 k7 k8=>fZ N j o C I J U b9 j6 j7 j8 (cM N j o C I J U b9 j6 j7 j8 n) j9 k5 k7 k8
def kh(N:Nat)(l:List State)(top:Bool)(Age:Int)(Charts:List Chart)(Insts:List Inst)(Chans:List ak)(Certs:List Cert)(Code At:Int)(j:Int→Int→(List State)→ab R):ab R:=
 cM N top l ((l.length:Nat):Int) Age Charts Insts Chans Certs (fun o C I=>
 j o C I)
 (fun J U b9=>
 j J U b9) N 0 Code At ([]:List State)
def Bx(N:Nat):FD E0:={f:=64,fn:=Tryz.f64,q:=⟨[.p 0 0 0,.t .state,.b,.p 1 0 0],[z34,.bx [.ns]]⟩,loops:=[{cur:=0,live:=[0,2,3,11,12,13],fix:=[(⟨3,[0]⟩,.row .state .own)],out:=fun | .exit 0=>([],[]) | .ret=>([],[])|_=>([],[]),q:=⟨[.p 0 0 0,.b,.p 1 0 0,.t .state,.i .i64,.i .i64],[z34,.bx [.sw 2],.rw .state .own]⟩,G:=fun R K n a b c d e g h i j l m o=>cM N a b c e g h i j (pK ⟨[],[z34,.bx [.sw 2],.rw .state .own]⟩ (K (.exit 0)) e g h i j) (pK ⟨[],[z34,.bx [.sw 2],.rw .state .own]⟩ (K .ret) e g h i j) n d l m o,B:=fun R K rec a b c d e g h i j l m o=>fZ N a b c e g h i j (pK ⟨[],[z34,.bx [.sw 2],.rw .state .own]⟩ (K (.exit 0)) e g h i j) (pK ⟨[],[z34,.bx [.sw 2],.rw .state .own]⟩ (K .ret) e g h i j) (fun d l m o=>rec a b c d e g h i j l m o) d l m o}],cuts:=[{key:=6,live:=[0,2,3,9,10,11,12,13],fix:=[(⟨3,[0]⟩,.row .state .own)],out:=fun | .ret=>([],[]) | .normal=>([0,2,3,11,12,13],[])|_=>([],[]),q:=⟨[.p 0 0 0,.b,.p 1 0 0,.p 3 0 0,.b,.t .state,.i .i64,.i .i64],[z34,.bx [.sw 2],.rw .state .own,z35]⟩,G:=fun R K a b c d e g h i j l m o p q s t u v w x=>iD N a b c d e g h i j l m o p q s t u v w x (pK ⟨[],[z34,.bx [.sw 2],.rw .state .own]⟩ (K .ret) g h i j l) (pK ⟨[.p 0 0 0,.b,.p 1 0 0,.t .state,.i .i64,.i .i64],[z34,.bx [.sw 2],.rw .state .own]⟩ (K .normal) a c d e g h i j l)}],g:=[bc N,vv N,zI N,iS N,rb N],mode:=fun|75=>.ro|76=>.own|_=>.app}
def By(N:Nat):OC E0:=⟨_,FD.ct e0 (Bx N) N (fun R k a b c d e g h i j=>kh N a b c d e g h i j (oK ⟨.tp [],[z34,.bx [.sw 2]],[.rw .state .own]⟩ k c d e g h))⟩
structure ba where
 sound_checker_expr:(R:Type)→ae→Int→Int→(List ai)→(List ai)→(List ai)→(List State)→Int→Int→Int→ae→(List Expr)→Int→Int→(List Chart)→(List Inst)→(List ak)→(List Cert)→Int→Int→(List State)→(Int→Int→ab R)→ab R
def sH:Pat S:=⟨[.p 0 0 0,y12,.sw 1,y4],[z34,.rw .state .own]⟩
def ml(F:ba):Ct S:=⟨129,sH,fun R k a b c d e g h i j l m o p q s t u v w x y=>F.sound_checker_expr R a b c d e g h i j l m o p q s t u v w x y (fun z C=>oK ⟨.tp [],[z34,.rw .state .own],[]⟩ k q s t u v z C y)⟩
structure iO(F:ba):Prop where
 sound_checker_expr:(ml F).ok E0
end
end So
