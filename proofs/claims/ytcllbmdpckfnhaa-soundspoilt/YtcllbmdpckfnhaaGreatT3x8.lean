/- T3_8: a part of the proof of SoundSpoilt: lemmas on the evaluator and on the functions that the law reaches. -/
import Derived.Test.YtcllbmdpckfnhaaGreatT3x7
set_option maxRecDepth 100000
set_option linter.unusedVariables false
namespace So
open Go TE Go.Proofs
noncomputable section
variable{R:Type}
def ur(N:Nat)(C:List ae)(J:List Node)(U:(List Int)→ab R)(rec:Int→(List Int)→ab R)(j:Int)(o:List Int):ab R:=
 if(decide (j<((C.length:Nat):Int)))=true then
 ((at? C j).bind fun b9=>
 zi N J b9 (fun I=>
 if o.length+[I].length≤ah then(rec (IntKind.wrap .i64 (j+1)) (o++[I])) else none))
 else
 (U o)
def ph(N:Nat)(j:List ae)(o:List Node)(C:(List Int)→ab R):Nat→Int→(List Int)→ab R
 |0=>fun _ _=>none
 |n+1=>fun I J=>ur N j o C (ph N j o C n) I J
def Ja(N:Nat)(Name:ae)(Steps Fuel:Int)(Vars Ports Timers:List ai)(States:List State)(At:Int)(set_:List ae)(o:(List Int)→Bool→ab R):ab R:=
 zh N Name Steps Fuel Vars Ports Timers States At (fun j=>
 ph N set_ j (fun y13=>
 vS N j y13 (fun C I=>
 o C I)) N 0 ([]:List Int))
def Uz(N:Nat):FD E0:={f:=150,fn:=Tryz.f150,q:=⟨[y12,.t .str],[]⟩,loops:=[{cur:=0,live:=[1,6,7,8],fix:=[(⟨7,[]⟩,.row .int .app)],out:=fun | .exit 0=>([6,7],[])|_=>([],[]),q:=⟨[.t .str,.t .node,.sw 0,.i .i64],[.rw .int .app]⟩,G:=fun R K n a b c d=>ph N a b (pK ⟨[.t .node,.sw 0],[.rw .int .app]⟩ (K (.exit 0)) b) n c d,B:=fun R K rec a b c d=>ur N a b (pK ⟨[.t .node,.sw 0],[.rw .int .app]⟩ (K (.exit 0)) b) (rec a b) c d}],g:=[HT N,Kd N,Ry N],exit:=[(⟨4,[]⟩,.tree .int)]}
def UA(N:Nat):OC E0:=⟨_,FD.ct e0 (Uz N) N (fun R k a b c d e g h i j=>Ja N a b c d e g h i j (oK ⟨.tp [.t .int,.b],[],[]⟩ k))⟩
def ny(N:Nat)(o C:List ae)(I:ab R)(J:Bool→ab R)(rec:Int→ab R)(j:Int):ab R:=
 if(decide (j<((o.length:Nat):Int)))=true then
 ((at? o j).bind fun U=>
 fD N C U (fun r5=>
 if(!r5)=true then
 (J false)
 else
 (rec (IntKind.wrap .i64 (j+1)))))
 else
 (I )
def jO(N:Nat)(j o:List ae)(C:ab R)(I:Bool→ab R):Nat→Int→ab R
 |0=>fun _=>none
 |n+1=>fun J=>ny N j o C I (jO N j o C I n) J
def xw(N:Nat)(a b:List ae)(j:Bool→ab R):ab R:=
 jO N a b (j (((a.length:Nat):Int)==((b.length:Nat):Int)))
 (fun y6=>
 j y6) N 0
def Lw(N:Nat):FD E0:={f:=175,fn:=Tryz.f175,q:=⟨[.t .str,.t .str],[]⟩,loops:=[{cur:=0,live:=[0,1,5],out:=fun | .exit 0=>([0,1],[]) | .ret=>([4],[])|_=>([],[]),q:=⟨[.t .str,.t .str,.i .i64],[]⟩,G:=fun R K n a b c=>jO N a b (pK ⟨[.t .str,.t .str],[]⟩ (K (.exit 0)) a b) (pK ⟨[.b],[]⟩ (K .ret)) n c,B:=fun R K rec a b c=>ny N a b (pK ⟨[.t .str,.t .str],[]⟩ (K (.exit 0)) a b) (pK ⟨[.b],[]⟩ (K .ret)) (rec a b) c}],g:=[mY N]}
def Lx(N:Nat):OC E0:=⟨_,FD.ct e0 (Lw N) N (fun R k a b=>xw N a b (oK ⟨.b,[],[]⟩ k))⟩
def qv(N:Nat)(o C:List ae)(I:ab R)(J:Bool→ab R)(rec:Int→ab R)(j:Int):ab R:=
 if(decide (j<((o.length:Nat):Int)))=true then
 ((at? o j).bind fun U=>
 (at? C j).bind fun e5=>
 if(!(U==e5))=true then
 (J false)
 else
 (rec (IntKind.wrap .i64 (j+1))))
 else
 (I )
def nz(N:Nat)(j o:List ae)(C:ab R)(I:Bool→ab R):Nat→Int→ab R
 |0=>fun _=>none
 |n+1=>fun J=>qv N j o C I (nz N j o C I n) J
def Cy(N:Nat)(a b:List ae)(j:Bool→ab R):ab R:=
 if(((a.length:Nat):Int) != ((b.length:Nat):Int))=true then
 (j false)
 else
 (nz N a b (j true)
 (fun y6=>
 j y6) N 0)
def OV(N:Nat):FD E0:={f:=176,fn:=Tryz.f176,q:=⟨[.t .str,.t .str],[]⟩,loops:=[{cur:=0,live:=[0,1,5],out:=fun | .exit 0=>([],[]) | .ret=>([4],[])|_=>([],[]),q:=⟨[.t .str,.t .str,.i .i64],[]⟩,G:=fun R K n a b c=>nz N a b (pK ⟨[],[]⟩ (K (.exit 0))) (pK ⟨[.b],[]⟩ (K .ret)) n c,B:=fun R K rec a b c=>qv N a b (pK ⟨[],[]⟩ (K (.exit 0))) (pK ⟨[.b],[]⟩ (K .ret)) (rec a b) c}]}
def OW(N:Nat):OC E0:=⟨_,FD.ct e0 (OV N) N (fun R k a b=>Cy N a b (oK ⟨.b,[],[]⟩ k))⟩
def lR(N:Nat)(j7:Int)(o j8:List (List ae))(j9 k5:Int)(C k7:List (List ae))(k8:Int)(I:ab R)(J:Bool→ab R)(rec:Int→ab R)(j:Int):ab R:=
 if(decide (j<((o.length:Nat):Int)))=true then
 ((at? o j).bind fun U=>
 (at? C j).bind fun b9=>
 xw N U b9 (fun j6=>
 if(!j6)=true then
 (J false)
 else
 (rec (IntKind.wrap .i64 (j+1)))))
 else
 (I )
def iT(N:Nat)(j:Int)(o C:List (List ae))(I J:Int)(U b9:List (List ae))(j6:Int)(j7:ab R)(j8:Bool→ab R):Nat→Int→ab R
 |0=>fun _=>none
 |n+1=>fun j9=>lR N j o C I J U b9 j6 j7 j8 (iT N j o C I J U b9 j6 j7 j8 n) j9
def lS(N:Nat)(j7:Int)(j8 o:List (List ae))(j9 k5:Int)(k7 C:List (List ae))(k8:Int)(I:ab R)(J:Bool→ab R)(rec:Int→ab R)(j:Int):ab R:=
 if(decide (j<((o.length:Nat):Int)))=true then
 ((at? o j).bind fun U=>
 (at? C j).bind fun b9=>
 Cy N U b9 (fun j6=>
 if(!j6)=true then
 (J false)
 else
 (rec (IntKind.wrap .i64 (j+1)))))
 else
 (I )
def eV(N:Nat)(j:Int)(o C:List (List ae))(I J:Int)(U b9:List (List ae))(j6:Int)(j7:ab R)(j8:Bool→ab R):Nat→Int→ab R
 |0=>fun _=>none
 |n+1=>fun j9=>lS N j o C I J U b9 j6 j7 j8 (eV N j o C I J U b9 j6 j7 j8 n) j9
def uu(N:Nat)(Rank:Int)(Sets Msgs:List (List ae))(At o:Int)(C I:List (List ae))(J:Int)(j:Bool→ab R):ab R:=
 iT N Rank Sets Msgs At o C I J (eV N Rank Sets Msgs At o C I J (j true)
 (fun U=>
 j U) N 0)
 (fun y13=>
 j y13) N 0
def Kg(N:Nat):FD E0:={f:=151,fn:=Tryz.f151,q:=⟨[y16,y16],[]⟩,loops:=[{cur:=0,live:=[2,3,5],out:=fun | .exit 0=>([2,3],[]) | .ret=>([4],[])|_=>([],[]),q:=⟨[.p 0 0 0,.p 1 0 0,.i .i64],[z37,z37]⟩,G:=fun R K n a b c d e g h i j=>iT N b c d e g h i j (pK ⟨[.p 0 0 0,.p 1 0 0],[z37,z37]⟩ (K (.exit 0)) b c d e g h i j) (pK ⟨[.b],[]⟩ (K .ret)) n a,B:=fun R K rec a b c d e g h i j=>lR N b c d e g h i j (pK ⟨[.p 0 0 0,.p 1 0 0],[z37,z37]⟩ (K (.exit 0)) b c d e g h i j) (pK ⟨[.b],[]⟩ (K .ret)) (fun a=>rec a b c d e g h i j) a},{cur:=2,live:=[2,3,6],out:=fun | .exit 2=>([],[]) | .ret=>([4],[])|_=>([],[]),q:=⟨[.p 0 0 0,.p 1 0 0,.i .i64],[z37,z37]⟩,G:=fun R K n a b c d e g h i j=>eV N b c d e g h i j (pK ⟨[],[]⟩ (K (.exit 2))) (pK ⟨[.b],[]⟩ (K .ret)) n a,B:=fun R K rec a b c d e g h i j=>lS N b c d e g h i j (pK ⟨[],[]⟩ (K (.exit 2))) (pK ⟨[.b],[]⟩ (K .ret)) (fun a=>rec a b c d e g h i j) a}],g:=[Lx N,OW N]}
def Kh(N:Nat):OC E0:=⟨_,FD.ct e0 (Kg N) N (fun R k a b c d e g h i=>uu N a b c d e g h i (oK ⟨.b,[],[]⟩ k))⟩
def se(N:Nat)(m8 C:Int)(I:List Chart)(J:List Inst)(U:List ak)(b9:List Cert)(m9 n9 o0 o5:ae)(j6 o6:List ae)(o7:List Cell)(o8 o9:Int)(o p5:List (List ae))(p6:Int)(j7:ab R)(j8:Int→ab R)(rec:Int→ab R)(j:Int):ab R:=
 if(decide (j<((o.length:Nat):Int)))=true then
 ((at? j6 j).bind fun j9=>
 tK N C I J U b9 j9 (fun k5 k7 k8 k9 l7 l9 m0 m3=>
 (at? o j).bind fun m4=>
 Ja N k5 k7 k8 k9 l7 l9 m0 m3 m4 (fun p7 m5=>
 (at? o j).bind fun m6=>
 (ifB (decide (((m6.length:Nat):Int)>0)) true (some (!m5)) (some false)).bind fun m7=>
 if m7=true then
 (j8 18)
 else
 (rec (IntKind.wrap .i64 (j+1))))))
 else
 (j7 )
def pH(N:Nat)(j o:Int)(C:List Chart)(I:List Inst)(J:List ak)(U:List Cert)(b9 j6 j7 j8:ae)(j9 k5:List ae)(k7:List Cell)(k8 k9:Int)(l7 l9:List (List ae))(m0:Int)(m3:ab R)(m4:Int→ab R):Nat→Int→ab R
 |0=>fun _=>none
 |n+1=>fun m5=>se N j o C I J U b9 j6 j7 j8 j9 k5 k7 k8 k9 l7 l9 m0 m3 m4 (pH N j o C I J U b9 j6 j7 j8 j9 k5 k7 k8 k9 l7 l9 m0 m3 m4 n) m5
def sf(N:Nat)(k9 I:Int)(J:List Chart)(U:List Inst)(o:List ak)(b9:List Cert)(l7 l9 m0 m3:ae)(m4 j6:List ae)(m5:List Cell)(m6 m7:Int)(m8 C:List (List ae))(m9:Int)(j7:ab R)(j8:Int→ab R)(rec:Int→ab R)(j:Int):ab R:=
 if(decide (j<((C.length:Nat):Int)))=true then
 ((at? C j).bind fun j9=>
 (at? j6 j).bind fun k5=>
 ze N I J U o b9 k5 (fun k7=>
 (at? o k7).bind fun k8=>
 if(decide (((j9.length:Nat):Int)>k8.Cap))=true then
 (j8 18)
 else
 (rec (IntKind.wrap .i64 (j+1)))))
 else
 (j7 )
def mz(N:Nat)(j o:Int)(C:List Chart)(I:List Inst)(J:List ak)(U:List Cert)(b9 j6 j7 j8:ae)(j9 k5:List ae)(k7:List Cell)(k8 k9:Int)(l7 l9:List (List ae))(m0:Int)(m3:ab R)(m4:Int→ab R):Nat→Int→ab R
 |0=>fun _=>none
 |n+1=>fun m5=>sf N j o C I J U b9 j6 j7 j8 j9 k5 k7 k8 k9 l7 l9 m0 m3 m4 (mz N j o C I J U b9 j6 j7 j8 j9 k5 k7 k8 k9 l7 l9 m0 m3 m4 n) m5
def sg(N:Nat)(C:Int)(k5 k7 k8 k9:ae)(l7 l9:List ae)(I:List Cell)(m0 J:Int)(U b9:List (List ae))(j6:Int)(j7:ab R)(j8:Int→ab R)(rec:Int→ab R)(o:Int):ab R:=
 if(decide (o<C))=true then
 ((at? I o).bind fun j=>
 uu N j.Rank j.Sets j.Msgs j.At J U b9 j6 (fun j9=>
 if j9=true then
 (j8 8)
 else
 (rec (IntKind.wrap .i64 (o+1)))))
 else
 (j7 )
def jS(N:Nat)(j:Int)(o C I J:ae)(U b9:List ae)(j6:List Cell)(j7 j8:Int)(j9 k5:List (List ae))(k7:Int)(k8:ab R)(k9:Int→ab R):Nat→Int→ab R
 |0=>fun _=>none
 |n+1=>fun l7=>sg N j o C I J U b9 j6 j7 j8 j9 k5 k7 k8 k9 (jS N j o C I J U b9 j6 j7 j8 j9 k5 k7 k8 k9 n) l7
def Ga(N:Nat)(Age:Int)(Charts:List Chart)(Insts:List Inst)(Chans:List ak)(Certs:List Cert)(Name Inst_ Req Resp:ae)(C I:List ae)(Cells:List Cell)(At i:Int)(o:Int→ab R):ab R:=
 (at? Cells i).bind fun j=>
 (ifB (decide (j.Rank<0)) false (some (decide (j.Rank>64))) (some true)).bind fun J=>
 if J=true then
 (o 16)
 else
 ((ifB (((j.Sets.length:Nat):Int) != ((C.length:Nat):Int)) false (some (((j.Msgs.length:Nat):Int) != ((I.length:Nat):Int))) (some true)).bind fun U=>
 if U=true then
 (o 18)
 else
 (pH N i Age Charts Insts Chans Certs Name Inst_ Req Resp C I Cells At j.Rank j.Sets j.Msgs j.At (mz N i Age Charts Insts Chans Certs Name Inst_ Req Resp C I Cells At j.Rank j.Sets j.Msgs j.At (jS N i Name Inst_ Req Resp C I Cells At j.Rank j.Sets j.Msgs j.At (o 0)
 (fun b9=>
 o b9) N 0)
 (fun j6=>
 o j6) N 0)
 (fun j7=>
 o j7) N 0))
def Rz(N:Nat):FD E0:={f:=102,fn:=Tryz.f102,q:=⟨[y18,y17,.i .i64],[]⟩,loops:=[{cur:=0,live:=[2,3,4,7,8],out:=fun | .exit 0=>([2,3,4,7],[]) | .ret=>([6],[])|_=>([],[]),q:=⟨[.i .i64,.p 0 0 0,.p 1 0 0,.p 2 0 0,.i .i64],[z38,z36,z37]⟩,G:=fun R K n a b c d e g h i j l m o p q s t u v w=>pH N a c d e g h i j l m o p q s t u v w (pK ⟨[.i .i64,.p 0 0 0,.p 1 0 0,.p 2 0 0],[z38,z36,z37]⟩ (K (.exit 0)) a c d e g h i j l m o p q s t u v w) (pK ⟨[.i .i64],[]⟩ (K .ret)) n b,B:=fun R K rec a b c d e g h i j l m o p q s t u v w=>se N a c d e g h i j l m o p q s t u v w (pK ⟨[.i .i64,.p 0 0 0,.p 1 0 0,.p 2 0 0],[z38,z36,z37]⟩ (K (.exit 0)) a c d e g h i j l m o p q s t u v w) (pK ⟨[.i .i64],[]⟩ (K .ret)) (fun b=>rec a b c d e g h i j l m o p q s t u v w) b},{cur:=2,live:=[2,3,4,7,11],out:=fun | .exit 2=>([2,4,7],[]) | .ret=>([6],[])|_=>([],[]),q:=⟨[.i .i64,.p 0 0 0,.p 1 0 0,.p 2 0 0,.i .i64],[z38,z36,z37]⟩,G:=fun R K n a b c d e g h i j l m o p q s t u v w=>mz N a c d e g h i j l m o p q s t u v w (pK ⟨[.i .i64,.p 0 0 0,.p 1 0 0],[z36,z37]⟩ (K (.exit 2)) a i j l m o p q s t u v w) (pK ⟨[.i .i64],[]⟩ (K .ret)) n b,B:=fun R K rec a b c d e g h i j l m o p q s t u v w=>sf N a c d e g h i j l m o p q s t u v w (pK ⟨[.i .i64,.p 0 0 0,.p 1 0 0],[z36,z37]⟩ (K (.exit 2)) a i j l m o p q s t u v w) (pK ⟨[.i .i64],[]⟩ (K .ret)) (fun b=>rec a b c d e g h i j l m o p q s t u v w) b},{cur:=4,live:=[2,4,7,12],out:=fun | .exit 4=>([],[]) | .ret=>([6],[])|_=>([],[]),q:=⟨[.i .i64,.p 0 0 0,.p 1 0 0,.i .i64],[z36,z37]⟩,G:=fun R K n a b c d e g h i j l m o p q=>jS N a c d e g h i j l m o p q (pK ⟨[],[]⟩ (K (.exit 4))) (pK ⟨[.i .i64],[]⟩ (K .ret)) n b,B:=fun R K rec a b c d e g h i j l m o p q=>sg N a c d e g h i j l m o p q (pK ⟨[],[]⟩ (K (.exit 4))) (pK ⟨[.i .i64],[]⟩ (K .ret)) (fun b=>rec a b c d e g h i j l m o p q) b}],g:=[Em N,Kb N,UA N,Kh N]}
def RA(N:Nat):OC E0:=⟨_,FD.ct e0 (Rz N) N (fun R k a b c d e g h i j l m o p q=>Ga N a b c d e g h i j l m o p q (oK ⟨.i .i64,[],[]⟩ k))⟩
def qw(N:Nat)(o j6:Int)(j7:List Chart)(j8:List Inst)(j9:List ak)(C:List Cert)(k5 k7:Int)(I k8 k9 l7:ae)(l9 m0:List ae)(m3:List Cell)(m4:Int)(J:ab R)(U:Int→ab R)(rec:Int→ab R)(j:Int):ab R:=
 if(decide (j<o))=true then
 ((at? C j).bind fun b9=>
 if(b9.Name==I)=true then
 (U 8)
 else
 (rec (IntKind.wrap .i64 (j+1))))
 else
 (J )
def nA(N:Nat)(j o:Int)(C:List Chart)(I:List Inst)(J:List ak)(U:List Cert)(b9 j6:Int)(j7 j8 j9 k5:ae)(k7 k8:List ae)(k9:List Cell)(l7:Int)(l9:ab R)(m0:Int→ab R):Nat→Int→ab R
 |0=>fun _=>none
 |n+1=>fun m3=>qw N j o C I J U b9 j6 j7 j8 j9 k5 k7 k8 k9 l7 l9 m0 (nA N j o C I J U b9 j6 j7 j8 j9 k5 k7 k8 k9 l7 l9 m0 n) m3
def qx(N:Nat)(m3 I:Int)(J:List Chart)(U:List Inst)(b9:List ak)(j6:List Cert)(m4 m5:Int)(j7 j8 j9 k5:ae)(k7 k8:List ae)(o:List Cell)(k9:Int)(l7:ab R)(l9:Int→Int→ab R)(rec:Int→ab R)(j:Int):ab R:=
 if(decide (j<((o.length:Nat):Int)))=true then
 (Ga N I J U b9 j6 j7 j8 j9 k5 k7 k8 o k9 j (fun C=>
 if(C != 0)=true then
 ((at? o j).bind fun m0=>
 l9 C m0.At)
 else
 (rec (IntKind.wrap .i64 (j+1)))))
 else
 (l7 )
def jg(N:Nat)(j o:Int)(C:List Chart)(I:List Inst)(J:List ak)(U:List Cert)(b9 j6:Int)(j7 j8 j9 k5:ae)(k7 k8:List ae)(k9:List Cell)(l7:Int)(l9:ab R)(m0:Int→Int→ab R):Nat→Int→ab R
 |0=>fun _=>none
 |n+1=>fun m3=>qx N j o C I J U b9 j6 j7 j8 j9 k5 k7 k8 k9 l7 l9 m0 (jg N j o C I J U b9 j6 j7 j8 j9 k5 k7 k8 k9 l7 l9 m0 n) m3
def qy(N:Nat)(I:Int)(J:List Chart)(U:List Inst)(b9:List ak)(o:List Cert)(j7 j8:Int)(k5:ab R)(j6:Int→Int→ab R)(rec:Int→ab R)(C:Int):ab R:=
 if(decide (C<((o.length:Nat):Int)))=true then
 ((at? o C).bind fun j=>
 nA N C I J U b9 o j7 j8 j.Name j.Inst j.Req j.Resp j.Insts j.Chans j.Cells j.At (sT N I J U b9 o j.Name j.Inst j.Req j.Resp j.Insts j.Chans j.Cells j.At (fun j9=>
 if(j9 != 0)=true then
 (j6 j9 j.At)
 else
 (jg N C I J U b9 o j7 j8 j.Name j.Inst j.Req j.Resp j.Insts j.Chans j.Cells j.At (rec (IntKind.wrap .i64 (C+1)))
 (fun k7 k8=>
 j6 k7 k8) N 0)))
 (fun k9=>
 j6 k9 j.At) N 0)
 else
 (k5 )
def kz(N:Nat)(j:Int)(o:List Chart)(C:List Inst)(I:List ak)(J:List Cert)(U b9:Int)(j6:ab R)(j7:Int→Int→ab R):Nat→Int→ab R
 |0=>fun _=>none
 |n+1=>fun j8=>qy N j o C I J U b9 j6 j7 (kz N j o C I J U b9 j6 j7 n) j8
def Cz(N:Nat)(Age:Int)(Charts:List Chart)(Insts:List Inst)(Chans:List ak)(Certs:List Cert)(j:Int→Int→ab R):ab R:=
 kz N Age Charts Insts Chans Certs 0 0 (j 0 0)
 (fun o C=>
 j o C) N 0
def OX(N:Nat):FD E0:={f:=43,fn:=Tryz.f43,q:=⟨[y18],[]⟩,loops:=[{cur:=2,live:=[1,2,3,4,5],out:=fun | .exit 2=>([1,2,3,4],[]) | .ret=>([2],[])|_=>([],[]),q:=⟨[.p 0 0 0,.p 1 0 0,.i .i64,.p 2 0 0,.i .i64],[z38,.bx [.i .i64,.i .i64],z36]⟩,G:=fun R K n a b c d e g h i j l m o p q s t u=>nA N a c d e g h i j l m o p q s t u (pK ⟨[.p 0 0 0,.p 1 0 0,.i .i64,.p 2 0 0],[z38,.bx [.i .i64,.i .i64],z36]⟩ (K (.exit 2)) a c d e g h i j l m o p q s t u) (fun v=>pK ⟨[.p 0 0 0],[.bx [.i .i64,.i .i64]]⟩ (K .ret) v u) n b,B:=fun R K rec a b c d e g h i j l m o p q s t u=>qw N a c d e g h i j l m o p q s t u (pK ⟨[.p 0 0 0,.p 1 0 0,.i .i64,.p 2 0 0],[z38,.bx [.i .i64,.i .i64],z36]⟩ (K (.exit 2)) a c d e g h i j l m o p q s t u) (fun v=>pK ⟨[.p 0 0 0],[.bx [.i .i64,.i .i64]]⟩ (K .ret) v u) (fun b=>rec a b c d e g h i j l m o p q s t u) b},{cur:=4,live:=[1,2,3,4,7],out:=fun | .exit 4=>([1,2,3],[]) | .ret=>([2],[])|_=>([],[]),q:=⟨[.p 0 0 0,.p 1 0 0,.i .i64,.p 2 0 0,.i .i64],[z38,.bx [.i .i64,.i .i64],z36]⟩,G:=fun R K n a b c d e g h i j l m o p q s t u=>jg N a c d e g h i j l m o p q s t u (pK ⟨[.p 0 0 0,.p 1 0 0,.i .i64],[z38,.bx [.i .i64,.i .i64]]⟩ (K (.exit 4)) a c d e g h i j) (pK ⟨[.p 0 0 0],[.bx [.i .i64,.i .i64]]⟩ (K .ret)) n b,B:=fun R K rec a b c d e g h i j l m o p q s t u=>qx N a c d e g h i j l m o p q s t u (pK ⟨[.p 0 0 0,.p 1 0 0,.i .i64],[z38,.bx [.i .i64,.i .i64]]⟩ (K (.exit 4)) a c d e g h i j) (pK ⟨[.p 0 0 0],[.bx [.i .i64,.i .i64]]⟩ (K .ret)) (fun b=>rec a b c d e g h i j l m o p q s t u) b},{cur:=0,live:=[1,2,3],out:=fun | .exit 0=>([2],[]) | .ret=>([2],[])|_=>([],[]),q:=⟨[.p 0 0 0,.p 1 0 0,.i .i64],[z38,.bx [.i .i64,.i .i64]]⟩,G:=fun R K n a b c d e g h i=>kz N b c d e g h i (pK ⟨[.p 0 0 0],[.bx [.i .i64,.i .i64]]⟩ (K (.exit 0)) h i) (pK ⟨[.p 0 0 0],[.bx [.i .i64,.i .i64]]⟩ (K .ret)) n a,B:=fun R K rec a b c d e g h i=>qy N b c d e g h i (pK ⟨[.p 0 0 0],[.bx [.i .i64,.i .i64]]⟩ (K (.exit 0)) h i) (pK ⟨[.p 0 0 0],[.bx [.i .i64,.i .i64]]⟩ (K .ret)) (fun a=>rec a b c d e g h i) a}],g:=[mv N,Lv N,RA N]}
def OY(N:Nat):OC E0:=⟨_,FD.ct e0 (OX N) N (fun R k a b c d e=>Cz N a b c d e (oK ⟨.ag [.i .i64,.i .i64],[],[]⟩ k))⟩
def qz(N:Nat)(b9:Int)(o:List Chart)(j6:List Inst)(j7:List ak)(j8:List Cert)(j9 k5:Int)(I:ab R)(J:Int→Int→ab R)(rec:Int→ab R)(j:Int):ab R:=
 if(decide (j<((o.length:Nat):Int)))=true then
 (Cx N o j (fun C U=>
 if(C != 0)=true then
 (J C U)
 else
 (rec (IntKind.wrap .i64 (j+1)))))
 else
 (I )
def nB(N:Nat)(j:Int)(o:List Chart)(C:List Inst)(I:List ak)(J:List Cert)(U b9:Int)(j6:ab R)(j7:Int→Int→ab R):Nat→Int→ab R
 |0=>fun _=>none
 |n+1=>fun j8=>qz N j o C I J U b9 j6 j7 (nB N j o C I J U b9 j6 j7 n) j8
def jo(N:Nat)(C:Int)(I:List Chart)(J:List Inst)(U:List ak)(b9:List Cert)(j9 k5 j j6:Int)(o:Int→Int→ab R):ab R:=
 if(j==0)=true then
 (Cz N C I J U b9 (fun j7 j8=>
 o j7 j8))
 else
 (o j j6)
def r12_Check(N:Nat)(Age:Int)(Charts:List Chart)(Insts:List Inst)(Chans:List ak)(Certs:List Cert)(j:Int→Int→ab R):ab R:=
 (ifB (decide (Age<1)) false (some (decide (Age>65536))) (some true)).bind fun C=>
 if C=true then
 (j 16 0)
 else
 (if(((Insts.length:Nat):Int)==0)=true then
 (j 7 0)
 else
 (nB N Age Charts Insts Chans Certs 0 0 (zd N Age Charts Insts Chans Certs (fun o I=>
 if(o==0)=true then
 (zf N Age Charts Insts Chans Certs (fun J U=>
 jo N Age Charts Insts Chans Certs 0 0 J U (fun b9 j6=>
 j b9 j6)))
 else
 (jo N Age Charts Insts Chans Certs 0 0 o I (fun j7 j8=>
 j j7 j8))))
 (fun y12 y13=>
 j y12 y13) N 0))
def OZ(N:Nat):FD E0:={f:=11,fn:=Tryz.f11,q:=⟨[y18],[]⟩,loops:=[{cur:=0,live:=[1,2,3],out:=fun | .exit 0=>([1,2],[]) | .ret=>([2],[])|_=>([],[]),q:=⟨[.p 0 0 0,.p 1 0 0,.i .i64],[z38,.bx [.i .i64,.i .i64]]⟩,G:=fun R K n a b c d e g h i=>nB N b c d e g h i (pK ⟨[.p 0 0 0,.p 1 0 0],[z38,.bx [.i .i64,.i .i64]]⟩ (K (.exit 0)) b c d e g h i) (pK ⟨[.p 0 0 0],[.bx [.i .i64,.i .i64]]⟩ (K .ret)) n a,B:=fun R K rec a b c d e g h i=>qz N b c d e g h i (pK ⟨[.p 0 0 0,.p 1 0 0],[z38,.bx [.i .i64,.i .i64]]⟩ (K (.exit 0)) b c d e g h i) (pK ⟨[.p 0 0 0],[.bx [.i .i64,.i .i64]]⟩ (K .ret)) (fun a=>rec a b c d e g h i) a}],cuts:=[{key:=14,live:=[1,2,5],out:=fun | .ret=>([2],[])|_=>([],[]),q:=⟨[.p 0 0 0,.p 1 0 0,.p 2 0 0],[z38,.bx [.i .i64,.i .i64],.bx [.i .i64,.i .i64]]⟩,G:=fun R K a b c d e g h i j=>jo N a b c d e g h i j (pK ⟨[.p 0 0 0],[.bx [.i .i64,.i .i64]]⟩ (K .ret))}],g:=[mv N,OI N,OL N,ON N,OY N]}
def Pa(N:Nat):OC E0:=⟨_,FD.ct e0 (OZ N) N (fun R k a b c d e=>r12_Check N a b c d e (oK ⟨.ag [.i .i64,.i .i64],[],[]⟩ k))⟩
end
end So
