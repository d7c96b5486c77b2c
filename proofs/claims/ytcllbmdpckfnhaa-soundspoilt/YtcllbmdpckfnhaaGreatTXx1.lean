/- TX_1: a part of the proof of SoundSpoilt: lemmas on the evaluator and on the functions that the law reaches. -/
import Derived.Test.YtcllbmdpckfnhaaGreatT3x8
set_option maxRecDepth 100000
set_option linter.unusedVariables false
namespace So
open Go TE Go.Proofs
noncomputable section
variable{R:Type}
def uQ(N:Nat)(v n_:Int)(j:Int→ab R):ab R:=
 if n_=0 then none else(if(decide ((Int.tmod v n_)<0))=true then
 (j (IntKind.wrap .i64 ((Int.tmod v n_)+n_)))
 else
 (j (Int.tmod v n_)))
def PL(N:Nat):FD E0:={f:=44,fn:=Tryz.f44,q:=⟨[.i .i64,.i .i64],[]⟩}
def Cf(N:Nat):OC E0:=⟨_,FD.ct e0 (PL N) N (fun R k a b=>uQ N a b (oK ⟨.i .i64,[],[]⟩ k))⟩
def ao(N:Nat)(n_:Int)(L:List Int)(At:Int)(j:Int→Int→ab R):ab R:=
 if(decide (At≥((L.length:Nat):Int)))=true then
 (j 0 At)
 else
 ((at? L (IntKind.wrap .i64 ((IntKind.wrap .i64 (At+1))-1))).bind fun o=>
 uQ N o n_ (fun C=>
 j C (IntKind.wrap .i64 (At+1))))
def KT(N:Nat):FD E0:={f:=103,fn:=Tryz.f103,q:=⟨[.p 0 0 0,.i .i64],[.bx [.t .int,.i .i64]]⟩,g:=[Cf N]}
def cn(N:Nat):OC E0:=⟨_,FD.ct e0 (KT N) N (fun R k a b c=>ao N a b c (fun d=>oK ⟨.i .i64,[.bx [.t .int,.i .i64]],[]⟩ k d b))⟩
structure mD where
 r7_Dec:(R:Type)→Int→(ae→ab R)→ab R
def PM:Pat S:=⟨[.i .i64],[]⟩
def KU(F:mD):Ct S:=⟨107,PM,fun R k a=>F.r7_Dec R a (oK ⟨.st,[],[]⟩ k)⟩
structure yd(F:mD):Prop where
 r7_Dec:(KU F).ok E0
def zt(F:mD)(N:Nat)(n_:Int)(j:ae→ab R):ab R:=
 if(decide (n_≤(-10)))=true then
 (F.r7_Dec _ (IntKind.wrap .i64 (Int.tdiv n_ 10)) (fun o=>
 if(0:Int)≤IntKind.wrap .i64 (0-(Int.tmod n_ 10))∧IntKind.wrap .i64 (0-(Int.tmod n_ 10))≤IntKind.wrap .i64 ((IntKind.wrap .i64 (0-(Int.tmod n_ 10)))+1)∧IntKind.wrap .i64 ((IntKind.wrap .i64 (0-(Int.tmod n_ 10)))+1)≤((([48,49,50,51,52,53,54,55,56,57]:ae).length:Nat):Int) then(if o.length+((([48,49,50,51,52,53,54,55,56,57]:ae).take (IntKind.wrap .i64 ((IntKind.wrap .i64 (0-(Int.tmod n_ 10)))+1)).toNat).drop (IntKind.wrap .i64 (0-(Int.tmod n_ 10))).toNat).length≤ah then(j (o++((([48,49,50,51,52,53,54,55,56,57]:ae).take (IntKind.wrap .i64 ((IntKind.wrap .i64 (0-(Int.tmod n_ 10)))+1)).toNat).drop (IntKind.wrap .i64 (0-(Int.tmod n_ 10))).toNat))) else none) else none))
 else
 (if(decide (n_<0))=true then
 (if(0:Int)≤IntKind.wrap .i64 (0-n_)∧IntKind.wrap .i64 (0-n_)≤IntKind.wrap .i64 ((IntKind.wrap .i64 (0-n_))+1)∧IntKind.wrap .i64 ((IntKind.wrap .i64 (0-n_))+1)≤((([48,49,50,51,52,53,54,55,56,57]:ae).length:Nat):Int) then(if([45]:ae).length+((([48,49,50,51,52,53,54,55,56,57]:ae).take (IntKind.wrap .i64 ((IntKind.wrap .i64 (0-n_))+1)).toNat).drop (IntKind.wrap .i64 (0-n_)).toNat).length≤ah then(j (([45]:ae)++((([48,49,50,51,52,53,54,55,56,57]:ae).take (IntKind.wrap .i64 ((IntKind.wrap .i64 (0-n_))+1)).toNat).drop (IntKind.wrap .i64 (0-n_)).toNat))) else none) else none)
 else
 (if(decide (n_<10))=true then
 (if(0:Int)≤n_∧n_≤IntKind.wrap .i64 (n_+1)∧IntKind.wrap .i64 (n_+1)≤((([48,49,50,51,52,53,54,55,56,57]:ae).length:Nat):Int) then(j ((([48,49,50,51,52,53,54,55,56,57]:ae).take (IntKind.wrap .i64 (n_+1)).toNat).drop n_.toNat)) else none)
 else
 (F.r7_Dec _ (IntKind.wrap .i64 (Int.tdiv n_ 10)) (fun C=>
 if(0:Int)≤Int.tmod n_ 10∧Int.tmod n_ 10≤IntKind.wrap .i64 ((Int.tmod n_ 10)+1)∧IntKind.wrap .i64 ((Int.tmod n_ 10)+1)≤((([48,49,50,51,52,53,54,55,56,57]:ae).length:Nat):Int) then(if C.length+((([48,49,50,51,52,53,54,55,56,57]:ae).take (IntKind.wrap .i64 ((Int.tmod n_ 10)+1)).toNat).drop (Int.tmod n_ 10).toNat).length≤ah then(j (C++((([48,49,50,51,52,53,54,55,56,57]:ae).take (IntKind.wrap .i64 ((Int.tmod n_ 10)+1)).toNat).drop (Int.tmod n_ 10).toNat))) else none) else none))))
def KV(F:mD)(hF:yd F)(N:Nat):FD E0:={f:=107,fn:=Tryz.f107,q:=PM,g:=[⟨KU F,hF.r7_Dec⟩]}
theorem Sa(F:mD)(hF:yd F)(N:Nat):Ct.ok E0 ⟨(KV F hF N).f,(KV F hF N).q,fun R k a=>zt F N a (oK ⟨.st,[],[]⟩ k)⟩:=FD.ct e0 (KV F hF N) N (fun R k a=>zt F N a (oK ⟨.st,[],[]⟩ k))
def IN(F:mD)(N:Nat):mD where
 r7_Dec:=fun R n_ j=>zt F N n_ j
def js(N:Nat):Nat→mD
 |0=>{r7_Dec:=fun _ _ _=>none}
 |d+1=>IN (js N d) N
theorem zu(N:Nat):∀d,yd (js N d)
 |0=>{r7_Dec:=Ct.ok_none}
 |d+1=>{r7_Dec:=Sa _ (zu N d) N}
def r7_Dec(N:Nat)(n_:Int)(j:ae→ab R):ab R:=(js N N).r7_Dec R n_ j
theorem Mz(N d:Nat)(n_:Int)(k0:ae→ab R):(js N (d+1)).r7_Dec R n_ k0=zt (js N d) N n_ k0:=rfl
def Cg(N:Nat):OC E0:=⟨KU (js N N),(zu N N).r7_Dec⟩
def fe(N:Nat)(n_:Int)(j:ae→ab R):ab R:=
 r7_Dec N n_ (fun o=>
 j o)
def UU(N:Nat):FD E0:={f:=153,fn:=Tryz.f153,q:=⟨[.i .i64],[]⟩,g:=[Cg N]}
def zw(N:Nat):OC E0:=⟨_,FD.ct e0 (UU N) N (fun R k a=>fe N a (oK ⟨.st,[],[]⟩ k))⟩
def wb(N:Nat)(j:ae)(J:Int)(U:(List ae)→ab R)(rec:Int→(List ae)→ab R)(o:Int)(C:List ae):ab R:=
 if(decide (o<J))=true then
 (fe N o (fun I=>
 if j.length+I.length≤ah then(if C.length+[j++I].length≤ah then(rec (IntKind.wrap .i64 (o+1)) (C++[j++I])) else none) else none))
 else
 (U C)
def qI(N:Nat)(j:ae)(o:Int)(C:(List ae)→ab R):Nat→Int→(List ae)→ab R
 |0=>fun _ _=>none
 |n+1=>fun I J=>wb N j o C (qI N j o C n) I J
def uR(N:Nat)(letter:ae)(n_:Int)(j:(List ae)→ab R):ab R:=
 qI N letter n_ (fun y10=>
 j y10) N 0 ([]:List ae)
def PN(N:Nat):FD E0:={f:=177,fn:=Tryz.f177,q:=⟨[.st,.i .i64],[]⟩,loops:=[{cur:=0,live:=[0,1,5,6],fix:=[(⟨5,[]⟩,.row .str .app)],out:=fun | .exit 0=>([5],[])|_=>([],[]),q:=⟨[.st,.i .i64,.sw 0,.i .i64],[.rw .str .app]⟩,G:=fun R K n a b c d=>qI N a b (pK ⟨[.sw 0],[.rw .str .app]⟩ (K (.exit 0))) n c d,B:=fun R K rec a b c d=>wb N a b (pK ⟨[.sw 0],[.rw .str .app]⟩ (K (.exit 0))) (rec a b) c d}],g:=[zw N],exit:=[(⟨4,[]⟩,.tree .str)]}
def PO(N:Nat):OC E0:=⟨_,FD.ct e0 (PN N) N (fun R k a b=>uR N a b (oK ⟨.t .str,[],[]⟩ k))⟩
def wc(N:Nat)(C:List ae)(b9:List Int)(j6:Int→(List ai)→ab R)(rec:Int→Int→(List ai)→ab R)(j I:Int)(o:List ai):ab R:=
 if(decide (j<((C.length:Nat):Int)))=true then
 ((at? C j).bind fun J=>
 ao N 9 b9 I (fun U j7=>
 if o.length+[(⟨J,IntKind.wrap .i64 (U-4),0⟩:ai)].length≤ah then(rec (IntKind.wrap .i64 (j+1)) j7 (o++[(⟨J,IntKind.wrap .i64 (U-4),0⟩:ai)])) else none))
 else
 (j6 I o)
def qJ(N:Nat)(j:List ae)(o:List Int)(C:Int→(List ai)→ab R):Nat→Int→Int→(List ai)→ab R
 |0=>fun _ _ _=>none
 |n+1=>fun I J U=>wc N j o C (qJ N j o C n) I J U
def CG(N:Nat)(l:List ae)(L:List Int)(At:Int)(j:(List ai)→Int→ab R):ab R:=
 qJ N l L (fun y16 y17=>
 j y17 y16) N 0 At ([]:List ai)
def PQ(N:Nat):FD E0:={f:=178,fn:=Tryz.f178,q:=⟨[.t .str,.p 0 0 0],[.bx [.t .int,.i .i64]]⟩,loops:=[{cur:=0,live:=[0,1,5,6],fix:=[(⟨5,[]⟩,.row .named .app)],out:=fun | .exit 0=>([5],[])|_=>([],[]),q:=⟨[.t .str,.p 0 0 0,.sw 1,.i .i64],[.bx [.t .int,.i .i64],.rw .named .app]⟩,G:=fun R K n a b c d e=>qJ N a c (pK ⟨[.sw 1],[.bx [.t .int,.i .i64],.rw .named .app]⟩ (K (.exit 0)) c) n b d e,B:=fun R K rec a b c d e=>wc N a c (pK ⟨[.sw 1],[.bx [.t .int,.i .i64],.rw .named .app]⟩ (K (.exit 0)) c) (fun b d e=>rec a b c d e) b d e}],g:=[cn N],exit:=[(⟨4,[]⟩,.tree .named)]}
def PR(N:Nat):OC E0:=⟨_,FD.ct e0 (PQ N) N (fun R k a b c=>CG N a b c (fun d=>oK ⟨.t .named,[.bx [.t .int,.i .i64]],[]⟩ k d b))⟩
def we(N:Nat)(C:List ae)(J:(List ai)→ab R)(rec:Int→(List ai)→ab R)(j:Int)(o:List ai):ab R:=
 if(decide (j<((C.length:Nat):Int)))=true then
 ((at? C j).bind fun I=>
 if o.length+[(⟨I,0,0⟩:ai)].length≤ah then(rec (IntKind.wrap .i64 (j+1)) (o++[(⟨I,0,0⟩:ai)])) else none)
 else
 (J o)
def qK(N:Nat)(j:List ae)(o:(List ai)→ab R):Nat→Int→(List ai)→ab R
 |0=>fun _ _=>none
 |n+1=>fun C I=>we N j o (qK N j o n) C I
def rM(N:Nat)(l:List ae)(j:(List ai)→ab R):ab R:=
 qK N l (fun y8=>
 j y8) N 0 ([]:List ai)
def PS(N:Nat):FD E0:={f:=179,fn:=Tryz.f179,q:=⟨[.t .str],[]⟩,loops:=[{cur:=0,live:=[0,3,4],fix:=[(⟨3,[]⟩,.row .named .app)],out:=fun | .exit 0=>([3],[])|_=>([],[]),q:=⟨[.t .str,.sw 0,.i .i64],[.rw .named .app]⟩,G:=fun R K n a b c=>qK N a (pK ⟨[.sw 0],[.rw .named .app]⟩ (K (.exit 0))) n b c,B:=fun R K rec a b c=>we N a (pK ⟨[.sw 0],[.rw .named .app]⟩ (K (.exit 0))) (rec a) b c}],exit:=[(⟨2,[]⟩,.tree .named)]}
def Ch(N:Nat):OC E0:=⟨_,FD.ct e0 (PS N) N (fun R k a=>rM N a (oK ⟨.t .named,[],[]⟩ k))⟩
def z42:ShO S:=.bx [.p 1 0 0,.t .str,.t .str,.t .str,.ns,.i .i64,.sw 2]
def y20:Sh S:=.ag [.i .i64,.st,.t .act,.t .act,.sw 4,.sw 5,.i .i64]
def z43:ShO S:=.bx [.p 1 0 0,.t .str,.t .str,.t .str,.ns,.i .i64,.sw 3]
structure aE where
 r37_growing_state_2:(R:Type)→Int→Bool→(List ae)→(List ae)→(List ae)→Int→(List Int)→Int→(List ae)→(Int→ae→(List Act)→(List Act)→Int→Int→Int→(List ae)→(List Trans)→(List State)→ab R)→ab R
def ri:Pat S:=⟨[.p 0 0 0,.i .i64,.b],[z42,.bx [.t .int,.i .i64],.rw .str .app]⟩
def lB(F:aE):Ct S:=⟨180,ri,fun R k a b c d e g h i j=>F.r37_growing_state_2 R a b c d e g h i j (fun l m o p q s t=>oK ⟨y20,[z43,.bx [.t .int,.i .i64],.rw .str .ro],[.rw .str .app,.rw .trans .own,.dp .state]⟩ k l m o p q c d e s h t j)⟩
structure iA(F:aE):Prop where
 r37_growing_state_2:(lB F).ok E0
def z44:ShO S:=.bx [.i .i64,.st,.ns,.ns,.ns,.sw 6,.i .i64]
def dY(F:aE)(N:Nat)(o C:Int)(I J U:List ae)(b9:Int)(j6:List Int)(j7:Int)(m6 j8:List ae)(m7:Int)(m8:ae)(m9 n9:Int)(o0:ae)(o5:Int)(j:List State)(j9:Int→Int→Int→(List ae)→(List State)→ab R):ab R:=
 F.r37_growing_state_2 _ (IntKind.wrap .i64 (o-1)) true I J U b9 j6 j7 j8 (fun k5 k7 k8 k9 l7 l9 m0 m3 m4 m5=>
 if j.length+1≤ah then(j9 (IntKind.wrap .i64 (C-1)) l9 m0 m3 (j++[(⟨k5,k7,k8,k9,m4,m5,l7⟩:State)])) else none)
def jt(F:aE)(N:Nat)(U:Int)(b9 j6 j7:List ae)(j8:List Int)(j9:List ae)(k5:Int)(k7:ae)(k8 k9:Int)(l7:ae)(l9:Int)(m0:Int→Int→(List ae)→(List State)→ab R)(rec:Int→Int→Int→(List ae)→(List State)→ab R)(J j C:Int)(I:List ae)(o:List State):ab R:=
 if((decide (J>0))==true)=true then
 (if((decide (j>0))==false)=true then
 (if(((o.length:Nat):Int)==0)=true then
 (dY F N U J b9 j6 j7 j j8 C j9 I k5 k7 k8 k9 l7 l9 o (fun m3 m4 m5 m6 m7=>
 rec m3 m4 m5 m6 m7))
 else
 (m0 j C I o))
 else
 (dY F N U J b9 j6 j7 j j8 C j9 I k5 k7 k8 k9 l7 l9 o (fun m8 m9 n9 o0 o5=>
 rec m8 m9 n9 o0 o5)))
 else
 (m0 j C I o)
def dk(F:aE)(N:Nat)(j:Int)(o C I:List ae)(J:List Int)(U:List ae)(b9:Int)(j6:ae)(j7 j8:Int)(j9:ae)(k5:Int)(k7:Int→Int→(List ae)→(List State)→ab R):Nat→Int→Int→Int→(List ae)→(List State)→ab R
 |0=>fun _ _ _ _ _=>none
 |n+1=>fun k8 k9 l7 l9 m0=>jt F N j o C I J U b9 j6 j7 j8 j9 k5 k7 (dk F N j o C I J U b9 j6 j7 j8 j9 k5 k7 n) k8 k9 l7 l9 m0
def cU(F:aE)(N:Nat)(b9:Bool)(j9 k5 k7:List ae)(I:Int)(j6:List Int)(J:Int)(k8 j:List ae)(k9:Int)(l7:ae)(l9 m0:Int)(m3:ae)(m4:Int)(C:List State)(U:Int→Int→(List ae)→(List State)→ab R):ab R:=
 if b9=true then
 (ao N 2 j6 J (fun j7 j8=>
 fe N ((j.length:Nat):Int) (fun o=>
 if([104]:ae).length+o.length≤ah then(if j.length+([([104]:ae)++o]).length≤ah then(if C.length+1≤ah then(U (IntKind.wrap .i64 (I-1)) j8 (j++([([104]:ae)++o])) (C++[(⟨IntKind.wrap .i64 (3+j7),([104]:ae)++o,[],[],[],[],0⟩:State)])) else none) else none) else none)))
 else
 (U I J j C)
def eL(F:aE)(N:Nat)(l9:Int)(o C I:List ae)(m0:Int)(j:List Int)(m3:Int)(J m4:List ae)(U:Int)(b9:ae)(j6 j7:Int)(j8:ae)(j9:Int)(k7:Int→Int→(List ae)→(List State)→ab R):ab R:=
 ao N 3 j m3 (fun m5 m6=>
 dk F N l9 o C I j J U b9 j6 j7 j8 j9 (fun k5 k8 k9 l7=>
 if((decide (k5>0))==true)=true then
 (ao N 2 j k8 (fun m7 m8=>
 cU F N (m7==0) o C I k5 j m8 J k9 U b9 j6 j7 j8 j9 l7 (fun m9 n9 o0 o5=>
 k7 m9 n9 o0 o5)))
 else
 (cU F N false o C I k5 j k8 J k9 U b9 j6 j7 j8 j9 l7 (fun o6 o7 o8 o9=>
 k7 o6 o7 o8 o9))) N (IntKind.wrap .i64 (1+m5)) m0 m6 m4 ([]:List State))
def cA(F:aE)(N:Nat)(o:Int)(l9:Bool)(C I J:List ae)(U:Int)(j:List Int)(m0:Int)(b9 j6:List ae)(j7:Int)(j8:ae)(j9 k5:Int)(k7:ae)(k8:Int)(k9:Int→Int→(List ae)→Int→(List State)→ab R)(m3:ab R):ab R:=
 if l9=true then
 (ao N 3 j m0 (fun m4 l7=>
 if(m4==0)=true then
 (eL F N o C I J U j l7 b9 j6 j7 j8 j9 2 k7 k8 (fun m5 m6 m7 m8=>
 k9 m5 m6 m7 2 m8))
 else
 (eL F N o C I J U j l7 b9 j6 j7 j8 j9 k5 k7 k8 (fun m9 n9 o0 o5=>
 k9 m9 n9 o0 k5 o5))))
 else
 (m3 )
def dC(F:aE)(N:Nat)(deep:Int)(in_:Bool)(Vars Ports Timers:List ae)(left:Int)(L:List Int)(At:Int)(all:List ae)(C:Int→ae→(List Act)→(List Act)→Int→Int→Int→(List ae)→(List Trans)→(List State)→ab R):ab R:=
 fe N ((all.length:Nat):Int) (fun o=>
 if([115]:ae).length+o.length≤ah then(if all.length+([([115]:ae)++o]).length≤ah then(fe N ((all.length:Nat):Int) (fun j=>
 if([115]:ae).length+j.length≤ah then(if((decide (deep>0))==true)=true then
 (if((decide ((IntKind.wrap .i64 (left-1))≥2))==true)=true then
 (ao N 3 L At (fun J I=>
 cA F N deep (decide (J>0)) Vars Ports Timers (IntKind.wrap .i64 (left-1)) L I all (all++([([115]:ae)++o])) 0 [] 0 1 (([115]:ae)++j) 0 (fun U b9 j6 j7 j8=>
 C j7 (([115]:ae)++j) ([]:List Act) ([]:List Act) 0 U b9 j6 ([]:List Trans) j8)
 (C 1 (([115]:ae)++j) ([]:List Act) ([]:List Act) 0 (IntKind.wrap .i64 (left-1)) I (all++([([115]:ae)++o])) ([]:List Trans) ([]:List State))))
 else
 (cA F N deep false Vars Ports Timers (IntKind.wrap .i64 (left-1)) L At all (all++([([115]:ae)++o])) 0 [] 0 1 (([115]:ae)++j) 0 (fun j9 k5 k7 k8 k9=>
 C k8 (([115]:ae)++j) ([]:List Act) ([]:List Act) 0 j9 k5 k7 ([]:List Trans) k9)
 (C 1 (([115]:ae)++j) ([]:List Act) ([]:List Act) 0 (IntKind.wrap .i64 (left-1)) At (all++([([115]:ae)++o])) ([]:List Trans) ([]:List State))))
 else
 (cA F N deep false Vars Ports Timers (IntKind.wrap .i64 (left-1)) L At all (all++([([115]:ae)++o])) 0 [] 0 1 (([115]:ae)++j) 0 (fun l7 l9 m0 m3 m4=>
 C m3 (([115]:ae)++j) ([]:List Act) ([]:List Act) 0 l7 l9 m0 ([]:List Trans) m4)
 (C 1 (([115]:ae)++j) ([]:List Act) ([]:List Act) 0 (IntKind.wrap .i64 (left-1)) At (all++([([115]:ae)++o])) ([]:List Trans) ([]:List State)))) else none)) else none) else none)
def lC(F:aE)(hF:iA F)(N:Nat):FD E0:={f:=180,fn:=Tryz.f180,q:=ri,loops:=[{cur:=0,live:=[0,1,6,8,9],fix:=[(⟨8,[5]⟩,.deep .state)],out:=fun | .exit 0=>([0,6,8],[])|_=>([],[]),q:=⟨[.p 0 0 0,.i .i64,.p 4 0 0,.p 5 0 0,.i .i64],[z43,.bx [.t .int,.i .i64],.rw .str .ro,.rw .str .app,z4,z44,.dp .state]⟩,G:=fun R K n a b c d e g h i j l m o p q s t u=>dk F N a c d e h j m o p q s t (fun v w x=>pK ⟨[.p 0 0 0,.p 4 0 0,.p 5 0 0],[z43,.bx [.t .int,.i .i64],.rw .str .ro,.rw .str .app,z4,z44,.dp .state]⟩ (K (.exit 0)) c d e v h w j x m o p q s t) n b g i l u,B:=fun R K rec a b c d e g h i j l m o p q s t u=>jt F N a c d e h j m o p q s t (fun v w x=>pK ⟨[.p 0 0 0,.p 4 0 0,.p 5 0 0],[z43,.bx [.t .int,.i .i64],.rw .str .ro,.rw .str .app,z4,z44,.dp .state]⟩ (K (.exit 0)) c d e v h w j x m o p q s t) (fun b g i l u=>rec a b c d e g h i j l m o p q s t u) b g i l u}],cuts:=[{key:=11,live:=[0,1,6,8,9],fix:=[(⟨8,[5]⟩,.deep .state)],out:=fun | .normal=>([0,1,6,8,9],[])|_=>([],[]),q:=⟨[.p 0 0 0,.i .i64,.p 4 0 0,.p 5 0 0,.i .i64],[z43,.bx [.t .int,.i .i64],.rw .str .ro,.rw .str .app,z4,z44,.dp .state]⟩,G:=fun R K a b c d e g h i j l m o p q s t u=>dY F N a b c d e g h i j l m o p q s t u (fun v w x y=>pK ⟨[.p 0 0 0,.i .i64,.p 4 0 0,.p 5 0 0,.i .i64],[z43,.bx [.t .int,.i .i64],.rw .str .ro,.rw .str .app,z4,z44,.dp .state]⟩ (K .normal) a v c d e w h x j y m o p q s t)},{key:=13,live:=[0,6,8,107],out:=fun | .normal=>([6,8],[])|_=>([],[]),q:=⟨[.p 0 0 0,.p 4 0 0,.p 5 0 0,.b],[z43,.bx [.t .int,.i .i64],.rw .str .ro,.rw .str .app,z4,z44,.dp .state]⟩,G:=fun R K a b c d e g h i j l m o p q s t=>cU F N a b c d e g h i j l m o p q s t (fun u v w=>pK ⟨[.p 4 0 0,.p 5 0 0],[z43,.bx [.t .int,.i .i64],.rw .str .ro,.rw .str .app,z4,z44,.dp .state]⟩ (K .normal) b c d u g v i w l m o p q s)},{key:=8,live:=[0,1,6,8],out:=fun | .normal=>([6,8],[])|_=>([],[]),q:=⟨[.p 0 0 0,.i .i64,.p 4 0 0,.p 5 0 0],[z43,.bx [.t .int,.i .i64],.rw .str .ro,.rw .str .app,z4,z4]⟩,G:=fun R K a b c d e g h i j l m o p q s=>eL F N a b c d e g h i j l m o p q s (fun t u v=>pK ⟨[.p 4 0 0,.p 5 0 0],[z43,.bx [.t .int,.i .i64],.rw .str .ro,.rw .str .app,z4,z44,.dp .state]⟩ (K .normal) b c d t g u i v l m o p q s)},{key:=6,live:=[0,1,6,8,55],out:=fun | .normal=>([6,8],[])|_=>([],[]),q:=⟨[.p 0 0 0,.i .i64,.p 4 0 0,.p 5 0 0,.b],[z43,.bx [.t .int,.i .i64],.rw .str .ro,.rw .str .app,z4,z4]⟩,G:=fun R K a b c d e g h i j l m o p q s t=>cA F N a b c d e g h i j l m o p q s t (fun u v w x=>pK ⟨[.p 4 0 0,.p 5 0 0],[z43,.bx [.t .int,.i .i64],.rw .str .ro,.rw .str .app,z4,z44,.dp .state]⟩ (K .normal) c d e u h v j w m o p x s t) (pK ⟨[.p 4 0 0,.p 5 0 0],[z43,.bx [.t .int,.i .i64],.rw .str .ro,.rw .str .app,z4,z4]⟩ (K .normal) c d e g h i j l m o p q s t)}],g:=[cn N,zw N,⟨lB F,hF.r37_growing_state_2⟩],exit:=[(⟨6,[2]⟩,.tree .act),(⟨6,[3]⟩,.tree .act),(⟨6,[4]⟩,.row .trans .own),(⟨6,[5]⟩,.deep .state)],fork:=true}
theorem zx(F:aE)(hF:iA F)(N:Nat):Ct.ok E0 ⟨(lC F hF N).f,(lC F hF N).q,fun R k a b c d e g h i j=>dC F N a b c d e g h i j (fun l m o p q s t=>oK ⟨y20,[z43,.bx [.t .int,.i .i64],.rw .str .ro],[.rw .str .app,.rw .trans .own,.dp .state]⟩ k l m o p q c d e s h t j)⟩:=FD.ct e0 (lC F hF N) N (fun R k a b c d e g h i j=>dC F N a b c d e g h i j (fun l m o p q s t=>oK ⟨y20,[z43,.bx [.t .int,.i .i64],.rw .str .ro],[.rw .str .app,.rw .trans .own,.dp .state]⟩ k l m o p q c d e s h t j))
def tP(F:aE)(N:Nat):aE where
 r37_growing_state_2:=fun R deep in_ Vars Ports Timers left L At all j=>dC F N deep in_ Vars Ports Timers left L At all j
def aF(N:Nat):Nat→aE
 |0=>{r37_growing_state_2:=fun _ _ _ _ _ _ _ _ _ _ _=>none}
 |d+1=>tP (aF N d) N
theorem jU(N:Nat):∀d,iA (aF N d)
 |0=>{r37_growing_state_2:=Ct.ok_none}
 |d+1=>{r37_growing_state_2:=zx _ (jU N d) N}
def r37_growing_state_2(N:Nat)(deep:Int)(in_:Bool)(Vars Ports Timers:List ae)(left:Int)(L:List Int)(At:Int)(all:List ae)(j:Int→ae→(List Act)→(List Act)→Int→Int→Int→(List ae)→(List Trans)→(List State)→ab R):ab R:=(aF N N).r37_growing_state_2 R deep in_ Vars Ports Timers left L At all j
theorem qL(N d:Nat)(deep:Int)(in_:Bool)(Vars Ports Timers:List ae)(left:Int)(L:List Int)(At:Int)(all:List ae)(k0:Int→ae→(List Act)→(List Act)→Int→Int→Int→(List ae)→(List Trans)→(List State)→ab R):(aF N (d+1)).r37_growing_state_2 R deep in_ Vars Ports Timers left L At all k0=dC (aF N d) N deep in_ Vars Ports Timers left L At all k0:=rfl
def rj(N:Nat):OC E0:=⟨lB (aF N N),(jU N N).r37_growing_state_2⟩
def z45:ShO S:=.bx [.i .i64,.st,.ns,.ns,.ns,.sw 5,.i .i64]
def z46:ShO S:=.bx [.p 1 0 0,.t .str,.t .str,.t .str,.ns,.i .i64,.ns]
def y21:Sh S:=.ag [.i .i64,.st,.t .act,.t .act,.sw 3,.sw 4,.i .i64]
def lD(N:Nat)(o C:Int)(I J U:List ae)(b9:Int)(j6:List Int)(j7:Int)(j8:List ae)(m6:Int)(m7:ae)(m8 m9:Int)(n9:ae)(o0:Int)(j:List State)(j9:Int→Int→Int→(List ae)→(List State)→ab R):ab R:=
 r37_growing_state_2 N (IntKind.wrap .i64 (o-1)) true I J U b9 j6 j7 j8 (fun k5 k7 k8 k9 l7 l9 m0 m3 m4 m5=>
 if j.length+1≤ah then(j9 (IntKind.wrap .i64 (C-1)) l9 m0 m3 (j++[(⟨k5,k7,k8,k9,m4,m5,l7⟩:State)])) else none)
def qM(N:Nat)(U:Int)(b9 j6 j7:List ae)(j8:List Int)(j9:Int)(k5:ae)(k7 k8:Int)(k9:ae)(l7:Int)(l9:Int→Int→(List ae)→(List State)→ab R)(rec:Int→Int→Int→(List ae)→(List State)→ab R)(J j C:Int)(I:List ae)(o:List State):ab R:=
 if((decide (J>0))==true)=true then
 (if((decide (j>0))==false)=true then
 (if(((o.length:Nat):Int)==0)=true then
 (lD N U J b9 j6 j7 j j8 C I j9 k5 k7 k8 k9 l7 o (fun m0 m3 m4 m5 m6=>
 rec m0 m3 m4 m5 m6))
 else
 (l9 j C I o))
 else
 (lD N U J b9 j6 j7 j j8 C I j9 k5 k7 k8 k9 l7 o (fun m7 m8 m9 n9 o0=>
 rec m7 m8 m9 n9 o0)))
 else
 (l9 j C I o)
def mE(N:Nat)(j:Int)(o C I:List ae)(J:List Int)(U:Int)(b9:ae)(j6 j7:Int)(j8:ae)(j9:Int)(k5:Int→Int→(List ae)→(List State)→ab R):Nat→Int→Int→Int→(List ae)→(List State)→ab R
 |0=>fun _ _ _ _ _=>none
 |n+1=>fun k7 k8 k9 l7 l9=>qM N j o C I J U b9 j6 j7 j8 j9 k5 (mE N j o C I J U b9 j6 j7 j8 j9 k5 n) k7 k8 k9 l7 l9
def lE(N:Nat)(b9:Bool)(j9 k5 k7:List ae)(I:Int)(j6:List Int)(J:Int)(j:List ae)(k8:Int)(k9:ae)(l7 l9:Int)(m0:ae)(m3:Int)(C:List State)(U:Int→Int→(List ae)→(List State)→ab R):ab R:=
 if b9=true then
 (ao N 2 j6 J (fun j7 j8=>
 fe N ((j.length:Nat):Int) (fun o=>
 if([104]:ae).length+o.length≤ah then(if j.length+([([104]:ae)++o]).length≤ah then(if C.length+1≤ah then(U (IntKind.wrap .i64 (I-1)) j8 (j++([([104]:ae)++o])) (C++[(⟨IntKind.wrap .i64 (3+j7),([104]:ae)++o,[],[],[],[],0⟩:State)])) else none) else none) else none)))
 else
 (U I J j C)
def mF(N:Nat)(l7:Int)(o C I:List ae)(l9:Int)(j:List Int)(m0:Int)(m3:List ae)(J:Int)(U:ae)(b9 j6:Int)(j7:ae)(j8:Int)(k5:Int→Int→(List ae)→(List State)→ab R):ab R:=
 ao N 3 j m0 (fun m4 m5=>
 mE N l7 o C I j J U b9 j6 j7 j8 (fun j9 k7 k8 k9=>
 if((decide (j9>0))==true)=true then
 (ao N 2 j k7 (fun m6 m7=>
 lE N (m6==0) o C I j9 j m7 k8 J U b9 j6 j7 j8 k9 (fun m8 m9 n9 o0=>
 k5 m8 m9 n9 o0)))
 else
 (lE N false o C I j9 j k7 k8 J U b9 j6 j7 j8 k9 (fun o5 o6 o7 o8=>
 k5 o5 o6 o7 o8))) N (IntKind.wrap .i64 (1+m4)) l9 m5 m3 ([]:List State))
def jj(N:Nat)(o:Int)(l7:Bool)(C I J:List ae)(U:Int)(j:List Int)(l9:Int)(b9:List ae)(j6:Int)(j7:ae)(j8 j9:Int)(k5:ae)(k7:Int)(k8:Int→Int→(List ae)→Int→(List State)→ab R)(m0:ab R):ab R:=
 if l7=true then
 (ao N 3 j l9 (fun m3 k9=>
 if(m3==0)=true then
 (mF N o C I J U j k9 b9 j6 j7 j8 2 k5 k7 (fun m4 m5 m6 m7=>
 k8 m4 m5 m6 2 m7))
 else
 (mF N o C I J U j k9 b9 j6 j7 j8 j9 k5 k7 (fun m8 m9 n9 o0=>
 k8 m8 m9 n9 j9 o0))))
 else
 (m0 )
def GF(N:Nat)(deep:Int)(in_:Bool)(Vars Ports Timers:List ae)(left:Int)(L:List Int)(At:Int)(C:Int→ae→(List Act)→(List Act)→Int→Int→Int→(List ae)→(List Trans)→(List State)→ab R):ab R:=
 fe N 0 (fun o=>
 if([115]:ae).length+o.length≤ah then(if([([115]:ae)++o]).length≤ah then(fe N 0 (fun j=>
 if([115]:ae).length+j.length≤ah then(if((decide (deep>0))==true)=true then
 (if((decide ((IntKind.wrap .i64 (left-1))≥2))==true)=true then
 (ao N 3 L At (fun J I=>
 jj N deep (decide (J>0)) Vars Ports Timers (IntKind.wrap .i64 (left-1)) L I ([([115]:ae)++o]) 0 [] 0 1 (([115]:ae)++j) 0 (fun U b9 j6 j7 j8=>
 C j7 (([115]:ae)++j) ([]:List Act) ([]:List Act) 0 U b9 j6 ([]:List Trans) j8)
 (C 1 (([115]:ae)++j) ([]:List Act) ([]:List Act) 0 (IntKind.wrap .i64 (left-1)) I ([([115]:ae)++o]) ([]:List Trans) ([]:List State))))
 else
 (jj N deep false Vars Ports Timers (IntKind.wrap .i64 (left-1)) L At ([([115]:ae)++o]) 0 [] 0 1 (([115]:ae)++j) 0 (fun j9 k5 k7 k8 k9=>
 C k8 (([115]:ae)++j) ([]:List Act) ([]:List Act) 0 j9 k5 k7 ([]:List Trans) k9)
 (C 1 (([115]:ae)++j) ([]:List Act) ([]:List Act) 0 (IntKind.wrap .i64 (left-1)) At ([([115]:ae)++o]) ([]:List Trans) ([]:List State))))
 else
 (jj N deep false Vars Ports Timers (IntKind.wrap .i64 (left-1)) L At ([([115]:ae)++o]) 0 [] 0 1 (([115]:ae)++j) 0 (fun l7 l9 m0 m3 m4=>
 C m3 (([115]:ae)++j) ([]:List Act) ([]:List Act) 0 l7 l9 m0 ([]:List Trans) m4)
 (C 1 (([115]:ae)++j) ([]:List Act) ([]:List Act) 0 (IntKind.wrap .i64 (left-1)) At ([([115]:ae)++o]) ([]:List Trans) ([]:List State)))) else none)) else none) else none)
def Dn(N:Nat):FD E0:={f:=180,fn:=Tryz.f180,q:=⟨[.p 0 0 0,.i .i64,.b],[z46,.bx [.t .int,.i .i64]]⟩,loops:=[{cur:=0,live:=[0,1,6,8,9],fix:=[(⟨8,[5]⟩,.deep .state)],out:=fun | .exit 0=>([0,6,8],[])|_=>([],[]),q:=⟨[.p 0 0 0,.i .i64,.p 3 0 0,.p 4 0 0,.i .i64],[z42,.bx [.t .int,.i .i64],.rw .str .app,z4,z45,.dp .state]⟩,G:=fun R K n a b c d e g h i j l m o p q s t=>mE N a c d e h l m o p q s (fun u v w=>pK ⟨[.p 0 0 0,.p 3 0 0,.p 4 0 0],[z42,.bx [.t .int,.i .i64],.rw .str .app,z4,z45,.dp .state]⟩ (K (.exit 0)) c d e u h v w l m o p q s) n b g i j t,B:=fun R K rec a b c d e g h i j l m o p q s t=>qM N a c d e h l m o p q s (fun u v w=>pK ⟨[.p 0 0 0,.p 3 0 0,.p 4 0 0],[z42,.bx [.t .int,.i .i64],.rw .str .app,z4,z45,.dp .state]⟩ (K (.exit 0)) c d e u h v w l m o p q s) (fun b g i j t=>rec a b c d e g h i j l m o p q s t) b g i j t}],cuts:=[{key:=11,live:=[0,1,6,8,9],fix:=[(⟨8,[5]⟩,.deep .state)],out:=fun | .normal=>([0,1,6,8,9],[])|_=>([],[]),q:=⟨[.p 0 0 0,.i .i64,.p 3 0 0,.p 4 0 0,.i .i64],[z42,.bx [.t .int,.i .i64],.rw .str .app,z4,z45,.dp .state]⟩,G:=fun R K a b c d e g h i j l m o p q s t=>lD N a b c d e g h i j l m o p q s t (fun u v w x=>pK ⟨[.p 0 0 0,.i .i64,.p 3 0 0,.p 4 0 0,.i .i64],[z42,.bx [.t .int,.i .i64],.rw .str .app,z4,z45,.dp .state]⟩ (K .normal) a u c d e v h w x l m o p q s)},{key:=13,live:=[0,6,8,107],out:=fun | .normal=>([6,8],[])|_=>([],[]),q:=⟨[.p 0 0 0,.p 3 0 0,.p 4 0 0,.b],[z42,.bx [.t .int,.i .i64],.rw .str .app,z4,z45,.dp .state]⟩,G:=fun R K a b c d e g h i j l m o p q s=>lE N a b c d e g h i j l m o p q s (fun t u v=>pK ⟨[.p 3 0 0,.p 4 0 0],[z42,.bx [.t .int,.i .i64],.rw .str .app,z4,z45,.dp .state]⟩ (K .normal) b c d t g u v j l m o p q)},{key:=8,live:=[0,1,6,8],out:=fun | .normal=>([6,8],[])|_=>([],[]),q:=⟨[.p 0 0 0,.i .i64,.p 3 0 0,.p 4 0 0],[z42,.bx [.t .int,.i .i64],.rw .str .app,z4,z4]⟩,G:=fun R K a b c d e g h i j l m o p q=>mF N a b c d e g h i j l m o p q (fun s t u=>pK ⟨[.p 3 0 0,.p 4 0 0],[z42,.bx [.t .int,.i .i64],.rw .str .app,z4,z45,.dp .state]⟩ (K .normal) b c d s g t u j l m o p q)},{key:=6,live:=[0,1,6,8,55],out:=fun | .normal=>([6,8],[])|_=>([],[]),q:=⟨[.p 0 0 0,.i .i64,.p 3 0 0,.p 4 0 0,.b],[z42,.bx [.t .int,.i .i64],.rw .str .app,z4,z4]⟩,G:=fun R K a b c d e g h i j l m o p q s=>jj N a b c d e g h i j l m o p q s (fun t u v w=>pK ⟨[.p 3 0 0,.p 4 0 0],[z42,.bx [.t .int,.i .i64],.rw .str .app,z4,z45,.dp .state]⟩ (K .normal) c d e t h u v l m o w q s) (pK ⟨[.p 3 0 0,.p 4 0 0],[z42,.bx [.t .int,.i .i64],.rw .str .app,z4,z4]⟩ (K .normal) c d e g h i j l m o p q s)}],g:=[cn N,zw N,rj N],exit:=[(⟨6,[2]⟩,.tree .act),(⟨6,[3]⟩,.tree .act),(⟨6,[4]⟩,.row .trans .own),(⟨6,[5]⟩,.deep .state)],fork:=true}
def Dp(N:Nat):OC E0:=⟨_,FD.ct e0 (Dn N) N (fun R k a b c d e g h i=>GF N a b c d e g h i (fun j l m o p q=>oK ⟨y21,[z42,.bx [.t .int,.i .i64]],[.rw .str .app,.rw .trans .own,.dp .state]⟩ k j l m o p c d e q h))⟩
def ow(N:Nat)(l:List ae)(or_:ae)(L:List Int)(At:Int)(j:ae→Int→ab R):ab R:=
 if(((l.length:Nat):Int)==0)=true then
 (j or_ At)
 else
 (ao N ((l.length:Nat):Int) L At (fun o C=>
 (at? l o).bind fun I=>
 j I C))
def Sb(N:Nat):FD E0:={f:=197,fn:=Tryz.f197,q:=⟨[.p 0 0 0,.t .str,.st],[.bx [.t .int,.i .i64]]⟩,g:=[cn N]}
def EB(N:Nat):OC E0:=⟨_,FD.ct e0 (Sb N) N (fun R k a b c d=>ow N a b c d (fun e=>oK ⟨.st,[.bx [.t .int,.i .i64]],[]⟩ k e c))⟩
def y22:Sh S:=.ag [.t .str,.t .str,.t .str,.t .str]
structure fG where
 r37_Expr:(R:Type)→(List ae)→(List ae)→(List ae)→(List ae)→Int→(List Int)→Int→(Int→Int→ae→(List Expr)→Int→Int→ab R)→ab R
def KW:Pat S:=⟨[.p 0 0 0,y22,.i .i64],[.bx [.t .int,.i .i64]]⟩
def EC(F:fG):Ct S:=⟨196,KW,fun R k a b c d e g h=>F.r37_Expr R a b c d e g h (fun i j l m o=>oK ⟨y4,[.bx [.t .int,.i .i64]],[]⟩ k i j l m o g)⟩
structure tQ(F:fG):Prop where
 r37_Expr:(EC F).ok E0
def z47:ShO S:=.bx [.t .str,.t .str,.t .str,.t .str]
end
end So
