/- T3_7: a part of the proof of SoundSpoilt: lemmas on the evaluator and on the functions that the law reaches. -/
import Derived.Test.YtcllbmdpckfnhaaGreatT3x6
set_option maxRecDepth 100000
set_option linter.unusedVariables false
namespace So
open Go TE Go.Proofs
noncomputable section
variable{R:Type}
def zV(N:Nat)(I:Int)(J:Bool)(U:Int)(b9:List Chart)(j6:List Inst)(j7:List ak)(j8:List Cert)(m0 m3:Int)(m4 j9 k5 m5:ae)(o C m6:Int)(j:Int→ab R)(k7:ab R):ab R:=
 if J=true then
 (j 7)
 else
 (BR N U b9 j6 j7 j8 I j9 k5 (fun k8=>
 if k8=true then
 (j 8)
 else
 ((ifB (decide (o<1)) false (some (decide (o>32))) (some true)).bind fun k9=>
 (ifB k9 false (some (decide (C<0))) (some true)).bind fun l7=>
 (ifB l7 false (some (decide (C>7))) (some true)).bind fun l9=>
 if l9=true then
 (j 16)
 else
 (k7 ))))
def qp(N:Nat)(C:Int)(I:List Chart)(J:List Inst)(o:List ak)(U:List Cert)(j7 j8:Int)(j9:ab R)(j6:Int→Int→ab R)(rec:Int→ab R)(b9:Int):ab R:=
 if(decide (b9<((o.length:Nat):Int)))=true then
 ((at? o b9).bind fun j=>
 ze N C I J o U j.Name (fun k5=>
 if(decide (k5<b9))=true then
 (j6 8 j.At)
 else
 (sS N C I J o U j.From (fun k7=>
 (ifB (decide (k7<0)) false (tK N C I J o U j.From (fun m4 m5 m6 m7 k8 m8 m9 n9=>
 jI N k8 (fun k9=>
 fD N k9 j.Port (fun l7=>
 some (!l7))))) (some true)).bind fun l9=>
 (ifB l9 false (sS N C I J o U j.To (fun m0=>
 some (decide (m0<0)))) (some true)).bind fun c24=>
 zV N b9 c24 C I J o U j7 j8 j.Name j.From j.Port j.To j.Cap j.Prio j.At (fun m3=>
 j6 m3 j.At)
 (rec (IntKind.wrap .i64 (b9+1)))))))
 else
 (j9 )
def nk(N:Nat)(j:Int)(o:List Chart)(C:List Inst)(I:List ak)(J:List Cert)(U b9:Int)(j6:ab R)(j7:Int→Int→ab R):Nat→Int→ab R
 |0=>fun _=>none
 |n+1=>fun j8=>qp N j o C I J U b9 j6 j7 (nk N j o C I J U b9 j6 j7 n) j8
def qq(N:Nat)(C:Int)(I:List ae)(U:Int)(b9:List Chart)(j:List Inst)(J:List ak)(j6:List Cert)(k9 l7:Int)(j7:ab R)(j8:Int→Int→ab R)(rec:Int→ab R)(o:Int):ab R:=
 if(decide (o<((I.length:Nat):Int)))=true then
 ((at? j C).bind fun j9=>
 (at? I o).bind fun k5=>
 BR N U b9 j J j6 ((J.length:Nat):Int) j9.Name k5 (fun k7=>
 if(!k7)=true then
 ((at? j C).bind fun k8=>
 j8 7 k8.At)
 else
 (rec (IntKind.wrap .i64 (o+1)))))
 else
 (j7 )
def nq(N:Nat)(j:Int)(o:List ae)(C:Int)(I:List Chart)(J:List Inst)(U:List ak)(b9:List Cert)(j6 j7:Int)(j8:ab R)(j9:Int→Int→ab R):Nat→Int→ab R
 |0=>fun _=>none
 |n+1=>fun k5=>qq N j o C I J U b9 j6 j7 j8 j9 (nq N j o C I J U b9 j6 j7 j8 j9 n) k5
def qt(N:Nat)(C:Int)(I:List Chart)(j:List Inst)(J:List ak)(U:List Cert)(b9 j6:Int)(j7:ab R)(j8:Int→Int→ab R)(rec:Int→ab R)(o:Int):ab R:=
 if(decide (o<((j.length:Nat):Int)))=true then
 ((at? j o).bind fun j9=>
 tK N C I j J U j9.Name (fun l7 l9 m0 m3 k5 m4 m5 m6=>
 jI N k5 (fun k7=>
 nq N o k7 C I j J U b9 j6 (rec (IntKind.wrap .i64 (o+1)))
 (fun k8 k9=>
 j8 k8 k9) N 0)))
 else
 (j7 )
def jf(N:Nat)(j:Int)(o:List Chart)(C:List Inst)(I:List ak)(J:List Cert)(U b9:Int)(j6:ab R)(j7:Int→Int→ab R):Nat→Int→ab R
 |0=>fun _=>none
 |n+1=>fun j8=>qt N j o C I J U b9 j6 j7 (jf N j o C I J U b9 j6 j7 n) j8
def zf(N:Nat)(Age:Int)(Charts:List Chart)(Insts:List Inst)(Chans:List ak)(Certs:List Cert)(j:Int→Int→ab R):ab R:=
 nk N Age Charts Insts Chans Certs 0 0 (jf N Age Charts Insts Chans Certs 0 0 (j 0 0)
 (fun o C=>
 j o C) N 0)
 (fun I J=>
 j I J) N 0
def OM(N:Nat):FD E0:={f:=42,fn:=Tryz.f42,q:=⟨[y18],[]⟩,loops:=[{cur:=0,live:=[1,2,3],out:=fun | .exit 0=>([1,2],[]) | .ret=>([2],[])|_=>([],[]),q:=⟨[.p 0 0 0,.p 1 0 0,.i .i64],[z38,.bx [.i .i64,.i .i64]]⟩,G:=fun R K n a b c d e g h i=>nk N b c d e g h i (pK ⟨[.p 0 0 0,.p 1 0 0],[z38,.bx [.i .i64,.i .i64]]⟩ (K (.exit 0)) b c d e g h i) (pK ⟨[.p 0 0 0],[.bx [.i .i64,.i .i64]]⟩ (K .ret)) n a,B:=fun R K rec a b c d e g h i=>qp N b c d e g h i (pK ⟨[.p 0 0 0,.p 1 0 0],[z38,.bx [.i .i64,.i .i64]]⟩ (K (.exit 0)) b c d e g h i) (pK ⟨[.p 0 0 0],[.bx [.i .i64,.i .i64]]⟩ (K .ret)) (fun a=>rec a b c d e g h i) a},{cur:=5,live:=[1,2,5,6,7],out:=fun | .exit 5=>([1,2,5],[]) | .ret=>([2],[])|_=>([],[]),q:=⟨[.p 0 0 0,.p 1 0 0,.i .i64,.t .str,.i .i64],[z38,.bx [.i .i64,.i .i64]]⟩,G:=fun R K n a b c d e g h i j l=>nq N a b d e g h i j l (pK ⟨[.p 0 0 0,.p 1 0 0,.i .i64],[z38,.bx [.i .i64,.i .i64]]⟩ (K (.exit 5)) a d e g h i j l) (pK ⟨[.p 0 0 0],[.bx [.i .i64,.i .i64]]⟩ (K .ret)) n c,B:=fun R K rec a b c d e g h i j l=>qq N a b d e g h i j l (pK ⟨[.p 0 0 0,.p 1 0 0,.i .i64],[z38,.bx [.i .i64,.i .i64]]⟩ (K (.exit 5)) a d e g h i j l) (pK ⟨[.p 0 0 0],[.bx [.i .i64,.i .i64]]⟩ (K .ret)) (fun c=>rec a b c d e g h i j l) c},{cur:=3,live:=[1,2,5],out:=fun | .exit 3=>([2],[]) | .ret=>([2],[])|_=>([],[]),q:=⟨[.p 0 0 0,.p 1 0 0,.i .i64],[z38,.bx [.i .i64,.i .i64]]⟩,G:=fun R K n a b c d e g h i=>jf N b c d e g h i (pK ⟨[.p 0 0 0],[.bx [.i .i64,.i .i64]]⟩ (K (.exit 3)) h i) (pK ⟨[.p 0 0 0],[.bx [.i .i64,.i .i64]]⟩ (K .ret)) n a,B:=fun R K rec a b c d e g h i=>qt N b c d e g h i (pK ⟨[.p 0 0 0],[.bx [.i .i64,.i .i64]]⟩ (K (.exit 3)) h i) (pK ⟨[.p 0 0 0],[.bx [.i .i64,.i .i64]]⟩ (K .ret)) (fun a=>rec a b c d e g h i) a}],cuts:=[{key:=8,live:=[1,2,3,4,30],out:=fun | .ret=>([2],[]) | .normal=>([1,2,3],[])|_=>([],[]),q:=⟨[.p 0 0 0,.p 1 0 0,.i .i64,.p 2 0 0,.b],[z38,.bx [.i .i64,.i .i64],z22]⟩,G:=fun R K a b c d e g h i j l m o p q s t=>zV N a b c d e g h i j l m o p q s t (fun u=>pK ⟨[.p 0 0 0],[.bx [.i .i64,.i .i64]]⟩ (K .ret) u t) (pK ⟨[.p 0 0 0,.p 1 0 0,.i .i64],[z38,.bx [.i .i64,.i .i64]]⟩ (K .normal) a c d e g h i j)}],g:=[mv N,zU N,Em N,mY N,xp N,Kb N,Rq N]}
def ON(N:Nat):OC E0:=⟨_,FD.ct e0 (OM N) N (fun R k a b c d e=>zf N a b c d e (oK ⟨.ag [.i .i64,.i .i64],[],[]⟩ k))⟩
structure cY where
 r12_history:(R:Type)→(List State)→(Bool→ab R)→ab R
def Du:Pat S:=⟨[.t .state],[]⟩
def xW(F:cY):Ct S:=⟨148,Du,fun R k a=>F.r12_history R a (oK ⟨.b,[],[]⟩ k)⟩
structure pg(F:cY):Prop where
 r12_history:(xW F).ok E0
def nr(F:cY)(N:Nat)(C:List State)(I:ab R)(J:Bool→ab R)(rec:Int→ab R)(o:Int):ab R:=
 if(decide (o<((C.length:Nat):Int)))=true then
 ((at? C o).bind fun j=>
 je N j.Kind j.Name j.Entry j.Exit j.Trans j.Kids j.At (fun U=>
 (ifB (!U) false ((at? C o).bind fun e5=>
 F.r12_history _ e5.Kids (fun r6=>
 some r6)) (some true)).bind fun c7=>
 if c7=true then
 (J true)
 else
 (rec (IntKind.wrap .i64 (o+1)))))
 else
 (I )
def jL(F:cY)(N:Nat)(j:List State)(o:ab R)(C:Bool→ab R):Nat→Int→ab R
 |0=>fun _=>none
 |n+1=>fun I=>nr F N j o C (jL F N j o C n) I
def oq(F:cY)(N:Nat)(l:List State)(j:Bool→ab R):ab R:=
 jL F N l (j false)
 (fun y8=>
 j y8) N 0
def xX(F:cY)(hF:pg F)(N:Nat):FD E0:={f:=148,fn:=Tryz.f148,q:=Du,loops:=[{cur:=0,live:=[0,3],out:=fun | .exit 0=>([],[]) | .ret=>([2],[])|_=>([],[]),q:=⟨[.t .state,.i .i64],[]⟩,G:=fun R K n a b=>jL F N a (pK ⟨[],[]⟩ (K (.exit 0))) (pK ⟨[.b],[]⟩ (K .ret)) n b,B:=fun R K rec a b=>nr F N a (pK ⟨[],[]⟩ (K (.exit 0))) (pK ⟨[.b],[]⟩ (K .ret)) (rec a) b}],g:=[rU N,⟨xW F,hF.r12_history⟩]}
theorem IK(F:cY)(hF:pg F)(N:Nat):Ct.ok E0 ⟨(xX F hF N).f,(xX F hF N).q,fun R k a=>oq F N a (oK ⟨.b,[],[]⟩ k)⟩:=FD.ct e0 (xX F hF N) N (fun R k a=>oq F N a (oK ⟨.b,[],[]⟩ k))
def BS(F:cY)(N:Nat):cY where
 r12_history:=fun R l j=>oq F N l j
def cW(N:Nat):Nat→cY
 |0=>{r12_history:=fun _ _ _=>none}
 |d+1=>BS (cW N d) N
theorem re(N:Nat):∀d,pg (cW N d)
 |0=>{r12_history:=Ct.ok_none}
 |d+1=>{r12_history:=IK _ (re N d) N}
def r12_history(N:Nat)(l:List State)(j:Bool→ab R):ab R:=(cW N N).r12_history R l j
theorem Kc(N d:Nat)(l:List State)(k0:Bool→ab R):(cW N (d+1)).r12_history R l k0=oq (cW N d) N l k0:=rfl
def Ls(N:Nat):OC E0:=⟨xW (cW N N),(re N N).r12_history⟩
def FX(N:Nat)(Kind:Int)(Name:ae)(Entry Exit:List Act)(Trans_:List Trans)(Kids:List State)(At:Int)(j:Int→ab R):ab R:=
 if(Kind==3)=true then
 (j 4)
 else
 (if(Kind==4)=true then
 (j 5)
 else
 (if(Kind==2)=true then
 (j 3)
 else
 (if(((Kids.length:Nat):Int)==0)=true then
 (j 1)
 else
 (j 2))))
def Rr(N:Nat):FD E0:={f:=204,fn:=Tryz.f204,q:=⟨[y2],[]⟩}
def Rs(N:Nat):OC E0:=⟨_,FD.ct e0 (Rr N) N (fun R k a b c d e g h=>FX N a b c d e g h (oK ⟨.i .i64,[],[]⟩ k))⟩
def y19:Sh S:=.ag [.i .i64,.i .i64,.i .i64,.i .i64,.i .i64,.i .i64,.st]
def OO(N:Nat)(Kind Parent Last Init Entry Exit:Int)(Name:ae)(j:Bool→ab R):ab R:=
 j (decide (Kind≤3))
def Lt(N:Nat):FD E0:={f:=173,fn:=Tryz.f173,q:=⟨[y19],[]⟩}
def rZ(N:Nat):OC E0:=⟨_,FD.ct e0 (Lt N) N (fun R k a b c d e g h=>OO N a b c d e g h (oK ⟨.b,[],[]⟩ k))⟩
structure fQ where
 r13_put:(R:Type)→(List State)→Int→(List Node)→((List Node)→ab R)→ab R
def Mh:Pat S:=⟨[.sw 0,.t .state,.i .i64],[.rw .node .own]⟩
def Hr(F:fQ):Ct S:=⟨189,Mh,fun R k a b c=>F.r13_put R a b c (oK ⟨.sw 1,[.g],[.rw .node .own]⟩ k)⟩
structure vO(F:fQ):Prop where
 r13_put:(Hr F).ok E0
def vP(F:fQ)(N:Nat)(C:List State)(j6 I j:Int)(J:List Node)(U:(List Node)→ab R):ab R:=
 (at? C I).bind fun b9=>
 F.r13_put _ b9.Kids j J (fun o=>
 if(0:Int)≤j∧j<(o.length:Int) then(match o[j.toNat]? with
 |some e21=>(U (o.set j.toNat (⟨e21.Kind,e21.Parent,IntKind.wrap .i64 (((o.length:Nat):Int)-1),e21.Init,e21.Entry,e21.Exit,e21.Name⟩:Node)))
 |none=>none) else none)
def uq(F:fQ)(N:Nat)(b9:List State)(j:Int)(j6:(List Node)→ab R)(rec:Int→(List Node)→ab R)(J:Int)(o:List Node):ab R:=
 if(decide (J<((b9.length:Nat):Int)))=true then
 ((at? b9 J).bind fun U=>
 FX N U.Kind U.Name U.Entry U.Exit U.Trans U.Kids U.At (fun C=>
 (at? b9 J).bind fun I=>
 if o.length+[(⟨C,j,0,(-1),(-1),(-1),I.Name⟩:Node)].length≤ah then(if(0:Int)≤j∧j<((o++[(⟨C,j,0,(-1),(-1),(-1),I.Name⟩:Node)]).length:Int) then(match(o++[(⟨C,j,0,(-1),(-1),(-1),I.Name⟩:Node)])[j.toNat]? with
 |some e30=>((ifB (decide (e30.Init<0)) true (if(0:Int)≤j∧j<((o++[(⟨C,j,0,(-1),(-1),(-1),I.Name⟩:Node)]).length:Int) then(match(o++[(⟨C,j,0,(-1),(-1),(-1),I.Name⟩:Node)])[j.toNat]? with
 |some e31=>(some (e31.Kind==2))
 |none=>none) else none) (some false)).bind fun j7=>
 (ifB j7 true (if(0:Int)≤((o.length:Nat):Int)∧((o.length:Nat):Int)<((o++[(⟨C,j,0,(-1),(-1),(-1),I.Name⟩:Node)]).length:Int) then(match(o++[(⟨C,j,0,(-1),(-1),(-1),I.Name⟩:Node)])[((o.length:Nat):Int).toNat]? with
 |some e33=>(some (decide (e33.Kind≤3)))
 |none=>none) else none) (some false)).bind fun j8=>
 if j8=true then
 (if(0:Int)≤j∧j<((o++[(⟨C,j,0,(-1),(-1),(-1),I.Name⟩:Node)]).length:Int) then(match(o++[(⟨C,j,0,(-1),(-1),(-1),I.Name⟩:Node)])[j.toNat]? with
 |some e35=>(vP F N b9 j J ((o.length:Nat):Int) ((o++[(⟨C,j,0,(-1),(-1),(-1),I.Name⟩:Node)]).set j.toNat (⟨e35.Kind,e35.Parent,e35.Last,((o.length:Nat):Int),e35.Entry,e35.Exit,e35.Name⟩:Node)) (fun j9=>
 rec (IntKind.wrap .i64 (J+1)) j9))
 |none=>none) else none)
 else
 (vP F N b9 j J ((o.length:Nat):Int) (o++[(⟨C,j,0,(-1),(-1),(-1),I.Name⟩:Node)]) (fun k5=>
 rec (IntKind.wrap .i64 (J+1)) k5)))
 |none=>none) else none) else none))
 else
 (j6 o)
def ky(F:fQ)(N:Nat)(j:List State)(o:Int)(C:(List Node)→ab R):Nat→Int→(List Node)→ab R
 |0=>fun _ _=>none
 |n+1=>fun I J=>uq F N j o C (ky F N j o C n) I J
def zg(F:fQ)(N:Nat)(kids:List State)(up:Int)(l:List Node)(j:(List Node)→ab R):ab R:=
 ky F N kids up (fun o=>
 j o) N 0 l
def Ht(F:fQ)(hF:vO F)(N:Nat):FD E0:={f:=189,fn:=Tryz.f189,q:=Mh,loops:=[{cur:=0,live:=[0,1,2,7],fix:=[(⟨0,[]⟩,.fresh .node .own)],out:=fun | .exit 0=>([0],[])|_=>([],[]),q:=⟨[.sw 1,.t .state,.i .i64,.i .i64],[.g,.rw .node .own]⟩,G:=fun R K n a b c d=>ky F N a b (pK ⟨[.sw 1],[.g,.rw .node .own]⟩ (K (.exit 0))) n c d,B:=fun R K rec a b c d=>uq F N a b (pK ⟨[.sw 1],[.g,.rw .node .own]⟩ (K (.exit 0))) (rec a b) c d}],cuts:=[{key:=8,live:=[0,1,2,7,8],out:=fun | .normal=>([0,1,2,7],[])|_=>([],[]),q:=⟨[.sw 1,.t .state,.i .i64,.i .i64,.i .i64],[.g,.rw .node .own]⟩,G:=fun R K a b c d e=>vP F N a b c d e (pK ⟨[.sw 1,.t .state,.i .i64,.i .i64],[.g,.rw .node .own]⟩ (K .normal) a b c)}],g:=[rZ N,⟨Hr F,hF.r13_put⟩,Rs N]}
theorem OP(F:fQ)(hF:vO F)(N:Nat):Ct.ok E0 ⟨(Ht F hF N).f,(Ht F hF N).q,fun R k a b c=>zg F N a b c (oK ⟨.sw 1,[.g],[.rw .node .own]⟩ k)⟩:=FD.ct e0 (Ht F hF N) N (fun R k a b c=>zg F N a b c (oK ⟨.sw 1,[.g],[.rw .node .own]⟩ k))
def Hu(F:fQ)(N:Nat):fQ where
 r13_put:=fun R kids up l j=>zg F N kids up l j
def cD(N:Nat):Nat→fQ
 |0=>{r13_put:=fun _ _ _ _ _=>none}
 |d+1=>Hu (cD N d) N
theorem xq(N:Nat):∀d,vO (cD N d)
 |0=>{r13_put:=Ct.ok_none}
 |d+1=>{r13_put:=OP _ (xq N d) N}
def r13_put(N:Nat)(kids:List State)(up:Int)(l:List Node)(j:(List Node)→ab R):ab R:=(cD N N).r13_put R kids up l j
theorem Rt(N d:Nat)(kids:List State)(up:Int)(l:List Node)(k0:(List Node)→ab R):(cD N (d+1)).r13_put R kids up l k0=zg (cD N d) N kids up l k0:=rfl
def Uy(N:Nat):OC E0:=⟨Hr (cD N N),(xq N N).r13_put⟩
def zh(N:Nat)(Name:ae)(Steps Fuel:Int)(Vars Ports Timers:List ai)(States:List State)(At:Int)(o:(List Node)→ab R):ab R:=
 r13_put N States 0 ([(⟨2,(-1),0,(-1),(-1),(-1),[]⟩:Node)]) (fun j=>
 if(0:Int)≤0∧0<(j.length:Int) then(match j[(Int.toNat 0)]? with
 |some e2=>(o (j.set (Int.toNat 0) (⟨e2.Kind,e2.Parent,IntKind.wrap .i64 (((j.length:Nat):Int)-1),e2.Init,e2.Entry,e2.Exit,e2.Name⟩:Node)))
 |none=>none) else none)
def OQ(N:Nat):FD E0:={f:=171,fn:=Tryz.f171,q:=⟨[y12],[]⟩,g:=[Uy N],mode:=fun|5=>.own|_=>.app,exit:=[(⟨2,[]⟩,.tree .node)]}
def HT(N:Nat):OC E0:=⟨_,FD.ct e0 (OQ N) N (fun R k a b c d e g h i=>zh N a b c d e g h i (oK ⟨.t .node,[],[]⟩ k))⟩
def sa(N:Nat)(o:List Node)(C:ae)(I:ab R)(J:Int→ab R)(rec:Int→ab R)(j:Int):ab R:=
 if(decide (j<((o.length:Nat):Int)))=true then
 ((at? o j).bind fun U=>
 if(U.Name==C)=true then
 (J j)
 else
 (rec (IntKind.wrap .i64 (j+1))))
 else
 (I )
def pE(N:Nat)(j:List Node)(o:ae)(C:ab R)(I:Int→ab R):Nat→Int→ab R
 |0=>fun _=>none
 |n+1=>fun J=>sa N j o C I (pE N j o C I n) J
def zi(N:Nat)(l:List Node)(name:ae)(j:Int→ab R):ab R:=
 pE N l name (j (-1))
 (fun y5=>
 j y5) N 1
def Ru(N:Nat):FD E0:={f:=172,fn:=Tryz.f172,q:=⟨[.t .node,.st],[]⟩,loops:=[{cur:=0,live:=[0,1,5],out:=fun | .exit 0=>([],[]) | .ret=>([4],[])|_=>([],[]),q:=⟨[.t .node,.st,.i .i64],[]⟩,G:=fun R K n a b c=>pE N a b (pK ⟨[],[]⟩ (K (.exit 0))) (pK ⟨[.i .i64],[]⟩ (K .ret)) n c,B:=fun R K rec a b c=>sa N a b (pK ⟨[],[]⟩ (K (.exit 0))) (pK ⟨[.i .i64],[]⟩ (K .ret)) (rec a b) c}]}
def Kd(N:Nat):OC E0:=⟨_,FD.ct e0 (Ru N) N (fun R k a b=>zi N a b (oK ⟨.i .i64,[],[]⟩ k))⟩
def rE(N:Nat)(Name:ae)(Steps Fuel:Int)(Vars Ports Timers:List ai)(States:List State)(At:Int)(name:ae)(C:Bool→ab R):ab R:=
 zh N Name Steps Fuel Vars Ports Timers States At (fun j=>
 zi N j name (fun o=>
 (ifB (decide (o>0)) true ((at? j o).bind fun I=>
 some (decide (I.Kind≤3))) (some false)).bind fun J=>
 C J))
def OR(N:Nat):FD E0:={f:=149,fn:=Tryz.f149,q:=⟨[y12,.st],[]⟩,g:=[HT N,Kd N,rZ N]}
def OS(N:Nat):OC E0:=⟨_,FD.ct e0 (OR N) N (fun R k a b c d e g h i j=>rE N a b c d e g h i j (oK ⟨.b,[],[]⟩ k))⟩
def nu(N:Nat)(I:Int)(J:List Chart)(U:List Inst)(b9:List ak)(j6:List Cert)(l9 m0 m3 m4:ae)(o m5:List ae)(m6:List Cell)(m7:Int)(j7:ab R)(C:Int→ab R)(rec:Int→ab R)(j:Int):ab R:=
 if(decide (j<((o.length:Nat):Int)))=true then
 ((at? o j).bind fun j8=>
 sS N I J U b9 j6 j8 (fun j9=>
 if(decide (j9<0))=true then
 (C 7)
 else
 (if(0:Int)≤0∧0≤j∧j≤((o.length:Nat):Int) then((at? o j).bind fun k5=>
 fD N ((o.take j.toNat).drop (Int.toNat 0)) k5 (fun k7=>
 if k7=true then
 (C 8)
 else
 ((at? o j).bind fun k8=>
 tK N I J U b9 j6 k8 (fun m8 m9 n9 o0 o5 o6 k9 o7=>
 r12_history N k9 (fun l7=>
 if l7=true then
 (C 17)
 else
 (rec (IntKind.wrap .i64 (j+1)))))))) else none)))
 else
 (j7 )
def jM(N:Nat)(j:Int)(o:List Chart)(C:List Inst)(I:List ak)(J:List Cert)(U b9 j6 j7:ae)(j8 j9:List ae)(k5:List Cell)(k7:Int)(k8:ab R)(k9:Int→ab R):Nat→Int→ab R
 |0=>fun _=>none
 |n+1=>fun l7=>nu N j o C I J U b9 j6 j7 j8 j9 k5 k7 k8 k9 (jM N j o C I J U b9 j6 j7 j8 j9 k5 k7 k8 k9 n) l7
def nv(N:Nat)(b9:Int)(j6:List Chart)(j7:List Inst)(C:List ak)(j8:List Cert)(m4 m5 m6 m7:ae)(U o:List ae)(m8:List Cell)(m9:Int)(j9:ab R)(I:Int→ab R)(rec:Int→ab R)(j:Int):ab R:=
 if(decide (j<((o.length:Nat):Int)))=true then
 ((at? o j).bind fun k5=>
 ze N b9 j6 j7 C j8 k5 (fun J=>
 if(decide (J<0))=true then
 (I 7)
 else
 (if(0:Int)≤0∧0≤j∧j≤((o.length:Nat):Int) then((at? o j).bind fun k7=>
 fD N ((o.take j.toNat).drop (Int.toNat 0)) k7 (fun k8=>
 if k8=true then
 (I 8)
 else
 ((at? C J).bind fun k9=>
 fD N U k9.From (fun l7=>
 (ifB (!l7) false ((at? C J).bind fun l9=>
 fD N U l9.To (fun m0=>
 some (!m0))) (some true)).bind fun m3=>
 if m3=true then
 (I 17)
 else
 (rec (IntKind.wrap .i64 (j+1))))))) else none)))
 else
 (j9 )
def jN(N:Nat)(j:Int)(o:List Chart)(C:List Inst)(I:List ak)(J:List Cert)(U b9 j6 j7:ae)(j8 j9:List ae)(k5:List Cell)(k7:Int)(k8:ab R)(k9:Int→ab R):Nat→Int→ab R
 |0=>fun _=>none
 |n+1=>fun l7=>nv N j o C I J U b9 j6 j7 j8 j9 k5 k7 k8 k9 (jN N j o C I J U b9 j6 j7 j8 j9 k5 k7 k8 k9 n) l7
def kU(N:Nat)(I:Int)(J:List Chart)(U:List Inst)(b9:List ak)(j6:List Cert)(j7 j8 o C:ae)(j9 k5:List ae)(k7:List Cell)(k8:Int)(j:Int→ab R):ab R:=
 if(o==C)=true then
 (j 17)
 else
 (jN N I J U b9 j6 j7 j8 o C j9 k5 k7 k8 (j 0)
 (fun k9=>
 j k9) N 0)
def sT(N:Nat)(Age:Int)(Charts:List Chart)(Insts:List Inst)(Chans:List ak)(Certs:List Cert)(Name Inst_ Req Resp:ae)(j C:List ae)(Cells:List Cell)(At:Int)(o:Int→ab R):ab R:=
 jM N Age Charts Insts Chans Certs Name Inst_ Req Resp j C Cells At (fD N j Inst_ (fun I=>
 (ifB (!I) false (tK N Age Charts Insts Chans Certs Inst_ (fun J U b9 j6 j7 j8 j9 k5=>
 rE N J U b9 j6 j7 j8 j9 k5 Req (fun k7=>
 some (!k7)))) (some true)).bind fun k8=>
 (ifB k8 false (tK N Age Charts Insts Chans Certs Inst_ (fun k9 l7 l9 m0 m3 m4 m5 m6=>
 rE N k9 l7 l9 m0 m3 m4 m5 m6 Resp (fun m7=>
 some (!m7)))) (some true)).bind fun m8=>
 if m8=true then
 (o 7)
 else
 (kU N Age Charts Insts Chans Certs Name Inst_ Req Resp j C Cells At (fun m9=>
 o m9))))
 (fun n9=>
 o n9) N 0
def Lu(N:Nat):FD E0:={f:=101,fn:=Tryz.f101,q:=⟨[y18,y17],[]⟩,loops:=[{cur:=0,live:=[2,3,5],out:=fun | .exit 0=>([2,3],[]) | .ret=>([4],[])|_=>([],[]),q:=⟨[.p 0 0 0,.p 1 0 0,.i .i64],[z38,z36]⟩,G:=fun R K n a b c d e g h i j l m o p q=>jM N b c d e g h i j l m o p q (pK ⟨[.p 0 0 0,.p 1 0 0],[z38,z36]⟩ (K (.exit 0)) b c d e g h i j l m o p q) (pK ⟨[.i .i64],[]⟩ (K .ret)) n a,B:=fun R K rec a b c d e g h i j l m o p q=>nu N b c d e g h i j l m o p q (pK ⟨[.p 0 0 0,.p 1 0 0],[z38,z36]⟩ (K (.exit 0)) b c d e g h i j l m o p q) (pK ⟨[.i .i64],[]⟩ (K .ret)) (fun a=>rec a b c d e g h i j l m o p q) a},{cur:=3,live:=[2,3,6],out:=fun | .exit 3=>([],[]) | .ret=>([4],[])|_=>([],[]),q:=⟨[.p 0 0 0,.p 1 0 0,.i .i64],[z38,z36]⟩,G:=fun R K n a b c d e g h i j l m o p q=>jN N b c d e g h i j l m o p q (pK ⟨[],[]⟩ (K (.exit 3))) (pK ⟨[.i .i64],[]⟩ (K .ret)) n a,B:=fun R K rec a b c d e g h i j l m o p q=>nv N b c d e g h i j l m o p q (pK ⟨[],[]⟩ (K (.exit 3))) (pK ⟨[.i .i64],[]⟩ (K .ret)) (fun a=>rec a b c d e g h i j l m o p q) a}],cuts:=[{key:=12,live:=[2,3],out:=fun | .ret=>([4],[])|_=>([],[]),q:=⟨[.p 0 0 0,.p 1 0 0],[z38,z36]⟩,G:=fun R K a b c d e g h i j l m o p=>kU N a b c d e g h i j l m o p (pK ⟨[.i .i64],[]⟩ (K .ret))}],g:=[zU N,Em N,mY N,Kb N,Ls N,OS N]}
def Lv(N:Nat):OC E0:=⟨_,FD.ct e0 (Lu N) N (fun R k a b c d e g h i j l m o p=>sT N a b c d e g h i j l m o p (oK ⟨.i .i64,[],[]⟩ k))⟩
def zW(N:Nat)(l:List Node)(i:Int)(j:Bool→ab R):ab R:=
 (ifB (decide (i≥0)) true (some (decide (i<((l.length:Nat):Int)))) (some false)).bind fun o=>
 j o
def Wx(N:Nat):FD E0:={f:=190,fn:=Tryz.f190,q:=⟨[.t .node,.i .i64],[]⟩}
def Ke(N:Nat):OC E0:=⟨_,FD.ct e0 (Wx N) N (fun R k a b=>zW N a b (oK ⟨.b,[],[]⟩ k))⟩
def xr(N:Nat)(o:List Int)(C:Int)(I:ab R)(J:Bool→ab R)(rec:Int→ab R)(j:Int):ab R:=
 if(decide (j<((o.length:Nat):Int)))=true then
 ((at? o j).bind fun U=>
 if(U==C)=true then
 (J true)
 else
 (rec (IntKind.wrap .i64 (j+1))))
 else
 (I )
def uK(N:Nat)(j:List Int)(o:Int)(C:ab R)(I:Bool→ab R):Nat→Int→ab R
 |0=>fun _=>none
 |n+1=>fun J=>xr N j o C I (uK N j o C I n) J
def vQ(N:Nat)(l:List Int)(i:Int)(j:Bool→ab R):ab R:=
 uK N l i (j false)
 (fun y5=>
 j y5) N 0
def Wy(N:Nat):FD E0:={f:=191,fn:=Tryz.f191,q:=⟨[.t .int,.i .i64],[]⟩,loops:=[{cur:=0,live:=[0,1,5],out:=fun | .exit 0=>([],[]) | .ret=>([4],[])|_=>([],[]),q:=⟨[.t .int,.i .i64,.i .i64],[]⟩,G:=fun R K n a b c=>uK N a b (pK ⟨[],[]⟩ (K (.exit 0))) (pK ⟨[.b],[]⟩ (K .ret)) n c,B:=fun R K rec a b c=>xr N a b (pK ⟨[],[]⟩ (K (.exit 0))) (pK ⟨[.b],[]⟩ (K .ret)) (rec a b) c}]}
def FY(N:Nat):OC E0:=⟨_,FD.ct e0 (Wy N) N (fun R k a b=>vQ N a b (oK ⟨.b,[],[]⟩ k))⟩
def zX(N:Nat)(C:List Int)(I:(List Int)→ab R)(rec:Int→(List Int)→ab R)(j:Int)(o:List Int):ab R:=
 if(decide (j<128))=true then
 (vQ N C j (fun J=>
 if J=true then
 (if o.length+[j].length≤ah then(rec (IntKind.wrap .i64 (j+1)) (o++[j])) else none)
 else
 (rec (IntKind.wrap .i64 (j+1)) o)))
 else
 (I o)
def zj(N:Nat)(j:List Int)(o:(List Int)→ab R):Nat→Int→(List Int)→ab R
 |0=>fun _ _=>none
 |n+1=>fun C I=>zX N j o (zj N j o n) C I
def Mi(N:Nat)(l:List Int)(j:(List Int)→ab R):ab R:=
 zj N l (fun y8=>
 j y8) N 0 ([]:List Int)
def Yg(N:Nat):FD E0:={f:=192,fn:=Tryz.f192,q:=⟨[.t .int],[]⟩,loops:=[{cur:=0,live:=[0,3,4],fix:=[(⟨3,[]⟩,.row .int .app)],out:=fun | .exit 0=>([3],[])|_=>([],[]),q:=⟨[.t .int,.sw 0,.i .i64],[.rw .int .app]⟩,G:=fun R K n a b c=>zj N a (pK ⟨[.sw 0],[.rw .int .app]⟩ (K (.exit 0))) n b c,B:=fun R K rec a b c=>zX N a (pK ⟨[.sw 0],[.rw .int .app]⟩ (K (.exit 0))) (rec a) b c}],g:=[FY N],exit:=[(⟨2,[]⟩,.tree .int)]}
def Yh(N:Nat):OC E0:=⟨_,FD.ct e0 (Yg N) N (fun R k a=>Mi N a (oK ⟨.t .int,[],[]⟩ k))⟩
def sb(N:Nat)(C:List Node)(I:Int)(J:(List Int)→ab R)(rec:Int→(List Int)→ab R)(j:Int)(o:List Int):ab R:=
 (ifB (decide (j<((C.length:Nat):Int))) true (zW N C I (fun U=>
 some U)) (some false)).bind fun b9=>
 if b9=true then
 ((at? C j).bind fun j6=>
 if(j6.Parent==I)=true then
 (if o.length+[j].length≤ah then(rec (IntKind.wrap .i64 (j+1)) (o++[j])) else none)
 else
 (rec (IntKind.wrap .i64 (j+1)) o))
 else
 (J o)
def pF(N:Nat)(j:List Node)(o:Int)(C:(List Int)→ab R):Nat→Int→(List Int)→ab R
 |0=>fun _ _=>none
 |n+1=>fun I J=>sb N j o C (pF N j o C n) I J
def FZ(N:Nat)(l:List Node)(i:Int)(j:(List Int)→ab R):ab R:=
 pF N l i (fun y14=>
 j y14) N 0 ([]:List Int)
def Rv(N:Nat):FD E0:={f:=210,fn:=Tryz.f210,q:=⟨[.t .node,.i .i64],[]⟩,loops:=[{cur:=0,live:=[0,1,5,6],fix:=[(⟨5,[]⟩,.row .int .app)],out:=fun | .exit 0=>([5],[])|_=>([],[]),q:=⟨[.t .node,.i .i64,.sw 0,.i .i64],[.rw .int .app]⟩,G:=fun R K n a b c d=>pF N a b (pK ⟨[.sw 0],[.rw .int .app]⟩ (K (.exit 0))) n c d,B:=fun R K rec a b c d=>sb N a b (pK ⟨[.sw 0],[.rw .int .app]⟩ (K (.exit 0))) (rec a b) c d}],g:=[Ke N],exit:=[(⟨4,[]⟩,.tree .int)]}
def Rw(N:Nat):OC E0:=⟨_,FD.ct e0 (Rv N) N (fun R k a b=>FZ N a b (oK ⟨.t .int,[],[]⟩ k))⟩
def oJ(N:Nat)(J:List Node)(C:List Int)(U:(List Int)→ab R)(rec:Int→(List Int)→ab R)(j:Int)(o:List Int):ab R:=
 if(decide (j<((C.length:Nat):Int)))=true then
 ((at? C j).bind fun b9=>
 (at? J b9).bind fun j6=>
 if(decide (j6.Kind≤3))=true then
 ((at? C j).bind fun I=>
 if o.length+[I].length≤ah then(rec (IntKind.wrap .i64 (j+1)) (o++[I])) else none)
 else
 (rec (IntKind.wrap .i64 (j+1)) o))
 else
 (U o)
def lg(N:Nat)(j:List Node)(o:List Int)(C:(List Int)→ab R):Nat→Int→(List Int)→ab R
 |0=>fun _ _=>none
 |n+1=>fun I J=>oJ N j o C (lg N j o C n) I J
def vR(N:Nat)(l:List Node)(i:Int)(j:(List Int)→ab R):ab R:=
 FZ N l i (fun o=>
 lg N l o (fun y15=>
 j y15) N 0 ([]:List Int))
def Nd(N:Nat):FD E0:={f:=206,fn:=Tryz.f206,q:=⟨[.t .node,.i .i64],[]⟩,loops:=[{cur:=0,live:=[0,5,6,7],fix:=[(⟨5,[]⟩,.row .int .app)],out:=fun | .exit 0=>([5],[])|_=>([],[]),q:=⟨[.t .node,.sw 0,.t .int,.i .i64],[.rw .int .app]⟩,G:=fun R K n a b c d=>lg N a b (pK ⟨[.sw 0],[.rw .int .app]⟩ (K (.exit 0))) n c d,B:=fun R K rec a b c d=>oJ N a b (pK ⟨[.sw 0],[.rw .int .app]⟩ (K (.exit 0))) (rec a b) c d}],g:=[rZ N,Rw N],exit:=[(⟨4,[]⟩,.tree .int)]}
def Ng(N:Nat):OC E0:=⟨_,FD.ct e0 (Nd N) N (fun R k a b=>vR N a b (oK ⟨.t .int,[],[]⟩ k))⟩
def xu(N:Nat)(C J:List Int)(U:(List Int)→ab R)(rec:Int→(List Int)→ab R)(j:Int)(o:List Int):ab R:=
 if(decide (j<((C.length:Nat):Int)))=true then
 ((at? C j).bind fun b9=>
 vQ N J b9 (fun j6=>
 if(!j6)=true then
 ((at? C j).bind fun I=>
 if o.length+[I].length≤ah then(rec (IntKind.wrap .i64 (j+1)) (o++[I])) else none)
 else
 (rec (IntKind.wrap .i64 (j+1)) o)))
 else
 (U o)
def uL(N:Nat)(j o:List Int)(C:(List Int)→ab R):Nat→Int→(List Int)→ab R
 |0=>fun _ _=>none
 |n+1=>fun I J=>xu N j o C (uL N j o C n) I J
def Kf(N:Nat)(a b:List Int)(j:(List Int)→ab R):ab R:=
 uL N a b (fun y14=>
 j y14) N 0 ([]:List Int)
def Wz(N:Nat):FD E0:={f:=209,fn:=Tryz.f209,q:=⟨[.t .int,.t .int],[]⟩,loops:=[{cur:=0,live:=[0,1,5,6],fix:=[(⟨5,[]⟩,.row .int .app)],out:=fun | .exit 0=>([5],[])|_=>([],[]),q:=⟨[.t .int,.t .int,.sw 0,.i .i64],[.rw .int .app]⟩,G:=fun R K n a b c d=>uL N a b (pK ⟨[.sw 0],[.rw .int .app]⟩ (K (.exit 0))) n c d,B:=fun R K rec a b c d=>xu N a b (pK ⟨[.sw 0],[.rw .int .app]⟩ (K (.exit 0))) (rec a b) c d}],g:=[FY N],exit:=[(⟨4,[]⟩,.tree .int)]}
def WA(N:Nat):OC E0:=⟨_,FD.ct e0 (Wz N) N (fun R k a b=>Kf N a b (oK ⟨.t .int,[],[]⟩ k))⟩
def Nh(N:Nat)(a b:List Int)(j:(List Int)→ab R):ab R:=
 Kf N a b (fun o=>
 Kf N a o (fun C=>
 j C))
def WB(N:Nat):FD E0:={f:=205,fn:=Tryz.f205,q:=⟨[.t .int,.t .int],[]⟩,g:=[WA N],exit:=[(⟨4,[]⟩,.tree .int)]}
def WC(N:Nat):OC E0:=⟨_,FD.ct e0 (WB N) N (fun R k a b=>Nh N a b (oK ⟨.t .int,[],[]⟩ k))⟩
def qu(N:Nat)(C:List Node)(j:List Int)(b9:ab R)(I:Bool→ab R)(rec:Int→ab R)(o:Int):ab R:=
 if(decide (o<((j.length:Nat):Int)))=true then
 ((at? j o).bind fun e5=>
 zW N C e5 (fun r6=>
 (ifB (!r6) false ((ifB (decide (o>0)) true ((at? j o).bind fun e7=>
 (at? j (IntKind.wrap .i64 (o-1))).bind fun e8=>
 some (decide (e7≤e8))) (some false)).bind fun c9=>
 some c9) (some true)).bind fun k7=>
 (ifB k7 false ((at? j o).bind fun k8=>
 (at? C k8).bind fun k9=>
 some (!(decide (k9.Kind≤3)))) (some true)).bind fun l7=>
 (ifB l7 false ((at? j o).bind fun l9=>
 (ifB (decide (l9>0)) true ((at? j o).bind fun m0=>
 (at? C m0).bind fun m3=>
 vQ N j m3.Parent (fun m4=>
 some (!m4))) (some false)).bind fun m5=>
 some m5) (some true)).bind fun m6=>
 if m6=true then
 (I false)
 else
 ((at? j o).bind fun m7=>
 vR N C m7 (fun m8=>
 Nh N m8 j (fun J=>
 (at? j o).bind fun m9=>
 (at? C m9).bind fun U=>
 (ifB (U.Kind==2) true (some (((J.length:Nat):Int) != 1)) (some false)).bind fun n9=>
 (ifB n9 false ((ifB (U.Kind==3) true ((at? j o).bind fun o0=>
 vR N C o0 (fun o5=>
 some (((J.length:Nat):Int) != ((o5.length:Nat):Int)))) (some false)).bind fun o6=>
 some o6) (some true)).bind fun o7=>
 if o7=true then
 (I false)
 else
 (rec (IntKind.wrap .i64 (o+1))))))))
 else
 (b9 )
def nw(N:Nat)(j:List Node)(o:List Int)(C:ab R)(I:Bool→ab R):Nat→Int→ab R
 |0=>fun _=>none
 |n+1=>fun J=>qu N j o C I (nw N j o C I n) J
def uM(N:Nat)(l:List Node)(conf:List Int)(j:Bool→ab R):ab R:=
 vQ N conf 0 (fun o=>
 if(!o)=true then
 (j false)
 else
 (nw N l conf (j true)
 (fun C=>
 j C) N 0))
def OT(N:Nat):FD E0:={f:=193,fn:=Tryz.f193,q:=⟨[.t .node,.t .int],[]⟩,loops:=[{cur:=0,live:=[0,1,5],out:=fun | .exit 0=>([],[]) | .ret=>([4],[])|_=>([],[]),q:=⟨[.t .node,.t .int,.i .i64],[]⟩,G:=fun R K n a b c=>nw N a b (pK ⟨[],[]⟩ (K (.exit 0))) (pK ⟨[.b],[]⟩ (K .ret)) n c,B:=fun R K rec a b c=>qu N a b (pK ⟨[],[]⟩ (K (.exit 0))) (pK ⟨[.b],[]⟩ (K .ret)) (rec a b) c}],g:=[rZ N,Ke N,FY N,WC N,Ng N]}
def OU(N:Nat):OC E0:=⟨_,FD.ct e0 (OT N) N (fun R k a b=>uM N a b (oK ⟨.b,[],[]⟩ k))⟩
def ot(N:Nat)(C:List Node)(U:List Int)(b9:Int)(I:(List Int)→ab R)(rec:Int→(List Int)→ab R)(j:Int)(o:List Int):ab R:=
 if(decide (j≥0))=true then
 (if o.length+[j].length≤ah then((at? C j).bind fun J=>
 rec J.Parent (o++[j])) else none)
 else
 (I o)
def my(N:Nat)(j:List Node)(o:List Int)(C:Int)(I:(List Int)→ab R):Nat→Int→(List Int)→ab R
 |0=>fun _ _=>none
 |n+1=>fun J U=>ot N j o C I (my N j o C I n) J U
def sc(N:Nat)(C:List Node)(o:List Int)(J:(List Int)→ab R)(U:Bool→ab R)(rec:Int→(List Int)→ab R)(j:Int)(I:List Int):ab R:=
 if(decide (j<((o.length:Nat):Int)))=true then
 ((at? o j).bind fun b9=>
 zW N C b9 (fun j6=>
 (ifB (!j6) false ((at? o j).bind fun j7=>
 (at? C j7).bind fun j8=>
 some (j8.Kind != 1)) (some true)).bind fun j9=>
 (ifB j9 false (if(0:Int)≤0∧0≤j∧j≤((o.length:Nat):Int) then((at? o j).bind fun k5=>
 vQ N ((o.take j.toNat).drop (Int.toNat 0)) k5 (fun k7=>
 some k7)) else none) (some true)).bind fun k8=>
 if k8=true then
 (U false)
 else
 ((at? o j).bind fun k9=>
 my N C o j (fun l7=>
 rec (IntKind.wrap .i64 (j+1)) l7) N k9 I)))
 else
 (J I)
def pG(N:Nat)(j:List Node)(o:List Int)(C:(List Int)→ab R)(I:Bool→ab R):Nat→Int→(List Int)→ab R
 |0=>fun _ _=>none
 |n+1=>fun J U=>sc N j o C I (pG N j o C I n) J U
def vS(N:Nat)(l:List Node)(atomic:List Int)(j:(List Int)→Bool→ab R):ab R:=
 pG N l atomic (fun C=>
 Mi N C (fun o=>
 uM N l o (fun I=>
 if(!I)=true then
 (j ([]:List Int) false)
 else
 (j o true))))
 (fun J=>
 j ([]:List Int) J) N 0 ([]:List Int)
def Rx(N:Nat):FD E0:={f:=174,fn:=Tryz.f174,q:=⟨[.t .node,.t .int],[]⟩,loops:=[{cur:=2,live:=[0,1,6,7,8],fix:=[(⟨6,[]⟩,.row .int .app)],out:=fun | .exit 2=>([0,1,6,7],[])|_=>([],[]),q:=⟨[.t .node,.t .int,.sw 0,.i .i64,.i .i64],[.rw .int .app]⟩,G:=fun R K n a b c d e=>my N a b c (pK ⟨[.t .node,.t .int,.sw 0,.i .i64],[.rw .int .app]⟩ (K (.exit 2)) a b c) n d e,B:=fun R K rec a b c d e=>ot N a b c (pK ⟨[.t .node,.t .int,.sw 0,.i .i64],[.rw .int .app]⟩ (K (.exit 2)) a b c) (rec a b c) d e},{cur:=0,live:=[0,1,6,7],fix:=[(⟨6,[]⟩,.row .int .app)],out:=fun | .exit 0=>([0,6],[]) | .ret=>([4,5],[])|_=>([],[]),q:=⟨[.t .node,.t .int,.sw 0,.i .i64],[.rw .int .app]⟩,G:=fun R K n a b c d=>pG N a b (pK ⟨[.t .node,.sw 0],[.rw .int .app]⟩ (K (.exit 0)) a) (pK ⟨[.ns,.b],[]⟩ (K .ret)) n c d,B:=fun R K rec a b c d=>sc N a b (pK ⟨[.t .node,.sw 0],[.rw .int .app]⟩ (K (.exit 0)) a) (pK ⟨[.ns,.b],[]⟩ (K .ret)) (rec a b) c d}],g:=[Ke N,FY N,Yh N,OU N],exit:=[(⟨4,[]⟩,.tree .int)]}
def Ry(N:Nat):OC E0:=⟨_,FD.ct e0 (Rx N) N (fun R k a b=>vS N a b (oK ⟨.tp [.t .int,.b],[],[]⟩ k))⟩
end
end So
