/- T2_3: a part of the proof of SoundSpoilt: lemmas on the evaluator and on the functions that the law reaches. -/
import Derived.Test.YtcllbmdpckfnhaaGreatT2x2
set_option maxRecDepth 100000
set_option linter.unusedVariables false
namespace So
open Go TE Go.Proofs
noncomputable section
variable{R:Type}
def nN(F:az)(N:Nat)(m5:Int)(m6:Bool)(o:List Token)(C I J:Int)(j:List State)(U:Int→Int→Int→(List State)→ab R):ab R:=
 if m6=true then
 (lL N o C I J (fun b9 j6 j7 j8 j9 k5 k7 m7 m8 m9=>
 if j.length+[(⟨b9,j6,j7,j8,j9,k5,k7⟩:State)].length≤ah then(U m7 m8 m9 (j++[(⟨b9,j6,j7,j8,j9,k5,k7⟩:State)])) else none))
 else
 (F.r9_reader_state _ m5 o C I J (fun k8 k9 l7 l9 m0 m3 m4 n9 o0 o5=>
 if j.length+[(⟨k8,k9,l7,l9,m0,m3,m4⟩:State)].length≤ah then(U n9 o0 o5 (j++[(⟨k8,k9,l7,l9,m0,m3,m4⟩:State)])) else none))
def lx(F:az)(N:Nat)(J:Int)(o:List Token)(b9:Int→Int→Int→(List State)→ab R)(j6:Int→Int→Int→ab R)(rec:Int→Int→Int→(List State)→ab R)(j C I:Int)(U:List State):ab R:=
 bf N [115,116,97,116,101] o j C I (fun r7=>
 (ifB r7 false (bf N [112,97,114,97,108,108,101,108] o j C I (fun r8=>
 some r8)) (some true)).bind fun c9=>
 (ifB c9 false (bf N [104,105,115,116,111,114,121] o j C I (fun k5=>
 some k5)) (some true)).bind fun k7=>
 (ifB k7 false (bf N [100,101,101,112] o j C I (fun k8=>
 some k8)) (some true)).bind fun k9=>
 if k9=true then
 (if(decide (J>12))=true then
 ((at? o j).bind fun l7=>
 j6 j 14 l7.At)
 else
 (bf N [104,105,115,116,111,114,121] o j C I (fun l9=>
 (ifB l9 false (bf N [100,101,101,112] o j C I (fun m0=>
 some m0)) (some true)).bind fun m3=>
 nN F N J m3 o j C I U (fun m4 m5 m6 m7=>
 rec m4 m5 m6 m7))))
 else
 (b9 j C I U))
def eO(F:az)(N:Nat)(j:Int)(o:List Token)(C:Int→Int→Int→(List State)→ab R)(I:Int→Int→Int→ab R):Nat→Int→Int→Int→(List State)→ab R
 |0=>fun _ _ _ _=>none
 |n+1=>fun J U b9 j6=>lx F N j o C I (eO F N j o C I n) J U b9 j6
def ig(F:az)(N:Nat)(deep:Int)(l:List Token)(at_ Code At:Int)(j:(List State)→Int→Int→Int→ab R):ab R:=
 eO F N deep l (fun o C I J=>
 j J o C I)
 (fun U b9 j6=>
 j ([]:List State) U b9 j6) N at_ Code At ([]:List State)
def oU(F:az)(hF:dU F)(N:Nat):FD E0:={f:=120,fn:=Tryz.f120,q:=vp,loops:=[{cur:=0,live:=[0,1,5],fix:=[(⟨5,[]⟩,.row .state .app)],out:=fun | .exit 0=>([5],[]) | .ret=>([4],[])|_=>([],[]),q:=⟨[.p 0 0 0,.i .i64,.sw 1],[z2,.rw .state .app]⟩,G:=fun R K n a b c d e g=>eO F N a b (pK ⟨[.sw 1],[z2,.rw .state .app]⟩ (K (.exit 0)) b) (pK ⟨[.ns],[z2]⟩ (K .ret) b) n c d e g,B:=fun R K rec a b c d e g=>lx F N a b (pK ⟨[.sw 1],[z2,.rw .state .app]⟩ (K (.exit 0)) b) (pK ⟨[.ns],[z2]⟩ (K .ret) b) (rec a b) c d e g}],cuts:=[{key:=7,live:=[0,1,5,42],fix:=[(⟨5,[]⟩,.row .state .app)],out:=fun | .normal=>([0,1,5],[])|_=>([],[]),q:=⟨[.p 0 0 0,.i .i64,.sw 1,.b],[z2,.rw .state .app]⟩,G:=fun R K a b c d e g h=>nN F N a b c d e g h (pK ⟨[.p 0 0 0,.i .i64,.sw 1],[z2,.rw .state .app]⟩ (K .normal) a c)}],g:=[lZ N,CS N,⟨xk F,hF.r9_reader_state⟩],mode:=fun|46=>.ro|52=>.ro|_=>.app,exit:=[(⟨4,[]⟩,.tree .state)]}
theorem Bm(F:az)(hF:dU F)(N:Nat):Ct.ok E0 ⟨(oU F hF N).f,(oU F hF N).q,fun R k a b c d e=>ig F N a b c d e (fun g=>oK ⟨.t .state,[z2],[]⟩ k g b)⟩:=FD.ct e0 (oU F hF N) N (fun R k a b c d e=>ig F N a b c d e (fun g=>oK ⟨.t .state,[z2],[]⟩ k g b))
def z14:ShO S:=.bx [.i .i64,.st,.t .act,.t .act,.sw 3,.ns,.i .i64]
def z15:ShO S:=.bx [.i .i64,.st,.t .act,.t .act,.sw 2,.t .state,.i .i64]
def z16:ShO S:=.bx [.i .i64,.st,.t .act,.t .act,.ns,.ns,.i .i64]
def z17:ShO S:=.bx [.i .i64,.st,.t .act,.ns,.ns,.ns,.i .i64]
def mb(F:az)(N:Nat)(m0:Int)(I:List Token)(m3:Int)(m4:ae)(m5 m6:Int)(m7:ae)(m8 m9:List Act)(n9:Int)(j9:Int→Int→Int→(List Trans)→ab R)(rec:Int→Int→Int→(List Trans)→ab R)(j o C:Int)(J:List Trans):ab R:=
 bf N [111,110] I j o C (fun k5=>
 (ifB k5 false (bf N [97,117,116,111] I j o C (fun k7=>
 some k7)) (some true)).bind fun k8=>
 if k8=true then
 (oD N I j o C (fun U b9 j6 j7 j8 k9 l7 l9=>
 if J.length+[(⟨U,b9,j6,j7,j8⟩:Trans)].length≤ah then(rec k9 l7 l9 (J++[(⟨U,b9,j6,j7,j8⟩:Trans)])) else none))
 else
 (j9 j o C J))
def ij(F:az)(N:Nat)(j:Int)(o:List Token)(C:Int)(I:ae)(J U:Int)(b9:ae)(j6 j7:List Act)(j8:Int)(j9:Int→Int→Int→(List Trans)→ab R):Nat→Int→Int→Int→(List Trans)→ab R
 |0=>fun _ _ _ _=>none
 |n+1=>fun k5 k7 k8 k9=>mb F N j o C I J U b9 j6 j7 j8 j9 (ij F N j o C I J U b9 j6 j7 j8 j9 n) k5 k7 k8 k9
def gG(F:az)(N:Nat)(o:Int)(j:List Token)(C I J U:Int)(b9:ae)(j6 j7:Int)(j8:ae)(j9 k5:List Act)(k7:Int)(k8:Int→Int→Int→(List State)→(List Trans)→ab R):ab R:=
 ij F N o j U b9 j6 j7 j8 j9 k5 k7 (fun k9 l7 l9 m0=>
 F.r9_reader_states _ (IntKind.wrap .i64 (o+1)) j k9 l7 l9 (fun m3 m4 m5 m6=>
 bu N [125] j m4 m5 m6 (fun m7 m8 m9=>
 k8 m7 m8 m9 m3 m0))) N C I J ([]:List Trans)
def gH(F:az)(N:Nat)(J:Int)(j:List Token)(o C I U:Int)(b9:ae)(j6 j7:Int)(j8:ae)(j9:List Act)(k5:Int)(k7:Int→Int→Int→(List Act)→(List State)→(List Trans)→ab R):ab R:=
 bf N [101,120,105,116] j o C I (fun k9=>
 if k9=true then
 (iR N j (IntKind.wrap .i64 (o+1)) C I (fun k8 l7 l9 m0=>
 gG F N J j l7 l9 m0 U b9 j6 j7 j8 j9 k8 k5 (fun m3 m4 m5 m6 m7=>
 k7 m3 m4 m5 k8 m6 m7)))
 else
 (gG F N J j o C I U b9 j6 j7 j8 j9 ([]:List Act) k5 (fun m8 m9 n9 o0 o5=>
 k7 m8 m9 n9 ([]:List Act) o0 o5)))
def ik(F:az)(N:Nat)(U:Int)(j:List Token)(k8 k9 l7 b9:Int)(j6:ae)(j7 j8:Int)(p8:ae)(j9:Int)(k5:Int→Int→Int→ae→(List Act)→(List Act)→(List State)→(List Trans)→ab R):ab R:=
 er N j (IntKind.wrap .i64 (k8+1)) k9 l7 (fun o l9 m0 m3=>
 bu N [123] j l9 m0 m3 (fun C I J=>
 bf N [101,110,116,114,121] j C I J (fun m4=>
 if m4=true then
 (iR N j (IntKind.wrap .i64 (C+1)) I J (fun k7 m5 m6 m7=>
 gH F N U j m5 m6 m7 b9 j6 j7 j8 o k7 j9 (fun m8 m9 n9 o0 o5 o6=>
 k5 m8 m9 n9 o k7 o0 o5 o6)))
 else
 (gH F N U j C I J b9 j6 j7 j8 o ([]:List Act) j9 (fun o7 o8 o9 p5 p6 p7=>
 k5 o7 o8 o9 o ([]:List Act) p5 p6 p7)))))
def iZ(F:az)(N:Nat)(deep:Int)(l:List Token)(at_ Code At:Int)(o:Int→ae→(List Act)→(List Act)→(List Trans)→(List State)→Int→Int→Int→Int→ab R):ab R:=
 (at? l at_).bind fun j=>
 bf N [112,97,114,97,108,108,101,108] l at_ Code At (fun C=>
 if C=true then
 (ik F N deep l at_ Code At 0 [] 0 2 [] j.At (fun I J U b9 j6 j7 j8 j9=>
 o 2 b9 j6 j7 j9 j8 j.At I J U))
 else
 (ik F N deep l at_ Code At 0 [] 0 1 [] j.At (fun k5 k7 k8 k9 l7 l9 m0 m3=>
 o 1 k9 l7 l9 m3 m0 j.At k5 k7 k8)))
def pU(F:az)(hF:dU F)(N:Nat):FD E0:={f:=163,fn:=Tryz.f163,q:=xj,loops:=[{cur:=0,live:=[0,1,4,5],fix:=[(⟨5,[4]⟩,.row .trans .app)],out:=fun | .exit 0=>([0,1,4,5],[])|_=>([],[]),q:=⟨[.p 0 0 0,.i .i64,.p 1 0 0,.p 2 0 0],[z2,z4,z14,.rw .trans .app]⟩,G:=fun R K n a b c d e g h i j l m o p q=>ij F N a b g h i j l m o p (fun s t u=>pK ⟨[.p 0 0 0,.i .i64,.p 1 0 0,.p 2 0 0],[z2,z4,z14,.rw .trans .app]⟩ (K (.exit 0)) a b s t u g h i j l m o p) n c d e q,B:=fun R K rec a b c d e g h i j l m o p q=>mb F N a b g h i j l m o p (fun s t u=>pK ⟨[.p 0 0 0,.i .i64,.p 1 0 0,.p 2 0 0],[z2,z4,z14,.rw .trans .app]⟩ (K (.exit 0)) a b s t u g h i j l m o p) (fun c d e q=>rec a b c d e g h i j l m o p q) c d e q}],cuts:=[{key:=13,live:=[0,1,4,5],fix:=[(⟨5,[3]⟩,.tree .act)],out:=fun | .ret=>([4],[])|_=>([],[]),q:=⟨[.p 0 0 0,.i .i64,.p 1 0 0,.p 2 0 0],[z2,z4,z16]⟩,G:=fun R K a b c d e g h i j l m o p=>gG F N a b c d e g h i j l m o p (fun q s t u=>pK ⟨[.p 1 0 0],[z2,z15,.rw .trans .app]⟩ (K .ret) b q s t j l m o u p)},{key:=10,live:=[0,1,4,5],fix:=[(⟨5,[2]⟩,.tree .act)],out:=fun | .ret=>([4],[])|_=>([],[]),q:=⟨[.p 0 0 0,.i .i64,.p 1 0 0,.p 2 0 0],[z2,z4,z17]⟩,G:=fun R K a b c d e g h i j l m o=>gH F N a b c d e g h i j l m o (fun p q s t u=>pK ⟨[.p 1 0 0],[z2,z15,.rw .trans .app]⟩ (K .ret) b p q s j l m t u o)},{key:=4,live:=[0,1,4,5],out:=fun | .ret=>([4],[])|_=>([],[]),q:=⟨[.p 0 0 0,.i .i64,.p 1 0 0,.p 2 0 0],[z2,z4,z4]⟩,G:=fun R K a b c d e g h i j l m=>ik F N a b c d e g h i j l m (fun o p q s t u v=>pK ⟨[.p 1 0 0],[z2,z15,.rw .trans .app]⟩ (K .ret) b o p q j s t u v m)}],g:=[hH N,jB N,⟨oT F,hF.r9_reader_states⟩,lZ N,xi N,Fx N],exit:=[(⟨4,[2]⟩,.tree .act),(⟨4,[3]⟩,.tree .act),(⟨4,[4]⟩,.tree .trans),(⟨4,[5]⟩,.tree .state)]}
theorem CV(F:az)(hF:dU F)(N:Nat):Ct.ok E0 ⟨(pU F hF N).f,(pU F hF N).q,fun R k a b c d e=>iZ F N a b c d e (fun g h i j l m o=>oK ⟨y2,[z2],[]⟩ k g h i j l m o b)⟩:=FD.ct e0 (pU F hF N) N (fun R k a b c d e=>iZ F N a b c d e (fun g h i j l m o=>oK ⟨y2,[z2],[]⟩ k g h i j l m o b))
def wK(F:az)(N:Nat):az where
 r9_reader_states:=fun R deep l at_ Code At j=>ig F N deep l at_ Code At j
 r9_reader_state:=fun R deep l at_ Code At j=>iZ F N deep l at_ Code At j
def aA(N:Nat):Nat→az
 |0=>{r9_reader_states:=fun _ _ _ _ _ _ _=>none,r9_reader_state:=fun _ _ _ _ _ _ _=>none}
 |d+1=>wK (aA N d) N
theorem il(N:Nat):∀d,dU (aA N d)
 |0=>{r9_reader_states:=Ct.ok_none,r9_reader_state:=Ct.ok_none}
 |d+1=>{r9_reader_states:=Bm _ (il N d) N,r9_reader_state:=CV _ (il N d) N}
def r9_reader_states(N:Nat)(deep:Int)(l:List Token)(at_ Code At:Int)(j:(List State)→Int→Int→Int→ab R):ab R:=(aA N N).r9_reader_states R deep l at_ Code At j
theorem CW(N d:Nat)(deep:Int)(l:List Token)(at_ Code At:Int)(k0:(List State)→Int→Int→Int→ab R):(aA N (d+1)).r9_reader_states R deep l at_ Code At k0=ig (aA N d) N deep l at_ Code At k0:=rfl
def DQ(N:Nat):OC E0:=⟨oT (aA N N),(il N N).r9_reader_states⟩
def r9_reader_state(N:Nat)(deep:Int)(l:List Token)(at_ Code At:Int)(j:Int→ae→(List Act)→(List Act)→(List Trans)→(List State)→Int→Int→Int→Int→ab R):ab R:=(aA N N).r9_reader_state R deep l at_ Code At j
theorem DS(N d:Nat)(deep:Int)(l:List Token)(at_ Code At:Int)(k0:Int→ae→(List Act)→(List Act)→(List Trans)→(List State)→Int→Int→Int→Int→ab R):(aA N (d+1)).r9_reader_state R deep l at_ Code At k0=iZ (aA N d) N deep l at_ Code At k0:=rfl
def z18:ShO S:=.bx [.st,.i .i64,.i .i64,.ns,.ns,.ns,.ns,.i .i64]
def z19:ShO S:=.bx [.st,.i .i64,.i .i64,.t .named,.t .named,.t .named,.t .state,.i .i64]
def z20:ShO S:=.bx [.st,.i .i64,.i .i64,.t .named,.t .named,.t .named,.ns,.i .i64]
def y12:Sh S:=.ag [.st,.i .i64,.i .i64,.t .named,.t .named,.t .named,.t .state,.i .i64]
def y13:Sh S:=.tp [y12,.i .i64,.ag [.i .i64,.i .i64]]
def zH(N:Nat)(k8:ae)(k9 l7 l9 m0 m3:Int)(j:List Token)(C I J:Int)(m4:ae)(m5 m6:Int)(m7 m8 m9:List ai)(n9:Int)(U:Int→ae→Int→Int→Int→Int→Int→ab R)(b9:Int→(List State)→Int→Int→ab R):ab R:=
 r9_reader_states N 1 j C I J (fun j6 j7 j8 j9=>
 bu N [125] j j7 j8 j9 (fun k5 o k7=>
 if(!(o==0))=true then
 (U 0 [] 0 0 0 o k7)
 else
 (b9 k5 j6 0 0)))
def Bn(N:Nat)(U:ae)(b9 j6 j7 j8 j9:Int)(j:List Token)(k5 k7 k8:Int)(k9:ae)(l7 B7 l9:Int)(m0:Int→ae→Int→Int→Int→Int→Int→ab R)(m3:Int→Int→(List ai)→(List ai)→(List ai)→(List State)→Int→Int→ab R):ab R:=
 hI N j k5 k7 k8 (fun o m4 m5 m6=>
 bu N [123] j m4 m5 m6 (fun m7 m8 m9=>
 iQ N [118,97,114] j m7 m8 m9 (fun C n9 o0 o5=>
 iQ N [112,111,114,116] j n9 o0 o5 (fun I o6 o7 o8=>
 iQ N [116,105,109,101,114] j o6 o7 o8 (fun J o9 p5 p6=>
 zH N U b9 j6 j7 j8 j9 j o9 p5 p6 k9 l7 o C I J l9 (fun p7 p8 p9 q8 q9 s8 s9=>
 m0 p7 p8 p9 q8 q9 s8 s9)
 (fun u9 B0 B5 B6=>
 m3 u9 o C I J B0 B5 B6))))))
def Fy(N:Nat)(l:List Token)(at_:Int)(j:ae→Int→Int→(List ai)→(List ai)→(List ai)→(List State)→Int→Int→Int→Int→ab R):ab R:=
 (at? l at_).bind fun o=>
 bu N [99,104,97,114,116] l at_ 0 0 (fun J U r4=>
 er N l J U r4 (fun C r6 r7 r8=>
 bu N [115,116,101,112,115] l r6 r7 r8 (fun r9 k5 k7=>
 hI N l r9 k5 k7 (fun I k8 k9 l7=>
 bu N [102,117,101,108] l k8 k9 l7 (fun l9 m0 m3=>
 Bn N [] 0 0 0 0 0 l l9 m0 m3 C I 0 o.At (fun m4 m5 m6 m7 m8 m9 n9=>
 j m5 m6 m7 ([]:List ai) ([]:List ai) ([]:List ai) ([]:List State) m8 m4 m9 n9)
 (fun o0 o5 o6 o7 o8 o9 p5 p6=>
 j C I o5 o6 o7 o8 o9 o.At o0 p5 p6))))))
def Rk(N:Nat):FD E0:={f:=55,fn:=Tryz.f55,q:=⟨[.t .tok,.i .i64],[]⟩,cuts:=[{key:=13,live:=[4,6,7,8],out:=fun | .ret=>([4,5,6],[])|_=>([],[]),q:=⟨[.p 0 0 0,.p 1 0 0,.p 2 0 0,.p 3 0 0],[z18,.bx [.i .i64,.i .i64],z2,z20]⟩,G:=fun R K a b c d e g h i j l m o p q s t u=>zH N a b c d e g h i j l m o p q s t u (pK ⟨[.p 0 0 0,.i .i64,.p 1 0 0],[z18,.bx [.i .i64,.i .i64]]⟩ (K .ret)) (fun v w=>pK ⟨[.p 0 0 0,.i .i64,.p 1 0 0],[z19,.bx [.i .i64,.i .i64]]⟩ (K .ret) v m o p q s t w u)},{key:=8,live:=[4,6,7,8],out:=fun | .ret=>([4,5,6],[])|_=>([],[]),q:=⟨[.p 0 0 0,.p 1 0 0,.p 2 0 0,.p 3 0 0],[z18,.bx [.i .i64,.i .i64],z2,z18]⟩,G:=fun R K a b c d e g h i j l m o p q=>Bn N a b c d e g h i j l m o p q (pK ⟨[.p 0 0 0,.i .i64,.p 1 0 0],[z18,.bx [.i .i64,.i .i64]]⟩ (K .ret)) (fun s t u v w x=>pK ⟨[.p 0 0 0,.i .i64,.p 1 0 0],[z19,.bx [.i .i64,.i .i64]]⟩ (K .ret) s m o t u v w x q)}],g:=[hH N,jB N,vi N,Fl N,DQ N,hO N],exit:=[(⟨4,[3]⟩,.tree .named),(⟨4,[4]⟩,.tree .named),(⟨4,[5]⟩,.tree .named),(⟨4,[6]⟩,.tree .state)]}
def Rl(N:Nat):OC E0:=⟨_,FD.ct e0 (Rk N) N (fun R k a b=>Fy N a b (oK ⟨y13,[],[]⟩ k))⟩
def mM(N:Nat)(l:List Token)(at_ Code At:Int)(o:ae→Int→Int→(List ai)→(List ai)→(List ai)→(List State)→Int→Int→Int→Int→ab R):ab R:=
 Fy N l at_ (fun C I J U r5 r6 r7 r8 r9 j j9=>
 if(j==0)=true then
 (o C I J U r5 r6 r7 r8 r9 j j9)
 else
 (o C I J U r5 r6 r7 r8 at_ j j9))
def DT(N:Nat):FD E0:={f:=22,fn:=Tryz.f22,q:=⟨[.p 0 0 0],[z2]⟩,g:=[eT N,Rl N],exit:=[(⟨2,[3]⟩,.tree .named),(⟨2,[4]⟩,.tree .named),(⟨2,[5]⟩,.tree .named),(⟨2,[6]⟩,.tree .state)]}
def DU(N:Nat):OC E0:=⟨_,FD.ct e0 (DT N) N (fun R k a b c d=>mM N a b c d (fun e g h i j l m o=>oK ⟨y12,[z2],[]⟩ k e g h i j l m o a))⟩
def gy(N:Nat)(l:List Token)(at_ Code At:Int)(j:Int→ab R):ab R:=
 (at? l at_).bind fun o=>
 j o.At
def Fz(N:Nat):FD E0:={f:=56,fn:=Tryz.f56,q:=⟨[.p 0 0 0],[z2]⟩}
def lM(N:Nat):OC E0:=⟨_,FD.ctq e0 (Fz N) N (fun R k a b c d=>gy N a b c d (oQ ⟨.i .i64,[],[]⟩ k))⟩
def jZ(N:Nat)(C:List Token)(j I U:Int)(o:ae→Int→ab R):ab R:=
 if(!(I==0))=true then
 (o [] j)
 else
 ((at? C (IntKind.wrap .i64 ((IntKind.wrap .i64 (j+1))-1))).bind fun J=>
 o J.Text (IntKind.wrap .i64 (j+1)))
def aZ(N:Nat)(l:List Token)(at_ Code At:Int)(j:ae→Int→Int→Int→ab R):ab R:=
 (ifB (Code==0) true (sD N l at_ (fun I=>
 some (!I))) (some false)).bind fun J=>
 if J=true then
 (oR N l at_ (fun o C=>
 jZ N l at_ o C (fun y10 y11=>
 j y10 y11 o C)))
 else
 (jZ N l at_ Code At (fun y12 y13=>
 j y12 y13 Code At))
def FA(N:Nat):FD E0:={f:=57,fn:=Tryz.f57,q:=⟨[.p 0 0 0],[z2]⟩,cuts:=[{key:=3,live:=[0],out:=fun | .ret=>([2],[])|_=>([],[]),q:=⟨[.p 0 0 0],[z2]⟩,G:=fun R K a b c d=>jZ N a b c d (fun e g=>pK ⟨[.st],[z2]⟩ (K .ret) e a g c d)}],g:=[eT N,kO N,zC N]}
def fX(N:Nat):OC E0:=⟨_,FD.ct e0 (FA N) N (fun R k a b c d=>aZ N a b c d (fun e=>oK ⟨.st,[z2],[]⟩ k e a))⟩
def z21:ShO S:=.bx [.st,.st,.i .i64,.i .i64,.i .i64,.i .i64]
def y14:Sh S:=.ag [.st,.st,.i .i64,.i .i64,.i .i64,.i .i64]
def oV(N:Nat)(j:List Token)(o C I:Int)(o0 o5:ae)(o6 o7 o8 o9:Int)(p5 p6:ae)(p7 p8 p9 q8:Int)(J:Int→Int→Int→Int→Int→Int→ab R):ab R:=
 cp N j o C I (fun U b9 j6 j7=>
 ax N [101,120,116] j b9 j6 j7 (fun j8 j9 k5=>
 cp N j j8 j9 k5 (fun k7 k8 k9 l7=>
 ax N [112,114,105,111] j k8 k9 l7 (fun l9 m0 m3=>
 cp N j l9 m0 m3 (fun m4 m5 m6 m7=>
 ax N [59] j m5 m6 m7 (fun m8 m9 n9=>
 J m8 m9 n9 U k7 m4))))))
def oE(N:Nat)(l:List Token)(at_ Code At:Int)(I:ae→ae→Int→Int→Int→Int→Int→Int→Int→ab R):ab R:=
 gy N l at_ Code At (fun j=>
 aZ N l (IntKind.wrap .i64 (at_+1)) Code At (fun o J U r5=>
 ax N [58] l J U r5 (fun r6 r7 r8=>
 aZ N l r6 r7 r8 (fun C j9 k5 k7=>
 ax N [113,117,97,110,116,117,109] l j9 k5 k7 (fun k8 k9 l7=>
 oV N l k8 k9 l7 [] [] 0 0 0 0 o C 0 0 0 j (fun l9 m0 m3 m4 m5 m6=>
 I o C m4 m5 m6 j l9 m0 m3))))))
def FB(N:Nat):FD E0:={f:=23,fn:=Tryz.f23,q:=⟨[.p 0 0 0],[z2]⟩,cuts:=[{key:=7,live:=[0,2,3],out:=fun | .ret=>([2],[])|_=>([],[]),q:=⟨[.p 0 0 0,.p 1 0 0,.p 2 0 0],[z2,z21,z21]⟩,G:=fun R K a b c d e g h i j l m o p q s t=>oV N a b c d e g h i j l m o p q s t (fun u v w x y z=>pK ⟨[.p 1 0 0],[z2,z21]⟩ (K .ret) a u v w m o x y z t)}],g:=[iW N,jv N,lM N,fX N]}
def FC(N:Nat):OC E0:=⟨_,FD.ct e0 (FB N) N (fun R k a b c d=>oE N a b c d (fun e g h i j l=>oK ⟨y14,[z2],[]⟩ k e g h i j l a))⟩
def z22:ShO S:=.bx [.st,.st,.st,.st,.i .i64,.i .i64,.i .i64]
def y15:Sh S:=.ag [.st,.st,.st,.st,.i .i64,.i .i64,.i .i64]
def ka(N:Nat)(j:List Token)(o C I:Int)(l7 l9 m0 m3:ae)(m4 m5 m6:Int)(m7 m8 m9 n9:ae)(o0 o5 o6:Int)(J:Int→Int→Int→Int→ab R):ab R:=
 ax N [112,114,105,111] j o C I (fun U b9 j6=>
 cp N j U b9 j6 (fun j7 j8 j9 k5=>
 ax N [59] j j8 j9 k5 (fun k7 k8 k9=>
 J k7 k8 k9 j7)))
def ly(N:Nat)(j:List Token)(J U b9:Int)(j6 j7 j8 j9:ae)(k5 k7 k8:Int)(k9 l7 q9 s8:ae)(s9 l9 m0:Int)(m3:Int→Int→Int→ae→ae→Int→Int→ab R):ab R:=
 aZ N j J U b9 (fun o m4 m5 m6=>
 ax N [45,62] j m4 m5 m6 (fun m7 m8 m9=>
 aZ N j m7 m8 m9 (fun C n9 o0 o5=>
 ax N [99,97,112] j n9 o0 o5 (fun o6 o7 o8=>
 cp N j o6 o7 o8 (fun I o9 p5 p6=>
 ka N j o9 p5 p6 j6 j7 j8 j9 k5 k7 k8 k9 l7 o C I l9 m0 (fun p7 p8 p9 q8=>
 m3 p7 p8 p9 o C I q8))))))
def kb(N:Nat)(l:List Token)(at_ Code At:Int)(I:ae→ae→ae→ae→Int→Int→Int→Int→Int→Int→ab R):ab R:=
 gy N l at_ Code At (fun j=>
 aZ N l (IntKind.wrap .i64 (at_+1)) Code At (fun o J U r5=>
 ax N [58] l J U r5 (fun r6 r7 r8=>
 aZ N l r6 r7 r8 (fun C j9 k5 k7=>
 ax N [46] l j9 k5 k7 (fun k8 k9 l7=>
 ly N l k8 k9 l7 [] [] [] [] 0 0 0 o C [] [] 0 0 j (fun l9 m0 m3 m4 m5 m6 m7=>
 I o C m4 m5 m6 m7 j l9 m0 m3))))))
def Bo(N:Nat):FD E0:={f:=24,fn:=Tryz.f24,q:=⟨[.p 0 0 0],[z2]⟩,cuts:=[{key:=12,live:=[0,2,3],out:=fun | .ret=>([2],[])|_=>([],[]),q:=⟨[.p 0 0 0,.p 1 0 0,.p 2 0 0],[z2,z22,z22]⟩,G:=fun R K a b c d e g h i j l m o p q s t u v=>ka N a b c d e g h i j l m o p q s t u v (fun w x y z=>pK ⟨[.p 1 0 0],[z2,z22]⟩ (K .ret) a w x y o p q s t z v)},{key:=7,live:=[0,2,3],out:=fun | .ret=>([2],[])|_=>([],[]),q:=⟨[.p 0 0 0,.p 1 0 0,.p 2 0 0],[z2,z22,z22]⟩,G:=fun R K a b c d e g h i j l m o p q s t u v=>ly N a b c d e g h i j l m o p q s t u v (fun w x y z a1 b1 c1=>pK ⟨[.p 1 0 0],[z2,z22]⟩ (K .ret) a w x y o p z a1 b1 c1 v)}],g:=[iW N,jv N,lM N,fX N]}
def Bp(N:Nat):OC E0:=⟨_,FD.ct e0 (Bo N) N (fun R k a b c d=>kb N a b c d (fun e g h i j l m=>oK ⟨y15,[z2],[]⟩ k e g h i j l m a))⟩
def lz(N:Nat)(J:List Token)(b9:Int→Int→Int→(List ae)→ab R)(rec:Int→Int→Int→(List ae)→ab R)(j o C:Int)(I:List ae):ab R:=
 bT N [44] J j o C (fun j6=>
 if j6=true then
 (aZ N J (IntKind.wrap .i64 (j+1)) o C (fun U j7 j8 j9=>
 if I.length+[U].length≤ah then(rec j7 j8 j9 (I++[U])) else none))
 else
 (b9 j o C I))
def gI(N:Nat)(j:List Token)(o:Int→Int→Int→(List ae)→ab R):Nat→Int→Int→Int→(List ae)→ab R
 |0=>fun _ _ _ _=>none
 |n+1=>fun C I J U=>lz N j o (gI N j o n) C I J U
def jE(N:Nat)(l:List Token)(at_ Code At:Int)(j:(List ae)→Int→Int→Int→ab R):ab R:=
 aZ N l at_ Code At (fun o C I J=>
 gI N l (fun y15 y16 y17 y18=>
 j y18 y15 y16 y17) N C I J [o])
def DV(N:Nat):FD E0:={f:=58,fn:=Tryz.f58,q:=⟨[.p 0 0 0],[z2]⟩,loops:=[{cur:=0,live:=[0,3],out:=fun | .exit 0=>([3],[])|_=>([],[]),q:=⟨[.p 0 0 0,.sw 1],[z2,.rw .str .app]⟩,G:=fun R K n a b c d e=>gI N a (pK ⟨[.sw 1],[z2,.rw .str .app]⟩ (K (.exit 0)) a) n b c d e,B:=fun R K rec a b c d e=>lz N a (pK ⟨[.sw 1],[z2,.rw .str .app]⟩ (K (.exit 0)) a) (rec a) b c d e}],g:=[kP N,fX N],exit:=[(⟨2,[]⟩,.tree .str)]}
def DW(N:Nat):OC E0:=⟨_,FD.ct e0 (DV N) N (fun R k a b c d=>jE N a b c d (fun e=>oK ⟨.t .str,[z2],[]⟩ k e a))⟩
def nO(N:Nat)(J:List Token)(b9:Int→Int→Int→(List ae)→ab R)(rec:Int→Int→Int→(List ae)→ab R)(j o C:Int)(I:List ae):ab R:=
 bT N [43] J j o C (fun j6=>
 if j6=true then
 (aZ N J (IntKind.wrap .i64 (j+1)) o C (fun U j7 j8 j9=>
 if I.length+[U].length≤ah then(rec j7 j8 j9 (I++[U])) else none))
 else
 (b9 j o C I))
def ja(N:Nat)(j:List Token)(o:Int→Int→Int→(List ae)→ab R):Nat→Int→Int→Int→(List ae)→ab R
 |0=>fun _ _ _ _=>none
 |n+1=>fun C I J U=>nO N j o (ja N j o n) C I J U
def mc(N:Nat)(l:List Token)(at_ Code At:Int)(j:(List ae)→Int→Int→Int→ab R):ab R:=
 bT N [111,102,102] l at_ Code At (fun o=>
 if o=true then
 (j ([]:List ae) (IntKind.wrap .i64 (at_+1)) Code At)
 else
 (aZ N l at_ Code At (fun C I J U=>
 ja N l (fun y16 y17 y18 y19=>
 j y19 y16 y17 y18) N I J U [C])))
def Hj(N:Nat):FD E0:={f:=123,fn:=Tryz.f123,q:=⟨[.p 0 0 0],[z2]⟩,loops:=[{cur:=0,live:=[0,3],out:=fun | .exit 0=>([3],[])|_=>([],[]),q:=⟨[.p 0 0 0,.sw 1],[z2,.rw .str .app]⟩,G:=fun R K n a b c d e=>ja N a (pK ⟨[.sw 1],[z2,.rw .str .app]⟩ (K (.exit 0)) a) n b c d e,B:=fun R K rec a b c d e=>nO N a (pK ⟨[.sw 1],[z2,.rw .str .app]⟩ (K (.exit 0)) a) (rec a) b c d e}],g:=[kP N,fX N],exit:=[(⟨2,[]⟩,.tree .str)]}
def Hk(N:Nat):OC E0:=⟨_,FD.ct e0 (Hj N) N (fun R k a b c d=>mc N a b c d (fun e=>oK ⟨.t .str,[z2],[]⟩ k e a))⟩
def z23:ShO S:=.bx [.i .i64,.sw 3,.ns,.i .i64]
def z24:ShO S:=.bx [.i .i64,.sw 3,.sw 4,.i .i64]
def y16:Sh S:=.ag [.i .i64,.t .strs,.t .strs,.i .i64]
def me(N:Nat)(J:List Token)(k5 k7 k8 k9:Int)(b9:Int→Int→Int→(List (List ae))→ab R)(rec:Int→Int→Int→(List (List ae))→ab R)(j o C:Int)(I:List (List ae)):ab R:=
 bT N [44] J j o C (fun j6=>
 if j6=true then
 (mc N J (IntKind.wrap .i64 (j+1)) o C (fun U j7 j8 j9=>
 if I.length+[U].length≤ah then(rec j7 j8 j9 (I++[U])) else none))
 else
 (b9 j o C I))
def im(N:Nat)(j:List Token)(o C I J:Int)(U:Int→Int→Int→(List (List ae))→ab R):Nat→Int→Int→Int→(List (List ae))→ab R
 |0=>fun _ _ _ _=>none
 |n+1=>fun b9 j6 j7 j8=>me N j o C I J U (im N j o C I J U n) b9 j6 j7 j8
def mf(N:Nat)(J:List Token)(k7 k8 k9 l7:Int)(l9 m0:List (List ae))(b9:Int→Int→Int→(List ae)→ab R)(rec:Int→Int→Int→(List ae)→ab R)(o j C:Int)(I:List ae):ab R:=
 (ifB (j==0) true (bT N [93] J o j C (fun j6=>
 some (!j6))) (some false)).bind fun j7=>
 if j7=true then
 (aZ N J o j C (fun U j8 j9 k5=>
 if I.length+[U].length≤ah then(rec j8 j9 k5 (I++[U])) else none))
 else
 (b9 o j C I)
def iq(N:Nat)(j:List Token)(o C I J:Int)(U b9:List (List ae))(j6:Int→Int→Int→(List ae)→ab R):Nat→Int→Int→Int→(List ae)→ab R
 |0=>fun _ _ _ _=>none
 |n+1=>fun j7 j8 j9 k5=>mf N j o C I J U b9 j6 (iq N j o C I J U b9 j6 n) j7 j8 j9 k5
def mg(N:Nat)(o:List Token)(b9 j6 j7 j8:Int)(j9:List (List ae))(k5:Int→Int→Int→(List (List ae))→ab R)(rec:Int→Int→Int→(List (List ae))→ab R)(C I J:Int)(j:List (List ae)):ab R:=
 bT N [91] o C I J (fun k7=>
 if k7=true then
 (iq N o b9 j6 j7 j8 j9 j (fun k8 k9 l7 U=>
 ax N [93] o k8 k9 l7 (fun l9 m0 m3=>
 if j.length+[U].length≤ah then(rec l9 m0 m3 (j++[U])) else none)) N (IntKind.wrap .i64 (C+1)) I J ([]:List ae))
 else
 (k5 C I J j))
def ir(N:Nat)(j:List Token)(o C I J:Int)(U:List (List ae))(b9:Int→Int→Int→(List (List ae))→ab R):Nat→Int→Int→Int→(List (List ae))→ab R
 |0=>fun _ _ _ _=>none
 |n+1=>fun j6 j7 j8 j9=>mg N j o C I J U b9 (ir N j o C I J U b9 n) j6 j7 j8 j9
def oF(N:Nat)(l:List Token)(at_ Code At:Int)(J:Int→(List (List ae))→(List (List ae))→Int→Int→Int→Int→ab R):ab R:=
 gy N l at_ Code At (fun j=>
 cp N l (IntKind.wrap .i64 (at_+1)) Code At (fun o U r4 r5=>
 ax N [123] l U r4 r5 (fun r6 r7 r8=>
 mc N l r6 r7 r8 (fun C k5 k7 k8=>
 if[C].length≤ah then(im N l 0 0 o j (fun k9 l7 l9 I=>
 ax N [59] l k9 l7 l9 (fun m0 m3 m4=>
 ir N l 0 0 o j I (fun m5 m6 m7 m8=>
 ax N [125] l m5 m6 m7 (fun m9 n9 o0=>
 J o I m8 j m9 n9 o0)) N m0 m3 m4 ([]:List (List ae)))) N k5 k7 k8 [C]) else none))))
def FE(N:Nat):FD E0:={f:=59,fn:=Tryz.f59,q:=⟨[.p 0 0 0],[z2]⟩,loops:=[{cur:=0,live:=[0,2,3],out:=fun | .exit 0=>([0,2,3],[])|_=>([],[]),q:=⟨[.p 0 0 0,.p 1 0 0,.p 2 0 0],[z2,.bx [.i .i64,.ns,.ns,.i .i64],z23,.rw .strs .app]⟩,G:=fun R K n a b c d e g h i j=>im N a e g h i (fun l m o=>pK ⟨[.p 0 0 0,.p 1 0 0,.p 2 0 0],[z2,.bx [.i .i64,.ns,.ns,.i .i64],z23,.rw .strs .app]⟩ (K (.exit 0)) a l m o e g h i) n b c d j,B:=fun R K rec a b c d e g h i j=>me N a e g h i (fun l m o=>pK ⟨[.p 0 0 0,.p 1 0 0,.p 2 0 0],[z2,.bx [.i .i64,.ns,.ns,.i .i64],z23,.rw .strs .app]⟩ (K (.exit 0)) a l m o e g h i) (fun b c d j=>rec a b c d e g h i j) b c d j},{cur:=4,live:=[0,2,3,4],fix:=[(⟨4,[]⟩,.row .str .app),(⟨3,[2]⟩,.row .strs .app)],out:=fun | .exit 4=>([0,2,3,4],[])|_=>([],[]),q:=⟨[.p 0 0 0,.p 1 0 0,.p 2 0 0,.sw 5],[z2,.bx [.i .i64,.ns,.ns,.i .i64],z24,.rw .strs .app,.rw .strs .app,.rw .str .app]⟩,G:=fun R K n a b c d e g h i j l m=>iq N a e g h i j l (fun o p q=>pK ⟨[.p 0 0 0,.p 1 0 0,.p 2 0 0,.sw 5],[z2,.bx [.i .i64,.ns,.ns,.i .i64],z24,.rw .strs .app,.rw .strs .app,.rw .str .app]⟩ (K (.exit 4)) a o p q e g h i j l) n b c d m,B:=fun R K rec a b c d e g h i j l m=>mf N a e g h i j l (fun o p q=>pK ⟨[.p 0 0 0,.p 1 0 0,.p 2 0 0,.sw 5],[z2,.bx [.i .i64,.ns,.ns,.i .i64],z24,.rw .strs .app,.rw .strs .app,.rw .str .app]⟩ (K (.exit 4)) a o p q e g h i j l) (fun b c d m=>rec a b c d e g h i j l m) b c d m},{cur:=2,live:=[0,2,3],fix:=[(⟨3,[2]⟩,.row .strs .app)],out:=fun | .exit 2=>([0,2,3],[])|_=>([],[]),q:=⟨[.p 0 0 0,.p 1 0 0,.p 2 0 0],[z2,.bx [.i .i64,.ns,.ns,.i .i64],z24,.rw .strs .app,.rw .strs .app]⟩,G:=fun R K n a b c d e g h i j l=>ir N a e g h i j (fun m o p=>pK ⟨[.p 0 0 0,.p 1 0 0,.p 2 0 0],[z2,.bx [.i .i64,.ns,.ns,.i .i64],z24,.rw .strs .app,.rw .strs .app]⟩ (K (.exit 2)) a m o p e g h i j) n b c d l,B:=fun R K rec a b c d e g h i j l=>mg N a e g h i j (fun m o p=>pK ⟨[.p 0 0 0,.p 1 0 0,.p 2 0 0],[z2,.bx [.i .i64,.ns,.ns,.i .i64],z24,.rw .strs .app,.rw .strs .app]⟩ (K (.exit 2)) a m o p e g h i j) (fun b c d l=>rec a b c d e g h i j l) b c d l}],g:=[iW N,jv N,kP N,eT N,lM N,fX N,Hk N],exit:=[(⟨2,[1]⟩,.tree .strs),(⟨2,[2]⟩,.tree .strs)]}
def FF(N:Nat):OC E0:=⟨_,FD.ct e0 (FE N) N (fun R k a b c d=>oF N a b c d (fun e g h i=>oK ⟨y16,[z2],[]⟩ k e g h i a))⟩
def z25:ShO S:=.bx [.st,.st,.st,.st,.ns,.ns,.ns,.i .i64]
def z26:ShO S:=.bx [.st,.st,.st,.st,.t .str,.t .str,.sw 3,.i .i64]
def z27:ShO S:=.bx [.st,.st,.st,.st,.t .str,.t .str,.sw 2,.i .i64]
def z28:ShO S:=.bx [.st,.st,.st,.st,.t .str,.t .str,.ns,.i .i64]
def y17:Sh S:=.ag [.st,.st,.st,.st,.t .str,.t .str,.t .cell,.i .i64]
end
end So
