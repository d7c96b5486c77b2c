/- T2_4: a part of the proof of SoundSpoilt: lemmas on the evaluator and on the functions that the law reaches. -/
import Derived.Test.YtcllbmdpckfnhaaGreatT2x3
set_option maxRecDepth 100000
set_option linter.unusedVariables false
namespace So
open Go TE Go.Proofs
noncomputable section
variable{R:Type}
def mh(N:Nat)(C:List Token)(m0 m3 m4 m5:ae)(m6:Int)(m7 m8 m9 n9:ae)(o0 o5:List ae)(o6:Int)(U:Int→Int→Int→(List Cell)→ab R)(rec:Int→Int→Int→(List Cell)→ab R)(j I J:Int)(o:List Cell):ab R:=
 bT N [99,101,108,108] C j I J (fun k7=>
 if(k7==true)=true then
 (eU N ((o.length:Nat):Int) 64 C j I J (fun k8 b9 j6=>
 if(!k8)=true then
 (oF N C j b9 j6 (fun j7 j8 j9 k5 k9 l7 l9=>
 if o.length+[(⟨j7,j8,j9,k5⟩:Cell)].length≤ah then(rec k9 l7 l9 (o++[(⟨j7,j8,j9,k5⟩:Cell)])) else none))
 else
 (U j b9 j6 o)))
 else
 (U j I J o))
def iu(N:Nat)(j:List Token)(o C I J:ae)(U:Int)(b9 j6 j7 j8:ae)(j9 k5:List ae)(k7:Int)(k8:Int→Int→Int→(List Cell)→ab R):Nat→Int→Int→Int→(List Cell)→ab R
 |0=>fun _ _ _ _=>none
 |n+1=>fun k9 l7 l9 m0=>mh N j o C I J U b9 j6 j7 j8 j9 k5 k7 k8 (iu N j o C I J U b9 j6 j7 j8 j9 k5 k7 k8 n) k9 l7 l9 m0
def gJ(N:Nat)(j:List Token)(o C I:Int)(J U b9 j6:ae)(j7:Int)(j8 j9 k5 k7:ae)(k8 k9:List ae)(l7:Int)(l9:Int→Int→Int→(List Cell)→ab R):ab R:=
 iu N j J U b9 j6 j7 j8 j9 k5 k7 k8 k9 l7 (fun m0 m3 m4 m5=>
 ax N [125] j m0 m3 m4 (fun m6 m7 m8=>
 l9 m6 m7 m8 m5)) N o C I ([]:List Cell)
def nP(N:Nat)(j:List Token)(m0 m3 m4:Int)(U b9 j6 j7:ae)(j8:Int)(j9 k5 k7 k8:ae)(k9:Int)(l7:Int→Int→Int→(List ae)→(List ae)→(List Cell)→ab R):ab R:=
 jE N j m0 m3 m4 (fun o m5 m6 m7=>
 ax N [59] j m5 m6 m7 (fun C I J=>
 bT N [99,104,97,110,115] j C I J (fun m8=>
 if m8=true then
 (jE N j (IntKind.wrap .i64 (C+1)) I J (fun l9 m9 n9 o0=>
 ax N [59] j m9 n9 o0 (fun o5 o6 o7=>
 gJ N j o5 o6 o7 U b9 j6 j7 j8 j9 k5 k7 k8 o l9 k9 (fun o8 o9 p5 p6=>
 l7 o8 o9 p5 o l9 p6))))
 else
 (gJ N j C I J U b9 j6 j7 j8 j9 k5 k7 k8 o ([]:List ae) k9 (fun p7 p8 p9 q8=>
 l7 p7 p8 p9 o ([]:List ae) q8)))))
def oW(N:Nat)(j:List Token)(I J U:Int)(b9 j6 j7 j8:ae)(j9:Int)(k5 k7 p9 q8:ae)(k8:Int)(k9:Int→Int→Int→ae→ae→(List ae)→(List ae)→(List Cell)→ab R):ab R:=
 aZ N j I J U (fun o l7 l9 m0=>
 ax N [45,62] j l7 l9 m0 (fun m3 m4 m5=>
 aZ N j m3 m4 m5 (fun C m6 m7 m8=>
 ax N [123] j m6 m7 m8 (fun m9 n9 o0=>
 ax N [105,110,115,116,115] j m9 n9 o0 (fun o5 o6 o7=>
 nP N j o5 o6 o7 b9 j6 j7 j8 j9 k5 k7 o C k8 (fun o8 o9 p5 p6 p7 p8=>
 k9 o8 o9 p5 o C p6 p7 p8))))))
def oG(N:Nat)(l:List Token)(at_ Code At:Int)(I:ae→ae→ae→ae→(List ae)→(List ae)→(List Cell)→Int→Int→Int→Int→ab R):ab R:=
 gy N l at_ Code At (fun j=>
 aZ N l (IntKind.wrap .i64 (at_+1)) Code At (fun o J U r5=>
 ax N [58] l J U r5 (fun r6 r7 r8=>
 aZ N l r6 r7 r8 (fun C j9 k5 k7=>
 ax N [46] l j9 k5 k7 (fun k8 k9 l7=>
 oW N l k8 k9 l7 [] [] [] [] 0 o C [] [] j (fun l9 m0 m3 m4 m5 m6 m7 m8=>
 I o C m4 m5 m6 m7 m8 j l9 m0 m3))))))
def FG(N:Nat):FD E0:={f:=25,fn:=Tryz.f25,q:=⟨[.p 0 0 0],[z2]⟩,loops:=[{cur:=0,live:=[0,2,3],fix:=[(⟨3,[6]⟩,.row .cell .app)],out:=fun | .exit 0=>([0,2,3],[])|_=>([],[]),q:=⟨[.p 0 0 0,.p 1 0 0,.p 2 0 0],[z2,z25,z26,.rw .cell .app]⟩,G:=fun R K n a b c d e g h i j l m o p q s t u=>iu N a e g h i j l m o p q s t (fun v w x=>pK ⟨[.p 0 0 0,.p 1 0 0,.p 2 0 0],[z2,z25,z26,.rw .cell .app]⟩ (K (.exit 0)) a v w x e g h i j l m o p q s t) n b c d u,B:=fun R K rec a b c d e g h i j l m o p q s t u=>mh N a e g h i j l m o p q s t (fun v w x=>pK ⟨[.p 0 0 0,.p 1 0 0,.p 2 0 0],[z2,z25,z26,.rw .cell .app]⟩ (K (.exit 0)) a v w x e g h i j l m o p q s t) (fun b c d u=>rec a b c d e g h i j l m o p q s t u) b c d u}],cuts:=[{key:=18,live:=[0,2,3],fix:=[(⟨3,[5]⟩,.tree .str)],out:=fun | .ret=>([2],[])|_=>([],[]),q:=⟨[.p 0 0 0,.p 1 0 0,.p 2 0 0],[z2,z25,z28]⟩,G:=fun R K a b c d e g h i j l m o p q s t=>gJ N a b c d e g h i j l m o p q s t (fun u v w=>pK ⟨[.p 1 0 0],[z2,z27,.rw .cell .app]⟩ (K .ret) a u v w l m o p q s t)},{key:=12,live:=[0,2,3],out:=fun | .ret=>([2],[])|_=>([],[]),q:=⟨[.p 0 0 0,.p 1 0 0,.p 2 0 0],[z2,z25,z25]⟩,G:=fun R K a b c d e g h i j l m o p q=>nP N a b c d e g h i j l m o p q (fun s t u v w=>pK ⟨[.p 1 0 0],[z2,z27,.rw .cell .app]⟩ (K .ret) a s t u l m o p v w q)},{key:=7,live:=[0,2,3],out:=fun | .ret=>([2],[])|_=>([],[]),q:=⟨[.p 0 0 0,.p 1 0 0,.p 2 0 0],[z2,z25,z25]⟩,G:=fun R K a b c d e g h i j l m o p q=>oW N a b c d e g h i j l m o p q (fun s t u v w x y=>pK ⟨[.p 1 0 0],[z2,z27,.rw .cell .app]⟩ (K .ret) a s t u l m v w x y q)}],g:=[iW N,kP N,xd N,lM N,fX N,DW N,FF N],exit:=[(⟨2,[4]⟩,.tree .str),(⟨2,[5]⟩,.tree .str),(⟨2,[6]⟩,.tree .cell)],fork:=true}
def FH(N:Nat):OC E0:=⟨_,FD.ct e0 (FG N) N (fun R k a b c d=>oG N a b c d (fun e g h i j l m o=>oK ⟨y17,[z2],[]⟩ k e g h i j l m o a))⟩
def z29:ShO S:=.bx [.i .i64,.sw 4,.ns,.ns,.ns]
def z30:ShO S:=.bx [.i .i64,.sw 4,.sw 5,.ns,.ns]
def z31:ShO S:=.bx [.i .i64,.sw 4,.sw 5,.sw 6,.ns]
def z32:ShO S:=.bx [.i .i64,.sw 4,.sw 5,.sw 6,.sw 7]
def z33:ShO S:=.bx [.i .i64,.sw 1,.sw 2,.sw 3,.sw 4]
def y18:Sh S:=.ag [.i .i64,.t .chart,.t .inst,.t .chan,.t .cert]
def vq(N:Nat)(m6 m7 m8:Int)(C:List Token)(m9:Int)(U:Int→Int→Int→(List Chart)→ab R)(rec:Int→Int→Int→(List Chart)→ab R)(j I J:Int)(o:List Chart):ab R:=
 bT N [99,104,97,114,116] C j I J (fun l9=>
 if(l9==true)=true then
 (eU N ((o.length:Nat):Int) 8 C j I J (fun m0 b9 j6=>
 if(!m0)=true then
 (mM N C j b9 j6 (fun j7 j8 j9 k5 k7 k8 k9 l7 m3 m4 m5=>
 if o.length+[(⟨j7,j8,j9,k5,k7,k8,k9,l7⟩:Chart)].length≤ah then(rec m3 m4 m5 (o++[(⟨j7,j8,j9,k5,k7,k8,k9,l7⟩:Chart)])) else none))
 else
 (U j b9 j6 o)))
 else
 (U j I J o))
def pV(N:Nat)(j o C:Int)(I:List Token)(J:Int)(U:Int→Int→Int→(List Chart)→ab R):Nat→Int→Int→Int→(List Chart)→ab R
 |0=>fun _ _ _ _=>none
 |n+1=>fun b9 j6 j7 j8=>vq N j o C I J U (pV N j o C I J U n) b9 j6 j7 j8
def vr(N:Nat)(m4 m5 m6:Int)(C:List Token)(m7:Int)(m8:List Chart)(U:Int→Int→Int→(List Inst)→ab R)(rec:Int→Int→Int→(List Inst)→ab R)(j I J:Int)(o:List Inst):ab R:=
 bT N [105,110,115,116] C j I J (fun k9=>
 if(k9==true)=true then
 (eU N ((o.length:Nat):Int) 12 C j I J (fun l7 b9 j6=>
 if(!l7)=true then
 (oE N C j b9 j6 (fun j7 j8 j9 k5 k7 k8 l9 m0 m3=>
 if o.length+[(⟨j7,j8,j9,k5,k7,k8⟩:Inst)].length≤ah then(rec l9 m0 m3 (o++[(⟨j7,j8,j9,k5,k7,k8⟩:Inst)])) else none))
 else
 (U j b9 j6 o)))
 else
 (U j I J o))
def pW(N:Nat)(j o C:Int)(I:List Token)(J:Int)(U:List Chart)(b9:Int→Int→Int→(List Inst)→ab R):Nat→Int→Int→Int→(List Inst)→ab R
 |0=>fun _ _ _ _=>none
 |n+1=>fun j6 j7 j8 j9=>vr N j o C I J U b9 (pW N j o C I J U b9 n) j6 j7 j8 j9
def vt(N:Nat)(m5 m6 m7:Int)(C:List Token)(m8:Int)(m9:List Chart)(n9:List Inst)(U:Int→Int→Int→(List ak)→ab R)(rec:Int→Int→Int→(List ak)→ab R)(j I J:Int)(o:List ak):ab R:=
 bT N [99,104,97,110] C j I J (fun l7=>
 if(l7==true)=true then
 (eU N ((o.length:Nat):Int) 24 C j I J (fun l9 b9 j6=>
 if(!l9)=true then
 (kb N C j b9 j6 (fun j7 j8 j9 k5 k7 k8 k9 m0 m3 m4=>
 if o.length+[(⟨j7,j8,j9,k5,k7,k8,k9⟩:ak)].length≤ah then(rec m0 m3 m4 (o++[(⟨j7,j8,j9,k5,k7,k8,k9⟩:ak)])) else none))
 else
 (U j b9 j6 o)))
 else
 (U j I J o))
def pX(N:Nat)(j o C:Int)(I:List Token)(J:Int)(U:List Chart)(b9:List Inst)(j6:Int→Int→Int→(List ak)→ab R):Nat→Int→Int→Int→(List ak)→ab R
 |0=>fun _ _ _ _=>none
 |n+1=>fun j7 j8 j9 k5=>vt N j o C I J U b9 j6 (pX N j o C I J U b9 j6 n) j7 j8 j9 k5
def vu(N:Nat)(m6 m7 m8:Int)(C:List Token)(m9:Int)(n9:List Chart)(o0:List Inst)(o5:List ak)(U:Int→Int→Int→(List Cert)→ab R)(rec:Int→Int→Int→(List Cert)→ab R)(j I J:Int)(o:List Cert):ab R:=
 bT N [99,101,114,116] C j I J (fun l9=>
 if(l9==true)=true then
 (eU N ((o.length:Nat):Int) 4 C j I J (fun m0 b9 j6=>
 if(!m0)=true then
 (oG N C j b9 j6 (fun j7 j8 j9 k5 k7 k8 k9 l7 m3 m4 m5=>
 if o.length+[(⟨j7,j8,j9,k5,k7,k8,k9,l7⟩:Cert)].length≤ah then(rec m3 m4 m5 (o++[(⟨j7,j8,j9,k5,k7,k8,k9,l7⟩:Cert)])) else none))
 else
 (U j b9 j6 o)))
 else
 (U j I J o))
def pY(N:Nat)(j o C:Int)(I:List Token)(J:Int)(U:List Chart)(b9:List Inst)(j6:List ak)(j7:Int→Int→Int→(List Cert)→ab R):Nat→Int→Int→Int→(List Cert)→ab R
 |0=>fun _ _ _ _=>none
 |n+1=>fun j8 j9 k5 k7=>vu N j o C I J U b9 j6 j7 (pY N j o C I J U b9 j6 j7 n) j8 j9 k5 k7
def og(N:Nat)(o:Bool)(j7 j8 j9:Int)(C:List Token)(I J U k5:Int)(k7:List Chart)(k8:List Inst)(k9:List ak)(l7:List Cert)(j:Int→Int→ab R):ab R:=
 if o=true then
 (oR N C I (fun b9 j6=>
 j b9 j6))
 else
 (j J U)
def la(N:Nat)(I J U:Int)(b9:List Token)(j6 j j7 j8:Int)(j9:List Chart)(k5:List Inst)(k7:List ak)(k8:List Cert)(o:Int→ab R)(C:Int→Int→ab R):ab R:=
 if(!(j==0))=true then
 (o 0)
 else
 (C 0 0)
def xK(N:Nat)(C I J:Int)(j:List Token)(m3 m4 m5 U:Int)(k5:Int→Int→Int→ab R)(k7:(List Chart)→(List Inst)→(List ak)→(List Cert)→Int→Int→ab R):ab R:=
 pV N C I J j U (fun m6 m7 m8 o=>
 pW N C I J j U o (fun m9 n9 o0 b9=>
 pX N C I J j U o b9 (fun o5 o6 o7 j6=>
 pY N C I J j U o b9 j6 (fun j8 j9 k8 j7=>
 if((j9==0)==true)=true then
 ((at? j j8).bind fun o8=>
 og N (o8.Kind != 4) C I J j j8 j9 k8 U o b9 j6 j7 (fun k9 l7=>
 la N C I J j j8 k9 l7 U o b9 j6 j7 (fun o9=>
 k5 o9 k9 l7)
 (fun p5 p6=>
 k7 o b9 j6 j7 p5 p6)))
 else
 (og N false C I J j j8 j9 k8 U o b9 j6 j7 (fun l9 m0=>
 la N C I J j j8 l9 m0 U o b9 j6 j7 (fun p7=>
 k5 p7 l9 m0)
 (fun p8 p9=>
 k7 o b9 j6 j7 p8 p9)))) N o5 o6 o7 ([]:List Cert)) N m9 n9 o0 ([]:List ak)) N m6 m7 m8 ([]:List Inst)) N m3 m4 m5 ([]:List Chart)
def r10_Parse(N:Nat)(text:ae)(o:Int→(List Chart)→(List Inst)→(List ak)→(List Cert)→Int→Int→ab R):ab R:=
 MU N text (fun j C J=>
 if(C != 0)=true then
 (o 0 ([]:List Chart) ([]:List Inst) ([]:List ak) ([]:List Cert) C J)
 else
 (ax N [115,121,115,116,101,109] j 0 0 0 (fun U r5 r6=>
 ax N [97,103,101] j U r5 r6 (fun r7 r8 r9=>
 cp N j r7 r8 r9 (fun I k5 k7 k8=>
 ax N [59] j k5 k7 k8 (fun k9 l7 l9=>
 xK N 0 0 0 j k9 l7 l9 I (fun m0 m3 m4=>
 o m0 ([]:List Chart) ([]:List Inst) ([]:List ak) ([]:List Cert) m3 m4)
 (fun m5 m6 m7 m8 m9 n9=>
 o I m5 m6 m7 m8 m9 n9)))))))
def OA(N:Nat):FD E0:={f:=8,fn:=Tryz.f8,q:=⟨[.st],[]⟩,loops:=[{cur:=0,live:=[2,3,6,7],fix:=[(⟨7,[1]⟩,.row .chart .app)],out:=fun | .exit 0=>([2,3,6,7],[])|_=>([],[]),q:=⟨[.p 0 0 0,.p 1 0 0,.p 2 0 0,.p 3 0 0],[.bx [.i .i64,.ns,.ns,.ns,.ns],.bx [.i .i64,.i .i64],z2,z29,.rw .chart .app]⟩,G:=fun R K n a b c d e g h i j=>pV N a b c d i (fun l m o=>pK ⟨[.p 0 0 0,.p 1 0 0,.p 2 0 0,.p 3 0 0],[.bx [.i .i64,.ns,.ns,.ns,.ns],.bx [.i .i64,.i .i64],z2,z29,.rw .chart .app]⟩ (K (.exit 0)) a b c d l m o i) n e g h j,B:=fun R K rec a b c d e g h i j=>vq N a b c d i (fun l m o=>pK ⟨[.p 0 0 0,.p 1 0 0,.p 2 0 0,.p 3 0 0],[.bx [.i .i64,.ns,.ns,.ns,.ns],.bx [.i .i64,.i .i64],z2,z29,.rw .chart .app]⟩ (K (.exit 0)) a b c d l m o i) (fun e g h j=>rec a b c d e g h i j) e g h j},{cur:=2,live:=[2,3,6,7],fix:=[(⟨7,[2]⟩,.row .inst .app)],out:=fun | .exit 2=>([2,3,6,7],[])|_=>([],[]),q:=⟨[.p 0 0 0,.p 1 0 0,.p 2 0 0,.p 3 0 0],[.bx [.i .i64,.ns,.ns,.ns,.ns],.bx [.i .i64,.i .i64],z2,z30,.rw .chart .app,.rw .inst .app]⟩,G:=fun R K n a b c d e g h i j l=>pW N a b c d i j (fun m o p=>pK ⟨[.p 0 0 0,.p 1 0 0,.p 2 0 0,.p 3 0 0],[.bx [.i .i64,.ns,.ns,.ns,.ns],.bx [.i .i64,.i .i64],z2,z30,.rw .chart .app,.rw .inst .app]⟩ (K (.exit 2)) a b c d m o p i j) n e g h l,B:=fun R K rec a b c d e g h i j l=>vr N a b c d i j (fun m o p=>pK ⟨[.p 0 0 0,.p 1 0 0,.p 2 0 0,.p 3 0 0],[.bx [.i .i64,.ns,.ns,.ns,.ns],.bx [.i .i64,.i .i64],z2,z30,.rw .chart .app,.rw .inst .app]⟩ (K (.exit 2)) a b c d m o p i j) (fun e g h l=>rec a b c d e g h i j l) e g h l},{cur:=4,live:=[2,3,6,7],fix:=[(⟨7,[3]⟩,.row .chan .app)],out:=fun | .exit 4=>([2,3,6,7],[])|_=>([],[]),q:=⟨[.p 0 0 0,.p 1 0 0,.p 2 0 0,.p 3 0 0],[.bx [.i .i64,.ns,.ns,.ns,.ns],.bx [.i .i64,.i .i64],z2,z31,.rw .chart .app,.rw .inst .app,.rw .chan .app]⟩,G:=fun R K n a b c d e g h i j l m=>pX N a b c d i j l (fun o p q=>pK ⟨[.p 0 0 0,.p 1 0 0,.p 2 0 0,.p 3 0 0],[.bx [.i .i64,.ns,.ns,.ns,.ns],.bx [.i .i64,.i .i64],z2,z31,.rw .chart .app,.rw .inst .app,.rw .chan .app]⟩ (K (.exit 4)) a b c d o p q i j l) n e g h m,B:=fun R K rec a b c d e g h i j l m=>vt N a b c d i j l (fun o p q=>pK ⟨[.p 0 0 0,.p 1 0 0,.p 2 0 0,.p 3 0 0],[.bx [.i .i64,.ns,.ns,.ns,.ns],.bx [.i .i64,.i .i64],z2,z31,.rw .chart .app,.rw .inst .app,.rw .chan .app]⟩ (K (.exit 4)) a b c d o p q i j l) (fun e g h m=>rec a b c d e g h i j l m) e g h m},{cur:=6,live:=[2,3,6,7],fix:=[(⟨7,[4]⟩,.row .cert .app)],out:=fun | .exit 6=>([2,3,6,7],[])|_=>([],[]),q:=⟨[.p 0 0 0,.p 1 0 0,.p 2 0 0,.p 3 0 0],[.bx [.i .i64,.ns,.ns,.ns,.ns],.bx [.i .i64,.i .i64],z2,z32,.rw .chart .app,.rw .inst .app,.rw .chan .app,.rw .cert .app]⟩,G:=fun R K n a b c d e g h i j l m o=>pY N a b c d i j l m (fun p q s=>pK ⟨[.p 0 0 0,.p 1 0 0,.p 2 0 0,.p 3 0 0],[.bx [.i .i64,.ns,.ns,.ns,.ns],.bx [.i .i64,.i .i64],z2,z32,.rw .chart .app,.rw .inst .app,.rw .chan .app,.rw .cert .app]⟩ (K (.exit 6)) a b c d p q s i j l m) n e g h o,B:=fun R K rec a b c d e g h i j l m o=>vu N a b c d i j l m (fun p q s=>pK ⟨[.p 0 0 0,.p 1 0 0,.p 2 0 0,.p 3 0 0],[.bx [.i .i64,.ns,.ns,.ns,.ns],.bx [.i .i64,.i .i64],z2,z32,.rw .chart .app,.rw .inst .app,.rw .chan .app,.rw .cert .app]⟩ (K (.exit 6)) a b c d p q s i j l m) (fun e g h o=>rec a b c d e g h i j l m o) e g h o}],cuts:=[{key:=19,live:=[2,3,6,7,114],out:=fun | .normal=>([2,3,6,7],[])|_=>([],[]),q:=⟨[.p 0 0 0,.p 1 0 0,.p 2 0 0,.p 3 0 0,.b],[.bx [.i .i64,.ns,.ns,.ns,.ns],.bx [.i .i64,.i .i64],z2,z32,.rw .chart .app,.rw .inst .app,.rw .chan .app,.rw .cert .app]⟩,G:=fun R K a b c d e g h i j l m o p=>og N a b c d e g h i j l m o p (fun q s=>pK ⟨[.p 0 0 0,.p 1 0 0,.p 2 0 0,.p 3 0 0],[.bx [.i .i64,.ns,.ns,.ns,.ns],.bx [.i .i64,.i .i64],z2,z32,.rw .chart .app,.rw .inst .app,.rw .chan .app,.rw .cert .app]⟩ (K .normal) b c d e g q s j l m o p)},{key:=20,live:=[2,3,6,7],out:=fun | .ret=>([2,3],[])|_=>([],[]),q:=⟨[.p 0 0 0,.p 1 0 0,.p 2 0 0,.p 3 0 0],[.bx [.i .i64,.ns,.ns,.ns,.ns],.bx [.i .i64,.i .i64],z2,z32,.rw .chart .app,.rw .inst .app,.rw .chan .app,.rw .cert .app]⟩,G:=fun R K a b c d e g h i j l m o=>la N a b c d e g h i j l m o (fun p=>pK ⟨[.p 0 0 0,.p 1 0 0],[.bx [.i .i64,.ns,.ns,.ns,.ns],.bx [.i .i64,.i .i64]]⟩ (K .ret) p g h) (pK ⟨[.p 0 0 0,.p 5 0 0],[z33,.rw .chart .app,.rw .inst .app,.rw .chan .app,.rw .cert .app,.bx [.i .i64,.i .i64]]⟩ (K .ret) i j l m o)},{key:=10,live:=[2,3,6,7],out:=fun | .ret=>([2,3],[])|_=>([],[]),q:=⟨[.p 0 0 0,.p 1 0 0,.p 2 0 0,.p 3 0 0],[.bx [.i .i64,.ns,.ns,.ns,.ns],.bx [.i .i64,.i .i64],z2,.bx [.i .i64,.ns,.ns,.ns,.ns]]⟩,G:=fun R K a b c d e g h i=>xK N a b c d e g h i (pK ⟨[.p 0 0 0,.p 1 0 0],[.bx [.i .i64,.ns,.ns,.ns,.ns],.bx [.i .i64,.i .i64]]⟩ (K .ret)) (pK ⟨[.p 0 0 0,.p 5 0 0],[z33,.rw .chart .app,.rw .inst .app,.rw .chan .app,.rw .cert .app,.bx [.i .i64,.i .i64]]⟩ (K .ret) i)}],g:=[Wr N,iW N,jv N,kP N,xd N,DU N,FC N,Bp N,FH N,eT N,kO N],exit:=[(⟨2,[1]⟩,.tree .chart),(⟨2,[2]⟩,.tree .inst),(⟨2,[3]⟩,.tree .chan),(⟨2,[4]⟩,.tree .cert)],fork:=true}
def HQ(N:Nat):OC E0:=⟨_,FD.ct e0 (OA N) N (fun R k a=>r10_Parse N a (oK ⟨.tp [y18,.ag [.i .i64,.i .i64]],[],[]⟩ k))⟩
end
end So
