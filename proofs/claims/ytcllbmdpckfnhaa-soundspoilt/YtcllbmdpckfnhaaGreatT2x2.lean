/- T2_2: a part of the proof of SoundSpoilt: lemmas on the evaluator and on the functions that the law reaches. -/
import Derived.Test.YtcllbmdpckfnhaaGreatT2x1
set_option maxRecDepth 100000
set_option linter.unusedVariables false
namespace So
open Go TE Go.Proofs
noncomputable section
variable{R:Type}
def jD(F:ay)(N:Nat)(l:List Token)(at_ open_ Code At:Int)(j:Int→Int→ae→(List Expr)→Int→Int→Int→Int→Int→ab R):ab R:=
 (at? l at_).bind fun o=>
 if(o.Kind==2)=true then
 (j 1 o.N [] ([]:List Expr) o.At (IntKind.wrap .i64 (at_+1)) open_ Code At)
 else
 (gQ N [36] l at_ open_ Code At (fun r2=>
 if r2=true then
 (j 3 0 [] ([]:List Expr) o.At (IntKind.wrap .i64 (at_+1)) open_ Code At)
 else
 (gQ N [105,110] l at_ open_ Code At (fun r3=>
 if r3=true then
 (jC N [40] l (IntKind.wrap .i64 (at_+1)) open_ Code At (fun C I J=>
 if(I != 0)=true then
 (j 0 0 [] ([]:List Expr) 0 C open_ I J)
 else
 (sD N l C (fun r7=>
 if(!r7)=true then
 (gw N l C open_ I J (fun r8 r9 l7 l9 m0 m3 m4=>
 j r8 r9 l7 l9 m0 C open_ m3 m4))
 else
 ((at? l C).bind fun m5=>
 jC N [41] l (IntKind.wrap .i64 (C+1)) open_ I J (fun m6 m7 m8=>
 j 4 0 m5.Text ([]:List Expr) o.At m6 open_ m7 m8))))))
 else
 (gQ N [40] l at_ open_ Code At (fun m9=>
 if m9=true then
 (kQ N l at_ open_ Code At (fun n9 U b9 j6 j7=>
 if(!n9)=true then
 (j 0 0 [] ([]:List Expr) 0 U b9 j6 j7)
 else
 (F.r7_reader_binary _ 1 l U b9 j6 j7 (fun o0 o5 o6 o7 o8 o9 j8 p5 p6=>
 jC N [41] l o9 j8 p5 p6 (fun p7 p8 p9=>
 j o0 o5 o6 o7 o8 p7 (IntKind.wrap .i64 (j8-1)) p8 p9)))))
 else
 (sD N l at_ (fun q8=>
 if q8=true then
 (j 2 0 o.Text ([]:List Expr) o.At (IntKind.wrap .i64 (at_+1)) open_ Code At)
 else
 (gw N l at_ open_ Code At (fun q9 s8 s9 u9 B0 B5 B6=>
 j q9 s8 s9 u9 B0 at_ open_ B5 B6))))))))))
def rz(F:ay)(hF:cf F)(N:Nat):FD E0:={f:=223,fn:=Tryz.f223,q:=yJ,g:=[zC N,⟨jX F,hF.r7_reader_binary⟩,vj N,xg N,Hi N,xf N],exit:=[(⟨2,[3]⟩,.tree .expr)]}
theorem DK(F:ay)(hF:cf F)(N:Nat):Ct.ok E0 ⟨(rz F hF N).f,(rz F hF N).q,fun R k a b c d e=>jD F N a b c d e (fun g h i j l=>oK ⟨y4,[z5],[]⟩ k g h i j l a)⟩:=FD.ct e0 (rz F hF N) N (fun R k a b c d e=>jD F N a b c d e (fun g h i j l=>oK ⟨y4,[z5],[]⟩ k g h i j l a))
def wJ(F:ay)(N:Nat):ay where
 r7_reader_binary:=fun R level l at_ open_ Code At j=>hR F N level l at_ open_ Code At j
 r7_reader_unary:=fun R l at_ open_ Code At j=>iY F N l at_ open_ Code At j
 r7_reader_prim:=fun R l at_ open_ Code At j=>jD F N l at_ open_ Code At j
def aw(N:Nat):Nat→ay
 |0=>{r7_reader_binary:=fun _ _ _ _ _ _ _ _=>none,r7_reader_unary:=fun _ _ _ _ _ _ _=>none,r7_reader_prim:=fun _ _ _ _ _ _ _=>none}
 |d+1=>wJ (aw N d) N
theorem et(N:Nat):∀d,cf (aw N d)
 |0=>{r7_reader_binary:=Ct.ok_none,r7_reader_unary:=Ct.ok_none,r7_reader_prim:=Ct.ok_none}
 |d+1=>{r7_reader_binary:=Bj _ (et N d) N,r7_reader_unary:=CT _ (et N d) N,r7_reader_prim:=DK _ (et N d) N}
def r7_reader_binary(N:Nat)(level:Int)(l:List Token)(at_ open_ Code At:Int)(j:Int→Int→ae→(List Expr)→Int→Int→Int→Int→Int→ab R):ab R:=(aw N N).r7_reader_binary R level l at_ open_ Code At j
theorem CU(N d:Nat)(level:Int)(l:List Token)(at_ open_ Code At:Int)(k0:Int→Int→ae→(List Expr)→Int→Int→Int→Int→Int→ab R):(aw N (d+1)).r7_reader_binary R level l at_ open_ Code At k0=hR (aw N d) N level l at_ open_ Code At k0:=rfl
def DL(N:Nat):OC E0:=⟨jX (aw N N),(et N N).r7_reader_binary⟩
def r7_reader_unary(N:Nat)(l:List Token)(at_ open_ Code At:Int)(j:Int→Int→ae→(List Expr)→Int→Int→Int→Int→Int→ab R):ab R:=(aw N N).r7_reader_unary R l at_ open_ Code At j
theorem DM(N d:Nat)(l:List Token)(at_ open_ Code At:Int)(k0:Int→Int→ae→(List Expr)→Int→Int→Int→Int→Int→ab R):(aw N (d+1)).r7_reader_unary R l at_ open_ Code At k0=iY (aw N d) N l at_ open_ Code At k0:=rfl
def r7_reader_prim(N:Nat)(l:List Token)(at_ open_ Code At:Int)(j:Int→Int→ae→(List Expr)→Int→Int→Int→Int→Int→ab R):ab R:=(aw N N).r7_reader_prim R l at_ open_ Code At j
theorem Fp(N d:Nat)(l:List Token)(at_ open_ Code At:Int)(k0:Int→Int→ae→(List Expr)→Int→Int→Int→Int→Int→ab R):(aw N (d+1)).r7_reader_prim R l at_ open_ Code At k0=jD (aw N d) N l at_ open_ Code At k0:=rfl
def y5:Sh S:=.tp [y4,.i .i64,.ag [.i .i64,.i .i64]]
def yL(N:Nat)(l:List Token)(at_:Int)(j:Int→Int→ae→(List Expr)→Int→Int→Int→Int→ab R):ab R:=
 r7_reader_binary N 1 l at_ 0 0 0 (fun C I J U r5 r6 r7 o r9=>
 if(o != 0)=true then
 (j 0 0 [] ([]:List Expr) 0 0 o r9)
 else
 (j C I J U r5 r6 0 0))
def Re(N:Nat):FD E0:={f:=208,fn:=Tryz.f208,q:=⟨[.t .tok,.i .i64],[]⟩,g:=[DL N],exit:=[(⟨4,[3]⟩,.tree .expr)]}
def DN(N:Nat):OC E0:=⟨_,FD.ct e0 (Re N) N (fun R k a b=>yL N a b (oK ⟨y5,[],[]⟩ k))⟩
def y6:Sh S:=.tp [.t .expr,.i .i64,.ag [.i .i64,.i .i64]]
def rA(N:Nat)(l:List Token)(at_:Int)(j:(List Expr)→Int→Int→Int→ab R):ab R:=
 zD N l at_ [40] (fun I o J=>
 if(o != 0)=true then
 (j ([]:List Expr) 0 o J)
 else
 (yL N l I (fun U r5 r6 r7 r8 r9 C k5=>
 if(C != 0)=true then
 (j ([]:List Expr) 0 C k5)
 else
 (zD N l r9 [41] (fun k7 k8 k9=>
 j [(⟨U,r5,r6,r7,r8⟩:Expr)] k7 k8 k9)))))
def MW(N:Nat):FD E0:={f:=215,fn:=Tryz.f215,q:=⟨[.t .tok,.i .i64],[]⟩,g:=[DN N,Hg N],exit:=[(⟨4,[]⟩,.tree .expr)]}
def zE(N:Nat):OC E0:=⟨_,FD.ct e0 (MW N) N (fun R k a b=>rA N a b (oK ⟨y6,[],[]⟩ k))⟩
def y7:Sh S:=.tp [.st,.i .i64,.ag [.i .i64,.i .i64]]
def uc(N:Nat)(l:List Token)(at_:Int)(j:ae→Int→Int→Int→ab R):ab R:=
 sD N l at_ (fun o=>
 if(!o)=true then
 (oR N l at_ (fun C I=>
 j [] 0 C I))
 else
 ((at? l at_).bind fun J=>
 j J.Text (IntKind.wrap .i64 (at_+1)) 0 0))
def Uw(N:Nat):FD E0:={f:=216,fn:=Tryz.f216,q:=⟨[.t .tok,.i .i64],[]⟩,g:=[kO N,zC N]}
def Mg(N:Nat):OC E0:=⟨_,FD.ct e0 (Uw N) N (fun R k a b=>uc N a b (oK ⟨y7,[],[]⟩ k))⟩
def Bk(N:Nat)(l:List Token)(at_:Int)(j:(List Expr)→Int→Int→Int→ab R):ab R:=
 py N l at_ [40] (fun o=>
 if(!o)=true then
 (j ([]:List Expr) at_ 0 0)
 else
 (rA N l at_ (fun C I J U=>
 j C I J U)))
def Rf(N:Nat):FD E0:={f:=217,fn:=Tryz.f217,q:=⟨[.t .tok,.i .i64],[]⟩,g:=[rS N,zE N],exit:=[(⟨4,[]⟩,.tree .expr)]}
def Rg(N:Nat):OC E0:=⟨_,FD.ct e0 (Rf N) N (fun R k a b=>Bk N a b (oK ⟨y6,[],[]⟩ k))⟩
def y8:Sh S:=.ag [.i .i64,.st,.st,.t .expr,.i .i64,.t .act,.t .act,.i .i64]
def y9:Sh S:=.tp [y8,.i .i64,.ag [.i .i64,.i .i64]]
def MX(N:Nat)(l:List Token)(at_:Int)(j:Int→ae→ae→(List Expr)→Int→(List Act)→(List Act)→Int→Int→Int→Int→ab R):ab R:=
 (at? l at_).bind fun o=>
 uc N l at_ (fun C U I r5=>
 if(I != 0)=true then
 (j 1 [] [] ([]:List Expr) 0 ([]:List Act) ([]:List Act) o.At 0 I r5)
 else
 (zD N l U [61] (fun r6 J r8=>
 if(J != 0)=true then
 (j 1 C [] ([]:List Expr) 0 ([]:List Act) ([]:List Act) o.At 0 J r8)
 else
 (yL N l r6 (fun r9 j9 k5 k7 k8 k9 l7 l9=>
 j 1 C [] [(⟨r9,j9,k5,k7,k8⟩:Expr)] 0 ([]:List Act) ([]:List Act) o.At k9 l7 l9)))))
def Wt(N:Nat):FD E0:={f:=218,fn:=Tryz.f218,q:=⟨[.t .tok,.i .i64],[]⟩,g:=[DN N,Mg N,Hg N],exit:=[(⟨4,[3]⟩,.tree .expr),(⟨4,[5]⟩,.tree .act),(⟨4,[6]⟩,.tree .act)]}
def Wu(N:Nat):OC E0:=⟨_,FD.ct e0 (Wt N) N (fun R k a b=>MX N a b (oK ⟨y9,[],[]⟩ k))⟩
def z9:ShO S:=.bx [.i .i64,.st,.st,.ns,.i .i64,.ns,.ns,.i .i64]
def z10:ShO S:=.bx [.i .i64,.st,.st,.t .expr,.i .i64,.t .act,.t .act,.i .i64]
def z11:ShO S:=.bx [.i .i64,.st,.st,.t .expr,.i .i64,.ns,.ns,.i .i64]
def cq(N:Nat)(j:List Token)(o j7:Int)(j8 j9:ae)(k5 k7 k8 k9 l7:Int)(l9 m0:ae)(m3:List Expr)(m4:Int)(m5 m6:List Act)(m7 C m8:Int)(I:Int→Int→ae→ae→Int→Int→ab R)(J:Int→Int→Int→ab R):ab R:=
 if(C != 0)=true then
 (I 0 0 [] [] 0 0)
 else
 (zD N j o [59] (fun U b9 j6=>
 J U b9 j6))
def oe(N:Nat)(j:List Token)(o j8:Int)(j9 k5:ae)(k7 k8 k9 l7 l9:Int)(m0 m3:ae)(m4 m5 C m6:Int)(I:Int→(List Expr)→Int→Int→ab R)(J:ab R):ab R:=
 if(C==0)=true then
 (Bk N j o (fun U b9 j6 j7=>
 I b9 U j6 j7))
 else
 (J )
def Cw(N:Nat)(l:List Token)(at_:Int)(j:Int→ae→ae→(List Expr)→Int→(List Act)→(List Act)→Int→Int→Int→Int→ab R):ab R:=
 (at? l at_).bind fun o=>
 py N l at_ [114,97,105,115,101] (fun r2=>
 if r2=true then
 (uc N l (IntKind.wrap .i64 (at_+1)) (fun J r4 r5 r6=>
 if(r5==0)=true then
 (Bk N l r4 (fun r7 r8 r9 m0=>
 cq N l r8 0 [] [] 0 0 0 0 2 [] J r7 0 ([]:List Act) ([]:List Act) o.At r9 m0 (fun B7 B8 B9 C0 C1 C2=>
 j B8 B9 C0 ([]:List Expr) C1 ([]:List Act) ([]:List Act) C2 B7 r9 m0)
 (fun C3 C4 C5=>
 j 2 [] J r7 0 ([]:List Act) ([]:List Act) o.At C3 C4 C5)))
 else
 (cq N l r4 0 [] [] 0 0 0 0 2 [] J ([]:List Expr) 0 ([]:List Act) ([]:List Act) o.At r5 r6 (fun C6 C7 C8 C9 D0 D3=>
 j C7 C8 C9 ([]:List Expr) D0 ([]:List Act) ([]:List Act) D3 C6 r5 r6)
 (fun D4 D5 D6=>
 j 2 [] J ([]:List Expr) 0 ([]:List Act) ([]:List Act) o.At D4 D5 D6))))
 else
 (py N l at_ [115,101,110,100] (fun D7=>
 if D7=true then
 (uc N l (IntKind.wrap .i64 (at_+1)) (fun C j7 U j8=>
 if(U==0)=true then
 (uc N l j7 (fun I m3 j9 k5=>
 oe N l m3 0 [] [] 0 0 0 0 3 C I 0 o.At j9 k5 (fun D8 m4 m5 m6=>
 cq N l D8 0 [] [] 0 0 0 0 3 C I m4 0 ([]:List Act) ([]:List Act) o.At m5 m6 (fun D9 E1 E2 E3 E4 E5=>
 j E1 E2 E3 ([]:List Expr) E4 ([]:List Act) ([]:List Act) E5 D9 m5 m6)
 (fun E6 E7 E8=>
 j 3 C I m4 0 ([]:List Act) ([]:List Act) o.At E6 E7 E8))
 (cq N l m3 0 [] [] 0 0 0 0 3 C I ([]:List Expr) 0 ([]:List Act) ([]:List Act) o.At j9 k5 (fun E9 F0 F1 F2 F3 F4=>
 j F0 F1 F2 ([]:List Expr) F3 ([]:List Act) ([]:List Act) F4 E9 j9 k5)
 (fun F5 F6 F7=>
 j 3 C I ([]:List Expr) 0 ([]:List Act) ([]:List Act) o.At F5 F6 F7))))
 else
 (oe N l j7 0 [] [] 0 0 0 0 3 C [] 0 o.At U j8 (fun F8 m7 m8 m9=>
 cq N l F8 0 [] [] 0 0 0 0 3 C [] m7 0 ([]:List Act) ([]:List Act) o.At m8 m9 (fun F9 G0 G1 G2 G3 G4=>
 j G0 G1 G2 ([]:List Expr) G3 ([]:List Act) ([]:List Act) G4 F9 m8 m9)
 (fun G5 G6 G7=>
 j 3 C [] m7 0 ([]:List Act) ([]:List Act) o.At G5 G6 G7))
 (cq N l j7 0 [] [] 0 0 0 0 3 C [] ([]:List Expr) 0 ([]:List Act) ([]:List Act) o.At U j8 (fun G8 G9 H0 H2 H3 H4=>
 j G9 H0 H2 ([]:List Expr) H3 ([]:List Act) ([]:List Act) H4 G8 U j8)
 (fun H5 H6 H7=>
 j 3 C [] ([]:List Expr) 0 ([]:List Act) ([]:List Act) o.At H5 H6 H7)))))
 else
 (py N l at_ [97,114,109] (fun H8=>
 if H8=true then
 (uc N l (IntKind.wrap .i64 (at_+1)) (fun b9 n9 k7 o0=>
 if(k7==0)=true then
 (rA N l n9 (fun o5 H9 o6 o7=>
 cq N l H9 0 [] [] 0 0 0 0 4 b9 [] o5 0 ([]:List Act) ([]:List Act) o.At o6 o7 (fun I0 I1 I2 I3 I4 I5=>
 j I1 I2 I3 ([]:List Expr) I4 ([]:List Act) ([]:List Act) I5 I0 o6 o7)
 (fun I6 I7 I8=>
 j 4 b9 [] o5 0 ([]:List Act) ([]:List Act) o.At I6 I7 I8)))
 else
 (cq N l n9 0 [] [] 0 0 0 0 4 b9 [] ([]:List Expr) 0 ([]:List Act) ([]:List Act) o.At k7 o0 (fun I9 J0 J1 J2 J3 J4=>
 j J0 J1 J2 ([]:List Expr) J3 ([]:List Act) ([]:List Act) J4 I9 k7 o0)
 (fun J5 J6 J7=>
 j 4 b9 [] ([]:List Expr) 0 ([]:List Act) ([]:List Act) o.At J5 J6 J7))))
 else
 (py N l at_ [99,97,110,99,101,108] (fun J8=>
 if J8=true then
 (uc N l (IntKind.wrap .i64 (at_+1)) (fun o8 J9 o9 p5=>
 cq N l J9 0 [] [] 0 0 0 0 5 o8 [] ([]:List Expr) 0 ([]:List Act) ([]:List Act) o.At o9 p5 (fun K3 K4 K5 K6 K7 K8=>
 j K4 K5 K6 ([]:List Expr) K7 ([]:List Act) ([]:List Act) K8 K3 o9 p5)
 (fun K9 L1 L2=>
 j 5 o8 [] ([]:List Expr) 0 ([]:List Act) ([]:List Act) o.At K9 L1 L2)))
 else
 (MX N l at_ (fun p6 p7 p8 p9 q8 q9 s8 s9 L3 u9 B0=>
 cq N l L3 0 [] [] 0 0 0 0 p6 p7 p8 p9 q8 q9 s8 s9 u9 B0 (fun L4 L6 L7 L8 L9 M0=>
 j L6 L7 L8 ([]:List Expr) L9 ([]:List Act) ([]:List Act) M0 L4 u9 B0)
 (fun M3 M4 M5=>
 j p6 p7 p8 p9 q8 q9 s8 s9 M3 M4 M5))))))))))
def Ow(N:Nat):FD E0:={f:=213,fn:=Tryz.f213,q:=⟨[.t .tok,.i .i64],[]⟩,cuts:=[{key:=24,live:=[0,1,4,6,7,8],fix:=[(⟨7,[3]⟩,.tree .expr),(⟨7,[5]⟩,.tree .act),(⟨7,[6]⟩,.tree .act)],out:=fun | .ret=>([4,5,6],[])|_=>([],[]),q:=⟨[.t .tok,.i .i64,.p 0 0 0,.p 1 0 0,.p 2 0 0,.p 3 0 0],[z9,.bx [.i .i64,.i .i64],z10,.bx [.i .i64,.i .i64]]⟩,G:=fun R K a b c d e g h i j l m o p q s t u v w=>cq N a b c d e g h i j l m o p q s t u v w (fun x y z a1 b1 c1=>pK ⟨[.p 0 0 0,.i .i64,.p 1 0 0],[z9,.bx [.i .i64,.i .i64]]⟩ (K .ret) x y z a1 b1 c1 v w) (fun x=>pK ⟨[.p 0 0 0,.i .i64,.p 1 0 0],[z10,.bx [.i .i64,.i .i64]]⟩ (K .ret) x l m o p q s t u)},{key:=14,live:=[0,1,4,6,7,8],out:=fun | .normal=>([0,1,4,6,7,8],[])|_=>([],[]),q:=⟨[.t .tok,.i .i64,.p 0 0 0,.p 1 0 0,.p 2 0 0,.p 3 0 0],[z9,.bx [.i .i64,.i .i64],z9,.bx [.i .i64,.i .i64]]⟩,G:=fun R K a b c d e g h i j l m o p q s t=>oe N a b c d e g h i j l m o p q s t (fun u v=>pK ⟨[.t .tok,.i .i64,.p 0 0 0,.p 1 0 0,.p 2 0 0,.p 3 0 0],[z9,.bx [.i .i64,.i .i64],z11,.bx [.i .i64,.i .i64]]⟩ (K .normal) a u c d e g h i j l m o v p q) (pK ⟨[.t .tok,.i .i64,.p 0 0 0,.p 1 0 0,.p 2 0 0,.p 3 0 0],[z9,.bx [.i .i64,.i .i64],z9,.bx [.i .i64,.i .i64]]⟩ (K .normal) a b c d e g h i j l m o p q s t)}],g:=[rS N,zE N,Mg N,Rg N,Wu N,Hg N],exit:=[(⟨4,[3]⟩,.tree .expr),(⟨4,[5]⟩,.tree .act),(⟨4,[6]⟩,.tree .act)]}
def Ox(N:Nat):OC E0:=⟨_,FD.ct e0 (Ow N) N (fun R k a b=>Cw N a b (oK ⟨y9,[],[]⟩ k))⟩
def y10:Sh S:=.tp [.t .act,.i .i64,.ag [.i .i64,.i .i64]]
structure bt where
 r8_block:(R:Type)→(List Token)→Int→Int→((List Act)→Int→Int→Int→ab R)→ab R
 r8_choice:(R:Type)→(List Token)→Int→Int→(Int→ae→ae→(List Expr)→Int→(List Act)→(List Act)→Int→Int→Int→Int→ab R)→ab R
 r8_round:(R:Type)→(List Token)→Int→Int→(Int→ae→ae→(List Expr)→Int→(List Act)→(List Act)→Int→Int→Int→Int→ab R)→ab R
def JP:Pat S:=⟨[.t .tok,.i .i64,.i .i64],[]⟩
def zF(F:bt):Ct S:=⟨207,JP,fun R k a b c=>F.r8_block R a b c (oK ⟨y10,[],[]⟩ k)⟩
def HO:Pat S:=⟨[.t .tok,.i .i64,.i .i64],[]⟩
def HP(F:bt):Ct S:=⟨211,HO,fun R k a b c=>F.r8_choice R a b c (oK ⟨y9,[],[]⟩ k)⟩
def JQ:Pat S:=⟨[.t .tok,.i .i64,.i .i64],[]⟩
def JR(F:bt):Ct S:=⟨212,JQ,fun R k a b c=>F.r8_round R a b c (oK ⟨y9,[],[]⟩ k)⟩
structure gx(F:bt):Prop where
 r8_block:(zF F).ok E0
 r8_choice:(HP F).ok E0
 r8_round:(JR F).ok E0
def mL(F:bt)(N:Nat)(k7:List Token)(k8 k9 l7 l9:Int)(j:List Act)(o:Int)(C I:ae)(J:List Expr)(U:Int)(b9 j6:List Act)(j7 j8 m0:Int)(j9:Int→ab R)(k5:(List Act)→ab R):ab R:=
 if(j8 != 0)=true then
 (j9 0)
 else
 (if j.length+[(⟨o,C,I,J,U,b9,j6,j7⟩:Act)].length≤ah then(k5 (j++[(⟨o,C,I,J,U,b9,j6,j7⟩:Act)])) else none)
def xJ(F:bt)(N:Nat)(j:List Token)(C J U:Int)(l9:Int→(List Act)→ab R)(b9:Int→Int→Int→ab R)(rec:Int→(List Act)→ab R)(o:Int)(I:List Act):ab R:=
 py N j o [125] (fun m0=>
 if(!m0)=true then
 (py N j o [105,102] (fun m3=>
 if m3=true then
 (F.r8_choice _ j o (IntKind.wrap .i64 (C+1)) (fun m4 m5 m6 m7 m8 m9 n9 o0 j6 j7 j8=>
 mL F N j j6 C J U I m4 m5 m6 m7 m8 m9 n9 o0 j7 j8 (fun o5=>
 b9 o5 j7 j8)
 (fun o6=>
 rec j6 o6)))
 else
 (py N j o [108,111,111,112] (fun o7=>
 if o7=true then
 (F.r8_round _ j o (IntKind.wrap .i64 (C+1)) (fun o8 o9 p5 p6 p7 p8 p9 q8 j9 k5 k7=>
 mL F N j j9 C J U I o8 o9 p5 p6 p7 p8 p9 q8 k5 k7 (fun q9=>
 b9 q9 k5 k7)
 (fun s8=>
 rec j9 s8)))
 else
 (Cw N j o (fun s9 u9 B0 B5 B6 B7 B8 B9 k8 k9 l7=>
 mL F N j k8 C J U I s9 u9 B0 B5 B6 B7 B8 B9 k9 l7 (fun C0=>
 b9 C0 k9 l7)
 (fun C1=>
 rec k8 C1)))))))
 else
 (l9 o I))
def pz(F:bt)(N:Nat)(j:List Token)(o C I:Int)(J:Int→(List Act)→ab R)(U:Int→Int→Int→ab R):Nat→Int→(List Act)→ab R
 |0=>fun _ _=>none
 |n+1=>fun b9 j6=>xJ F N j o C I J U (pz F N j o C I J U n) b9 j6
def vm(F:bt)(N:Nat)(l:List Token)(at_ deep:Int)(j:(List Act)→Int→Int→Int→ab R):ab R:=
 py N l at_ [123] (fun o=>
 if(!o)=true then
 (oR N l at_ (fun C I=>
 j ([]:List Act) 0 C I))
 else
 (if(deep==4)=true then
 ((at? l at_).bind fun J=>
 j ([]:List Act) 0 14 J.At)
 else
 (pz F N l deep 0 0 (fun U b9=>
 j b9 (IntKind.wrap .i64 (U+1)) 0 0)
 (fun j6 j7 j8=>
 j ([]:List Act) j6 j7 j8) N (IntKind.wrap .i64 (at_+1)) ([]:List Act))))
def DO(F:bt)(hF:gx F)(N:Nat):FD E0:={f:=207,fn:=Tryz.f207,q:=JP,loops:=[{cur:=0,live:=[0,1,2,8,9],fix:=[(⟨9,[]⟩,.row .act .app)],out:=fun | .exit 0=>([1,8,9],[]) | .ret=>([6,7,8],[])|_=>([],[]),q:=⟨[.t .tok,.i .i64,.i .i64,.p 0 0 0,.sw 1],[.bx [.i .i64,.i .i64],.rw .act .app]⟩,G:=fun R K n a b c d e g=>pz F N a c d e (fun h=>pK ⟨[.i .i64,.p 0 0 0,.sw 1],[.bx [.i .i64,.i .i64],.rw .act .app]⟩ (K (.exit 0)) h d e) (pK ⟨[.ns,.i .i64,.p 0 0 0],[.bx [.i .i64,.i .i64]]⟩ (K .ret)) n b g,B:=fun R K rec a b c d e g=>xJ F N a c d e (fun h=>pK ⟨[.i .i64,.p 0 0 0,.sw 1],[.bx [.i .i64,.i .i64],.rw .act .app]⟩ (K (.exit 0)) h d e) (pK ⟨[.ns,.i .i64,.p 0 0 0],[.bx [.i .i64,.i .i64]]⟩ (K .ret)) (fun b g=>rec a b c d e g) b g}],cuts:=[{key:=15,live:=[0,1,2,8,9,10,11],fix:=[(⟨9,[]⟩,.row .act .app)],out:=fun | .ret=>([6,7,8],[]) | .normal=>([0,1,2,8,9],[])|_=>([],[]),q:=⟨[.t .tok,.i .i64,.i .i64,.p 0 0 0,.sw 1,.p 2 0 0,.p 3 0 0],[.bx [.i .i64,.i .i64],.rw .act .app,z10,.bx [.i .i64,.i .i64]]⟩,G:=fun R K a b c d e g h i j l m o p q s t=>mL F N a b c d e g h i j l m o p q s t (fun u=>pK ⟨[.ns,.i .i64,.p 0 0 0],[.bx [.i .i64,.i .i64]]⟩ (K .ret) u s t) (pK ⟨[.t .tok,.i .i64,.i .i64,.p 0 0 0,.sw 1],[.bx [.i .i64,.i .i64],.rw .act .app]⟩ (K .normal) a b c d e)}],g:=[kO N,rS N,⟨HP F,hF.r8_choice⟩,⟨JR F,hF.r8_round⟩,Ox N],exit:=[(⟨6,[]⟩,.tree .act)]}
theorem MY(F:bt)(hF:gx F)(N:Nat):Ct.ok E0 ⟨(DO F hF N).f,(DO F hF N).q,fun R k a b c=>vm F N a b c (oK ⟨y10,[],[]⟩ k)⟩:=FD.ct e0 (DO F hF N) N (fun R k a b c=>vm F N a b c (oK ⟨y10,[],[]⟩ k))
def zG(F:bt)(N:Nat)(o C:Int)(I J:ae)(U b9 j6 j7 j8:Int)(j9 k5:ae)(k7:List Expr)(k8:Int)(k9 l7:List Act)(l9 m0 m3:Int)(j:ab R):ab R:=
 j 
def sE(F:bt)(N:Nat)(l:List Token)(at_ deep:Int)(J:Int→ae→ae→(List Expr)→Int→(List Act)→(List Act)→Int→Int→Int→Int→ab R):ab R:=
 (at? l at_).bind fun j=>
 rA N l (IntKind.wrap .i64 (at_+1)) (fun o r3 r4 r5=>
 if(r4 != 0)=true then
 (J 6 [] [] ([]:List Expr) 0 ([]:List Act) ([]:List Act) j.At 0 r4 r5)
 else
 (F.r8_block _ l r3 deep (fun C I U r9=>
 (ifB (U==0) true (py N l I [101,108,115,101] (fun k9=>
 some k9)) (some false)).bind fun l7=>
 if l7=true then
 (F.r8_block _ l (IntKind.wrap .i64 (I+1)) deep (fun j7 j8 j9 k5=>
 zG F N j8 0 [] [] 0 0 0 0 6 [] [] o 0 C j7 j.At j9 k5 (J 6 [] [] o 0 C j7 j.At j8 j9 k5)))
 else
 (zG F N I 0 [] [] 0 0 0 0 6 [] [] o 0 C ([]:List Act) j.At U r9 (J 6 [] [] o 0 C ([]:List Act) j.At I U r9)))))
def Bl(F:bt)(hF:gx F)(N:Nat):FD E0:={f:=211,fn:=Tryz.f211,q:=HO,cuts:=[{key:=9,live:=[1,6,8,9,11],fix:=[(⟨9,[6]⟩,.tree .act)],out:=fun | .ret=>([6,7,8],[])|_=>([],[]),q:=⟨[.i .i64,.p 0 0 0,.p 1 0 0,.p 2 0 0,.p 3 0 0],[z9,.bx [.i .i64,.i .i64],z10,.bx [.i .i64,.i .i64]]⟩,G:=fun R K a b c d e g h i j l m o p q s t u v=>zG F N a b c d e g h i j l m o p q s t u v (pK ⟨[.p 0 0 0,.i .i64,.p 1 0 0],[z10,.bx [.i .i64,.i .i64]]⟩ (K .ret) a j l m o p q s t u v)}],g:=[rS N,⟨zF F,hF.r8_block⟩,zE N],exit:=[(⟨6,[3]⟩,.tree .expr),(⟨6,[5]⟩,.tree .act),(⟨6,[6]⟩,.tree .act)]}
theorem Lk(F:bt)(hF:gx F)(N:Nat):Ct.ok E0 ⟨(Bl F hF N).f,(Bl F hF N).q,fun R k a b c=>sE F N a b c (oK ⟨y9,[],[]⟩ k)⟩:=FD.ct e0 (Bl F hF N) N (fun R k a b c=>sE F N a b c (oK ⟨y9,[],[]⟩ k))
def vn(F:bt)(N:Nat)(l:List Token)(at_ deep:Int)(j:Int→ae→ae→(List Expr)→Int→(List Act)→(List Act)→Int→Int→Int→Int→ab R):ab R:=
 (at? l at_).bind fun o=>
 (at? l (IntKind.wrap .i64 (at_+1))).bind fun C=>
 if(C.Kind != 2)=true then
 (oR N l (IntKind.wrap .i64 (at_+1)) (fun I J=>
 j 7 [] [] ([]:List Expr) 0 ([]:List Act) ([]:List Act) o.At 0 I J))
 else
 ((at? l (IntKind.wrap .i64 (at_+1))).bind fun U=>
 F.r8_block _ l (IntKind.wrap .i64 ((IntKind.wrap .i64 (at_+1))+1)) deep (fun r6 r7 r8 r9=>
 j 7 [] [] ([]:List Expr) U.N r6 ([]:List Act) o.At r7 r8 r9))
def DP(F:bt)(hF:gx F)(N:Nat):FD E0:={f:=212,fn:=Tryz.f212,q:=JQ,g:=[kO N,⟨zF F,hF.r8_block⟩],exit:=[(⟨6,[3]⟩,.tree .expr),(⟨6,[5]⟩,.tree .act),(⟨6,[6]⟩,.tree .act)]}
theorem MZ(F:bt)(hF:gx F)(N:Nat):Ct.ok E0 ⟨(DP F hF N).f,(DP F hF N).q,fun R k a b c=>vn F N a b c (oK ⟨y9,[],[]⟩ k)⟩:=FD.ct e0 (DP F hF N) N (fun R k a b c=>vn F N a b c (oK ⟨y9,[],[]⟩ k))
def Fq(F:bt)(N:Nat):bt where
 r8_block:=fun R l at_ deep j=>vm F N l at_ deep j
 r8_choice:=fun R l at_ deep j=>sE F N l at_ deep j
 r8_round:=fun R l at_ deep j=>vn F N l at_ deep j
def aY(N:Nat):Nat→bt
 |0=>{r8_block:=fun _ _ _ _ _=>none,r8_choice:=fun _ _ _ _ _=>none,r8_round:=fun _ _ _ _ _=>none}
 |d+1=>Fq (aY N d) N
theorem jY(N:Nat):∀d,gx (aY N d)
 |0=>{r8_block:=Ct.ok_none,r8_choice:=Ct.ok_none,r8_round:=Ct.ok_none}
 |d+1=>{r8_block:=MY _ (jY N d) N,r8_choice:=Lk _ (jY N d) N,r8_round:=MZ _ (jY N d) N}
def r8_block(N:Nat)(l:List Token)(at_ deep:Int)(j:(List Act)→Int→Int→Int→ab R):ab R:=(aY N N).r8_block R l at_ deep j
theorem Oy(N d:Nat)(l:List Token)(at_ deep:Int)(k0:(List Act)→Int→Int→Int→ab R):(aY N (d+1)).r8_block R l at_ deep k0=vm (aY N d) N l at_ deep k0:=rfl
def Rh(N:Nat):OC E0:=⟨zF (aY N N),(jY N N).r8_block⟩
def r8_choice(N:Nat)(l:List Token)(at_ deep:Int)(j:Int→ae→ae→(List Expr)→Int→(List Act)→(List Act)→Int→Int→Int→Int→ab R):ab R:=(aY N N).r8_choice R l at_ deep j
theorem Na(N d:Nat)(l:List Token)(at_ deep:Int)(k0:Int→ae→ae→(List Expr)→Int→(List Act)→(List Act)→Int→Int→Int→Int→ab R):(aY N (d+1)).r8_choice R l at_ deep k0=sE (aY N d) N l at_ deep k0:=rfl
def r8_round(N:Nat)(l:List Token)(at_ deep:Int)(j:Int→ae→ae→(List Expr)→Int→(List Act)→(List Act)→Int→Int→Int→Int→ab R):ab R:=(aY N N).r8_round R l at_ deep j
theorem Oz(N d:Nat)(l:List Token)(at_ deep:Int)(k0:Int→ae→ae→(List Expr)→Int→(List Act)→(List Act)→Int→Int→Int→Int→ab R):(aY N (d+1)).r8_round R l at_ deep k0=vn (aY N d) N l at_ deep k0:=rfl
def Fs(N:Nat)(l:List Token)(at_:Int)(j:(List Act)→Int→Int→Int→ab R):ab R:=
 r8_block N l at_ 0 (fun o C I J=>
 j o C I J)
def Ri(N:Nat):FD E0:={f:=202,fn:=Tryz.f202,q:=⟨[.t .tok,.i .i64],[]⟩,g:=[Rh N],exit:=[(⟨4,[]⟩,.tree .act)]}
def Rj(N:Nat):OC E0:=⟨_,FD.ct e0 (Ri N) N (fun R k a b=>Fs N a b (oK ⟨y10,[],[]⟩ k))⟩
def iR(N:Nat)(l:List Token)(at_ Code At:Int)(j:(List Act)→Int→Int→Int→ab R):ab R:=
 if(!(Code==0))=true then
 (j ([]:List Act) at_ Code At)
 else
 (Fs N l at_ (fun C J o I=>
 if(o==0)=true then
 (j C J o I)
 else
 (j C at_ o I)))
def Ft(N:Nat):FD E0:={f:=184,fn:=Tryz.f184,q:=⟨[.p 0 0 0],[z2]⟩,g:=[hO N,Rj N],exit:=[(⟨2,[]⟩,.tree .act)]}
def xi(N:Nat):OC E0:=⟨_,FD.ct e0 (Ft N) N (fun R k a b c d=>iR N a b c d (fun e=>oK ⟨.t .act,[z2],[]⟩ k e a))⟩
def hZ(N:Nat)(j:List Token)(o C I J U:Int)(b9:ae)(j6:List Expr)(j7:Int)(j8:Int→Int→Int→(List Expr)→ab R):ab R:=
 bu N [93] j o C I (fun j9 k5 k7=>
 j8 j9 k5 k7 [(⟨J,U,b9,j6,j7⟩:Expr)])
def oC(N:Nat)(l:List Token)(at_ Code At:Int)(j:(List Expr)→Int→Int→Int→ab R):ab R:=
 bu N [91] l at_ Code At (fun o I r3=>
 if(!(I==0))=true then
 (j ([]:List Expr) o I r3)
 else
 (yL N l o (fun J U r6 r7 r8 r9 C j8=>
 if(C==0)=true then
 (hZ N l r9 C j8 J U r6 r7 r8 (fun y24 y25 k7 k8=>
 j k8 y24 y25 k7))
 else
 (hZ N l o C j8 J U r6 r7 r8 (fun k9 l7 l9 m0=>
 j m0 k9 l7 l9)))))
def Fu(N:Nat):FD E0:={f:=203,fn:=Tryz.f203,q:=⟨[.p 0 0 0],[z2]⟩,cuts:=[{key:=8,live:=[0,3],out:=fun | .ret=>([2],[])|_=>([],[]),q:=⟨[.p 0 0 0,.p 1 0 0],[z2,z7]⟩,G:=fun R K a b c d e g h i j=>hZ N a b c d e g h i j (pK ⟨[.sw 1],[z2,.rw .expr .app]⟩ (K .ret) a)}],g:=[hH N,hO N,DN N],exit:=[(⟨2,[]⟩,.tree .expr)]}
def Fv(N:Nat):OC E0:=⟨_,FD.ct e0 (Fu N) N (fun R k a b c d=>oC N a b c d (fun e=>oK ⟨.t .expr,[z2],[]⟩ k e a))⟩
def z12:ShO S:=.bx [.st,.t .expr,.st,.ns,.i .i64]
def z13:ShO S:=.bx [.st,.t .expr,.st,.t .act,.i .i64]
def y11:Sh S:=.ag [.st,.t .expr,.st,.t .act,.i .i64]
def gF(N:Nat)(o:List Token)(j C I:Int)(k5 k7:ae)(k8:Int)(k9:ae)(l7:List Expr)(l9:ae)(m0:Int)(J:Int→ab R)(U:Int→Int→Int→(List Act)→ab R):ab R:=
 bf N [59] o j C I (fun b9=>
 if b9=true then
 (J (IntKind.wrap .i64 (j+1)))
 else
 (iR N o j C I (fun j6 j7 j8 j9=>
 U j7 j8 j9 j6)))
def ia(N:Nat)(j:List Token)(I o C:Int)(b9 j6:ae)(j7:Int)(j8:ae)(j9:List Expr)(J:ae)(k5:Int)(k7:Int→Int→Int→ae→ab R)(k8:Int→Int→Int→ae→(List Act)→ab R):ab R:=
 bf N [45,62] j I o C (fun l9=>
 if l9=true then
 (er N j (IntKind.wrap .i64 (I+1)) o C (fun U m0 k9 l7=>
 gF N j m0 k9 l7 b9 j6 j7 j8 j9 U k5 (fun m3=>
 k7 m3 k9 l7 U)
 (fun m4 m5 m6 m7=>
 k8 m4 m5 m6 U m7)))
 else
 (gF N j I o C b9 j6 j7 j8 j9 J k5 (fun m8=>
 k7 m8 o C J)
 (fun m9 n9 o0 o5=>
 k8 m9 n9 o0 J o5)))
def ic(N:Nat)(j:List Token)(o C I:Int)(U b9:ae)(j6:Int)(j7 j8:ae)(j9:Int)(k5:Int→Int→Int→(List Expr)→ae→ab R)(k7:Int→Int→Int→(List Expr)→ae→(List Act)→ab R):ab R:=
 bf N [91] j o C I (fun k8=>
 if k8=true then
 (oC N j o C I (fun J k9 l7 l9=>
 ia N j k9 l7 l9 U b9 j6 j7 J j8 j9 (fun m0 m3 m4 m5=>
 k5 m0 m3 m4 J m5)
 (fun m6 m7 m8 m9 n9=>
 k7 m6 m7 m8 J m9 n9)))
 else
 (ia N j o C I U b9 j6 j7 ([]:List Expr) j8 j9 (fun o0 o5 o6 o7=>
 k5 o0 o5 o6 ([]:List Expr) o7)
 (fun o8 o9 p5 p6 p7=>
 k7 o8 o9 p5 ([]:List Expr) p6 p7)))
def oD(N:Nat)(l:List Token)(at_ Code At:Int)(o:ae→(List Expr)→ae→(List Act)→Int→Int→Int→Int→ab R):ab R:=
 (at? l at_).bind fun j=>
 bf N [97,117,116,111] l at_ Code At (fun I=>
 if I=true then
 (ic N l (IntKind.wrap .i64 (at_+1)) Code At [] [] 0 [] [] j.At (fun J U b9 j6 j7=>
 o [] j6 j7 ([]:List Act) j.At J U b9)
 (fun j8 j9 k5 k7 k8 k9=>
 o [] k7 k8 k9 j.At j8 j9 k5))
 else
 (bu N [111,110] l at_ Code At (fun l7 l9 m0=>
 er N l l7 l9 m0 (fun C m3 m4 m5=>
 ic N l m3 m4 m5 [] [] 0 C [] j.At (fun m6 m7 m8 m9 n9=>
 o C m9 n9 ([]:List Act) j.At m6 m7 m8)
 (fun o0 o5 o6 o7 o8 o9=>
 o C o7 o8 o9 j.At o0 o5 o6)))))
def Fw(N:Nat):FD E0:={f:=185,fn:=Tryz.f185,q:=⟨[.p 0 0 0],[z2]⟩,cuts:=[{key:=11,live:=[0,2,3],out:=fun | .ret=>([2],[])|_=>([],[]),q:=⟨[.p 0 0 0,.p 1 0 0,.p 2 0 0],[z2,.bx [.st,.ns,.st,.ns,.i .i64],z12]⟩,G:=fun R K a b c d e g h i j l m=>gF N a b c d e g h i j l m (fun o=>pK ⟨[.p 1 0 0],[z2,z12]⟩ (K .ret) a o c d i j l m) (fun o p q s=>pK ⟨[.p 1 0 0],[z2,z13]⟩ (K .ret) a o p q i j l s m)},{key:=8,live:=[0,2,3],fix:=[(⟨3,[1]⟩,.tree .expr)],out:=fun | .ret=>([2],[])|_=>([],[]),q:=⟨[.p 0 0 0,.p 1 0 0,.p 2 0 0],[z2,.bx [.st,.ns,.st,.ns,.i .i64],z12]⟩,G:=fun R K a b c d e g h i j l m=>ia N a b c d e g h i j l m (fun o p q s=>pK ⟨[.p 1 0 0],[z2,z12]⟩ (K .ret) a o p q i j s m) (fun o p q s t=>pK ⟨[.p 1 0 0],[z2,z13]⟩ (K .ret) a o p q i j s t m)},{key:=6,live:=[0,2,3],out:=fun | .ret=>([2],[])|_=>([],[]),q:=⟨[.p 0 0 0,.p 1 0 0,.p 2 0 0],[z2,.bx [.st,.ns,.st,.ns,.i .i64],.bx [.st,.ns,.st,.ns,.i .i64]]⟩,G:=fun R K a b c d e g h i j l=>ic N a b c d e g h i j l (fun m o p q s=>pK ⟨[.p 1 0 0],[z2,z12]⟩ (K .ret) a m o p i q s l) (fun m o p q s t=>pK ⟨[.p 1 0 0],[z2,z13]⟩ (K .ret) a m o p i q s t l)}],g:=[hH N,jB N,lZ N,xi N,Fv N],exit:=[(⟨2,[1]⟩,.tree .expr),(⟨2,[3]⟩,.tree .act)]}
def Fx(N:Nat):OC E0:=⟨_,FD.ct e0 (Fw N) N (fun R k a b c d=>oD N a b c d (fun e g h i j=>oK ⟨y11,[z2],[]⟩ k e g h i j a))⟩
structure az where
 r9_reader_states:(R:Type)→Int→(List Token)→Int→Int→Int→((List State)→Int→Int→Int→ab R)→ab R
 r9_reader_state:(R:Type)→Int→(List Token)→Int→Int→Int→(Int→ae→(List Act)→(List Act)→(List Trans)→(List State)→Int→Int→Int→Int→ab R)→ab R
def vp:Pat S:=⟨[.p 0 0 0,.i .i64],[z2]⟩
def oT(F:az):Ct S:=⟨120,vp,fun R k a b c d e=>F.r9_reader_states R a b c d e (fun g=>oK ⟨.t .state,[z2],[]⟩ k g b)⟩
def xj:Pat S:=⟨[.p 0 0 0,.i .i64],[z2]⟩
def xk(F:az):Ct S:=⟨163,xj,fun R k a b c d e=>F.r9_reader_state R a b c d e (fun g h i j l m o=>oK ⟨y2,[z2],[]⟩ k g h i j l m o b)⟩
structure dU(F:az):Prop where
 r9_reader_states:(oT F).ok E0
 r9_reader_state:(xk F).ok E0
end
end So
