/- T2_2: a part of the proof of SoundCerts: lemmas on the evaluator and on the functions that the law reaches. -/
import Derived.Test.YtcllbmdpckfnhaaGreatT21
set_option maxRecDepth 100000
set_option linter.unusedVariables false
namespace So
open Go TE Go.Proofs
noncomputable section
variable {R:Type}
def jg (F:au) (N:Nat) (l:List Token) (at_ open_ Code At:Int) (k0:Int→Int→(List UInt8)→(List Expr)→Int→Int→Int→Int→Int→Option R):Option R :=
 (at? l at_).bind fun e1 =>
 if (e1.Kind == 2) = true then
 (k0 1 e1.N [] ([]:List Expr) e1.At (IntKind.wrap .i64 (at_ + 1)) open_ Code At)
 else
 (gg N [36] l at_ open_ Code At (fun r2 =>
 if r2 = true then
 (k0 3 0 [] ([]:List Expr) e1.At (IntKind.wrap .i64 (at_ + 1)) open_ Code At)
 else
 (gg N [105,110] l at_ open_ Code At (fun r3 =>
 if r3 = true then
 (jf N [40] l (IntKind.wrap .i64 (at_ + 1)) open_ Code At (fun r4 r5 r6 =>
 if (r5 != 0) = true then
 (k0 0 0 [] ([]:List Expr) 0 r4 open_ r5 r6)
 else
 (oh N l r4 (fun r7 =>
 if (!r7) = true then
 (fO N l r4 open_ r5 r6 (fun r8 r9 r10 r11 r12 r13 r14 =>
 k0 r8 r9 r10 r11 r12 r4 open_ r13 r14))
 else
 ((at? l r4).bind fun e15 =>
 jf N [41] l (IntKind.wrap .i64 (r4 + 1)) open_ r5 r6 (fun r16 r17 r18 =>
 k0 4 0 e15.Text ([]:List Expr) e1.At r16 open_ r17 r18))))))
 else
 (gg N [40] l at_ open_ Code At (fun r19 =>
 if r19 = true then
 (kg N l at_ open_ Code At (fun r20 r21 r22 r23 r24 =>
 if (!r20) = true then
 (k0 0 0 [] ([]:List Expr) 0 r21 r22 r23 r24)
 else
 (F.r7_reader_binary _ 1 l r21 r22 r23 r24 (fun r25 r26 r27 r28 r29 r30 r31 r32 r33 =>
 jf N [41] l r30 r31 r32 r33 (fun r34 r35 r36 =>
 k0 r25 r26 r27 r28 r29 r34 (IntKind.wrap .i64 (r31 - 1)) r35 r36)))))
 else
 (oh N l at_ (fun r37 =>
 if r37 = true then
 (k0 2 0 e1.Text ([]:List Expr) e1.At (IntKind.wrap .i64 (at_ + 1)) open_ Code At)
 else
 (fO N l at_ open_ Code At (fun r38 r39 r40 r41 r42 r43 r44 =>
 k0 r38 r39 r40 r41 r42 at_ open_ r43 r44))))))))))
def px (F:au) (hF:bR F) (N:Nat):FD E0:={ f:=223,fn:=Tryz.f223,q:=uD,g:=[vB N,⟨jx F,hF.r7_reader_binary⟩,rN N,tq N,Ck N,tn N],exit:=[(⟨2,[3]⟩,.tree .expr)] }
theorem zI (F:au) (hF:bR F) (N:Nat):Ct.ok E0 ⟨(px F hF N).f,(px F hF N).q,fun R k a b c d e=>jg F N a b c d e (fun g h i j l=>oK ⟨y4,[z5],[]⟩ k g h i j l a)⟩:=FD.ct e0 (px F hF N) N (fun R k a b c d e=>jg F N a b c d e (fun g h i j l=>oK ⟨y4,[z5],[]⟩ k g h i j l a))
def sM (F:au) (N:Nat):au where
 r7_reader_binary:=fun R level l at_ open_ Code At k0=>gE F N level l at_ open_ Code At k0
 r7_reader_unary:=fun R l at_ open_ Code At k0=>iu F N l at_ open_ Code At k0
 r7_reader_prim:=fun R l at_ open_ Code At k0=>jg F N l at_ open_ Code At k0
def ar (N:Nat):Nat→au
 | 0=>{ r7_reader_binary:=fun _ _ _ _ _ _ _ _=>none,r7_reader_unary:=fun _ _ _ _ _ _ _=>none,r7_reader_prim:=fun _ _ _ _ _ _ _=>none }
 | d + 1=>sM (ar N d) N
theorem dK (N:Nat):∀ d,bR (ar N d)
 | 0=>{ r7_reader_binary:=Ct.ok_none,r7_reader_unary:=Ct.ok_none,r7_reader_prim:=Ct.ok_none }
 | d + 1=>{ r7_reader_binary:=xz _ (dK N d) N,r7_reader_unary:=yW _ (dK N d) N,r7_reader_prim:=zI _ (dK N d) N }
def r7_reader_binary (N:Nat) (level:Int) (l:List Token) (at_ open_ Code At:Int) (k0:Int→Int→(List UInt8)→(List Expr)→Int→Int→Int→Int→Int→Option R):Option R:=(ar N N).r7_reader_binary R level l at_ open_ Code At k0
theorem yX (N d:Nat) (level:Int) (l:List Token) (at_ open_ Code At:Int) (k0:Int→Int→(List UInt8)→(List Expr)→Int→Int→Int→Int→Int→Option R):(ar N (d + 1)).r7_reader_binary R level l at_ open_ Code At k0 = gE (ar N d) N level l at_ open_ Code At k0:=rfl
def zJ (N:Nat):OC E0:=⟨jx (ar N N),(dK N N).r7_reader_binary⟩
def r7_reader_unary (N:Nat) (l:List Token) (at_ open_ Code At:Int) (k0:Int→Int→(List UInt8)→(List Expr)→Int→Int→Int→Int→Int→Option R):Option R:=(ar N N).r7_reader_unary R l at_ open_ Code At k0
theorem zK (N d:Nat) (l:List Token) (at_ open_ Code At:Int) (k0:Int→Int→(List UInt8)→(List Expr)→Int→Int→Int→Int→Int→Option R):(ar N (d + 1)).r7_reader_unary R l at_ open_ Code At k0 = iu (ar N d) N l at_ open_ Code At k0:=rfl
def r7_reader_prim (N:Nat) (l:List Token) (at_ open_ Code At:Int) (k0:Int→Int→(List UInt8)→(List Expr)→Int→Int→Int→Int→Int→Option R):Option R:=(ar N N).r7_reader_prim R l at_ open_ Code At k0
theorem AQ (N d:Nat) (l:List Token) (at_ open_ Code At:Int) (k0:Int→Int→(List UInt8)→(List Expr)→Int→Int→Int→Int→Int→Option R):(ar N (d + 1)).r7_reader_prim R l at_ open_ Code At k0 = jg (ar N d) N l at_ open_ Code At k0:=rfl
def y5:Sh S:=.tp [y4,.i .i64,.ag [.i .i64,.i .i64]]
def uF (N:Nat) (l:List Token) (at_:Int) (k0:Int→Int→(List UInt8)→(List Expr)→Int→Int→Int→Int→Option R):Option R :=
 r7_reader_binary N 1 l at_ 0 0 0 (fun r1 r2 r3 r4 r5 r6 r7 r8 r9 =>
 if (r8 != 0) = true then
 (k0 0 0 [] ([]:List Expr) 0 0 r8 r9)
 else
 (k0 r1 r2 r3 r4 r5 r6 0 0))
def KN (N:Nat):FD E0:={ f:=208,fn:=Tryz.f208,q:=⟨[.t .tok,.i .i64],[]⟩,g:=[zJ N],exit:=[(⟨4,[3]⟩,.tree .expr)] }
def zL (N:Nat):OC E0:=⟨_,FD.ct e0 (KN N) N (fun R k a b=>uF N a b (oK ⟨y5,[],[]⟩ k))⟩
def y6:Sh S:=.tp [.t .expr,.i .i64,.ag [.i .i64,.i .i64]]
def py (N:Nat) (l:List Token) (at_:Int) (k0:(List Expr)→Int→Int→Int→Option R):Option R :=
 vC N l at_ [40] (fun r1 r2 r3 =>
 if (r2 != 0) = true then
 (k0 ([]:List Expr) 0 r2 r3)
 else
 (uF N l r1 (fun r4 r5 r6 r7 r8 r9 r10 r11 =>
 if (r10 != 0) = true then
 (k0 ([]:List Expr) 0 r10 r11)
 else
 (vC N l r9 [41] (fun r12 r13 r14 =>
 k0 [(⟨r4,r5,r6,r7,r8⟩:Expr)] r12 r13 r14)))))
def Hv (N:Nat):FD E0:={ f:=215,fn:=Tryz.f215,q:=⟨[.t .tok,.i .i64],[]⟩,g:=[zL N,Ci N],exit:=[(⟨4,[]⟩,.tree .expr)] }
def vD (N:Nat):OC E0:=⟨_,FD.ct e0 (Hv N) N (fun R k a b=>py N a b (oK ⟨y6,[],[]⟩ k))⟩
def y7:Sh S:=.tp [.st,.i .i64,.ag [.i .i64,.i .i64]]
def qY (N:Nat) (l:List Token) (at_:Int) (k0:(List UInt8)→Int→Int→Int→Option R):Option R :=
 oh N l at_ (fun r1 =>
 if (!r1) = true then
 (nu N l at_ (fun r2 r3 =>
 k0 [] 0 r2 r3))
 else
 ((at? l at_).bind fun e4 =>
 k0 e4.Text (IntKind.wrap .i64 (at_ + 1)) 0 0))
def NI (N:Nat):FD E0:={ f:=216,fn:=Tryz.f216,q:=⟨[.t .tok,.i .i64],[]⟩,g:=[kc N,vB N] }
def GA (N:Nat):OC E0:=⟨_,FD.ct e0 (NI N) N (fun R k a b=>qY N a b (oK ⟨y7,[],[]⟩ k))⟩
def xA (N:Nat) (l:List Token) (at_:Int) (k0:(List Expr)→Int→Int→Int→Option R):Option R :=
 mq N l at_ [40] (fun r1 =>
 if (!r1) = true then
 (k0 ([]:List Expr) at_ 0 0)
 else
 (py N l at_ (fun r2 r3 r4 r5 =>
 k0 r2 r3 r4 r5)))
def KO (N:Nat):FD E0:={ f:=217,fn:=Tryz.f217,q:=⟨[.t .tok,.i .i64],[]⟩,g:=[pI N,vD N],exit:=[(⟨4,[]⟩,.tree .expr)] }
def KP (N:Nat):OC E0:=⟨_,FD.ct e0 (KO N) N (fun R k a b=>xA N a b (oK ⟨y6,[],[]⟩ k))⟩
def y8:Sh S:=.ag [.i .i64,.st,.st,.t .expr,.i .i64,.t .act,.t .act,.i .i64]
def y9:Sh S:=.tp [y8,.i .i64,.ag [.i .i64,.i .i64]]
def Hw (N:Nat) (l:List Token) (at_:Int) (k0:Int→(List UInt8)→(List UInt8)→(List Expr)→Int→(List Act)→(List Act)→Int→Int→Int→Int→Option R):Option R :=
 (at? l at_).bind fun e1 =>
 qY N l at_ (fun r2 r3 r4 r5 =>
 if (r4 != 0) = true then
 (k0 1 [] [] ([]:List Expr) 0 ([]:List Act) ([]:List Act) e1.At 0 r4 r5)
 else
 (vC N l r3 [61] (fun r6 r7 r8 =>
 if (r7 != 0) = true then
 (k0 1 r2 [] ([]:List Expr) 0 ([]:List Act) ([]:List Act) e1.At 0 r7 r8)
 else
 (uF N l r6 (fun r9 r10 r11 r12 r13 r14 r15 r16 =>
 k0 1 r2 [] [(⟨r9,r10,r11,r12,r13⟩:Expr)] 0 ([]:List Act) ([]:List Act) e1.At r14 r15 r16)))))
def PO (N:Nat):FD E0:={ f:=218,fn:=Tryz.f218,q:=⟨[.t .tok,.i .i64],[]⟩,g:=[zL N,GA N,Ci N],exit:=[(⟨4,[3]⟩,.tree .expr),(⟨4,[5]⟩,.tree .act),(⟨4,[6]⟩,.tree .act)] }
def PQ (N:Nat):OC E0:=⟨_,FD.ct e0 (PO N) N (fun R k a b=>Hw N a b (oK ⟨y9,[],[]⟩ k))⟩
def z9:ShO S:=.bx [.i .i64,.st,.st,.ns,.i .i64,.ns,.ns,.i .i64]
def z10:ShO S:=.bx [.i .i64,.st,.st,.t .expr,.i .i64,.t .act,.t .act,.i .i64]
def z11:ShO S:=.bx [.i .i64,.st,.st,.t .expr,.i .i64,.ns,.ns,.i .i64]
def bW (N:Nat) (l_11:List Token) (at_12 v_13:Int) (v_14 v_15:List UInt8) (v_16 v_17 v_18 v_19 a_20:Int) (a_21 a_22:List UInt8) (a_23:List Expr) (a_24:Int) (a_25 a_26:List Act) (a_27 bad_28 bad_29:Int) (kp0:Int→Int→(List UInt8)→(List UInt8)→Int→Int→Option R) (kp1:Int→Int→Int→Option R):Option R :=
 if (bad_28 != 0) = true then
 (kp0 0 0 [] [] 0 0)
 else
 (vC N l_11 at_12 [59] (fun r30 r31 r32 =>
 kp1 r30 r31 r32))
def mI (N:Nat) (l_60:List Token) (at_61 v_62:Int) (v_63 v_64:List UInt8) (v_65 v_66 v_67 v_68 a_69:Int) (a_70 a_71:List UInt8) (a_72 a_73 bad_74 bad_75:Int) (kp0:Int→(List Expr)→Int→Int→Option R) (kp1:Option R):Option R :=
 if (bad_74 == 0) = true then
 (xA N l_60 at_61 (fun r76 r77 r78 r79 =>
 kp0 r77 r76 r78 r79))
 else
 (kp1 )
def yF (N:Nat) (l:List Token) (at_:Int) (k0:Int→(List UInt8)→(List UInt8)→(List Expr)→Int→(List Act)→(List Act)→Int→Int→Int→Int→Option R):Option R :=
 (at? l at_).bind fun e1 =>
 mq N l at_ [114,97,105,115,101] (fun r2 =>
 if r2 = true then
 (qY N l (IntKind.wrap .i64 (at_ + 1)) (fun r3 r4 r5 r6 =>
 if (r5 == 0) = true then
 (xA N l r4 (fun r7 r8 r9 r10 =>
 bW N l r8 0 [] [] 0 0 0 0 2 [] r3 r7 0 ([]:List Act) ([]:List Act) e1.At r9 r10 (fun y33 y34 y35 y36 y37 y38 =>
 k0 y34 y35 y36 ([]:List Expr) y37 ([]:List Act) ([]:List Act) y38 y33 r9 r10)
 (fun y39 y40 y41 =>
 k0 2 [] r3 r7 0 ([]:List Act) ([]:List Act) e1.At y39 y40 y41)))
 else
 (bW N l r4 0 [] [] 0 0 0 0 2 [] r3 ([]:List Expr) 0 ([]:List Act) ([]:List Act) e1.At r5 r6 (fun y42 y43 y44 y45 y46 y47 =>
 k0 y43 y44 y45 ([]:List Expr) y46 ([]:List Act) ([]:List Act) y47 y42 r5 r6)
 (fun y48 y49 y50 =>
 k0 2 [] r3 ([]:List Expr) 0 ([]:List Act) ([]:List Act) e1.At y48 y49 y50))))
 else
 (mq N l at_ [115,101,110,100] (fun r51 =>
 if r51 = true then
 (qY N l (IntKind.wrap .i64 (at_ + 1)) (fun r52 r53 r54 r55 =>
 if (r54 == 0) = true then
 (qY N l r53 (fun r56 r57 r58 r59 =>
 mI N l r57 0 [] [] 0 0 0 0 3 r52 r56 0 e1.At r58 r59 (fun y80 y81 y82 y83 =>
 bW N l y80 0 [] [] 0 0 0 0 3 r52 r56 y81 0 ([]:List Act) ([]:List Act) e1.At y82 y83 (fun y84 y85 y86 y87 y88 y89 =>
 k0 y85 y86 y87 ([]:List Expr) y88 ([]:List Act) ([]:List Act) y89 y84 y82 y83)
 (fun y90 y91 y92 =>
 k0 3 r52 r56 y81 0 ([]:List Act) ([]:List Act) e1.At y90 y91 y92))
 (bW N l r57 0 [] [] 0 0 0 0 3 r52 r56 ([]:List Expr) 0 ([]:List Act) ([]:List Act) e1.At r58 r59 (fun y93 y94 y95 y96 y97 y98 =>
 k0 y94 y95 y96 ([]:List Expr) y97 ([]:List Act) ([]:List Act) y98 y93 r58 r59)
 (fun y99 y100 y101 =>
 k0 3 r52 r56 ([]:List Expr) 0 ([]:List Act) ([]:List Act) e1.At y99 y100 y101))))
 else
 (mI N l r53 0 [] [] 0 0 0 0 3 r52 [] 0 e1.At r54 r55 (fun y102 y103 y104 y105 =>
 bW N l y102 0 [] [] 0 0 0 0 3 r52 [] y103 0 ([]:List Act) ([]:List Act) e1.At y104 y105 (fun y106 y107 y108 y109 y110 y111 =>
 k0 y107 y108 y109 ([]:List Expr) y110 ([]:List Act) ([]:List Act) y111 y106 y104 y105)
 (fun y112 y113 y114 =>
 k0 3 r52 [] y103 0 ([]:List Act) ([]:List Act) e1.At y112 y113 y114))
 (bW N l r53 0 [] [] 0 0 0 0 3 r52 [] ([]:List Expr) 0 ([]:List Act) ([]:List Act) e1.At r54 r55 (fun y115 y116 y117 y118 y119 y120 =>
 k0 y116 y117 y118 ([]:List Expr) y119 ([]:List Act) ([]:List Act) y120 y115 r54 r55)
 (fun y121 y122 y123 =>
 k0 3 r52 [] ([]:List Expr) 0 ([]:List Act) ([]:List Act) e1.At y121 y122 y123)))))
 else
 (mq N l at_ [97,114,109] (fun r124 =>
 if r124 = true then
 (qY N l (IntKind.wrap .i64 (at_ + 1)) (fun r125 r126 r127 r128 =>
 if (r127 == 0) = true then
 (py N l r126 (fun r129 r130 r131 r132 =>
 bW N l r130 0 [] [] 0 0 0 0 4 r125 [] r129 0 ([]:List Act) ([]:List Act) e1.At r131 r132 (fun y133 y134 y135 y136 y137 y138 =>
 k0 y134 y135 y136 ([]:List Expr) y137 ([]:List Act) ([]:List Act) y138 y133 r131 r132)
 (fun y139 y140 y141 =>
 k0 4 r125 [] r129 0 ([]:List Act) ([]:List Act) e1.At y139 y140 y141)))
 else
 (bW N l r126 0 [] [] 0 0 0 0 4 r125 [] ([]:List Expr) 0 ([]:List Act) ([]:List Act) e1.At r127 r128 (fun y142 y143 y144 y145 y146 y147 =>
 k0 y143 y144 y145 ([]:List Expr) y146 ([]:List Act) ([]:List Act) y147 y142 r127 r128)
 (fun y148 y149 y150 =>
 k0 4 r125 [] ([]:List Expr) 0 ([]:List Act) ([]:List Act) e1.At y148 y149 y150))))
 else
 (mq N l at_ [99,97,110,99,101,108] (fun r151 =>
 if r151 = true then
 (qY N l (IntKind.wrap .i64 (at_ + 1)) (fun r152 r153 r154 r155 =>
 bW N l r153 0 [] [] 0 0 0 0 5 r152 [] ([]:List Expr) 0 ([]:List Act) ([]:List Act) e1.At r154 r155 (fun y156 y157 y158 y159 y160 y161 =>
 k0 y157 y158 y159 ([]:List Expr) y160 ([]:List Act) ([]:List Act) y161 y156 r154 r155)
 (fun y162 y163 y164 =>
 k0 5 r152 [] ([]:List Expr) 0 ([]:List Act) ([]:List Act) e1.At y162 y163 y164)))
 else
 (Hw N l at_ (fun r165 r166 r167 r168 r169 r170 r171 r172 r173 r174 r175 =>
 bW N l r173 0 [] [] 0 0 0 0 r165 r166 r167 r168 r169 r170 r171 r172 r174 r175 (fun y176 y177 y178 y179 y180 y181 =>
 k0 y177 y178 y179 ([]:List Expr) y180 ([]:List Act) ([]:List Act) y181 y176 r174 r175)
 (fun y182 y183 y184 =>
 k0 r165 r166 r167 r168 r169 r170 r171 r172 y182 y183 y184))))))))))
def IN (N:Nat):FD E0:={ f:=213,fn:=Tryz.f213,q:=⟨[.t .tok,.i .i64],[]⟩,cuts:=[{ key:=24,live:=[0,1,4,6,7,8],fix:=[(⟨7,[3]⟩,.tree .expr),(⟨7,[5]⟩,.tree .act),(⟨7,[6]⟩,.tree .act)],out:=fun | .ret=>([4,5,6],[]) | _=>([],[]),q:=⟨[.t .tok,.i .i64,.p 0 0 0,.p 1 0 0,.p 2 0 0,.p 3 0 0],[z9,.bx [.i .i64,.i .i64],z10,.bx [.i .i64,.i .i64]]⟩,G:=fun R K a b c d e g h i j l m o p q s t u v w=>bW N a b c d e g h i j l m o p q s t u v w (fun x y z a1 b1 c1=>pK ⟨[.p 0 0 0,.i .i64,.p 1 0 0],[z9,.bx [.i .i64,.i .i64]]⟩ (K .ret) x y z a1 b1 c1 v w) (fun x=>pK ⟨[.p 0 0 0,.i .i64,.p 1 0 0],[z10,.bx [.i .i64,.i .i64]]⟩ (K .ret) x l m o p q s t u) },{ key:=14,live:=[0,1,4,6,7,8],out:=fun | .normal=>([0,1,4,6,7,8],[]) | _=>([],[]),q:=⟨[.t .tok,.i .i64,.p 0 0 0,.p 1 0 0,.p 2 0 0,.p 3 0 0],[z9,.bx [.i .i64,.i .i64],z9,.bx [.i .i64,.i .i64]]⟩,G:=fun R K a b c d e g h i j l m o p q s t=>mI N a b c d e g h i j l m o p q s t (fun u v=>pK ⟨[.t .tok,.i .i64,.p 0 0 0,.p 1 0 0,.p 2 0 0,.p 3 0 0],[z9,.bx [.i .i64,.i .i64],z11,.bx [.i .i64,.i .i64]]⟩ (K .normal) a u c d e g h i j l m o v p q) (pK ⟨[.t .tok,.i .i64,.p 0 0 0,.p 1 0 0,.p 2 0 0,.p 3 0 0],[z9,.bx [.i .i64,.i .i64],z9,.bx [.i .i64,.i .i64]]⟩ (K .normal) a b c d e g h i j l m o p q s t) }],g:=[pI N,vD N,GA N,KP N,PQ N,Ci N],exit:=[(⟨4,[3]⟩,.tree .expr),(⟨4,[5]⟩,.tree .act),(⟨4,[6]⟩,.tree .act)] }
def IP (N:Nat):OC E0:=⟨_,FD.ct e0 (IN N) N (fun R k a b=>yF N a b (oK ⟨y9,[],[]⟩ k))⟩
def y10:Sh S:=.tp [.t .act,.i .i64,.ag [.i .i64,.i .i64]]
structure bh where
 r8_block:(R:Type)→(List Token)→Int→Int→((List Act)→Int→Int→Int→Option R)→Option R
 r8_choice:(R:Type)→(List Token)→Int→Int→(Int→(List UInt8)→(List UInt8)→(List Expr)→Int→(List Act)→(List Act)→Int→Int→Int→Int→Option R)→Option R
 r8_round:(R:Type)→(List Token)→Int→Int→(Int→(List UInt8)→(List UInt8)→(List Expr)→Int→(List Act)→(List Act)→Int→Int→Int→Int→Option R)→Option R
def EF:Pat S:=⟨[.t .tok,.i .i64,.i .i64],[]⟩
def vE (F:bh):Ct S:=⟨207,EF,fun R k a b c=>F.r8_block R a b c (oK ⟨y10,[],[]⟩ k)⟩
def CM:Pat S:=⟨[.t .tok,.i .i64,.i .i64],[]⟩
def CN (F:bh):Ct S:=⟨211,CM,fun R k a b c=>F.r8_choice R a b c (oK ⟨y9,[],[]⟩ k)⟩
def EG:Pat S:=⟨[.t .tok,.i .i64,.i .i64],[]⟩
def EH (F:bh):Ct S:=⟨212,EG,fun R k a b c=>F.r8_round R a b c (oK ⟨y9,[],[]⟩ k)⟩
structure fP (F:bh):Prop where
 r8_block:(vE F).ok E0
 r8_choice:(CN F).ok E0
 r8_round:(EH F).ok E0
def lG (F:bh) (N:Nat) (l_24:List Token) (at_25 deep_26 v_27 v_28:Int) (out_29:List Act) (a_30:Int) (a_31 a_32:List UInt8) (a_33:List Expr) (a_34:Int) (a_35 a_36:List Act) (a_37 bad_38 bad_39:Int) (kp0:Int→Option R) (kp1:(List Act)→Option R):Option R :=
 if (bad_38 != 0) = true then
 (kp0 0)
 else
 (if out_29.length + [(⟨a_30,a_31,a_32,a_33,a_34,a_35,a_36,a_37⟩:Act)].length ≤ ak then (kp1 (out_29 ++ [(⟨a_30,a_31,a_32,a_33,a_34,a_35,a_36,a_37⟩:Act)])) else none)
def tS (F:bh) (N:Nat) (l_5:List Token) (deep_7 v_8 v_9:Int) (kp0:Int→(List Act)→Option R) (kp1:Int→Int→Int→Option R) (rec:Int→(List Act)→Option R) (at_6:Int) (out_10:List Act):Option R :=
 mq N l_5 at_6 [125] (fun r11 =>
 if (!r11) = true then
 (mq N l_5 at_6 [105,102] (fun r12 =>
 if r12 = true then
 (F.r8_choice _ l_5 at_6 (IntKind.wrap .i64 (deep_7 + 1)) (fun r13 r14 r15 r16 r17 r18 r19 r20 r21 r22 r23 =>
 lG F N l_5 r21 deep_7 v_8 v_9 out_10 r13 r14 r15 r16 r17 r18 r19 r20 r22 r23 (fun y40 =>
 kp1 y40 r22 r23)
 (fun y41 =>
 rec r21 y41)))
 else
 (mq N l_5 at_6 [108,111,111,112] (fun r42 =>
 if r42 = true then
 (F.r8_round _ l_5 at_6 (IntKind.wrap .i64 (deep_7 + 1)) (fun r43 r44 r45 r46 r47 r48 r49 r50 r51 r52 r53 =>
 lG F N l_5 r51 deep_7 v_8 v_9 out_10 r43 r44 r45 r46 r47 r48 r49 r50 r52 r53 (fun y54 =>
 kp1 y54 r52 r53)
 (fun y55 =>
 rec r51 y55)))
 else
 (yF N l_5 at_6 (fun r56 r57 r58 r59 r60 r61 r62 r63 r64 r65 r66 =>
 lG F N l_5 r64 deep_7 v_8 v_9 out_10 r56 r57 r58 r59 r60 r61 r62 r63 r65 r66 (fun y67 =>
 kp1 y67 r65 r66)
 (fun y68 =>
 rec r64 y68)))))))
 else
 (kp0 at_6 out_10))
def nO (F:bh) (N:Nat) (l_5:List Token) (deep_7 v_8 v_9:Int) (kp0:Int→(List Act)→Option R) (kp1:Int→Int→Int→Option R):Nat→Int→(List Act)→Option R
 | 0=>fun _ _=>none
 | n + 1=>fun at_6 out_10=>tS F N l_5 deep_7 v_8 v_9 kp0 kp1 (nO F N l_5 deep_7 v_8 v_9 kp0 kp1 n) at_6 out_10
def rQ (F:bh) (N:Nat) (l:List Token) (at_ deep:Int) (k0:(List Act)→Int→Int→Int→Option R):Option R :=
 mq N l at_ [123] (fun r1 =>
 if (!r1) = true then
 (nu N l at_ (fun r2 r3 =>
 k0 ([]:List Act) 0 r2 r3))
 else
 (if (deep == 4) = true then
 ((at? l at_).bind fun e4 =>
 k0 ([]:List Act) 0 14 e4.At)
 else
 (nO F N l deep 0 0 (fun y69 y70 =>
 k0 y70 (IntKind.wrap .i64 (y69 + 1)) 0 0)
 (fun y71 y72 y73 =>
 k0 ([]:List Act) y71 y72 y73) N (IntKind.wrap .i64 (at_ + 1)) ([]:List Act))))
def zM (F:bh) (hF:fP F) (N:Nat):FD E0:={ f:=207,fn:=Tryz.f207,q:=EF,loops:=[{ cur:=0,live:=[0,1,2,8,9],fix:=[(⟨9,[]⟩,.row .act .app)],out:=fun | .exit 0=>([1,8,9],[]) | .ret=>([6,7,8],[]) | _=>([],[]),q:=⟨[.t .tok,.i .i64,.i .i64,.p 0 0 0,.sw 1],[.bx [.i .i64,.i .i64],.rw .act .app]⟩,G:=fun R K n a b c d e g=>nO F N a c d e (fun h=>pK ⟨[.i .i64,.p 0 0 0,.sw 1],[.bx [.i .i64,.i .i64],.rw .act .app]⟩ (K (.exit 0)) h d e) (pK ⟨[.ns,.i .i64,.p 0 0 0],[.bx [.i .i64,.i .i64]]⟩ (K .ret)) n b g,B:=fun R K rec a b c d e g=>tS F N a c d e (fun h=>pK ⟨[.i .i64,.p 0 0 0,.sw 1],[.bx [.i .i64,.i .i64],.rw .act .app]⟩ (K (.exit 0)) h d e) (pK ⟨[.ns,.i .i64,.p 0 0 0],[.bx [.i .i64,.i .i64]]⟩ (K .ret)) (fun b g=>rec a b c d e g) b g }],cuts:=[{ key:=15,live:=[0,1,2,8,9,10,11],fix:=[(⟨9,[]⟩,.row .act .app)],out:=fun | .ret=>([6,7,8],[]) | .normal=>([0,1,2,8,9],[]) | _=>([],[]),q:=⟨[.t .tok,.i .i64,.i .i64,.p 0 0 0,.sw 1,.p 2 0 0,.p 3 0 0],[.bx [.i .i64,.i .i64],.rw .act .app,z10,.bx [.i .i64,.i .i64]]⟩,G:=fun R K a b c d e g h i j l m o p q s t=>lG F N a b c d e g h i j l m o p q s t (fun u=>pK ⟨[.ns,.i .i64,.p 0 0 0],[.bx [.i .i64,.i .i64]]⟩ (K .ret) u s t) (pK ⟨[.t .tok,.i .i64,.i .i64,.p 0 0 0,.sw 1],[.bx [.i .i64,.i .i64],.rw .act .app]⟩ (K .normal) a b c d e) }],g:=[kc N,pI N,⟨CN F,hF.r8_choice⟩,⟨EH F,hF.r8_round⟩,IP N],exit:=[(⟨6,[]⟩,.tree .act)] }
theorem Hx (F:bh) (hF:fP F) (N:Nat):Ct.ok E0 ⟨(zM F hF N).f,(zM F hF N).q,fun R k a b c=>rQ F N a b c (oK ⟨y10,[],[]⟩ k)⟩:=FD.ct e0 (zM F hF N) N (fun R k a b c=>rQ F N a b c (oK ⟨y10,[],[]⟩ k))
def vF (F:bh) (N:Nat) (at_16 v_17:Int) (v_18 v_19:List UInt8) (v_20 v_21 v_22 v_23 a_24:Int) (a_25 a_26:List UInt8) (a_27:List Expr) (a_28:Int) (a_29 a_30:List Act) (a_31 bad_32 bad_33:Int) (kp0:Option R):Option R :=
 kp0 
def qh (F:bh) (N:Nat) (l:List Token) (at_ deep:Int) (k0:Int→(List UInt8)→(List UInt8)→(List Expr)→Int→(List Act)→(List Act)→Int→Int→Int→Int→Option R):Option R :=
 (at? l at_).bind fun e1 =>
 py N l (IntKind.wrap .i64 (at_ + 1)) (fun r2 r3 r4 r5 =>
 if (r4 != 0) = true then
 (k0 6 [] [] ([]:List Expr) 0 ([]:List Act) ([]:List Act) e1.At 0 r4 r5)
 else
 (F.r8_block _ l r3 deep (fun r6 r7 r8 r9 =>
 (ifB (r8 == 0) true (mq N l r7 [101,108,115,101] (fun r10 =>
 some r10)) (some false)).bind fun c11 =>
 if c11 = true then
 (F.r8_block _ l (IntKind.wrap .i64 (r7 + 1)) deep (fun r12 r13 r14 r15 =>
 vF F N r13 0 [] [] 0 0 0 0 6 [] [] r2 0 r6 r12 e1.At r14 r15 (k0 6 [] [] r2 0 r6 r12 e1.At r13 r14 r15)))
 else
 (vF F N r7 0 [] [] 0 0 0 0 6 [] [] r2 0 r6 ([]:List Act) e1.At r8 r9 (k0 6 [] [] r2 0 r6 ([]:List Act) e1.At r7 r8 r9)))))
def xB (F:bh) (hF:fP F) (N:Nat):FD E0:={ f:=211,fn:=Tryz.f211,q:=CM,cuts:=[{ key:=9,live:=[1,6,8,9,11],fix:=[(⟨9,[6]⟩,.tree .act)],out:=fun | .ret=>([6,7,8],[]) | _=>([],[]),q:=⟨[.i .i64,.p 0 0 0,.p 1 0 0,.p 2 0 0,.p 3 0 0],[z9,.bx [.i .i64,.i .i64],z10,.bx [.i .i64,.i .i64]]⟩,G:=fun R K a b c d e g h i j l m o p q s t u v=>vF F N a b c d e g h i j l m o p q s t u v (pK ⟨[.p 0 0 0,.i .i64,.p 1 0 0],[z10,.bx [.i .i64,.i .i64]]⟩ (K .ret) a j l m o p q s t u v) }],g:=[pI N,⟨vE F,hF.r8_block⟩,vD N],exit:=[(⟨6,[3]⟩,.tree .expr),(⟨6,[5]⟩,.tree .act),(⟨6,[6]⟩,.tree .act)] }
theorem FN (F:bh) (hF:fP F) (N:Nat):Ct.ok E0 ⟨(xB F hF N).f,(xB F hF N).q,fun R k a b c=>qh F N a b c (oK ⟨y9,[],[]⟩ k)⟩:=FD.ct e0 (xB F hF N) N (fun R k a b c=>qh F N a b c (oK ⟨y9,[],[]⟩ k))
def rR (F:bh) (N:Nat) (l:List Token) (at_ deep:Int) (k0:Int→(List UInt8)→(List UInt8)→(List Expr)→Int→(List Act)→(List Act)→Int→Int→Int→Int→Option R):Option R :=
 (at? l at_).bind fun e1 =>
 (at? l (IntKind.wrap .i64 (at_ + 1))).bind fun e2 =>
 if (e2.Kind != 2) = true then
 (nu N l (IntKind.wrap .i64 (at_ + 1)) (fun r3 r4 =>
 k0 7 [] [] ([]:List Expr) 0 ([]:List Act) ([]:List Act) e1.At 0 r3 r4))
 else
 ((at? l (IntKind.wrap .i64 (at_ + 1))).bind fun e5 =>
 F.r8_block _ l (IntKind.wrap .i64 ((IntKind.wrap .i64 (at_ + 1)) + 1)) deep (fun r6 r7 r8 r9 =>
 k0 7 [] [] ([]:List Expr) e5.N r6 ([]:List Act) e1.At r7 r8 r9))
def zN (F:bh) (hF:fP F) (N:Nat):FD E0:={ f:=212,fn:=Tryz.f212,q:=EG,g:=[kc N,⟨vE F,hF.r8_block⟩],exit:=[(⟨6,[3]⟩,.tree .expr),(⟨6,[5]⟩,.tree .act),(⟨6,[6]⟩,.tree .act)] }
theorem Hy (F:bh) (hF:fP F) (N:Nat):Ct.ok E0 ⟨(zN F hF N).f,(zN F hF N).q,fun R k a b c=>rR F N a b c (oK ⟨y9,[],[]⟩ k)⟩:=FD.ct e0 (zN F hF N) N (fun R k a b c=>rR F N a b c (oK ⟨y9,[],[]⟩ k))
def AR (F:bh) (N:Nat):bh where
 r8_block:=fun R l at_ deep k0=>rQ F N l at_ deep k0
 r8_choice:=fun R l at_ deep k0=>qh F N l at_ deep k0
 r8_round:=fun R l at_ deep k0=>rR F N l at_ deep k0
def aQ (N:Nat):Nat→bh
 | 0=>{ r8_block:=fun _ _ _ _ _=>none,r8_choice:=fun _ _ _ _ _=>none,r8_round:=fun _ _ _ _ _=>none }
 | d + 1=>AR (aQ N d) N
theorem jy (N:Nat):∀ d,fP (aQ N d)
 | 0=>{ r8_block:=Ct.ok_none,r8_choice:=Ct.ok_none,r8_round:=Ct.ok_none }
 | d + 1=>{ r8_block:=Hx _ (jy N d) N,r8_choice:=FN _ (jy N d) N,r8_round:=Hy _ (jy N d) N }
def r8_block (N:Nat) (l:List Token) (at_ deep:Int) (k0:(List Act)→Int→Int→Int→Option R):Option R:=(aQ N N).r8_block R l at_ deep k0
theorem IQ (N d:Nat) (l:List Token) (at_ deep:Int) (k0:(List Act)→Int→Int→Int→Option R):(aQ N (d + 1)).r8_block R l at_ deep k0 = rQ (aQ N d) N l at_ deep k0:=rfl
def KQ (N:Nat):OC E0:=⟨vE (aQ N N),(jy N N).r8_block⟩
def r8_choice (N:Nat) (l:List Token) (at_ deep:Int) (k0:Int→(List UInt8)→(List UInt8)→(List Expr)→Int→(List Act)→(List Act)→Int→Int→Int→Int→Option R):Option R:=(aQ N N).r8_choice R l at_ deep k0
theorem Hz (N d:Nat) (l:List Token) (at_ deep:Int) (k0:Int→(List UInt8)→(List UInt8)→(List Expr)→Int→(List Act)→(List Act)→Int→Int→Int→Int→Option R):(aQ N (d + 1)).r8_choice R l at_ deep k0 = qh (aQ N d) N l at_ deep k0:=rfl
def r8_round (N:Nat) (l:List Token) (at_ deep:Int) (k0:Int→(List UInt8)→(List UInt8)→(List Expr)→Int→(List Act)→(List Act)→Int→Int→Int→Int→Option R):Option R:=(aQ N N).r8_round R l at_ deep k0
theorem IS (N d:Nat) (l:List Token) (at_ deep:Int) (k0:Int→(List UInt8)→(List UInt8)→(List Expr)→Int→(List Act)→(List Act)→Int→Int→Int→Int→Option R):(aQ N (d + 1)).r8_round R l at_ deep k0 = rR (aQ N d) N l at_ deep k0:=rfl
def AS (N:Nat) (l:List Token) (at_:Int) (k0:(List Act)→Int→Int→Int→Option R):Option R :=
 r8_block N l at_ 0 (fun r1 r2 r3 r4 =>
 k0 r1 r2 r3 r4)
def KR (N:Nat):FD E0:={ f:=202,fn:=Tryz.f202,q:=⟨[.t .tok,.i .i64],[]⟩,g:=[KQ N],exit:=[(⟨4,[]⟩,.tree .act)] }
def KS (N:Nat):OC E0:=⟨_,FD.ct e0 (KR N) N (fun R k a b=>AS N a b (oK ⟨y10,[],[]⟩ k))⟩
def ic (N:Nat) (l:List Token) (at_ Code At:Int) (k0:(List Act)→Int→Int→Int→Option R):Option R :=
 if (!(Code == 0)) = true then
 (k0 ([]:List Act) at_ Code At)
 else
 (AS N l at_ (fun r1 r2 r3 r4 =>
 if (r3 == 0) = true then
 (k0 r1 r2 r3 r4)
 else
 (k0 r1 at_ r3 r4)))
def AT (N:Nat):FD E0:={ f:=184,fn:=Tryz.f184,q:=⟨[.p 0 0 0],[z2]⟩,g:=[gC N,KS N],exit:=[(⟨2,[]⟩,.tree .act)] }
def tw (N:Nat):OC E0:=⟨_,FD.ct e0 (AT N) N (fun R k a b c d=>ic N a b c d (fun e=>oK ⟨.t .act,[z2],[]⟩ k e a))⟩
def gH (N:Nat) (r_12:List Token) (r_13 r_14 r_15 e_16 e_17:Int) (e_18:List UInt8) (e_19:List Expr) (e_20:Int) (kp0:Int→Int→Int→(List Expr)→Option R):Option R :=
 bm N [93] r_12 r_13 r_14 r_15 (fun r21 r22 r23 =>
 kp0 r21 r22 r23 [(⟨e_16,e_17,e_18,e_19,e_20⟩:Expr)])
def mV (N:Nat) (l:List Token) (at_ Code At:Int) (k0:(List Expr)→Int→Int→Int→Option R):Option R :=
 bm N [91] l at_ Code At (fun r1 r2 r3 =>
 if (!(r2 == 0)) = true then
 (k0 ([]:List Expr) r1 r2 r3)
 else
 (uF N l r1 (fun r4 r5 r6 r7 r8 r9 r10 r11 =>
 if (r10 == 0) = true then
 (gH N l r9 r10 r11 r4 r5 r6 r7 r8 (fun y24 y25 y26 y27 =>
 k0 y27 y24 y25 y26))
 else
 (gH N l r1 r10 r11 r4 r5 r6 r7 r8 (fun y28 y29 y30 y31 =>
 k0 y31 y28 y29 y30)))))
def AU (N:Nat):FD E0:={ f:=203,fn:=Tryz.f203,q:=⟨[.p 0 0 0],[z2]⟩,cuts:=[{ key:=8,live:=[0,3],out:=fun | .ret=>([2],[]) | _=>([],[]),q:=⟨[.p 0 0 0,.p 1 0 0],[z2,z7]⟩,G:=fun R K a b c d e g h i j=>gH N a b c d e g h i j (pK ⟨[.sw 1],[z2,.rw .expr .app]⟩ (K .ret) a) }],g:=[gx N,gC N,zL N],exit:=[(⟨2,[]⟩,.tree .expr)] }
def AV (N:Nat):OC E0:=⟨_,FD.ct e0 (AU N) N (fun R k a b c d=>mV N a b c d (fun e=>oK ⟨.t .expr,[z2],[]⟩ k e a))⟩
def z12:ShO S:=.bx [.st,.t .expr,.st,.ns,.i .i64]
def z13:ShO S:=.bx [.st,.t .expr,.st,.t .act,.i .i64]
def y11:Sh S:=.ag [.st,.t .expr,.st,.t .act,.i .i64]
def fX (N:Nat) (r_34:List Token) (r_35 r_36 r_37:Int) (v_38 v_39:List UInt8) (v_40:Int) (t_41:List UInt8) (t_42:List Expr) (t_43:List UInt8) (t_44:Int) (kp0:Int→Option R) (kp1:Int→Int→Int→(List Act)→Option R):Option R :=
 aW N [59] r_34 r_35 r_36 r_37 (fun r45 =>
 if r45 = true then
 (kp0 (IntKind.wrap .i64 (r_35 + 1)))
 else
 (ic N r_34 r_35 r_36 r_37 (fun r46 r47 r48 r49 =>
 kp1 r47 r48 r49 r46)))
def gI (N:Nat) (r_18:List Token) (r_19 r_20 r_21:Int) (v_22 v_23:List UInt8) (v_24:Int) (t_25:List UInt8) (t_26:List Expr) (t_27:List UInt8) (t_28:Int) (kp0:Int→Int→Int→(List UInt8)→Option R) (kp1:Int→Int→Int→(List UInt8)→(List Act)→Option R):Option R :=
 aW N [45,62] r_18 r_19 r_20 r_21 (fun r29 =>
 if r29 = true then
 (dJ N r_18 (IntKind.wrap .i64 (r_19 + 1)) r_20 r_21 (fun r30 r31 r32 r33 =>
 fX N r_18 r31 r32 r33 v_22 v_23 v_24 t_25 t_26 r30 t_28 (fun y50 =>
 kp0 y50 r32 r33 r30)
 (fun y51 y52 y53 y54 =>
 kp1 y51 y52 y53 r30 y54)))
 else
 (fX N r_18 r_19 r_20 r_21 v_22 v_23 v_24 t_25 t_26 t_27 t_28 (fun y55 =>
 kp0 y55 r_20 r_21 t_27)
 (fun y56 y57 y58 y59 =>
 kp1 y56 y57 y58 t_27 y59)))
def gJ (N:Nat) (r_3:List Token) (r_4 r_5 r_6:Int) (v_7 v_8:List UInt8) (v_9:Int) (t_10 t_11:List UInt8) (t_12:Int) (kp0:Int→Int→Int→(List Expr)→(List UInt8)→Option R) (kp1:Int→Int→Int→(List Expr)→(List UInt8)→(List Act)→Option R):Option R :=
 aW N [91] r_3 r_4 r_5 r_6 (fun r13 =>
 if r13 = true then
 (mV N r_3 r_4 r_5 r_6 (fun r14 r15 r16 r17 =>
 gI N r_3 r15 r16 r17 v_7 v_8 v_9 t_10 r14 t_11 t_12 (fun y60 y61 y62 y63 =>
 kp0 y60 y61 y62 r14 y63)
 (fun y64 y65 y66 y67 y68 =>
 kp1 y64 y65 y66 r14 y67 y68)))
 else
 (gI N r_3 r_4 r_5 r_6 v_7 v_8 v_9 t_10 ([]:List Expr) t_11 t_12 (fun y69 y70 y71 y72 =>
 kp0 y69 y70 y71 ([]:List Expr) y72)
 (fun y73 y74 y75 y76 y77 =>
 kp1 y73 y74 y75 ([]:List Expr) y76 y77)))
def mW (N:Nat) (l:List Token) (at_ Code At:Int) (k0:(List UInt8)→(List Expr)→(List UInt8)→(List Act)→Int→Int→Int→Int→Option R):Option R :=
 (at? l at_).bind fun e1 =>
 aW N [97,117,116,111] l at_ Code At (fun r2 =>
 if r2 = true then
 (gJ N l (IntKind.wrap .i64 (at_ + 1)) Code At [] [] 0 [] [] e1.At (fun y78 y79 y80 y81 y82 =>
 k0 [] y81 y82 ([]:List Act) e1.At y78 y79 y80)
 (fun y83 y84 y85 y86 y87 y88 =>
 k0 [] y86 y87 y88 e1.At y83 y84 y85))
 else
 (bm N [111,110] l at_ Code At (fun r89 r90 r91 =>
 dJ N l r89 r90 r91 (fun r92 r93 r94 r95 =>
 gJ N l r93 r94 r95 [] [] 0 r92 [] e1.At (fun y96 y97 y98 y99 y100 =>
 k0 r92 y99 y100 ([]:List Act) e1.At y96 y97 y98)
 (fun y101 y102 y103 y104 y105 y106 =>
 k0 r92 y104 y105 y106 e1.At y101 y102 y103)))))
def AW (N:Nat):FD E0:={ f:=185,fn:=Tryz.f185,q:=⟨[.p 0 0 0],[z2]⟩,cuts:=[{ key:=11,live:=[0,2,3],out:=fun | .ret=>([2],[]) | _=>([],[]),q:=⟨[.p 0 0 0,.p 1 0 0,.p 2 0 0],[z2,.bx [.st,.ns,.st,.ns,.i .i64],z12]⟩,G:=fun R K a b c d e g h i j l m=>fX N a b c d e g h i j l m (fun o=>pK ⟨[.p 1 0 0],[z2,z12]⟩ (K .ret) a o c d i j l m) (fun o p q s=>pK ⟨[.p 1 0 0],[z2,z13]⟩ (K .ret) a o p q i j l s m) },{ key:=8,live:=[0,2,3],fix:=[(⟨3,[1]⟩,.tree .expr)],out:=fun | .ret=>([2],[]) | _=>([],[]),q:=⟨[.p 0 0 0,.p 1 0 0,.p 2 0 0],[z2,.bx [.st,.ns,.st,.ns,.i .i64],z12]⟩,G:=fun R K a b c d e g h i j l m=>gI N a b c d e g h i j l m (fun o p q s=>pK ⟨[.p 1 0 0],[z2,z12]⟩ (K .ret) a o p q i j s m) (fun o p q s t=>pK ⟨[.p 1 0 0],[z2,z13]⟩ (K .ret) a o p q i j s t m) },{ key:=6,live:=[0,2,3],out:=fun | .ret=>([2],[]) | _=>([],[]),q:=⟨[.p 0 0 0,.p 1 0 0,.p 2 0 0],[z2,.bx [.st,.ns,.st,.ns,.i .i64],.bx [.st,.ns,.st,.ns,.i .i64]]⟩,G:=fun R K a b c d e g h i j l=>gJ N a b c d e g h i j l (fun m o p q s=>pK ⟨[.p 1 0 0],[z2,z12]⟩ (K .ret) a m o p i q s l) (fun m o p q s t=>pK ⟨[.p 1 0 0],[z2,z13]⟩ (K .ret) a m o p i q s t l) }],g:=[gx N,je N,kX N,tw N,AV N],exit:=[(⟨2,[1]⟩,.tree .expr),(⟨2,[3]⟩,.tree .act)] }
def AX (N:Nat):OC E0:=⟨_,FD.ct e0 (AW N) N (fun R k a b c d=>mW N a b c d (fun e g h i j=>oK ⟨y11,[z2],[]⟩ k e g h i j a))⟩
structure av where
 r9_reader_states:(R:Type)→Int→(List Token)→Int→Int→Int→((List State)→Int→Int→Int→Option R)→Option R
 r9_reader_state:(R:Type)→Int→(List Token)→Int→Int→Int→(Int→(List UInt8)→(List Act)→(List Act)→(List Trans)→(List State)→Int→Int→Int→Int→Option R)→Option R
def rS:Pat S:=⟨[.p 0 0 0,.i .i64],[z2]⟩
def nw (F:av):Ct S:=⟨120,rS,fun R k a b c d e=>F.r9_reader_states R a b c d e (fun g=>oK ⟨.t .state,[z2],[]⟩ k g b)⟩
def tx:Pat S:=⟨[.p 0 0 0,.i .i64],[z2]⟩
def tz (F:av):Ct S:=⟨163,tx,fun R k a b c d e=>F.r9_reader_state R a b c d e (fun g h i j l m o=>oK ⟨y2,[z2],[]⟩ k g h i j l m o b)⟩
structure dw (F:av):Prop where
 r9_reader_states:(nw F).ok E0
 r9_reader_state:(tz F).ok E0
end
end So
