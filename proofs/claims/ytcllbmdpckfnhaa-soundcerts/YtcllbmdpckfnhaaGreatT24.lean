/- T2_4: a part of the proof of SoundCerts: lemmas on the evaluator and on the functions that the law reaches. -/
import Derived.Test.YtcllbmdpckfnhaaGreatT23
set_option maxRecDepth 100000
set_option linter.unusedVariables false
namespace So
open Go TE Go.Proofs
noncomputable section
variable {R:Type}
def iz (N:Nat) (r_92:List Token) (v_96 v_97 v_98 v_99:List UInt8) (v_100:Int) (x_101 x_102 x_103 x_104:List UInt8) (x_105 x_106:List (List UInt8)) (x_107:Int) (kp0:Int→Int→Int→(List Cell)→Option R) (rec:Int→Int→Int→(List Cell)→Option R) (r_93 r_94 r_95:Int) (o_108:List Cell):Option R :=
 bs N [99,101,108,108] r_92 r_93 r_94 r_95 (fun r109 =>
 if (r109 == true) = true then
 (cC N ((o_108.length:Nat):Int) 64 r_92 r_93 r_94 r_95 (fun r110 r111 r112 =>
 if (!r110) = true then
 (ig N r_92 r_93 r111 r112 (fun r113 r114 r115 r116 r117 r118 r119 =>
 if o_108.length + [(⟨r113,r114,r115,r116⟩:Cell)].length ≤ ak then (rec r117 r118 r119 (o_108 ++ [(⟨r113,r114,r115,r116⟩:Cell)])) else none))
 else
 (kp0 r_93 r111 r112 o_108)))
 else
 (kp0 r_93 r_94 r_95 o_108))
def du (N:Nat) (r_92:List Token) (v_96 v_97 v_98 v_99:List UInt8) (v_100:Int) (x_101 x_102 x_103 x_104:List UInt8) (x_105 x_106:List (List UInt8)) (x_107:Int) (kp0:Int→Int→Int→(List Cell)→Option R):Nat→Int→Int→Int→(List Cell)→Option R
 | 0=>fun _ _ _ _=>none
 | n + 1=>fun r_93 r_94 r_95 o_108=>iz N r_92 v_96 v_97 v_98 v_99 v_100 x_101 x_102 x_103 x_104 x_105 x_106 x_107 kp0 (du N r_92 v_96 v_97 v_98 v_99 v_100 x_101 x_102 x_103 x_104 x_105 x_106 x_107 kp0 n) r_93 r_94 r_95 o_108
def ep (N:Nat) (r_76:List Token) (r_77 r_78 r_79:Int) (v_80 v_81 v_82 v_83:List UInt8) (v_84:Int) (x_85 x_86 x_87 x_88:List UInt8) (x_89 x_90:List (List UInt8)) (x_91:Int) (kp0:Int→Int→Int→(List Cell)→Option R):Option R :=
 du N r_76 v_80 v_81 v_82 v_83 v_84 x_85 x_86 x_87 x_88 x_89 x_90 x_91 (fun y120 y121 y122 y123 =>
 aj N [125] r_76 y120 y121 y122 (fun r124 r125 r126 =>
 kp0 r124 r125 r126 y123)) N r_77 r_78 r_79 ([]:List Cell)
def iX (N:Nat) (r_47:List Token) (r_48 r_49 r_50:Int) (v_51 v_52 v_53 v_54:List UInt8) (v_55:Int) (x_56 x_57 x_58 x_59:List UInt8) (x_60:Int) (kp0:Int→Int→Int→(List (List UInt8))→(List (List UInt8))→(List Cell)→Option R):Option R :=
 eJ N r_47 r_48 r_49 r_50 (fun r61 r62 r63 r64 =>
 aj N [59] r_47 r62 r63 r64 (fun r65 r66 r67 =>
 bs N [99,104,97,110,115] r_47 r65 r66 r67 (fun r68 =>
 if r68 = true then
 (eJ N r_47 (IntKind.wrap .i64 (r65 + 1)) r66 r67 (fun r69 r70 r71 r72 =>
 aj N [59] r_47 r70 r71 r72 (fun r73 r74 r75 =>
 ep N r_47 r73 r74 r75 v_51 v_52 v_53 v_54 v_55 x_56 x_57 x_58 x_59 r61 r69 x_60 (fun y127 y128 y129 y130 =>
 kp0 y127 y128 y129 r61 r69 y130))))
 else
 (ep N r_47 r65 r66 r67 v_51 v_52 v_53 v_54 v_55 x_56 x_57 x_58 x_59 r61 ([]:List (List UInt8)) x_60 (fun y131 y132 y133 y134 =>
 kp0 y131 y132 y133 r61 ([]:List (List UInt8)) y134)))))
def jB (N:Nat) (r_16:List Token) (r_17 r_18 r_19:Int) (v_20 v_21 v_22 v_23:List UInt8) (v_24:Int) (x_25 x_26 x_27 x_28:List UInt8) (x_29:Int) (kp0:Int→Int→Int→(List UInt8)→(List UInt8)→(List (List UInt8))→(List (List UInt8))→(List Cell)→Option R):Option R :=
 aC N r_16 r_17 r_18 r_19 (fun r30 r31 r32 r33 =>
 aj N [45,62] r_16 r31 r32 r33 (fun r34 r35 r36 =>
 aC N r_16 r34 r35 r36 (fun r37 r38 r39 r40 =>
 aj N [123] r_16 r38 r39 r40 (fun r41 r42 r43 =>
 aj N [105,110,115,116,115] r_16 r41 r42 r43 (fun r44 r45 r46 =>
 iX N r_16 r44 r45 r46 v_20 v_21 v_22 v_23 v_24 x_25 x_26 r30 r37 x_29 (fun y135 y136 y137 y138 y139 y140 =>
 kp0 y135 y136 y137 r30 r37 y138 y139 y140))))))
def ij (N:Nat) (l:List Token) (at_ Code At:Int) (k0:(List UInt8)→(List UInt8)→(List UInt8)→(List UInt8)→(List (List UInt8))→(List (List UInt8))→(List Cell)→Int→Int→Int→Int→Option R):Option R :=
 di N l at_ Code At (fun r1 =>
 aC N l (IntKind.wrap .i64 (at_ + 1)) Code At (fun r2 r3 r4 r5 =>
 aj N [58] l r3 r4 r5 (fun r6 r7 r8 =>
 aC N l r6 r7 r8 (fun r9 r10 r11 r12 =>
 aj N [46] l r10 r11 r12 (fun r13 r14 r15 =>
 jB N l r13 r14 r15 [] [] [] [] 0 r2 r9 [] [] r1 (fun y141 y142 y143 y144 y145 y146 y147 y148 =>
 k0 r2 r9 y144 y145 y146 y147 y148 r1 y141 y142 y143))))))
def Bg (N:Nat):FD E0:={ f:=25,fn:=Tryz.f25,q:=⟨[.p 0 0 0],[z2]⟩,loops:=[{ cur:=0,live:=[0,2,3],fix:=[(⟨3,[6]⟩,.row .cell .app)],out:=fun | .exit 0=>([0,2,3],[]) | _=>([],[]),q:=⟨[.p 0 0 0,.p 1 0 0,.p 2 0 0],[z2,z25,z26,.rw .cell .app]⟩,G:=fun R K n a b c d e g h i j l m o p q s t u=>du N a e g h i j l m o p q s t (fun v w x=>pK ⟨[.p 0 0 0,.p 1 0 0,.p 2 0 0],[z2,z25,z26,.rw .cell .app]⟩ (K (.exit 0)) a v w x e g h i j l m o p q s t) n b c d u,B:=fun R K rec a b c d e g h i j l m o p q s t u=>iz N a e g h i j l m o p q s t (fun v w x=>pK ⟨[.p 0 0 0,.p 1 0 0,.p 2 0 0],[z2,z25,z26,.rw .cell .app]⟩ (K (.exit 0)) a v w x e g h i j l m o p q s t) (fun b c d u=>rec a b c d e g h i j l m o p q s t u) b c d u }],cuts:=[{ key:=18,live:=[0,2,3],fix:=[(⟨3,[5]⟩,.tree .str)],out:=fun | .ret=>([2],[]) | _=>([],[]),q:=⟨[.p 0 0 0,.p 1 0 0,.p 2 0 0],[z2,z25,z28]⟩,G:=fun R K a b c d e g h i j l m o p q s t=>ep N a b c d e g h i j l m o p q s t (fun u v w=>pK ⟨[.p 1 0 0],[z2,z27,.rw .cell .app]⟩ (K .ret) a u v w l m o p q s t) },{ key:=12,live:=[0,2,3],out:=fun | .ret=>([2],[]) | _=>([],[]),q:=⟨[.p 0 0 0,.p 1 0 0,.p 2 0 0],[z2,z25,z25]⟩,G:=fun R K a b c d e g h i j l m o p q=>iX N a b c d e g h i j l m o p q (fun s t u v w=>pK ⟨[.p 1 0 0],[z2,z27,.rw .cell .app]⟩ (K .ret) a s t u l m o p v w q) },{ key:=7,live:=[0,2,3],out:=fun | .ret=>([2],[]) | _=>([],[]),q:=⟨[.p 0 0 0,.p 1 0 0,.p 2 0 0],[z2,z25,z25]⟩,G:=fun R K a b c d e g h i j l m o p q=>jB N a b c d e g h i j l m o p q (fun s t u v w x y=>pK ⟨[.p 1 0 0],[z2,z27,.rw .cell .app]⟩ (K .ret) a s t u l m v w x y q) }],g:=[ir N,ke N,tj N,kL N,fw N,zT N,Bf N],exit:=[(⟨2,[4]⟩,.tree .str),(⟨2,[5]⟩,.tree .str),(⟨2,[6]⟩,.tree .cell)],fork:=true }
def Bh (N:Nat):OC E0:=⟨_,FD.ct e0 (Bg N) N (fun R k a b c d=>ij N a b c d (fun e g h i j l m o=>oK ⟨y17,[z2],[]⟩ k e g h i j l m o a))⟩
def z29:ShO S:=.bx [.i .i64,.sw 4,.ns,.ns,.ns]
def z30:ShO S:=.bx [.i .i64,.sw 4,.sw 5,.ns,.ns]
def z31:ShO S:=.bx [.i .i64,.sw 4,.sw 5,.sw 6,.ns]
def z32:ShO S:=.bx [.i .i64,.sw 4,.sw 5,.sw 6,.sw 7]
def z33:ShO S:=.bx [.i .i64,.sw 1,.sw 2,.sw 3,.sw 4]
def y18:Sh S:=.ag [.i .i64,.t .chart,.t .inst,.t .chan,.t .cert]
def rT (N:Nat) (v_25 v_26 v_27:Int) (r_28:List Token) (s_32:Int) (kp0:Int→Int→Int→(List Chart)→Option R) (rec:Int→Int→Int→(List Chart)→Option R) (r_29 r_30 r_31:Int) (o_33:List Chart):Option R :=
 bs N [99,104,97,114,116] r_28 r_29 r_30 r_31 (fun r34 =>
 if (r34 == true) = true then
 (cC N ((o_33.length:Nat):Int) 8 r_28 r_29 r_30 r_31 (fun r35 r36 r37 =>
 if (!r35) = true then
 (lH N r_28 r_29 r36 r37 (fun r38 r39 r40 r41 r42 r43 r44 r45 r46 r47 r48 =>
 if o_33.length + [(⟨r38,r39,r40,r41,r42,r43,r44,r45⟩:Chart)].length ≤ ak then (rec r46 r47 r48 (o_33 ++ [(⟨r38,r39,r40,r41,r42,r43,r44,r45⟩:Chart)])) else none))
 else
 (kp0 r_29 r36 r37 o_33)))
 else
 (kp0 r_29 r_30 r_31 o_33))
def iA (N:Nat) (v_25 v_26 v_27:Int) (r_28:List Token) (s_32:Int) (kp0:Int→Int→Int→(List Chart)→Option R):Nat→Int→Int→Int→(List Chart)→Option R
 | 0=>fun _ _ _ _=>none
 | n + 1=>fun r_29 r_30 r_31 o_33=>rT N v_25 v_26 v_27 r_28 s_32 kp0 (iA N v_25 v_26 v_27 r_28 s_32 kp0 n) r_29 r_30 r_31 o_33
def rU (N:Nat) (v_53 v_54 v_55:Int) (r_56:List Token) (s_60:Int) (o_61:List Chart) (kp0:Int→Int→Int→(List Inst)→Option R) (rec:Int→Int→Int→(List Inst)→Option R) (r_57 r_58 r_59:Int) (o_62:List Inst):Option R :=
 bs N [105,110,115,116] r_56 r_57 r_58 r_59 (fun r63 =>
 if (r63 == true) = true then
 (cC N ((o_62.length:Nat):Int) 12 r_56 r_57 r_58 r_59 (fun r64 r65 r66 =>
 if (!r64) = true then
 (mX N r_56 r_57 r65 r66 (fun r67 r68 r69 r70 r71 r72 r73 r74 r75 =>
 if o_62.length + [(⟨r67,r68,r69,r70,r71,r72⟩:Inst)].length ≤ ak then (rec r73 r74 r75 (o_62 ++ [(⟨r67,r68,r69,r70,r71,r72⟩:Inst)])) else none))
 else
 (kp0 r_57 r65 r66 o_62)))
 else
 (kp0 r_57 r_58 r_59 o_62))
def iB (N:Nat) (v_53 v_54 v_55:Int) (r_56:List Token) (s_60:Int) (o_61:List Chart) (kp0:Int→Int→Int→(List Inst)→Option R):Nat→Int→Int→Int→(List Inst)→Option R
 | 0=>fun _ _ _ _=>none
 | n + 1=>fun r_57 r_58 r_59 o_62=>rU N v_53 v_54 v_55 r_56 s_60 o_61 kp0 (iB N v_53 v_54 v_55 r_56 s_60 o_61 kp0 n) r_57 r_58 r_59 o_62
def rV (N:Nat) (v_80 v_81 v_82:Int) (r_83:List Token) (s_87:Int) (o_88:List Chart) (o_89:List Inst) (kp0:Int→Int→Int→(List ai)→Option R) (rec:Int→Int→Int→(List ai)→Option R) (r_84 r_85 r_86:Int) (o_90:List ai):Option R :=
 bs N [99,104,97,110] r_83 r_84 r_85 r_86 (fun r91 =>
 if (r91 == true) = true then
 (cC N ((o_90.length:Nat):Int) 24 r_83 r_84 r_85 r_86 (fun r92 r93 r94 =>
 if (!r92) = true then
 (jA N r_83 r_84 r93 r94 (fun r95 r96 r97 r98 r99 r100 r101 r102 r103 r104 =>
 if o_90.length + [(⟨r95,r96,r97,r98,r99,r100,r101⟩:ai)].length ≤ ak then (rec r102 r103 r104 (o_90 ++ [(⟨r95,r96,r97,r98,r99,r100,r101⟩:ai)])) else none))
 else
 (kp0 r_84 r93 r94 o_90)))
 else
 (kp0 r_84 r_85 r_86 o_90))
def iC (N:Nat) (v_80 v_81 v_82:Int) (r_83:List Token) (s_87:Int) (o_88:List Chart) (o_89:List Inst) (kp0:Int→Int→Int→(List ai)→Option R):Nat→Int→Int→Int→(List ai)→Option R
 | 0=>fun _ _ _ _=>none
 | n + 1=>fun r_84 r_85 r_86 o_90=>rV N v_80 v_81 v_82 r_83 s_87 o_88 o_89 kp0 (iC N v_80 v_81 v_82 r_83 s_87 o_88 o_89 kp0 n) r_84 r_85 r_86 o_90
def oq (N:Nat) (v_109 v_110 v_111:Int) (r_112:List Token) (s_116:Int) (o_117:List Chart) (o_118:List Inst) (o_119:List ai) (kp0:Int→Int→Int→(List Cert)→Option R) (rec:Int→Int→Int→(List Cert)→Option R) (r_113 r_114 r_115:Int) (o_120:List Cert):Option R :=
 bs N [99,101,114,116] r_112 r_113 r_114 r_115 (fun r121 =>
 if (r121 == true) = true then
 (cC N ((o_120.length:Nat):Int) 4 r_112 r_113 r_114 r_115 (fun r122 r123 r124 =>
 if (!r122) = true then
 (ij N r_112 r_113 r123 r124 (fun r125 r126 r127 r128 r129 r130 r131 r132 r133 r134 r135 =>
 if o_120.length + [(⟨r125,r126,r127,r128,r129,r130,r131,r132⟩:Cert)].length ≤ ak then (rec r133 r134 r135 (o_120 ++ [(⟨r125,r126,r127,r128,r129,r130,r131,r132⟩:Cert)])) else none))
 else
 (kp0 r_113 r123 r124 o_120)))
 else
 (kp0 r_113 r_114 r_115 o_120))
def jC (N:Nat) (v_109 v_110 v_111:Int) (r_112:List Token) (s_116:Int) (o_117:List Chart) (o_118:List Inst) (o_119:List ai) (kp0:Int→Int→Int→(List Cert)→Option R):Nat→Int→Int→Int→(List Cert)→Option R
 | 0=>fun _ _ _ _=>none
 | n + 1=>fun r_113 r_114 r_115 o_120=>oq N v_109 v_110 v_111 r_112 s_116 o_117 o_118 o_119 kp0 (jC N v_109 v_110 v_111 r_112 s_116 o_117 o_118 o_119 kp0 n) r_113 r_114 r_115 o_120
def mJ (N:Nat) (v_141:Bool) (v_142 v_143 v_144:Int) (r_145:List Token) (r_146 r_147 r_148 s_149:Int) (o_150:List Chart) (o_151:List Inst) (o_152:List ai) (o_153:List Cert) (kp0:Int→Int→Option R):Option R :=
 if v_141 = true then
 (nu N r_145 r_146 (fun r154 r155 =>
 kp0 r154 r155))
 else
 (kp0 r_147 r_148)
def ko (N:Nat) (v_158 v_159 v_160:Int) (r_161:List Token) (r_162 r_163 r_164 s_165:Int) (o_166:List Chart) (o_167:List Inst) (o_168:List ai) (o_169:List Cert) (kp0:Int→Option R) (kp1:Int→Int→Option R):Option R :=
 if (!(r_163 == 0)) = true then
 (kp0 0)
 else
 (kp1 0 0)
def pJ (N:Nat) (v_17 v_18 v_19:Int) (r_20:List Token) (r_21 r_22 r_23 s_24:Int) (kp0:Int→Int→Int→Option R) (kp1:(List Chart)→(List Inst)→(List ai)→(List Cert)→Int→Int→Option R):Option R :=
 iA N v_17 v_18 v_19 r_20 s_24 (fun y49 y50 y51 y52 =>
 iB N v_17 v_18 v_19 r_20 s_24 y52 (fun y76 y77 y78 y79 =>
 iC N v_17 v_18 v_19 r_20 s_24 y52 y79 (fun y105 y106 y107 y108 =>
 jC N v_17 v_18 v_19 r_20 s_24 y52 y79 y108 (fun y136 y137 y138 y139 =>
 if ((y137 == 0) == true) = true then
 ((at? r_20 y136).bind fun e140 =>
 mJ N (e140.Kind != 4) v_17 v_18 v_19 r_20 y136 y137 y138 s_24 y52 y79 y108 y139 (fun y156 y157 =>
 ko N v_17 v_18 v_19 r_20 y136 y156 y157 s_24 y52 y79 y108 y139 (fun y170 =>
 kp0 y170 y156 y157)
 (fun y171 y172 =>
 kp1 y52 y79 y108 y139 y171 y172)))
 else
 (mJ N false v_17 v_18 v_19 r_20 y136 y137 y138 s_24 y52 y79 y108 y139 (fun y173 y174 =>
 ko N v_17 v_18 v_19 r_20 y136 y173 y174 s_24 y52 y79 y108 y139 (fun y175 =>
 kp0 y175 y173 y174)
 (fun y176 y177 =>
 kp1 y52 y79 y108 y139 y176 y177)))) N y105 y106 y107 ([]:List Cert)) N y76 y77 y78 ([]:List ai)) N y49 y50 y51 ([]:List Inst)) N r_21 r_22 r_23 ([]:List Chart)
def r10_Parse (N:Nat) (text:List UInt8) (k0:Int→(List Chart)→(List Inst)→(List ai)→(List Cert)→Int→Int→Option R):Option R :=
 zG N text (fun r1 r2 r3 =>
 if (r2 != 0) = true then
 (k0 0 ([]:List Chart) ([]:List Inst) ([]:List ai) ([]:List Cert) r2 r3)
 else
 (aj N [115,121,115,116,101,109] r1 0 0 0 (fun r4 r5 r6 =>
 aj N [97,103,101] r1 r4 r5 r6 (fun r7 r8 r9 =>
 aY N r1 r7 r8 r9 (fun r10 r11 r12 r13 =>
 aj N [59] r1 r11 r12 r13 (fun r14 r15 r16 =>
 pJ N 0 0 0 r1 r14 r15 r16 r10 (fun y178 y179 y180 =>
 k0 y178 ([]:List Chart) ([]:List Inst) ([]:List ai) ([]:List Cert) y179 y180)
 (fun y181 y182 y183 y184 y185 y186 =>
 k0 r10 y181 y182 y183 y184 y185 y186)))))))
def IT (N:Nat):FD E0:={ f:=8,fn:=Tryz.f8,q:=⟨[.st],[]⟩,loops:=[{ cur:=0,live:=[2,3,6,7],fix:=[(⟨7,[1]⟩,.row .chart .app)],out:=fun | .exit 0=>([2,3,6,7],[]) | _=>([],[]),q:=⟨[.p 0 0 0,.p 1 0 0,.p 2 0 0,.p 3 0 0],[.bx [.i .i64,.ns,.ns,.ns,.ns],.bx [.i .i64,.i .i64],z2,z29,.rw .chart .app]⟩,G:=fun R K n a b c d e g h i j=>iA N a b c d i (fun l m o=>pK ⟨[.p 0 0 0,.p 1 0 0,.p 2 0 0,.p 3 0 0],[.bx [.i .i64,.ns,.ns,.ns,.ns],.bx [.i .i64,.i .i64],z2,z29,.rw .chart .app]⟩ (K (.exit 0)) a b c d l m o i) n e g h j,B:=fun R K rec a b c d e g h i j=>rT N a b c d i (fun l m o=>pK ⟨[.p 0 0 0,.p 1 0 0,.p 2 0 0,.p 3 0 0],[.bx [.i .i64,.ns,.ns,.ns,.ns],.bx [.i .i64,.i .i64],z2,z29,.rw .chart .app]⟩ (K (.exit 0)) a b c d l m o i) (fun e g h j=>rec a b c d e g h i j) e g h j },{ cur:=2,live:=[2,3,6,7],fix:=[(⟨7,[2]⟩,.row .inst .app)],out:=fun | .exit 2=>([2,3,6,7],[]) | _=>([],[]),q:=⟨[.p 0 0 0,.p 1 0 0,.p 2 0 0,.p 3 0 0],[.bx [.i .i64,.ns,.ns,.ns,.ns],.bx [.i .i64,.i .i64],z2,z30,.rw .chart .app,.rw .inst .app]⟩,G:=fun R K n a b c d e g h i j l=>iB N a b c d i j (fun m o p=>pK ⟨[.p 0 0 0,.p 1 0 0,.p 2 0 0,.p 3 0 0],[.bx [.i .i64,.ns,.ns,.ns,.ns],.bx [.i .i64,.i .i64],z2,z30,.rw .chart .app,.rw .inst .app]⟩ (K (.exit 2)) a b c d m o p i j) n e g h l,B:=fun R K rec a b c d e g h i j l=>rU N a b c d i j (fun m o p=>pK ⟨[.p 0 0 0,.p 1 0 0,.p 2 0 0,.p 3 0 0],[.bx [.i .i64,.ns,.ns,.ns,.ns],.bx [.i .i64,.i .i64],z2,z30,.rw .chart .app,.rw .inst .app]⟩ (K (.exit 2)) a b c d m o p i j) (fun e g h l=>rec a b c d e g h i j l) e g h l },{ cur:=4,live:=[2,3,6,7],fix:=[(⟨7,[3]⟩,.row .chan .app)],out:=fun | .exit 4=>([2,3,6,7],[]) | _=>([],[]),q:=⟨[.p 0 0 0,.p 1 0 0,.p 2 0 0,.p 3 0 0],[.bx [.i .i64,.ns,.ns,.ns,.ns],.bx [.i .i64,.i .i64],z2,z31,.rw .chart .app,.rw .inst .app,.rw .chan .app]⟩,G:=fun R K n a b c d e g h i j l m=>iC N a b c d i j l (fun o p q=>pK ⟨[.p 0 0 0,.p 1 0 0,.p 2 0 0,.p 3 0 0],[.bx [.i .i64,.ns,.ns,.ns,.ns],.bx [.i .i64,.i .i64],z2,z31,.rw .chart .app,.rw .inst .app,.rw .chan .app]⟩ (K (.exit 4)) a b c d o p q i j l) n e g h m,B:=fun R K rec a b c d e g h i j l m=>rV N a b c d i j l (fun o p q=>pK ⟨[.p 0 0 0,.p 1 0 0,.p 2 0 0,.p 3 0 0],[.bx [.i .i64,.ns,.ns,.ns,.ns],.bx [.i .i64,.i .i64],z2,z31,.rw .chart .app,.rw .inst .app,.rw .chan .app]⟩ (K (.exit 4)) a b c d o p q i j l) (fun e g h m=>rec a b c d e g h i j l m) e g h m },{ cur:=6,live:=[2,3,6,7],fix:=[(⟨7,[4]⟩,.row .cert .app)],out:=fun | .exit 6=>([2,3,6,7],[]) | _=>([],[]),q:=⟨[.p 0 0 0,.p 1 0 0,.p 2 0 0,.p 3 0 0],[.bx [.i .i64,.ns,.ns,.ns,.ns],.bx [.i .i64,.i .i64],z2,z32,.rw .chart .app,.rw .inst .app,.rw .chan .app,.rw .cert .app]⟩,G:=fun R K n a b c d e g h i j l m o=>jC N a b c d i j l m (fun p q s=>pK ⟨[.p 0 0 0,.p 1 0 0,.p 2 0 0,.p 3 0 0],[.bx [.i .i64,.ns,.ns,.ns,.ns],.bx [.i .i64,.i .i64],z2,z32,.rw .chart .app,.rw .inst .app,.rw .chan .app,.rw .cert .app]⟩ (K (.exit 6)) a b c d p q s i j l m) n e g h o,B:=fun R K rec a b c d e g h i j l m o=>oq N a b c d i j l m (fun p q s=>pK ⟨[.p 0 0 0,.p 1 0 0,.p 2 0 0,.p 3 0 0],[.bx [.i .i64,.ns,.ns,.ns,.ns],.bx [.i .i64,.i .i64],z2,z32,.rw .chart .app,.rw .inst .app,.rw .chan .app,.rw .cert .app]⟩ (K (.exit 6)) a b c d p q s i j l m) (fun e g h o=>rec a b c d e g h i j l m o) e g h o }],cuts:=[{ key:=19,live:=[2,3,6,7,114],out:=fun | .normal=>([2,3,6,7],[]) | _=>([],[]),q:=⟨[.p 0 0 0,.p 1 0 0,.p 2 0 0,.p 3 0 0,.b],[.bx [.i .i64,.ns,.ns,.ns,.ns],.bx [.i .i64,.i .i64],z2,z32,.rw .chart .app,.rw .inst .app,.rw .chan .app,.rw .cert .app]⟩,G:=fun R K a b c d e g h i j l m o p=>mJ N a b c d e g h i j l m o p (fun q s=>pK ⟨[.p 0 0 0,.p 1 0 0,.p 2 0 0,.p 3 0 0],[.bx [.i .i64,.ns,.ns,.ns,.ns],.bx [.i .i64,.i .i64],z2,z32,.rw .chart .app,.rw .inst .app,.rw .chan .app,.rw .cert .app]⟩ (K .normal) b c d e g q s j l m o p) },{ key:=20,live:=[2,3,6,7],out:=fun | .ret=>([2,3],[]) | _=>([],[]),q:=⟨[.p 0 0 0,.p 1 0 0,.p 2 0 0,.p 3 0 0],[.bx [.i .i64,.ns,.ns,.ns,.ns],.bx [.i .i64,.i .i64],z2,z32,.rw .chart .app,.rw .inst .app,.rw .chan .app,.rw .cert .app]⟩,G:=fun R K a b c d e g h i j l m o=>ko N a b c d e g h i j l m o (fun p=>pK ⟨[.p 0 0 0,.p 1 0 0],[.bx [.i .i64,.ns,.ns,.ns,.ns],.bx [.i .i64,.i .i64]]⟩ (K .ret) p g h) (pK ⟨[.p 0 0 0,.p 5 0 0],[z33,.rw .chart .app,.rw .inst .app,.rw .chan .app,.rw .cert .app,.bx [.i .i64,.i .i64]]⟩ (K .ret) i j l m o) },{ key:=10,live:=[2,3,6,7],out:=fun | .ret=>([2,3],[]) | _=>([],[]),q:=⟨[.p 0 0 0,.p 1 0 0,.p 2 0 0,.p 3 0 0],[.bx [.i .i64,.ns,.ns,.ns,.ns],.bx [.i .i64,.i .i64],z2,.bx [.i .i64,.ns,.ns,.ns,.ns]]⟩,G:=fun R K a b c d e g h i=>pJ N a b c d e g h i (pK ⟨[.p 0 0 0,.p 1 0 0],[.bx [.i .i64,.ns,.ns,.ns,.ns],.bx [.i .i64,.i .i64]]⟩ (K .ret)) (pK ⟨[.p 0 0 0,.p 5 0 0],[z33,.rw .chart .app,.rw .inst .app,.rw .chan .app,.rw .cert .app,.bx [.i .i64,.i .i64]]⟩ (K .ret) i) }],g:=[PM N,ir N,iU N,ke N,tj N,zR N,Bd N,xF N,Bh N,ey N,kc N],exit:=[(⟨2,[1]⟩,.tree .chart),(⟨2,[2]⟩,.tree .inst),(⟨2,[3]⟩,.tree .chan),(⟨2,[4]⟩,.tree .cert)],fork:=true }
def CO (N:Nat):OC E0:=⟨_,FD.ct e0 (IT N) N (fun R k a=>r10_Parse N a (oK ⟨.tp [y18,.ag [.i .i64,.i .i64]],[],[]⟩ k))⟩
end
end So
