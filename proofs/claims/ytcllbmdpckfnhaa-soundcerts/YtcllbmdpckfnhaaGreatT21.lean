/- T2_1: a part of the proof of SoundCerts: lemmas on the evaluator and on the functions that the law reaches. -/
import Derived.Test.YtcllbmdpckfnhaaGreatT11
set_option maxRecDepth 100000
set_option linter.unusedVariables false
namespace So
open Go TE Go.Proofs
noncomputable section
variable {R:Type}
def z2:ShO S:=.bx [.t .tok,.i .i64,.i .i64,.i .i64]
def FK (N:Nat) (l:List Token) (at_ Code At:Int) (k0:Bool→Option R):Option R :=
 k0 (Code == 0)
def Dr (N:Nat):FD E0:={ f:=26,fn:=Tryz.f26,q:=⟨[.p 0 0 0],[z2]⟩ }
def ey (N:Nat):OC E0:=⟨_,FD.ctq e0 (Dr N) N (fun R k a b c d=>FK N a b c d (oQ ⟨.b,[],[]⟩ k))⟩
def mq (N:Nat) (l:List Token) (at_:Int) (s:List UInt8) (k0:Bool→Option R):Option R :=
 (ifB (decide (at_ < ((l.length:Nat):Int))) true ((at? l at_).bind fun e1 =>
 (ifB (e1.Kind == 3) false ((at? l at_).bind fun e2 =>
 some (e2.Kind == 1)) (some true)).bind fun c3 =>
 some c3) (some false)).bind fun c4 =>
 (ifB c4 true ((at? l at_).bind fun e5 =>
 some (e5.Text == s)) (some false)).bind fun c6 =>
 k0 c6
def Sa (N:Nat):FD E0:={ f:=54,fn:=Tryz.f54,q:=⟨[.t .tok,.i .i64,.st],[]⟩ }
def pI (N:Nat):OC E0:=⟨_,FD.ct e0 (Sa N) N (fun R k a b c=>mq N a b c (oK ⟨.b,[],[]⟩ k))⟩
def nu (N:Nat) (l:List Token) (at_:Int) (k0:Int→Int→Option R):Option R :=
 (at? l at_).bind fun e1 =>
 if (e1.Kind == 4) = true then
 ((at? l at_).bind fun e2 =>
 k0 12 e2.At)
 else
 ((at? l at_).bind fun e3 =>
 k0 11 e3.At)
def PN (N:Nat):FD E0:={ f:=27,fn:=Tryz.f27,q:=⟨[.t .tok,.i .i64],[]⟩ }
def kc (N:Nat):OC E0:=⟨_,FD.ct e0 (PN N) N (fun R k a b=>nu N a b (oK ⟨.ag [.i .i64,.i .i64],[],[]⟩ k))⟩
def gA (N:Nat) (r_5:List Token) (r_6 r_7 r_8:Int) (kp0:Int→Option R):Option R :=
 if (r_7 == 0) = true then
 (kp0 (IntKind.wrap .i64 (r_6 + 1)))
 else
 (kp0 r_6)
def aj (N:Nat) (s:List UInt8) (l:List Token) (at_ Code At:Int) (k0:Int→Int→Int→Option R):Option R :=
 (ifB (Code == 0) true (mq N l at_ s (fun r1 =>
 some (!r1))) (some false)).bind fun c2 =>
 if c2 = true then
 (nu N l at_ (fun r3 r4 =>
 gA N l at_ r3 r4 (fun y9 =>
 k0 y9 r3 r4)))
 else
 (gA N l at_ Code At (fun y10 =>
 k0 y10 Code At))
def AK (N:Nat):FD E0:={ f:=18,fn:=Tryz.f18,q:=⟨[.p 0 0 0,.st],[z2]⟩,cuts:=[{ key:=2,live:=[0],out:=fun | .normal=>([],[]) | _=>([],[]),q:=⟨[.p 0 0 0],[z2]⟩,G:=fun R K a b c d=>gA N a b c d (fun e=>pK ⟨[],[z2]⟩ (K .normal) a e c d) }],g:=[ey N,kc N,pI N] }
def ir (N:Nat):OC E0:=⟨_,FD.ct e0 (AK N) N (fun R k a b c d e=>aj N a b c d e (oK ⟨.tp [],[z2],[]⟩ k b))⟩
def fb (N:Nat) (r_5:List Token) (r_6 r_7 r_8:Int) (kp0:Int→Int→Option R):Option R :=
 if (!(r_7 == 0)) = true then
 (kp0 0 r_6)
 else
 ((at? r_5 (IntKind.wrap .i64 ((IntKind.wrap .i64 (r_6 + 1)) - 1))).bind fun e9 =>
 kp0 e9.N (IntKind.wrap .i64 (r_6 + 1)))
def aY (N:Nat) (l:List Token) (at_ Code At:Int) (k0:Int→Int→Int→Int→Option R):Option R :=
 (ifB (Code == 0) true ((at? l at_).bind fun e1 =>
 some (e1.Kind != 2)) (some false)).bind fun c2 =>
 if c2 = true then
 (nu N l at_ (fun r3 r4 =>
 fb N l at_ r3 r4 (fun y10 y11 =>
 k0 y10 y11 r3 r4)))
 else
 (fb N l at_ Code At (fun y12 y13 =>
 k0 y12 y13 Code At))
def yT (N:Nat):FD E0:={ f:=19,fn:=Tryz.f19,q:=⟨[.p 0 0 0],[z2]⟩,cuts:=[{ key:=3,live:=[0],out:=fun | .ret=>([2],[]) | _=>([],[]),q:=⟨[.p 0 0 0],[z2]⟩,G:=fun R K a b c d=>fb N a b c d (fun e g=>pK ⟨[.i .i64],[z2]⟩ (K .ret) e a g c d) }],g:=[ey N,kc N] }
def iU (N:Nat):OC E0:=⟨_,FD.ct e0 (yT N) N (fun R k a b c d=>aY N a b c d (fun e=>oK ⟨.i .i64,[z2],[]⟩ k e a))⟩
def bs (N:Nat) (s:List UInt8) (l:List Token) (at_ Code At:Int) (k0:Bool→Option R):Option R :=
 (ifB (Code == 0) true (mq N l at_ s (fun r1 =>
 some r1)) (some false)).bind fun c2 =>
 k0 c2
def Ds (N:Nat):FD E0:={ f:=20,fn:=Tryz.f20,q:=⟨[.p 0 0 0,.st],[z2]⟩,g:=[ey N,pI N] }
def ke (N:Nat):OC E0:=⟨_,FD.ctq e0 (Ds N) N (fun R k a b c d e=>bs N a b c d e (oQ ⟨.b,[],[]⟩ k))⟩
def gB (N:Nat) (r_3:List Token) (r_4 r_5 r_6:Int) (kp0:Bool→Option R):Option R :=
 kp0 (!(r_5 == 0))
def cC (N:Nat) (n_ most:Int) (l:List Token) (at_ Code At:Int) (k0:Bool→Int→Int→Option R):Option R :=
 (ifB (Code == 0) true (some (n_ == most)) (some false)).bind fun c1 =>
 if c1 = true then
 ((at? l at_).bind fun e2 =>
 gB N l at_ 15 e2.At (fun y7 =>
 k0 y7 15 e2.At))
 else
 (gB N l at_ Code At (fun y8 =>
 k0 y8 Code At))
def AL (N:Nat):FD E0:={ f:=21,fn:=Tryz.f21,q:=⟨[.p 0 0 0,.i .i64,.i .i64],[z2]⟩,cuts:=[{ key:=3,live:=[0],out:=fun | .ret=>([6],[]) | _=>([],[]),q:=⟨[.p 0 0 0],[z2]⟩,G:=fun R K a b c d=>gB N a b c d (fun e=>pK ⟨[.b],[z2]⟩ (K .ret) e a b c d) }],g:=[ey N] }
def tj (N:Nat):OC E0:=⟨_,FD.ct e0 (AL N) N (fun R k a b c d e g=>cC N a b c d e g (fun h=>oK ⟨.b,[z2],[]⟩ k h c d))⟩
def Hu (N:Nat) (l:List Token) (at_ Code At:Int) (k0:Bool→Option R):Option R :=
 k0 (Code == 0)
def EB (N:Nat):FD E0:={ f:=121,fn:=Tryz.f121,q:=⟨[.p 0 0 0],[z2]⟩ }
def gC (N:Nat):OC E0:=⟨_,FD.ctq e0 (EB N) N (fun R k a b c d=>Hu N a b c d (oQ ⟨.b,[],[]⟩ k))⟩
def kH (N:Nat) (r_5:List Token) (r_6 r_7 r_8:Int) (kp0:Int→Option R):Option R :=
 if (r_7 == 0) = true then
 (kp0 (IntKind.wrap .i64 (r_6 + 1)))
 else
 (kp0 r_6)
def bm (N:Nat) (s:List UInt8) (l:List Token) (at_ Code At:Int) (k0:Int→Int→Int→Option R):Option R :=
 (ifB (Code == 0) true (mq N l at_ s (fun r1 =>
 some (!r1))) (some false)).bind fun c2 =>
 if c2 = true then
 (nu N l at_ (fun r3 r4 =>
 kH N l at_ r3 r4 (fun y9 =>
 k0 y9 r3 r4)))
 else
 (kH N l at_ Code At (fun y10 =>
 k0 y10 Code At))
def Cg (N:Nat):FD E0:={ f:=116,fn:=Tryz.f116,q:=⟨[.p 0 0 0,.st],[z2]⟩,cuts:=[{ key:=2,live:=[0],out:=fun | .normal=>([],[]) | _=>([],[]),q:=⟨[.p 0 0 0],[z2]⟩,G:=fun R K a b c d=>kH N a b c d (fun e=>pK ⟨[],[z2]⟩ (K .normal) a e c d) }],g:=[kc N,pI N,gC N] }
def gx (N:Nat):OC E0:=⟨_,FD.ct e0 (Cg N) N (fun R k a b c d e=>bm N a b c d e (oK ⟨.tp [],[z2],[]⟩ k b))⟩
def z3:ShO S:=.bx [.st,.st,.st,.st,.st,.st,.st,.st,.st,.st,.st,.st,.st,.st,.st,.st,.st,.st,.st,.st,.st,.st,.st,.st,.st,.st,.st,.st,.st,.st,.st,.st,.st,.st,.st]
def jd (N:Nat) (s_1 words_3 words_4 words_5 words_6 words_7 words_8 words_9 words_10 words_11 words_12 words_13 words_14 words_15 words_16 words_17 words_18 words_19 words_20 words_21 words_22 words_23 words_24 words_25 words_26 words_27 words_28 words_29 words_30 words_31 words_32 words_33 words_34 words_35 words_36 words_37:List UInt8) (kp0:Option R) (kp1:Bool→Option R) (rec:Int→Option R) (i_2:Int):Option R :=
 if (decide (i_2 < 35)) = true then
 (if (0:Int) ≤ i_2 ∧ i_2 < ((35:Nat):Int) then ((([words_3,words_4,words_5,words_6,words_7,words_8,words_9,words_10,words_11,words_12,words_13,words_14,words_15,words_16,words_17,words_18,words_19,words_20,words_21,words_22,words_23,words_24,words_25,words_26,words_27,words_28,words_29,words_30,words_31,words_32,words_33,words_34,words_35,words_36,words_37]:List (List UInt8))[(0 + Int.toNat i_2 * 1)]?).bind fun e38 =>
 if (e38 == s_1) = true then
 (kp1 true)
 else
 (rec (IntKind.wrap .i64 (i_2 + 1)))) else none)
 else
 (kp0 )
def fc (N:Nat) (s_1 words_3 words_4 words_5 words_6 words_7 words_8 words_9 words_10 words_11 words_12 words_13 words_14 words_15 words_16 words_17 words_18 words_19 words_20 words_21 words_22 words_23 words_24 words_25 words_26 words_27 words_28 words_29 words_30 words_31 words_32 words_33 words_34 words_35 words_36 words_37:List UInt8) (kp0:Option R) (kp1:Bool→Option R):Nat→Int→Option R
 | 0=>fun _=>none
 | n + 1=>fun i_2=>jd N s_1 words_3 words_4 words_5 words_6 words_7 words_8 words_9 words_10 words_11 words_12 words_13 words_14 words_15 words_16 words_17 words_18 words_19 words_20 words_21 words_22 words_23 words_24 words_25 words_26 words_27 words_28 words_29 words_30 words_31 words_32 words_33 words_34 words_35 words_36 words_37 kp0 kp1 (fc N s_1 words_3 words_4 words_5 words_6 words_7 words_8 words_9 words_10 words_11 words_12 words_13 words_14 words_15 words_16 words_17 words_18 words_19 words_20 words_21 words_22 words_23 words_24 words_25 words_26 words_27 words_28 words_29 words_30 words_31 words_32 words_33 words_34 words_35 words_36 words_37 kp0 kp1 n) i_2
def nN (N:Nat) (s:List UInt8) (k0:Bool→Option R):Option R :=
 fc N s [115,121,115,116,101,109] [97,103,101] [99,104,97,114,116] [115,116,101,112,115] [102,117,101,108] [118,97,114] [112,111,114,116] [116,105,109,101,114] [115,116,97,116,101] [112,97,114,97,108,108,101,108] [104,105,115,116,111,114,121] [100,101,101,112] [101,110,116,114,121] [101,120,105,116] [111,110] [97,117,116,111] [114,97,105,115,101] [115,101,110,100] [97,114,109] [99,97,110,99,101,108] [105,102] [101,108,115,101] [108,111,111,112] [105,110] [105,110,115,116] [113,117,97,110,116,117,109] [101,120,116] [112,114,105,111] [99,104,97,110] [99,97,112] [99,101,114,116] [105,110,115,116,115] [99,104,97,110,115] [99,101,108,108] [111,102,102] (k0 false)
 (fun y39 =>
 k0 y39) N 0
def FL (N:Nat):FD E0:={ f:=164,fn:=Tryz.f164,q:=⟨[.st],[]⟩,loops:=[{ cur:=0,live:=[0,3,4],out:=fun | .exit 0=>([],[]) | .ret=>([2],[]) | _=>([],[]),q:=⟨[.st,.p 0 0 0,.i .i64],[z3]⟩,G:=fun R K n a b c d e g h i j l m o p q s t u v w x y z a1 b1 c1 d1 e1 g1 h1 i1 j1 l1 m1 o1 p1 q1 s1=>fc N a c d e g h i j l m o p q s t u v w x y z a1 b1 c1 d1 e1 g1 h1 i1 j1 l1 m1 o1 p1 q1 s1 (pK ⟨[],[]⟩ (K (.exit 0))) (pK ⟨[.b],[]⟩ (K .ret)) n b,B:=fun R K rec a b c d e g h i j l m o p q s t u v w x y z a1 b1 c1 d1 e1 g1 h1 i1 j1 l1 m1 o1 p1 q1 s1=>jd N a c d e g h i j l m o p q s t u v w x y z a1 b1 c1 d1 e1 g1 h1 i1 j1 l1 m1 o1 p1 q1 s1 (pK ⟨[],[]⟩ (K (.exit 0))) (pK ⟨[.b],[]⟩ (K .ret)) (fun b=>rec a b c d e g h i j l m o p q s t u v w x y z a1 b1 c1 d1 e1 g1 h1 i1 j1 l1 m1 o1 p1 q1 s1) b }] }
def FM (N:Nat):OC E0:=⟨_,FD.ct e0 (FL N) N (fun R k a=>nN N a (oK ⟨.b,[],[]⟩ k))⟩
def oh (N:Nat) (l:List Token) (at_:Int) (k0:Bool→Option R):Option R :=
 (ifB (decide (at_ < ((l.length:Nat):Int))) true ((at? l at_).bind fun e1 =>
 some (e1.Kind == 1)) (some false)).bind fun c2 =>
 (ifB c2 true ((at? l at_).bind fun e3 =>
 nN N e3.Text (fun r4 =>
 some (!r4))) (some false)).bind fun c5 =>
 k0 c5
def KM (N:Nat):FD E0:={ f:=122,fn:=Tryz.f122,q:=⟨[.t .tok,.i .i64],[]⟩,g:=[FM N] }
def vB (N:Nat):OC E0:=⟨_,FD.ct e0 (KM N) N (fun R k a b=>oh N a b (oK ⟨.b,[],[]⟩ k))⟩
def kJ (N:Nat) (r_5:List Token) (r_6 r_7 r_8:Int) (kp0:(List UInt8)→Int→Option R):Option R :=
 if (!(r_7 == 0)) = true then
 (kp0 [] r_6)
 else
 ((at? r_5 (IntKind.wrap .i64 ((IntKind.wrap .i64 (r_6 + 1)) - 1))).bind fun e9 =>
 kp0 e9.Text (IntKind.wrap .i64 (r_6 + 1)))
def dJ (N:Nat) (l:List Token) (at_ Code At:Int) (k0:(List UInt8)→Int→Int→Int→Option R):Option R :=
 (ifB (Code == 0) true (oh N l at_ (fun r1 =>
 some (!r1))) (some false)).bind fun c2 =>
 if c2 = true then
 (nu N l at_ (fun r3 r4 =>
 kJ N l at_ r3 r4 (fun y10 y11 =>
 k0 y10 y11 r3 r4)))
 else
 (kJ N l at_ Code At (fun y12 y13 =>
 k0 y12 y13 Code At))
def Ch (N:Nat):FD E0:={ f:=117,fn:=Tryz.f117,q:=⟨[.p 0 0 0],[z2]⟩,cuts:=[{ key:=3,live:=[0],out:=fun | .ret=>([2],[]) | _=>([],[]),q:=⟨[.p 0 0 0],[z2]⟩,G:=fun R K a b c d=>kJ N a b c d (fun e g=>pK ⟨[.st],[z2]⟩ (K .ret) e a g c d) }],g:=[kc N,gC N,vB N] }
def je (N:Nat):OC E0:=⟨_,FD.ct e0 (Ch N) N (fun R k a b c d=>dJ N a b c d (fun e=>oK ⟨.st,[z2],[]⟩ k e a))⟩
def iV (N:Nat) (r_5:List Token) (r_6 r_7 r_8:Int) (kp0:Int→Int→Option R):Option R :=
 if (!(r_7 == 0)) = true then
 (kp0 0 r_6)
 else
 ((at? r_5 (IntKind.wrap .i64 ((IntKind.wrap .i64 (r_6 + 1)) - 1))).bind fun e9 =>
 kp0 e9.N (IntKind.wrap .i64 (r_6 + 1)))
def gy (N:Nat) (l:List Token) (at_ Code At:Int) (k0:Int→Int→Int→Int→Option R):Option R :=
 (ifB (Code == 0) true ((at? l at_).bind fun e1 =>
 some (e1.Kind != 2)) (some false)).bind fun c2 =>
 if c2 = true then
 (nu N l at_ (fun r3 r4 =>
 iV N l at_ r3 r4 (fun y10 y11 =>
 k0 y10 y11 r3 r4)))
 else
 (iV N l at_ Code At (fun y12 y13 =>
 k0 y12 y13 Code At))
def zH (N:Nat):FD E0:={ f:=118,fn:=Tryz.f118,q:=⟨[.p 0 0 0],[z2]⟩,cuts:=[{ key:=3,live:=[0],out:=fun | .ret=>([2],[]) | _=>([],[]),q:=⟨[.p 0 0 0],[z2]⟩,G:=fun R K a b c d=>iV N a b c d (fun e g=>pK ⟨[.i .i64],[z2]⟩ (K .ret) e a g c d) }],g:=[kc N,gC N] }
def rM (N:Nat):OC E0:=⟨_,FD.ct e0 (zH N) N (fun R k a b c d=>gy N a b c d (fun e=>oK ⟨.i .i64,[z2],[]⟩ k e a))⟩
def aW (N:Nat) (s:List UInt8) (l:List Token) (at_ Code At:Int) (k0:Bool→Option R):Option R :=
 (ifB (Code == 0) true (mq N l at_ s (fun r1 =>
 some r1)) (some false)).bind fun c2 =>
 k0 c2
def EC (N:Nat):FD E0:={ f:=161,fn:=Tryz.f161,q:=⟨[.p 0 0 0,.st],[z2]⟩,g:=[pI N,gC N] }
def kX (N:Nat):OC E0:=⟨_,FD.ctq e0 (EC N) N (fun R k a b c d e=>aW N a b c d e (oQ ⟨.b,[],[]⟩ k))⟩
def fV (N:Nat) (word_17:List UInt8) (minus_18:Bool) (r_19:List Token) (r_20 r_21 r_22:Int) (out_23:List af) (x_24:List UInt8) (x_25 x_26:Int) (kp0:Int→Int→Int→Int→Option R):Option R :=
 gy N r_19 r_20 r_21 r_22 (fun r27 r28 r29 r30 =>
 if minus_18 = true then
 (kp0 r28 r29 r30 (IntKind.wrap .i64 (0 - r27)))
 else
 (kp0 r28 r29 r30 r27))
def ei (N:Nat) (word_35:List UInt8) (r_36:List Token) (r_37 r_38 r_39:Int) (out_40:List af) (x_41:List UInt8) (x_42 x_43:Int) (kp0:Int→Int→Int→(List af)→Option R):Option R :=
 bm N [59] r_36 r_37 r_38 r_39 (fun r44 r45 r46 =>
 if out_40.length + [(⟨x_41,x_42,x_43⟩:af)].length ≤ ak then (kp0 r44 r45 r46 (out_40 ++ [(⟨x_41,x_42,x_43⟩:af)])) else none)
def kY (N:Nat) (word_1:List UInt8) (r_2:List Token) (kp0:Int→Int→Int→(List af)→Option R) (rec:Int→Int→Int→(List af)→Option R) (r_3 r_4 r_5:Int) (out_6:List af):Option R :=
 aW N word_1 r_2 r_3 r_4 r_5 (fun r7 =>
 if r7 = true then
 ((at? r_2 (IntKind.wrap .i64 (r_3 + 1))).bind fun e8 =>
 dJ N r_2 (IntKind.wrap .i64 (r_3 + 1)) r_4 r_5 (fun r9 r10 r11 r12 =>
 if (word_1 == [118,97,114]) = true then
 (bm N [61] r_2 r10 r11 r12 (fun r13 r14 r15 =>
 aW N [45] r_2 r13 r14 r15 (fun r16 =>
 if r16 = true then
 (fV N word_1 r16 r_2 (IntKind.wrap .i64 (r13 + 1)) r14 r15 out_6 r9 0 e8.At (fun y31 y32 y33 y34 =>
 ei N word_1 r_2 y31 y32 y33 out_6 r9 y34 e8.At (fun y47 y48 y49 y50 =>
 rec y47 y48 y49 y50)))
 else
 (fV N word_1 r16 r_2 r13 r14 r15 out_6 r9 0 e8.At (fun y51 y52 y53 y54 =>
 ei N word_1 r_2 y51 y52 y53 out_6 r9 y54 e8.At (fun y55 y56 y57 y58 =>
 rec y55 y56 y57 y58))))))
 else
 (ei N word_1 r_2 r10 r11 r12 out_6 r9 0 e8.At (fun y59 y60 y61 y62 =>
 rec y59 y60 y61 y62))))
 else
 (kp0 r_3 r_4 r_5 out_6))
def gD (N:Nat) (word_1:List UInt8) (r_2:List Token) (kp0:Int→Int→Int→(List af)→Option R):Nat→Int→Int→Int→(List af)→Option R
 | 0=>fun _ _ _ _=>none
 | n + 1=>fun r_3 r_4 r_5 out_6=>kY N word_1 r_2 kp0 (gD N word_1 r_2 kp0 n) r_3 r_4 r_5 out_6
def ia (N:Nat) (word:List UInt8) (l:List Token) (at_ Code At:Int) (k0:(List af)→Int→Int→Int→Option R):Option R :=
 gD N word l (fun y63 y64 y65 y66 =>
 k0 y66 y63 y64 y65) N at_ Code At ([]:List af)
def AM (N:Nat):FD E0:={ f:=119,fn:=Tryz.f119,q:=⟨[.p 0 0 0,.st],[z2]⟩,loops:=[{ cur:=0,live:=[0,1,5],fix:=[(⟨5,[]⟩,.row .named .app)],out:=fun | .exit 0=>([5],[]) | _=>([],[]),q:=⟨[.p 0 0 0,.st,.sw 1],[z2,.rw .named .app]⟩,G:=fun R K n a b c d e g=>gD N a b (pK ⟨[.sw 1],[z2,.rw .named .app]⟩ (K (.exit 0)) b) n c d e g,B:=fun R K rec a b c d e g=>kY N a b (pK ⟨[.sw 1],[z2,.rw .named .app]⟩ (K (.exit 0)) b) (rec a b) c d e g }],cuts:=[{ key:=11,live:=[0,1,5,6,7],fix:=[(⟨5,[]⟩,.row .named .app)],out:=fun | .normal=>([0,1,5,6],[]) | _=>([],[]),q:=⟨[.p 0 0 0,.st,.sw 1,.p 2 0 0,.b],[z2,.rw .named .app,.bx [.st,.i .i64,.i .i64]]⟩,G:=fun R K a b c d e g h i j l=>fV N a b c d e g h i j l (fun m o p q=>pK ⟨[.p 0 0 0,.st,.sw 1,.p 2 0 0],[z2,.rw .named .app,.bx [.st,.i .i64,.i .i64]]⟩ (K .normal) a c m o p h i q l) },{ key:=14,live:=[0,1,5,6],out:=fun | .normal=>([0,1,5],[]) | _=>([],[]),q:=⟨[.p 0 0 0,.st,.sw 1,.p 2 0 0],[z2,.rw .named .app,.bx [.st,.i .i64,.i .i64]]⟩,G:=fun R K a b c d e g h i j=>ei N a b c d e g h i j (pK ⟨[.p 0 0 0,.st,.sw 1],[z2,.rw .named .app]⟩ (K .normal) a b) }],g:=[gx N,je N,rM N,kX N],exit:=[(⟨4,[]⟩,.tree .named)] }
def AN (N:Nat):OC E0:=⟨_,FD.ct e0 (AM N) N (fun R k a b c d e=>ia N a b c d e (fun g=>oK ⟨.t .named,[z2],[]⟩ k g b))⟩
def z4:ShO S:=.bx [.i .i64,.st,.ns,.ns,.ns,.ns,.i .i64]
def y2:Sh S:=.ag [.i .i64,.st,.t .act,.t .act,.t .trans,.t .state,.i .i64]
def fe (N:Nat) (r_3:List Token) (r_4 r_5 r_6 v_7:Int) (v_8:List UInt8) (v_9 s_10:Int) (s_11:List UInt8) (s_12:Int) (kp0:Int→Int→Int→(List UInt8)→Option R):Option R :=
 dJ N r_3 (IntKind.wrap .i64 (r_4 + 1)) r_5 r_6 (fun r13 r14 r15 r16 =>
 bm N [59] r_3 r14 r15 r16 (fun r17 r18 r19 =>
 kp0 r17 r18 r19 r13))
def kK (N:Nat) (l:List Token) (at_ Code At:Int) (k0:Int→(List UInt8)→(List Act)→(List Act)→(List Trans)→(List State)→Int→Int→Int→Int→Option R):Option R :=
 (at? l at_).bind fun e1 =>
 aW N [100,101,101,112] l at_ Code At (fun r2 =>
 if r2 = true then
 (fe N l at_ Code At 0 [] 0 4 [] e1.At (fun y20 y21 y22 y23 =>
 k0 4 y23 ([]:List Act) ([]:List Act) ([]:List Trans) ([]:List State) e1.At y20 y21 y22))
 else
 (fe N l at_ Code At 0 [] 0 3 [] e1.At (fun y24 y25 y26 y27 =>
 k0 3 y27 ([]:List Act) ([]:List Act) ([]:List Trans) ([]:List State) e1.At y24 y25 y26)))
def yU (N:Nat):FD E0:={ f:=162,fn:=Tryz.f162,q:=⟨[.p 0 0 0],[z2]⟩,cuts:=[{ key:=4,live:=[0,2,3],out:=fun | .ret=>([2],[]) | _=>([],[]),q:=⟨[.p 0 0 0,.p 1 0 0,.p 2 0 0],[z2,z4,z4]⟩,G:=fun R K a b c d e g h i j l=>fe N a b c d e g h i j l (fun m o p q=>pK ⟨[.p 1 0 0],[z2,z4]⟩ (K .ret) a m o p i q l) }],g:=[gx N,je N,kX N],exit:=[(⟨2,[2]⟩,.tree .act),(⟨2,[3]⟩,.tree .act),(⟨2,[4]⟩,.tree .trans),(⟨2,[5]⟩,.tree .state)] }
def yV (N:Nat):OC E0:=⟨_,FD.ct e0 (yU N) N (fun R k a b c d=>kK N a b c d (fun e g h i j l m=>oK ⟨y2,[z2],[]⟩ k e g h i j l m a))⟩
def y3:Sh S:=.tp [.i .i64,.ag [.i .i64,.i .i64]]
def vC (N:Nat) (l:List Token) (at_:Int) (s:List UInt8) (k0:Int→Int→Int→Option R):Option R :=
 mq N l at_ s (fun r1 =>
 if (!r1) = true then
 (nu N l at_ (fun r2 r3 =>
 k0 0 r2 r3))
 else
 (k0 (IntKind.wrap .i64 (at_ + 1)) 0 0))
def NF (N:Nat):FD E0:={ f:=219,fn:=Tryz.f219,q:=⟨[.t .tok,.i .i64,.st],[]⟩,g:=[kc N,pI N] }
def Ci (N:Nat):OC E0:=⟨_,FD.ct e0 (NF N) N (fun R k a b c=>vC N a b c (oK ⟨y3,[],[]⟩ k))⟩
def z5:ShO S:=.bx [.t .tok,.i .i64,.i .i64,.i .i64,.i .i64]
def gg (N:Nat) (s:List UInt8) (l:List Token) (at_ open_ Code At:Int) (k0:Bool→Option R):Option R :=
 mq N l at_ s (fun r1 =>
 k0 r1)
def ED (N:Nat):FD E0:={ f:=222,fn:=Tryz.f222,q:=⟨[.p 0 0 0,.st],[z5]⟩,g:=[pI N] }
def rN (N:Nat):OC E0:=⟨_,FD.ctq e0 (ED N) N (fun R k a b c d e g=>gg N a b c d e g (oQ ⟨.b,[],[]⟩ k))⟩
def y4:Sh S:=.ag [.i .i64,.i .i64,.st,.t .expr,.i .i64]
def fO (N:Nat) (l:List Token) (at_ open_ Code At:Int) (k0:Int→Int→(List UInt8)→(List Expr)→Int→Int→Int→Option R):Option R :=
 if (Code == 0) = true then
 (nu N l at_ (fun r1 r2 =>
 k0 0 0 [] ([]:List Expr) 0 r1 r2))
 else
 (k0 0 0 [] ([]:List Expr) 0 Code At)
def AO (N:Nat):FD E0:={ f:=227,fn:=Tryz.f227,q:=⟨[.p 0 0 0],[z5]⟩,g:=[kc N],exit:=[(⟨2,[3]⟩,.tree .expr)] }
def tn (N:Nat):OC E0:=⟨_,FD.ct e0 (AO N) N (fun R k a b c d e=>fO N a b c d e (fun g h i j l=>oK ⟨y4,[z5],[]⟩ k g h i j l a b c))⟩
def jf (N:Nat) (s:List UInt8) (l:List Token) (at_ open_ Code At:Int) (k0:Int→Int→Int→Option R):Option R :=
 if (Code != 0) = true then
 (k0 at_ Code At)
 else
 (gg N s l at_ open_ Code At (fun r1 =>
 if (!r1) = true then
 (fO N l at_ open_ Code At (fun r2 r3 r4 r5 r6 r7 r8 =>
 k0 at_ r7 r8))
 else
 (k0 (IntKind.wrap .i64 (at_ + 1)) Code At)))
def Cj (N:Nat):FD E0:={ f:=226,fn:=Tryz.f226,q:=⟨[.p 0 0 0,.st],[z5]⟩,g:=[rN N,tn N] }
def Ck (N:Nat):OC E0:=⟨_,FD.ct e0 (Cj N) N (fun R k a b c d e g=>jf N a b c d e g (fun h=>oK ⟨.tp [],[z5],[]⟩ k b h d))⟩
def kg (N:Nat) (l:List Token) (at_ open_ Code At:Int) (k0:Bool→Int→Int→Int→Int→Option R):Option R :=
 if (open_ == 12) = true then
 ((at? l at_).bind fun e1 =>
 k0 false at_ open_ 14 e1.At)
 else
 (k0 true (IntKind.wrap .i64 (at_ + 1)) (IntKind.wrap .i64 (open_ + 1)) Code At)
def AP (N:Nat):FD E0:={ f:=224,fn:=Tryz.f224,q:=⟨[.p 0 0 0],[z5]⟩ }
def tq (N:Nat):OC E0:=⟨_,FD.ct e0 (AP N) N (fun R k a b c d e=>kg N a b c d e (fun g=>oK ⟨.b,[z5],[]⟩ k g a))⟩
def rO (N:Nat) (level own kind:Int) (k0:Int→Option R):Option R :=
 if (level == own) = true then
 (k0 kind)
 else
 (k0 0)
def Sb (N:Nat):FD E0:={ f:=225,fn:=Tryz.f225,q:=⟨[.i .i64,.i .i64,.i .i64],[]⟩ }
def Sd (N:Nat):OC E0:=⟨_,FD.ct e0 (Sb N) N (fun R k a b c=>rO N a b c (oK ⟨.i .i64,[],[]⟩ k))⟩
def DL (N:Nat) (level:Int) (s:List UInt8) (k0:Int→Option R):Option R :=
 if (s == [124,124]) = true then
 (rO N level 1 19 (fun r1 =>
 k0 r1))
 else
 (if (s == [38,38]) = true then
 (rO N level 2 18 (fun r2 =>
 k0 r2))
 else
 (if (s == [60]) = true then
 (rO N level 3 12 (fun r3 =>
 k0 r3))
 else
 (if (s == [60,61]) = true then
 (rO N level 3 13 (fun r4 =>
 k0 r4))
 else
 (if (s == [62]) = true then
 (rO N level 3 14 (fun r5 =>
 k0 r5))
 else
 (if (s == [62,61]) = true then
 (rO N level 3 15 (fun r6 =>
 k0 r6))
 else
 (if (s == [61,61]) = true then
 (rO N level 3 16 (fun r7 =>
 k0 r7))
 else
 (if (s == [33,61]) = true then
 (rO N level 3 17 (fun r8 =>
 k0 r8))
 else
 (if (s == [43]) = true then
 (rO N level 4 10 (fun r9 =>
 k0 r9))
 else
 (if (s == [45]) = true then
 (rO N level 4 11 (fun r10 =>
 k0 r10))
 else
 (if (s == [42]) = true then
 (rO N level 5 7 (fun r11 =>
 k0 r11))
 else
 (if (s == [47]) = true then
 (rO N level 5 8 (fun r12 =>
 k0 r12))
 else
 (if (s == [37]) = true then
 (rO N level 5 9 (fun r13 =>
 k0 r13))
 else
 (k0 0)))))))))))))
def NG (N:Nat):FD E0:={ f:=221,fn:=Tryz.f221,q:=⟨[.i .i64,.st],[]⟩,g:=[Sd N] }
def NH (N:Nat):OC E0:=⟨_,FD.ct e0 (NG N) N (fun R k a b=>DL N a b (oK ⟨.i .i64,[],[]⟩ k))⟩
structure au where
 r7_reader_binary:(R:Type)→Int→(List Token)→Int→Int→Int→Int→(Int→Int→(List UInt8)→(List Expr)→Int→Int→Int→Int→Int→Option R)→Option R
 r7_reader_unary:(R:Type)→(List Token)→Int→Int→Int→Int→(Int→Int→(List UInt8)→(List Expr)→Int→Int→Int→Int→Int→Option R)→Option R
 r7_reader_prim:(R:Type)→(List Token)→Int→Int→Int→Int→(Int→Int→(List UInt8)→(List Expr)→Int→Int→Int→Int→Int→Option R)→Option R
def rP:Pat S:=⟨[.p 0 0 0,.i .i64],[z5]⟩
def jx (F:au):Ct S:=⟨214,rP,fun R k a b c d e g=>F.r7_reader_binary R a b c d e g (fun h i j l m=>oK ⟨y4,[z5],[]⟩ k h i j l m b)⟩
def tu:Pat S:=⟨[.p 0 0 0],[z5]⟩
def oi (F:au):Ct S:=⟨220,tu,fun R k a b c d e=>F.r7_reader_unary R a b c d e (fun g h i j l=>oK ⟨y4,[z5],[]⟩ k g h i j l a)⟩
def uD:Pat S:=⟨[.p 0 0 0],[z5]⟩
def uE (F:au):Ct S:=⟨223,uD,fun R k a b c d e=>F.r7_reader_prim R a b c d e (fun g h i j l=>oK ⟨y4,[z5],[]⟩ k g h i j l a)⟩
structure bR (F:au):Prop where
 r7_reader_binary:(jx F).ok E0
 r7_reader_unary:(oi F).ok E0
 r7_reader_prim:(uE F).ok E0
def z6:ShO S:=.bx [.i .i64,.i .i64,.st,.ns,.i .i64]
def z7:ShO S:=.bx [.i .i64,.i .i64,.st,.t .expr,.i .i64]
def z8:ShO S:=.bx [.i .i64,.i .i64,.st,.sw 2,.i .i64]
def kB (F:au) (N:Nat) (level_49:Int) (r_50:List Token) (v_55 v_56:Int) (v_57:List UInt8) (v_58:Int) (kp0 kp1:Int→Int→Int→Int→Int→Int→(List UInt8)→(List Expr)→Int→Option R) (kp2:Int→Int→Int→Int→Int→Int→(List UInt8)→Int→(List Expr)→Option R) (rec:Int→Int→Int→Int→Int→Int→(List UInt8)→(List Expr)→Int→Option R) (r_51 r_52 r_53 r_54 e_59 e_60:Int) (e_61:List UInt8) (e_62:List Expr) (e_63:Int):Option R :=
 (ifB (r_53 == 0) true (some (decide (r_51 < ((r_50.length:Nat):Int)))) (some false)).bind fun c64 =>
 (ifB c64 true ((at? r_50 r_51).bind fun e65 =>
 some (e65.Kind == 3)) (some false)).bind fun c66 =>
 if c66 = true then
 ((at? r_50 r_51).bind fun e67 =>
 DL N level_49 e67.Text (fun r68 =>
 if (r68 == 0) = true then
 (kp1 r_51 r_52 r_53 r_54 e_59 e_60 e_61 e_62 e_63)
 else
 ((at? r_50 r_51).bind fun e69 =>
 F.r7_reader_binary _ (IntKind.wrap .i64 (level_49 + 1)) r_50 (IntKind.wrap .i64 (r_51 + 1)) r_52 r_53 r_54 (fun r70 r71 r72 r73 r74 r75 r76 r77 r78 =>
 if (level_49 == 3) = true then
 (kp2 r75 r76 r77 r78 r68 0 [] e69.At [(⟨e_59,e_60,e_61,e_62,e_63⟩:Expr),(⟨r70,r71,r72,r73,r74⟩:Expr)])
 else
 (rec r75 r76 r77 r78 r68 0 [] [(⟨e_59,e_60,e_61,e_62,e_63⟩:Expr),(⟨r70,r71,r72,r73,r74⟩:Expr)] e69.At)))))
 else
 (kp0 r_51 r_52 r_53 r_54 e_59 e_60 e_61 e_62 e_63)
def fW (F:au) (N:Nat) (level_49:Int) (r_50:List Token) (v_55 v_56:Int) (v_57:List UInt8) (v_58:Int) (kp0 kp1:Int→Int→Int→Int→Int→Int→(List UInt8)→(List Expr)→Int→Option R) (kp2:Int→Int→Int→Int→Int→Int→(List UInt8)→Int→(List Expr)→Option R):Nat→Int→Int→Int→Int→Int→Int→(List UInt8)→(List Expr)→Int→Option R
 | 0=>fun _ _ _ _ _ _ _ _ _=>none
 | n + 1=>fun r_51 r_52 r_53 r_54 e_59 e_60 e_61 e_62 e_63=>kB F N level_49 r_50 v_55 v_56 v_57 v_58 kp0 kp1 kp2 (fW F N level_49 r_50 v_55 v_56 v_57 v_58 kp0 kp1 kp2 n) r_51 r_52 r_53 r_54 e_59 e_60 e_61 e_62 e_63
def gE (F:au) (N:Nat) (level:Int) (l:List Token) (at_ open_ Code At:Int) (k0:Int→Int→(List UInt8)→(List Expr)→Int→Int→Int→Int→Int→Option R):Option R :=
 if (level == 6) = true then
 (F.r7_reader_unary _ l at_ open_ Code At (fun r1 r2 r3 r4 r5 r6 r7 r8 r9 =>
 k0 r1 r2 r3 r4 r5 r6 r7 r8 r9))
 else
 (F.r7_reader_binary _ (IntKind.wrap .i64 (level + 1)) l at_ open_ Code At (fun r10 r11 r12 r13 r14 r15 r16 r17 r18 =>
 fW F N level l 0 0 [] 0 (fun y79 y80 y81 y82 y83 y84 y85 y86 y87 =>
 k0 y83 y84 y85 y86 y87 y79 y80 y81 y82)
 (fun y88 y89 y90 y91 y92 y93 y94 y95 y96 =>
 k0 y92 y93 y94 y95 y96 y88 y89 y90 y91)
 (fun y97 y98 y99 y100 y101 y102 y103 y104 y105 =>
 k0 y101 y102 y103 y105 y104 y97 y98 y99 y100) N r15 r16 r17 r18 r10 r11 r12 r13 r14))
def nv (F:au) (hF:bR F) (N:Nat):FD E0:={ f:=214,fn:=Tryz.f214,q:=rP,loops:=[{ cur:=0,live:=[0,1,4,5],fix:=[(⟨5,[3]⟩,.tree .expr)],out:=fun | .exit 0=>([4,5],[]) | .ret=>([4],[]) | _=>([],[]),q:=⟨[.p 0 0 0,.i .i64,.p 1 0 0,.p 2 0 0],[z5,z6,z7]⟩,G:=fun R K n a b c d e g h i j l m o p q s=>fW F N a b h i j l (fun t u v w=>pK ⟨[.p 1 0 0,.p 2 0 0],[z5,z6,z7]⟩ (K (.exit 0)) b t u v w h i j l) (pK ⟨[.p 1 0 0],[z5,z7]⟩ (K .ret) b) (pK ⟨[.p 1 0 0],[z5,z8,.rw .expr .app]⟩ (K .ret) b) n c d e g m o p q s,B:=fun R K rec a b c d e g h i j l m o p q s=>kB F N a b h i j l (fun t u v w=>pK ⟨[.p 1 0 0,.p 2 0 0],[z5,z6,z7]⟩ (K (.exit 0)) b t u v w h i j l) (pK ⟨[.p 1 0 0],[z5,z7]⟩ (K .ret) b) (pK ⟨[.p 1 0 0],[z5,z8,.rw .expr .app]⟩ (K .ret) b) (fun c d e g m o p q s=>rec a b c d e g h i j l m o p q s) c d e g m o p q s }],g:=[⟨jx F,hF.r7_reader_binary⟩,⟨oi F,hF.r7_reader_unary⟩,NH N],exit:=[(⟨4,[3]⟩,.tree .expr)] }
theorem xz (F:au) (hF:bR F) (N:Nat):Ct.ok E0 ⟨(nv F hF N).f,(nv F hF N).q,fun R k a b c d e g=>gE F N a b c d e g (fun h i j l m=>oK ⟨y4,[z5],[]⟩ k h i j l m b)⟩:=FD.ct e0 (nv F hF N) N (fun R k a b c d e g=>gE F N a b c d e g (fun h i j l m=>oK ⟨y4,[z5],[]⟩ k h i j l m b))
def gF (F:au) (N:Nat) (k_13:Int) (r_14:List Token) (r_15 r_16 r_17 r_18 v_19 v_20:Int) (v_21:List UInt8) (v_22:Int) (kp0:Int→Int→Int→Int→Int→Int→(List UInt8)→(List Expr)→Int→Option R) (kp1:Int→Int→Int→Int→Int→Int→(List UInt8)→Int→Option R) (kp2:Int→Int→Int→Int→Int→(List UInt8)→Int→(List Expr)→Option R):Option R :=
 if (k_13 == 0) = true then
 (F.r7_reader_prim _ r_14 r_15 r_16 r_17 r_18 (fun r23 r24 r25 r26 r27 r28 r29 r30 r31 =>
 kp0 r28 r29 r30 r31 r23 r24 r25 r26 r27))
 else
 ((at? r_14 r_15).bind fun e32 =>
 kg N r_14 r_15 r_16 r_17 r_18 (fun r33 r34 r35 r36 r37 =>
 if (!r33) = true then
 (kp1 r34 r35 r36 r37 0 0 [] 0)
 else
 (F.r7_reader_unary _ r_14 r34 r35 r36 r37 (fun r38 r39 r40 r41 r42 r43 r44 r45 r46 =>
 kp2 r43 (IntKind.wrap .i64 (r44 - 1)) r45 r46 0 [] e32.At [(⟨r38,r39,r40,r41,r42⟩:Expr)]))))
def gG (F:au) (N:Nat) (k_2:Int) (r_3:List Token) (r_4 r_5 r_6 r_7 v_8 v_9:Int) (v_10:List UInt8) (v_11:Int) (kp0:Int→Int→Int→Int→Int→Int→(List UInt8)→(List Expr)→Int→Option R) (kp1:Int→Int→Int→Int→Int→Int→(List UInt8)→Int→Option R) (kp2:Int→Int→Int→Int→Int→Int→(List UInt8)→Int→(List Expr)→Option R):Option R :=
 gg N [33] r_3 r_4 r_5 r_6 r_7 (fun r12 =>
 if r12 = true then
 (gF F N 6 r_3 r_4 r_5 r_6 r_7 v_8 v_9 v_10 v_11 (fun y47 y48 y49 y50 y51 y52 y53 y54 y55 =>
 kp0 y47 y48 y49 y50 y51 y52 y53 y54 y55)
 (fun y56 y57 y58 y59 y60 y61 y62 y63 =>
 kp1 y56 y57 y58 y59 y60 y61 y62 y63)
 (fun y64 y65 y66 y67 y68 y69 y70 y71 =>
 kp2 y64 y65 y66 y67 6 y68 y69 y70 y71))
 else
 (gF F N k_2 r_3 r_4 r_5 r_6 r_7 v_8 v_9 v_10 v_11 (fun y72 y73 y74 y75 y76 y77 y78 y79 y80 =>
 kp0 y72 y73 y74 y75 y76 y77 y78 y79 y80)
 (fun y81 y82 y83 y84 y85 y86 y87 y88 =>
 kp1 y81 y82 y83 y84 y85 y86 y87 y88)
 (fun y89 y90 y91 y92 y93 y94 y95 y96 =>
 kp2 y89 y90 y91 y92 k_2 y93 y94 y95 y96)))
def iu (F:au) (N:Nat) (l:List Token) (at_ open_ Code At:Int) (k0:Int→Int→(List UInt8)→(List Expr)→Int→Int→Int→Int→Int→Option R):Option R :=
 gg N [45] l at_ open_ Code At (fun r1 =>
 if r1 = true then
 (gG F N 5 l at_ open_ Code At 0 0 [] 0 (fun y97 y98 y99 y100 y101 y102 y103 y104 y105 =>
 k0 y101 y102 y103 y104 y105 y97 y98 y99 y100)
 (fun y106 y107 y108 y109 y110 y111 y112 y113 =>
 k0 y110 y111 y112 ([]:List Expr) y113 y106 y107 y108 y109)
 (fun y114 y115 y116 y117 y118 y119 y120 y121 y122 =>
 k0 y118 y119 y120 y122 y121 y114 y115 y116 y117))
 else
 (gG F N 0 l at_ open_ Code At 0 0 [] 0 (fun y123 y124 y125 y126 y127 y128 y129 y130 y131 =>
 k0 y127 y128 y129 y130 y131 y123 y124 y125 y126)
 (fun y132 y133 y134 y135 y136 y137 y138 y139 =>
 k0 y136 y137 y138 ([]:List Expr) y139 y132 y133 y134 y135)
 (fun y140 y141 y142 y143 y144 y145 y146 y147 y148 =>
 k0 y144 y145 y146 y148 y147 y140 y141 y142 y143)))
def om (F:au) (hF:bR F) (N:Nat):FD E0:={ f:=220,fn:=Tryz.f220,q:=tu,cuts:=[{ key:=6,live:=[0,2,3],out:=fun | .ret=>([2],[]) | _=>([],[]),q:=⟨[.p 0 0 0,.p 1 0 0,.i .i64],[z5,z6]⟩,G:=fun R K a b c d e g h i j l=>gF F N a b c d e g h i j l (pK ⟨[.p 1 0 0],[z5,z7]⟩ (K .ret) b) (pK ⟨[.p 1 0 0],[z5,z6]⟩ (K .ret) b) (fun m o p q=>pK ⟨[.p 1 0 0],[z5,z8,.rw .expr .app]⟩ (K .ret) b m o p q a) },{ key:=4,live:=[0,2,3],out:=fun | .ret=>([2],[]) | _=>([],[]),q:=⟨[.p 0 0 0,.p 1 0 0,.i .i64],[z5,z6]⟩,G:=fun R K a b c d e g h i j l=>gG F N a b c d e g h i j l (pK ⟨[.p 1 0 0],[z5,z7]⟩ (K .ret) b) (pK ⟨[.p 1 0 0],[z5,z6]⟩ (K .ret) b) (pK ⟨[.p 1 0 0],[z5,z8,.rw .expr .app]⟩ (K .ret) b) }],g:=[⟨oi F,hF.r7_reader_unary⟩,rN N,⟨uE F,hF.r7_reader_prim⟩,tq N],exit:=[(⟨2,[3]⟩,.tree .expr)] }
theorem yW (F:au) (hF:bR F) (N:Nat):Ct.ok E0 ⟨(om F hF N).f,(om F hF N).q,fun R k a b c d e=>iu F N a b c d e (fun g h i j l=>oK ⟨y4,[z5],[]⟩ k g h i j l a)⟩:=FD.ct e0 (om F hF N) N (fun R k a b c d e=>iu F N a b c d e (fun g h i j l=>oK ⟨y4,[z5],[]⟩ k g h i j l a))
end
end So
