/- T2_1: a part of the proof of SoundTells: lemmas on the evaluator and on the functions that the law reaches. -/
import Derived.Test.YtcllbmdpckfnhaaGreatT11
set_option maxRecDepth 100000
set_option linter.unusedVariables false
namespace So
open Go TE Go.Proofs
noncomputable section
variable {R:Type}
def z2:ShO S:=.bx [.t .tok,.i .i64,.i .i64,.i .i64]
def r10_reader_ok (N:Nat) (l:List Token) (at_ Code At:Int) (k0:Bool→Option R):Option R :=
 k0 (Code == 0)
def r10_reader_ok_D (N:Nat):FD E0:={ f:=26,fn:=Tryz.f26,q:=⟨[.p 0 0 0],[z2]⟩ }
def r10_reader_ok_S (N:Nat):OC E0:=⟨_,FD.ctq e0 (r10_reader_ok_D N) N (fun R k a b c d=>r10_reader_ok N a b c d (oQ ⟨.b,[],[]⟩ k))⟩
def r6_Is (N:Nat) (l:List Token) (at_:Int) (s:List UInt8) (k0:Bool→Option R):Option R :=
 (ifB (decide (at_ < ((l.length:Nat):Int))) true ((at? l at_).bind fun e1 =>
 (ifB (e1.Kind == 3) false ((at? l at_).bind fun e2 =>
 some (e2.Kind == 1)) (some true)).bind fun c3 =>
 some c3) (some false)).bind fun c4 =>
 (ifB c4 true ((at? l at_).bind fun e5 =>
 some (e5.Text == s)) (some false)).bind fun c6 =>
 k0 c6
def r6_Is_D (N:Nat):FD E0:={ f:=54,fn:=Tryz.f54,q:=⟨[.t .tok,.i .i64,.st],[]⟩ }
def r6_Is_S (N:Nat):OC E0:=⟨_,FD.ct e0 (r6_Is_D N) N (fun R k a b c=>r6_Is N a b c (oK ⟨.b,[],[]⟩ k))⟩
def r6_Bad (N:Nat) (l:List Token) (at_:Int) (k0:Int→Int→Option R):Option R :=
 (at? l at_).bind fun e1 =>
 if (e1.Kind == 4) = true then
 ((at? l at_).bind fun e2 =>
 k0 12 e2.At)
 else
 ((at? l at_).bind fun e3 =>
 k0 11 e3.At)
def r6_Bad_D (N:Nat):FD E0:={ f:=27,fn:=Tryz.f27,q:=⟨[.t .tok,.i .i64],[]⟩ }
def r6_Bad_S (N:Nat):OC E0:=⟨_,FD.ct e0 (r6_Bad_D N) N (fun R k a b=>r6_Bad N a b (oK ⟨.ag [.i .i64,.i .i64],[],[]⟩ k))⟩
def r10_reader_want_c2 (N:Nat) (r_5:List Token) (r_6 r_7 r_8:Int) (kp0:Int→Option R):Option R :=
 if (r_7 == 0) = true then
 (kp0 (IntKind.wrap .i64 (r_6 + 1)))
 else
 (kp0 r_6)
def r10_reader_want (N:Nat) (s:List UInt8) (l:List Token) (at_ Code At:Int) (k0:Int→Int→Int→Option R):Option R :=
 (ifB (Code == 0) true (r6_Is N l at_ s (fun r1 =>
 some (!r1))) (some false)).bind fun c2 =>
 if c2 = true then
 (r6_Bad N l at_ (fun r3 r4 =>
 r10_reader_want_c2 N l at_ r3 r4 (fun y9 =>
 k0 y9 r3 r4)))
 else
 (r10_reader_want_c2 N l at_ Code At (fun y10 =>
 k0 y10 Code At))
def r10_reader_want_D (N:Nat):FD E0:={ f:=18,fn:=Tryz.f18,q:=⟨[.p 0 0 0,.st],[z2]⟩,cuts:=[{ key:=2,live:=[0],out:=fun | .normal=>([],[]) | _=>([],[]),q:=⟨[.p 0 0 0],[z2]⟩,G:=fun R K a b c d=>r10_reader_want_c2 N a b c d (fun e=>pK ⟨[],[z2]⟩ (K .normal) a e c d) }],g:=[r10_reader_ok_S N,r6_Bad_S N,r6_Is_S N] }
def r10_reader_want_S (N:Nat):OC E0:=⟨_,FD.ct e0 (r10_reader_want_D N) N (fun R k a b c d e=>r10_reader_want N a b c d e (oK ⟨.tp [],[z2],[]⟩ k b))⟩
def r10_reader_number_c3 (N:Nat) (r_5:List Token) (r_6 r_7 r_8:Int) (kp0:Int→Int→Option R):Option R :=
 if (!(r_7 == 0)) = true then
 (kp0 0 r_6)
 else
 ((at? r_5 (IntKind.wrap .i64 ((IntKind.wrap .i64 (r_6 + 1)) - 1))).bind fun e9 =>
 kp0 e9.N (IntKind.wrap .i64 (r_6 + 1)))
def r10_reader_number (N:Nat) (l:List Token) (at_ Code At:Int) (k0:Int→Int→Int→Int→Option R):Option R :=
 (ifB (Code == 0) true ((at? l at_).bind fun e1 =>
 some (e1.Kind != 2)) (some false)).bind fun c2 =>
 if c2 = true then
 (r6_Bad N l at_ (fun r3 r4 =>
 r10_reader_number_c3 N l at_ r3 r4 (fun y10 y11 =>
 k0 y10 y11 r3 r4)))
 else
 (r10_reader_number_c3 N l at_ Code At (fun y12 y13 =>
 k0 y12 y13 Code At))
def r10_reader_number_D (N:Nat):FD E0:={ f:=19,fn:=Tryz.f19,q:=⟨[.p 0 0 0],[z2]⟩,cuts:=[{ key:=3,live:=[0],out:=fun | .ret=>([2],[]) | _=>([],[]),q:=⟨[.p 0 0 0],[z2]⟩,G:=fun R K a b c d=>r10_reader_number_c3 N a b c d (fun e g=>pK ⟨[.i .i64],[z2]⟩ (K .ret) e a g c d) }],g:=[r10_reader_ok_S N,r6_Bad_S N] }
def r10_reader_number_S (N:Nat):OC E0:=⟨_,FD.ct e0 (r10_reader_number_D N) N (fun R k a b c d=>r10_reader_number N a b c d (fun e=>oK ⟨.i .i64,[z2],[]⟩ k e a))⟩
def r10_reader_is (N:Nat) (s:List UInt8) (l:List Token) (at_ Code At:Int) (k0:Bool→Option R):Option R :=
 (ifB (Code == 0) true (r6_Is N l at_ s (fun r1 =>
 some r1)) (some false)).bind fun c2 =>
 k0 c2
def r10_reader_is_D (N:Nat):FD E0:={ f:=20,fn:=Tryz.f20,q:=⟨[.p 0 0 0,.st],[z2]⟩,g:=[r10_reader_ok_S N,r6_Is_S N] }
def r10_reader_is_S (N:Nat):OC E0:=⟨_,FD.ctq e0 (r10_reader_is_D N) N (fun R k a b c d e=>r10_reader_is N a b c d e (oQ ⟨.b,[],[]⟩ k))⟩
def r10_reader_many_c3 (N:Nat) (r_3:List Token) (r_4 r_5 r_6:Int) (kp0:Bool→Option R):Option R :=
 kp0 (!(r_5 == 0))
def r10_reader_many (N:Nat) (n_ most:Int) (l:List Token) (at_ Code At:Int) (k0:Bool→Int→Int→Option R):Option R :=
 (ifB (Code == 0) true (some (n_ == most)) (some false)).bind fun c1 =>
 if c1 = true then
 ((at? l at_).bind fun e2 =>
 r10_reader_many_c3 N l at_ 15 e2.At (fun y7 =>
 k0 y7 15 e2.At))
 else
 (r10_reader_many_c3 N l at_ Code At (fun y8 =>
 k0 y8 Code At))
def r10_reader_many_D (N:Nat):FD E0:={ f:=21,fn:=Tryz.f21,q:=⟨[.p 0 0 0,.i .i64,.i .i64],[z2]⟩,cuts:=[{ key:=3,live:=[0],out:=fun | .ret=>([6],[]) | _=>([],[]),q:=⟨[.p 0 0 0],[z2]⟩,G:=fun R K a b c d=>r10_reader_many_c3 N a b c d (fun e=>pK ⟨[.b],[z2]⟩ (K .ret) e a b c d) }],g:=[r10_reader_ok_S N] }
def r10_reader_many_S (N:Nat):OC E0:=⟨_,FD.ct e0 (r10_reader_many_D N) N (fun R k a b c d e g=>r10_reader_many N a b c d e g (fun h=>oK ⟨.b,[z2],[]⟩ k h c d))⟩
def r9_reader_ok (N:Nat) (l:List Token) (at_ Code At:Int) (k0:Bool→Option R):Option R :=
 k0 (Code == 0)
def r9_reader_ok_D (N:Nat):FD E0:={ f:=121,fn:=Tryz.f121,q:=⟨[.p 0 0 0],[z2]⟩ }
def r9_reader_ok_S (N:Nat):OC E0:=⟨_,FD.ctq e0 (r9_reader_ok_D N) N (fun R k a b c d=>r9_reader_ok N a b c d (oQ ⟨.b,[],[]⟩ k))⟩
def r9_reader_want_c2 (N:Nat) (r_5:List Token) (r_6 r_7 r_8:Int) (kp0:Int→Option R):Option R :=
 if (r_7 == 0) = true then
 (kp0 (IntKind.wrap .i64 (r_6 + 1)))
 else
 (kp0 r_6)
def r9_reader_want (N:Nat) (s:List UInt8) (l:List Token) (at_ Code At:Int) (k0:Int→Int→Int→Option R):Option R :=
 (ifB (Code == 0) true (r6_Is N l at_ s (fun r1 =>
 some (!r1))) (some false)).bind fun c2 =>
 if c2 = true then
 (r6_Bad N l at_ (fun r3 r4 =>
 r9_reader_want_c2 N l at_ r3 r4 (fun y9 =>
 k0 y9 r3 r4)))
 else
 (r9_reader_want_c2 N l at_ Code At (fun y10 =>
 k0 y10 Code At))
def r9_reader_want_D (N:Nat):FD E0:={ f:=116,fn:=Tryz.f116,q:=⟨[.p 0 0 0,.st],[z2]⟩,cuts:=[{ key:=2,live:=[0],out:=fun | .normal=>([],[]) | _=>([],[]),q:=⟨[.p 0 0 0],[z2]⟩,G:=fun R K a b c d=>r9_reader_want_c2 N a b c d (fun e=>pK ⟨[],[z2]⟩ (K .normal) a e c d) }],g:=[r6_Bad_S N,r6_Is_S N,r9_reader_ok_S N] }
def r9_reader_want_S (N:Nat):OC E0:=⟨_,FD.ct e0 (r9_reader_want_D N) N (fun R k a b c d e=>r9_reader_want N a b c d e (oK ⟨.tp [],[z2],[]⟩ k b))⟩
def z3:ShO S:=.bx [.st,.st,.st,.st,.st,.st,.st,.st,.st,.st,.st,.st,.st,.st,.st,.st,.st,.st,.st,.st,.st,.st,.st,.st,.st,.st,.st,.st,.st,.st,.st,.st,.st,.st,.st]
def r6_Reserved_l0_b (N:Nat) (s_1 words_3 words_4 words_5 words_6 words_7 words_8 words_9 words_10 words_11 words_12 words_13 words_14 words_15 words_16 words_17 words_18 words_19 words_20 words_21 words_22 words_23 words_24 words_25 words_26 words_27 words_28 words_29 words_30 words_31 words_32 words_33 words_34 words_35 words_36 words_37:List UInt8) (kp0:Option R) (kp1:Bool→Option R) (rec:Int→Option R) (i_2:Int):Option R :=
 if (decide (i_2 < 35)) = true then
 (if (0:Int) ≤ i_2 ∧ i_2 < ((35:Nat):Int) then ((([words_3,words_4,words_5,words_6,words_7,words_8,words_9,words_10,words_11,words_12,words_13,words_14,words_15,words_16,words_17,words_18,words_19,words_20,words_21,words_22,words_23,words_24,words_25,words_26,words_27,words_28,words_29,words_30,words_31,words_32,words_33,words_34,words_35,words_36,words_37]:List (List UInt8))[(0 + Int.toNat i_2 * 1)]?).bind fun e38 =>
 if (e38 == s_1) = true then
 (kp1 true)
 else
 (rec (IntKind.wrap .i64 (i_2 + 1)))) else none)
 else
 (kp0 )
def r6_Reserved_l0 (N:Nat) (s_1 words_3 words_4 words_5 words_6 words_7 words_8 words_9 words_10 words_11 words_12 words_13 words_14 words_15 words_16 words_17 words_18 words_19 words_20 words_21 words_22 words_23 words_24 words_25 words_26 words_27 words_28 words_29 words_30 words_31 words_32 words_33 words_34 words_35 words_36 words_37:List UInt8) (kp0:Option R) (kp1:Bool→Option R):Nat→Int→Option R
 | 0=>fun _=>none
 | n + 1=>fun i_2=>r6_Reserved_l0_b N s_1 words_3 words_4 words_5 words_6 words_7 words_8 words_9 words_10 words_11 words_12 words_13 words_14 words_15 words_16 words_17 words_18 words_19 words_20 words_21 words_22 words_23 words_24 words_25 words_26 words_27 words_28 words_29 words_30 words_31 words_32 words_33 words_34 words_35 words_36 words_37 kp0 kp1 (r6_Reserved_l0 N s_1 words_3 words_4 words_5 words_6 words_7 words_8 words_9 words_10 words_11 words_12 words_13 words_14 words_15 words_16 words_17 words_18 words_19 words_20 words_21 words_22 words_23 words_24 words_25 words_26 words_27 words_28 words_29 words_30 words_31 words_32 words_33 words_34 words_35 words_36 words_37 kp0 kp1 n) i_2
def r6_Reserved (N:Nat) (s:List UInt8) (k0:Bool→Option R):Option R :=
 r6_Reserved_l0 N s [115,121,115,116,101,109] [97,103,101] [99,104,97,114,116] [115,116,101,112,115] [102,117,101,108] [118,97,114] [112,111,114,116] [116,105,109,101,114] [115,116,97,116,101] [112,97,114,97,108,108,101,108] [104,105,115,116,111,114,121] [100,101,101,112] [101,110,116,114,121] [101,120,105,116] [111,110] [97,117,116,111] [114,97,105,115,101] [115,101,110,100] [97,114,109] [99,97,110,99,101,108] [105,102] [101,108,115,101] [108,111,111,112] [105,110] [105,110,115,116] [113,117,97,110,116,117,109] [101,120,116] [112,114,105,111] [99,104,97,110] [99,97,112] [99,101,114,116] [105,110,115,116,115] [99,104,97,110,115] [99,101,108,108] [111,102,102] (k0 false)
 (fun y39 =>
 k0 y39) N 0
def r6_Reserved_D (N:Nat):FD E0:={ f:=164,fn:=Tryz.f164,q:=⟨[.st],[]⟩,loops:=[{ cur:=0,live:=[0,3,4],out:=fun | .exit 0=>([],[]) | .ret=>([2],[]) | _=>([],[]),q:=⟨[.st,.p 0 0 0,.i .i64],[z3]⟩,G:=fun R K n a b c d e g h i j l m o p q s t u v w x y z a1 b1 c1 d1 e1 g1 h1 i1 j1 l1 m1 o1 p1 q1 s1=>r6_Reserved_l0 N a c d e g h i j l m o p q s t u v w x y z a1 b1 c1 d1 e1 g1 h1 i1 j1 l1 m1 o1 p1 q1 s1 (pK ⟨[],[]⟩ (K (.exit 0))) (pK ⟨[.b],[]⟩ (K .ret)) n b,B:=fun R K rec a b c d e g h i j l m o p q s t u v w x y z a1 b1 c1 d1 e1 g1 h1 i1 j1 l1 m1 o1 p1 q1 s1=>r6_Reserved_l0_b N a c d e g h i j l m o p q s t u v w x y z a1 b1 c1 d1 e1 g1 h1 i1 j1 l1 m1 o1 p1 q1 s1 (pK ⟨[],[]⟩ (K (.exit 0))) (pK ⟨[.b],[]⟩ (K .ret)) (fun b=>rec a b c d e g h i j l m o p q s t u v w x y z a1 b1 c1 d1 e1 g1 h1 i1 j1 l1 m1 o1 p1 q1 s1) b }] }
def r6_Reserved_S (N:Nat):OC E0:=⟨_,FD.ct e0 (r6_Reserved_D N) N (fun R k a=>r6_Reserved N a (oK ⟨.b,[],[]⟩ k))⟩
def r6_Named (N:Nat) (l:List Token) (at_:Int) (k0:Bool→Option R):Option R :=
 (ifB (decide (at_ < ((l.length:Nat):Int))) true ((at? l at_).bind fun e1 =>
 some (e1.Kind == 1)) (some false)).bind fun c2 =>
 (ifB c2 true ((at? l at_).bind fun e3 =>
 r6_Reserved N e3.Text (fun r4 =>
 some (!r4))) (some false)).bind fun c5 =>
 k0 c5
def r6_Named_D (N:Nat):FD E0:={ f:=122,fn:=Tryz.f122,q:=⟨[.t .tok,.i .i64],[]⟩,g:=[r6_Reserved_S N] }
def r6_Named_S (N:Nat):OC E0:=⟨_,FD.ct e0 (r6_Named_D N) N (fun R k a b=>r6_Named N a b (oK ⟨.b,[],[]⟩ k))⟩
def r9_reader_name_c3 (N:Nat) (r_5:List Token) (r_6 r_7 r_8:Int) (kp0:(List UInt8)→Int→Option R):Option R :=
 if (!(r_7 == 0)) = true then
 (kp0 [] r_6)
 else
 ((at? r_5 (IntKind.wrap .i64 ((IntKind.wrap .i64 (r_6 + 1)) - 1))).bind fun e9 =>
 kp0 e9.Text (IntKind.wrap .i64 (r_6 + 1)))
def r9_reader_name (N:Nat) (l:List Token) (at_ Code At:Int) (k0:(List UInt8)→Int→Int→Int→Option R):Option R :=
 (ifB (Code == 0) true (r6_Named N l at_ (fun r1 =>
 some (!r1))) (some false)).bind fun c2 =>
 if c2 = true then
 (r6_Bad N l at_ (fun r3 r4 =>
 r9_reader_name_c3 N l at_ r3 r4 (fun y10 y11 =>
 k0 y10 y11 r3 r4)))
 else
 (r9_reader_name_c3 N l at_ Code At (fun y12 y13 =>
 k0 y12 y13 Code At))
def r9_reader_name_D (N:Nat):FD E0:={ f:=117,fn:=Tryz.f117,q:=⟨[.p 0 0 0],[z2]⟩,cuts:=[{ key:=3,live:=[0],out:=fun | .ret=>([2],[]) | _=>([],[]),q:=⟨[.p 0 0 0],[z2]⟩,G:=fun R K a b c d=>r9_reader_name_c3 N a b c d (fun e g=>pK ⟨[.st],[z2]⟩ (K .ret) e a g c d) }],g:=[r6_Bad_S N,r9_reader_ok_S N,r6_Named_S N] }
def r9_reader_name_S (N:Nat):OC E0:=⟨_,FD.ct e0 (r9_reader_name_D N) N (fun R k a b c d=>r9_reader_name N a b c d (fun e=>oK ⟨.st,[z2],[]⟩ k e a))⟩
def r9_reader_number_c3 (N:Nat) (r_5:List Token) (r_6 r_7 r_8:Int) (kp0:Int→Int→Option R):Option R :=
 if (!(r_7 == 0)) = true then
 (kp0 0 r_6)
 else
 ((at? r_5 (IntKind.wrap .i64 ((IntKind.wrap .i64 (r_6 + 1)) - 1))).bind fun e9 =>
 kp0 e9.N (IntKind.wrap .i64 (r_6 + 1)))
def r9_reader_number (N:Nat) (l:List Token) (at_ Code At:Int) (k0:Int→Int→Int→Int→Option R):Option R :=
 (ifB (Code == 0) true ((at? l at_).bind fun e1 =>
 some (e1.Kind != 2)) (some false)).bind fun c2 =>
 if c2 = true then
 (r6_Bad N l at_ (fun r3 r4 =>
 r9_reader_number_c3 N l at_ r3 r4 (fun y10 y11 =>
 k0 y10 y11 r3 r4)))
 else
 (r9_reader_number_c3 N l at_ Code At (fun y12 y13 =>
 k0 y12 y13 Code At))
def r9_reader_number_D (N:Nat):FD E0:={ f:=118,fn:=Tryz.f118,q:=⟨[.p 0 0 0],[z2]⟩,cuts:=[{ key:=3,live:=[0],out:=fun | .ret=>([2],[]) | _=>([],[]),q:=⟨[.p 0 0 0],[z2]⟩,G:=fun R K a b c d=>r9_reader_number_c3 N a b c d (fun e g=>pK ⟨[.i .i64],[z2]⟩ (K .ret) e a g c d) }],g:=[r6_Bad_S N,r9_reader_ok_S N] }
def r9_reader_number_S (N:Nat):OC E0:=⟨_,FD.ct e0 (r9_reader_number_D N) N (fun R k a b c d=>r9_reader_number N a b c d (fun e=>oK ⟨.i .i64,[z2],[]⟩ k e a))⟩
def r9_reader_is (N:Nat) (s:List UInt8) (l:List Token) (at_ Code At:Int) (k0:Bool→Option R):Option R :=
 (ifB (Code == 0) true (r6_Is N l at_ s (fun r1 =>
 some r1)) (some false)).bind fun c2 =>
 k0 c2
def r9_reader_is_D (N:Nat):FD E0:={ f:=161,fn:=Tryz.f161,q:=⟨[.p 0 0 0,.st],[z2]⟩,g:=[r6_Is_S N,r9_reader_ok_S N] }
def r9_reader_is_S (N:Nat):OC E0:=⟨_,FD.ctq e0 (r9_reader_is_D N) N (fun R k a b c d e=>r9_reader_is N a b c d e (oQ ⟨.b,[],[]⟩ k))⟩
def r9_reader_named_c11 (N:Nat) (word_17:List UInt8) (minus_18:Bool) (r_19:List Token) (r_20 r_21 r_22:Int) (out_23:List Named) (x_24:List UInt8) (x_25 x_26:Int) (kp0:Int→Int→Int→Int→Option R):Option R :=
 r9_reader_number N r_19 r_20 r_21 r_22 (fun r27 r28 r29 r30 =>
 if minus_18 = true then
 (kp0 r28 r29 r30 (IntKind.wrap .i64 (0 - r27)))
 else
 (kp0 r28 r29 r30 r27))
def r9_reader_named_c14 (N:Nat) (word_35:List UInt8) (r_36:List Token) (r_37 r_38 r_39:Int) (out_40:List Named) (x_41:List UInt8) (x_42 x_43:Int) (kp0:Int→Int→Int→(List Named)→Option R):Option R :=
 r9_reader_want N [59] r_36 r_37 r_38 r_39 (fun r44 r45 r46 =>
 if out_40.length + [(⟨x_41,x_42,x_43⟩:Named)].length ≤ maxRow then (kp0 r44 r45 r46 (out_40 ++ [(⟨x_41,x_42,x_43⟩:Named)])) else none)
def r9_reader_named_l0_b (N:Nat) (word_1:List UInt8) (r_2:List Token) (kp0:Int→Int→Int→(List Named)→Option R) (rec:Int→Int→Int→(List Named)→Option R) (r_3 r_4 r_5:Int) (out_6:List Named):Option R :=
 r9_reader_is N word_1 r_2 r_3 r_4 r_5 (fun r7 =>
 if r7 = true then
 ((at? r_2 (IntKind.wrap .i64 (r_3 + 1))).bind fun e8 =>
 r9_reader_name N r_2 (IntKind.wrap .i64 (r_3 + 1)) r_4 r_5 (fun r9 r10 r11 r12 =>
 if (word_1 == [118,97,114]) = true then
 (r9_reader_want N [61] r_2 r10 r11 r12 (fun r13 r14 r15 =>
 r9_reader_is N [45] r_2 r13 r14 r15 (fun r16 =>
 if r16 = true then
 (r9_reader_named_c11 N word_1 r16 r_2 (IntKind.wrap .i64 (r13 + 1)) r14 r15 out_6 r9 0 e8.At (fun y31 y32 y33 y34 =>
 r9_reader_named_c14 N word_1 r_2 y31 y32 y33 out_6 r9 y34 e8.At (fun y47 y48 y49 y50 =>
 rec y47 y48 y49 y50)))
 else
 (r9_reader_named_c11 N word_1 r16 r_2 r13 r14 r15 out_6 r9 0 e8.At (fun y51 y52 y53 y54 =>
 r9_reader_named_c14 N word_1 r_2 y51 y52 y53 out_6 r9 y54 e8.At (fun y55 y56 y57 y58 =>
 rec y55 y56 y57 y58))))))
 else
 (r9_reader_named_c14 N word_1 r_2 r10 r11 r12 out_6 r9 0 e8.At (fun y59 y60 y61 y62 =>
 rec y59 y60 y61 y62))))
 else
 (kp0 r_3 r_4 r_5 out_6))
def r9_reader_named_l0 (N:Nat) (word_1:List UInt8) (r_2:List Token) (kp0:Int→Int→Int→(List Named)→Option R):Nat→Int→Int→Int→(List Named)→Option R
 | 0=>fun _ _ _ _=>none
 | n + 1=>fun r_3 r_4 r_5 out_6=>r9_reader_named_l0_b N word_1 r_2 kp0 (r9_reader_named_l0 N word_1 r_2 kp0 n) r_3 r_4 r_5 out_6
def r9_reader_named (N:Nat) (word:List UInt8) (l:List Token) (at_ Code At:Int) (k0:(List Named)→Int→Int→Int→Option R):Option R :=
 r9_reader_named_l0 N word l (fun y63 y64 y65 y66 =>
 k0 y66 y63 y64 y65) N at_ Code At ([]:List Named)
def r9_reader_named_D (N:Nat):FD E0:={ f:=119,fn:=Tryz.f119,q:=⟨[.p 0 0 0,.st],[z2]⟩,loops:=[{ cur:=0,live:=[0,1,5],fix:=[(⟨5,[]⟩,.row .named .app)],out:=fun | .exit 0=>([5],[]) | _=>([],[]),q:=⟨[.p 0 0 0,.st,.sw 1],[z2,.rw .named .app]⟩,G:=fun R K n a b c d e g=>r9_reader_named_l0 N a b (pK ⟨[.sw 1],[z2,.rw .named .app]⟩ (K (.exit 0)) b) n c d e g,B:=fun R K rec a b c d e g=>r9_reader_named_l0_b N a b (pK ⟨[.sw 1],[z2,.rw .named .app]⟩ (K (.exit 0)) b) (rec a b) c d e g }],cuts:=[{ key:=11,live:=[0,1,5,6,7],fix:=[(⟨5,[]⟩,.row .named .app)],out:=fun | .normal=>([0,1,5,6],[]) | _=>([],[]),q:=⟨[.p 0 0 0,.st,.sw 1,.p 2 0 0,.b],[z2,.rw .named .app,.bx [.st,.i .i64,.i .i64]]⟩,G:=fun R K a b c d e g h i j l=>r9_reader_named_c11 N a b c d e g h i j l (fun m o p q=>pK ⟨[.p 0 0 0,.st,.sw 1,.p 2 0 0],[z2,.rw .named .app,.bx [.st,.i .i64,.i .i64]]⟩ (K .normal) a c m o p h i q l) },{ key:=14,live:=[0,1,5,6],out:=fun | .normal=>([0,1,5],[]) | _=>([],[]),q:=⟨[.p 0 0 0,.st,.sw 1,.p 2 0 0],[z2,.rw .named .app,.bx [.st,.i .i64,.i .i64]]⟩,G:=fun R K a b c d e g h i j=>r9_reader_named_c14 N a b c d e g h i j (pK ⟨[.p 0 0 0,.st,.sw 1],[z2,.rw .named .app]⟩ (K .normal) a b) }],g:=[r9_reader_want_S N,r9_reader_name_S N,r9_reader_number_S N,r9_reader_is_S N],exit:=[(⟨4,[]⟩,.tree .named)] }
def r9_reader_named_S (N:Nat):OC E0:=⟨_,FD.ct e0 (r9_reader_named_D N) N (fun R k a b c d e=>r9_reader_named N a b c d e (fun g=>oK ⟨.t .named,[z2],[]⟩ k g b))⟩
def z4:ShO S:=.bx [.i .i64,.st,.ns,.ns,.ns,.ns,.i .i64]
def y2:Sh S:=.ag [.i .i64,.st,.t .act,.t .act,.t .trans,.t .state,.i .i64]
def r9_reader_history_c4 (N:Nat) (r_3:List Token) (r_4 r_5 r_6 v_7:Int) (v_8:List UInt8) (v_9 s_10:Int) (s_11:List UInt8) (s_12:Int) (kp0:Int→Int→Int→(List UInt8)→Option R):Option R :=
 r9_reader_name N r_3 (IntKind.wrap .i64 (r_4 + 1)) r_5 r_6 (fun r13 r14 r15 r16 =>
 r9_reader_want N [59] r_3 r14 r15 r16 (fun r17 r18 r19 =>
 kp0 r17 r18 r19 r13))
def r9_reader_history (N:Nat) (l:List Token) (at_ Code At:Int) (k0:Int→(List UInt8)→(List Act)→(List Act)→(List Trans)→(List State)→Int→Int→Int→Int→Option R):Option R :=
 (at? l at_).bind fun e1 =>
 r9_reader_is N [100,101,101,112] l at_ Code At (fun r2 =>
 if r2 = true then
 (r9_reader_history_c4 N l at_ Code At 0 [] 0 4 [] e1.At (fun y20 y21 y22 y23 =>
 k0 4 y23 ([]:List Act) ([]:List Act) ([]:List Trans) ([]:List State) e1.At y20 y21 y22))
 else
 (r9_reader_history_c4 N l at_ Code At 0 [] 0 3 [] e1.At (fun y24 y25 y26 y27 =>
 k0 3 y27 ([]:List Act) ([]:List Act) ([]:List Trans) ([]:List State) e1.At y24 y25 y26)))
def r9_reader_history_D (N:Nat):FD E0:={ f:=162,fn:=Tryz.f162,q:=⟨[.p 0 0 0],[z2]⟩,cuts:=[{ key:=4,live:=[0,2,3],out:=fun | .ret=>([2],[]) | _=>([],[]),q:=⟨[.p 0 0 0,.p 1 0 0,.p 2 0 0],[z2,z4,z4]⟩,G:=fun R K a b c d e g h i j l=>r9_reader_history_c4 N a b c d e g h i j l (fun m o p q=>pK ⟨[.p 1 0 0],[z2,z4]⟩ (K .ret) a m o p i q l) }],g:=[r9_reader_want_S N,r9_reader_name_S N,r9_reader_is_S N],exit:=[(⟨2,[2]⟩,.tree .act),(⟨2,[3]⟩,.tree .act),(⟨2,[4]⟩,.tree .trans),(⟨2,[5]⟩,.tree .state)] }
def r9_reader_history_S (N:Nat):OC E0:=⟨_,FD.ct e0 (r9_reader_history_D N) N (fun R k a b c d=>r9_reader_history N a b c d (fun e g h i j l m=>oK ⟨y2,[z2],[]⟩ k e g h i j l m a))⟩
def y3:Sh S:=.tp [.i .i64,.ag [.i .i64,.i .i64]]
def r6_Want (N:Nat) (l:List Token) (at_:Int) (s:List UInt8) (k0:Int→Int→Int→Option R):Option R :=
 r6_Is N l at_ s (fun r1 =>
 if (!r1) = true then
 (r6_Bad N l at_ (fun r2 r3 =>
 k0 0 r2 r3))
 else
 (k0 (IntKind.wrap .i64 (at_ + 1)) 0 0))
def r6_Want_D (N:Nat):FD E0:={ f:=219,fn:=Tryz.f219,q:=⟨[.t .tok,.i .i64,.st],[]⟩,g:=[r6_Bad_S N,r6_Is_S N] }
def r6_Want_S (N:Nat):OC E0:=⟨_,FD.ct e0 (r6_Want_D N) N (fun R k a b c=>r6_Want N a b c (oK ⟨y3,[],[]⟩ k))⟩
def z5:ShO S:=.bx [.t .tok,.i .i64,.i .i64,.i .i64,.i .i64]
def r7_reader_is (N:Nat) (s:List UInt8) (l:List Token) (at_ open_ Code At:Int) (k0:Bool→Option R):Option R :=
 r6_Is N l at_ s (fun r1 =>
 k0 r1)
def r7_reader_is_D (N:Nat):FD E0:={ f:=222,fn:=Tryz.f222,q:=⟨[.p 0 0 0,.st],[z5]⟩,g:=[r6_Is_S N] }
def r7_reader_is_S (N:Nat):OC E0:=⟨_,FD.ctq e0 (r7_reader_is_D N) N (fun R k a b c d e g=>r7_reader_is N a b c d e g (oQ ⟨.b,[],[]⟩ k))⟩
def y4:Sh S:=.ag [.i .i64,.i .i64,.st,.t .expr,.i .i64]
def r7_reader_wrong (N:Nat) (l:List Token) (at_ open_ Code At:Int) (k0:Int→Int→(List UInt8)→(List Expr)→Int→Int→Int→Option R):Option R :=
 if (Code == 0) = true then
 (r6_Bad N l at_ (fun r1 r2 =>
 k0 0 0 [] ([]:List Expr) 0 r1 r2))
 else
 (k0 0 0 [] ([]:List Expr) 0 Code At)
def r7_reader_wrong_D (N:Nat):FD E0:={ f:=227,fn:=Tryz.f227,q:=⟨[.p 0 0 0],[z5]⟩,g:=[r6_Bad_S N],exit:=[(⟨2,[3]⟩,.tree .expr)] }
def r7_reader_wrong_S (N:Nat):OC E0:=⟨_,FD.ct e0 (r7_reader_wrong_D N) N (fun R k a b c d e=>r7_reader_wrong N a b c d e (fun g h i j l=>oK ⟨y4,[z5],[]⟩ k g h i j l a b c))⟩
def r7_reader_want (N:Nat) (s:List UInt8) (l:List Token) (at_ open_ Code At:Int) (k0:Int→Int→Int→Option R):Option R :=
 if (Code != 0) = true then
 (k0 at_ Code At)
 else
 (r7_reader_is N s l at_ open_ Code At (fun r1 =>
 if (!r1) = true then
 (r7_reader_wrong N l at_ open_ Code At (fun r2 r3 r4 r5 r6 r7 r8 =>
 k0 at_ r7 r8))
 else
 (k0 (IntKind.wrap .i64 (at_ + 1)) Code At)))
def r7_reader_want_D (N:Nat):FD E0:={ f:=226,fn:=Tryz.f226,q:=⟨[.p 0 0 0,.st],[z5]⟩,g:=[r7_reader_is_S N,r7_reader_wrong_S N] }
def r7_reader_want_S (N:Nat):OC E0:=⟨_,FD.ct e0 (r7_reader_want_D N) N (fun R k a b c d e g=>r7_reader_want N a b c d e g (fun h=>oK ⟨.tp [],[z5],[]⟩ k b h d))⟩
def r7_reader_enter (N:Nat) (l:List Token) (at_ open_ Code At:Int) (k0:Bool→Int→Int→Int→Int→Option R):Option R :=
 if (open_ == 12) = true then
 ((at? l at_).bind fun e1 =>
 k0 false at_ open_ 14 e1.At)
 else
 (k0 true (IntKind.wrap .i64 (at_ + 1)) (IntKind.wrap .i64 (open_ + 1)) Code At)
def r7_reader_enter_D (N:Nat):FD E0:={ f:=224,fn:=Tryz.f224,q:=⟨[.p 0 0 0],[z5]⟩ }
def r7_reader_enter_S (N:Nat):OC E0:=⟨_,FD.ct e0 (r7_reader_enter_D N) N (fun R k a b c d e=>r7_reader_enter N a b c d e (fun g=>oK ⟨.b,[z5],[]⟩ k g a))⟩
def r7_at (N:Nat) (level own kind:Int) (k0:Int→Option R):Option R :=
 if (level == own) = true then
 (k0 kind)
 else
 (k0 0)
def r7_at_D (N:Nat):FD E0:={ f:=225,fn:=Tryz.f225,q:=⟨[.i .i64,.i .i64,.i .i64],[]⟩ }
def r7_at_S (N:Nat):OC E0:=⟨_,FD.ct e0 (r7_at_D N) N (fun R k a b c=>r7_at N a b c (oK ⟨.i .i64,[],[]⟩ k))⟩
def r7_kind (N:Nat) (level:Int) (s:List UInt8) (k0:Int→Option R):Option R :=
 if (s == [124,124]) = true then
 (r7_at N level 1 19 (fun r1 =>
 k0 r1))
 else
 (if (s == [38,38]) = true then
 (r7_at N level 2 18 (fun r2 =>
 k0 r2))
 else
 (if (s == [60]) = true then
 (r7_at N level 3 12 (fun r3 =>
 k0 r3))
 else
 (if (s == [60,61]) = true then
 (r7_at N level 3 13 (fun r4 =>
 k0 r4))
 else
 (if (s == [62]) = true then
 (r7_at N level 3 14 (fun r5 =>
 k0 r5))
 else
 (if (s == [62,61]) = true then
 (r7_at N level 3 15 (fun r6 =>
 k0 r6))
 else
 (if (s == [61,61]) = true then
 (r7_at N level 3 16 (fun r7 =>
 k0 r7))
 else
 (if (s == [33,61]) = true then
 (r7_at N level 3 17 (fun r8 =>
 k0 r8))
 else
 (if (s == [43]) = true then
 (r7_at N level 4 10 (fun r9 =>
 k0 r9))
 else
 (if (s == [45]) = true then
 (r7_at N level 4 11 (fun r10 =>
 k0 r10))
 else
 (if (s == [42]) = true then
 (r7_at N level 5 7 (fun r11 =>
 k0 r11))
 else
 (if (s == [47]) = true then
 (r7_at N level 5 8 (fun r12 =>
 k0 r12))
 else
 (if (s == [37]) = true then
 (r7_at N level 5 9 (fun r13 =>
 k0 r13))
 else
 (k0 0)))))))))))))
def r7_kind_D (N:Nat):FD E0:={ f:=221,fn:=Tryz.f221,q:=⟨[.i .i64,.st],[]⟩,g:=[r7_at_S N] }
def r7_kind_S (N:Nat):OC E0:=⟨_,FD.ct e0 (r7_kind_D N) N (fun R k a b=>r7_kind N a b (oK ⟨.i .i64,[],[]⟩ k))⟩
structure Fam_r7_reader_binary where
 r7_reader_binary:(R:Type)→Int→(List Token)→Int→Int→Int→Int→(Int→Int→(List UInt8)→(List Expr)→Int→Int→Int→Int→Int→Option R)→Option R
 r7_reader_unary:(R:Type)→(List Token)→Int→Int→Int→Int→(Int→Int→(List UInt8)→(List Expr)→Int→Int→Int→Int→Int→Option R)→Option R
 r7_reader_prim:(R:Type)→(List Token)→Int→Int→Int→Int→(Int→Int→(List UInt8)→(List Expr)→Int→Int→Int→Int→Int→Option R)→Option R
def r7_reader_binary_q:Pat S:=⟨[.p 0 0 0,.i .i64],[z5]⟩
def r7_reader_binary_C (F:Fam_r7_reader_binary):Ct S:=⟨214,r7_reader_binary_q,fun R k a b c d e g=>F.r7_reader_binary R a b c d e g (fun h i j l m=>oK ⟨y4,[z5],[]⟩ k h i j l m b)⟩
def r7_reader_unary_q:Pat S:=⟨[.p 0 0 0],[z5]⟩
def r7_reader_unary_C (F:Fam_r7_reader_binary):Ct S:=⟨220,r7_reader_unary_q,fun R k a b c d e=>F.r7_reader_unary R a b c d e (fun g h i j l=>oK ⟨y4,[z5],[]⟩ k g h i j l a)⟩
def r7_reader_prim_q:Pat S:=⟨[.p 0 0 0],[z5]⟩
def r7_reader_prim_C (F:Fam_r7_reader_binary):Ct S:=⟨223,r7_reader_prim_q,fun R k a b c d e=>F.r7_reader_prim R a b c d e (fun g h i j l=>oK ⟨y4,[z5],[]⟩ k g h i j l a)⟩
structure Fam_r7_reader_binary_ok (F:Fam_r7_reader_binary):Prop where
 r7_reader_binary:(r7_reader_binary_C F).ok E0
 r7_reader_unary:(r7_reader_unary_C F).ok E0
 r7_reader_prim:(r7_reader_prim_C F).ok E0
def z6:ShO S:=.bx [.i .i64,.i .i64,.st,.ns,.i .i64]
def z7:ShO S:=.bx [.i .i64,.i .i64,.st,.t .expr,.i .i64]
def z8:ShO S:=.bx [.i .i64,.i .i64,.st,.sw 2,.i .i64]
def r7_reader_binary_l0_b (F:Fam_r7_reader_binary) (N:Nat) (level_49:Int) (r_50:List Token) (v_55 v_56:Int) (v_57:List UInt8) (v_58:Int) (kp0 kp1:Int→Int→Int→Int→Int→Int→(List UInt8)→(List Expr)→Int→Option R) (kp2:Int→Int→Int→Int→Int→Int→(List UInt8)→Int→(List Expr)→Option R) (rec:Int→Int→Int→Int→Int→Int→(List UInt8)→(List Expr)→Int→Option R) (r_51 r_52 r_53 r_54 e_59 e_60:Int) (e_61:List UInt8) (e_62:List Expr) (e_63:Int):Option R :=
 (ifB (r_53 == 0) true (some (decide (r_51 < ((r_50.length:Nat):Int)))) (some false)).bind fun c64 =>
 (ifB c64 true ((at? r_50 r_51).bind fun e65 =>
 some (e65.Kind == 3)) (some false)).bind fun c66 =>
 if c66 = true then
 ((at? r_50 r_51).bind fun e67 =>
 r7_kind N level_49 e67.Text (fun r68 =>
 if (r68 == 0) = true then
 (kp1 r_51 r_52 r_53 r_54 e_59 e_60 e_61 e_62 e_63)
 else
 ((at? r_50 r_51).bind fun e69 =>
 F.r7_reader_binary _ (IntKind.wrap .i64 (level_49 + 1)) r_50 (IntKind.wrap .i64 (r_51 + 1)) r_52 r_53 r_54 (fun r70 r71 r72 r73 r74 r75 r76 r77 r78 =>
 if (level_49 == 3) = true then
 (kp2 r75 r76 r77 r78 r68 0 [] e69.At [(⟨e_59,e_60,e_61,e_62,e_63⟩:Expr),(⟨r70,r71,r72,r73,r74⟩:Expr)])
 else
 (rec r75 r76 r77 r78 r68 0 [] [(⟨e_59,e_60,e_61,e_62,e_63⟩:Expr),(⟨r70,r71,r72,r73,r74⟩:Expr)] e69.At)))))
 else
 (kp0 r_51 r_52 r_53 r_54 e_59 e_60 e_61 e_62 e_63)
def r7_reader_binary_l0 (F:Fam_r7_reader_binary) (N:Nat) (level_49:Int) (r_50:List Token) (v_55 v_56:Int) (v_57:List UInt8) (v_58:Int) (kp0 kp1:Int→Int→Int→Int→Int→Int→(List UInt8)→(List Expr)→Int→Option R) (kp2:Int→Int→Int→Int→Int→Int→(List UInt8)→Int→(List Expr)→Option R):Nat→Int→Int→Int→Int→Int→Int→(List UInt8)→(List Expr)→Int→Option R
 | 0=>fun _ _ _ _ _ _ _ _ _=>none
 | n + 1=>fun r_51 r_52 r_53 r_54 e_59 e_60 e_61 e_62 e_63=>r7_reader_binary_l0_b F N level_49 r_50 v_55 v_56 v_57 v_58 kp0 kp1 kp2 (r7_reader_binary_l0 F N level_49 r_50 v_55 v_56 v_57 v_58 kp0 kp1 kp2 n) r_51 r_52 r_53 r_54 e_59 e_60 e_61 e_62 e_63
def r7_reader_binary_d (F:Fam_r7_reader_binary) (N:Nat) (level:Int) (l:List Token) (at_ open_ Code At:Int) (k0:Int→Int→(List UInt8)→(List Expr)→Int→Int→Int→Int→Int→Option R):Option R :=
 if (level == 6) = true then
 (F.r7_reader_unary _ l at_ open_ Code At (fun r1 r2 r3 r4 r5 r6 r7 r8 r9 =>
 k0 r1 r2 r3 r4 r5 r6 r7 r8 r9))
 else
 (F.r7_reader_binary _ (IntKind.wrap .i64 (level + 1)) l at_ open_ Code At (fun r10 r11 r12 r13 r14 r15 r16 r17 r18 =>
 r7_reader_binary_l0 F N level l 0 0 [] 0 (fun y79 y80 y81 y82 y83 y84 y85 y86 y87 =>
 k0 y83 y84 y85 y86 y87 y79 y80 y81 y82)
 (fun y88 y89 y90 y91 y92 y93 y94 y95 y96 =>
 k0 y92 y93 y94 y95 y96 y88 y89 y90 y91)
 (fun y97 y98 y99 y100 y101 y102 y103 y104 y105 =>
 k0 y101 y102 y103 y105 y104 y97 y98 y99 y100) N r15 r16 r17 r18 r10 r11 r12 r13 r14))
def r7_reader_binary_D (F:Fam_r7_reader_binary) (hF:Fam_r7_reader_binary_ok F) (N:Nat):FD E0:={ f:=214,fn:=Tryz.f214,q:=r7_reader_binary_q,loops:=[{ cur:=0,live:=[0,1,4,5],fix:=[(⟨5,[3]⟩,.tree .expr)],out:=fun | .exit 0=>([4,5],[]) | .ret=>([4],[]) | _=>([],[]),q:=⟨[.p 0 0 0,.i .i64,.p 1 0 0,.p 2 0 0],[z5,z6,z7]⟩,G:=fun R K n a b c d e g h i j l m o p q s=>r7_reader_binary_l0 F N a b h i j l (fun t u v w=>pK ⟨[.p 1 0 0,.p 2 0 0],[z5,z6,z7]⟩ (K (.exit 0)) b t u v w h i j l) (pK ⟨[.p 1 0 0],[z5,z7]⟩ (K .ret) b) (pK ⟨[.p 1 0 0],[z5,z8,.rw .expr .app]⟩ (K .ret) b) n c d e g m o p q s,B:=fun R K rec a b c d e g h i j l m o p q s=>r7_reader_binary_l0_b F N a b h i j l (fun t u v w=>pK ⟨[.p 1 0 0,.p 2 0 0],[z5,z6,z7]⟩ (K (.exit 0)) b t u v w h i j l) (pK ⟨[.p 1 0 0],[z5,z7]⟩ (K .ret) b) (pK ⟨[.p 1 0 0],[z5,z8,.rw .expr .app]⟩ (K .ret) b) (fun c d e g m o p q s=>rec a b c d e g h i j l m o p q s) c d e g m o p q s }],g:=[⟨r7_reader_binary_C F,hF.r7_reader_binary⟩,⟨r7_reader_unary_C F,hF.r7_reader_unary⟩,r7_kind_S N],exit:=[(⟨4,[3]⟩,.tree .expr)] }
theorem r7_reader_binary_okF (F:Fam_r7_reader_binary) (hF:Fam_r7_reader_binary_ok F) (N:Nat):Ct.ok E0 ⟨(r7_reader_binary_D F hF N).f,(r7_reader_binary_D F hF N).q,fun R k a b c d e g=>r7_reader_binary_d F N a b c d e g (fun h i j l m=>oK ⟨y4,[z5],[]⟩ k h i j l m b)⟩:=FD.ct e0 (r7_reader_binary_D F hF N) N (fun R k a b c d e g=>r7_reader_binary_d F N a b c d e g (fun h i j l m=>oK ⟨y4,[z5],[]⟩ k h i j l m b))
def r7_reader_unary_c6 (F:Fam_r7_reader_binary) (N:Nat) (k_13:Int) (r_14:List Token) (r_15 r_16 r_17 r_18 v_19 v_20:Int) (v_21:List UInt8) (v_22:Int) (kp0:Int→Int→Int→Int→Int→Int→(List UInt8)→(List Expr)→Int→Option R) (kp1:Int→Int→Int→Int→Int→Int→(List UInt8)→Int→Option R) (kp2:Int→Int→Int→Int→Int→(List UInt8)→Int→(List Expr)→Option R):Option R :=
 if (k_13 == 0) = true then
 (F.r7_reader_prim _ r_14 r_15 r_16 r_17 r_18 (fun r23 r24 r25 r26 r27 r28 r29 r30 r31 =>
 kp0 r28 r29 r30 r31 r23 r24 r25 r26 r27))
 else
 ((at? r_14 r_15).bind fun e32 =>
 r7_reader_enter N r_14 r_15 r_16 r_17 r_18 (fun r33 r34 r35 r36 r37 =>
 if (!r33) = true then
 (kp1 r34 r35 r36 r37 0 0 [] 0)
 else
 (F.r7_reader_unary _ r_14 r34 r35 r36 r37 (fun r38 r39 r40 r41 r42 r43 r44 r45 r46 =>
 kp2 r43 (IntKind.wrap .i64 (r44 - 1)) r45 r46 0 [] e32.At [(⟨r38,r39,r40,r41,r42⟩:Expr)]))))
def r7_reader_unary_c4 (F:Fam_r7_reader_binary) (N:Nat) (k_2:Int) (r_3:List Token) (r_4 r_5 r_6 r_7 v_8 v_9:Int) (v_10:List UInt8) (v_11:Int) (kp0:Int→Int→Int→Int→Int→Int→(List UInt8)→(List Expr)→Int→Option R) (kp1:Int→Int→Int→Int→Int→Int→(List UInt8)→Int→Option R) (kp2:Int→Int→Int→Int→Int→Int→(List UInt8)→Int→(List Expr)→Option R):Option R :=
 r7_reader_is N [33] r_3 r_4 r_5 r_6 r_7 (fun r12 =>
 if r12 = true then
 (r7_reader_unary_c6 F N 6 r_3 r_4 r_5 r_6 r_7 v_8 v_9 v_10 v_11 (fun y47 y48 y49 y50 y51 y52 y53 y54 y55 =>
 kp0 y47 y48 y49 y50 y51 y52 y53 y54 y55)
 (fun y56 y57 y58 y59 y60 y61 y62 y63 =>
 kp1 y56 y57 y58 y59 y60 y61 y62 y63)
 (fun y64 y65 y66 y67 y68 y69 y70 y71 =>
 kp2 y64 y65 y66 y67 6 y68 y69 y70 y71))
 else
 (r7_reader_unary_c6 F N k_2 r_3 r_4 r_5 r_6 r_7 v_8 v_9 v_10 v_11 (fun y72 y73 y74 y75 y76 y77 y78 y79 y80 =>
 kp0 y72 y73 y74 y75 y76 y77 y78 y79 y80)
 (fun y81 y82 y83 y84 y85 y86 y87 y88 =>
 kp1 y81 y82 y83 y84 y85 y86 y87 y88)
 (fun y89 y90 y91 y92 y93 y94 y95 y96 =>
 kp2 y89 y90 y91 y92 k_2 y93 y94 y95 y96)))
def r7_reader_unary_d (F:Fam_r7_reader_binary) (N:Nat) (l:List Token) (at_ open_ Code At:Int) (k0:Int→Int→(List UInt8)→(List Expr)→Int→Int→Int→Int→Int→Option R):Option R :=
 r7_reader_is N [45] l at_ open_ Code At (fun r1 =>
 if r1 = true then
 (r7_reader_unary_c4 F N 5 l at_ open_ Code At 0 0 [] 0 (fun y97 y98 y99 y100 y101 y102 y103 y104 y105 =>
 k0 y101 y102 y103 y104 y105 y97 y98 y99 y100)
 (fun y106 y107 y108 y109 y110 y111 y112 y113 =>
 k0 y110 y111 y112 ([]:List Expr) y113 y106 y107 y108 y109)
 (fun y114 y115 y116 y117 y118 y119 y120 y121 y122 =>
 k0 y118 y119 y120 y122 y121 y114 y115 y116 y117))
 else
 (r7_reader_unary_c4 F N 0 l at_ open_ Code At 0 0 [] 0 (fun y123 y124 y125 y126 y127 y128 y129 y130 y131 =>
 k0 y127 y128 y129 y130 y131 y123 y124 y125 y126)
 (fun y132 y133 y134 y135 y136 y137 y138 y139 =>
 k0 y136 y137 y138 ([]:List Expr) y139 y132 y133 y134 y135)
 (fun y140 y141 y142 y143 y144 y145 y146 y147 y148 =>
 k0 y144 y145 y146 y148 y147 y140 y141 y142 y143)))
def r7_reader_unary_D (F:Fam_r7_reader_binary) (hF:Fam_r7_reader_binary_ok F) (N:Nat):FD E0:={ f:=220,fn:=Tryz.f220,q:=r7_reader_unary_q,cuts:=[{ key:=6,live:=[0,2,3],out:=fun | .ret=>([2],[]) | _=>([],[]),q:=⟨[.p 0 0 0,.p 1 0 0,.i .i64],[z5,z6]⟩,G:=fun R K a b c d e g h i j l=>r7_reader_unary_c6 F N a b c d e g h i j l (pK ⟨[.p 1 0 0],[z5,z7]⟩ (K .ret) b) (pK ⟨[.p 1 0 0],[z5,z6]⟩ (K .ret) b) (fun m o p q=>pK ⟨[.p 1 0 0],[z5,z8,.rw .expr .app]⟩ (K .ret) b m o p q a) },{ key:=4,live:=[0,2,3],out:=fun | .ret=>([2],[]) | _=>([],[]),q:=⟨[.p 0 0 0,.p 1 0 0,.i .i64],[z5,z6]⟩,G:=fun R K a b c d e g h i j l=>r7_reader_unary_c4 F N a b c d e g h i j l (pK ⟨[.p 1 0 0],[z5,z7]⟩ (K .ret) b) (pK ⟨[.p 1 0 0],[z5,z6]⟩ (K .ret) b) (pK ⟨[.p 1 0 0],[z5,z8,.rw .expr .app]⟩ (K .ret) b) }],g:=[⟨r7_reader_unary_C F,hF.r7_reader_unary⟩,r7_reader_is_S N,⟨r7_reader_prim_C F,hF.r7_reader_prim⟩,r7_reader_enter_S N],exit:=[(⟨2,[3]⟩,.tree .expr)] }
theorem r7_reader_unary_okF (F:Fam_r7_reader_binary) (hF:Fam_r7_reader_binary_ok F) (N:Nat):Ct.ok E0 ⟨(r7_reader_unary_D F hF N).f,(r7_reader_unary_D F hF N).q,fun R k a b c d e=>r7_reader_unary_d F N a b c d e (fun g h i j l=>oK ⟨y4,[z5],[]⟩ k g h i j l a)⟩:=FD.ct e0 (r7_reader_unary_D F hF N) N (fun R k a b c d e=>r7_reader_unary_d F N a b c d e (fun g h i j l=>oK ⟨y4,[z5],[]⟩ k g h i j l a))
end
end So
