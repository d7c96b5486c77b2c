/- T2_3: a part of the proof of SoundCerts: lemmas on the evaluator and on the functions that the law reaches. -/
import Derived.Test.YtcllbmdpckfnhaaGreatT22
set_option maxRecDepth 100000
set_option linter.unusedVariables false
namespace So
open Go TE Go.Proofs
noncomputable section
variable {R:Type}
def mv (F:av) (N:Nat) (deep_18:Int) (v_19:Bool) (r_20:List Token) (r_21 r_22 r_23:Int) (out_24:List State) (kp0:Int→Int→Int→(List State)→Option R):Option R :=
 if v_19 = true then
 (kK N r_20 r_21 r_22 r_23 (fun r25 r26 r27 r28 r29 r30 r31 r32 r33 r34 =>
 if out_24.length + [(⟨r25,r26,r27,r28,r29,r30,r31⟩:State)].length ≤ ak then (kp0 r32 r33 r34 (out_24 ++ [(⟨r25,r26,r27,r28,r29,r30,r31⟩:State)])) else none))
 else
 (F.r9_reader_state _ deep_18 r_20 r_21 r_22 r_23 (fun r35 r36 r37 r38 r39 r40 r41 r42 r43 r44 =>
 if out_24.length + [(⟨r35,r36,r37,r38,r39,r40,r41⟩:State)].length ≤ ak then (kp0 r42 r43 r44 (out_24 ++ [(⟨r35,r36,r37,r38,r39,r40,r41⟩:State)])) else none))
def kC (F:av) (N:Nat) (deep_1:Int) (r_2:List Token) (kp0:Int→Int→Int→(List State)→Option R) (kp1:Int→Int→Int→Option R) (rec:Int→Int→Int→(List State)→Option R) (r_3 r_4 r_5:Int) (out_6:List State):Option R :=
 aW N [115,116,97,116,101] r_2 r_3 r_4 r_5 (fun r7 =>
 (ifB r7 false (aW N [112,97,114,97,108,108,101,108] r_2 r_3 r_4 r_5 (fun r8 =>
 some r8)) (some true)).bind fun c9 =>
 (ifB c9 false (aW N [104,105,115,116,111,114,121] r_2 r_3 r_4 r_5 (fun r10 =>
 some r10)) (some true)).bind fun c11 =>
 (ifB c11 false (aW N [100,101,101,112] r_2 r_3 r_4 r_5 (fun r12 =>
 some r12)) (some true)).bind fun c13 =>
 if c13 = true then
 (if (decide (deep_1 > 12)) = true then
 ((at? r_2 r_3).bind fun e14 =>
 kp1 r_3 14 e14.At)
 else
 (aW N [104,105,115,116,111,114,121] r_2 r_3 r_4 r_5 (fun r15 =>
 (ifB r15 false (aW N [100,101,101,112] r_2 r_3 r_4 r_5 (fun r16 =>
 some r16)) (some true)).bind fun c17 =>
 mv F N deep_1 c17 r_2 r_3 r_4 r_5 out_6 (fun y45 y46 y47 y48 =>
 rec y45 y46 y47 y48))))
 else
 (kp0 r_3 r_4 r_5 out_6))
def ej (F:av) (N:Nat) (deep_1:Int) (r_2:List Token) (kp0:Int→Int→Int→(List State)→Option R) (kp1:Int→Int→Int→Option R):Nat→Int→Int→Int→(List State)→Option R
 | 0=>fun _ _ _ _=>none
 | n + 1=>fun r_3 r_4 r_5 out_6=>kC F N deep_1 r_2 kp0 kp1 (ej F N deep_1 r_2 kp0 kp1 n) r_3 r_4 r_5 out_6
def gK (F:av) (N:Nat) (deep:Int) (l:List Token) (at_ Code At:Int) (k0:(List State)→Int→Int→Int→Option R):Option R :=
 ej F N deep l (fun y49 y50 y51 y52 =>
 k0 y52 y49 y50 y51)
 (fun y53 y54 y55 =>
 k0 ([]:List State) y53 y54 y55) N at_ Code At ([]:List State)
def ny (F:av) (hF:dw F) (N:Nat):FD E0:={ f:=120,fn:=Tryz.f120,q:=rS,loops:=[{ cur:=0,live:=[0,1,5],fix:=[(⟨5,[]⟩,.row .state .app)],out:=fun | .exit 0=>([5],[]) | .ret=>([4],[]) | _=>([],[]),q:=⟨[.p 0 0 0,.i .i64,.sw 1],[z2,.rw .state .app]⟩,G:=fun R K n a b c d e g=>ej F N a b (pK ⟨[.sw 1],[z2,.rw .state .app]⟩ (K (.exit 0)) b) (pK ⟨[.ns],[z2]⟩ (K .ret) b) n c d e g,B:=fun R K rec a b c d e g=>kC F N a b (pK ⟨[.sw 1],[z2,.rw .state .app]⟩ (K (.exit 0)) b) (pK ⟨[.ns],[z2]⟩ (K .ret) b) (rec a b) c d e g }],cuts:=[{ key:=7,live:=[0,1,5,42],fix:=[(⟨5,[]⟩,.row .state .app)],out:=fun | .normal=>([0,1,5],[]) | _=>([],[]),q:=⟨[.p 0 0 0,.i .i64,.sw 1,.b],[z2,.rw .state .app]⟩,G:=fun R K a b c d e g h=>mv F N a b c d e g h (pK ⟨[.p 0 0 0,.i .i64,.sw 1],[z2,.rw .state .app]⟩ (K .normal) a c) }],g:=[kX N,yV N,⟨tz F,hF.r9_reader_state⟩],exit:=[(⟨4,[]⟩,.tree .state)] }
theorem xC (F:av) (hF:dw F) (N:Nat):Ct.ok E0 ⟨(ny F hF N).f,(ny F hF N).q,fun R k a b c d e=>gK F N a b c d e (fun g=>oK ⟨.t .state,[z2],[]⟩ k g b)⟩:=FD.ct e0 (ny F hF N) N (fun R k a b c d e=>gK F N a b c d e (fun g=>oK ⟨.t .state,[z2],[]⟩ k g b))
def z14:ShO S:=.bx [.i .i64,.st,.t .act,.t .act,.sw 3,.ns,.i .i64]
def z15:ShO S:=.bx [.i .i64,.st,.t .act,.t .act,.sw 2,.t .state,.i .i64]
def z16:ShO S:=.bx [.i .i64,.st,.t .act,.t .act,.ns,.ns,.i .i64]
def z17:ShO S:=.bx [.i .i64,.st,.t .act,.ns,.ns,.ns,.i .i64]
def kZ (F:av) (N:Nat) (deep_56:Int) (r_57:List Token) (v_61:Int) (v_62:List UInt8) (v_63 s_64:Int) (s_65:List UInt8) (s_66 s_67:List Act) (s_68:Int) (kp0:Int→Int→Int→(List Trans)→Option R) (rec:Int→Int→Int→(List Trans)→Option R) (r_58 r_59 r_60:Int) (o_69:List Trans):Option R :=
 aW N [111,110] r_57 r_58 r_59 r_60 (fun r70 =>
 (ifB r70 false (aW N [97,117,116,111] r_57 r_58 r_59 r_60 (fun r71 =>
 some r71)) (some true)).bind fun c72 =>
 if c72 = true then
 (mW N r_57 r_58 r_59 r_60 (fun r73 r74 r75 r76 r77 r78 r79 r80 =>
 if o_69.length + [(⟨r73,r74,r75,r76,r77⟩:Trans)].length ≤ ak then (rec r78 r79 r80 (o_69 ++ [(⟨r73,r74,r75,r76,r77⟩:Trans)])) else none))
 else
 (kp0 r_58 r_59 r_60 o_69))
def gL (F:av) (N:Nat) (deep_56:Int) (r_57:List Token) (v_61:Int) (v_62:List UInt8) (v_63 s_64:Int) (s_65:List UInt8) (s_66 s_67:List Act) (s_68:Int) (kp0:Int→Int→Int→(List Trans)→Option R):Nat→Int→Int→Int→(List Trans)→Option R
 | 0=>fun _ _ _ _=>none
 | n + 1=>fun r_58 r_59 r_60 o_69=>kZ F N deep_56 r_57 v_61 v_62 v_63 s_64 s_65 s_66 s_67 s_68 kp0 (gL F N deep_56 r_57 v_61 v_62 v_63 s_64 s_65 s_66 s_67 s_68 kp0 n) r_58 r_59 r_60 o_69
def fY (F:av) (N:Nat) (deep_43:Int) (r_44:List Token) (r_45 r_46 r_47 v_48:Int) (v_49:List UInt8) (v_50 s_51:Int) (s_52:List UInt8) (s_53 s_54:List Act) (s_55:Int) (kp0:Int→Int→Int→(List State)→(List Trans)→Option R):Option R :=
 gL F N deep_43 r_44 v_48 v_49 v_50 s_51 s_52 s_53 s_54 s_55 (fun y81 y82 y83 y84 =>
 F.r9_reader_states _ (IntKind.wrap .i64 (deep_43 + 1)) r_44 y81 y82 y83 (fun r85 r86 r87 r88 =>
 bm N [125] r_44 r86 r87 r88 (fun r89 r90 r91 =>
 kp0 r89 r90 r91 r85 y84))) N r_45 r_46 r_47 ([]:List Trans)
def fZ (F:av) (N:Nat) (deep_26:Int) (r_27:List Token) (r_28 r_29 r_30 v_31:Int) (v_32:List UInt8) (v_33 s_34:Int) (s_35:List UInt8) (s_36:List Act) (s_37:Int) (kp0:Int→Int→Int→(List Act)→(List State)→(List Trans)→Option R):Option R :=
 aW N [101,120,105,116] r_27 r_28 r_29 r_30 (fun r38 =>
 if r38 = true then
 (ic N r_27 (IntKind.wrap .i64 (r_28 + 1)) r_29 r_30 (fun r39 r40 r41 r42 =>
 fY F N deep_26 r_27 r40 r41 r42 v_31 v_32 v_33 s_34 s_35 s_36 r39 s_37 (fun y92 y93 y94 y95 y96 =>
 kp0 y92 y93 y94 r39 y95 y96)))
 else
 (fY F N deep_26 r_27 r_28 r_29 r_30 v_31 v_32 v_33 s_34 s_35 s_36 ([]:List Act) s_37 (fun y97 y98 y99 y100 y101 =>
 kp0 y97 y98 y99 ([]:List Act) y100 y101)))
def gM (F:av) (N:Nat) (deep_3:Int) (r_4:List Token) (r_5 r_6 r_7 v_8:Int) (v_9:List UInt8) (v_10 s_11:Int) (s_12:List UInt8) (s_13:Int) (kp0:Int→Int→Int→(List UInt8)→(List Act)→(List Act)→(List State)→(List Trans)→Option R):Option R :=
 dJ N r_4 (IntKind.wrap .i64 (r_5 + 1)) r_6 r_7 (fun r14 r15 r16 r17 =>
 bm N [123] r_4 r15 r16 r17 (fun r18 r19 r20 =>
 aW N [101,110,116,114,121] r_4 r18 r19 r20 (fun r21 =>
 if r21 = true then
 (ic N r_4 (IntKind.wrap .i64 (r18 + 1)) r19 r20 (fun r22 r23 r24 r25 =>
 fZ F N deep_3 r_4 r23 r24 r25 v_8 v_9 v_10 s_11 r14 r22 s_13 (fun y102 y103 y104 y105 y106 y107 =>
 kp0 y102 y103 y104 r14 r22 y105 y106 y107)))
 else
 (fZ F N deep_3 r_4 r18 r19 r20 v_8 v_9 v_10 s_11 r14 ([]:List Act) s_13 (fun y108 y109 y110 y111 y112 y113 =>
 kp0 y108 y109 y110 r14 ([]:List Act) y111 y112 y113)))))
def iv (F:av) (N:Nat) (deep:Int) (l:List Token) (at_ Code At:Int) (k0:Int→(List UInt8)→(List Act)→(List Act)→(List Trans)→(List State)→Int→Int→Int→Int→Option R):Option R :=
 (at? l at_).bind fun e1 =>
 aW N [112,97,114,97,108,108,101,108] l at_ Code At (fun r2 =>
 if r2 = true then
 (gM F N deep l at_ Code At 0 [] 0 2 [] e1.At (fun y114 y115 y116 y117 y118 y119 y120 y121 =>
 k0 2 y117 y118 y119 y121 y120 e1.At y114 y115 y116))
 else
 (gM F N deep l at_ Code At 0 [] 0 1 [] e1.At (fun y122 y123 y124 y125 y126 y127 y128 y129 =>
 k0 1 y125 y126 y127 y129 y128 e1.At y122 y123 y124)))
def oo (F:av) (hF:dw F) (N:Nat):FD E0:={ f:=163,fn:=Tryz.f163,q:=tx,loops:=[{ cur:=0,live:=[0,1,4,5],fix:=[(⟨5,[4]⟩,.row .trans .app)],out:=fun | .exit 0=>([0,1,4,5],[]) | _=>([],[]),q:=⟨[.p 0 0 0,.i .i64,.p 1 0 0,.p 2 0 0],[z2,z4,z14,.rw .trans .app]⟩,G:=fun R K n a b c d e g h i j l m o p q=>gL F N a b g h i j l m o p (fun s t u=>pK ⟨[.p 0 0 0,.i .i64,.p 1 0 0,.p 2 0 0],[z2,z4,z14,.rw .trans .app]⟩ (K (.exit 0)) a b s t u g h i j l m o p) n c d e q,B:=fun R K rec a b c d e g h i j l m o p q=>kZ F N a b g h i j l m o p (fun s t u=>pK ⟨[.p 0 0 0,.i .i64,.p 1 0 0,.p 2 0 0],[z2,z4,z14,.rw .trans .app]⟩ (K (.exit 0)) a b s t u g h i j l m o p) (fun c d e q=>rec a b c d e g h i j l m o p q) c d e q }],cuts:=[{ key:=13,live:=[0,1,4,5],fix:=[(⟨5,[3]⟩,.tree .act)],out:=fun | .ret=>([4],[]) | _=>([],[]),q:=⟨[.p 0 0 0,.i .i64,.p 1 0 0,.p 2 0 0],[z2,z4,z16]⟩,G:=fun R K a b c d e g h i j l m o p=>fY F N a b c d e g h i j l m o p (fun q s t u=>pK ⟨[.p 1 0 0],[z2,z15,.rw .trans .app]⟩ (K .ret) b q s t j l m o u p) },{ key:=10,live:=[0,1,4,5],fix:=[(⟨5,[2]⟩,.tree .act)],out:=fun | .ret=>([4],[]) | _=>([],[]),q:=⟨[.p 0 0 0,.i .i64,.p 1 0 0,.p 2 0 0],[z2,z4,z17]⟩,G:=fun R K a b c d e g h i j l m o=>fZ F N a b c d e g h i j l m o (fun p q s t u=>pK ⟨[.p 1 0 0],[z2,z15,.rw .trans .app]⟩ (K .ret) b p q s j l m t u o) },{ key:=4,live:=[0,1,4,5],out:=fun | .ret=>([4],[]) | _=>([],[]),q:=⟨[.p 0 0 0,.i .i64,.p 1 0 0,.p 2 0 0],[z2,z4,z4]⟩,G:=fun R K a b c d e g h i j l m=>gM F N a b c d e g h i j l m (fun o p q s t u v=>pK ⟨[.p 1 0 0],[z2,z15,.rw .trans .app]⟩ (K .ret) b o p q j s t u v m) }],g:=[gx N,je N,⟨nw F,hF.r9_reader_states⟩,kX N,tw N,AX N],exit:=[(⟨4,[2]⟩,.tree .act),(⟨4,[3]⟩,.tree .act),(⟨4,[4]⟩,.tree .trans),(⟨4,[5]⟩,.tree .state)] }
theorem yY (F:av) (hF:dw F) (N:Nat):Ct.ok E0 ⟨(oo F hF N).f,(oo F hF N).q,fun R k a b c d e=>iv F N a b c d e (fun g h i j l m o=>oK ⟨y2,[z2],[]⟩ k g h i j l m o b)⟩:=FD.ct e0 (oo F hF N) N (fun R k a b c d e=>iv F N a b c d e (fun g h i j l m o=>oK ⟨y2,[z2],[]⟩ k g h i j l m o b))
def sN (F:av) (N:Nat):av where
 r9_reader_states:=fun R deep l at_ Code At k0=>gK F N deep l at_ Code At k0
 r9_reader_state:=fun R deep l at_ Code At k0=>iv F N deep l at_ Code At k0
def aw (N:Nat):Nat→av
 | 0=>{ r9_reader_states:=fun _ _ _ _ _ _ _=>none,r9_reader_state:=fun _ _ _ _ _ _ _=>none }
 | d + 1=>sN (aw N d) N
theorem gN (N:Nat):∀ d,dw (aw N d)
 | 0=>{ r9_reader_states:=Ct.ok_none,r9_reader_state:=Ct.ok_none }
 | d + 1=>{ r9_reader_states:=xC _ (gN N d) N,r9_reader_state:=yY _ (gN N d) N }
def r9_reader_states (N:Nat) (deep:Int) (l:List Token) (at_ Code At:Int) (k0:(List State)→Int→Int→Int→Option R):Option R:=(aw N N).r9_reader_states R deep l at_ Code At k0
theorem yZ (N d:Nat) (deep:Int) (l:List Token) (at_ Code At:Int) (k0:(List State)→Int→Int→Int→Option R):(aw N (d + 1)).r9_reader_states R deep l at_ Code At k0 = gK (aw N d) N deep l at_ Code At k0:=rfl
def zO (N:Nat):OC E0:=⟨nw (aw N N),(gN N N).r9_reader_states⟩
def r9_reader_state (N:Nat) (deep:Int) (l:List Token) (at_ Code At:Int) (k0:Int→(List UInt8)→(List Act)→(List Act)→(List Trans)→(List State)→Int→Int→Int→Int→Option R):Option R:=(aw N N).r9_reader_state R deep l at_ Code At k0
theorem zP (N d:Nat) (deep:Int) (l:List Token) (at_ Code At:Int) (k0:Int→(List UInt8)→(List Act)→(List Act)→(List Trans)→(List State)→Int→Int→Int→Int→Option R):(aw N (d + 1)).r9_reader_state R deep l at_ Code At k0 = iv (aw N d) N deep l at_ Code At k0:=rfl
def z18:ShO S:=.bx [.st,.i .i64,.i .i64,.ns,.ns,.ns,.ns,.i .i64]
def z19:ShO S:=.bx [.st,.i .i64,.i .i64,.t .named,.t .named,.t .named,.t .state,.i .i64]
def z20:ShO S:=.bx [.st,.i .i64,.i .i64,.t .named,.t .named,.t .named,.ns,.i .i64]
def y12:Sh S:=.ag [.st,.i .i64,.i .i64,.t .named,.t .named,.t .named,.t .state,.i .i64]
def y13:Sh S:=.tp [y12,.i .i64,.ag [.i .i64,.i .i64]]
def vG (N:Nat) (v_52:List UInt8) (v_53 v_54 v_55 v_56 v_57:Int) (r_58:List Token) (r_59 r_60 r_61:Int) (c_62:List UInt8) (c_63 c_64:Int) (c_65 c_66 c_67:List af) (c_68:Int) (kp0:Int→(List UInt8)→Int→Int→Int→Int→Int→Option R) (kp1:Int→(List State)→Int→Int→Option R):Option R :=
 r9_reader_states N 1 r_58 r_59 r_60 r_61 (fun r69 r70 r71 r72 =>
 bm N [125] r_58 r70 r71 r72 (fun r73 r74 r75 =>
 if (!(r74 == 0)) = true then
 (kp0 0 [] 0 0 0 r74 r75)
 else
 (kp1 r73 r69 0 0)))
def xD (N:Nat) (v_19:List UInt8) (v_20 v_21 v_22 v_23 v_24:Int) (r_25:List Token) (r_26 r_27 r_28:Int) (c_29:List UInt8) (c_30 c_31 c_32:Int) (kp0:Int→(List UInt8)→Int→Int→Int→Int→Int→Option R) (kp1:Int→Int→(List af)→(List af)→(List af)→(List State)→Int→Int→Option R):Option R :=
 gy N r_25 r_26 r_27 r_28 (fun r33 r34 r35 r36 =>
 bm N [123] r_25 r34 r35 r36 (fun r37 r38 r39 =>
 ia N [118,97,114] r_25 r37 r38 r39 (fun r40 r41 r42 r43 =>
 ia N [112,111,114,116] r_25 r41 r42 r43 (fun r44 r45 r46 r47 =>
 ia N [116,105,109,101,114] r_25 r45 r46 r47 (fun r48 r49 r50 r51 =>
 vG N v_19 v_20 v_21 v_22 v_23 v_24 r_25 r49 r50 r51 c_29 c_30 r33 r40 r44 r48 c_32 (fun y76 y77 y78 y79 y80 y81 y82 =>
 kp0 y76 y77 y78 y79 y80 y81 y82)
 (fun y83 y84 y85 y86 =>
 kp1 y83 r33 r40 r44 r48 y84 y85 y86))))))
def AY (N:Nat) (l:List Token) (at_:Int) (k0:(List UInt8)→Int→Int→(List af)→(List af)→(List af)→(List State)→Int→Int→Int→Int→Option R):Option R :=
 (at? l at_).bind fun e1 =>
 bm N [99,104,97,114,116] l at_ 0 0 (fun r2 r3 r4 =>
 dJ N l r2 r3 r4 (fun r5 r6 r7 r8 =>
 bm N [115,116,101,112,115] l r6 r7 r8 (fun r9 r10 r11 =>
 gy N l r9 r10 r11 (fun r12 r13 r14 r15 =>
 bm N [102,117,101,108] l r13 r14 r15 (fun r16 r17 r18 =>
 xD N [] 0 0 0 0 0 l r16 r17 r18 r5 r12 0 e1.At (fun y87 y88 y89 y90 y91 y92 y93 =>
 k0 y88 y89 y90 ([]:List af) ([]:List af) ([]:List af) ([]:List State) y91 y87 y92 y93)
 (fun y94 y95 y96 y97 y98 y99 y100 y101 =>
 k0 r5 r12 y95 y96 y97 y98 y99 e1.At y94 y100 y101))))))
def KT (N:Nat):FD E0:={ f:=55,fn:=Tryz.f55,q:=⟨[.t .tok,.i .i64],[]⟩,cuts:=[{ key:=13,live:=[4,6,7,8],out:=fun | .ret=>([4,5,6],[]) | _=>([],[]),q:=⟨[.p 0 0 0,.p 1 0 0,.p 2 0 0,.p 3 0 0],[z18,.bx [.i .i64,.i .i64],z2,z20]⟩,G:=fun R K a b c d e g h i j l m o p q s t u=>vG N a b c d e g h i j l m o p q s t u (pK ⟨[.p 0 0 0,.i .i64,.p 1 0 0],[z18,.bx [.i .i64,.i .i64]]⟩ (K .ret)) (fun v w=>pK ⟨[.p 0 0 0,.i .i64,.p 1 0 0],[z19,.bx [.i .i64,.i .i64]]⟩ (K .ret) v m o p q s t w u) },{ key:=8,live:=[4,6,7,8],out:=fun | .ret=>([4,5,6],[]) | _=>([],[]),q:=⟨[.p 0 0 0,.p 1 0 0,.p 2 0 0,.p 3 0 0],[z18,.bx [.i .i64,.i .i64],z2,z18]⟩,G:=fun R K a b c d e g h i j l m o p q=>xD N a b c d e g h i j l m o p q (pK ⟨[.p 0 0 0,.i .i64,.p 1 0 0],[z18,.bx [.i .i64,.i .i64]]⟩ (K .ret)) (fun s t u v w x=>pK ⟨[.p 0 0 0,.i .i64,.p 1 0 0],[z19,.bx [.i .i64,.i .i64]]⟩ (K .ret) s m o t u v w x q) }],g:=[gx N,je N,rM N,AN N,zO N,gC N],exit:=[(⟨4,[3]⟩,.tree .named),(⟨4,[4]⟩,.tree .named),(⟨4,[5]⟩,.tree .named),(⟨4,[6]⟩,.tree .state)] }
def KU (N:Nat):OC E0:=⟨_,FD.ct e0 (KT N) N (fun R k a b=>AY N a b (oK ⟨y13,[],[]⟩ k))⟩
def lH (N:Nat) (l:List Token) (at_ Code At:Int) (k0:(List UInt8)→Int→Int→(List af)→(List af)→(List af)→(List State)→Int→Int→Int→Int→Option R):Option R :=
 AY N l at_ (fun r1 r2 r3 r4 r5 r6 r7 r8 r9 r10 r11 =>
 if (r10 == 0) = true then
 (k0 r1 r2 r3 r4 r5 r6 r7 r8 r9 r10 r11)
 else
 (k0 r1 r2 r3 r4 r5 r6 r7 r8 at_ r10 r11))
def zQ (N:Nat):FD E0:={ f:=22,fn:=Tryz.f22,q:=⟨[.p 0 0 0],[z2]⟩,g:=[ey N,KU N],exit:=[(⟨2,[3]⟩,.tree .named),(⟨2,[4]⟩,.tree .named),(⟨2,[5]⟩,.tree .named),(⟨2,[6]⟩,.tree .state)] }
def zR (N:Nat):OC E0:=⟨_,FD.ct e0 (zQ N) N (fun R k a b c d=>lH N a b c d (fun e g h i j l m o=>oK ⟨y12,[z2],[]⟩ k e g h i j l m o a))⟩
def di (N:Nat) (l:List Token) (at_ Code At:Int) (k0:Int→Option R):Option R :=
 (at? l at_).bind fun e1 =>
 k0 e1.At
def AZ (N:Nat):FD E0:={ f:=56,fn:=Tryz.f56,q:=⟨[.p 0 0 0],[z2]⟩ }
def kL (N:Nat):OC E0:=⟨_,FD.ctq e0 (AZ N) N (fun R k a b c d=>di N a b c d (oQ ⟨.i .i64,[],[]⟩ k))⟩
def gO (N:Nat) (r_5:List Token) (r_6 r_7 r_8:Int) (kp0:(List UInt8)→Int→Option R):Option R :=
 if (!(r_7 == 0)) = true then
 (kp0 [] r_6)
 else
 ((at? r_5 (IntKind.wrap .i64 ((IntKind.wrap .i64 (r_6 + 1)) - 1))).bind fun e9 =>
 kp0 e9.Text (IntKind.wrap .i64 (r_6 + 1)))
def aC (N:Nat) (l:List Token) (at_ Code At:Int) (k0:(List UInt8)→Int→Int→Int→Option R):Option R :=
 (ifB (Code == 0) true (oh N l at_ (fun r1 =>
 some (!r1))) (some false)).bind fun c2 =>
 if c2 = true then
 (nu N l at_ (fun r3 r4 =>
 gO N l at_ r3 r4 (fun y10 y11 =>
 k0 y10 y11 r3 r4)))
 else
 (gO N l at_ Code At (fun y12 y13 =>
 k0 y12 y13 Code At))
def Ba (N:Nat):FD E0:={ f:=57,fn:=Tryz.f57,q:=⟨[.p 0 0 0],[z2]⟩,cuts:=[{ key:=3,live:=[0],out:=fun | .ret=>([2],[]) | _=>([],[]),q:=⟨[.p 0 0 0],[z2]⟩,G:=fun R K a b c d=>gO N a b c d (fun e g=>pK ⟨[.st],[z2]⟩ (K .ret) e a g c d) }],g:=[ey N,kc N,vB N] }
def fw (N:Nat):OC E0:=⟨_,FD.ct e0 (Ba N) N (fun R k a b c d=>aC N a b c d (fun e=>oK ⟨.st,[z2],[]⟩ k e a))⟩
def z21:ShO S:=.bx [.st,.st,.i .i64,.i .i64,.i .i64,.i .i64]
def y14:Sh S:=.ag [.st,.st,.i .i64,.i .i64,.i .i64,.i .i64]
def nz (N:Nat) (r_16:List Token) (r_17 r_18 r_19:Int) (v_20 v_21:List UInt8) (v_22 v_23 v_24 v_25:Int) (x_26 x_27:List UInt8) (x_28 x_29 x_30 x_31:Int) (kp0:Int→Int→Int→Int→Int→Int→Option R):Option R :=
 aY N r_16 r_17 r_18 r_19 (fun r32 r33 r34 r35 =>
 aj N [101,120,116] r_16 r33 r34 r35 (fun r36 r37 r38 =>
 aY N r_16 r36 r37 r38 (fun r39 r40 r41 r42 =>
 aj N [112,114,105,111] r_16 r40 r41 r42 (fun r43 r44 r45 =>
 aY N r_16 r43 r44 r45 (fun r46 r47 r48 r49 =>
 aj N [59] r_16 r47 r48 r49 (fun r50 r51 r52 =>
 kp0 r50 r51 r52 r32 r39 r46))))))
def mX (N:Nat) (l:List Token) (at_ Code At:Int) (k0:(List UInt8)→(List UInt8)→Int→Int→Int→Int→Int→Int→Int→Option R):Option R :=
 di N l at_ Code At (fun r1 =>
 aC N l (IntKind.wrap .i64 (at_ + 1)) Code At (fun r2 r3 r4 r5 =>
 aj N [58] l r3 r4 r5 (fun r6 r7 r8 =>
 aC N l r6 r7 r8 (fun r9 r10 r11 r12 =>
 aj N [113,117,97,110,116,117,109] l r10 r11 r12 (fun r13 r14 r15 =>
 nz N l r13 r14 r15 [] [] 0 0 0 0 r2 r9 0 0 0 r1 (fun y53 y54 y55 y56 y57 y58 =>
 k0 r2 r9 y56 y57 y58 r1 y53 y54 y55))))))
def Bb (N:Nat):FD E0:={ f:=23,fn:=Tryz.f23,q:=⟨[.p 0 0 0],[z2]⟩,cuts:=[{ key:=7,live:=[0,2,3],out:=fun | .ret=>([2],[]) | _=>([],[]),q:=⟨[.p 0 0 0,.p 1 0 0,.p 2 0 0],[z2,z21,z21]⟩,G:=fun R K a b c d e g h i j l m o p q s t=>nz N a b c d e g h i j l m o p q s t (fun u v w x y z=>pK ⟨[.p 1 0 0],[z2,z21]⟩ (K .ret) a u v w m o x y z t) }],g:=[ir N,iU N,kL N,fw N] }
def Bd (N:Nat):OC E0:=⟨_,FD.ct e0 (Bb N) N (fun R k a b c d=>mX N a b c d (fun e g h i j l=>oK ⟨y14,[z2],[]⟩ k e g h i j l a))⟩
def z22:ShO S:=.bx [.st,.st,.st,.st,.i .i64,.i .i64,.i .i64]
def y15:Sh S:=.ag [.st,.st,.st,.st,.i .i64,.i .i64,.i .i64]
def jz (N:Nat) (r_52:List Token) (r_53 r_54 r_55:Int) (v_56 v_57 v_58 v_59:List UInt8) (v_60 v_61 v_62:Int) (x_63 x_64 x_65 x_66:List UInt8) (x_67 x_68 x_69:Int) (kp0:Int→Int→Int→Int→Option R):Option R :=
 aj N [112,114,105,111] r_52 r_53 r_54 r_55 (fun r70 r71 r72 =>
 aY N r_52 r70 r71 r72 (fun r73 r74 r75 r76 =>
 aj N [59] r_52 r74 r75 r76 (fun r77 r78 r79 =>
 kp0 r77 r78 r79 r73)))
def kD (N:Nat) (r_16:List Token) (r_17 r_18 r_19:Int) (v_20 v_21 v_22 v_23:List UInt8) (v_24 v_25 v_26:Int) (x_27 x_28 x_29 x_30:List UInt8) (x_31 x_32 x_33:Int) (kp0:Int→Int→Int→(List UInt8)→(List UInt8)→Int→Int→Option R):Option R :=
 aC N r_16 r_17 r_18 r_19 (fun r34 r35 r36 r37 =>
 aj N [45,62] r_16 r35 r36 r37 (fun r38 r39 r40 =>
 aC N r_16 r38 r39 r40 (fun r41 r42 r43 r44 =>
 aj N [99,97,112] r_16 r42 r43 r44 (fun r45 r46 r47 =>
 aY N r_16 r45 r46 r47 (fun r48 r49 r50 r51 =>
 jz N r_16 r49 r50 r51 v_20 v_21 v_22 v_23 v_24 v_25 v_26 x_27 x_28 r34 r41 r48 x_32 x_33 (fun y80 y81 y82 y83 =>
 kp0 y80 y81 y82 r34 r41 r48 y83))))))
def jA (N:Nat) (l:List Token) (at_ Code At:Int) (k0:(List UInt8)→(List UInt8)→(List UInt8)→(List UInt8)→Int→Int→Int→Int→Int→Int→Option R):Option R :=
 di N l at_ Code At (fun r1 =>
 aC N l (IntKind.wrap .i64 (at_ + 1)) Code At (fun r2 r3 r4 r5 =>
 aj N [58] l r3 r4 r5 (fun r6 r7 r8 =>
 aC N l r6 r7 r8 (fun r9 r10 r11 r12 =>
 aj N [46] l r10 r11 r12 (fun r13 r14 r15 =>
 kD N l r13 r14 r15 [] [] [] [] 0 0 0 r2 r9 [] [] 0 0 r1 (fun y84 y85 y86 y87 y88 y89 y90 =>
 k0 r2 r9 y87 y88 y89 y90 r1 y84 y85 y86))))))
def xE (N:Nat):FD E0:={ f:=24,fn:=Tryz.f24,q:=⟨[.p 0 0 0],[z2]⟩,cuts:=[{ key:=12,live:=[0,2,3],out:=fun | .ret=>([2],[]) | _=>([],[]),q:=⟨[.p 0 0 0,.p 1 0 0,.p 2 0 0],[z2,z22,z22]⟩,G:=fun R K a b c d e g h i j l m o p q s t u v=>jz N a b c d e g h i j l m o p q s t u v (fun w x y z=>pK ⟨[.p 1 0 0],[z2,z22]⟩ (K .ret) a w x y o p q s t z v) },{ key:=7,live:=[0,2,3],out:=fun | .ret=>([2],[]) | _=>([],[]),q:=⟨[.p 0 0 0,.p 1 0 0,.p 2 0 0],[z2,z22,z22]⟩,G:=fun R K a b c d e g h i j l m o p q s t u v=>kD N a b c d e g h i j l m o p q s t u v (fun w x y z a1 b1 c1=>pK ⟨[.p 1 0 0],[z2,z22]⟩ (K .ret) a w x y o p z a1 b1 c1 v) }],g:=[ir N,iU N,kL N,fw N] }
def xF (N:Nat):OC E0:=⟨_,FD.ct e0 (xE N) N (fun R k a b c d=>jA N a b c d (fun e g h i j l m=>oK ⟨y15,[z2],[]⟩ k e g h i j l m a))⟩
def gU (N:Nat) (r_5:List Token) (kp0:Int→Int→Int→(List (List UInt8))→Option R) (rec:Int→Int→Int→(List (List UInt8))→Option R) (r_6 r_7 r_8:Int) (out_9:List (List UInt8)):Option R :=
 bs N [44] r_5 r_6 r_7 r_8 (fun r10 =>
 if r10 = true then
 (aC N r_5 (IntKind.wrap .i64 (r_6 + 1)) r_7 r_8 (fun r11 r12 r13 r14 =>
 if out_9.length + [r11].length ≤ ak then (rec r12 r13 r14 (out_9 ++ [r11])) else none))
 else
 (kp0 r_6 r_7 r_8 out_9))
def cM (N:Nat) (r_5:List Token) (kp0:Int→Int→Int→(List (List UInt8))→Option R):Nat→Int→Int→Int→(List (List UInt8))→Option R
 | 0=>fun _ _ _ _=>none
 | n + 1=>fun r_6 r_7 r_8 out_9=>gU N r_5 kp0 (cM N r_5 kp0 n) r_6 r_7 r_8 out_9
def eJ (N:Nat) (l:List Token) (at_ Code At:Int) (k0:(List (List UInt8))→Int→Int→Int→Option R):Option R :=
 aC N l at_ Code At (fun r1 r2 r3 r4 =>
 cM N l (fun y15 y16 y17 y18 =>
 k0 y18 y15 y16 y17) N r2 r3 r4 [r1])
def zS (N:Nat):FD E0:={ f:=58,fn:=Tryz.f58,q:=⟨[.p 0 0 0],[z2]⟩,loops:=[{ cur:=0,live:=[0,3],out:=fun | .exit 0=>([3],[]) | _=>([],[]),q:=⟨[.p 0 0 0,.sw 1],[z2,.rw .str .app]⟩,G:=fun R K n a b c d e=>cM N a (pK ⟨[.sw 1],[z2,.rw .str .app]⟩ (K (.exit 0)) a) n b c d e,B:=fun R K rec a b c d e=>gU N a (pK ⟨[.sw 1],[z2,.rw .str .app]⟩ (K (.exit 0)) a) (rec a) b c d e }],g:=[ke N,fw N],exit:=[(⟨2,[]⟩,.tree .str)] }
def zT (N:Nat):OC E0:=⟨_,FD.ct e0 (zS N) N (fun R k a b c d=>eJ N a b c d (fun e=>oK ⟨.t .str,[z2],[]⟩ k e a))⟩
def iW (N:Nat) (r_6:List Token) (kp0:Int→Int→Int→(List (List UInt8))→Option R) (rec:Int→Int→Int→(List (List UInt8))→Option R) (r_7 r_8 r_9:Int) (out_10:List (List UInt8)):Option R :=
 bs N [43] r_6 r_7 r_8 r_9 (fun r11 =>
 if r11 = true then
 (aC N r_6 (IntKind.wrap .i64 (r_7 + 1)) r_8 r_9 (fun r12 r13 r14 r15 =>
 if out_10.length + [r12].length ≤ ak then (rec r13 r14 r15 (out_10 ++ [r12])) else none))
 else
 (kp0 r_7 r_8 r_9 out_10))
def dL (N:Nat) (r_6:List Token) (kp0:Int→Int→Int→(List (List UInt8))→Option R):Nat→Int→Int→Int→(List (List UInt8))→Option R
 | 0=>fun _ _ _ _=>none
 | n + 1=>fun r_7 r_8 r_9 out_10=>iW N r_6 kp0 (dL N r_6 kp0 n) r_7 r_8 r_9 out_10
def gQ (N:Nat) (l:List Token) (at_ Code At:Int) (k0:(List (List UInt8))→Int→Int→Int→Option R):Option R :=
 bs N [111,102,102] l at_ Code At (fun r1 =>
 if r1 = true then
 (k0 ([]:List (List UInt8)) (IntKind.wrap .i64 (at_ + 1)) Code At)
 else
 (aC N l at_ Code At (fun r2 r3 r4 r5 =>
 dL N l (fun y16 y17 y18 y19 =>
 k0 y19 y16 y17 y18) N r3 r4 r5 [r2])))
def Cl (N:Nat):FD E0:={ f:=123,fn:=Tryz.f123,q:=⟨[.p 0 0 0],[z2]⟩,loops:=[{ cur:=0,live:=[0,3],out:=fun | .exit 0=>([3],[]) | _=>([],[]),q:=⟨[.p 0 0 0,.sw 1],[z2,.rw .str .app]⟩,G:=fun R K n a b c d e=>dL N a (pK ⟨[.sw 1],[z2,.rw .str .app]⟩ (K (.exit 0)) a) n b c d e,B:=fun R K rec a b c d e=>iW N a (pK ⟨[.sw 1],[z2,.rw .str .app]⟩ (K (.exit 0)) a) (rec a) b c d e }],g:=[ke N,fw N],exit:=[(⟨2,[]⟩,.tree .str)] }
def Cm (N:Nat):OC E0:=⟨_,FD.ct e0 (Cl N) N (fun R k a b c d=>gQ N a b c d (fun e=>oK ⟨.t .str,[z2],[]⟩ k e a))⟩
def z23:ShO S:=.bx [.i .i64,.sw 3,.ns,.i .i64]
def z24:ShO S:=.bx [.i .i64,.sw 3,.sw 4,.i .i64]
def y16:Sh S:=.ag [.i .i64,.t .strs,.t .strs,.i .i64]
def iw (N:Nat) (r_13:List Token) (v_17 v_18 x_19 x_20:Int) (kp0:Int→Int→Int→(List (List (List UInt8)))→Option R) (rec:Int→Int→Int→(List (List (List UInt8)))→Option R) (r_14 r_15 r_16:Int) (o_21:List (List (List UInt8))):Option R :=
 bs N [44] r_13 r_14 r_15 r_16 (fun r22 =>
 if r22 = true then
 (gQ N r_13 (IntKind.wrap .i64 (r_14 + 1)) r_15 r_16 (fun r23 r24 r25 r26 =>
 if o_21.length + [r23].length ≤ ak then (rec r24 r25 r26 (o_21 ++ [r23])) else none))
 else
 (kp0 r_14 r_15 r_16 o_21))
def dq (N:Nat) (r_13:List Token) (v_17 v_18 x_19 x_20:Int) (kp0:Int→Int→Int→(List (List (List UInt8)))→Option R):Nat→Int→Int→Int→(List (List (List UInt8)))→Option R
 | 0=>fun _ _ _ _=>none
 | n + 1=>fun r_14 r_15 r_16 o_21=>iw N r_13 v_17 v_18 x_19 x_20 kp0 (dq N r_13 v_17 v_18 x_19 x_20 kp0 n) r_14 r_15 r_16 o_21
def ix (N:Nat) (r_45:List Token) (v_49 v_50 x_51 x_52:Int) (o_53 o_54:List (List (List UInt8))) (kp0:Int→Int→Int→(List (List UInt8))→Option R) (rec:Int→Int→Int→(List (List UInt8))→Option R) (r_46 r_47 r_48:Int) (row_55:List (List UInt8)):Option R :=
 (ifB (r_47 == 0) true (bs N [93] r_45 r_46 r_47 r_48 (fun r56 =>
 some (!r56))) (some false)).bind fun c57 =>
 if c57 = true then
 (aC N r_45 r_46 r_47 r_48 (fun r58 r59 r60 r61 =>
 if row_55.length + [r58].length ≤ ak then (rec r59 r60 r61 (row_55 ++ [r58])) else none))
 else
 (kp0 r_46 r_47 r_48 row_55)
def dr (N:Nat) (r_45:List Token) (v_49 v_50 x_51 x_52:Int) (o_53 o_54:List (List (List UInt8))) (kp0:Int→Int→Int→(List (List UInt8))→Option R):Nat→Int→Int→Int→(List (List UInt8))→Option R
 | 0=>fun _ _ _ _=>none
 | n + 1=>fun r_46 r_47 r_48 row_55=>ix N r_45 v_49 v_50 x_51 x_52 o_53 o_54 kp0 (dr N r_45 v_49 v_50 x_51 x_52 o_53 o_54 kp0 n) r_46 r_47 r_48 row_55
def iy (N:Nat) (r_34:List Token) (v_38 v_39 x_40 x_41:Int) (o_42:List (List (List UInt8))) (kp0:Int→Int→Int→(List (List (List UInt8)))→Option R) (rec:Int→Int→Int→(List (List (List UInt8)))→Option R) (r_35 r_36 r_37:Int) (o_43:List (List (List UInt8))):Option R :=
 bs N [91] r_34 r_35 r_36 r_37 (fun r44 =>
 if r44 = true then
 (dr N r_34 v_38 v_39 x_40 x_41 o_42 o_43 (fun y62 y63 y64 y65 =>
 aj N [93] r_34 y62 y63 y64 (fun r66 r67 r68 =>
 if o_43.length + [y65].length ≤ ak then (rec r66 r67 r68 (o_43 ++ [y65])) else none)) N (IntKind.wrap .i64 (r_35 + 1)) r_36 r_37 ([]:List (List UInt8)))
 else
 (kp0 r_35 r_36 r_37 o_43))
def dt (N:Nat) (r_34:List Token) (v_38 v_39 x_40 x_41:Int) (o_42:List (List (List UInt8))) (kp0:Int→Int→Int→(List (List (List UInt8)))→Option R):Nat→Int→Int→Int→(List (List (List UInt8)))→Option R
 | 0=>fun _ _ _ _=>none
 | n + 1=>fun r_35 r_36 r_37 o_43=>iy N r_34 v_38 v_39 x_40 x_41 o_42 kp0 (dt N r_34 v_38 v_39 x_40 x_41 o_42 kp0 n) r_35 r_36 r_37 o_43
def ig (N:Nat) (l:List Token) (at_ Code At:Int) (k0:Int→(List (List (List UInt8)))→(List (List (List UInt8)))→Int→Int→Int→Int→Option R):Option R :=
 di N l at_ Code At (fun r1 =>
 aY N l (IntKind.wrap .i64 (at_ + 1)) Code At (fun r2 r3 r4 r5 =>
 aj N [123] l r3 r4 r5 (fun r6 r7 r8 =>
 gQ N l r6 r7 r8 (fun r9 r10 r11 r12 =>
 if [r9].length ≤ ak then (dq N l 0 0 r2 r1 (fun y27 y28 y29 y30 =>
 aj N [59] l y27 y28 y29 (fun r31 r32 r33 =>
 dt N l 0 0 r2 r1 y30 (fun y69 y70 y71 y72 =>
 aj N [125] l y69 y70 y71 (fun r73 r74 r75 =>
 k0 r2 y30 y72 r1 r73 r74 r75)) N r31 r32 r33 ([]:List (List (List UInt8))))) N r10 r11 r12 [r9]) else none))))
def Be (N:Nat):FD E0:={ f:=59,fn:=Tryz.f59,q:=⟨[.p 0 0 0],[z2]⟩,loops:=[{ cur:=0,live:=[0,2,3],out:=fun | .exit 0=>([0,2,3],[]) | _=>([],[]),q:=⟨[.p 0 0 0,.p 1 0 0,.p 2 0 0],[z2,.bx [.i .i64,.ns,.ns,.i .i64],z23,.rw .strs .app]⟩,G:=fun R K n a b c d e g h i j=>dq N a e g h i (fun l m o=>pK ⟨[.p 0 0 0,.p 1 0 0,.p 2 0 0],[z2,.bx [.i .i64,.ns,.ns,.i .i64],z23,.rw .strs .app]⟩ (K (.exit 0)) a l m o e g h i) n b c d j,B:=fun R K rec a b c d e g h i j=>iw N a e g h i (fun l m o=>pK ⟨[.p 0 0 0,.p 1 0 0,.p 2 0 0],[z2,.bx [.i .i64,.ns,.ns,.i .i64],z23,.rw .strs .app]⟩ (K (.exit 0)) a l m o e g h i) (fun b c d j=>rec a b c d e g h i j) b c d j },{ cur:=4,live:=[0,2,3,4],fix:=[(⟨4,[]⟩,.row .str .app),(⟨3,[2]⟩,.row .strs .app)],out:=fun | .exit 4=>([0,2,3,4],[]) | _=>([],[]),q:=⟨[.p 0 0 0,.p 1 0 0,.p 2 0 0,.sw 5],[z2,.bx [.i .i64,.ns,.ns,.i .i64],z24,.rw .strs .app,.rw .strs .app,.rw .str .app]⟩,G:=fun R K n a b c d e g h i j l m=>dr N a e g h i j l (fun o p q=>pK ⟨[.p 0 0 0,.p 1 0 0,.p 2 0 0,.sw 5],[z2,.bx [.i .i64,.ns,.ns,.i .i64],z24,.rw .strs .app,.rw .strs .app,.rw .str .app]⟩ (K (.exit 4)) a o p q e g h i j l) n b c d m,B:=fun R K rec a b c d e g h i j l m=>ix N a e g h i j l (fun o p q=>pK ⟨[.p 0 0 0,.p 1 0 0,.p 2 0 0,.sw 5],[z2,.bx [.i .i64,.ns,.ns,.i .i64],z24,.rw .strs .app,.rw .strs .app,.rw .str .app]⟩ (K (.exit 4)) a o p q e g h i j l) (fun b c d m=>rec a b c d e g h i j l m) b c d m },{ cur:=2,live:=[0,2,3],fix:=[(⟨3,[2]⟩,.row .strs .app)],out:=fun | .exit 2=>([0,2,3],[]) | _=>([],[]),q:=⟨[.p 0 0 0,.p 1 0 0,.p 2 0 0],[z2,.bx [.i .i64,.ns,.ns,.i .i64],z24,.rw .strs .app,.rw .strs .app]⟩,G:=fun R K n a b c d e g h i j l=>dt N a e g h i j (fun m o p=>pK ⟨[.p 0 0 0,.p 1 0 0,.p 2 0 0],[z2,.bx [.i .i64,.ns,.ns,.i .i64],z24,.rw .strs .app,.rw .strs .app]⟩ (K (.exit 2)) a m o p e g h i j) n b c d l,B:=fun R K rec a b c d e g h i j l=>iy N a e g h i j (fun m o p=>pK ⟨[.p 0 0 0,.p 1 0 0,.p 2 0 0],[z2,.bx [.i .i64,.ns,.ns,.i .i64],z24,.rw .strs .app,.rw .strs .app]⟩ (K (.exit 2)) a m o p e g h i j) (fun b c d l=>rec a b c d e g h i j l) b c d l }],g:=[ir N,iU N,ke N,ey N,kL N,fw N,Cm N],exit:=[(⟨2,[1]⟩,.tree .strs),(⟨2,[2]⟩,.tree .strs)] }
def Bf (N:Nat):OC E0:=⟨_,FD.ct e0 (Be N) N (fun R k a b c d=>ig N a b c d (fun e g h i=>oK ⟨y16,[z2],[]⟩ k e g h i a))⟩
def z25:ShO S:=.bx [.st,.st,.st,.st,.ns,.ns,.ns,.i .i64]
def z26:ShO S:=.bx [.st,.st,.st,.st,.t .str,.t .str,.sw 3,.i .i64]
def z27:ShO S:=.bx [.st,.st,.st,.st,.t .str,.t .str,.sw 2,.i .i64]
def z28:ShO S:=.bx [.st,.st,.st,.st,.t .str,.t .str,.ns,.i .i64]
def y17:Sh S:=.ag [.st,.st,.st,.st,.t .str,.t .str,.t .cell,.i .i64]
end
end So
