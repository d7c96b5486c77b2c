/- T3_8: a part of the proof of SoundCerts: lemmas on the evaluator and on the functions that the law reaches. -/
import Derived.Test.YtcllbmdpckfnhaaGreatT37
set_option maxRecDepth 100000
set_option linter.unusedVariables false
namespace So
open Go TE Go.Proofs
noncomputable section
variable {R:Type}
def rl (N:Nat) (set_7:List (List UInt8)) (n_8:List Node) (kp0:(List Int)→Option R) (rec:Int→(List Int)→Option R) (i_9:Int) (l_10:List Int):Option R :=
 if (decide (i_9 < ((set_7.length:Nat):Int))) = true then
 ((at? set_7 i_9).bind fun e11 =>
 vg N n_8 e11 (fun r12 =>
 if l_10.length + [r12].length ≤ ak then (rec (IntKind.wrap .i64 (i_9 + 1)) (l_10 ++ [r12])) else none))
 else
 (kp0 l_10)
def nI (N:Nat) (set_7:List (List UInt8)) (n_8:List Node) (kp0:(List Int)→Option R):Nat→Int→(List Int)→Option R
 | 0=>fun _ _=>none
 | n + 1=>fun i_9 l_10=>rl N set_7 n_8 kp0 (nI N set_7 n_8 kp0 n) i_9 l_10
def DM (N:Nat) (Name:List UInt8) (Steps Fuel:Int) (Vars Ports Timers:List af) (States:List State) (At:Int) (set_:List (List UInt8)) (k0:(List Int)→Bool→Option R):Option R :=
 ve N Name Steps Fuel Vars Ports Timers States At (fun r1 =>
 nI N set_ r1 (fun y13 =>
 sD N r1 y13 (fun r14 r15 =>
 k0 r14 r15)) N 0 ([]:List Int))
def NL (N:Nat):FD E0:={ f:=150,fn:=Tryz.f150,q:=⟨[y12,.t .str],[]⟩,loops:=[{ cur:=0,live:=[1,6,7,8],fix:=[(⟨7,[]⟩,.row .int .app)],out:=fun | .exit 0=>([6,7],[]) | _=>([],[]),q:=⟨[.t .str,.t .node,.sw 0,.i .i64],[.rw .int .app]⟩,G:=fun R K n a b c d=>nI N a b (pK ⟨[.t .node,.sw 0],[.rw .int .app]⟩ (K (.exit 0)) b) n c d,B:=fun R K rec a b c d=>rl N a b (pK ⟨[.t .node,.sw 0],[.rw .int .app]⟩ (K (.exit 0)) b) (rec a b) c d }],g:=[CS N,EU N,Lh N],exit:=[(⟨4,[]⟩,.tree .int)] }
def NM (N:Nat):OC E0:=⟨_,FD.ct e0 (NL N) N (fun R k a b c d e g h i j=>DM N a b c d e g h i j (oK ⟨.tp [.t .int,.b],[],[]⟩ k))⟩
def mf (N:Nat) (a_1 b_2:List (List UInt8)) (kp0:Option R) (kp1:Bool→Option R) (rec:Int→Option R) (i_3:Int):Option R :=
 if (decide (i_3 < ((a_1.length:Nat):Int))) = true then
 ((at? a_1 i_3).bind fun e4 =>
 eW N b_2 e4 (fun r5 =>
 if (!r5) = true then
 (kp1 false)
 else
 (rec (IntKind.wrap .i64 (i_3 + 1)))))
 else
 (kp0 )
def jr (N:Nat) (a_1 b_2:List (List UInt8)) (kp0:Option R) (kp1:Bool→Option R):Nat→Int→Option R
 | 0=>fun _=>none
 | n + 1=>fun i_3=>mf N a_1 b_2 kp0 kp1 (jr N a_1 b_2 kp0 kp1 n) i_3
def tH (N:Nat) (a b:List (List UInt8)) (k0:Bool→Option R):Option R :=
 jr N a b (k0 (((a.length:Nat):Int) == ((b.length:Nat):Int)))
 (fun y6 =>
 k0 y6) N 0
def Ga (N:Nat):FD E0:={ f:=175,fn:=Tryz.f175,q:=⟨[.t .str,.t .str],[]⟩,loops:=[{ cur:=0,live:=[0,1,5],out:=fun | .exit 0=>([0,1],[]) | .ret=>([4],[]) | _=>([],[]),q:=⟨[.t .str,.t .str,.i .i64],[]⟩,G:=fun R K n a b c=>jr N a b (pK ⟨[.t .str,.t .str],[]⟩ (K (.exit 0)) a b) (pK ⟨[.b],[]⟩ (K .ret)) n c,B:=fun R K rec a b c=>mf N a b (pK ⟨[.t .str,.t .str],[]⟩ (K (.exit 0)) a b) (pK ⟨[.b],[]⟩ (K .ret)) (rec a b) c }],g:=[lT N] }
def Gb (N:Nat):OC E0:=⟨_,FD.ct e0 (Ga N) N (fun R k a b=>tH N a b (oK ⟨.b,[],[]⟩ k))⟩
def oN (N:Nat) (a_1 b_2:List (List UInt8)) (kp0:Option R) (kp1:Bool→Option R) (rec:Int→Option R) (i_3:Int):Option R :=
 if (decide (i_3 < ((a_1.length:Nat):Int))) = true then
 ((at? a_1 i_3).bind fun e4 =>
 (at? b_2 i_3).bind fun e5 =>
 if (!(e4 == e5)) = true then
 (kp1 false)
 else
 (rec (IntKind.wrap .i64 (i_3 + 1))))
 else
 (kp0 )
def mg (N:Nat) (a_1 b_2:List (List UInt8)) (kp0:Option R) (kp1:Bool→Option R):Nat→Int→Option R
 | 0=>fun _=>none
 | n + 1=>fun i_3=>oN N a_1 b_2 kp0 kp1 (mg N a_1 b_2 kp0 kp1 n) i_3
def yH (N:Nat) (a b:List (List UInt8)) (k0:Bool→Option R):Option R :=
 if (((a.length:Nat):Int) != ((b.length:Nat):Int)) = true then
 (k0 false)
 else
 (mg N a b (k0 true)
 (fun y6 =>
 k0 y6) N 0)
def Jn (N:Nat):FD E0:={ f:=176,fn:=Tryz.f176,q:=⟨[.t .str,.t .str],[]⟩,loops:=[{ cur:=0,live:=[0,1,5],out:=fun | .exit 0=>([],[]) | .ret=>([4],[]) | _=>([],[]),q:=⟨[.t .str,.t .str,.i .i64],[]⟩,G:=fun R K n a b c=>mg N a b (pK ⟨[],[]⟩ (K (.exit 0))) (pK ⟨[.b],[]⟩ (K .ret)) n c,B:=fun R K rec a b c=>oN N a b (pK ⟨[],[]⟩ (K (.exit 0))) (pK ⟨[.b],[]⟩ (K .ret)) (rec a b) c }] }
def Jo (N:Nat):OC E0:=⟨_,FD.ct e0 (Jn N) N (fun R k a b=>yH N a b (oK ⟨.b,[],[]⟩ k))⟩
def kQ (N:Nat) (a_2:Int) (a_3 a_4:List (List (List UInt8))) (a_5 b_6:Int) (b_7 b_8:List (List (List UInt8))) (b_9:Int) (kp0:Option R) (kp1:Bool→Option R) (rec:Int→Option R) (i_1:Int):Option R :=
 if (decide (i_1 < ((a_3.length:Nat):Int))) = true then
 ((at? a_3 i_1).bind fun e10 =>
 (at? b_7 i_1).bind fun e11 =>
 tH N e10 e11 (fun r12 =>
 if (!r12) = true then
 (kp1 false)
 else
 (rec (IntKind.wrap .i64 (i_1 + 1)))))
 else
 (kp0 )
def il (N:Nat) (a_2:Int) (a_3 a_4:List (List (List UInt8))) (a_5 b_6:Int) (b_7 b_8:List (List (List UInt8))) (b_9:Int) (kp0:Option R) (kp1:Bool→Option R):Nat→Int→Option R
 | 0=>fun _=>none
 | n + 1=>fun i_1=>kQ N a_2 a_3 a_4 a_5 b_6 b_7 b_8 b_9 kp0 kp1 (il N a_2 a_3 a_4 a_5 b_6 b_7 b_8 b_9 kp0 kp1 n) i_1
def kR (N:Nat) (a_15:Int) (a_16 a_17:List (List (List UInt8))) (a_18 b_19:Int) (b_20 b_21:List (List (List UInt8))) (b_22:Int) (kp0:Option R) (kp1:Bool→Option R) (rec:Int→Option R) (i_14:Int):Option R :=
 if (decide (i_14 < ((a_17.length:Nat):Int))) = true then
 ((at? a_17 i_14).bind fun e23 =>
 (at? b_21 i_14).bind fun e24 =>
 yH N e23 e24 (fun r25 =>
 if (!r25) = true then
 (kp1 false)
 else
 (rec (IntKind.wrap .i64 (i_14 + 1)))))
 else
 (kp0 )
def ez (N:Nat) (a_15:Int) (a_16 a_17:List (List (List UInt8))) (a_18 b_19:Int) (b_20 b_21:List (List (List UInt8))) (b_22:Int) (kp0:Option R) (kp1:Bool→Option R):Nat→Int→Option R
 | 0=>fun _=>none
 | n + 1=>fun i_14=>kR N a_15 a_16 a_17 a_18 b_19 b_20 b_21 b_22 kp0 kp1 (ez N a_15 a_16 a_17 a_18 b_19 b_20 b_21 b_22 kp0 kp1 n) i_14
def rm (N:Nat) (Rank:Int) (Sets Msgs:List (List (List UInt8))) (At Rank_2:Int) (Sets_2 Msgs_2:List (List (List UInt8))) (At_2:Int) (k0:Bool→Option R):Option R :=
 il N Rank Sets Msgs At Rank_2 Sets_2 Msgs_2 At_2 (ez N Rank Sets Msgs At Rank_2 Sets_2 Msgs_2 At_2 (k0 true)
 (fun y26 =>
 k0 y26) N 0)
 (fun y13 =>
 k0 y13) N 0
def EX (N:Nat):FD E0:={ f:=151,fn:=Tryz.f151,q:=⟨[y16,y16],[]⟩,loops:=[{ cur:=0,live:=[2,3,5],out:=fun | .exit 0=>([2,3],[]) | .ret=>([4],[]) | _=>([],[]),q:=⟨[.p 0 0 0,.p 1 0 0,.i .i64],[z37,z37]⟩,G:=fun R K n a b c d e g h i j=>il N b c d e g h i j (pK ⟨[.p 0 0 0,.p 1 0 0],[z37,z37]⟩ (K (.exit 0)) b c d e g h i j) (pK ⟨[.b],[]⟩ (K .ret)) n a,B:=fun R K rec a b c d e g h i j=>kQ N b c d e g h i j (pK ⟨[.p 0 0 0,.p 1 0 0],[z37,z37]⟩ (K (.exit 0)) b c d e g h i j) (pK ⟨[.b],[]⟩ (K .ret)) (fun a=>rec a b c d e g h i j) a },{ cur:=2,live:=[2,3,6],out:=fun | .exit 2=>([],[]) | .ret=>([4],[]) | _=>([],[]),q:=⟨[.p 0 0 0,.p 1 0 0,.i .i64],[z37,z37]⟩,G:=fun R K n a b c d e g h i j=>ez N b c d e g h i j (pK ⟨[],[]⟩ (K (.exit 2))) (pK ⟨[.b],[]⟩ (K .ret)) n a,B:=fun R K rec a b c d e g h i j=>kR N b c d e g h i j (pK ⟨[],[]⟩ (K (.exit 2))) (pK ⟨[.b],[]⟩ (K .ret)) (fun a=>rec a b c d e g h i j) a }],g:=[Gb N,Jo N] }
def EY (N:Nat):OC E0:=⟨_,FD.ct e0 (EX N) N (fun R k a b c d e g h i=>rm N a b c d e g h i (oK ⟨.b,[],[]⟩ k))⟩
def pV (N:Nat) (i_4 s_6:Int) (s_7:List Chart) (s_8:List Inst) (s_9:List ai) (s_10:List Cert) (x_11 x_12 x_13 x_14:List UInt8) (x_15 x_16:List (List UInt8)) (x_17:List Cell) (x_18 c_19:Int) (c_20 c_21:List (List (List UInt8))) (c_22:Int) (kp0:Option R) (kp1:Int→Option R) (rec:Int→Option R) (k_5:Int):Option R :=
 if (decide (k_5 < ((c_20.length:Nat):Int))) = true then
 ((at? x_15 k_5).bind fun e23 =>
 qN N s_6 s_7 s_8 s_9 s_10 e23 (fun r24 r25 r26 r27 r28 r29 r30 r31 =>
 (at? c_20 k_5).bind fun e32 =>
 DM N r24 r25 r26 r27 r28 r29 r30 r31 e32 (fun r33 r34 =>
 (at? c_20 k_5).bind fun e35 =>
 (ifB (decide (((e35.length:Nat):Int) > 0)) true (some (!r34)) (some false)).bind fun c36 =>
 if c36 = true then
 (kp1 18)
 else
 (rec (IntKind.wrap .i64 (k_5 + 1))))))
 else
 (kp0 )
def nX (N:Nat) (i_4 s_6:Int) (s_7:List Chart) (s_8:List Inst) (s_9:List ai) (s_10:List Cert) (x_11 x_12 x_13 x_14:List UInt8) (x_15 x_16:List (List UInt8)) (x_17:List Cell) (x_18 c_19:Int) (c_20 c_21:List (List (List UInt8))) (c_22:Int) (kp0:Option R) (kp1:Int→Option R):Nat→Int→Option R
 | 0=>fun _=>none
 | n + 1=>fun k_5=>pV N i_4 s_6 s_7 s_8 s_9 s_10 x_11 x_12 x_13 x_14 x_15 x_16 x_17 x_18 c_19 c_20 c_21 c_22 kp0 kp1 (nX N i_4 s_6 s_7 s_8 s_9 s_10 x_11 x_12 x_13 x_14 x_15 x_16 x_17 x_18 c_19 c_20 c_21 c_22 kp0 kp1 n) k_5
def pW (N:Nat) (i_38 s_40:Int) (s_41:List Chart) (s_42:List Inst) (s_43:List ai) (s_44:List Cert) (x_45 x_46 x_47 x_48:List UInt8) (x_49 x_50:List (List UInt8)) (x_51:List Cell) (x_52 c_53:Int) (c_54 c_55:List (List (List UInt8))) (c_56:Int) (kp0:Option R) (kp1:Int→Option R) (rec:Int→Option R) (k_39:Int):Option R :=
 if (decide (k_39 < ((c_55.length:Nat):Int))) = true then
 ((at? c_55 k_39).bind fun e57 =>
 (at? x_50 k_39).bind fun e58 =>
 uY N s_40 s_41 s_42 s_43 s_44 e58 (fun r59 =>
 (at? s_43 r59).bind fun e60 =>
 if (decide (((e57.length:Nat):Int) > e60.Cap)) = true then
 (kp1 18)
 else
 (rec (IntKind.wrap .i64 (k_39 + 1)))))
 else
 (kp0 )
def lr (N:Nat) (i_38 s_40:Int) (s_41:List Chart) (s_42:List Inst) (s_43:List ai) (s_44:List Cert) (x_45 x_46 x_47 x_48:List UInt8) (x_49 x_50:List (List UInt8)) (x_51:List Cell) (x_52 c_53:Int) (c_54 c_55:List (List (List UInt8))) (c_56:Int) (kp0:Option R) (kp1:Int→Option R):Nat→Int→Option R
 | 0=>fun _=>none
 | n + 1=>fun k_39=>pW N i_38 s_40 s_41 s_42 s_43 s_44 x_45 x_46 x_47 x_48 x_49 x_50 x_51 x_52 c_53 c_54 c_55 c_56 kp0 kp1 (lr N i_38 s_40 s_41 s_42 s_43 s_44 x_45 x_46 x_47 x_48 x_49 x_50 x_51 x_52 c_53 c_54 c_55 c_56 kp0 kp1 n) k_39
def pX (N:Nat) (i_62:Int) (x_64 x_65 x_66 x_67:List UInt8) (x_68 x_69:List (List UInt8)) (x_70:List Cell) (x_71 c_72:Int) (c_73 c_74:List (List (List UInt8))) (c_75:Int) (kp0:Option R) (kp1:Int→Option R) (rec:Int→Option R) (k_63:Int):Option R :=
 if (decide (k_63 < i_62)) = true then
 ((at? x_70 k_63).bind fun e76 =>
 rm N e76.Rank e76.Sets e76.Msgs e76.At c_72 c_73 c_74 c_75 (fun r77 =>
 if r77 = true then
 (kp1 8)
 else
 (rec (IntKind.wrap .i64 (k_63 + 1)))))
 else
 (kp0 )
def jv (N:Nat) (i_62:Int) (x_64 x_65 x_66 x_67:List UInt8) (x_68 x_69:List (List UInt8)) (x_70:List Cell) (x_71 c_72:Int) (c_73 c_74:List (List (List UInt8))) (c_75:Int) (kp0:Option R) (kp1:Int→Option R):Nat→Int→Option R
 | 0=>fun _=>none
 | n + 1=>fun k_63=>pX N i_62 x_64 x_65 x_66 x_67 x_68 x_69 x_70 x_71 c_72 c_73 c_74 c_75 kp0 kp1 (jv N i_62 x_64 x_65 x_66 x_67 x_68 x_69 x_70 x_71 c_72 c_73 c_74 c_75 kp0 kp1 n) k_63
def Bz (N:Nat) (Age:Int) (Charts:List Chart) (Insts:List Inst) (Chans:List ai) (Certs:List Cert) (Name Inst_ Req Resp:List UInt8) (Insts_2 Chans_2:List (List UInt8)) (Cells:List Cell) (At i:Int) (k0:Int→Option R):Option R :=
 (at? Cells i).bind fun e1 =>
 (ifB (decide (e1.Rank < 0)) false (some (decide (e1.Rank > 64))) (some true)).bind fun c2 =>
 if c2 = true then
 (k0 16)
 else
 ((ifB (((e1.Sets.length:Nat):Int) != ((Insts_2.length:Nat):Int)) false (some (((e1.Msgs.length:Nat):Int) != ((Chans_2.length:Nat):Int))) (some true)).bind fun c3 =>
 if c3 = true then
 (k0 18)
 else
 (nX N i Age Charts Insts Chans Certs Name Inst_ Req Resp Insts_2 Chans_2 Cells At e1.Rank e1.Sets e1.Msgs e1.At (lr N i Age Charts Insts Chans Certs Name Inst_ Req Resp Insts_2 Chans_2 Cells At e1.Rank e1.Sets e1.Msgs e1.At (jv N i Name Inst_ Req Resp Insts_2 Chans_2 Cells At e1.Rank e1.Sets e1.Msgs e1.At (k0 0)
 (fun y78 =>
 k0 y78) N 0)
 (fun y61 =>
 k0 y61) N 0)
 (fun y37 =>
 k0 y37) N 0))
def Li (N:Nat):FD E0:={ f:=102,fn:=Tryz.f102,q:=⟨[y18,y17,.i .i64],[]⟩,loops:=[{ cur:=0,live:=[2,3,4,7,8],out:=fun | .exit 0=>([2,3,4,7],[]) | .ret=>([6],[]) | _=>([],[]),q:=⟨[.i .i64,.p 0 0 0,.p 1 0 0,.p 2 0 0,.i .i64],[z38,z36,z37]⟩,G:=fun R K n a b c d e g h i j l m o p q s t u v w=>nX N a c d e g h i j l m o p q s t u v w (pK ⟨[.i .i64,.p 0 0 0,.p 1 0 0,.p 2 0 0],[z38,z36,z37]⟩ (K (.exit 0)) a c d e g h i j l m o p q s t u v w) (pK ⟨[.i .i64],[]⟩ (K .ret)) n b,B:=fun R K rec a b c d e g h i j l m o p q s t u v w=>pV N a c d e g h i j l m o p q s t u v w (pK ⟨[.i .i64,.p 0 0 0,.p 1 0 0,.p 2 0 0],[z38,z36,z37]⟩ (K (.exit 0)) a c d e g h i j l m o p q s t u v w) (pK ⟨[.i .i64],[]⟩ (K .ret)) (fun b=>rec a b c d e g h i j l m o p q s t u v w) b },{ cur:=2,live:=[2,3,4,7,11],out:=fun | .exit 2=>([2,4,7],[]) | .ret=>([6],[]) | _=>([],[]),q:=⟨[.i .i64,.p 0 0 0,.p 1 0 0,.p 2 0 0,.i .i64],[z38,z36,z37]⟩,G:=fun R K n a b c d e g h i j l m o p q s t u v w=>lr N a c d e g h i j l m o p q s t u v w (pK ⟨[.i .i64,.p 0 0 0,.p 1 0 0],[z36,z37]⟩ (K (.exit 2)) a i j l m o p q s t u v w) (pK ⟨[.i .i64],[]⟩ (K .ret)) n b,B:=fun R K rec a b c d e g h i j l m o p q s t u v w=>pW N a c d e g h i j l m o p q s t u v w (pK ⟨[.i .i64,.p 0 0 0,.p 1 0 0],[z36,z37]⟩ (K (.exit 2)) a i j l m o p q s t u v w) (pK ⟨[.i .i64],[]⟩ (K .ret)) (fun b=>rec a b c d e g h i j l m o p q s t u v w) b },{ cur:=4,live:=[2,4,7,12],out:=fun | .exit 4=>([],[]) | .ret=>([6],[]) | _=>([],[]),q:=⟨[.i .i64,.p 0 0 0,.p 1 0 0,.i .i64],[z36,z37]⟩,G:=fun R K n a b c d e g h i j l m o p q=>jv N a c d e g h i j l m o p q (pK ⟨[],[]⟩ (K (.exit 4))) (pK ⟨[.i .i64],[]⟩ (K .ret)) n b,B:=fun R K rec a b c d e g h i j l m o p q=>pX N a c d e g h i j l m o p q (pK ⟨[],[]⟩ (K (.exit 4))) (pK ⟨[.i .i64],[]⟩ (K .ret)) (fun b=>rec a b c d e g h i j l m o p q) b }],g:=[Ah N,ES N,NM N,EY N] }
def Lj (N:Nat):OC E0:=⟨_,FD.ct e0 (Li N) N (fun R k a b c d e g h i j l m o p q=>Bz N a b c d e g h i j l m o p q (oK ⟨.i .i64,[],[]⟩ k))⟩
def oO (N:Nat) (i_10 s_12:Int) (s_13:List Chart) (s_14:List Inst) (s_15:List ai) (s_16:List Cert) (v_17 v_18:Int) (x_19 x_20 x_21 x_22:List UInt8) (x_23 x_24:List (List UInt8)) (x_25:List Cell) (x_26:Int) (kp0:Option R) (kp1:Int→Option R) (rec:Int→Option R) (k_11:Int):Option R :=
 if (decide (k_11 < i_10)) = true then
 ((at? s_16 k_11).bind fun e27 =>
 if (e27.Name == x_19) = true then
 (kp1 8)
 else
 (rec (IntKind.wrap .i64 (k_11 + 1))))
 else
 (kp0 )
def mh (N:Nat) (i_10 s_12:Int) (s_13:List Chart) (s_14:List Inst) (s_15:List ai) (s_16:List Cert) (v_17 v_18:Int) (x_19 x_20 x_21 x_22:List UInt8) (x_23 x_24:List (List UInt8)) (x_25:List Cell) (x_26:Int) (kp0:Option R) (kp1:Int→Option R):Nat→Int→Option R
 | 0=>fun _=>none
 | n + 1=>fun k_11=>oO N i_10 s_12 s_13 s_14 s_15 s_16 v_17 v_18 x_19 x_20 x_21 x_22 x_23 x_24 x_25 x_26 kp0 kp1 (mh N i_10 s_12 s_13 s_14 s_15 s_16 v_17 v_18 x_19 x_20 x_21 x_22 x_23 x_24 x_25 x_26 kp0 kp1 n) k_11
def oP (N:Nat) (i_30 s_32:Int) (s_33:List Chart) (s_34:List Inst) (s_35:List ai) (s_36:List Cert) (v_37 v_38:Int) (x_39 x_40 x_41 x_42:List UInt8) (x_43 x_44:List (List UInt8)) (x_45:List Cell) (x_46:Int) (kp0:Option R) (kp1:Int→Int→Option R) (rec:Int→Option R) (k_31:Int):Option R :=
 if (decide (k_31 < ((x_45.length:Nat):Int))) = true then
 (Bz N s_32 s_33 s_34 s_35 s_36 x_39 x_40 x_41 x_42 x_43 x_44 x_45 x_46 k_31 (fun r47 =>
 if (r47 != 0) = true then
 ((at? x_45 k_31).bind fun e48 =>
 kp1 r47 e48.At)
 else
 (rec (IntKind.wrap .i64 (k_31 + 1)))))
 else
 (kp0 )
def iI (N:Nat) (i_30 s_32:Int) (s_33:List Chart) (s_34:List Inst) (s_35:List ai) (s_36:List Cert) (v_37 v_38:Int) (x_39 x_40 x_41 x_42:List UInt8) (x_43 x_44:List (List UInt8)) (x_45:List Cell) (x_46:Int) (kp0:Option R) (kp1:Int→Int→Option R):Nat→Int→Option R
 | 0=>fun _=>none
 | n + 1=>fun k_31=>oP N i_30 s_32 s_33 s_34 s_35 s_36 v_37 v_38 x_39 x_40 x_41 x_42 x_43 x_44 x_45 x_46 kp0 kp1 (iI N i_30 s_32 s_33 s_34 s_35 s_36 v_37 v_38 x_39 x_40 x_41 x_42 x_43 x_44 x_45 x_46 kp0 kp1 n) k_31
def oR (N:Nat) (s_2:Int) (s_3:List Chart) (s_4:List Inst) (s_5:List ai) (s_6:List Cert) (v_7 v_8:Int) (kp0:Option R) (kp1:Int→Int→Option R) (rec:Int→Option R) (i_1:Int):Option R :=
 if (decide (i_1 < ((s_6.length:Nat):Int))) = true then
 ((at? s_6 i_1).bind fun e9 =>
 mh N i_1 s_2 s_3 s_4 s_5 s_6 v_7 v_8 e9.Name e9.Inst e9.Req e9.Resp e9.Insts e9.Chans e9.Cells e9.At (qz N s_2 s_3 s_4 s_5 s_6 e9.Name e9.Inst e9.Req e9.Resp e9.Insts e9.Chans e9.Cells e9.At (fun r29 =>
 if (r29 != 0) = true then
 (kp1 r29 e9.At)
 else
 (iI N i_1 s_2 s_3 s_4 s_5 s_6 v_7 v_8 e9.Name e9.Inst e9.Req e9.Resp e9.Insts e9.Chans e9.Cells e9.At (rec (IntKind.wrap .i64 (i_1 + 1)))
 (fun y49 y50 =>
 kp1 y49 y50) N 0)))
 (fun y28 =>
 kp1 y28 e9.At) N 0)
 else
 (kp0 )
def jS (N:Nat) (s_2:Int) (s_3:List Chart) (s_4:List Inst) (s_5:List ai) (s_6:List Cert) (v_7 v_8:Int) (kp0:Option R) (kp1:Int→Int→Option R):Nat→Int→Option R
 | 0=>fun _=>none
 | n + 1=>fun i_1=>oR N s_2 s_3 s_4 s_5 s_6 v_7 v_8 kp0 kp1 (jS N s_2 s_3 s_4 s_5 s_6 v_7 v_8 kp0 kp1 n) i_1
def yI (N:Nat) (Age:Int) (Charts:List Chart) (Insts:List Inst) (Chans:List ai) (Certs:List Cert) (k0:Int→Int→Option R):Option R :=
 jS N Age Charts Insts Chans Certs 0 0 (k0 0 0)
 (fun y51 y52 =>
 k0 y51 y52) N 0
def Jp (N:Nat):FD E0:={ f:=43,fn:=Tryz.f43,q:=⟨[y18],[]⟩,loops:=[{ cur:=2,live:=[1,2,3,4,5],out:=fun | .exit 2=>([1,2,3,4],[]) | .ret=>([2],[]) | _=>([],[]),q:=⟨[.p 0 0 0,.p 1 0 0,.i .i64,.p 2 0 0,.i .i64],[z38,.bx [.i .i64,.i .i64],z36]⟩,G:=fun R K n a b c d e g h i j l m o p q s t u=>mh N a c d e g h i j l m o p q s t u (pK ⟨[.p 0 0 0,.p 1 0 0,.i .i64,.p 2 0 0],[z38,.bx [.i .i64,.i .i64],z36]⟩ (K (.exit 2)) a c d e g h i j l m o p q s t u) (fun v=>pK ⟨[.p 0 0 0],[.bx [.i .i64,.i .i64]]⟩ (K .ret) v u) n b,B:=fun R K rec a b c d e g h i j l m o p q s t u=>oO N a c d e g h i j l m o p q s t u (pK ⟨[.p 0 0 0,.p 1 0 0,.i .i64,.p 2 0 0],[z38,.bx [.i .i64,.i .i64],z36]⟩ (K (.exit 2)) a c d e g h i j l m o p q s t u) (fun v=>pK ⟨[.p 0 0 0],[.bx [.i .i64,.i .i64]]⟩ (K .ret) v u) (fun b=>rec a b c d e g h i j l m o p q s t u) b },{ cur:=4,live:=[1,2,3,4,7],out:=fun | .exit 4=>([1,2,3],[]) | .ret=>([2],[]) | _=>([],[]),q:=⟨[.p 0 0 0,.p 1 0 0,.i .i64,.p 2 0 0,.i .i64],[z38,.bx [.i .i64,.i .i64],z36]⟩,G:=fun R K n a b c d e g h i j l m o p q s t u=>iI N a c d e g h i j l m o p q s t u (pK ⟨[.p 0 0 0,.p 1 0 0,.i .i64],[z38,.bx [.i .i64,.i .i64]]⟩ (K (.exit 4)) a c d e g h i j) (pK ⟨[.p 0 0 0],[.bx [.i .i64,.i .i64]]⟩ (K .ret)) n b,B:=fun R K rec a b c d e g h i j l m o p q s t u=>oP N a c d e g h i j l m o p q s t u (pK ⟨[.p 0 0 0,.p 1 0 0,.i .i64],[z38,.bx [.i .i64,.i .i64]]⟩ (K (.exit 4)) a c d e g h i j) (pK ⟨[.p 0 0 0],[.bx [.i .i64,.i .i64]]⟩ (K .ret)) (fun b=>rec a b c d e g h i j l m o p q s t u) b },{ cur:=0,live:=[1,2,3],out:=fun | .exit 0=>([2],[]) | .ret=>([2],[]) | _=>([],[]),q:=⟨[.p 0 0 0,.p 1 0 0,.i .i64],[z38,.bx [.i .i64,.i .i64]]⟩,G:=fun R K n a b c d e g h i=>jS N b c d e g h i (pK ⟨[.p 0 0 0],[.bx [.i .i64,.i .i64]]⟩ (K (.exit 0)) h i) (pK ⟨[.p 0 0 0],[.bx [.i .i64,.i .i64]]⟩ (K .ret)) n a,B:=fun R K rec a b c d e g h i=>oR N b c d e g h i (pK ⟨[.p 0 0 0],[.bx [.i .i64,.i .i64]]⟩ (K (.exit 0)) h i) (pK ⟨[.p 0 0 0],[.bx [.i .i64,.i .i64]]⟩ (K .ret)) (fun a=>rec a b c d e g h i) a }],g:=[ll N,FZ N,Lj N] }
def Jq (N:Nat):OC E0:=⟨_,FD.ct e0 (Jp N) N (fun R k a b c d e=>yI N a b c d e (oK ⟨.ag [.i .i64,.i .i64],[],[]⟩ k))⟩
def oS (N:Nat) (s_3:Int) (s_4:List Chart) (s_5:List Inst) (s_6:List ai) (s_7:List Cert) (v_8 v_9:Int) (kp0:Option R) (kp1:Int→Int→Option R) (rec:Int→Option R) (i_2:Int):Option R :=
 if (decide (i_2 < ((s_4.length:Nat):Int))) = true then
 (yG N s_4 i_2 (fun r10 r11 =>
 if (r10 != 0) = true then
 (kp1 r10 r11)
 else
 (rec (IntKind.wrap .i64 (i_2 + 1)))))
 else
 (kp0 )
def mi (N:Nat) (s_3:Int) (s_4:List Chart) (s_5:List Inst) (s_6:List ai) (s_7:List Cert) (v_8 v_9:Int) (kp0:Option R) (kp1:Int→Int→Option R):Nat→Int→Option R
 | 0=>fun _=>none
 | n + 1=>fun i_2=>oS N s_3 s_4 s_5 s_6 s_7 v_8 v_9 kp0 kp1 (mi N s_3 s_4 s_5 s_6 s_7 v_8 v_9 kp0 kp1 n) i_2
def iR (N:Nat) (s_18:Int) (s_19:List Chart) (s_20:List Inst) (s_21:List ai) (s_22:List Cert) (v_23 v_24 f_25 f_26:Int) (kp0:Int→Int→Option R):Option R :=
 if (f_25 == 0) = true then
 (yI N s_18 s_19 s_20 s_21 s_22 (fun r27 r28 =>
 kp0 r27 r28))
 else
 (kp0 f_25 f_26)
def r12_Check (N:Nat) (Age:Int) (Charts:List Chart) (Insts:List Inst) (Chans:List ai) (Certs:List Cert) (k0:Int→Int→Option R):Option R :=
 (ifB (decide (Age < 1)) false (some (decide (Age > 65536))) (some true)).bind fun c1 =>
 if c1 = true then
 (k0 16 0)
 else
 (if (((Insts.length:Nat):Int) == 0) = true then
 (k0 7 0)
 else
 (mi N Age Charts Insts Chans Certs 0 0 (uX N Age Charts Insts Chans Certs (fun r14 r15 =>
 if (r14 == 0) = true then
 (uZ N Age Charts Insts Chans Certs (fun r16 r17 =>
 iR N Age Charts Insts Chans Certs 0 0 r16 r17 (fun y29 y30 =>
 k0 y29 y30)))
 else
 (iR N Age Charts Insts Chans Certs 0 0 r14 r15 (fun y31 y32 =>
 k0 y31 y32))))
 (fun y12 y13 =>
 k0 y12 y13) N 0))
def Jr (N:Nat):FD E0:={ f:=11,fn:=Tryz.f11,q:=⟨[y18],[]⟩,loops:=[{ cur:=0,live:=[1,2,3],out:=fun | .exit 0=>([1,2],[]) | .ret=>([2],[]) | _=>([],[]),q:=⟨[.p 0 0 0,.p 1 0 0,.i .i64],[z38,.bx [.i .i64,.i .i64]]⟩,G:=fun R K n a b c d e g h i=>mi N b c d e g h i (pK ⟨[.p 0 0 0,.p 1 0 0],[z38,.bx [.i .i64,.i .i64]]⟩ (K (.exit 0)) b c d e g h i) (pK ⟨[.p 0 0 0],[.bx [.i .i64,.i .i64]]⟩ (K .ret)) n a,B:=fun R K rec a b c d e g h i=>oS N b c d e g h i (pK ⟨[.p 0 0 0,.p 1 0 0],[z38,.bx [.i .i64,.i .i64]]⟩ (K (.exit 0)) b c d e g h i) (pK ⟨[.p 0 0 0],[.bx [.i .i64,.i .i64]]⟩ (K .ret)) (fun a=>rec a b c d e g h i) a }],cuts:=[{ key:=14,live:=[1,2,5],out:=fun | .ret=>([2],[]) | _=>([],[]),q:=⟨[.p 0 0 0,.p 1 0 0,.p 2 0 0],[z38,.bx [.i .i64,.i .i64],.bx [.i .i64,.i .i64]]⟩,G:=fun R K a b c d e g h i j=>iR N a b c d e g h i j (pK ⟨[.p 0 0 0],[.bx [.i .i64,.i .i64]]⟩ (K .ret)) }],g:=[ll N,Ja N,Jd N,Jf N,Jq N] }
def Js (N:Nat):OC E0:=⟨_,FD.ct e0 (Jr N) N (fun R k a b c d e=>r12_Check N a b c d e (oK ⟨.ag [.i .i64,.i .i64],[],[]⟩ k))⟩
end
end So
