/- T3_4: a part of the proof of SoundCerts: lemmas on the evaluator and on the functions that the law reaches. -/
import Derived.Test.YtcllbmdpckfnhaaGreatT33
set_option maxRecDepth 100000
set_option linter.unusedVariables false
namespace So
open Go TE Go.Proofs
noncomputable section
variable {R:Type}
def fI (N:Nat) (v_2:List (List (List UInt8))) (v_3 c_5:Int) (c_6:List Chart) (c_7:List Inst) (c_8:List ai) (c_9:List Cert) (c_10 c_11:Int) (x_12 x_13 x_14 x_15:List UInt8) (x_16 x_17:List (List UInt8)) (x_18:List Cell) (x_19 cell_20:Int) (cell_21 cell_22:List (List (List UInt8))) (cell_23:Int) (kp0:Option R) (kp1:Bool→Option R) (rec:Int→Option R) (v_4:Int):Option R :=
 if (decide (v_4 < v_3)) = true then
 ((at? v_2 v_4).bind fun e24 =>
 (at? x_16 v_4).bind fun e25 =>
 bw N e25 c_5 c_6 c_7 c_8 c_9 c_10 c_11 (fun r26 r27 r28 r29 r30 r31 r32 r33 r34 =>
 (ifB (decide (((e24.length:Nat):Int) > 0)) true (rf N r32 e24 (fun r35 =>
 some (!r35))) (some false)).bind fun c36 =>
 if c36 = true then
 (kp1 false)
 else
 (rec (IntKind.wrap .i64 (v_4 + 1)))))
 else
 (kp0 )
def cZ (N:Nat) (v_2:List (List (List UInt8))) (v_3 c_5:Int) (c_6:List Chart) (c_7:List Inst) (c_8:List ai) (c_9:List Cert) (c_10 c_11:Int) (x_12 x_13 x_14 x_15:List UInt8) (x_16 x_17:List (List UInt8)) (x_18:List Cell) (x_19 cell_20:Int) (cell_21 cell_22:List (List (List UInt8))) (cell_23:Int) (kp0:Option R) (kp1:Bool→Option R):Nat→Int→Option R
 | 0=>fun _=>none
 | n + 1=>fun v_4=>fI N v_2 v_3 c_5 c_6 c_7 c_8 c_9 c_10 c_11 x_12 x_13 x_14 x_15 x_16 x_17 x_18 x_19 cell_20 cell_21 cell_22 cell_23 kp0 kp1 (cZ N v_2 v_3 c_5 c_6 c_7 c_8 c_9 c_10 c_11 x_12 x_13 x_14 x_15 x_16 x_17 x_18 x_19 cell_20 cell_21 cell_22 cell_23 kp0 kp1 n) v_4
def fJ (N:Nat) (v_38:List (List (List UInt8))) (v_39 c_41:Int) (c_42:List Chart) (c_43:List Inst) (c_44:List ai) (c_45:List Cert) (c_46 c_47:Int) (x_48 x_49 x_50 x_51:List UInt8) (x_52 x_53:List (List UInt8)) (x_54:List Cell) (x_55:Int) (kp0:Option R) (kp1:Bool→Option R) (rec:Int→Option R) (v_40:Int):Option R :=
 if (decide (v_40 < v_39)) = true then
 ((at? v_38 v_40).bind fun e56 =>
 (at? x_53 v_40).bind fun e57 =>
 fQ N c_44 e57 (fun r58 =>
 (ifB (decide (r58 < 0)) false ((at? c_44 r58).bind fun e59 =>
 some (decide (((e56.length:Nat):Int) > e59.Cap))) (some true)).bind fun c60 =>
 if c60 = true then
 (kp1 false)
 else
 (rec (IntKind.wrap .i64 (v_40 + 1)))))
 else
 (kp0 )
def bz (N:Nat) (v_38:List (List (List UInt8))) (v_39 c_41:Int) (c_42:List Chart) (c_43:List Inst) (c_44:List ai) (c_45:List Cert) (c_46 c_47:Int) (x_48 x_49 x_50 x_51:List UInt8) (x_52 x_53:List (List UInt8)) (x_54:List Cell) (x_55:Int) (kp0:Option R) (kp1:Bool→Option R):Nat→Int→Option R
 | 0=>fun _=>none
 | n + 1=>fun v_40=>fJ N v_38 v_39 c_41 c_42 c_43 c_44 c_45 c_46 c_47 x_48 x_49 x_50 x_51 x_52 x_53 x_54 x_55 kp0 kp1 (bz N v_38 v_39 c_41 c_42 c_43 c_44 c_45 c_46 c_47 x_48 x_49 x_50 x_51 x_52 x_53 x_54 x_55 kp0 kp1 n) v_40
def jK (N:Nat) (Name Inst_ Req Resp:List UInt8) (Insts Chans:List (List UInt8)) (Cells:List Cell) (At Rank:Int) (Sets Msgs:List (List (List UInt8))) (At_2 Age:Int) (Charts:List Chart) (Insts_2:List Inst) (Chans_2:List ai) (Certs:List Cert) (Code At_3:Int) (k0:Bool→Option R):Option R :=
 (ifB (((Sets.length:Nat):Int) != ((Insts.length:Nat):Int)) false (some (((Msgs.length:Nat):Int) != ((Chans.length:Nat):Int))) (some true)).bind fun c1 =>
 if c1 = true then
 (k0 false)
 else
 (cZ N Sets ((Sets.length:Nat):Int) Age Charts Insts_2 Chans_2 Certs Code At_3 Name Inst_ Req Resp Insts Chans Cells At Rank Sets Msgs At_2 (bz N Msgs ((Msgs.length:Nat):Int) Age Charts Insts_2 Chans_2 Certs Code At_3 Name Inst_ Req Resp Insts Chans Cells At (k0 true)
 (fun y61 =>
 k0 y61) N 0)
 (fun y37 =>
 k0 y37) N 0)
def xW (N:Nat):FD E0:={ f:=86,fn:=Tryz.f86,q:=⟨[.p 0 0 0,y17,y16],[z34]⟩,loops:=[{ cur:=0,live:=[0,4,5,31,32,33],out:=fun | .exit 0=>([0,4,5],[]) | .ret=>([6],[]) | _=>([],[]),q:=⟨[.p 0 0 0,.p 1 0 0,.p 2 0 0,.t .strs,.i .i64,.i .i64],[z34,z36,z37]⟩,G:=fun R K n a b c d e g h i j l m o p q s t u v w x y z=>cZ N a b d e g h i j l m o p q s t u v w x y z (pK ⟨[.p 0 0 0,.p 1 0 0,.p 2 0 0],[z34,z36,z37]⟩ (K (.exit 0)) d e g h i j l m o p q s t u v w x y z) (fun a1=>pK ⟨[.b],[z34]⟩ (K .ret) a1 d e g h i j l) n c,B:=fun R K rec a b c d e g h i j l m o p q s t u v w x y z=>fI N a b d e g h i j l m o p q s t u v w x y z (pK ⟨[.p 0 0 0,.p 1 0 0,.p 2 0 0],[z34,z36,z37]⟩ (K (.exit 0)) d e g h i j l m o p q s t u v w x y z) (fun a1=>pK ⟨[.b],[z34]⟩ (K .ret) a1 d e g h i j l) (fun c=>rec a b c d e g h i j l m o p q s t u v w x y z) c },{ cur:=2,live:=[0,4,60,61,62],out:=fun | .exit 2=>([],[]) | .ret=>([6],[]) | _=>([],[]),q:=⟨[.p 0 0 0,.p 1 0 0,.t .strs,.i .i64,.i .i64],[z34,z36]⟩,G:=fun R K n a b c d e g h i j l m o p q s t u v=>bz N a b d e g h i j l m o p q s t u v (pK ⟨[],[z34]⟩ (K (.exit 2)) d e g h i j l) (fun w=>pK ⟨[.b],[z34]⟩ (K .ret) w d e g h i j l) n c,B:=fun R K rec a b c d e g h i j l m o p q s t u v=>fJ N a b d e g h i j l m o p q s t u v (pK ⟨[],[z34]⟩ (K (.exit 2)) d e g h i j l) (fun w=>pK ⟨[.b],[z34]⟩ (K .ret) w d e g h i j l) (fun c=>rec a b c d e g h i j l m o p q s t u v) c }],g:=[fE N,ov N,ER N] }
def xX (N:Nat):OC E0:=⟨_,FD.ctq e0 (xW N) N (fun R k a b c d e g h i j l m o p q s t u v w=>jK N a b c d e g h i j l m o p q s t u v w (oQ ⟨.b,[],[]⟩ k))⟩
def qK (N:Nat) (s:List UInt8) (a1_0:List (List UInt8)) (k0:Bool→Option R):Option R :=
 bq N a1_0 s (fun r1 =>
 k0 (!r1))
def Bs (N:Nat):FD E0:={ f:=169,fn:=Tryz.f169,q:=⟨[.st,.p 0 0 0],[.bx [.t .str]]⟩,g:=[mK N] }
def Bt (N:Nat):OC E0:=⟨_,FD.ctq e0 (Bs N) N (fun R k a b=>qK N a b (oQ ⟨.b,[],[]⟩ k))⟩
def dn (N:Nat) (s_1:List (List UInt8)) (v_2:Int) (f_4:List (List UInt8)) (kp0:Option R) (kp1:Int→Option R) (rec:Int→Option R) (v_3:Int):Option R :=
 if (decide (v_3 < v_2)) = true then
 ((at? s_1 v_3).bind fun e5 =>
 qK N e5 f_4 (fun r6 =>
 if r6 = true then
 (kp1 v_3)
 else
 (rec (IntKind.wrap .i64 (v_3 + 1)))))
 else
 (kp0 )
def bV (N:Nat) (s_1:List (List UInt8)) (v_2:Int) (f_4:List (List UInt8)) (kp0:Option R) (kp1:Int→Option R):Nat→Int→Option R
 | 0=>fun _=>none
 | n + 1=>fun v_3=>dn N s_1 v_2 f_4 kp0 kp1 (bV N s_1 v_2 f_4 kp0 kp1 n) v_3
def ji (N:Nat) (s f_c0_0:List (List UInt8)) (k0:Int→Option R):Option R :=
 bV N s ((s.length:Nat):Int) f_c0_0 (k0 (-1))
 (fun y7 =>
 k0 y7) N 0
def sU (N:Nat):FD E0:={ f:=187,fn:=Tryz.f187,q:=⟨[.t .str,.fn 169 [.p 0 0 0]],[.bx [.t .str]]⟩,loops:=[{ cur:=0,live:=[0,1,7,8],out:=fun | .exit 0=>([],[]) | .ret=>([4],[]) | _=>([],[]),q:=⟨[.t .str,.fn 169 [.p 0 0 0],.i .i64,.i .i64],[.bx [.t .str]]⟩,G:=fun R K n a b c d=>bV N a b d (pK ⟨[],[.bx [.t .str]]⟩ (K (.exit 0)) d) (fun e=>pK ⟨[.i .i64],[.bx [.t .str]]⟩ (K .ret) e d) n c,B:=fun R K rec a b c d=>dn N a b d (pK ⟨[],[.bx [.t .str]]⟩ (K (.exit 0)) d) (fun e=>pK ⟨[.i .i64],[.bx [.t .str]]⟩ (K .ret) e d) (fun c=>rec a b c d) c }],g:=[Bt N] }
def sV (N:Nat):OC E0:=⟨_,FD.ctq e0 (sU N) N (fun R k a b=>ji N a b (oQ ⟨.i .i64,[],[]⟩ k))⟩
def dW (N:Nat) (s f_c0_0:List (List UInt8)) (k0:Bool→Option R):Option R :=
 ji N s f_c0_0 (fun r1 =>
 k0 (decide (r1 ≥ 0)))
def qL (N:Nat):FD E0:={ f:=168,fn:=Tryz.f168,q:=⟨[.t .str,.fn 169 [.p 0 0 0]],[.bx [.t .str]]⟩,g:=[sV N] }
def qM (N:Nat):OC E0:=⟨_,FD.ctq e0 (qL N) N (fun R k a b=>dW N a b (oQ ⟨.b,[],[]⟩ k))⟩
def pL (N:Nat) (a b:List (List UInt8)) (k0:Bool→Option R):Option R :=
 (ifB (((a.length:Nat):Int) == ((b.length:Nat):Int)) true (dW N a b (fun r1 =>
 some (!r1))) (some false)).bind fun c2 =>
 k0 c2
def Dx (N:Nat):FD E0:={ f:=143,fn:=Tryz.f143,q:=⟨[.t .str,.t .str],[]⟩,g:=[qM N] }
def Dy (N:Nat):OC E0:=⟨_,FD.ct e0 (Dx N) N (fun R k a b=>pL N a b (oK ⟨.b,[],[]⟩ k))⟩
def cJ (N:Nat) (s2_1 v_2:List (List (List UInt8))) (v_3:Int) (kp0:Option R) (kp1:Bool→Option R) (rec:Int→Option R) (v_4:Int):Option R :=
 if (decide (v_4 < v_3)) = true then
 ((at? v_2 v_4).bind fun e5 =>
 (at? s2_1 v_4).bind fun e6 =>
 pL N e5 e6 (fun r7 =>
 if (!r7) = true then
 (kp1 false)
 else
 (rec (IntKind.wrap .i64 (v_4 + 1)))))
 else
 (kp0 )
def bG (N:Nat) (s2_1 v_2:List (List (List UInt8))) (v_3:Int) (kp0:Option R) (kp1:Bool→Option R):Nat→Int→Option R
 | 0=>fun _=>none
 | n + 1=>fun v_4=>cJ N s2_1 v_2 v_3 kp0 kp1 (bG N s2_1 v_2 v_3 kp0 kp1 n) v_4
def eE (N:Nat) (s1 s2:List (List (List UInt8))) (k0:Bool→Option R):Option R :=
 if (((s1.length:Nat):Int) != ((s2.length:Nat):Int)) = true then
 (k0 false)
 else
 (bG N s2 s1 ((s1.length:Nat):Int) (k0 true)
 (fun y8 =>
 k0 y8) N 0)
def rh (N:Nat):FD E0:={ f:=142,fn:=Tryz.f142,q:=⟨[.t .strs,.t .strs,.fn 143 []],[]⟩,loops:=[{ cur:=0,live:=[1,2,15,16,17],out:=fun | .exit 0=>([],[]) | .ret=>([6],[]) | _=>([],[]),q:=⟨[.t .strs,.fn 143 [],.t .strs,.i .i64,.i .i64],[]⟩,G:=fun R K n a b c d=>bG N a b c (pK ⟨[],[]⟩ (K (.exit 0))) (pK ⟨[.b],[]⟩ (K .ret)) n d,B:=fun R K rec a b c d=>cJ N a b c (pK ⟨[],[]⟩ (K (.exit 0))) (pK ⟨[.b],[]⟩ (K .ret)) (rec a b c) d }],g:=[Dy N] }
def ri (N:Nat):OC E0:=⟨_,FD.ct e0 (rh N) N (fun R k a b=>eE N a b (oK ⟨.b,[],[]⟩ k))⟩
def eU (N:Nat) (s1_1 s2_2:List (List UInt8)) (v_3:Int) (kp0:Option R) (kp1:Bool→Option R) (rec:Int→Option R) (v_4:Int):Option R :=
 if (decide (v_4 < v_3)) = true then
 ((at? s1_1 v_4).bind fun e5 =>
 (at? s2_2 v_4).bind fun e6 =>
 if (!(e5 == e6)) = true then
 (kp1 false)
 else
 (rec (IntKind.wrap .i64 (v_4 + 1))))
 else
 (kp0 )
def cK (N:Nat) (s1_1 s2_2:List (List UInt8)) (v_3:Int) (kp0:Option R) (kp1:Bool→Option R):Nat→Int→Option R
 | 0=>fun _=>none
 | n + 1=>fun v_4=>eU N s1_1 s2_2 v_3 kp0 kp1 (cK N s1_1 s2_2 v_3 kp0 kp1 n) v_4
def jb (N:Nat) (s1 s2:List (List UInt8)) (k0:Bool→Option R):Option R :=
 if (((s1.length:Nat):Int) != ((s2.length:Nat):Int)) = true then
 (k0 false)
 else
 (cK N s1 s2 ((s1.length:Nat):Int) (k0 true)
 (fun y7 =>
 k0 y7) N 0)
def wZ (N:Nat):FD E0:={ f:=144,fn:=Tryz.f144,q:=⟨[.t .str,.t .str],[]⟩,loops:=[{ cur:=0,live:=[0,1,12,13],out:=fun | .exit 0=>([],[]) | .ret=>([4],[]) | _=>([],[]),q:=⟨[.t .str,.t .str,.i .i64,.i .i64],[]⟩,G:=fun R K n a b c d=>cK N a b c (pK ⟨[],[]⟩ (K (.exit 0))) (pK ⟨[.b],[]⟩ (K .ret)) n d,B:=fun R K rec a b c d=>eU N a b c (pK ⟨[],[]⟩ (K (.exit 0))) (pK ⟨[.b],[]⟩ (K .ret)) (rec a b c) d }] }
def xa (N:Nat):OC E0:=⟨_,FD.ct e0 (wZ N) N (fun R k a b=>jb N a b (oK ⟨.b,[],[]⟩ k))⟩
def cx (N:Nat) (s2_1 v_2:List (List (List UInt8))) (v_3:Int) (kp0:Option R) (kp1:Bool→Option R) (rec:Int→Option R) (v_4:Int):Option R :=
 if (decide (v_4 < v_3)) = true then
 ((at? v_2 v_4).bind fun e5 =>
 (at? s2_1 v_4).bind fun e6 =>
 jb N e5 e6 (fun r7 =>
 if (!r7) = true then
 (kp1 false)
 else
 (rec (IntKind.wrap .i64 (v_4 + 1)))))
 else
 (kp0 )
def bu (N:Nat) (s2_1 v_2:List (List (List UInt8))) (v_3:Int) (kp0:Option R) (kp1:Bool→Option R):Nat→Int→Option R
 | 0=>fun _=>none
 | n + 1=>fun v_4=>cx N s2_1 v_2 v_3 kp0 kp1 (bu N s2_1 v_2 v_3 kp0 kp1 n) v_4
def dE (N:Nat) (s1 s2:List (List (List UInt8))) (k0:Bool→Option R):Option R :=
 if (((s1.length:Nat):Int) != ((s2.length:Nat):Int)) = true then
 (k0 false)
 else
 (bu N s2 s1 ((s1.length:Nat):Int) (k0 true)
 (fun y8 =>
 k0 y8) N 0)
def qv (N:Nat):FD E0:={ f:=142,fn:=Tryz.f142,q:=⟨[.t .strs,.t .strs,.fn 144 []],[]⟩,loops:=[{ cur:=0,live:=[1,2,15,16,17],out:=fun | .exit 0=>([],[]) | .ret=>([6],[]) | _=>([],[]),q:=⟨[.t .strs,.fn 144 [],.t .strs,.i .i64,.i .i64],[]⟩,G:=fun R K n a b c d=>bu N a b c (pK ⟨[],[]⟩ (K (.exit 0))) (pK ⟨[.b],[]⟩ (K .ret)) n d,B:=fun R K rec a b c d=>cx N a b c (pK ⟨[],[]⟩ (K (.exit 0))) (pK ⟨[.b],[]⟩ (K .ret)) (rec a b c) d }],g:=[xa N] }
def qw (N:Nat):OC E0:=⟨_,FD.ct e0 (qv N) N (fun R k a b=>dE N a b (oK ⟨.b,[],[]⟩ k))⟩
def xY (N:Nat) (Rank:Int) (Sets Msgs:List (List (List UInt8))) (At Rank_2:Int) (Sets_2 Msgs_2:List (List (List UInt8))) (At_2:Int) (k0:Bool→Option R):Option R :=
 eE N Sets Sets_2 (fun r1 =>
 (ifB r1 true (dE N Msgs Msgs_2 (fun r2 =>
 some r2)) (some false)).bind fun c3 =>
 k0 c3)
def FR (N:Nat):FD E0:={ f:=89,fn:=Tryz.f89,q:=⟨[y16,y16],[]⟩,g:=[ri N,qw N] }
def FT (N:Nat):OC E0:=⟨_,FD.ct e0 (FR N) N (fun R k a b c d e g h i=>xY N a b c d e g h i (oK ⟨.b,[],[]⟩ k))⟩
def lk (N:Nat) (Rank:Int) (Sets Msgs:List (List (List UInt8))) (At a1_0:Int) (a1_1 a1_2:List (List (List UInt8))) (a1_3:Int) (k0:Bool→Option R):Option R :=
 xY N a1_0 a1_1 a1_2 a1_3 Rank Sets Msgs At (fun r1 =>
 k0 r1)
def vQ (N:Nat):FD E0:={ f:=88,fn:=Tryz.f88,q:=⟨[y16,.p 0 0 0],[z37]⟩,g:=[FT N] }
def vR (N:Nat):OC E0:=⟨_,FD.ctq e0 (vQ N) N (fun R k a b c d e g h i=>lk N a b c d e g h i (oQ ⟨.b,[],[]⟩ k))⟩
def dX (N:Nat) (s_1:List Cell) (v_2 f_4:Int) (f_5 f_6:List (List (List UInt8))) (f_7:Int) (kp0:Option R) (kp1:Int→Option R) (rec:Int→Option R) (v_3:Int):Option R :=
 if (decide (v_3 < v_2)) = true then
 ((at? s_1 v_3).bind fun e8 =>
 lk N e8.Rank e8.Sets e8.Msgs e8.At f_4 f_5 f_6 f_7 (fun r9 =>
 if r9 = true then
 (kp1 v_3)
 else
 (rec (IntKind.wrap .i64 (v_3 + 1)))))
 else
 (kp0 )
def cn (N:Nat) (s_1:List Cell) (v_2 f_4:Int) (f_5 f_6:List (List (List UInt8))) (f_7:Int) (kp0:Option R) (kp1:Int→Option R):Nat→Int→Option R
 | 0=>fun _=>none
 | n + 1=>fun v_3=>dX N s_1 v_2 f_4 f_5 f_6 f_7 kp0 kp1 (cn N s_1 v_2 f_4 f_5 f_6 f_7 kp0 kp1 n) v_3
def kE (N:Nat) (s:List Cell) (f_c0_0:Int) (f_c0_1 f_c0_2:List (List (List UInt8))) (f_c0_3:Int) (k0:Int→Option R):Option R :=
 cn N s ((s.length:Nat):Int) f_c0_0 f_c0_1 f_c0_2 f_c0_3 (k0 (-1))
 (fun y10 =>
 k0 y10) N 0
def uT (N:Nat):FD E0:={ f:=141,fn:=Tryz.f141,q:=⟨[.t .cell,.fn 88 [.p 0 0 0]],[z37]⟩,loops:=[{ cur:=0,live:=[0,1,7,8],out:=fun | .exit 0=>([],[]) | .ret=>([4],[]) | _=>([],[]),q:=⟨[.t .cell,.fn 88 [.p 0 0 0],.i .i64,.i .i64],[z37]⟩,G:=fun R K n a b c d e g h=>cn N a b d e g h (pK ⟨[],[z37]⟩ (K (.exit 0)) d e g h) (fun i=>pK ⟨[.i .i64],[z37]⟩ (K .ret) i d e g h) n c,B:=fun R K rec a b c d e g h=>dX N a b d e g h (pK ⟨[],[z37]⟩ (K (.exit 0)) d e g h) (fun i=>pK ⟨[.i .i64],[z37]⟩ (K .ret) i d e g h) (fun c=>rec a b c d e g h) c }],g:=[vR N] }
def uU (N:Nat):OC E0:=⟨_,FD.ctq e0 (uT N) N (fun R k a b c d e=>kE N a b c d e (oQ ⟨.i .i64,[],[]⟩ k))⟩
def eV (N:Nat) (s:List Cell) (f_c0_0:Int) (f_c0_1 f_c0_2:List (List (List UInt8))) (f_c0_3:Int) (k0:Bool→Option R):Option R :=
 kE N s f_c0_0 f_c0_1 f_c0_2 f_c0_3 (fun r1 =>
 k0 (decide (r1 ≥ 0)))
def sn (N:Nat):FD E0:={ f:=87,fn:=Tryz.f87,q:=⟨[.t .cell,.fn 88 [.p 0 0 0]],[z37]⟩,g:=[uU N] }
def sq (N:Nat):OC E0:=⟨_,FD.ctq e0 (sn N) N (fun R k a b c d e=>eV N a b c d e (oQ ⟨.b,[],[]⟩ k))⟩
def fK (N:Nat) (v_1:List (List UInt8)) (v_2 c_4:Int) (c_5:List Chart) (c_6:List Inst) (c_7:List ai) (c_8:List Cert) (x_11 x_12 x_13 x_14:List UInt8) (x_15 x_16:List (List UInt8)) (x_17:List Cell) (x_18:Int) (kp0:Int→Int→Option R) (rec:Int→Int→Int→Option R) (v_3 c_9 c_10:Int):Option R :=
 if (decide (v_3 < v_2)) = true then
 ((at? v_1 v_3).bind fun e19 =>
 bw N e19 c_4 c_5 c_6 c_7 c_8 c_9 c_10 (fun r20 r21 r22 r23 r24 r25 r26 r27 r28 =>
 ae N r28 7 x_18 c_4 c_5 c_6 c_7 c_8 c_9 c_10 (fun r29 r30 =>
 if (0:Int) ≤ 0 ∧ 0 ≤ v_3 ∧ v_3 ≤ ((x_15.length:Nat):Int) then (bq N ((x_15.take v_3.toNat).drop (Int.toNat 0)) e19 (fun r31 =>
 ae N (!r31) 8 x_18 c_4 c_5 c_6 c_7 c_8 r29 r30 (fun r32 r33 =>
 sound_flat N r26 (fun r34 =>
 dD N r34 (fun r35 =>
 ae N (!r35) 17 x_18 c_4 c_5 c_6 c_7 c_8 r32 r33 (fun r36 r37 =>
 rec (IntKind.wrap .i64 (v_3 + 1)) r36 r37)))))) else none)))
 else
 (kp0 c_9 c_10)
def da (N:Nat) (v_1:List (List UInt8)) (v_2 c_4:Int) (c_5:List Chart) (c_6:List Inst) (c_7:List ai) (c_8:List Cert) (x_11 x_12 x_13 x_14:List UInt8) (x_15 x_16:List (List UInt8)) (x_17:List Cell) (x_18:Int) (kp0:Int→Int→Option R):Nat→Int→Int→Int→Option R
 | 0=>fun _ _ _=>none
 | n + 1=>fun v_3 c_9 c_10=>fK N v_1 v_2 c_4 c_5 c_6 c_7 c_8 x_11 x_12 x_13 x_14 x_15 x_16 x_17 x_18 kp0 (da N v_1 v_2 c_4 c_5 c_6 c_7 c_8 x_11 x_12 x_13 x_14 x_15 x_16 x_17 x_18 kp0 n) v_3 c_9 c_10
def fL (N:Nat) (v_89:List (List UInt8)) (v_90 c_92:Int) (c_93:List Chart) (c_94:List Inst) (c_95:List ai) (c_96:List Cert) (x_99 x_100 x_101 x_102:List UInt8) (x_103 x_104:List (List UInt8)) (x_105:List Cell) (x_106:Int) (kp0:Int→Int→Option R) (rec:Int→Int→Int→Option R) (v_91 c_97 c_98:Int):Option R :=
 if (decide (v_91 < v_90)) = true then
 ((at? v_89 v_91).bind fun e107 =>
 fQ N c_95 e107 (fun r108 =>
 ae N (decide (r108 ≥ 0)) 7 x_106 c_92 c_93 c_94 c_95 c_96 c_97 c_98 (fun r109 r110 =>
 if (0:Int) ≤ 0 ∧ 0 ≤ v_91 ∧ v_91 ≤ ((x_104.length:Nat):Int) then (bq N ((x_104.take v_91.toNat).drop (Int.toNat 0)) e107 (fun r111 =>
 ae N (!r111) 8 x_106 c_92 c_93 c_94 c_95 c_96 r109 r110 (fun r112 r113 =>
 if (decide (r108 ≥ 0)) = true then
 ((at? c_95 r108).bind fun e114 =>
 bq N x_103 e114.From (fun r115 =>
 (ifB r115 true ((at? c_95 r108).bind fun e116 =>
 bq N x_103 e116.To (fun r117 =>
 some r117)) (some false)).bind fun c118 =>
 ae N c118 17 x_106 c_92 c_93 c_94 c_95 c_96 r112 r113 (fun r119 r120 =>
 rec (IntKind.wrap .i64 (v_91 + 1)) r119 r120)))
 else
 (rec (IntKind.wrap .i64 (v_91 + 1)) r112 r113)))) else none)))
 else
 (kp0 c_97 c_98)
def cr (N:Nat) (v_89:List (List UInt8)) (v_90 c_92:Int) (c_93:List Chart) (c_94:List Inst) (c_95:List ai) (c_96:List Cert) (x_99 x_100 x_101 x_102:List UInt8) (x_103 x_104:List (List UInt8)) (x_105:List Cell) (x_106:Int) (kp0:Int→Int→Option R):Nat→Int→Int→Int→Option R
 | 0=>fun _ _ _=>none
 | n + 1=>fun v_91 c_97 c_98=>fL N v_89 v_90 c_92 c_93 c_94 c_95 c_96 x_99 x_100 x_101 x_102 x_103 x_104 x_105 x_106 kp0 (cr N v_89 v_90 c_92 c_93 c_94 c_95 c_96 x_99 x_100 x_101 x_102 x_103 x_104 x_105 x_106 kp0 n) v_91 c_97 c_98
def fM (N:Nat) (v_138:List Cell) (v_139 c_141:Int) (c_142:List Chart) (c_143:List Inst) (c_144:List ai) (c_145:List Cert) (x_148 x_149 x_150 x_151:List UInt8) (x_152 x_153:List (List UInt8)) (x_154:List Cell) (x_155:Int) (kp0:Int→Int→Option R) (rec:Int→Int→Int→Option R) (v_140 c_146 c_147:Int):Option R :=
 if (decide (v_140 < v_139)) = true then
 ((at? v_138 v_140).bind fun e156 =>
 dj N e156.Rank 0 64 (fun r157 =>
 ae N r157 16 e156.At c_141 c_142 c_143 c_144 c_145 c_146 c_147 (fun r158 r159 =>
 jK N x_148 x_149 x_150 x_151 x_152 x_153 x_154 x_155 e156.Rank e156.Sets e156.Msgs e156.At c_141 c_142 c_143 c_144 c_145 r158 r159 (fun r160 =>
 ae N r160 18 e156.At c_141 c_142 c_143 c_144 c_145 r158 r159 (fun r161 r162 =>
 if (0:Int) ≤ 0 ∧ 0 ≤ v_140 ∧ v_140 ≤ ((x_154.length:Nat):Int) then (eV N ((x_154.take v_140.toNat).drop (Int.toNat 0)) e156.Rank e156.Sets e156.Msgs e156.At (fun r163 =>
 ae N (!r163) 8 e156.At c_141 c_142 c_143 c_144 c_145 r161 r162 (fun r164 r165 =>
 rec (IntKind.wrap .i64 (v_140 + 1)) r164 r165))) else none)))))
 else
 (kp0 c_146 c_147)
def cu (N:Nat) (v_138:List Cell) (v_139 c_141:Int) (c_142:List Chart) (c_143:List Inst) (c_144:List ai) (c_145:List Cert) (x_148 x_149 x_150 x_151:List UInt8) (x_152 x_153:List (List UInt8)) (x_154:List Cell) (x_155:Int) (kp0:Int→Int→Option R):Nat→Int→Int→Int→Option R
 | 0=>fun _ _ _=>none
 | n + 1=>fun v_140 c_146 c_147=>fM N v_138 v_139 c_141 c_142 c_143 c_144 c_145 x_148 x_149 x_150 x_151 x_152 x_153 x_154 x_155 kp0 (cu N v_138 v_139 c_141 c_142 c_143 c_144 c_145 x_148 x_149 x_150 x_151 x_152 x_153 x_154 x_155 kp0 n) v_140 c_146 c_147
def dY (N:Nat) (c_123:Int) (c_124:List Chart) (c_125:List Inst) (c_126:List ai) (c_127:List Cert) (c_128 c_129:Int) (x_130 x_131 x_132 x_133:List UInt8) (x_134 x_135:List (List UInt8)) (x_136:List Cell) (x_137:Int) (kp0:Option R) (kp1:Int→Int→Option R):Option R :=
 if (c_128 != 0) = true then
 (kp0 )
 else
 (cu N x_136 ((x_136.length:Nat):Int) c_123 c_124 c_125 c_126 c_127 x_130 x_131 x_132 x_133 x_134 x_135 x_136 x_137 (fun y166 y167 =>
 kp1 y166 y167) N 0 c_128 c_129)
def jL (N:Nat) (c_72:Int) (c_73:List Chart) (c_74:List Inst) (c_75:List ai) (c_76:List Cert) (c_77 c_78:Int) (x_79 x_80 x_81 x_82:List UInt8) (x_83 x_84:List (List UInt8)) (x_85:List Cell) (x_86:Int) (kp0 kp1:Int→Int→Option R):Option R :=
 ae N (!(x_81 == x_82)) 17 x_86 c_72 c_73 c_74 c_75 c_76 c_77 c_78 (fun r87 r88 =>
 cr N x_84 ((x_84.length:Nat):Int) c_72 c_73 c_74 c_75 c_76 x_79 x_80 x_81 x_82 x_83 x_84 x_85 x_86 (fun y121 y122 =>
 dY N c_72 c_73 c_74 c_75 c_76 y121 y122 x_79 x_80 x_81 x_82 x_83 x_84 x_85 x_86 (kp0 y121 y122)
 (fun y168 y169 =>
 kp1 y168 y169)) N 0 r87 r88)
def hI (N:Nat) (c_40:Int) (c_41:List Chart) (c_42:List Inst) (c_43:List ai) (c_44:List Cert) (c_45 c_46:Int) (x_47 x_48 x_49 x_50:List UInt8) (x_51 x_52:List (List UInt8)) (x_53:List Cell) (x_54:Int) (kp0 kp1:Int→Int→Option R):Option R :=
 bw N x_48 c_40 c_41 c_42 c_43 c_44 c_45 c_46 (fun r55 r56 r57 r58 r59 r60 r61 r62 r63 =>
 sound_flat N r61 (fun r64 =>
 bq N x_51 x_48 (fun r65 =>
 (ifB r65 true (iF N x_49 r64 (fun r66 =>
 some r66)) (some false)).bind fun c67 =>
 (ifB c67 true (iF N x_50 r64 (fun r68 =>
 some r68)) (some false)).bind fun c69 =>
 ae N c69 7 x_54 c_40 c_41 c_42 c_43 c_44 c_45 c_46 (fun r70 r71 =>
 jL N c_40 c_41 c_42 c_43 c_44 r70 r71 x_47 x_48 x_49 x_50 x_51 x_52 x_53 x_54 (fun y170 y171 =>
 kp0 y170 y171)
 (fun y172 y173 =>
 kp1 y172 y173)))))
def jM (N:Nat) (Name Inst_ Req Resp:List UInt8) (Insts Chans:List (List UInt8)) (Cells:List Cell) (At Age:Int) (Charts:List Chart) (Insts_2:List Inst) (Chans_2:List ai) (Certs:List Cert) (Code At_2:Int) (k0:Int→Int→Option R):Option R :=
 da N Insts ((Insts.length:Nat):Int) Age Charts Insts_2 Chans_2 Certs Name Inst_ Req Resp Insts Chans Cells At (fun y38 y39 =>
 hI N Age Charts Insts_2 Chans_2 Certs y38 y39 Name Inst_ Req Resp Insts Chans Cells At (fun y174 y175 =>
 k0 y174 y175)
 (fun y176 y177 =>
 k0 y176 y177)) N 0 Code At_2
def xZ (N:Nat):FD E0:={ f:=38,fn:=Tryz.f38,q:=⟨[.p 0 0 0,y17],[z34]⟩,loops:=[{ cur:=0,live:=[0,3,18,19,20],out:=fun | .exit 0=>([0,3],[]) | _=>([],[]),q:=⟨[.p 0 0 0,.p 1 0 0,.t .str,.i .i64,.i .i64],[z34,z36]⟩,G:=fun R K n a b c d e g h i j l m o p q s t u v=>da N a b d e g h i m o p q s t u v (fun w x=>pK ⟨[.p 0 0 0,.p 1 0 0],[z34,z36]⟩ (K (.exit 0)) d e g h i w x m o p q s t u v) n c j l,B:=fun R K rec a b c d e g h i j l m o p q s t u v=>fK N a b d e g h i m o p q s t u v (fun w x=>pK ⟨[.p 0 0 0,.p 1 0 0],[z34,z36]⟩ (K (.exit 0)) d e g h i w x m o p q s t u v) (fun c j l=>rec a b c d e g h i j l m o p q s t u v) c j l },{ cur:=2,live:=[0,3,99,100,101],out:=fun | .exit 2=>([0,3],[]) | _=>([],[]),q:=⟨[.p 0 0 0,.p 1 0 0,.t .str,.i .i64,.i .i64],[z34,z36]⟩,G:=fun R K n a b c d e g h i j l m o p q s t u v=>cr N a b d e g h i m o p q s t u v (fun w x=>pK ⟨[.p 0 0 0,.p 1 0 0],[z34,z36]⟩ (K (.exit 2)) d e g h i w x m o p q s t u v) n c j l,B:=fun R K rec a b c d e g h i j l m o p q s t u v=>fL N a b d e g h i m o p q s t u v (fun w x=>pK ⟨[.p 0 0 0,.p 1 0 0],[z34,z36]⟩ (K (.exit 2)) d e g h i w x m o p q s t u v) (fun c j l=>rec a b c d e g h i j l m o p q s t u v) c j l },{ cur:=4,live:=[0,3,170,171,172],out:=fun | .exit 4=>([],[]) | _=>([],[]),q:=⟨[.p 0 0 0,.p 1 0 0,.t .cell,.i .i64,.i .i64],[z34,z36]⟩,G:=fun R K n a b c d e g h i j l m o p q s t u v=>cu N a b d e g h i m o p q s t u v (pK ⟨[],[z34]⟩ (K (.exit 4)) d e g h i) n c j l,B:=fun R K rec a b c d e g h i j l m o p q s t u v=>fM N a b d e g h i m o p q s t u v (pK ⟨[],[z34]⟩ (K (.exit 4)) d e g h i) (fun c j l=>rec a b c d e g h i j l m o p q s t u v) c j l }],cuts:=[{ key:=23,live:=[0,3],out:=fun | .ret=>([],[]) | .normal=>([],[]) | _=>([],[]),q:=⟨[.p 0 0 0,.p 1 0 0],[z34,z36]⟩,G:=fun R K a b c d e g h i j l m o p q s=>dY N a b c d e g h i j l m o p q s (pK ⟨[],[z34]⟩ (K .ret) a b c d e g h) (pK ⟨[],[z34]⟩ (K .normal) a b c d e) },{ key:=13,live:=[0,3],out:=fun | .ret=>([],[]) | .normal=>([],[]) | _=>([],[]),q:=⟨[.p 0 0 0,.p 1 0 0],[z34,z36]⟩,G:=fun R K a b c d e g h i j l m o p q s=>jL N a b c d e g h i j l m o p q s (pK ⟨[],[z34]⟩ (K .ret) a b c d e) (pK ⟨[],[z34]⟩ (K .normal) a b c d e) },{ key:=9,live:=[0,3],out:=fun | .ret=>([],[]) | .normal=>([],[]) | _=>([],[]),q:=⟨[.p 0 0 0,.p 1 0 0],[z34,z36]⟩,G:=fun R K a b c d e g h i j l m o p q s=>hI N a b c d e g h i j l m o p q s (pK ⟨[],[z34]⟩ (K .ret) a b c d e) (pK ⟨[],[z34]⟩ (K .normal) a b c d e) }],g:=[aU N,la N,fE N,mK N,qt N,HA N,vP N,ov N,xX N,sq N] }
def ya (N:Nat):OC E0:=⟨_,FD.ct e0 (xZ N) N (fun R k a b c d e g h i j l m o p q s=>jM N a b c d e g h i j l m o p q s (oK ⟨.tp [],[z34],[]⟩ k j l m o p))⟩
def z38:ShO S:=.bx [.i .i64,.t .chart,.t .inst,.t .chan,.t .cert]
def lN (N:Nat) (v_6:List Chart) (v_7 s_9:Int) (s_10:List Chart) (s_11:List Inst) (s_12:List ai) (s_13:List Cert) (v_14 v_15 c_16:Int) (c_17:List Chart) (c_18:List Inst) (c_19:List ai) (c_20:List Cert) (kp0:Int→Int→Option R) (rec:Int→Int→Int→Option R) (v_8 c_21 c_22:Int):Option R :=
 if (decide (v_8 < v_7)) = true then
 ((at? v_6 v_8).bind fun e23 =>
 if (0:Int) ≤ 0 ∧ 0 ≤ v_8 ∧ v_8 ≤ ((s_10.length:Nat):Int) then (kM N ((s_10.take v_8.toNat).drop (Int.toNat 0)) e23.Name e23.Steps e23.Fuel e23.Vars e23.Ports e23.Timers e23.States e23.At (fun r24 =>
 ae N (!r24) 8 e23.At c_16 c_17 c_18 c_19 c_20 c_21 c_22 (fun r25 r26 =>
 iZ N e23.Name e23.Steps e23.Fuel e23.Vars e23.Ports e23.Timers e23.States e23.At c_16 c_17 c_18 c_19 c_20 r25 r26 (fun r27 r28 =>
 rec (IntKind.wrap .i64 (v_8 + 1)) r27 r28)))) else none)
 else
 (kp0 c_21 c_22)
def jj (N:Nat) (v_6:List Chart) (v_7 s_9:Int) (s_10:List Chart) (s_11:List Inst) (s_12:List ai) (s_13:List Cert) (v_14 v_15 c_16:Int) (c_17:List Chart) (c_18:List Inst) (c_19:List ai) (c_20:List Cert) (kp0:Int→Int→Option R):Nat→Int→Int→Int→Option R
 | 0=>fun _ _ _=>none
 | n + 1=>fun v_8 c_21 c_22=>lN N v_6 v_7 s_9 s_10 s_11 s_12 s_13 v_14 v_15 c_16 c_17 c_18 c_19 c_20 kp0 (jj N v_6 v_7 s_9 s_10 s_11 s_12 s_13 v_14 v_15 c_16 c_17 c_18 c_19 c_20 kp0 n) v_8 c_21 c_22
def lO (N:Nat) (v_31:List Inst) (v_32 s_34:Int) (s_35:List Chart) (s_36:List Inst) (s_37:List ai) (s_38:List Cert) (v_39 v_40 c_41:Int) (c_42:List Chart) (c_43:List Inst) (c_44:List ai) (c_45:List Cert) (kp0:Int→Int→Option R) (rec:Int→Int→Int→Option R) (v_33 c_46 c_47:Int):Option R :=
 if (decide (v_33 < v_32)) = true then
 ((at? v_31 v_33).bind fun e48 =>
 jI N v_33 e48.Name e48.Chart e48.Quantum e48.Ext e48.Prio e48.At c_41 c_42 c_43 c_44 c_45 c_46 c_47 (fun r49 r50 =>
 rec (IntKind.wrap .i64 (v_33 + 1)) r49 r50))
 else
 (kp0 c_46 c_47)
def gR (N:Nat) (v_31:List Inst) (v_32 s_34:Int) (s_35:List Chart) (s_36:List Inst) (s_37:List ai) (s_38:List Cert) (v_39 v_40 c_41:Int) (c_42:List Chart) (c_43:List Inst) (c_44:List ai) (c_45:List Cert) (kp0:Int→Int→Option R):Nat→Int→Int→Int→Option R
 | 0=>fun _ _ _=>none
 | n + 1=>fun v_33 c_46 c_47=>lO N v_31 v_32 s_34 s_35 s_36 s_37 s_38 v_39 v_40 c_41 c_42 c_43 c_44 c_45 kp0 (gR N v_31 v_32 s_34 s_35 s_36 s_37 s_38 v_39 v_40 c_41 c_42 c_43 c_44 c_45 kp0 n) v_33 c_46 c_47
def lP (N:Nat) (v_53:List ai) (v_54 s_56:Int) (s_57:List Chart) (s_58:List Inst) (s_59:List ai) (s_60:List Cert) (v_61 v_62 c_63:Int) (c_64:List Chart) (c_65:List Inst) (c_66:List ai) (c_67:List Cert) (kp0:Int→Int→Option R) (rec:Int→Int→Int→Option R) (v_55 c_68 c_69:Int):Option R :=
 if (decide (v_55 < v_54)) = true then
 ((at? v_53 v_55).bind fun e70 =>
 gY N v_55 e70.Name e70.From e70.Port e70.To e70.Cap e70.Prio e70.At c_63 c_64 c_65 c_66 c_67 c_68 c_69 (fun r71 r72 =>
 rec (IntKind.wrap .i64 (v_55 + 1)) r71 r72))
 else
 (kp0 c_68 c_69)
def fh (N:Nat) (v_53:List ai) (v_54 s_56:Int) (s_57:List Chart) (s_58:List Inst) (s_59:List ai) (s_60:List Cert) (v_61 v_62 c_63:Int) (c_64:List Chart) (c_65:List Inst) (c_66:List ai) (c_67:List Cert) (kp0:Int→Int→Option R):Nat→Int→Int→Int→Option R
 | 0=>fun _ _ _=>none
 | n + 1=>fun v_55 c_68 c_69=>lP N v_53 v_54 s_56 s_57 s_58 s_59 s_60 v_61 v_62 c_63 c_64 c_65 c_66 c_67 kp0 (fh N v_53 v_54 s_56 s_57 s_58 s_59 s_60 v_61 v_62 c_63 c_64 c_65 c_66 c_67 kp0 n) v_55 c_68 c_69
def lQ (N:Nat) (v_75:List Inst) (v_76 s_78:Int) (s_79:List Chart) (s_80:List Inst) (s_81:List ai) (s_82:List Cert) (v_83 v_84 c_85:Int) (c_86:List Chart) (c_87:List Inst) (c_88:List ai) (c_89:List Cert) (kp0:Int→Int→Option R) (rec:Int→Int→Int→Option R) (v_77 c_90 c_91:Int):Option R :=
 if (decide (v_77 < v_76)) = true then
 ((at? v_75 v_77).bind fun e92 =>
 iE N e92.Name e92.Chart e92.Quantum e92.Ext e92.Prio e92.At c_85 c_86 c_87 c_88 c_89 c_90 c_91 (fun r93 r94 =>
 rec (IntKind.wrap .i64 (v_77 + 1)) r93 r94))
 else
 (kp0 c_90 c_91)
def dZ (N:Nat) (v_75:List Inst) (v_76 s_78:Int) (s_79:List Chart) (s_80:List Inst) (s_81:List ai) (s_82:List Cert) (v_83 v_84 c_85:Int) (c_86:List Chart) (c_87:List Inst) (c_88:List ai) (c_89:List Cert) (kp0:Int→Int→Option R):Nat→Int→Int→Int→Option R
 | 0=>fun _ _ _=>none
 | n + 1=>fun v_77 c_90 c_91=>lQ N v_75 v_76 s_78 s_79 s_80 s_81 s_82 v_83 v_84 c_85 c_86 c_87 c_88 c_89 kp0 (dZ N v_75 v_76 s_78 s_79 s_80 s_81 s_82 v_83 v_84 c_85 c_86 c_87 c_88 c_89 kp0 n) v_77 c_90 c_91
def lR (N:Nat) (v_97:List Cert) (v_98 s_100:Int) (s_101:List Chart) (s_102:List Inst) (s_103:List ai) (s_104:List Cert) (v_105 v_106 c_107:Int) (c_108:List Chart) (c_109:List Inst) (c_110:List ai) (c_111:List Cert) (kp0:Int→Int→Option R) (rec:Int→Int→Int→Option R) (v_99 c_112 c_113:Int):Option R :=
 if (decide (v_99 < v_98)) = true then
 ((at? v_97 v_99).bind fun e114 =>
 if (0:Int) ≤ 0 ∧ 0 ≤ v_99 ∧ v_99 ≤ ((s_104.length:Nat):Int) then (lK N ((s_104.take v_99.toNat).drop (Int.toNat 0)) e114.Name e114.Inst e114.Req e114.Resp e114.Insts e114.Chans e114.Cells e114.At (fun r115 =>
 ae N (!r115) 8 e114.At c_107 c_108 c_109 c_110 c_111 c_112 c_113 (fun r116 r117 =>
 jM N e114.Name e114.Inst e114.Req e114.Resp e114.Insts e114.Chans e114.Cells e114.At c_107 c_108 c_109 c_110 c_111 r116 r117 (fun r118 r119 =>
 rec (IntKind.wrap .i64 (v_99 + 1)) r118 r119)))) else none)
 else
 (kp0 c_112 c_113)
def de (N:Nat) (v_97:List Cert) (v_98 s_100:Int) (s_101:List Chart) (s_102:List Inst) (s_103:List ai) (s_104:List Cert) (v_105 v_106 c_107:Int) (c_108:List Chart) (c_109:List Inst) (c_110:List ai) (c_111:List Cert) (kp0:Int→Int→Option R):Nat→Int→Int→Int→Option R
 | 0=>fun _ _ _=>none
 | n + 1=>fun v_99 c_112 c_113=>lR N v_97 v_98 s_100 s_101 s_102 s_103 s_104 v_105 v_106 c_107 c_108 c_109 c_110 c_111 kp0 (de N v_97 v_98 s_100 s_101 s_102 s_103 s_104 v_105 v_106 c_107 c_108 c_109 c_110 c_111 kp0 n) v_99 c_112 c_113
def sound_Check (N:Nat) (Age:Int) (Charts:List Chart) (Insts:List Inst) (Chans:List ai) (Certs:List Cert) (k0:Int→Int→Option R):Option R :=
 (ifB (decide (Age ≥ 1)) true (some (decide (Age ≤ 65536))) (some false)).bind fun c1 =>
 ae N c1 16 0 Age Charts Insts Chans Certs 0 0 (fun r2 r3 =>
 ae N (decide (((Insts.length:Nat):Int) > 0)) 7 0 Age Charts Insts Chans Certs r2 r3 (fun r4 r5 =>
 jj N Charts ((Charts.length:Nat):Int) Age Charts Insts Chans Certs 0 0 Age Charts Insts Chans Certs (fun y29 y30 =>
 gR N Insts ((Insts.length:Nat):Int) Age Charts Insts Chans Certs 0 0 Age Charts Insts Chans Certs (fun y51 y52 =>
 fh N Chans ((Chans.length:Nat):Int) Age Charts Insts Chans Certs 0 0 Age Charts Insts Chans Certs (fun y73 y74 =>
 dZ N Insts ((Insts.length:Nat):Int) Age Charts Insts Chans Certs 0 0 Age Charts Insts Chans Certs (fun y95 y96 =>
 de N Certs ((Certs.length:Nat):Int) Age Charts Insts Chans Certs 0 0 Age Charts Insts Chans Certs (fun y120 y121 =>
 k0 y120 y121) N 0 y95 y96) N 0 y73 y74) N 0 y51 y52) N 0 y29 y30) N 0 r4 r5))
def FU (N:Nat):FD E0:={ f:=10,fn:=Tryz.f10,q:=⟨[y18],[]⟩,loops:=[{ cur:=0,live:=[1,2,3,34,35,36],out:=fun | .exit 0=>([1,2,3],[]) | _=>([],[]),q:=⟨[.p 0 0 0,.p 1 0 0,.p 2 0 0,.t .chart,.i .i64,.i .i64],[z38,.bx [.i .i64,.i .i64],z34]⟩,G:=fun R K n a b c d e g h i j l m o p q s t u=>jj N a b d e g h i j l m o p q s (pK ⟨[.p 0 0 0,.p 1 0 0,.p 2 0 0],[z38,.bx [.i .i64,.i .i64],z34]⟩ (K (.exit 0)) d e g h i j l m o p q s) n c t u,B:=fun R K rec a b c d e g h i j l m o p q s t u=>lN N a b d e g h i j l m o p q s (pK ⟨[.p 0 0 0,.p 1 0 0,.p 2 0 0],[z38,.bx [.i .i64,.i .i64],z34]⟩ (K (.exit 0)) d e g h i j l m o p q s) (fun c t u=>rec a b c d e g h i j l m o p q s t u) c t u },{ cur:=2,live:=[1,2,3,57,58,59],out:=fun | .exit 2=>([1,2,3],[]) | _=>([],[]),q:=⟨[.p 0 0 0,.p 1 0 0,.p 2 0 0,.t .inst,.i .i64,.i .i64],[z38,.bx [.i .i64,.i .i64],z34]⟩,G:=fun R K n a b c d e g h i j l m o p q s t u=>gR N a b d e g h i j l m o p q s (pK ⟨[.p 0 0 0,.p 1 0 0,.p 2 0 0],[z38,.bx [.i .i64,.i .i64],z34]⟩ (K (.exit 2)) d e g h i j l m o p q s) n c t u,B:=fun R K rec a b c d e g h i j l m o p q s t u=>lO N a b d e g h i j l m o p q s (pK ⟨[.p 0 0 0,.p 1 0 0,.p 2 0 0],[z38,.bx [.i .i64,.i .i64],z34]⟩ (K (.exit 2)) d e g h i j l m o p q s) (fun c t u=>rec a b c d e g h i j l m o p q s t u) c t u },{ cur:=4,live:=[1,2,3,70,71,72],out:=fun | .exit 4=>([1,2,3],[]) | _=>([],[]),q:=⟨[.p 0 0 0,.p 1 0 0,.p 2 0 0,.t .chan,.i .i64,.i .i64],[z38,.bx [.i .i64,.i .i64],z34]⟩,G:=fun R K n a b c d e g h i j l m o p q s t u=>fh N a b d e g h i j l m o p q s (pK ⟨[.p 0 0 0,.p 1 0 0,.p 2 0 0],[z38,.bx [.i .i64,.i .i64],z34]⟩ (K (.exit 4)) d e g h i j l m o p q s) n c t u,B:=fun R K rec a b c d e g h i j l m o p q s t u=>lP N a b d e g h i j l m o p q s (pK ⟨[.p 0 0 0,.p 1 0 0,.p 2 0 0],[z38,.bx [.i .i64,.i .i64],z34]⟩ (K (.exit 4)) d e g h i j l m o p q s) (fun c t u=>rec a b c d e g h i j l m o p q s t u) c t u },{ cur:=6,live:=[1,2,3,83,84,85],out:=fun | .exit 6=>([1,2,3],[]) | _=>([],[]),q:=⟨[.p 0 0 0,.p 1 0 0,.p 2 0 0,.t .inst,.i .i64,.i .i64],[z38,.bx [.i .i64,.i .i64],z34]⟩,G:=fun R K n a b c d e g h i j l m o p q s t u=>dZ N a b d e g h i j l m o p q s (pK ⟨[.p 0 0 0,.p 1 0 0,.p 2 0 0],[z38,.bx [.i .i64,.i .i64],z34]⟩ (K (.exit 6)) d e g h i j l m o p q s) n c t u,B:=fun R K rec a b c d e g h i j l m o p q s t u=>lQ N a b d e g h i j l m o p q s (pK ⟨[.p 0 0 0,.p 1 0 0,.p 2 0 0],[z38,.bx [.i .i64,.i .i64],z34]⟩ (K (.exit 6)) d e g h i j l m o p q s) (fun c t u=>rec a b c d e g h i j l m o p q s t u) c t u },{ cur:=8,live:=[1,2,3,94,95,96],out:=fun | .exit 8=>([2,3],[]) | _=>([],[]),q:=⟨[.p 0 0 0,.p 1 0 0,.p 2 0 0,.t .cert,.i .i64,.i .i64],[z38,.bx [.i .i64,.i .i64],z34]⟩,G:=fun R K n a b c d e g h i j l m o p q s t u=>de N a b d e g h i j l m o p q s (pK ⟨[.p 0 0 0,.p 1 0 0],[.bx [.i .i64,.i .i64],z34]⟩ (K (.exit 8)) j l m o p q s) n c t u,B:=fun R K rec a b c d e g h i j l m o p q s t u=>lR N a b d e g h i j l m o p q s (pK ⟨[.p 0 0 0,.p 1 0 0],[.bx [.i .i64,.i .i64],z34]⟩ (K (.exit 8)) j l m o p q s) (fun c t u=>rec a b c d e g h i j l m o p q s t u) c t u }],g:=[aU N,zb N,wV N,xQ N,uP N,vL N,Ae N,ya N] }
def zs (N:Nat):OC E0:=⟨_,FD.ct e0 (FU N) N (fun R k a b c d e=>sound_Check N a b c d e (oK ⟨.ag [.i .i64,.i .i64],[],[]⟩ k))⟩
end
end So
