/- T3_5: a part of the proof of SoundCerts: lemmas on the evaluator and on the functions that the law reaches. -/
import Derived.Test.YtcllbmdpckfnhaaGreatT34
set_option maxRecDepth 100000
set_option linter.unusedVariables false
namespace So
open Go TE Go.Proofs
noncomputable section
variable {R:Type}
def TG (N:Nat) (e place:Int) (k0:Option R):Option R :=
 k0 
def PR (N:Nat):FD E0:={ f:=39,fn:=Tryz.f39,q:=⟨[.i .i64,.i .i64],[]⟩ }
def ll (N:Nat):OC E0:=⟨_,FD.ct e0 (PR N) N (fun R k a b=>TG N a b (oK ⟨.ag [.i .i64,.i .i64],[],[]⟩ k a b))⟩
def iG (N:Nat) (Kind:Int) (Name:List UInt8) (Entry Exit:List Act) (Trans_:List Trans) (Kids:List State) (At:Int) (k0:Bool→Option R):Option R :=
 (ifB (Kind == 1) false (some (Kind == 2)) (some true)).bind fun c1 =>
 k0 c1
def FV (N:Nat):FD E0:={ f:=145,fn:=Tryz.f145,q:=⟨[y2],[]⟩ }
def pM (N:Nat):OC E0:=⟨_,FD.ct e0 (FV N) N (fun R k a b c d e g h=>iG N a b c d e g h (oK ⟨.b,[],[]⟩ k))⟩
def pN (N:Nat) (l_1:List State) (kp0:Option R) (kp1:Bool→Option R) (rec:Int→Option R) (i_2:Int):Option R :=
 if (decide (i_2 < ((l_1.length:Nat):Int))) = true then
 ((at? l_1 i_2).bind fun e3 =>
 iG N e3.Kind e3.Name e3.Entry e3.Exit e3.Trans e3.Kids e3.At (fun r4 =>
 if r4 = true then
 (kp1 true)
 else
 (rec (IntKind.wrap .i64 (i_2 + 1)))))
 else
 (kp0 )
def nP (N:Nat) (l_1:List State) (kp0:Option R) (kp1:Bool→Option R):Nat→Int→Option R
 | 0=>fun _=>none
 | n + 1=>fun i_2=>pN N l_1 kp0 kp1 (nP N l_1 kp0 kp1 n) i_2
def oB (N:Nat) (l:List State) (k0:Bool→Option R):Option R :=
 nP N l (k0 false)
 (fun y5 =>
 k0 y5) N 0
def KV (N:Nat):FD E0:={ f:=90,fn:=Tryz.f90,q:=⟨[.t .state],[]⟩,loops:=[{ cur:=0,live:=[0,3],out:=fun | .exit 0=>([],[]) | .ret=>([2],[]) | _=>([],[]),q:=⟨[.t .state,.i .i64],[]⟩,G:=fun R K n a b=>nP N a (pK ⟨[],[]⟩ (K (.exit 0))) (pK ⟨[.b],[]⟩ (K .ret)) n b,B:=fun R K rec a b=>pN N a (pK ⟨[],[]⟩ (K (.exit 0))) (pK ⟨[.b],[]⟩ (K .ret)) (rec a) b }],g:=[pM N] }
def Ag (N:Nat):OC E0:=⟨_,FD.ct e0 (KV N) N (fun R k a=>oB N a (oK ⟨.b,[],[]⟩ k))⟩
def oC (N:Nat) (l_4:List af) (kp0:(List (List UInt8))→Option R) (rec:Int→(List (List UInt8))→Option R) (i_5:Int) (out_6:List (List UInt8)):Option R :=
 if (decide (i_5 < ((l_4.length:Nat):Int))) = true then
 ((at? l_4 i_5).bind fun e7 =>
 if out_6.length + [e7.Name].length ≤ ak then (rec (IntKind.wrap .i64 (i_5 + 1)) (out_6 ++ [e7.Name])) else none)
 else
 (kp0 out_6)
def lS (N:Nat) (l_4:List af) (kp0:(List (List UInt8))→Option R):Nat→Int→(List (List UInt8))→Option R
 | 0=>fun _ _=>none
 | n + 1=>fun i_5 out_6=>oC N l_4 kp0 (lS N l_4 kp0 n) i_5 out_6
def jk (N:Nat) (l:List af) (k0:(List (List UInt8))→Option R):Option R :=
 lS N l (fun y8 =>
 k0 y8) N 0 ([]:List (List UInt8))
def IW (N:Nat):FD E0:={ f:=98,fn:=Tryz.f98,q:=⟨[.t .named],[]⟩,loops:=[{ cur:=0,live:=[0,3,4],fix:=[(⟨3,[]⟩,.row .str .app)],out:=fun | .exit 0=>([3],[]) | _=>([],[]),q:=⟨[.t .named,.sw 0,.i .i64],[.rw .str .app]⟩,G:=fun R K n a b c=>lS N a (pK ⟨[.sw 0],[.rw .str .app]⟩ (K (.exit 0))) n b c,B:=fun R K rec a b c=>oC N a (pK ⟨[.sw 0],[.rw .str .app]⟩ (K (.exit 0))) (rec a) b c }],exit:=[(⟨2,[]⟩,.tree .str)] }
def tD (N:Nat):OC E0:=⟨_,FD.ct e0 (IW N) N (fun R k a=>jk N a (oK ⟨.t .str,[],[]⟩ k))⟩
def rj (N:Nat) (l_1:List (List UInt8)) (s_2:List UInt8) (kp0:Option R) (kp1:Bool→Option R) (rec:Int→Option R) (i_3:Int):Option R :=
 if (decide (i_3 < ((l_1.length:Nat):Int))) = true then
 ((at? l_1 i_3).bind fun e4 =>
 if (e4 == s_2) = true then
 (kp1 true)
 else
 (rec (IntKind.wrap .i64 (i_3 + 1))))
 else
 (kp0 )
def pA (N:Nat) (l_1:List (List UInt8)) (s_2:List UInt8) (kp0:Option R) (kp1:Bool→Option R):Nat→Int→Option R
 | 0=>fun _=>none
 | n + 1=>fun i_3=>rj N l_1 s_2 kp0 kp1 (pA N l_1 s_2 kp0 kp1 n) i_3
def eW (N:Nat) (l:List (List UInt8)) (s:List UInt8) (k0:Bool→Option R):Option R :=
 pA N l s (k0 false)
 (fun y5 =>
 k0 y5) N 0
def NJ (N:Nat):FD E0:={ f:=97,fn:=Tryz.f97,q:=⟨[.t .str,.st],[]⟩,loops:=[{ cur:=0,live:=[0,1,5],out:=fun | .exit 0=>([],[]) | .ret=>([4],[]) | _=>([],[]),q:=⟨[.t .str,.st,.i .i64],[]⟩,G:=fun R K n a b c=>pA N a b (pK ⟨[],[]⟩ (K (.exit 0))) (pK ⟨[.b],[]⟩ (K .ret)) n c,B:=fun R K rec a b c=>rj N a b (pK ⟨[],[]⟩ (K (.exit 0))) (pK ⟨[.b],[]⟩ (K .ret)) (rec a b) c }] }
def lT (N:Nat):OC E0:=⟨_,FD.ct e0 (NJ N) N (fun R k a b=>eW N a b (oK ⟨.b,[],[]⟩ k))⟩
def oD (N:Nat) (l_1:List af) (most_2 v_4 v_5:Int) (kp0:Option R) (kp1:Int→Int→Option R) (rec:Int→Option R) (i_3:Int):Option R :=
 if (decide (i_3 < ((l_1.length:Nat):Int))) = true then
 (if (i_3 == most_2) = true then
 ((at? l_1 i_3).bind fun e6 =>
 kp1 15 e6.At)
 else
 (if (0:Int) ≤ 0 ∧ 0 ≤ i_3 ∧ i_3 ≤ ((l_1.length:Nat):Int) then (jk N ((l_1.take i_3.toNat).drop (Int.toNat 0)) (fun r7 =>
 (at? l_1 i_3).bind fun e8 =>
 eW N r7 e8.Name (fun r9 =>
 if r9 = true then
 ((at? l_1 i_3).bind fun e10 =>
 kp1 8 e10.At)
 else
 (rec (IntKind.wrap .i64 (i_3 + 1)))))) else none))
 else
 (kp0 )
def lU (N:Nat) (l_1:List af) (most_2 v_4 v_5:Int) (kp0:Option R) (kp1:Int→Int→Option R):Nat→Int→Option R
 | 0=>fun _=>none
 | n + 1=>fun i_3=>oD N l_1 most_2 v_4 v_5 kp0 kp1 (lU N l_1 most_2 v_4 v_5 kp0 kp1 n) i_3
def pB (N:Nat) (l:List af) (most:Int) (k0:Int→Int→Option R):Option R :=
 lU N l most 0 0 (k0 0 0)
 (fun y11 y12 =>
 k0 y11 y12) N 0
def IX (N:Nat):FD E0:={ f:=91,fn:=Tryz.f91,q:=⟨[.t .named,.i .i64],[]⟩,loops:=[{ cur:=0,live:=[0,1,4,5],out:=fun | .exit 0=>([4],[]) | .ret=>([4],[]) | _=>([],[]),q:=⟨[.t .named,.i .i64,.p 0 0 0,.i .i64],[.bx [.i .i64,.i .i64]]⟩,G:=fun R K n a b c d e=>lU N a b d e (pK ⟨[.p 0 0 0],[.bx [.i .i64,.i .i64]]⟩ (K (.exit 0)) d e) (pK ⟨[.p 0 0 0],[.bx [.i .i64,.i .i64]]⟩ (K .ret)) n c,B:=fun R K rec a b c d e=>oD N a b d e (pK ⟨[.p 0 0 0],[.bx [.i .i64,.i .i64]]⟩ (K (.exit 0)) d e) (pK ⟨[.p 0 0 0],[.bx [.i .i64,.i .i64]]⟩ (K .ret)) (fun c=>rec a b c d e) c }],g:=[ll N,lT N,tD N] }
def IY (N:Nat):OC E0:=⟨_,FD.ct e0 (IX N) N (fun R k a b=>pB N a b (oK ⟨.ag [.i .i64,.i .i64],[],[]⟩ k))⟩
def z39:ShO S:=.bx [.st,.i .i64,.i .i64,.t .named,.t .named,.t .named,.t .state,.i .i64,.sw 1,.sw 2,.i .i64]
def z40:ShO S:=.bx [.st,.i .i64,.i .i64,.t .named,.t .named,.t .named,.t .state,.i .i64,.sw 3,.sw 4,.i .i64]
structure aA where
 r12_looking_shapes_2:(R:Type)→(List State)→Bool→(List UInt8)→Int→Int→(List af)→(List af)→(List af)→(List State)→Int→Int→(List (List UInt8))→(List (List UInt8))→(Int→Int→(List (List UInt8))→(List (List UInt8))→Option R)→Option R
def oE:Pat S:=⟨[.p 0 0 0,.t .state,.b],[z39,.rw .str .app,.rw .str .app]⟩
def jN (F:aA):Ct S:=⟨92,oE,fun R k a b c d e g h i j l m o p=>F.r12_looking_shapes_2 R a b c d e g h i j l m o p (fun q s=>oK ⟨.ag [.i .i64,.i .i64],[z40,.rw .str .ro,.rw .str .ro],[.rw .str .app,.rw .str .app]⟩ k q s c d e g h i j l m o p)⟩
structure gr (F:aA):Prop where
 r12_looking_shapes_2:(jN F).ok E0
def df (F:aA) (N:Nat) (l_56:List State) (top_57:Bool) (i_58:Int) (x_59:List UInt8) (x_60 x_61:Int) (x_62 x_63 x_64:List af) (x_65:List State) (x_66 x_67:Int) (o_68 o_69 o_70 o_71:List (List UInt8)) (v_72 v_73 s_74:Int) (s_75:List UInt8) (s_76 s_77:List Act) (s_78:List Trans) (s_79:List State) (s_80:Int) (kp0:(List (List UInt8))→(List (List UInt8))→Int→Int→Option R) (kp1:(List (List UInt8))→(List (List UInt8))→Option R):Option R :=
 F.r12_looking_shapes_2 _ s_79 false x_59 x_60 x_61 x_62 x_63 x_64 x_65 x_66 x_67 o_70 o_71 (fun r81 r82 r83 r84 =>
 if (r81 != 0) = true then
 (kp0 r83 r84 r81 r82)
 else
 (kp1 r83 r84))
def iP (F:aA) (N:Nat) (l_30:List State) (top_31:Bool) (i_32:Int) (x_33:List UInt8) (x_34 x_35:Int) (x_36 x_37 x_38:List af) (x_39:List State) (x_40 x_41:Int) (o_42 o_43 o_44 o_45:List (List UInt8)) (v_46 v_47 s_48:Int) (s_49:List UInt8) (s_50 s_51:List Act) (s_52:List Trans) (s_53:List State) (s_54:Int) (kp0:(List (List UInt8))→(List (List UInt8))→Int→Int→Option R) (kp1:(List (List UInt8))→(List (List UInt8))→Option R):Option R :=
 if o_44.length + [s_49].length ≤ ak then (iG N s_48 s_49 s_50 s_51 s_52 s_53 s_54 (fun r55 =>
 if r55 = true then
 (if o_45.length + [s_49].length ≤ ak then (df F N l_30 top_31 i_32 x_33 x_34 x_35 x_36 x_37 x_38 x_39 x_40 x_41 o_42 o_43 (o_44 ++ [s_49]) (o_45 ++ [s_49]) v_46 v_47 s_48 s_49 s_50 s_51 s_52 s_53 s_54 (fun y85 y86 y87 y88 =>
 kp0 y85 y86 y87 y88)
 (fun y89 y90 =>
 kp1 y89 y90)) else none)
 else
 (df F N l_30 top_31 i_32 x_33 x_34 x_35 x_36 x_37 x_38 x_39 x_40 x_41 o_42 o_43 (o_44 ++ [s_49]) o_45 v_46 v_47 s_48 s_49 s_50 s_51 s_52 s_53 s_54 (fun y91 y92 y93 y94 =>
 kp0 y91 y92 y93 y94)
 (fun y95 y96 =>
 kp1 y95 y96)))) else none
def eF (F:aA) (N:Nat) (l_1:List State) (top_2:Bool) (x_4:List UInt8) (x_5 x_6:Int) (x_7 x_8 x_9:List af) (x_10:List State) (x_11 x_12:Int) (o_13 o_14:List (List UInt8)) (v_17 v_18:Int) (kp0:(List (List UInt8))→(List (List UInt8))→Option R) (kp1:(List (List UInt8))→(List (List UInt8))→Int→Int→Option R) (rec:Int→(List (List UInt8))→(List (List UInt8))→Option R) (i_3:Int) (o_15 o_16:List (List UInt8)):Option R :=
 if (decide (i_3 < ((l_1.length:Nat):Int))) = true then
 ((at? l_1 i_3).bind fun e19 =>
 if (((o_15.length:Nat):Int) == 63) = true then
 (kp1 o_15 o_16 15 e19.At)
 else
 (eW N o_15 e19.Name (fun r20 =>
 if r20 = true then
 (kp1 o_15 o_16 8 e19.At)
 else
 ((ifB top_2 true (iG N e19.Kind e19.Name e19.Entry e19.Exit e19.Trans e19.Kids e19.At (fun r21 =>
 some (!r21))) (some false)).bind fun c22 =>
 (ifB c22 false ((ifB (e19.Kind == 2) true (oB N e19.Kids (fun r23 =>
 some (!r23))) (some false)).bind fun c24 =>
 some c24) (some true)).bind fun c25 =>
 (ifB c25 false ((ifB (e19.Kind == 1) true (some (decide (((e19.Kids.length:Nat):Int) > 0))) (some false)).bind fun c26 =>
 (ifB c26 true (oB N e19.Kids (fun r27 =>
 some (!r27))) (some false)).bind fun c28 =>
 some c28) (some true)).bind fun c29 =>
 if c29 = true then
 (kp1 o_15 o_16 17 e19.At)
 else
 (iP F N l_1 top_2 i_3 x_4 x_5 x_6 x_7 x_8 x_9 x_10 x_11 x_12 o_13 o_14 o_15 o_16 v_17 v_18 e19.Kind e19.Name e19.Entry e19.Exit e19.Trans e19.Kids e19.At (fun y97 y98 y99 y100 =>
 kp1 y97 y98 y99 y100)
 (fun y101 y102 =>
 rec (IntKind.wrap .i64 (i_3 + 1)) y101 y102))))))
 else
 (kp0 o_15 o_16)
def bC (F:aA) (N:Nat) (l_1:List State) (top_2:Bool) (x_4:List UInt8) (x_5 x_6:Int) (x_7 x_8 x_9:List af) (x_10:List State) (x_11 x_12:Int) (o_13 o_14:List (List UInt8)) (v_17 v_18:Int) (kp0:(List (List UInt8))→(List (List UInt8))→Option R) (kp1:(List (List UInt8))→(List (List UInt8))→Int→Int→Option R):Nat→Int→(List (List UInt8))→(List (List UInt8))→Option R
 | 0=>fun _ _ _=>none
 | n + 1=>fun i_3 o_15 o_16=>eF F N l_1 top_2 x_4 x_5 x_6 x_7 x_8 x_9 x_10 x_11 x_12 o_13 o_14 v_17 v_18 kp0 kp1 (bC F N l_1 top_2 x_4 x_5 x_6 x_7 x_8 x_9 x_10 x_11 x_12 o_13 o_14 v_17 v_18 kp0 kp1 n) i_3 o_15 o_16
def ea (F:aA) (N:Nat) (l:List State) (top:Bool) (Name:List UInt8) (Steps Fuel:Int) (Vars Ports Timers:List af) (States:List State) (At trans:Int) (names states:List (List UInt8)) (k0:Int→Int→(List (List UInt8))→(List (List UInt8))→Option R):Option R :=
 bC F N l top Name Steps Fuel Vars Ports Timers States At trans names states 0 0 (fun y103 y104 =>
 k0 0 0 y103 y104)
 (fun y105 y106 y107 y108 =>
 k0 y107 y108 y105 y106) N 0 names states
def jO (F:aA) (hF:gr F) (N:Nat):FD E0:={ f:=92,fn:=Tryz.f92,q:=oE,loops:=[{ cur:=0,live:=[0,1,2,6,7],fix:=[(⟨0,[8]⟩,.fresh .str .app),(⟨0,[9]⟩,.fresh .str .app)],out:=fun | .exit 0=>([6],[]) | .ret=>([6],[]) | _=>([],[]),q:=⟨[.p 0 0 0,.t .state,.b,.p 5 0 0,.i .i64],[z40,.rw .str .ro,.rw .str .ro,.rw .str .app,.rw .str .app,.bx [.i .i64,.i .i64]]⟩,G:=fun R K n a b c d e g h i j l m o p q s t u v=>bC F N a b d e g h i j l m o p q u v (fun w x=>pK ⟨[.p 5 0 0],[z40,.rw .str .ro,.rw .str .ro,.rw .str .app,.rw .str .app,.bx [.i .i64,.i .i64]]⟩ (K (.exit 0)) d e g h i j l m o p q w x u v) (pK ⟨[.p 5 0 0],[z40,.rw .str .ro,.rw .str .ro,.rw .str .app,.rw .str .app,.bx [.i .i64,.i .i64]]⟩ (K .ret) d e g h i j l m o p q) n c s t,B:=fun R K rec a b c d e g h i j l m o p q s t u v=>eF F N a b d e g h i j l m o p q u v (fun w x=>pK ⟨[.p 5 0 0],[z40,.rw .str .ro,.rw .str .ro,.rw .str .app,.rw .str .app,.bx [.i .i64,.i .i64]]⟩ (K (.exit 0)) d e g h i j l m o p q w x u v) (pK ⟨[.p 5 0 0],[z40,.rw .str .ro,.rw .str .ro,.rw .str .app,.rw .str .app,.bx [.i .i64,.i .i64]]⟩ (K .ret) d e g h i j l m o p q) (fun c s t=>rec a b c d e g h i j l m o p q s t u v) c s t }],cuts:=[{ key:=14,live:=[0,1,2,6,7,8],fix:=[(⟨0,[9]⟩,.fresh .str .app)],out:=fun | .ret=>([6],[]) | .normal=>([0,1,2,6,7],[]) | _=>([],[]),q:=⟨[.p 0 0 0,.t .state,.b,.p 5 0 0,.i .i64,.p 6 0 0],[z40,.rw .str .ro,.rw .str .ro,.rw .str .app,.rw .str .app,.bx [.i .i64,.i .i64],z35]⟩,G:=fun R K a b c d e g h i j l m o p q s t u v w x y z a1 b1 c1=>df F N a b c d e g h i j l m o p q s t u v w x y z a1 b1 c1 (pK ⟨[.p 5 0 0],[z40,.rw .str .ro,.rw .str .ro,.rw .str .app,.rw .str .app,.bx [.i .i64,.i .i64]]⟩ (K .ret) d e g h i j l m o p q) (fun d1 e1=>pK ⟨[.p 0 0 0,.t .state,.b,.p 5 0 0,.i .i64],[z40,.rw .str .ro,.rw .str .ro,.rw .str .app,.rw .str .app,.bx [.i .i64,.i .i64]]⟩ (K .normal) a b c d e g h i j l m o p q d1 e1 u v) },{ key:=11,live:=[0,1,2,6,7,8],fix:=[(⟨0,[8]⟩,.fresh .str .app),(⟨0,[9]⟩,.fresh .str .app)],out:=fun | .ret=>([6],[]) | .normal=>([0,1,2,6,7],[]) | _=>([],[]),q:=⟨[.p 0 0 0,.t .state,.b,.p 5 0 0,.i .i64,.p 6 0 0],[z40,.rw .str .ro,.rw .str .ro,.rw .str .app,.rw .str .app,.bx [.i .i64,.i .i64],z35]⟩,G:=fun R K a b c d e g h i j l m o p q s t u v w x y z a1 b1 c1=>iP F N a b c d e g h i j l m o p q s t u v w x y z a1 b1 c1 (pK ⟨[.p 5 0 0],[z40,.rw .str .ro,.rw .str .ro,.rw .str .app,.rw .str .app,.bx [.i .i64,.i .i64]]⟩ (K .ret) d e g h i j l m o p q) (fun d1 e1=>pK ⟨[.p 0 0 0,.t .state,.b,.p 5 0 0,.i .i64],[z40,.rw .str .ro,.rw .str .ro,.rw .str .app,.rw .str .app,.bx [.i .i64,.i .i64]]⟩ (K .normal) a b c d e g h i j l m o p q d1 e1 u v) }],g:=[ll N,Ag N,⟨jN F,hF.r12_looking_shapes_2⟩,lT N,pM N] }
theorem ue (F:aA) (hF:gr F) (N:Nat):Ct.ok E0 ⟨(jO F hF N).f,(jO F hF N).q,fun R k a b c d e g h i j l m o p=>ea F N a b c d e g h i j l m o p (fun q s=>oK ⟨.ag [.i .i64,.i .i64],[z40,.rw .str .ro,.rw .str .ro],[.rw .str .app,.rw .str .app]⟩ k q s c d e g h i j l m o p)⟩:=FD.ct e0 (jO F hF N) N (fun R k a b c d e g h i j l m o p=>ea F N a b c d e g h i j l m o p (fun q s=>oK ⟨.ag [.i .i64,.i .i64],[z40,.rw .str .ro,.rw .str .ro],[.rw .str .app,.rw .str .app]⟩ k q s c d e g h i j l m o p))
def qx (F:aA) (N:Nat):aA where
 r12_looking_shapes_2:=fun R l top Name Steps Fuel Vars Ports Timers States At trans names states k0=>ea F N l top Name Steps Fuel Vars Ports Timers States At trans names states k0
def br (N:Nat):Nat→aA
 | 0=>{ r12_looking_shapes_2:=fun _ _ _ _ _ _ _ _ _ _ _ _ _ _ _=>none }
 | d + 1=>qx (br N d) N
theorem jl (N:Nat):∀ d,gr (br N d)
 | 0=>{ r12_looking_shapes_2:=Ct.ok_none }
 | d + 1=>{ r12_looking_shapes_2:=ue _ (jl N d) N }
def r12_looking_shapes_2 (N:Nat) (l:List State) (top:Bool) (Name:List UInt8) (Steps Fuel:Int) (Vars Ports Timers:List af) (States:List State) (At trans:Int) (names states:List (List UInt8)) (k0:Int→Int→(List (List UInt8))→(List (List UInt8))→Option R):Option R:=(br N N).r12_looking_shapes_2 R l top Name Steps Fuel Vars Ports Timers States At trans names states k0
theorem uV (N d:Nat) (l:List State) (top:Bool) (Name:List UInt8) (Steps Fuel:Int) (Vars Ports Timers:List af) (States:List State) (At trans:Int) (names states:List (List UInt8)) (k0:Int→Int→(List (List UInt8))→(List (List UInt8))→Option R):(br N (d + 1)).r12_looking_shapes_2 R l top Name Steps Fuel Vars Ports Timers States At trans names states k0 = ea (br N d) N l top Name Steps Fuel Vars Ports Timers States At trans names states k0:=rfl
def vS (N:Nat):OC E0:=⟨jN (br N N),(jl N N).r12_looking_shapes_2⟩
def z41:ShO S:=.bx [.st,.i .i64,.i .i64,.t .named,.t .named,.t .named,.t .state,.i .i64,.ns,.ns,.i .i64]
def eb (N:Nat) (l_52:List State) (top_53:Bool) (i_54:Int) (x_55:List UInt8) (x_56 x_57:Int) (x_58 x_59 x_60:List af) (x_61:List State) (x_62 x_63:Int) (o_64 o_65:List (List UInt8)) (v_66 v_67 s_68:Int) (s_69:List UInt8) (s_70 s_71:List Act) (s_72:List Trans) (s_73:List State) (s_74:Int) (kp0:(List (List UInt8))→(List (List UInt8))→Int→Int→Option R) (kp1:(List (List UInt8))→(List (List UInt8))→Option R):Option R :=
 r12_looking_shapes_2 N s_73 false x_55 x_56 x_57 x_58 x_59 x_60 x_61 x_62 x_63 o_64 o_65 (fun r75 r76 r77 r78 =>
 if (r75 != 0) = true then
 (kp0 r77 r78 r75 r76)
 else
 (kp1 r77 r78))
def jP (N:Nat) (l_28:List State) (top_29:Bool) (i_30:Int) (x_31:List UInt8) (x_32 x_33:Int) (x_34 x_35 x_36:List af) (x_37:List State) (x_38 x_39:Int) (o_40 o_41:List (List UInt8)) (v_42 v_43 s_44:Int) (s_45:List UInt8) (s_46 s_47:List Act) (s_48:List Trans) (s_49:List State) (s_50:Int) (kp0:(List (List UInt8))→(List (List UInt8))→Int→Int→Option R) (kp1:(List (List UInt8))→(List (List UInt8))→Option R):Option R :=
 if o_40.length + [s_45].length ≤ ak then (iG N s_44 s_45 s_46 s_47 s_48 s_49 s_50 (fun r51 =>
 if r51 = true then
 (if o_41.length + [s_45].length ≤ ak then (eb N l_28 top_29 i_30 x_31 x_32 x_33 x_34 x_35 x_36 x_37 x_38 x_39 (o_40 ++ [s_45]) (o_41 ++ [s_45]) v_42 v_43 s_44 s_45 s_46 s_47 s_48 s_49 s_50 (fun y79 y80 y81 y82 =>
 kp0 y79 y80 y81 y82)
 (fun y83 y84 =>
 kp1 y83 y84)) else none)
 else
 (eb N l_28 top_29 i_30 x_31 x_32 x_33 x_34 x_35 x_36 x_37 x_38 x_39 (o_40 ++ [s_45]) o_41 v_42 v_43 s_44 s_45 s_46 s_47 s_48 s_49 s_50 (fun y85 y86 y87 y88 =>
 kp0 y85 y86 y87 y88)
 (fun y89 y90 =>
 kp1 y89 y90)))) else none
def fN (N:Nat) (l_1:List State) (top_2:Bool) (x_4:List UInt8) (x_5 x_6:Int) (x_7 x_8 x_9:List af) (x_10:List State) (x_11 x_12 v_15 v_16:Int) (kp0:(List (List UInt8))→(List (List UInt8))→Option R) (kp1:(List (List UInt8))→(List (List UInt8))→Int→Int→Option R) (rec:Int→(List (List UInt8))→(List (List UInt8))→Option R) (i_3:Int) (o_13 o_14:List (List UInt8)):Option R :=
 if (decide (i_3 < ((l_1.length:Nat):Int))) = true then
 ((at? l_1 i_3).bind fun e17 =>
 if (((o_13.length:Nat):Int) == 63) = true then
 (kp1 o_13 o_14 15 e17.At)
 else
 (eW N o_13 e17.Name (fun r18 =>
 if r18 = true then
 (kp1 o_13 o_14 8 e17.At)
 else
 ((ifB top_2 true (iG N e17.Kind e17.Name e17.Entry e17.Exit e17.Trans e17.Kids e17.At (fun r19 =>
 some (!r19))) (some false)).bind fun c20 =>
 (ifB c20 false ((ifB (e17.Kind == 2) true (oB N e17.Kids (fun r21 =>
 some (!r21))) (some false)).bind fun c22 =>
 some c22) (some true)).bind fun c23 =>
 (ifB c23 false ((ifB (e17.Kind == 1) true (some (decide (((e17.Kids.length:Nat):Int) > 0))) (some false)).bind fun c24 =>
 (ifB c24 true (oB N e17.Kids (fun r25 =>
 some (!r25))) (some false)).bind fun c26 =>
 some c26) (some true)).bind fun c27 =>
 if c27 = true then
 (kp1 o_13 o_14 17 e17.At)
 else
 (jP N l_1 top_2 i_3 x_4 x_5 x_6 x_7 x_8 x_9 x_10 x_11 x_12 o_13 o_14 v_15 v_16 e17.Kind e17.Name e17.Entry e17.Exit e17.Trans e17.Kids e17.At (fun y91 y92 y93 y94 =>
 kp1 y91 y92 y93 y94)
 (fun y95 y96 =>
 rec (IntKind.wrap .i64 (i_3 + 1)) y95 y96))))))
 else
 (kp0 o_13 o_14)
def bN (N:Nat) (l_1:List State) (top_2:Bool) (x_4:List UInt8) (x_5 x_6:Int) (x_7 x_8 x_9:List af) (x_10:List State) (x_11 x_12 v_15 v_16:Int) (kp0:(List (List UInt8))→(List (List UInt8))→Option R) (kp1:(List (List UInt8))→(List (List UInt8))→Int→Int→Option R):Nat→Int→(List (List UInt8))→(List (List UInt8))→Option R
 | 0=>fun _ _ _=>none
 | n + 1=>fun i_3 o_13 o_14=>fN N l_1 top_2 x_4 x_5 x_6 x_7 x_8 x_9 x_10 x_11 x_12 v_15 v_16 kp0 kp1 (bN N l_1 top_2 x_4 x_5 x_6 x_7 x_8 x_9 x_10 x_11 x_12 v_15 v_16 kp0 kp1 n) i_3 o_13 o_14
def jQ (N:Nat) (l:List State) (top:Bool) (Name:List UInt8) (Steps Fuel:Int) (Vars Ports Timers:List af) (States:List State) (At trans:Int) (k0:Int→Int→(List (List UInt8))→(List (List UInt8))→Option R):Option R :=
 bN N l top Name Steps Fuel Vars Ports Timers States At trans 0 0 (fun y97 y98 =>
 k0 0 0 y97 y98)
 (fun y99 y100 y101 y102 =>
 k0 y101 y102 y99 y100) N 0 ([]:List (List UInt8)) ([]:List (List UInt8))
def yb (N:Nat):FD E0:={ f:=92,fn:=Tryz.f92,q:=⟨[.p 0 0 0,.t .state,.b],[z41]⟩,loops:=[{ cur:=0,live:=[0,1,2,6,7],fix:=[(⟨0,[8]⟩,.row .str .app),(⟨0,[9]⟩,.row .str .app)],out:=fun | .exit 0=>([6],[]) | .ret=>([6],[]) | _=>([],[]),q:=⟨[.p 0 0 0,.t .state,.b,.p 3 0 0,.i .i64],[z39,.rw .str .app,.rw .str .app,.bx [.i .i64,.i .i64]]⟩,G:=fun R K n a b c d e g h i j l m o p q s t=>bN N a b d e g h i j l m o s t (fun u v=>pK ⟨[.p 3 0 0],[z39,.rw .str .app,.rw .str .app,.bx [.i .i64,.i .i64]]⟩ (K (.exit 0)) d e g h i j l m o u v s t) (pK ⟨[.p 3 0 0],[z39,.rw .str .app,.rw .str .app,.bx [.i .i64,.i .i64]]⟩ (K .ret) d e g h i j l m o) n c p q,B:=fun R K rec a b c d e g h i j l m o p q s t=>fN N a b d e g h i j l m o s t (fun u v=>pK ⟨[.p 3 0 0],[z39,.rw .str .app,.rw .str .app,.bx [.i .i64,.i .i64]]⟩ (K (.exit 0)) d e g h i j l m o u v s t) (pK ⟨[.p 3 0 0],[z39,.rw .str .app,.rw .str .app,.bx [.i .i64,.i .i64]]⟩ (K .ret) d e g h i j l m o) (fun c p q=>rec a b c d e g h i j l m o p q s t) c p q }],cuts:=[{ key:=14,live:=[0,1,2,6,7,8],fix:=[(⟨0,[9]⟩,.row .str .app)],out:=fun | .ret=>([6],[]) | .normal=>([0,1,2,6,7],[]) | _=>([],[]),q:=⟨[.p 0 0 0,.t .state,.b,.p 3 0 0,.i .i64,.p 4 0 0],[z39,.rw .str .app,.rw .str .app,.bx [.i .i64,.i .i64],z35]⟩,G:=fun R K a b c d e g h i j l m o p q s t u v w x y z a1=>eb N a b c d e g h i j l m o p q s t u v w x y z a1 (pK ⟨[.p 3 0 0],[z39,.rw .str .app,.rw .str .app,.bx [.i .i64,.i .i64]]⟩ (K .ret) d e g h i j l m o) (fun b1 c1=>pK ⟨[.p 0 0 0,.t .state,.b,.p 3 0 0,.i .i64],[z39,.rw .str .app,.rw .str .app,.bx [.i .i64,.i .i64]]⟩ (K .normal) a b c d e g h i j l m o b1 c1 s t) },{ key:=11,live:=[0,1,2,6,7,8],fix:=[(⟨0,[8]⟩,.row .str .app),(⟨0,[9]⟩,.row .str .app)],out:=fun | .ret=>([6],[]) | .normal=>([0,1,2,6,7],[]) | _=>([],[]),q:=⟨[.p 0 0 0,.t .state,.b,.p 3 0 0,.i .i64,.p 4 0 0],[z39,.rw .str .app,.rw .str .app,.bx [.i .i64,.i .i64],z35]⟩,G:=fun R K a b c d e g h i j l m o p q s t u v w x y z a1=>jP N a b c d e g h i j l m o p q s t u v w x y z a1 (pK ⟨[.p 3 0 0],[z39,.rw .str .app,.rw .str .app,.bx [.i .i64,.i .i64]]⟩ (K .ret) d e g h i j l m o) (fun b1 c1=>pK ⟨[.p 0 0 0,.t .state,.b,.p 3 0 0,.i .i64],[z39,.rw .str .app,.rw .str .app,.bx [.i .i64,.i .i64]]⟩ (K .normal) a b c d e g h i j l m o b1 c1 s t) }],g:=[ll N,Ag N,vS N,lT N,pM N] }
def yc (N:Nat):OC E0:=⟨_,FD.ct e0 (yb N) N (fun R k a b c d e g h i j l m=>jQ N a b c d e g h i j l m (fun o p=>oK ⟨.ag [.i .i64,.i .i64],[z39],[.rw .str .app,.rw .str .app]⟩ k o p c d e g h i j l m))⟩
structure aE where
 r12_looking_exprs:(R:Type)→(List Expr)→(List UInt8)→Int→Int→(List af)→(List af)→(List af)→(List State)→Int→Int→(List (List UInt8))→(List (List UInt8))→(Int→Int→Option R)→Option R
 r12_looking_expr:(R:Type)→Int→Int→(List UInt8)→(List Expr)→Int→(List UInt8)→Int→Int→(List af)→(List af)→(List af)→(List State)→Int→Int→(List (List UInt8))→(List (List UInt8))→(Int→Int→Option R)→Option R
def my:Pat S:=⟨[.p 0 0 0,.t .expr],[z39,.rw .str .app,.rw .str .app]⟩
def mz (F:aE):Ct S:=⟨170,my,fun R k=>((fun R k a b c d e g h i j l m o=>F.r12_looking_exprs R a b c d e g h i j l m o (oQ ⟨.ag [.i .i64,.i .i64],[],[]⟩ k):(R:Type)→(TV S→List (Obj S)→Option R)→my.Fn (Option R))) R fun v ns=>k ⟨v,none,ns⟩⟩
def nC:Pat S:=⟨[.p 0 0 0,y4],[z39,.rw .str .app,.rw .str .app]⟩
def sr (F:aE):Ct S:=⟨188,nC,fun R k=>((fun R k a b c d e g h i j l m o p q s t=>F.r12_looking_expr R a b c d e g h i j l m o p q s t (oQ ⟨.ag [.i .i64,.i .i64],[],[]⟩ k):(R:Type)→(TV S→List (Obj S)→Option R)→nC.Fn (Option R))) R fun v ns=>k ⟨v,none,ns⟩⟩
structure dg (F:aE):Prop where
 r12_looking_exprs:(mz F).ok E0
 r12_looking_expr:(sr F).ok E0
def gu (F:aE) (N:Nat) (l_1:List Expr) (x_3:List UInt8) (x_4 x_5:Int) (x_6 x_7 x_8:List af) (x_9:List State) (x_10 x_11:Int) (o_12 o_13:List (List UInt8)) (v_14 v_15:Int) (kp0:Option R) (kp1:Int→Int→Option R) (rec:Int→Option R) (i_2:Int):Option R :=
 if (decide (i_2 < ((l_1.length:Nat):Int))) = true then
 ((at? l_1 i_2).bind fun e16 =>
 F.r12_looking_expr _ e16.Kind e16.N e16.Name e16.Kids e16.At x_3 x_4 x_5 x_6 x_7 x_8 x_9 x_10 x_11 o_12 o_13 (fun r17 r18 =>
 if (r17 != 0) = true then
 (kp1 r17 r18)
 else
 (rec (IntKind.wrap .i64 (i_2 + 1)))))
 else
 (kp0 )
def dx (F:aE) (N:Nat) (l_1:List Expr) (x_3:List UInt8) (x_4 x_5:Int) (x_6 x_7 x_8:List af) (x_9:List State) (x_10 x_11:Int) (o_12 o_13:List (List UInt8)) (v_14 v_15:Int) (kp0:Option R) (kp1:Int→Int→Option R):Nat→Int→Option R
 | 0=>fun _=>none
 | n + 1=>fun i_2=>gu F N l_1 x_3 x_4 x_5 x_6 x_7 x_8 x_9 x_10 x_11 o_12 o_13 v_14 v_15 kp0 kp1 (dx F N l_1 x_3 x_4 x_5 x_6 x_7 x_8 x_9 x_10 x_11 o_12 o_13 v_14 v_15 kp0 kp1 n) i_2
def gb (F:aE) (N:Nat) (l:List Expr) (Name:List UInt8) (Steps Fuel:Int) (Vars Ports Timers:List af) (States:List State) (At trans:Int) (names states:List (List UInt8)) (k0:Int→Int→Option R):Option R :=
 dx F N l Name Steps Fuel Vars Ports Timers States At trans names states 0 0 (k0 0 0)
 (fun y19 y20 =>
 k0 y19 y20) N 0
def mA (F:aE) (hF:dg F) (N:Nat):FD E0:={ f:=170,fn:=Tryz.f170,q:=my,loops:=[{ cur:=0,live:=[0,1,4,5],out:=fun | .exit 0=>([4],[]) | .ret=>([4],[]) | _=>([],[]),q:=⟨[.p 0 0 0,.t .expr,.p 3 0 0,.i .i64],[z39,.rw .str .app,.rw .str .app,.bx [.i .i64,.i .i64]]⟩,G:=fun R K n a b c d e g h i j l m o p q s=>dx F N a c d e g h i j l m o p q s (pK ⟨[.p 3 0 0],[z39,.rw .str .app,.rw .str .app,.bx [.i .i64,.i .i64]]⟩ (K (.exit 0)) c d e g h i j l m o p q s) (pK ⟨[.p 3 0 0],[z39,.rw .str .app,.rw .str .app,.bx [.i .i64,.i .i64]]⟩ (K .ret) c d e g h i j l m o p) n b,B:=fun R K rec a b c d e g h i j l m o p q s=>gu F N a c d e g h i j l m o p q s (pK ⟨[.p 3 0 0],[z39,.rw .str .app,.rw .str .app,.bx [.i .i64,.i .i64]]⟩ (K (.exit 0)) c d e g h i j l m o p q s) (pK ⟨[.p 3 0 0],[z39,.rw .str .app,.rw .str .app,.bx [.i .i64,.i .i64]]⟩ (K .ret) c d e g h i j l m o p) (fun b=>rec a b c d e g h i j l m o p q s) b }],g:=[⟨sr F,hF.r12_looking_expr⟩] }
theorem xb (F:aE) (hF:dg F) (N:Nat):Ct.ok E0 ⟨(mA F hF N).f,(mA F hF N).q,fun R k=>(fun R k a b c d e g h i j l m o=>gb F N a b c d e g h i j l m o (oQ ⟨.ag [.i .i64,.i .i64],[],[]⟩ k)) R fun v ns=>k ⟨v,none,ns⟩⟩:=FD.ctq e0 (mA F hF N) N (fun R k a b c d e g h i j l m o=>gb F N a b c d e g h i j l m o (oQ ⟨.ag [.i .i64,.i .i64],[],[]⟩ k))
def gS (F:aE) (N:Nat) (Kind N_:Int) (Name:List UInt8) (Kids:List Expr) (At:Int) (Name_2:List UInt8) (Steps Fuel:Int) (Vars Ports Timers:List af) (States:List State) (At_2 trans:Int) (names states:List (List UInt8)) (k0:Int→Int→Option R):Option R :=
 (ifB (Kind == 2) true (jk N Vars (fun r1 =>
 eW N r1 Name (fun r2 =>
 some (!r2)))) (some false)).bind fun c3 =>
 (ifB c3 false ((ifB (Kind == 4) true (eW N states Name (fun r4 =>
 some (!r4))) (some false)).bind fun c5 =>
 some c5) (some true)).bind fun c6 =>
 if c6 = true then
 (k0 7 At)
 else
 (F.r12_looking_exprs _ Kids Name_2 Steps Fuel Vars Ports Timers States At_2 trans names states (fun r7 r8 =>
 k0 r7 r8))
def nD (F:aE) (hF:dg F) (N:Nat):FD E0:={ f:=188,fn:=Tryz.f188,q:=nC,g:=[ll N,lT N,tD N,⟨mz F,hF.r12_looking_exprs⟩] }
theorem yd (F:aE) (hF:dg F) (N:Nat):Ct.ok E0 ⟨(nD F hF N).f,(nD F hF N).q,fun R k=>(fun R k a b c d e g h i j l m o p q s t=>gS F N a b c d e g h i j l m o p q s t (oQ ⟨.ag [.i .i64,.i .i64],[],[]⟩ k)) R fun v ns=>k ⟨v,none,ns⟩⟩:=FD.ctq e0 (nD F hF N) N (fun R k a b c d e g h i j l m o p q s t=>gS F N a b c d e g h i j l m o p q s t (oQ ⟨.ag [.i .i64,.i .i64],[],[]⟩ k))
def su (F:aE) (N:Nat):aE where
 r12_looking_exprs:=fun R l Name Steps Fuel Vars Ports Timers States At trans names states k0=>gb F N l Name Steps Fuel Vars Ports Timers States At trans names states k0
 r12_looking_expr:=fun R Kind N_ Name Kids At Name_2 Steps Fuel Vars Ports Timers States At_2 trans names states k0=>gS F N Kind N_ Name Kids At Name_2 Steps Fuel Vars Ports Timers States At_2 trans names states k0
def aD (N:Nat):Nat→aE
 | 0=>{ r12_looking_exprs:=fun _ _ _ _ _ _ _ _ _ _ _ _ _ _=>none,r12_looking_expr:=fun _ _ _ _ _ _ _ _ _ _ _ _ _ _ _ _ _ _=>none }
 | d + 1=>su (aD N d) N
theorem gv (N:Nat):∀ d,dg (aD N d)
 | 0=>{ r12_looking_exprs:=Ct.ok_none,r12_looking_expr:=Ct.ok_none }
 | d + 1=>{ r12_looking_exprs:=xb _ (gv N d) N,r12_looking_expr:=yd _ (gv N d) N }
def r12_looking_exprs (N:Nat) (l:List Expr) (Name:List UInt8) (Steps Fuel:Int) (Vars Ports Timers:List af) (States:List State) (At trans:Int) (names states:List (List UInt8)) (k0:Int→Int→Option R):Option R:=(aD N N).r12_looking_exprs R l Name Steps Fuel Vars Ports Timers States At trans names states k0
theorem ye (N d:Nat) (l:List Expr) (Name:List UInt8) (Steps Fuel:Int) (Vars Ports Timers:List af) (States:List State) (At trans:Int) (names states:List (List UInt8)) (k0:Int→Int→Option R):(aD N (d + 1)).r12_looking_exprs R l Name Steps Fuel Vars Ports Timers States At trans names states k0 = gb (aD N d) N l Name Steps Fuel Vars Ports Timers States At trans names states k0:=rfl
def qS (N:Nat):OC E0:=⟨mz (aD N N),(gv N N).r12_looking_exprs⟩
def r12_looking_expr (N:Nat) (Kind N_:Int) (Name:List UInt8) (Kids:List Expr) (At:Int) (Name_2:List UInt8) (Steps Fuel:Int) (Vars Ports Timers:List af) (States:List State) (At_2 trans:Int) (names states:List (List UInt8)) (k0:Int→Int→Option R):Option R:=(aD N N).r12_looking_expr R Kind N_ Name Kids At Name_2 Steps Fuel Vars Ports Timers States At_2 trans names states k0
theorem zl (N d:Nat) (Kind N_:Int) (Name:List UInt8) (Kids:List Expr) (At:Int) (Name_2:List UInt8) (Steps Fuel:Int) (Vars Ports Timers:List af) (States:List State) (At_2 trans:Int) (names states:List (List UInt8)) (k0:Int→Int→Option R):(aD N (d + 1)).r12_looking_expr R Kind N_ Name Kids At Name_2 Steps Fuel Vars Ports Timers States At_2 trans names states k0 = gS (aD N d) N Kind N_ Name Kids At Name_2 Steps Fuel Vars Ports Timers States At_2 trans names states k0:=rfl
structure aP where
 r12_looking_acts:(R:Type)→(List Act)→(List UInt8)→Int→Int→(List af)→(List af)→(List af)→(List State)→Int→Int→(List (List UInt8))→(List (List UInt8))→(Int→Int→Option R)→Option R
def nE:Pat S:=⟨[.p 0 0 0,.t .act],[z39,.rw .str .app,.rw .str .app]⟩
def nF (F:aP):Ct S:=⟨146,nE,fun R k=>((fun R k a b c d e g h i j l m o=>F.r12_looking_acts R a b c d e g h i j l m o (oQ ⟨.ag [.i .i64,.i .i64],[],[]⟩ k):(R:Type)→(TV S→List (Obj S)→Option R)→nE.Fn (Option R))) R fun v ns=>k ⟨v,none,ns⟩⟩
structure jm (F:aP):Prop where
 r12_looking_acts:(nF F).ok E0
end
end So
