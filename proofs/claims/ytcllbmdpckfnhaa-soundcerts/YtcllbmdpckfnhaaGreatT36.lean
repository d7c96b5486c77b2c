/- T3_6: a part of the proof of SoundCerts: lemmas on the evaluator and on the functions that the law reaches. -/
import Derived.Test.YtcllbmdpckfnhaaGreatT35
set_option maxRecDepth 100000
set_option linter.unusedVariables false
namespace So
open Go TE Go.Proofs
noncomputable section
variable {R:Type}
def fj (F:aP) (N:Nat) (l_86:List Act) (i_87:Int) (x_88:List UInt8) (x_89 x_90:Int) (x_91 x_92 x_93:List af) (x_94:List State) (x_95 x_96:Int) (o_97 o_98:List (List UInt8)) (v_99 v_100 f_101 f_102:Int) (kp0 kp1:Option R):Option R :=
 if (f_101 != 0) = true then
 (kp0 )
 else
 (kp1 )
def fl (F:aP) (N:Nat) (l_59:List Act) (i_60:Int) (x_61:List UInt8) (x_62 x_63:Int) (x_64 x_65 x_66:List af) (x_67:List State) (x_68 x_69:Int) (o_70 o_71:List (List UInt8)) (v_72 v_73 a_74:Int) (a_75 a_76:List UInt8) (a_77:List Expr) (a_78:Int) (a_79 a_80:List Act) (a_81 f_82 f_83:Int) (kp0:Int→Int→Option R) (kp1:Option R):Option R :=
 if (f_82 == 0) = true then
 (F.r12_looking_acts _ a_80 x_61 x_62 x_63 x_64 x_65 x_66 x_67 x_68 x_69 o_70 o_71 (fun r84 r85 =>
 fj F N l_59 i_60 x_61 x_62 x_63 x_64 x_65 x_66 x_67 x_68 x_69 o_70 o_71 v_72 v_73 r84 r85 (kp0 r84 r85)
 (kp1 )))
 else
 (fj F N l_59 i_60 x_61 x_62 x_63 x_64 x_65 x_66 x_67 x_68 x_69 o_70 o_71 v_72 v_73 f_82 f_83 (kp0 f_82 f_83)
 (kp1 ))
def mB (F:aP) (N:Nat) (l_29:List Act) (i_30:Int) (none_31:Bool) (x_32:List UInt8) (x_33 x_34:Int) (x_35 x_36 x_37:List af) (x_38:List State) (x_39 x_40:Int) (o_41 o_42:List (List UInt8)) (v_43 v_44 a_45:Int) (a_46 a_47:List UInt8) (a_48:List Expr) (a_49:Int) (a_50 a_51:List Act) (a_52:Int) (kp0:Int→Int→Option R) (kp1:Option R):Option R :=
 if none_31 = true then
 (kp0 7 a_52)
 else
 ((ifB (a_45 == 7) true ((ifB (decide (a_49 < 1)) false (some (decide (a_49 > 16))) (some true)).bind fun c53 =>
 some c53) (some false)).bind fun c54 =>
 if c54 = true then
 (kp0 16 a_52)
 else
 (r12_looking_exprs N a_48 x_32 x_33 x_34 x_35 x_36 x_37 x_38 x_39 x_40 o_41 o_42 (fun r55 r56 =>
 if (r55 == 0) = true then
 (F.r12_looking_acts _ a_50 x_32 x_33 x_34 x_35 x_36 x_37 x_38 x_39 x_40 o_41 o_42 (fun r57 r58 =>
 fl F N l_29 i_30 x_32 x_33 x_34 x_35 x_36 x_37 x_38 x_39 x_40 o_41 o_42 v_43 v_44 a_45 a_46 a_47 a_48 a_49 a_50 a_51 a_52 r57 r58 (fun y103 y104 =>
 kp0 y103 y104)
 (kp1 )))
 else
 (fl F N l_29 i_30 x_32 x_33 x_34 x_35 x_36 x_37 x_38 x_39 x_40 o_41 o_42 v_43 v_44 a_45 a_46 a_47 a_48 a_49 a_50 a_51 a_52 r55 r56 (fun y105 y106 =>
 kp0 y105 y106)
 (kp1 )))))
def hO (F:aP) (N:Nat) (l_1:List Act) (x_3:List UInt8) (x_4 x_5:Int) (x_6 x_7 x_8:List af) (x_9:List State) (x_10 x_11:Int) (o_12 o_13:List (List UInt8)) (v_14 v_15:Int) (kp0:Option R) (kp1:Int→Int→Option R) (rec:Int→Option R) (i_2:Int):Option R :=
 if (decide (i_2 < ((l_1.length:Nat):Int))) = true then
 ((at? l_1 i_2).bind fun e16 =>
 (ifB (e16.Kind == 1) true (jk N x_6 (fun r17 =>
 eW N r17 e16.Name (fun r18 =>
 some (!r18)))) (some false)).bind fun c19 =>
 (ifB c19 false ((ifB (e16.Kind == 3) true (jk N x_7 (fun r20 =>
 eW N r20 e16.Name (fun r21 =>
 some (!r21)))) (some false)).bind fun c22 =>
 some c22) (some true)).bind fun c23 =>
 (ifB c23 false ((ifB (e16.Kind == 4) false (some (e16.Kind == 5)) (some true)).bind fun c24 =>
 (ifB c24 true (jk N x_8 (fun r25 =>
 eW N r25 e16.Name (fun r26 =>
 some (!r26)))) (some false)).bind fun c27 =>
 some c27) (some true)).bind fun c28 =>
 mB F N l_1 i_2 c28 x_3 x_4 x_5 x_6 x_7 x_8 x_9 x_10 x_11 o_12 o_13 v_14 v_15 e16.Kind e16.Name e16.Event e16.X e16.N e16.Then e16.Else e16.At (fun y107 y108 =>
 kp1 y107 y108)
 (rec (IntKind.wrap .i64 (i_2 + 1))))
 else
 (kp0 )
def ew (F:aP) (N:Nat) (l_1:List Act) (x_3:List UInt8) (x_4 x_5:Int) (x_6 x_7 x_8:List af) (x_9:List State) (x_10 x_11:Int) (o_12 o_13:List (List UInt8)) (v_14 v_15:Int) (kp0:Option R) (kp1:Int→Int→Option R):Nat→Int→Option R
 | 0=>fun _=>none
 | n + 1=>fun i_2=>hO F N l_1 x_3 x_4 x_5 x_6 x_7 x_8 x_9 x_10 x_11 o_12 o_13 v_14 v_15 kp0 kp1 (ew F N l_1 x_3 x_4 x_5 x_6 x_7 x_8 x_9 x_10 x_11 o_12 o_13 v_14 v_15 kp0 kp1 n) i_2
def gT (F:aP) (N:Nat) (l:List Act) (Name:List UInt8) (Steps Fuel:Int) (Vars Ports Timers:List af) (States:List State) (At trans:Int) (names states:List (List UInt8)) (k0:Int→Int→Option R):Option R :=
 ew F N l Name Steps Fuel Vars Ports Timers States At trans names states 0 0 (k0 0 0)
 (fun y109 y110 =>
 k0 y109 y110) N 0
def nG (F:aP) (hF:jm F) (N:Nat):FD E0:={ f:=146,fn:=Tryz.f146,q:=nE,loops:=[{ cur:=0,live:=[0,1,4,5],out:=fun | .exit 0=>([4],[]) | .ret=>([4],[]) | _=>([],[]),q:=⟨[.p 0 0 0,.t .act,.p 3 0 0,.i .i64],[z39,.rw .str .app,.rw .str .app,.bx [.i .i64,.i .i64]]⟩,G:=fun R K n a b c d e g h i j l m o p q s=>ew F N a c d e g h i j l m o p q s (pK ⟨[.p 3 0 0],[z39,.rw .str .app,.rw .str .app,.bx [.i .i64,.i .i64]]⟩ (K (.exit 0)) c d e g h i j l m o p q s) (pK ⟨[.p 3 0 0],[z39,.rw .str .app,.rw .str .app,.bx [.i .i64,.i .i64]]⟩ (K .ret) c d e g h i j l m o p) n b,B:=fun R K rec a b c d e g h i j l m o p q s=>hO F N a c d e g h i j l m o p q s (pK ⟨[.p 3 0 0],[z39,.rw .str .app,.rw .str .app,.bx [.i .i64,.i .i64]]⟩ (K (.exit 0)) c d e g h i j l m o p q s) (pK ⟨[.p 3 0 0],[z39,.rw .str .app,.rw .str .app,.bx [.i .i64,.i .i64]]⟩ (K .ret) c d e g h i j l m o p) (fun b=>rec a b c d e g h i j l m o p q s) b }],cuts:=[{ key:=15,live:=[0,1,4,5,8],out:=fun | .ret=>([4],[]) | .normal=>([0,1,4,5],[]) | _=>([],[]),q:=⟨[.p 0 0 0,.t .act,.p 3 0 0,.i .i64,.p 4 0 0],[z39,.rw .str .app,.rw .str .app,.bx [.i .i64,.i .i64],.bx [.i .i64,.i .i64]]⟩,G:=fun R K a b c d e g h i j l m o p q s t u=>fj F N a b c d e g h i j l m o p q s t u (pK ⟨[.p 3 0 0],[z39,.rw .str .app,.rw .str .app,.bx [.i .i64,.i .i64]]⟩ (K .ret) c d e g h i j l m o p t u) (pK ⟨[.p 0 0 0,.t .act,.p 3 0 0,.i .i64],[z39,.rw .str .app,.rw .str .app,.bx [.i .i64,.i .i64]]⟩ (K .normal) a b c d e g h i j l m o p q s) },{ key:=13,live:=[0,1,4,5,6,8],out:=fun | .ret=>([4],[]) | .normal=>([0,1,4,5],[]) | _=>([],[]),q:=⟨[.p 0 0 0,.t .act,.p 3 0 0,.i .i64,.p 4 0 0,.p 5 0 0],[z39,.rw .str .app,.rw .str .app,.bx [.i .i64,.i .i64],z10,.bx [.i .i64,.i .i64]]⟩,G:=fun R K a b c d e g h i j l m o p q s t u v w x y z a1 b1 c1=>fl F N a b c d e g h i j l m o p q s t u v w x y z a1 b1 c1 (pK ⟨[.p 3 0 0],[z39,.rw .str .app,.rw .str .app,.bx [.i .i64,.i .i64]]⟩ (K .ret) c d e g h i j l m o p) (pK ⟨[.p 0 0 0,.t .act,.p 3 0 0,.i .i64],[z39,.rw .str .app,.rw .str .app,.bx [.i .i64,.i .i64]]⟩ (K .normal) a b c d e g h i j l m o p q s) },{ key:=6,live:=[0,1,4,5,6,7],out:=fun | .ret=>([4],[]) | .normal=>([0,1,4,5],[]) | _=>([],[]),q:=⟨[.p 0 0 0,.t .act,.p 3 0 0,.i .i64,.p 4 0 0,.b],[z39,.rw .str .app,.rw .str .app,.bx [.i .i64,.i .i64],z10]⟩,G:=fun R K a b c d e g h i j l m o p q s t u v w x y z a1 b1=>mB F N a b c d e g h i j l m o p q s t u v w x y z a1 b1 (pK ⟨[.p 3 0 0],[z39,.rw .str .app,.rw .str .app,.bx [.i .i64,.i .i64]]⟩ (K .ret) d e g h i j l m o p q) (pK ⟨[.p 0 0 0,.t .act,.p 3 0 0,.i .i64],[z39,.rw .str .app,.rw .str .app,.bx [.i .i64,.i .i64]]⟩ (K .normal) a b d e g h i j l m o p q s t) }],g:=[ll N,lT N,tD N,⟨nF F,hF.r12_looking_acts⟩,qS N] }
theorem yf (F:aP) (hF:jm F) (N:Nat):Ct.ok E0 ⟨(nG F hF N).f,(nG F hF N).q,fun R k=>(fun R k a b c d e g h i j l m o=>gT F N a b c d e g h i j l m o (oQ ⟨.ag [.i .i64,.i .i64],[],[]⟩ k)) R fun v ns=>k ⟨v,none,ns⟩⟩:=FD.ctq e0 (nG F hF N) N (fun R k a b c d e g h i j l m o=>gT F N a b c d e g h i j l m o (oQ ⟨.ag [.i .i64,.i .i64],[],[]⟩ k))
def sW (F:aP) (N:Nat):aP where
 r12_looking_acts:=fun R l Name Steps Fuel Vars Ports Timers States At trans names states k0=>gT F N l Name Steps Fuel Vars Ports Timers States At trans names states k0
def aV (N:Nat):Nat→aP
 | 0=>{ r12_looking_acts:=fun _ _ _ _ _ _ _ _ _ _ _ _ _ _=>none }
 | d + 1=>sW (aV N d) N
theorem ln (N:Nat):∀ d,jm (aV N d)
 | 0=>{ r12_looking_acts:=Ct.ok_none }
 | d + 1=>{ r12_looking_acts:=yf _ (ln N d) N }
def r12_looking_acts (N:Nat) (l:List Act) (Name:List UInt8) (Steps Fuel:Int) (Vars Ports Timers:List af) (States:List State) (At trans:Int) (names states:List (List UInt8)) (k0:Int→Int→Option R):Option R:=(aV N N).r12_looking_acts R l Name Steps Fuel Vars Ports Timers States At trans names states k0
theorem zm (N d:Nat) (l:List Act) (Name:List UInt8) (Steps Fuel:Int) (Vars Ports Timers:List af) (States:List State) (At trans:Int) (names states:List (List UInt8)) (k0:Int→Int→Option R):(aV N (d + 1)).r12_looking_acts R l Name Steps Fuel Vars Ports Timers States At trans names states k0 = gT (aV N d) N l Name Steps Fuel Vars Ports Timers States At trans names states k0:=rfl
def sv (N:Nat):OC E0:=⟨nF (aV N N),(ln N N).r12_looking_acts⟩
def mZ (N:Nat) (Event:List UInt8) (Guard:List Expr) (Target:List UInt8) (Acts:List Act) (At:Int) (Name:List UInt8) (Steps Fuel:Int) (Vars Ports Timers:List af) (States:List State) (At_2 trans:Int) (names states:List (List UInt8)) (k0:Int→Int→Int→Option R):Option R :=
 if (trans == 96) = true then
 (k0 15 At trans)
 else
 ((ifB (!(Target == [])) true (eW N names Target (fun r1 =>
 some (!r1))) (some false)).bind fun c2 =>
 if c2 = true then
 (k0 7 At (IntKind.wrap .i64 (trans + 1)))
 else
 (r12_looking_exprs N Guard Name Steps Fuel Vars Ports Timers States At_2 (IntKind.wrap .i64 (trans + 1)) names states (fun r3 r4 =>
 if (r3 == 0) = true then
 (r12_looking_acts N Acts Name Steps Fuel Vars Ports Timers States At_2 (IntKind.wrap .i64 (trans + 1)) names states (fun r5 r6 =>
 k0 r5 r6 (IntKind.wrap .i64 (trans + 1))))
 else
 (k0 r3 r4 (IntKind.wrap .i64 (trans + 1))))))
def Bu (N:Nat):FD E0:={ f:=147,fn:=Tryz.f147,q:=⟨[.p 0 0 0,y11],[z39,.rw .str .app,.rw .str .app]⟩,g:=[ll N,lT N,sv N,qS N] }
def Bv (N:Nat):OC E0:=⟨_,FD.ct e0 (Bu N) N (fun R k a b c d e g h i j l m o p q s t=>mZ N a b c d e g h i j l m o p q s t (fun u v w=>oK ⟨.ag [.i .i64,.i .i64],[z39,.rw .str .app,.rw .str .app],[]⟩ k u v g h i j l m o p w s t))⟩
structure aF where
 r12_looking_inner:(R:Type)→(List State)→(List UInt8)→Int→Int→(List af)→(List af)→(List af)→(List State)→Int→Int→(List (List UInt8))→(List (List UInt8))→(Int→Int→Int→Option R)→Option R
def qT:Pat S:=⟨[.p 0 0 0,.t .state],[z39,.rw .str .app,.rw .str .app]⟩
def mC (F:aF):Ct S:=⟨93,qT,fun R k a b c d e g h i j l m o=>F.r12_looking_inner R a b c d e g h i j l m o (fun p q s=>oK ⟨.ag [.i .i64,.i .i64],[z39,.rw .str .app,.rw .str .app],[]⟩ k p q b c d e g h i j s m o)⟩
structure iQ (F:aF):Prop where
 r12_looking_inner:(mC F).ok E0
def cL (F:aF) (N:Nat) (l_45:List State) (i_46:Int) (x_48:List UInt8) (x_49 x_50:Int) (x_51 x_52 x_53:List af) (x_54:List State) (x_55:Int) (o_57 o_58:List (List UInt8)) (v_59 v_60 s_61:Int) (s_62:List UInt8) (s_63 s_64:List Act) (s_65:List Trans) (s_66:List State) (s_67:Int) (kp0:Int→Int→Int→Option R) (rec:Int→Int→Int→Int→Option R) (k_47 x_56 f_68 f_69:Int):Option R :=
 (ifB (f_68 == 0) true (some (decide (k_47 < ((s_65.length:Nat):Int)))) (some false)).bind fun c70 =>
 if c70 = true then
 ((at? s_65 k_47).bind fun e71 =>
 mZ N e71.Event e71.Guard e71.Target e71.Acts e71.At x_48 x_49 x_50 x_51 x_52 x_53 x_54 x_55 x_56 o_57 o_58 (fun r72 r73 r74 =>
 rec (IntKind.wrap .i64 (k_47 + 1)) r74 r72 r73))
 else
 (kp0 x_56 f_68 f_69)
def bI (F:aF) (N:Nat) (l_45:List State) (i_46:Int) (x_48:List UInt8) (x_49 x_50:Int) (x_51 x_52 x_53:List af) (x_54:List State) (x_55:Int) (o_57 o_58:List (List UInt8)) (v_59 v_60 s_61:Int) (s_62:List UInt8) (s_63 s_64:List Act) (s_65:List Trans) (s_66:List State) (s_67:Int) (kp0:Int→Int→Int→Option R):Nat→Int→Int→Int→Int→Option R
 | 0=>fun _ _ _ _=>none
 | n + 1=>fun k_47 x_56 f_68 f_69=>cL F N l_45 i_46 x_48 x_49 x_50 x_51 x_52 x_53 x_54 x_55 o_57 o_58 v_59 v_60 s_61 s_62 s_63 s_64 s_65 s_66 s_67 kp0 (bI F N l_45 i_46 x_48 x_49 x_50 x_51 x_52 x_53 x_54 x_55 o_57 o_58 v_59 v_60 s_61 s_62 s_63 s_64 s_65 s_66 s_67 kp0 n) k_47 x_56 f_68 f_69
def bO (F:aF) (N:Nat) (l_81:List State) (i_82:Int) (x_83:List UInt8) (x_84 x_85:Int) (x_86 x_87 x_88:List af) (x_89:List State) (x_90 x_91:Int) (o_92 o_93:List (List UInt8)) (v_94 v_95 f_96 f_97:Int) (kp0 kp1:Option R):Option R :=
 if (f_96 != 0) = true then
 (kp0 )
 else
 (kp1 )
def fm (F:aF) (N:Nat) (l_21:List State) (i_22:Int) (x_23:List UInt8) (x_24 x_25:Int) (x_26 x_27 x_28:List af) (x_29:List State) (x_30 x_31:Int) (o_32 o_33:List (List UInt8)) (v_34 v_35 s_36:Int) (s_37:List UInt8) (s_38 s_39:List Act) (s_40:List Trans) (s_41:List State) (s_42 f_43 f_44:Int) (kp0:Int→Int→Int→Option R) (kp1:Int→Option R):Option R :=
 bI F N l_21 i_22 x_23 x_24 x_25 x_26 x_27 x_28 x_29 x_30 o_32 o_33 v_34 v_35 s_36 s_37 s_38 s_39 s_40 s_41 s_42 (fun y75 y76 y77 =>
 if (y76 == 0) = true then
 (F.r12_looking_inner _ s_41 x_23 x_24 x_25 x_26 x_27 x_28 x_29 x_30 y75 o_32 o_33 (fun r78 r79 r80 =>
 bO F N l_21 i_22 x_23 x_24 x_25 x_26 x_27 x_28 x_29 x_30 r80 o_32 o_33 v_34 v_35 r78 r79 (kp0 r80 r78 r79)
 (kp1 r80)))
 else
 (bO F N l_21 i_22 x_23 x_24 x_25 x_26 x_27 x_28 x_29 x_30 y75 o_32 o_33 v_34 v_35 y76 y77 (kp0 y75 y76 y77)
 (kp1 y75))) N 0 x_31 f_43 f_44
def gw (F:aF) (N:Nat) (l_1:List State) (x_3:List UInt8) (x_4 x_5:Int) (x_6 x_7 x_8:List af) (x_9:List State) (x_10:Int) (o_12 o_13:List (List UInt8)) (v_14 v_15:Int) (kp0:Int→Option R) (kp1:Int→Int→Int→Option R) (rec:Int→Int→Option R) (i_2 x_11:Int):Option R :=
 if (decide (i_2 < ((l_1.length:Nat):Int))) = true then
 ((at? l_1 i_2).bind fun e16 =>
 r12_looking_acts N e16.Entry x_3 x_4 x_5 x_6 x_7 x_8 x_9 x_10 x_11 o_12 o_13 (fun r17 r18 =>
 if (r17 == 0) = true then
 (r12_looking_acts N e16.Exit x_3 x_4 x_5 x_6 x_7 x_8 x_9 x_10 x_11 o_12 o_13 (fun r19 r20 =>
 fm F N l_1 i_2 x_3 x_4 x_5 x_6 x_7 x_8 x_9 x_10 x_11 o_12 o_13 v_14 v_15 e16.Kind e16.Name e16.Entry e16.Exit e16.Trans e16.Kids e16.At r19 r20 (fun y98 y99 y100 =>
 kp1 y98 y99 y100)
 (fun y101 =>
 rec (IntKind.wrap .i64 (i_2 + 1)) y101)))
 else
 (fm F N l_1 i_2 x_3 x_4 x_5 x_6 x_7 x_8 x_9 x_10 x_11 o_12 o_13 v_14 v_15 e16.Kind e16.Name e16.Entry e16.Exit e16.Trans e16.Kids e16.At r17 r18 (fun y102 y103 y104 =>
 kp1 y102 y103 y104)
 (fun y105 =>
 rec (IntKind.wrap .i64 (i_2 + 1)) y105))))
 else
 (kp0 x_11)
def bt (F:aF) (N:Nat) (l_1:List State) (x_3:List UInt8) (x_4 x_5:Int) (x_6 x_7 x_8:List af) (x_9:List State) (x_10:Int) (o_12 o_13:List (List UInt8)) (v_14 v_15:Int) (kp0:Int→Option R) (kp1:Int→Int→Int→Option R):Nat→Int→Int→Option R
 | 0=>fun _ _=>none
 | n + 1=>fun i_2 x_11=>gw F N l_1 x_3 x_4 x_5 x_6 x_7 x_8 x_9 x_10 o_12 o_13 v_14 v_15 kp0 kp1 (bt F N l_1 x_3 x_4 x_5 x_6 x_7 x_8 x_9 x_10 o_12 o_13 v_14 v_15 kp0 kp1 n) i_2 x_11
def gd (F:aF) (N:Nat) (l:List State) (Name:List UInt8) (Steps Fuel:Int) (Vars Ports Timers:List af) (States:List State) (At trans:Int) (names states:List (List UInt8)) (k0:Int→Int→Int→Option R):Option R :=
 bt F N l Name Steps Fuel Vars Ports Timers States At names states 0 0 (fun y106 =>
 k0 0 0 y106)
 (fun y107 y108 y109 =>
 k0 y108 y109 y107) N 0 trans
def mD (F:aF) (hF:iQ F) (N:Nat):FD E0:={ f:=93,fn:=Tryz.f93,q:=qT,loops:=[{ cur:=2,live:=[0,1,4,5,6,7,8],out:=fun | .exit 2=>([0,1,4,5,6,7],[]) | _=>([],[]),q:=⟨[.p 0 0 0,.t .state,.p 3 0 0,.i .i64,.p 4 0 0,.p 5 0 0,.i .i64],[z39,.rw .str .app,.rw .str .app,.bx [.i .i64,.i .i64],z35,.bx [.i .i64,.i .i64]]⟩,G:=fun R K n a b c d e g h i j l m o p q s t u v w x y z a1 b1 c1=>bI F N a b d e g h i j l m p q s t u v w x y z a1 (fun d1=>pK ⟨[.p 0 0 0,.t .state,.p 3 0 0,.i .i64,.p 4 0 0,.p 5 0 0],[z39,.rw .str .app,.rw .str .app,.bx [.i .i64,.i .i64],z35,.bx [.i .i64,.i .i64]]⟩ (K (.exit 2)) a b d e g h i j l m d1 p q s t u v w x y z a1) n c o b1 c1,B:=fun R K rec a b c d e g h i j l m o p q s t u v w x y z a1 b1 c1=>cL F N a b d e g h i j l m p q s t u v w x y z a1 (fun d1=>pK ⟨[.p 0 0 0,.t .state,.p 3 0 0,.i .i64,.p 4 0 0,.p 5 0 0],[z39,.rw .str .app,.rw .str .app,.bx [.i .i64,.i .i64],z35,.bx [.i .i64,.i .i64]]⟩ (K (.exit 2)) a b d e g h i j l m d1 p q s t u v w x y z a1) (fun c o b1 c1=>rec a b c d e g h i j l m o p q s t u v w x y z a1 b1 c1) c o b1 c1 },{ cur:=0,live:=[0,1,4,5],out:=fun | .exit 0=>([4],[]) | .ret=>([4],[]) | _=>([],[]),q:=⟨[.p 0 0 0,.t .state,.p 3 0 0,.i .i64],[z39,.rw .str .app,.rw .str .app,.bx [.i .i64,.i .i64]]⟩,G:=fun R K n a b c d e g h i j l m o p q s=>bt F N a c d e g h i j l o p q s (fun t=>pK ⟨[.p 3 0 0],[z39,.rw .str .app,.rw .str .app,.bx [.i .i64,.i .i64]]⟩ (K (.exit 0)) c d e g h i j l t o p q s) (fun t=>pK ⟨[.p 3 0 0],[z39,.rw .str .app,.rw .str .app,.bx [.i .i64,.i .i64]]⟩ (K .ret) c d e g h i j l t o p) n b m,B:=fun R K rec a b c d e g h i j l m o p q s=>gw F N a c d e g h i j l o p q s (fun t=>pK ⟨[.p 3 0 0],[z39,.rw .str .app,.rw .str .app,.bx [.i .i64,.i .i64]]⟩ (K (.exit 0)) c d e g h i j l t o p q s) (fun t=>pK ⟨[.p 3 0 0],[z39,.rw .str .app,.rw .str .app,.bx [.i .i64,.i .i64]]⟩ (K .ret) c d e g h i j l t o p) (fun b m=>rec a b c d e g h i j l m o p q s) b m }],cuts:=[{ key:=14,live:=[0,1,4,5,7],out:=fun | .ret=>([4],[]) | .normal=>([0,1,4,5],[]) | _=>([],[]),q:=⟨[.p 0 0 0,.t .state,.p 3 0 0,.i .i64,.p 4 0 0],[z39,.rw .str .app,.rw .str .app,.bx [.i .i64,.i .i64],.bx [.i .i64,.i .i64]]⟩,G:=fun R K a b c d e g h i j l m o p q s t u=>bO F N a b c d e g h i j l m o p q s t u (pK ⟨[.p 3 0 0],[z39,.rw .str .app,.rw .str .app,.bx [.i .i64,.i .i64]]⟩ (K .ret) c d e g h i j l m o p t u) (pK ⟨[.p 0 0 0,.t .state,.p 3 0 0,.i .i64],[z39,.rw .str .app,.rw .str .app,.bx [.i .i64,.i .i64]]⟩ (K .normal) a b c d e g h i j l m o p q s) },{ key:=8,live:=[0,1,4,5,6,7],out:=fun | .ret=>([4],[]) | .normal=>([0,1,4,5],[]) | _=>([],[]),q:=⟨[.p 0 0 0,.t .state,.p 3 0 0,.i .i64,.p 4 0 0,.p 5 0 0],[z39,.rw .str .app,.rw .str .app,.bx [.i .i64,.i .i64],z35,.bx [.i .i64,.i .i64]]⟩,G:=fun R K a b c d e g h i j l m o p q s t u v w x y z a1 b1=>fm F N a b c d e g h i j l m o p q s t u v w x y z a1 b1 (fun c1=>pK ⟨[.p 3 0 0],[z39,.rw .str .app,.rw .str .app,.bx [.i .i64,.i .i64]]⟩ (K .ret) c d e g h i j l c1 o p) (fun c1=>pK ⟨[.p 0 0 0,.t .state,.p 3 0 0,.i .i64],[z39,.rw .str .app,.rw .str .app,.bx [.i .i64,.i .i64]]⟩ (K .normal) a b c d e g h i j l c1 o p q s) }],g:=[⟨mC F,hF.r12_looking_inner⟩,sv N,Bv N] }
theorem xc (F:aF) (hF:iQ F) (N:Nat):Ct.ok E0 ⟨(mD F hF N).f,(mD F hF N).q,fun R k a b c d e g h i j l m o=>gd F N a b c d e g h i j l m o (fun p q s=>oK ⟨.ag [.i .i64,.i .i64],[z39,.rw .str .app,.rw .str .app],[]⟩ k p q b c d e g h i j s m o)⟩:=FD.ct e0 (mD F hF N) N (fun R k a b c d e g h i j l m o=>gd F N a b c d e g h i j l m o (fun p q s=>oK ⟨.ag [.i .i64,.i .i64],[z39,.rw .str .app,.rw .str .app],[]⟩ k p q b c d e g h i j s m o))
def sx (F:aF) (N:Nat):aF where
 r12_looking_inner:=fun R l Name Steps Fuel Vars Ports Timers States At trans names states k0=>gd F N l Name Steps Fuel Vars Ports Timers States At trans names states k0
def al (N:Nat):Nat→aF
 | 0=>{ r12_looking_inner:=fun _ _ _ _ _ _ _ _ _ _ _ _ _ _=>none }
 | d + 1=>sx (al N d) N
theorem kP (N:Nat):∀ d,iQ (al N d)
 | 0=>{ r12_looking_inner:=Ct.ok_none }
 | d + 1=>{ r12_looking_inner:=xc _ (kP N d) N }
def r12_looking_inner (N:Nat) (l:List State) (Name:List UInt8) (Steps Fuel:Int) (Vars Ports Timers:List af) (States:List State) (At trans:Int) (names states:List (List UInt8)) (k0:Int→Int→Int→Option R):Option R:=(al N N).r12_looking_inner R l Name Steps Fuel Vars Ports Timers States At trans names states k0
theorem yg (N d:Nat) (l:List State) (Name:List UInt8) (Steps Fuel:Int) (Vars Ports Timers:List af) (States:List State) (At trans:Int) (names states:List (List UInt8)) (k0:Int→Int→Int→Option R):(al N (d + 1)).r12_looking_inner R l Name Steps Fuel Vars Ports Timers States At trans names states k0 = gd (al N d) N l Name Steps Fuel Vars Ports Timers States At trans names states k0:=rfl
def zn (N:Nat):OC E0:=⟨mC (al N N),(kP N N).r12_looking_inner⟩
def oF (N:Nat) (l_2:List Chart) (i_3 v_5 v_6:Int) (c_7:List UInt8) (c_8 c_9:Int) (c_10 c_11 c_12:List af) (c_13:List State) (c_14:Int) (kp0:Option R) (kp1:Int→Option R) (rec:Int→Option R) (k_4:Int):Option R :=
 if (decide (k_4 < i_3)) = true then
 ((at? l_2 k_4).bind fun e15 =>
 if (e15.Name == c_7) = true then
 (kp1 8)
 else
 (rec (IntKind.wrap .i64 (k_4 + 1))))
 else
 (kp0 )
def lV (N:Nat) (l_2:List Chart) (i_3 v_5 v_6:Int) (c_7:List UInt8) (c_8 c_9:Int) (c_10 c_11 c_12:List af) (c_13:List State) (c_14:Int) (kp0:Option R) (kp1:Int→Option R):Nat→Int→Option R
 | 0=>fun _=>none
 | n + 1=>fun k_4=>oF N l_2 i_3 v_5 v_6 c_7 c_8 c_9 c_10 c_11 c_12 c_13 c_14 kp0 kp1 (lV N l_2 i_3 v_5 v_6 c_7 c_8 c_9 c_10 c_11 c_12 c_13 c_14 kp0 kp1 n) k_4
def kr (N:Nat) (v_94 v_95:Int) (c_96:List UInt8) (c_97 c_98:Int) (c_99 c_100 c_101:List af) (c_102:List State) (c_103:Int) (x_104:List UInt8) (x_105 x_106:Int) (x_107 x_108 x_109:List af) (x_110:List State) (x_111 x_112:Int) (o_113 o_114:List (List UInt8)) (f_115 f_116:Int) (kp0:Int→Int→Option R):Option R :=
 if (f_115 == 0) = true then
 (r12_looking_inner N c_102 x_104 x_105 x_106 x_107 x_108 x_109 x_110 x_111 x_112 o_113 o_114 (fun r117 r118 r119 =>
 kp0 r117 r118))
 else
 (kp0 f_115 f_116)
def mL (N:Nat) (v_69 v_70:Int) (c_71:List UInt8) (c_72 c_73:Int) (c_74 c_75 c_76:List af) (c_77:List State) (c_78:Int) (x_79:List UInt8) (x_80 x_81:Int) (x_82 x_83 x_84:List af) (x_85:List State) (x_86 x_87 f_88 f_89:Int) (kp0:Int→Int→Option R):Option R :=
 if (f_88 == 0) = true then
 (jQ N c_77 true x_79 x_80 x_81 x_82 x_83 x_84 x_85 x_86 x_87 (fun r90 r91 r92 r93 =>
 kr N v_69 v_70 c_71 c_72 c_73 c_74 c_75 c_76 c_77 c_78 x_79 x_80 x_81 x_82 x_83 x_84 x_85 x_86 x_87 r92 r93 r90 r91 (fun y120 y121 =>
 kp0 y120 y121)))
 else
 (kr N v_69 v_70 c_71 c_72 c_73 c_74 c_75 c_76 c_77 c_78 x_79 x_80 x_81 x_82 x_83 x_84 x_85 x_86 x_87 ([]:List (List UInt8)) ([]:List (List UInt8)) f_88 f_89 (fun y122 y123 =>
 kp0 y122 y123))
def mM (N:Nat) (v_46 v_47:Int) (c_48:List UInt8) (c_49 c_50:Int) (c_51 c_52 c_53:List af) (c_54:List State) (c_55:Int) (x_56:List UInt8) (x_57 x_58:Int) (x_59 x_60 x_61:List af) (x_62:List State) (x_63 x_64 f_65 f_66:Int) (kp0:Int→Int→Option R):Option R :=
 if (f_65 == 0) = true then
 (pB N c_53 6 (fun r67 r68 =>
 mL N v_46 v_47 c_48 c_49 c_50 c_51 c_52 c_53 c_54 c_55 x_56 x_57 x_58 x_59 x_60 x_61 x_62 x_63 x_64 r67 r68 (fun y124 y125 =>
 kp0 y124 y125)))
 else
 (mL N v_46 v_47 c_48 c_49 c_50 c_51 c_52 c_53 c_54 c_55 x_56 x_57 x_58 x_59 x_60 x_61 x_62 x_63 x_64 f_65 f_66 (fun y126 y127 =>
 kp0 y126 y127))
def mN (N:Nat) (v_23 v_24:Int) (c_25:List UInt8) (c_26 c_27:Int) (c_28 c_29 c_30:List af) (c_31:List State) (c_32:Int) (x_33:List UInt8) (x_34 x_35:Int) (x_36 x_37 x_38:List af) (x_39:List State) (x_40 x_41 f_42 f_43:Int) (kp0:Int→Int→Option R):Option R :=
 if (f_42 == 0) = true then
 (pB N c_29 6 (fun r44 r45 =>
 mM N v_23 v_24 c_25 c_26 c_27 c_28 c_29 c_30 c_31 c_32 x_33 x_34 x_35 x_36 x_37 x_38 x_39 x_40 x_41 r44 r45 (fun y128 y129 =>
 kp0 y128 y129)))
 else
 (mM N v_23 v_24 c_25 c_26 c_27 c_28 c_29 c_30 c_31 c_32 x_33 x_34 x_35 x_36 x_37 x_38 x_39 x_40 x_41 f_42 f_43 (fun y130 y131 =>
 kp0 y130 y131))
def yG (N:Nat) (l:List Chart) (i:Int) (k0:Int→Int→Option R):Option R :=
 (at? l i).bind fun e1 =>
 lV N l i 0 0 e1.Name e1.Steps e1.Fuel e1.Vars e1.Ports e1.Timers e1.States e1.At ((ifB (decide (e1.Steps < 2)) false (some (decide (e1.Steps > 16))) (some true)).bind fun c17 =>
 (ifB c17 false (some (decide (e1.Fuel < 1))) (some true)).bind fun c18 =>
 (ifB c18 false (some (decide (e1.Fuel > 4096))) (some true)).bind fun c19 =>
 if c19 = true then
 (k0 16 e1.At)
 else
 (oB N e1.States (fun r20 =>
 if (!r20) = true then
 (k0 7 e1.At)
 else
 (pB N e1.Vars 8 (fun r21 r22 =>
 mN N 0 0 e1.Name e1.Steps e1.Fuel e1.Vars e1.Ports e1.Timers e1.States e1.At e1.Name e1.Steps e1.Fuel e1.Vars e1.Ports e1.Timers e1.States e1.At 0 r21 r22 (fun y132 y133 =>
 k0 y132 y133))))))
 (fun y16 =>
 k0 y16 e1.At) N 0
def IZ (N:Nat):FD E0:={ f:=40,fn:=Tryz.f40,q:=⟨[.t .chart,.i .i64],[]⟩,loops:=[{ cur:=0,live:=[0,1,4,5,6],out:=fun | .exit 0=>([4,5],[]) | .ret=>([4],[]) | _=>([],[]),q:=⟨[.t .chart,.i .i64,.p 0 0 0,.p 1 0 0,.i .i64],[.bx [.i .i64,.i .i64],z19]⟩,G:=fun R K n a b c d e g h i j l m o p=>lV N a b d e g h i j l m o p (pK ⟨[.p 0 0 0,.p 1 0 0],[.bx [.i .i64,.i .i64],z19]⟩ (K (.exit 0)) d e g h i j l m o p) (fun q=>pK ⟨[.p 0 0 0],[.bx [.i .i64,.i .i64]]⟩ (K .ret) q p) n c,B:=fun R K rec a b c d e g h i j l m o p=>oF N a b d e g h i j l m o p (pK ⟨[.p 0 0 0,.p 1 0 0],[.bx [.i .i64,.i .i64],z19]⟩ (K (.exit 0)) d e g h i j l m o p) (fun q=>pK ⟨[.p 0 0 0],[.bx [.i .i64,.i .i64]]⟩ (K .ret) q p) (fun c=>rec a b c d e g h i j l m o p) c }],cuts:=[{ key:=19,live:=[4,5,7,8],fix:=[(⟨7,[8]⟩,.row .str .app),(⟨7,[9]⟩,.row .str .app)],out:=fun | .ret=>([4],[]) | _=>([],[]),q:=⟨[.p 0 0 0,.p 1 0 0,.p 2 0 0,.p 5 0 0],[.bx [.i .i64,.i .i64],z19,z40,.rw .str .app,.rw .str .app,.bx [.i .i64,.i .i64]]⟩,G:=fun R K a b c d e g h i j l m o p q s t u v w x y z a1=>kr N a b c d e g h i j l m o p q s t u v w x y z a1 (pK ⟨[.p 0 0 0],[.bx [.i .i64,.i .i64]]⟩ (K .ret)) },{ key:=17,live:=[4,5,7,8],out:=fun | .ret=>([4],[]) | _=>([],[]),q:=⟨[.p 0 0 0,.p 1 0 0,.p 2 0 0,.p 3 0 0],[.bx [.i .i64,.i .i64],z19,z41,.bx [.i .i64,.i .i64]]⟩,G:=fun R K a b c d e g h i j l m o p q s t u v w x y=>mL N a b c d e g h i j l m o p q s t u v w x y (pK ⟨[.p 0 0 0],[.bx [.i .i64,.i .i64]]⟩ (K .ret)) },{ key:=15,live:=[4,5,7,8],out:=fun | .ret=>([4],[]) | _=>([],[]),q:=⟨[.p 0 0 0,.p 1 0 0,.p 2 0 0,.p 3 0 0],[.bx [.i .i64,.i .i64],z19,z41,.bx [.i .i64,.i .i64]]⟩,G:=fun R K a b c d e g h i j l m o p q s t u v w x y=>mM N a b c d e g h i j l m o p q s t u v w x y (pK ⟨[.p 0 0 0],[.bx [.i .i64,.i .i64]]⟩ (K .ret)) },{ key:=13,live:=[4,5,7,8],out:=fun | .ret=>([4],[]) | _=>([],[]),q:=⟨[.p 0 0 0,.p 1 0 0,.p 2 0 0,.p 3 0 0],[.bx [.i .i64,.i .i64],z19,z41,.bx [.i .i64,.i .i64]]⟩,G:=fun R K a b c d e g h i j l m o p q s t u v w x y=>mN N a b c d e g h i j l m o p q s t u v w x y (pK ⟨[.p 0 0 0],[.bx [.i .i64,.i .i64]]⟩ (K .ret)) }],g:=[ll N,Ag N,IY N,yc N,zn N] }
def Ja (N:Nat):OC E0:=⟨_,FD.ct e0 (IZ N) N (fun R k a b=>yG N a b (oK ⟨.ag [.i .i64,.i .i64],[],[]⟩ k))⟩
def pO (N:Nat) (name_1:List UInt8) (s_3:Int) (s_4:List Chart) (s_5:List Inst) (s_6:List ai) (s_7:List Cert) (kp0:Option R) (kp1:Int→Option R) (rec:Int→Option R) (i_2:Int):Option R :=
 if (decide (i_2 < ((s_5.length:Nat):Int))) = true then
 ((at? s_5 i_2).bind fun e8 =>
 if (e8.Name == name_1) = true then
 (kp1 i_2)
 else
 (rec (IntKind.wrap .i64 (i_2 + 1))))
 else
 (kp0 )
def nQ (N:Nat) (name_1:List UInt8) (s_3:Int) (s_4:List Chart) (s_5:List Inst) (s_6:List ai) (s_7:List Cert) (kp0:Option R) (kp1:Int→Option R):Nat→Int→Option R
 | 0=>fun _=>none
 | n + 1=>fun i_2=>pO N name_1 s_3 s_4 s_5 s_6 s_7 kp0 kp1 (nQ N name_1 s_3 s_4 s_5 s_6 s_7 kp0 kp1 n) i_2
def qy (N:Nat) (Age:Int) (Charts:List Chart) (Insts:List Inst) (Chans:List ai) (Certs:List Cert) (name:List UInt8) (k0:Int→Option R):Option R :=
 nQ N name Age Charts Insts Chans Certs (k0 (-1))
 (fun y9 =>
 k0 y9) N 0
def KW (N:Nat):FD E0:={ f:=94,fn:=Tryz.f94,q:=⟨[y18,.st],[]⟩,loops:=[{ cur:=0,live:=[1,2,5],out:=fun | .exit 0=>([],[]) | .ret=>([4],[]) | _=>([],[]),q:=⟨[.st,.p 0 0 0,.i .i64],[z38]⟩,G:=fun R K n a b c d e g h=>nQ N a c d e g h (pK ⟨[],[]⟩ (K (.exit 0))) (pK ⟨[.i .i64],[]⟩ (K .ret)) n b,B:=fun R K rec a b c d e g h=>pO N a c d e g h (pK ⟨[],[]⟩ (K (.exit 0))) (pK ⟨[.i .i64],[]⟩ (K .ret)) (fun b=>rec a b c d e g h) b }] }
def vT (N:Nat):OC E0:=⟨_,FD.ct e0 (KW N) N (fun R k a b c d e g=>qy N a b c d e g (oK ⟨.i .i64,[],[]⟩ k))⟩
def oG (N:Nat) (name_1:List UInt8) (s_3:Int) (s_4:List Chart) (s_5:List Inst) (s_6:List ai) (s_7:List Cert) (kp0:Option R) (kp1:Int→Option R) (rec:Int→Option R) (i_2:Int):Option R :=
 if (decide (i_2 < ((s_4.length:Nat):Int))) = true then
 ((at? s_4 i_2).bind fun e8 =>
 if (e8.Name == name_1) = true then
 (kp1 i_2)
 else
 (rec (IntKind.wrap .i64 (i_2 + 1))))
 else
 (kp0 )
def lW (N:Nat) (name_1:List UInt8) (s_3:Int) (s_4:List Chart) (s_5:List Inst) (s_6:List ai) (s_7:List Cert) (kp0:Option R) (kp1:Int→Option R):Nat→Int→Option R
 | 0=>fun _=>none
 | n + 1=>fun i_2=>oG N name_1 s_3 s_4 s_5 s_6 s_7 kp0 kp1 (lW N name_1 s_3 s_4 s_5 s_6 s_7 kp0 kp1 n) i_2
def uW (N:Nat) (Age:Int) (Charts:List Chart) (Insts:List Inst) (Chans:List ai) (Certs:List Cert) (name:List UInt8) (k0:Int→Option R):Option R :=
 lW N name Age Charts Insts Chans Certs (k0 (-1))
 (fun y9 =>
 k0 y9) N 0
def Jb (N:Nat):FD E0:={ f:=95,fn:=Tryz.f95,q:=⟨[y18,.st],[]⟩,loops:=[{ cur:=0,live:=[1,2,5],out:=fun | .exit 0=>([],[]) | .ret=>([4],[]) | _=>([],[]),q:=⟨[.st,.p 0 0 0,.i .i64],[z38]⟩,G:=fun R K n a b c d e g h=>lW N a c d e g h (pK ⟨[],[]⟩ (K (.exit 0))) (pK ⟨[.i .i64],[]⟩ (K .ret)) n b,B:=fun R K rec a b c d e g h=>oG N a c d e g h (pK ⟨[],[]⟩ (K (.exit 0))) (pK ⟨[.i .i64],[]⟩ (K .ret)) (fun b=>rec a b c d e g h) b }] }
def CQ (N:Nat):OC E0:=⟨_,FD.ct e0 (Jb N) N (fun R k a b c d e g=>uW N a b c d e g (oK ⟨.i .i64,[],[]⟩ k))⟩
def oH (N:Nat) (s_2:Int) (s_3:List Chart) (s_4:List Inst) (s_5:List ai) (s_6:List Cert) (v_7 v_8:Int) (kp0:Option R) (kp1:Int→Int→Option R) (rec:Int→Option R) (i_1:Int):Option R :=
 if (decide (i_1 < ((s_4.length:Nat):Int))) = true then
 ((at? s_4 i_1).bind fun e9 =>
 qy N s_2 s_3 s_4 s_5 s_6 e9.Name (fun r10 =>
 if (decide (r10 < i_1)) = true then
 (kp1 8 e9.At)
 else
 (uW N s_2 s_3 s_4 s_5 s_6 e9.Chart (fun r11 =>
 if (decide (r11 < 0)) = true then
 (kp1 7 e9.At)
 else
 ((ifB (decide (e9.Quantum < 1)) false (some (decide (e9.Quantum > 65536))) (some true)).bind fun c12 =>
 (ifB c12 false (some (decide (e9.Ext < 0))) (some true)).bind fun c13 =>
 (ifB c13 false (some (decide (e9.Ext > 32))) (some true)).bind fun c14 =>
 (ifB c14 false (some (decide (e9.Prio < 0))) (some true)).bind fun c15 =>
 (ifB c15 false (some (decide (e9.Prio > 7))) (some true)).bind fun c16 =>
 if c16 = true then
 (kp1 16 e9.At)
 else
 (rec (IntKind.wrap .i64 (i_1 + 1))))))))
 else
 (kp0 )
def lX (N:Nat) (s_2:Int) (s_3:List Chart) (s_4:List Inst) (s_5:List ai) (s_6:List Cert) (v_7 v_8:Int) (kp0:Option R) (kp1:Int→Int→Option R):Nat→Int→Option R
 | 0=>fun _=>none
 | n + 1=>fun i_1=>oH N s_2 s_3 s_4 s_5 s_6 v_7 v_8 kp0 kp1 (lX N s_2 s_3 s_4 s_5 s_6 v_7 v_8 kp0 kp1 n) i_1
def uX (N:Nat) (Age:Int) (Charts:List Chart) (Insts:List Inst) (Chans:List ai) (Certs:List Cert) (k0:Int→Int→Option R):Option R :=
 lX N Age Charts Insts Chans Certs 0 0 (k0 0 0)
 (fun y17 y18 =>
 k0 y17 y18) N 0
def Jc (N:Nat):FD E0:={ f:=41,fn:=Tryz.f41,q:=⟨[y18],[]⟩,loops:=[{ cur:=0,live:=[1,2,3],out:=fun | .exit 0=>([2],[]) | .ret=>([2],[]) | _=>([],[]),q:=⟨[.p 0 0 0,.p 1 0 0,.i .i64],[z38,.bx [.i .i64,.i .i64]]⟩,G:=fun R K n a b c d e g h i=>lX N b c d e g h i (pK ⟨[.p 0 0 0],[.bx [.i .i64,.i .i64]]⟩ (K (.exit 0)) h i) (pK ⟨[.p 0 0 0],[.bx [.i .i64,.i .i64]]⟩ (K .ret)) n a,B:=fun R K rec a b c d e g h i=>oH N b c d e g h i (pK ⟨[.p 0 0 0],[.bx [.i .i64,.i .i64]]⟩ (K (.exit 0)) h i) (pK ⟨[.p 0 0 0],[.bx [.i .i64,.i .i64]]⟩ (K .ret)) (fun a=>rec a b c d e g h i) a }],g:=[ll N,vT N,CQ N] }
def Jd (N:Nat):OC E0:=⟨_,FD.ct e0 (Jc N) N (fun R k a b c d e=>uX N a b c d e (oK ⟨.ag [.i .i64,.i .i64],[],[]⟩ k))⟩
def pP (N:Nat) (name_1:List UInt8) (s_3:Int) (s_4:List Chart) (s_5:List Inst) (s_6:List ai) (s_7:List Cert) (kp0:Option R) (kp1:Int→Option R) (rec:Int→Option R) (i_2:Int):Option R :=
 if (decide (i_2 < ((s_6.length:Nat):Int))) = true then
 ((at? s_6 i_2).bind fun e8 =>
 if (e8.Name == name_1) = true then
 (kp1 i_2)
 else
 (rec (IntKind.wrap .i64 (i_2 + 1))))
 else
 (kp0 )
def nR (N:Nat) (name_1:List UInt8) (s_3:Int) (s_4:List Chart) (s_5:List Inst) (s_6:List ai) (s_7:List Cert) (kp0:Option R) (kp1:Int→Option R):Nat→Int→Option R
 | 0=>fun _=>none
 | n + 1=>fun i_2=>pP N name_1 s_3 s_4 s_5 s_6 s_7 kp0 kp1 (nR N name_1 s_3 s_4 s_5 s_6 s_7 kp0 kp1 n) i_2
def uY (N:Nat) (Age:Int) (Charts:List Chart) (Insts:List Inst) (Chans:List ai) (Certs:List Cert) (name:List UInt8) (k0:Int→Option R):Option R :=
 nR N name Age Charts Insts Chans Certs (k0 (-1))
 (fun y9 =>
 k0 y9) N 0
def KX (N:Nat):FD E0:={ f:=96,fn:=Tryz.f96,q:=⟨[y18,.st],[]⟩,loops:=[{ cur:=0,live:=[1,2,5],out:=fun | .exit 0=>([],[]) | .ret=>([4],[]) | _=>([],[]),q:=⟨[.st,.p 0 0 0,.i .i64],[z38]⟩,G:=fun R K n a b c d e g h=>nR N a c d e g h (pK ⟨[],[]⟩ (K (.exit 0))) (pK ⟨[.i .i64],[]⟩ (K .ret)) n b,B:=fun R K rec a b c d e g h=>pP N a c d e g h (pK ⟨[],[]⟩ (K (.exit 0))) (pK ⟨[.i .i64],[]⟩ (K .ret)) (fun b=>rec a b c d e g h) b }] }
def Ah (N:Nat):OC E0:=⟨_,FD.ct e0 (KX N) N (fun R k a b c d e g=>uY N a b c d e g (oK ⟨.i .i64,[],[]⟩ k))⟩
def qN (N:Nat) (Age:Int) (Charts:List Chart) (Insts:List Inst) (Chans:List ai) (Certs:List Cert) (inst:List UInt8) (k0:(List UInt8)→Int→Int→(List af)→(List af)→(List af)→(List State)→Int→Option R):Option R :=
 qy N Age Charts Insts Chans Certs inst (fun r1 =>
 (at? Insts r1).bind fun e2 =>
 uW N Age Charts Insts Chans Certs e2.Chart (fun r3 =>
 (at? Charts r3).bind fun e4 =>
 k0 e4.Name e4.Steps e4.Fuel e4.Vars e4.Ports e4.Timers e4.States e4.At))
def PS (N:Nat):FD E0:={ f:=99,fn:=Tryz.f99,q:=⟨[y18,.st],[]⟩,g:=[vT N,CQ N],exit:=[(⟨4,[3]⟩,.tree .named),(⟨4,[4]⟩,.tree .named),(⟨4,[5]⟩,.tree .named),(⟨4,[6]⟩,.tree .state)] }
def ES (N:Nat):OC E0:=⟨_,FD.ct e0 (PS N) N (fun R k a b c d e g=>qN N a b c d e g (oK ⟨y12,[],[]⟩ k))⟩
def pQ (N:Nat) (n_1:Int) (inst_2 port_3:List UInt8) (s_5:Int) (s_6:List Chart) (s_7:List Inst) (s_8:List ai) (s_9:List Cert) (kp0:Option R) (kp1:Bool→Option R) (rec:Int→Option R) (i_4:Int):Option R :=
 if (decide (i_4 < n_1)) = true then
 ((at? s_8 i_4).bind fun e10 =>
 (ifB (e10.From == inst_2) true ((at? s_8 i_4).bind fun e11 =>
 some (e11.Port == port_3)) (some false)).bind fun c12 =>
 if c12 = true then
 (kp1 true)
 else
 (rec (IntKind.wrap .i64 (i_4 + 1))))
 else
 (kp0 )
def nT (N:Nat) (n_1:Int) (inst_2 port_3:List UInt8) (s_5:Int) (s_6:List Chart) (s_7:List Inst) (s_8:List ai) (s_9:List Cert) (kp0:Option R) (kp1:Bool→Option R):Nat→Int→Option R
 | 0=>fun _=>none
 | n + 1=>fun i_4=>pQ N n_1 inst_2 port_3 s_5 s_6 s_7 s_8 s_9 kp0 kp1 (nT N n_1 inst_2 port_3 s_5 s_6 s_7 s_8 s_9 kp0 kp1 n) i_4
def yh (N:Nat) (Age:Int) (Charts:List Chart) (Insts:List Inst) (Chans:List ai) (Certs:List Cert) (n_:Int) (inst port:List UInt8) (k0:Bool→Option R):Option R :=
 nT N n_ inst port Age Charts Insts Chans Certs (k0 false)
 (fun y13 =>
 k0 y13) N 0
def KY (N:Nat):FD E0:={ f:=100,fn:=Tryz.f100,q:=⟨[y18,.i .i64,.st,.st],[]⟩,loops:=[{ cur:=0,live:=[1,2,3,4,9],out:=fun | .exit 0=>([],[]) | .ret=>([8],[]) | _=>([],[]),q:=⟨[.i .i64,.st,.st,.p 0 0 0,.i .i64],[z38]⟩,G:=fun R K n a b c d e g h i j=>nT N a b c e g h i j (pK ⟨[],[]⟩ (K (.exit 0))) (pK ⟨[.b],[]⟩ (K .ret)) n d,B:=fun R K rec a b c d e g h i j=>pQ N a b c e g h i j (pK ⟨[],[]⟩ (K (.exit 0))) (pK ⟨[.b],[]⟩ (K .ret)) (fun d=>rec a b c d e g h i j) d }] }
def KZ (N:Nat):OC E0:=⟨_,FD.ct e0 (KY N) N (fun R k a b c d e g h i=>yh N a b c d e g h i (oK ⟨.b,[],[]⟩ k))⟩
end
end So
