/- T3_2: a part of the proof of SoundCerts: lemmas on the evaluator and on the functions that the law reaches. -/
import Derived.Test.YtcllbmdpckfnhaaGreatT31
set_option maxRecDepth 100000
set_option linter.unusedVariables false
namespace So
open Go TE Go.Proofs
noncomputable section
variable {R:Type}
def fB (F:aS) (N:Nat) (v_25:List Expr) (v_26 c_28:Int) (c_29:List Chart) (c_30:List Inst) (c_31:List ai) (c_32:List Cert) (l_35:List State) (x_36:List UInt8) (x_37 x_38:Int) (x_39 x_40 x_41:List af) (x_42:List State) (x_43:Int) (kp0:Int→Int→Option R) (rec:Int→Int→Int→Option R) (v_27 c_33 c_34:Int):Option R :=
 if (decide (v_27 < v_26)) = true then
 ((at? v_25 v_27).bind fun e44 =>
 F.sound_checker_expr _ x_36 x_37 x_38 x_39 x_40 x_41 x_42 x_43 e44.Kind e44.N e44.Name e44.Kids e44.At c_28 c_29 c_30 c_31 c_32 c_33 c_34 l_35 (fun r45 r46 =>
 rec (IntKind.wrap .i64 (v_27 + 1)) r45 r46))
 else
 (kp0 c_33 c_34)
def cV (F:aS) (N:Nat) (v_25:List Expr) (v_26 c_28:Int) (c_29:List Chart) (c_30:List Inst) (c_31:List ai) (c_32:List Cert) (l_35:List State) (x_36:List UInt8) (x_37 x_38:Int) (x_39 x_40 x_41:List af) (x_42:List State) (x_43:Int) (kp0:Int→Int→Option R):Nat→Int→Int→Int→Option R
 | 0=>fun _ _ _=>none
 | n + 1=>fun v_27 c_33 c_34=>fB F N v_25 v_26 c_28 c_29 c_30 c_31 c_32 l_35 x_36 x_37 x_38 x_39 x_40 x_41 x_42 x_43 kp0 (cV F N v_25 v_26 c_28 c_29 c_30 c_31 c_32 l_35 x_36 x_37 x_38 x_39 x_40 x_41 x_42 x_43 kp0 n) v_27 c_33 c_34
def cW (F:aS) (N:Nat) (c_4:Int) (c_5:List Chart) (c_6:List Inst) (c_7:List ai) (c_8:List Cert) (c_9 c_10:Int) (l_11:List State) (x_12:List UInt8) (x_13 x_14:Int) (x_15 x_16 x_17:List af) (x_18:List State) (x_19 e_20 e_21:Int) (e_22:List UInt8) (e_23:List Expr) (e_24:Int) (kp0:Int→Int→Option R):Option R :=
 cV F N e_23 ((e_23.length:Nat):Int) c_4 c_5 c_6 c_7 c_8 l_11 x_12 x_13 x_14 x_15 x_16 x_17 x_18 x_19 (fun y47 y48 =>
 kp0 y47 y48) N 0 c_9 c_10
def ff (F:aS) (N:Nat) (Name:List UInt8) (Steps Fuel:Int) (Vars Ports Timers:List af) (States:List State) (At Kind N_:Int) (Name_2:List UInt8) (Kids:List Expr) (At_2 Age:Int) (Charts:List Chart) (Insts:List Inst) (Chans:List ai) (Certs:List Cert) (Code At_3:Int) (l:List State) (k0:Int→Int→Option R):Option R :=
 if (Kind == 2) = true then
 (bE N Vars Name_2 (fun r1 =>
 ae N (decide (r1 ≥ 0)) 7 At_2 Age Charts Insts Chans Certs Code At_3 (fun r2 r3 =>
 cW F N Age Charts Insts Chans Certs r2 r3 l Name Steps Fuel Vars Ports Timers States At Kind N_ Name_2 Kids At_2 (fun y49 y50 =>
 k0 y49 y50))))
 else
 (if (Kind == 4) = true then
 (dv N Name_2 l (fun r51 =>
 (ifB (decide (r51 ≥ 0)) true (if (0:Int) ≤ (if (0 > r51) then 0 else r51) ∧ (if (0 > r51) then 0 else r51) < (l.length:Int) then (match l[(if (0 > r51) then 0 else r51).toNat]? with
 | some e52=>(dF N e52.Kind e52.Name e52.Entry e52.Exit e52.Trans e52.Kids e52.At (fun r53 =>
 some (!r53)))
 | none=>none) else none) (some false)).bind fun c54 =>
 ae N c54 7 At_2 Age Charts Insts Chans Certs Code At_3 (fun r55 r56 =>
 cW F N Age Charts Insts Chans Certs r55 r56 l Name Steps Fuel Vars Ports Timers States At Kind N_ Name_2 Kids At_2 (fun y57 y58 =>
 k0 y57 y58))))
 else
 (cW F N Age Charts Insts Chans Certs Code At_3 l Name Steps Fuel Vars Ports Timers States At Kind N_ Name_2 Kids At_2 (fun y59 y60 =>
 k0 y59 y60)))
def lf (F:aS) (hF:hY F) (N:Nat):FD E0:={ f:=129,fn:=Tryz.f129,q:=qk,loops:=[{ cur:=1,live:=[0,2,5,47,48,49],out:=fun | .exit 1=>([],[]) | _=>([],[]),q:=⟨[.p 0 0 0,.sw 1,.p 2 0 0,.t .expr,.i .i64,.i .i64],[z34,.rw .state .own,z19]⟩,G:=fun R K n a b c d e g h i j l m o p q s t u v w=>cV F N a b d e g h i m o p q s t u v w (fun x y=>pK ⟨[],[z34,.rw .state .own]⟩ (K (.exit 1)) d e g h i x y m) n c j l,B:=fun R K rec a b c d e g h i j l m o p q s t u v w=>fB F N a b d e g h i m o p q s t u v w (fun x y=>pK ⟨[],[z34,.rw .state .own]⟩ (K (.exit 1)) d e g h i x y m) (fun c j l=>rec a b c d e g h i j l m o p q s t u v w) c j l }],cuts:=[{ key:=7,live:=[0,2,5,7],out:=fun | .normal=>([],[]) | _=>([],[]),q:=⟨[.p 0 0 0,.sw 1,.p 2 0 0,.p 3 0 0],[z34,.rw .state .own,z19,z7]⟩,G:=fun R K a b c d e g h i j l m o p q s t u v w x y=>cW F N a b c d e g h i j l m o p q s t u v w x y (fun z a1=>pK ⟨[],[z34,.rw .state .own]⟩ (K .normal) a b c d e z a1 i) }],g:=[aU N,ik N,jD N,lb N,⟨ld F,hF.sound_checker_expr⟩] }
theorem vI (F:aS) (hF:hY F) (N:Nat):Ct.ok E0 ⟨(lf F hF N).f,(lf F hF N).q,fun R k a b c d e g h i j l m o p q s t u v w x y=>ff F N a b c d e g h i j l m o p q s t u v w x y (fun z a1=>oK ⟨.tp [],[z34,.rw .state .own],[]⟩ k q s t u v z a1 y)⟩:=FD.ct e0 (lf F hF N) N (fun R k a b c d e g h i j l m o p q s t u v w x y=>ff F N a b c d e g h i j l m o p q s t u v w x y (fun z a1=>oK ⟨.tp [],[z34,.rw .state .own],[]⟩ k q s t u v z a1 y))
def rb (F:aS) (N:Nat):aS where
 sound_checker_expr:=fun R Name Steps Fuel Vars Ports Timers States At Kind N_ Name_2 Kids At_2 Age Charts Insts Chans Certs Code At_3 l k0=>ff F N Name Steps Fuel Vars Ports Timers States At Kind N_ Name_2 Kids At_2 Age Charts Insts Chans Certs Code At_3 l k0
def aX (N:Nat):Nat→aS
 | 0=>{ sound_checker_expr:=fun _ _ _ _ _ _ _ _ _ _ _ _ _ _ _ _ _ _ _ _ _ _ _=>none }
 | d + 1=>rb (aX N d) N
theorem kh (N:Nat):∀ d,hY (aX N d)
 | 0=>{ sound_checker_expr:=Ct.ok_none }
 | d + 1=>{ sound_checker_expr:=vI _ (kh N d) N }
def sound_checker_expr (N:Nat) (Name:List UInt8) (Steps Fuel:Int) (Vars Ports Timers:List af) (States:List State) (At Kind N_:Int) (Name_2:List UInt8) (Kids:List Expr) (At_2 Age:Int) (Charts:List Chart) (Insts:List Inst) (Chans:List ai) (Certs:List Cert) (Code At_3:Int) (l:List State) (k0:Int→Int→Option R):Option R:=(aX N N).sound_checker_expr R Name Steps Fuel Vars Ports Timers States At Kind N_ Name_2 Kids At_2 Age Charts Insts Chans Certs Code At_3 l k0
theorem wQ (N d:Nat) (Name:List UInt8) (Steps Fuel:Int) (Vars Ports Timers:List af) (States:List State) (At Kind N_:Int) (Name_2:List UInt8) (Kids:List Expr) (At_2 Age:Int) (Charts:List Chart) (Insts:List Inst) (Chans:List ai) (Certs:List Cert) (Code At_3:Int) (l:List State) (k0:Int→Int→Option R):(aX N (d + 1)).sound_checker_expr R Name Steps Fuel Vars Ports Timers States At Kind N_ Name_2 Kids At_2 Age Charts Insts Chans Certs Code At_3 l k0 = ff (aX N d) N Name Steps Fuel Vars Ports Timers States At Kind N_ Name_2 Kids At_2 Age Charts Insts Chans Certs Code At_3 l k0:=rfl
def ql (N:Nat):OC E0:=⟨ld (aX N N),(kh N N).sound_checker_expr⟩
structure aB where
 sound_checker_acts:(R:Type)→(List UInt8)→Int→Int→(List af)→(List af)→(List af)→(List State)→Int→(List Act)→Int→(List Chart)→(List Inst)→(List ai)→(List Cert)→Int→Int→(List State)→(Int→Int→Option R)→Option R
def qm:Pat S:=⟨[.p 0 0 0,y12,.sw 1,.t .act],[z34,.rw .state .own]⟩
def lg (F:aB):Ct S:=⟨66,qm,fun R k a b c d e g h i j l m o p q s t u=>F.sound_checker_acts R a b c d e g h i j l m o p q s t u (fun v w=>oK ⟨.tp [],[z34,.rw .state .own],[]⟩ k l m o p q v w u)⟩
structure hZ (F:aB):Prop where
 sound_checker_acts:(lg F).ok E0
def fC (F:aB) (N:Nat) (v_56:List Act) (v_57 v_58:Int) (v_59:List Expr) (v_60 c_62:Int) (c_63:List Chart) (c_64:List Inst) (c_65:List ai) (c_66:List Cert) (l_69:List State) (x_70:List UInt8) (x_71 x_72:Int) (x_73 x_74 x_75:List af) (x_76:List State) (x_77 a_78:Int) (a_79 a_80:List UInt8) (a_81:List Expr) (a_82:Int) (a_83 a_84:List Act) (a_85:Int) (kp0:Int→Int→Option R) (rec:Int→Int→Int→Option R) (v_61 c_67 c_68:Int):Option R :=
 if (decide (v_61 < v_60)) = true then
 ((at? v_59 v_61).bind fun e86 =>
 sound_checker_expr N x_70 x_71 x_72 x_73 x_74 x_75 x_76 x_77 e86.Kind e86.N e86.Name e86.Kids e86.At c_62 c_63 c_64 c_65 c_66 c_67 c_68 l_69 (fun r87 r88 =>
 rec (IntKind.wrap .i64 (v_61 + 1)) r87 r88))
 else
 (kp0 c_67 c_68)
def cX (F:aB) (N:Nat) (v_56:List Act) (v_57 v_58:Int) (v_59:List Expr) (v_60 c_62:Int) (c_63:List Chart) (c_64:List Inst) (c_65:List ai) (c_66:List Cert) (l_69:List State) (x_70:List UInt8) (x_71 x_72:Int) (x_73 x_74 x_75:List af) (x_76:List State) (x_77 a_78:Int) (a_79 a_80:List UInt8) (a_81:List Expr) (a_82:Int) (a_83 a_84:List Act) (a_85:Int) (kp0:Int→Int→Option R):Nat→Int→Int→Int→Option R
 | 0=>fun _ _ _=>none
 | n + 1=>fun v_61 c_67 c_68=>fC F N v_56 v_57 v_58 v_59 v_60 c_62 c_63 c_64 c_65 c_66 l_69 x_70 x_71 x_72 x_73 x_74 x_75 x_76 x_77 a_78 a_79 a_80 a_81 a_82 a_83 a_84 a_85 kp0 (cX F N v_56 v_57 v_58 v_59 v_60 c_62 c_63 c_64 c_65 c_66 l_69 x_70 x_71 x_72 x_73 x_74 x_75 x_76 x_77 a_78 a_79 a_80 a_81 a_82 a_83 a_84 a_85 kp0 n) v_61 c_67 c_68
def cb (F:aB) (N:Nat) (there_22:Bool) (v_23:List Act) (v_24 v_25 c_26:Int) (c_27:List Chart) (c_28:List Inst) (c_29:List ai) (c_30:List Cert) (c_31 c_32:Int) (l_33:List State) (x_34:List UInt8) (x_35 x_36:Int) (x_37 x_38 x_39:List af) (x_40:List State) (x_41 a_42:Int) (a_43 a_44:List UInt8) (a_45:List Expr) (a_46:Int) (a_47 a_48:List Act) (a_49:Int) (kp0:Int→Int→Option R):Option R :=
 ae N there_22 7 a_49 c_26 c_27 c_28 c_29 c_30 c_31 c_32 (fun r50 r51 =>
 (ifB (a_42 != 7) false (dj N a_46 1 16 (fun r52 =>
 some r52)) (some true)).bind fun c53 =>
 ae N c53 16 a_49 c_26 c_27 c_28 c_29 c_30 r50 r51 (fun r54 r55 =>
 cX F N v_23 v_24 v_25 a_45 ((a_45.length:Nat):Int) c_26 c_27 c_28 c_29 c_30 l_33 x_34 x_35 x_36 x_37 x_38 x_39 x_40 x_41 a_42 a_43 a_44 a_45 a_46 a_47 a_48 a_49 (fun y89 y90 =>
 F.sound_checker_acts _ x_34 x_35 x_36 x_37 x_38 x_39 x_40 x_41 a_47 c_26 c_27 c_28 c_29 c_30 y89 y90 l_33 (fun r91 r92 =>
 F.sound_checker_acts _ x_34 x_35 x_36 x_37 x_38 x_39 x_40 x_41 a_48 c_26 c_27 c_28 c_29 c_30 r91 r92 l_33 (fun r93 r94 =>
 kp0 r93 r94))) N 0 r54 r55))
def dO (F:aB) (N:Nat) (there_100:Bool) (v_101:List Act) (v_102 v_103:Int) (v_104:Bool) (c_105:Int) (c_106:List Chart) (c_107:List Inst) (c_108:List ai) (c_109:List Cert) (c_110 c_111:Int) (l_112:List State) (x_113:List UInt8) (x_114 x_115:Int) (x_116 x_117 x_118:List af) (x_119:List State) (x_120 a_121:Int) (a_122 a_123:List UInt8) (a_124:List Expr) (a_125:Int) (a_126 a_127:List Act) (a_128:Int) (kp0:Bool→Option R):Option R :=
 if v_104 = true then
 (bE N x_118 a_122 (fun r129 =>
 kp0 (decide (r129 ≥ 0))))
 else
 (kp0 there_100)
def fD (F:aB) (N:Nat) (v_1:List Act) (v_2 c_4:Int) (c_5:List Chart) (c_6:List Inst) (c_7:List ai) (c_8:List Cert) (l_11:List State) (x_12:List UInt8) (x_13 x_14:Int) (x_15 x_16 x_17:List af) (x_18:List State) (x_19:Int) (kp0:Int→Int→Option R) (rec:Int→Int→Int→Option R) (v_3 c_9 c_10:Int):Option R :=
 if (decide (v_3 < v_2)) = true then
 ((at? v_1 v_3).bind fun e20 =>
 if (e20.Kind == 1) = true then
 (bE N x_15 e20.Name (fun r21 =>
 cb F N (decide (r21 ≥ 0)) v_1 v_2 v_3 c_4 c_5 c_6 c_7 c_8 c_9 c_10 l_11 x_12 x_13 x_14 x_15 x_16 x_17 x_18 x_19 e20.Kind e20.Name e20.Event e20.X e20.N e20.Then e20.Else e20.At (fun y95 y96 =>
 rec (IntKind.wrap .i64 (v_3 + 1)) y95 y96)))
 else
 (if (e20.Kind == 3) = true then
 (bE N x_16 e20.Name (fun r97 =>
 cb F N (decide (r97 ≥ 0)) v_1 v_2 v_3 c_4 c_5 c_6 c_7 c_8 c_9 c_10 l_11 x_12 x_13 x_14 x_15 x_16 x_17 x_18 x_19 e20.Kind e20.Name e20.Event e20.X e20.N e20.Then e20.Else e20.At (fun y98 y99 =>
 rec (IntKind.wrap .i64 (v_3 + 1)) y98 y99)))
 else
 (if (e20.Kind == 4) = true then
 (dO F N true v_1 v_2 v_3 (e20.Kind == 4) c_4 c_5 c_6 c_7 c_8 c_9 c_10 l_11 x_12 x_13 x_14 x_15 x_16 x_17 x_18 x_19 e20.Kind e20.Name e20.Event e20.X e20.N e20.Then e20.Else e20.At (fun y130 =>
 cb F N y130 v_1 v_2 v_3 c_4 c_5 c_6 c_7 c_8 c_9 c_10 l_11 x_12 x_13 x_14 x_15 x_16 x_17 x_18 x_19 e20.Kind e20.Name e20.Event e20.X e20.N e20.Then e20.Else e20.At (fun y131 y132 =>
 rec (IntKind.wrap .i64 (v_3 + 1)) y131 y132)))
 else
 (dO F N true v_1 v_2 v_3 (e20.Kind == 5) c_4 c_5 c_6 c_7 c_8 c_9 c_10 l_11 x_12 x_13 x_14 x_15 x_16 x_17 x_18 x_19 e20.Kind e20.Name e20.Event e20.X e20.N e20.Then e20.Else e20.At (fun y133 =>
 cb F N y133 v_1 v_2 v_3 c_4 c_5 c_6 c_7 c_8 c_9 c_10 l_11 x_12 x_13 x_14 x_15 x_16 x_17 x_18 x_19 e20.Kind e20.Name e20.Event e20.X e20.N e20.Then e20.Else e20.At (fun y134 y135 =>
 rec (IntKind.wrap .i64 (v_3 + 1)) y134 y135))))))
 else
 (kp0 c_9 c_10)
def cY (F:aB) (N:Nat) (v_1:List Act) (v_2 c_4:Int) (c_5:List Chart) (c_6:List Inst) (c_7:List ai) (c_8:List Cert) (l_11:List State) (x_12:List UInt8) (x_13 x_14:Int) (x_15 x_16 x_17:List af) (x_18:List State) (x_19:Int) (kp0:Int→Int→Option R):Nat→Int→Int→Int→Option R
 | 0=>fun _ _ _=>none
 | n + 1=>fun v_3 c_9 c_10=>fD F N v_1 v_2 c_4 c_5 c_6 c_7 c_8 l_11 x_12 x_13 x_14 x_15 x_16 x_17 x_18 x_19 kp0 (cY F N v_1 v_2 c_4 c_5 c_6 c_7 c_8 l_11 x_12 x_13 x_14 x_15 x_16 x_17 x_18 x_19 kp0 n) v_3 c_9 c_10
def fg (F:aB) (N:Nat) (Name:List UInt8) (Steps Fuel:Int) (Vars Ports Timers:List af) (States:List State) (At:Int) (acts:List Act) (Age:Int) (Charts:List Chart) (Insts:List Inst) (Chans:List ai) (Certs:List Cert) (Code At_2:Int) (l:List State) (k0:Int→Int→Option R):Option R :=
 cY F N acts ((acts.length:Nat):Int) Age Charts Insts Chans Certs l Name Steps Fuel Vars Ports Timers States At (fun y136 y137 =>
 k0 y136 y137) N 0 Code At_2
def lh (F:aB) (hF:hZ F) (N:Nat):FD E0:={ f:=66,fn:=Tryz.f66,q:=qm,loops:=[{ cur:=3,live:=[0,2,5,9,13,14,15,64,65,66],out:=fun | .exit 3=>([0,2,5,9,13,14,15],[]) | _=>([],[]),q:=⟨[.p 0 0 0,.sw 1,.p 2 0 0,.p 3 0 0,.t .act,.i .i64,.i .i64,.t .expr,.i .i64,.i .i64],[z34,.rw .state .own,z19,z10]⟩,G:=fun R K n a b c d e g h i j l m o p q s t u v w x y z a1 b1 c1 d1 e1 g1 h1 i1=>cX F N a b c d e h i j l m q s t u v w x y z a1 b1 c1 d1 e1 g1 h1 i1 (fun j1 l1=>pK ⟨[.p 0 0 0,.sw 1,.p 2 0 0,.p 3 0 0,.t .act,.i .i64,.i .i64],[z34,.rw .state .own,z19,z10]⟩ (K (.exit 3)) a b c h i j l m j1 l1 q s t u v w x y z a1 b1 c1 d1 e1 g1 h1 i1) n g o p,B:=fun R K rec a b c d e g h i j l m o p q s t u v w x y z a1 b1 c1 d1 e1 g1 h1 i1=>fC F N a b c d e h i j l m q s t u v w x y z a1 b1 c1 d1 e1 g1 h1 i1 (fun j1 l1=>pK ⟨[.p 0 0 0,.sw 1,.p 2 0 0,.p 3 0 0,.t .act,.i .i64,.i .i64],[z34,.rw .state .own,z19,z10]⟩ (K (.exit 3)) a b c h i j l m j1 l1 q s t u v w x y z a1 b1 c1 d1 e1 g1 h1 i1) (fun g o p=>rec a b c d e g h i j l m o p q s t u v w x y z a1 b1 c1 d1 e1 g1 h1 i1) g o p },{ cur:=0,live:=[0,2,5,13,14,15],out:=fun | .exit 0=>([],[]) | _=>([],[]),q:=⟨[.p 0 0 0,.sw 1,.p 2 0 0,.t .act,.i .i64,.i .i64],[z34,.rw .state .own,z19]⟩,G:=fun R K n a b c d e g h i j l m o p q s t u v w=>cY F N a b d e g h i m o p q s t u v w (fun x y=>pK ⟨[],[z34,.rw .state .own]⟩ (K (.exit 0)) d e g h i x y m) n c j l,B:=fun R K rec a b c d e g h i j l m o p q s t u v w=>fD F N a b d e g h i m o p q s t u v w (fun x y=>pK ⟨[],[z34,.rw .state .own]⟩ (K (.exit 0)) d e g h i x y m) (fun c j l=>rec a b c d e g h i j l m o p q s t u v w) c j l }],cuts:=[{ key:=13,live:=[0,2,5,9,10,13,14,15],out:=fun | .normal=>([0,2,5,13,14,15],[]) | _=>([],[]),q:=⟨[.p 0 0 0,.sw 1,.p 2 0 0,.p 3 0 0,.b,.t .act,.i .i64,.i .i64],[z34,.rw .state .own,z19,z10]⟩,G:=fun R K a b c d e g h i j l m o p q s t u v w x y z a1 b1 c1 d1 e1 g1=>cb F N a b c d e g h i j l m o p q s t u v w x y z a1 b1 c1 d1 e1 g1 (fun h1 i1=>pK ⟨[.p 0 0 0,.sw 1,.p 2 0 0,.t .act,.i .i64,.i .i64],[z34,.rw .state .own,z19]⟩ (K .normal) b c d e g h i j h1 i1 o p q s t u v w x) },{ key:=12,live:=[0,2,5,9,10,13,14,15,37],out:=fun | .normal=>([0,2,5,9,10,13,14,15],[]) | _=>([],[]),q:=⟨[.p 0 0 0,.sw 1,.p 2 0 0,.p 3 0 0,.b,.t .act,.i .i64,.i .i64,.b],[z34,.rw .state .own,z19,z10]⟩,G:=fun R K a b c d e g h i j l m o p q s t u v w x y z a1 b1 c1 d1 e1 g1 h1=>dO F N a b c d e g h i j l m o p q s t u v w x y z a1 b1 c1 d1 e1 g1 h1 (fun i1=>pK ⟨[.p 0 0 0,.sw 1,.p 2 0 0,.p 3 0 0,.b,.t .act,.i .i64,.i .i64],[z34,.rw .state .own,z19,z10]⟩ (K .normal) i1 b c d g h i j l m o p q s t u v w x y z a1 b1 c1 d1 e1 g1 h1) }],g:=[aU N,la N,⟨lg F,hF.sound_checker_acts⟩,jD N,ql N] }
theorem vJ (F:aB) (hF:hZ F) (N:Nat):Ct.ok E0 ⟨(lh F hF N).f,(lh F hF N).q,fun R k a b c d e g h i j l m o p q s t u=>fg F N a b c d e g h i j l m o p q s t u (fun v w=>oK ⟨.tp [],[z34,.rw .state .own],[]⟩ k l m o p q v w u)⟩:=FD.ct e0 (lh F hF N) N (fun R k a b c d e g h i j l m o p q s t u=>fg F N a b c d e g h i j l m o p q s t u (fun v w=>oK ⟨.tp [],[z34,.rw .state .own],[]⟩ k l m o p q v w u))
def re (F:aB) (N:Nat):aB where
 sound_checker_acts:=fun R Name Steps Fuel Vars Ports Timers States At acts Age Charts Insts Chans Certs Code At_2 l k0=>fg F N Name Steps Fuel Vars Ports Timers States At acts Age Charts Insts Chans Certs Code At_2 l k0
def ay (N:Nat):Nat→aB
 | 0=>{ sound_checker_acts:=fun _ _ _ _ _ _ _ _ _ _ _ _ _ _ _ _ _ _ _=>none }
 | d + 1=>re (ay N d) N
theorem ki (N:Nat):∀ d,hZ (ay N d)
 | 0=>{ sound_checker_acts:=Ct.ok_none }
 | d + 1=>{ sound_checker_acts:=vJ _ (ki N d) N }
def sound_checker_acts (N:Nat) (Name:List UInt8) (Steps Fuel:Int) (Vars Ports Timers:List af) (States:List State) (At:Int) (acts:List Act) (Age:Int) (Charts:List Chart) (Insts:List Inst) (Chans:List ai) (Certs:List Cert) (Code At_2:Int) (l:List State) (k0:Int→Int→Option R):Option R:=(ay N N).sound_checker_acts R Name Steps Fuel Vars Ports Timers States At acts Age Charts Insts Chans Certs Code At_2 l k0
theorem wR (N d:Nat) (Name:List UInt8) (Steps Fuel:Int) (Vars Ports Timers:List af) (States:List State) (At:Int) (acts:List Act) (Age:Int) (Charts:List Chart) (Insts:List Inst) (Chans:List ai) (Certs:List Cert) (Code At_2:Int) (l:List State) (k0:Int→Int→Option R):(ay N (d + 1)).sound_checker_acts R Name Steps Fuel Vars Ports Timers States At acts Age Charts Insts Chans Certs Code At_2 l k0 = fg (ay N d) N Name Steps Fuel Vars Ports Timers States At acts Age Charts Insts Chans Certs Code At_2 l k0:=rfl
def qn (N:Nat):OC E0:=⟨lg (ay N N),(ki N N).sound_checker_acts⟩
def eN (N:Nat) (v_7:List Expr) (v_8 c_10:Int) (c_11:List Chart) (c_12:List Inst) (c_13:List ai) (c_14:List Cert) (l_17:List State) (x_18:List UInt8) (x_19 x_20:Int) (x_21 x_22 x_23:List af) (x_24:List State) (x_25:Int) (t_26:List UInt8) (t_27:List Expr) (t_28:List UInt8) (t_29:List Act) (t_30:Int) (kp0:Int→Int→Option R) (rec:Int→Int→Int→Option R) (v_9 c_15 c_16:Int):Option R :=
 if (decide (v_9 < v_8)) = true then
 ((at? v_7 v_9).bind fun e31 =>
 sound_checker_expr N x_18 x_19 x_20 x_21 x_22 x_23 x_24 x_25 e31.Kind e31.N e31.Name e31.Kids e31.At c_10 c_11 c_12 c_13 c_14 c_15 c_16 l_17 (fun r32 r33 =>
 rec (IntKind.wrap .i64 (v_9 + 1)) r32 r33))
 else
 (kp0 c_15 c_16)
def cG (N:Nat) (v_7:List Expr) (v_8 c_10:Int) (c_11:List Chart) (c_12:List Inst) (c_13:List ai) (c_14:List Cert) (l_17:List State) (x_18:List UInt8) (x_19 x_20:Int) (x_21 x_22 x_23:List af) (x_24:List State) (x_25:Int) (t_26:List UInt8) (t_27:List Expr) (t_28:List UInt8) (t_29:List Act) (t_30:Int) (kp0:Int→Int→Option R):Nat→Int→Int→Int→Option R
 | 0=>fun _ _ _=>none
 | n + 1=>fun v_9 c_15 c_16=>eN N v_7 v_8 c_10 c_11 c_12 c_13 c_14 l_17 x_18 x_19 x_20 x_21 x_22 x_23 x_24 x_25 t_26 t_27 t_28 t_29 t_30 kp0 (cG N v_7 v_8 c_10 c_11 c_12 c_13 c_14 l_17 x_18 x_19 x_20 x_21 x_22 x_23 x_24 x_25 t_26 t_27 t_28 t_29 t_30 kp0 n) v_9 c_15 c_16
def iY (N:Nat) (Name:List UInt8) (Steps Fuel:Int) (Vars Ports Timers:List af) (States:List State) (At:Int) (Event:List UInt8) (Guard:List Expr) (Target:List UInt8) (Acts:List Act) (At_2 n_ Age:Int) (Charts:List Chart) (Insts:List Inst) (Chans:List ai) (Certs:List Cert) (Code At_3:Int) (l:List State) (k0:Int→Int→Option R):Option R :=
 ae N (decide (n_ ≤ 96)) 15 At_2 Age Charts Insts Chans Certs Code At_3 (fun r1 r2 =>
 (ifB (Target == []) false (dv N Target l (fun r3 =>
 some (decide (r3 ≥ 0)))) (some true)).bind fun c4 =>
 ae N c4 7 At_2 Age Charts Insts Chans Certs r1 r2 (fun r5 r6 =>
 cG N Guard ((Guard.length:Nat):Int) Age Charts Insts Chans Certs l Name Steps Fuel Vars Ports Timers States At Event Guard Target Acts At_2 (fun y34 y35 =>
 sound_checker_acts N Name Steps Fuel Vars Ports Timers States At Acts Age Charts Insts Chans Certs y34 y35 l (fun r36 r37 =>
 k0 r36 r37)) N 0 r5 r6))
def wS (N:Nat):FD E0:={ f:=67,fn:=Tryz.f67,q:=⟨[.p 0 0 0,y12,.sw 1,y11,.i .i64],[z34,.rw .state .own]⟩,loops:=[{ cur:=0,live:=[0,2,6,8,33,34,35],out:=fun | .exit 0=>([0,2,6,8],[]) | _=>([],[]),q:=⟨[.p 0 0 0,.sw 1,.p 2 0 0,.p 3 0 0,.t .expr,.i .i64,.i .i64],[z34,.rw .state .own,z19,z13]⟩,G:=fun R K n a b c d e g h i j l m o p q s t u v w x y z a1 b1=>cG N a b d e g h i m o p q s t u v w x y z a1 b1 (fun c1 d1=>pK ⟨[.p 0 0 0,.sw 1,.p 2 0 0,.p 3 0 0],[z34,.rw .state .own,z19,z13]⟩ (K (.exit 0)) d e g h i c1 d1 m o p q s t u v w x y z a1 b1) n c j l,B:=fun R K rec a b c d e g h i j l m o p q s t u v w x y z a1 b1=>eN N a b d e g h i m o p q s t u v w x y z a1 b1 (fun c1 d1=>pK ⟨[.p 0 0 0,.sw 1,.p 2 0 0,.p 3 0 0],[z34,.rw .state .own,z19,z13]⟩ (K (.exit 0)) d e g h i c1 d1 m o p q s t u v w x y z a1 b1) (fun c j l=>rec a b c d e g h i j l m o p q s t u v w x y z a1 b1) c j l }],g:=[aU N,qn N,lb N,ql N] }
def wT (N:Nat):OC E0:=⟨_,FD.ct e0 (wS N) N (fun R k a b c d e g h i j l m o p q s t u v w x y z=>iY N a b c d e g h i j l m o p q s t u v w x y z (fun a1 b1=>oK ⟨.tp [],[z34,.rw .state .own],[]⟩ k s t u v w a1 b1 z))⟩
def eO (N:Nat) (v_59 v_60:Int) (v_61:List Trans) (v_62 c_64:Int) (c_65:List Chart) (c_66:List Inst) (c_67:List ai) (c_68:List Cert) (x_71:List UInt8) (x_72 x_73:Int) (x_74 x_75 x_76:List af) (x_77:List State) (x_78:Int) (v_79:List State) (kp0:Int→Int→Int→Option R) (rec:Int→Int→Int→Int→Option R) (n_58 v_63 c_69 c_70:Int):Option R :=
 if (decide (v_63 < v_62)) = true then
 ((at? v_61 v_63).bind fun e80 =>
 iY N x_71 x_72 x_73 x_74 x_75 x_76 x_77 x_78 e80.Event e80.Guard e80.Target e80.Acts e80.At (IntKind.wrap .i64 (n_58 + 1)) c_64 c_65 c_66 c_67 c_68 c_69 c_70 v_79 (fun r81 r82 =>
 rec (IntKind.wrap .i64 (n_58 + 1)) (IntKind.wrap .i64 (v_63 + 1)) r81 r82))
 else
 (kp0 n_58 c_69 c_70)
def cH (N:Nat) (v_59 v_60:Int) (v_61:List Trans) (v_62 c_64:Int) (c_65:List Chart) (c_66:List Inst) (c_67:List ai) (c_68:List Cert) (x_71:List UInt8) (x_72 x_73:Int) (x_74 x_75 x_76:List af) (x_77:List State) (x_78:Int) (v_79:List State) (kp0:Int→Int→Int→Option R):Nat→Int→Int→Int→Int→Option R
 | 0=>fun _ _ _ _=>none
 | n + 1=>fun n_58 v_63 c_69 c_70=>eO N v_59 v_60 v_61 v_62 c_64 c_65 c_66 c_67 c_68 x_71 x_72 x_73 x_74 x_75 x_76 x_77 x_78 v_79 kp0 (cH N v_59 v_60 v_61 v_62 c_64 c_65 c_66 c_67 c_68 x_71 x_72 x_73 x_74 x_75 x_76 x_77 x_78 v_79 kp0 n) n_58 v_63 c_69 c_70
def eP (N:Nat) (v_34 c_36:Int) (c_37:List Chart) (c_38:List Inst) (c_39:List ai) (c_40:List Cert) (x_43:List UInt8) (x_44 x_45:Int) (x_46 x_47 x_48:List af) (x_49:List State) (x_50:Int) (v_51:List State) (kp0:Int→Int→Option R) (rec:Int→Int→Int→Int→Option R) (n_33 v_35 c_41 c_42:Int):Option R :=
 if (decide (v_35 < v_34)) = true then
 (if (0:Int) ≤ v_35 ∧ v_35 < (v_51.length:Int) then (match v_51[v_35.toNat]? with
 | some e52=>(dF N e52.Kind e52.Name e52.Entry e52.Exit e52.Trans e52.Kids e52.At (fun r53 =>
 if r53 = true then
 (rec n_33 (IntKind.wrap .i64 (v_35 + 1)) c_41 c_42)
 else
 (sound_checker_acts N x_43 x_44 x_45 x_46 x_47 x_48 x_49 x_50 e52.Entry c_36 c_37 c_38 c_39 c_40 c_41 c_42 v_51 (fun r54 r55 =>
 sound_checker_acts N x_43 x_44 x_45 x_46 x_47 x_48 x_49 x_50 e52.Exit c_36 c_37 c_38 c_39 c_40 r54 r55 v_51 (fun r56 r57 =>
 cH N v_34 v_35 e52.Trans ((e52.Trans.length:Nat):Int) c_36 c_37 c_38 c_39 c_40 x_43 x_44 x_45 x_46 x_47 x_48 x_49 x_50 v_51 (fun y83 y84 y85 =>
 rec y83 (IntKind.wrap .i64 (v_35 + 1)) y84 y85) N n_33 0 r56 r57)))))
 | none=>none) else none)
 else
 (kp0 c_41 c_42)
def ba (N:Nat) (v_34 c_36:Int) (c_37:List Chart) (c_38:List Inst) (c_39:List ai) (c_40:List Cert) (x_43:List UInt8) (x_44 x_45:Int) (x_46 x_47 x_48:List af) (x_49:List State) (x_50:Int) (v_51:List State) (kp0:Int→Int→Option R):Nat→Int→Int→Int→Int→Option R
 | 0=>fun _ _ _ _=>none
 | n + 1=>fun n_33 v_35 c_41 c_42=>eP N v_34 c_36 c_37 c_38 c_39 c_40 x_43 x_44 x_45 x_46 x_47 x_48 x_49 x_50 v_51 kp0 (ba N v_34 c_36 c_37 c_38 c_39 c_40 x_43 x_44 x_45 x_46 x_47 x_48 x_49 x_50 v_51 kp0 n) n_33 v_35 c_41 c_42
def jH (N:Nat) (c_9:Int) (c_10:List Chart) (c_11:List Inst) (c_12:List ai) (c_13:List Cert) (c_14 c_15:Int) (x_16:List UInt8) (x_17 x_18:Int) (x_19 x_20 x_21:List af) (x_22:List State) (x_23:Int) (kp0:Int→Int→Option R):Option R :=
 er N x_19 8 c_9 c_10 c_11 c_12 c_13 c_14 c_15 (fun r24 r25 =>
 er N x_20 6 c_9 c_10 c_11 c_12 c_13 r24 r25 (fun r26 r27 =>
 er N x_21 6 c_9 c_10 c_11 c_12 c_13 r26 r27 (fun r28 r29 =>
 jG N x_22 true c_9 c_10 c_11 c_12 c_13 r28 r29 (fun r30 r31 r32 =>
 ba N ((r32.length:Nat):Int) c_9 c_10 c_11 c_12 c_13 x_16 x_17 x_18 x_19 x_20 x_21 x_22 x_23 r32 (fun y86 y87 =>
 kp0 y86 y87) N 0 0 r30 r31))))
def iZ (N:Nat) (Name:List UInt8) (Steps Fuel:Int) (Vars Ports Timers:List af) (States:List State) (At Age:Int) (Charts:List Chart) (Insts:List Inst) (Chans:List ai) (Certs:List Cert) (Code At_2:Int) (k0:Int→Int→Option R):Option R :=
 dj N Steps 2 16 (fun r1 =>
 (ifB r1 true (dj N Fuel 1 4096 (fun r2 =>
 some r2)) (some false)).bind fun c3 =>
 ae N c3 16 At Age Charts Insts Chans Certs Code At_2 (fun r4 r5 =>
 iD N States (fun r6 =>
 ae N r6 7 At Age Charts Insts Chans Certs r4 r5 (fun r7 r8 =>
 jH N Age Charts Insts Chans Certs r7 r8 Name Steps Fuel Vars Ports Timers States At (fun y88 y89 =>
 k0 y88 y89)))))
def wU (N:Nat):FD E0:={ f:=32,fn:=Tryz.f32,q:=⟨[.p 0 0 0,y12],[z34]⟩,loops:=[{ cur:=2,live:=[0,3,4,5,45,46,47,66,67,68],out:=fun | .exit 2=>([0,3,4,5,45,46,47],[]) | _=>([],[]),q:=⟨[.p 0 0 0,.p 1 0 0,.p 2 0 0,.i .i64,.sw 3,.i .i64,.i .i64,.t .trans,.i .i64,.i .i64],[z34,z19,.bx [.sw 3],.rw .state .own]⟩,G:=fun R K n a b c d e g h i j l m o p q s t u v w x y z=>cH N b c d e h i j l m q s t u v w x y z (fun a1 b1 c1=>pK ⟨[.p 0 0 0,.p 1 0 0,.p 2 0 0,.i .i64,.sw 3,.i .i64,.i .i64],[z34,z19,.bx [.sw 3],.rw .state .own]⟩ (K (.exit 2)) a1 b c h i j l m b1 c1 q s t u v w x y z) n a g o p,B:=fun R K rec a b c d e g h i j l m o p q s t u v w x y z=>eO N b c d e h i j l m q s t u v w x y z (fun a1 b1 c1=>pK ⟨[.p 0 0 0,.p 1 0 0,.p 2 0 0,.i .i64,.sw 3,.i .i64,.i .i64],[z34,z19,.bx [.sw 3],.rw .state .own]⟩ (K (.exit 2)) a1 b c h i j l m b1 c1 q s t u v w x y z) (fun a g o p=>rec a b c d e g h i j l m o p q s t u v w x y z) a g o p },{ cur:=0,live:=[0,3,4,5,45,46,47],out:=fun | .exit 0=>([],[]) | _=>([],[]),q:=⟨[.p 0 0 0,.p 1 0 0,.p 2 0 0,.i .i64,.sw 3,.i .i64,.i .i64],[z34,z19,.bx [.sw 3],.rw .state .own]⟩,G:=fun R K n a b c d e g h i j l m o p q s t u v w=>ba N b d e g h i m o p q s t u v w (pK ⟨[],[z34]⟩ (K (.exit 0)) d e g h i) n a c j l,B:=fun R K rec a b c d e g h i j l m o p q s t u v w=>eP N b d e g h i m o p q s t u v w (pK ⟨[],[z34]⟩ (K (.exit 0)) d e g h i) (fun a c j l=>rec a b c d e g h i j l m o p q s t u v w) a c j l }],cuts:=[{ key:=3,live:=[0,3],out:=fun | .normal=>([],[]) | _=>([],[]),q:=⟨[.p 0 0 0,.p 1 0 0],[z34,z19]⟩,G:=fun R K a b c d e g h i j l m o p q s=>jH N a b c d e g h i j l m o p q s (pK ⟨[],[z34]⟩ (K .normal) a b c d e) }],g:=[aU N,la N,rW N,wO N,xO N,ik N,qn N,wT N] }
def wV (N:Nat):OC E0:=⟨_,FD.ct e0 (wU N) N (fun R k a b c d e g h i j l m o p q s=>iZ N a b c d e g h i j l m o p q s (oK ⟨.tp [],[z34],[]⟩ k j l m o p))⟩
def EK (N:Nat) (Name Chart_:List UInt8) (Quantum Ext Prio At:Int) (k0:Option R):Option R :=
 k0 
def Cp (N:Nat):FD E0:={ f:=69,fn:=Tryz.f69,q:=⟨[y14],[]⟩ }
def uH (N:Nat):OC E0:=⟨_,FD.ct e0 (Cp N) N (fun R k a b c d e g=>EK N a b c d e g (oK ⟨.st,[],[]⟩ k a))⟩
def Bk (N:Nat) (Name Chart_:List UInt8) (Quantum Ext Prio At:Int) (a2_0:List UInt8) (k0:Bool→Option R):Option R :=
 k0 (Name == a2_0)
def ze (N:Nat):FD E0:={ f:=166,fn:=Tryz.f166,q:=⟨[y14,.p 0 0 0,.p 1 0 0],[.bx [.fn 69 []],.bx [.st]]⟩,g:=[uH N] }
def zf (N:Nat):OC E0:=⟨_,FD.ctq e0 (ze N) N (fun R k a b c d e g h=>Bk N a b c d e g h (oQ ⟨.b,[],[]⟩ k))⟩
def dQ (N:Nat) (s_1:List Inst) (v_2:Int) (f_4:List UInt8) (kp0:Option R) (kp1:Int→Option R) (rec:Int→Option R) (v_3:Int):Option R :=
 if (decide (v_3 < v_2)) = true then
 ((at? s_1 v_3).bind fun e5 =>
 if (e5.Name == f_4) = true then
 (kp1 v_3)
 else
 (rec (IntKind.wrap .i64 (v_3 + 1))))
 else
 (kp0 )
def cf (N:Nat) (s_1:List Inst) (v_2:Int) (f_4:List UInt8) (kp0:Option R) (kp1:Int→Option R):Nat→Int→Option R
 | 0=>fun _=>none
 | n + 1=>fun v_3=>dQ N s_1 v_2 f_4 kp0 kp1 (cf N s_1 v_2 f_4 kp0 kp1 n) v_3
def gW (N:Nat) (s:List Inst) (f_c1_0:List UInt8) (k0:Int→Option R):Option R :=
 cf N s ((s.length:Nat):Int) f_c1_0 (k0 (-1))
 (fun y6 =>
 k0 y6) N 0
def uI (N:Nat):FD E0:={ f:=165,fn:=Tryz.f165,q:=⟨[.t .inst,.fn 166 [.p 0 0 0,.p 1 0 0]],[.bx [.fn 69 []],.bx [.st]]⟩,loops:=[{ cur:=0,live:=[0,1,7,8],out:=fun | .exit 0=>([],[]) | .ret=>([4],[]) | _=>([],[]),q:=⟨[.t .inst,.fn 166 [.p 0 0 0,.p 1 0 0],.i .i64,.i .i64],[.bx [.fn 69 []],.bx [.st]]⟩,G:=fun R K n a b c d=>cf N a b d (pK ⟨[],[.bx [.fn 69 []],.bx [.st]]⟩ (K (.exit 0)) d) (fun e=>pK ⟨[.i .i64],[.bx [.fn 69 []],.bx [.st]]⟩ (K .ret) e d) n c,B:=fun R K rec a b c d=>dQ N a b d (pK ⟨[],[.bx [.fn 69 []],.bx [.st]]⟩ (K (.exit 0)) d) (fun e=>pK ⟨[.i .i64],[.bx [.fn 69 []],.bx [.st]]⟩ (K .ret) e d) (fun c=>rec a b c d) c }],g:=[zf N] }
def uJ (N:Nat):OC E0:=⟨_,FD.ctq e0 (uI N) N (fun R k a b=>gW N a b (oQ ⟨.i .i64,[],[]⟩ k))⟩
def kj (N:Nat) (l:List Inst) (s:List UInt8) (k0:Int→Option R):Option R :=
 gW N l s (fun r1 =>
 k0 r1)
def Bl (N:Nat):FD E0:={ f:=130,fn:=Tryz.f130,q:=⟨[.t .inst,.st,.fn 69 []],[]⟩,g:=[uJ N] }
def tC (N:Nat):OC E0:=⟨_,FD.ct e0 (Bl N) N (fun R k a b=>kj N a b (oK ⟨.i .i64,[],[]⟩ k))⟩
def lI (N:Nat) (l:List Inst) (Name Chart_:List UInt8) (Quantum Ext Prio At:Int) (k0:Bool→Option R):Option R :=
 kj N l Name (fun r1 =>
 k0 (decide (r1 ≥ 0)))
def zZ (N:Nat):FD E0:={ f:=68,fn:=Tryz.f68,q:=⟨[.t .inst,y14,.fn 69 []],[]⟩,g:=[uH N,tC N] }
def Aa (N:Nat):OC E0:=⟨_,FD.ct e0 (zZ N) N (fun R k a b c d e g h=>lI N a b c d e g h (oK ⟨.b,[],[]⟩ k))⟩
def jI (N:Nat) (i:Int) (Name Chart_:List UInt8) (Quantum Ext Prio At Age:Int) (Charts:List Chart) (Insts:List Inst) (Chans:List ai) (Certs:List Cert) (Code At_2:Int) (k0:Int→Int→Option R):Option R :=
 if (0:Int) ≤ 0 ∧ 0 ≤ i ∧ i ≤ ((Insts.length:Nat):Int) then (lI N ((Insts.take i.toNat).drop (Int.toNat 0)) Name Chart_ Quantum Ext Prio At (fun r1 =>
 ae N (!r1) 8 At Age Charts Insts Chans Certs Code At_2 (fun r2 r3 =>
 eK N Charts Chart_ (fun r4 =>
 ae N (decide (r4 ≥ 0)) 7 At Age Charts Insts Chans Certs r2 r3 (fun r5 r6 =>
 dj N Quantum 1 65536 (fun r7 =>
 (ifB r7 true (dj N Ext 0 32 (fun r8 =>
 some r8)) (some false)).bind fun c9 =>
 (ifB c9 true (dj N Prio 0 7 (fun r10 =>
 some r10)) (some false)).bind fun c11 =>
 ae N c11 16 At Age Charts Insts Chans Certs r5 r6 (fun r12 r13 =>
 k0 r12 r13))))))) else none
def xP (N:Nat):FD E0:={ f:=33,fn:=Tryz.f33,q:=⟨[.p 0 0 0,.i .i64,y14],[z34]⟩,g:=[aU N,nA N,la N,Aa N] }
def xQ (N:Nat):OC E0:=⟨_,FD.ct e0 (xP N) N (fun R k a b c d e g h i j l m o p q=>jI N a b c d e g h i j l m o p q (oK ⟨.tp [],[z34],[]⟩ k i j l m o))⟩
def EL (N:Nat) (Name From Port To:List UInt8) (Cap Prio At:Int) (k0:Option R):Option R :=
 k0 
def Cq (N:Nat):FD E0:={ f:=71,fn:=Tryz.f71,q:=⟨[y15],[]⟩ }
def uK (N:Nat):OC E0:=⟨_,FD.ct e0 (Cq N) N (fun R k a b c d e g h=>EL N a b c d e g h (oK ⟨.st,[],[]⟩ k a))⟩
def Bm (N:Nat) (Name From Port To:List UInt8) (Cap Prio At:Int) (a2_0:List UInt8) (k0:Bool→Option R):Option R :=
 k0 (Name == a2_0)
def zg (N:Nat):FD E0:={ f:=139,fn:=Tryz.f139,q:=⟨[y15,.p 0 0 0,.p 1 0 0],[.bx [.fn 71 []],.bx [.st]]⟩,g:=[uK N] }
def zh (N:Nat):OC E0:=⟨_,FD.ctq e0 (zg N) N (fun R k a b c d e g h i=>Bm N a b c d e g h i (oQ ⟨.b,[],[]⟩ k))⟩
def dR (N:Nat) (s_1:List ai) (v_2:Int) (f_4:List UInt8) (kp0:Option R) (kp1:Int→Option R) (rec:Int→Option R) (v_3:Int):Option R :=
 if (decide (v_3 < v_2)) = true then
 ((at? s_1 v_3).bind fun e5 =>
 if (e5.Name == f_4) = true then
 (kp1 v_3)
 else
 (rec (IntKind.wrap .i64 (v_3 + 1))))
 else
 (kp0 )
def cg (N:Nat) (s_1:List ai) (v_2:Int) (f_4:List UInt8) (kp0:Option R) (kp1:Int→Option R):Nat→Int→Option R
 | 0=>fun _=>none
 | n + 1=>fun v_3=>dR N s_1 v_2 f_4 kp0 kp1 (cg N s_1 v_2 f_4 kp0 kp1 n) v_3
def gX (N:Nat) (s:List ai) (f_c1_0:List UInt8) (k0:Int→Option R):Option R :=
 cg N s ((s.length:Nat):Int) f_c1_0 (k0 (-1))
 (fun y6 =>
 k0 y6) N 0
def uL (N:Nat):FD E0:={ f:=133,fn:=Tryz.f133,q:=⟨[.t .chan,.fn 139 [.p 0 0 0,.p 1 0 0]],[.bx [.fn 71 []],.bx [.st]]⟩,loops:=[{ cur:=0,live:=[0,1,7,8],out:=fun | .exit 0=>([],[]) | .ret=>([4],[]) | _=>([],[]),q:=⟨[.t .chan,.fn 139 [.p 0 0 0,.p 1 0 0],.i .i64,.i .i64],[.bx [.fn 71 []],.bx [.st]]⟩,G:=fun R K n a b c d=>cg N a b d (pK ⟨[],[.bx [.fn 71 []],.bx [.st]]⟩ (K (.exit 0)) d) (fun e=>pK ⟨[.i .i64],[.bx [.fn 71 []],.bx [.st]]⟩ (K .ret) e d) n c,B:=fun R K rec a b c d=>dR N a b d (pK ⟨[],[.bx [.fn 71 []],.bx [.st]]⟩ (K (.exit 0)) d) (fun e=>pK ⟨[.i .i64],[.bx [.fn 71 []],.bx [.st]]⟩ (K .ret) e d) (fun c=>rec a b c d) c }],g:=[zh N] }
def uM (N:Nat):OC E0:=⟨_,FD.ctq e0 (uL N) N (fun R k a b=>gX N a b (oQ ⟨.i .i64,[],[]⟩ k))⟩
def fQ (N:Nat) (l:List ai) (s:List UInt8) (k0:Int→Option R):Option R :=
 gX N l s (fun r1 =>
 k0 r1)
def Bn (N:Nat):FD E0:={ f:=85,fn:=Tryz.f85,q:=⟨[.t .chan,.st,.fn 71 []],[]⟩,g:=[uM N] }
def ov (N:Nat):OC E0:=⟨_,FD.ct e0 (Bn N) N (fun R k a b=>fQ N a b (oK ⟨.i .i64,[],[]⟩ k))⟩
def lJ (N:Nat) (l:List ai) (Name From Port To:List UInt8) (Cap Prio At:Int) (k0:Bool→Option R):Option R :=
 fQ N l Name (fun r1 =>
 k0 (decide (r1 ≥ 0)))
def Ab (N:Nat):FD E0:={ f:=70,fn:=Tryz.f70,q:=⟨[.t .chan,y15,.fn 71 []],[]⟩,g:=[uK N,ov N] }
def Ac (N:Nat):OC E0:=⟨_,FD.ct e0 (Ab N) N (fun R k a b c d e g h i=>lJ N a b c d e g h i (oK ⟨.b,[],[]⟩ k))⟩
end
end So
