/- T3_3: a part of the proof of SoundTells: lemmas on the evaluator and on the functions that the law reaches. -/
import Derived.Test.YtcllbmdpckfnhaaGreatT32
set_option maxRecDepth 100000
set_option linter.unusedVariables false
namespace So
open Go TE Go.Proofs
noncomputable section
variable {R:Type}
def sound_checker_chartOf (N:Nat) (inst:List UInt8) (Age:Int) (Charts:List Chart) (Insts:List Inst) (Chans:List Chan) (Certs:List Cert) (Code At:Int) (k0:(List UInt8)→Int→Int→(List Named)→(List Named)→(List Named)→(List State)→Int→Bool→Option R):Option R :=
 sound_find_Inst N Insts inst (fun r1 =>
 if (decide (r1 < 0)) = true then
 (k0 [] 0 0 ([]:List Named) ([]:List Named) ([]:List Named) ([]:List State) 0 false)
 else
 ((at? Insts r1).bind fun e2 =>
 sound_find_Chart N Charts e2.Chart (fun r3 =>
 if (decide (r3 < 0)) = true then
 (k0 [] 0 0 ([]:List Named) ([]:List Named) ([]:List Named) ([]:List State) 0 false)
 else
 ((at? Charts r3).bind fun e4 =>
 k0 e4.Name e4.Steps e4.Fuel e4.Vars e4.Ports e4.Timers e4.States e4.At true))))
def sound_checker_chartOf_D (N:Nat):FD E0:={ f:=72,fn:=Tryz.f72,q:=⟨[.p 0 0 0,.st],[z34]⟩,g:=[sound_find_Chart_S N,sound_find_Inst_S N],exit:=[(⟨4,[3]⟩,.tree .named),(⟨4,[4]⟩,.tree .named),(⟨4,[5]⟩,.tree .named),(⟨4,[6]⟩,.tree .state)] }
def sound_checker_chartOf_S (N:Nat):OC E0:=⟨_,FD.ctq e0 (sound_checker_chartOf_D N) N (fun R k a b c d e g h i=>sound_checker_chartOf N a b c d e g h i (oQ ⟨.tp [y12,.b],[],[]⟩ k))⟩
def sound_checker_channel_1 (N:Nat) (Name From Port To:List UInt8) (Cap Prio At:Int) (a1_0 a1_1 a1_2 a1_3:List UInt8) (a1_4 a1_5 a1_6:Int) (k0:Bool→Option R):Option R :=
 (ifB (From == a1_1) true (some (Port == a1_2)) (some false)).bind fun c1 =>
 k0 c1
def sound_checker_channel_1_D (N:Nat):FD E0:={ f:=75,fn:=Tryz.f75,q:=⟨[y15,.p 0 0 0],[z22]⟩ }
def sound_checker_channel_1_S (N:Nat):OC E0:=⟨_,FD.ctq e0 (sound_checker_channel_1_D N) N (fun R k a b c d e g h i j l m o p q=>sound_checker_channel_1 N a b c d e g h i j l m o p q (oQ ⟨.b,[],[]⟩ k))⟩
def slices_IndexFunc_Chan_2_l0_b (N:Nat) (s_1:List Chan) (v_2:Int) (f_4 f_5 f_6 f_7:List UInt8) (f_8 f_9 f_10:Int) (kp0:Option R) (kp1:Int→Option R) (rec:Int→Option R) (v_3:Int):Option R :=
 if (decide (v_3 < v_2)) = true then
 ((at? s_1 v_3).bind fun e11 =>
 sound_checker_channel_1 N e11.Name e11.From e11.Port e11.To e11.Cap e11.Prio e11.At f_4 f_5 f_6 f_7 f_8 f_9 f_10 (fun r12 =>
 if r12 = true then
 (kp1 v_3)
 else
 (rec (IntKind.wrap .i64 (v_3 + 1)))))
 else
 (kp0 )
def slices_IndexFunc_Chan_2_l0 (N:Nat) (s_1:List Chan) (v_2:Int) (f_4 f_5 f_6 f_7:List UInt8) (f_8 f_9 f_10:Int) (kp0:Option R) (kp1:Int→Option R):Nat→Int→Option R
 | 0=>fun _=>none
 | n + 1=>fun v_3=>slices_IndexFunc_Chan_2_l0_b N s_1 v_2 f_4 f_5 f_6 f_7 f_8 f_9 f_10 kp0 kp1 (slices_IndexFunc_Chan_2_l0 N s_1 v_2 f_4 f_5 f_6 f_7 f_8 f_9 f_10 kp0 kp1 n) v_3
def slices_IndexFunc_Chan_2 (N:Nat) (s:List Chan) (f_c0_0 f_c0_1 f_c0_2 f_c0_3:List UInt8) (f_c0_4 f_c0_5 f_c0_6:Int) (k0:Int→Option R):Option R :=
 slices_IndexFunc_Chan_2_l0 N s ((s.length:Nat):Int) f_c0_0 f_c0_1 f_c0_2 f_c0_3 f_c0_4 f_c0_5 f_c0_6 (k0 (-1))
 (fun y13 =>
 k0 y13) N 0
def slices_IndexFunc_Chan_2_D (N:Nat):FD E0:={ f:=133,fn:=Tryz.f133,q:=⟨[.t .chan,.fn 75 [.p 0 0 0]],[z22]⟩,loops:=[{ cur:=0,live:=[0,1,7,8],out:=fun | .exit 0=>([],[]) | .ret=>([4],[]) | _=>([],[]),q:=⟨[.t .chan,.fn 75 [.p 0 0 0],.i .i64,.i .i64],[z22]⟩,G:=fun R K n a b c d e g h i j l=>slices_IndexFunc_Chan_2_l0 N a b d e g h i j l (pK ⟨[],[z22]⟩ (K (.exit 0)) d e g h i j l) (fun m=>pK ⟨[.i .i64],[z22]⟩ (K .ret) m d e g h i j l) n c,B:=fun R K rec a b c d e g h i j l=>slices_IndexFunc_Chan_2_l0_b N a b d e g h i j l (pK ⟨[],[z22]⟩ (K (.exit 0)) d e g h i j l) (fun m=>pK ⟨[.i .i64],[z22]⟩ (K .ret) m d e g h i j l) (fun c=>rec a b c d e g h i j l) c }],g:=[sound_checker_channel_1_S N] }
def slices_IndexFunc_Chan_2_S (N:Nat):OC E0:=⟨_,FD.ctq e0 (slices_IndexFunc_Chan_2_D N) N (fun R k a b c d e g h i=>slices_IndexFunc_Chan_2 N a b c d e g h i (oQ ⟨.i .i64,[],[]⟩ k))⟩
def slices_ContainsFunc_Chan (N:Nat) (s:List Chan) (f_c0_0 f_c0_1 f_c0_2 f_c0_3:List UInt8) (f_c0_4 f_c0_5 f_c0_6:Int) (k0:Bool→Option R):Option R :=
 slices_IndexFunc_Chan_2 N s f_c0_0 f_c0_1 f_c0_2 f_c0_3 f_c0_4 f_c0_5 f_c0_6 (fun r1 =>
 k0 (decide (r1 ≥ 0)))
def slices_ContainsFunc_Chan_D (N:Nat):FD E0:={ f:=76,fn:=Tryz.f76,q:=⟨[.t .chan,.fn 75 [.p 0 0 0]],[z22]⟩,g:=[slices_IndexFunc_Chan_2_S N] }
def slices_ContainsFunc_Chan_S (N:Nat):OC E0:=⟨_,FD.ctq e0 (slices_ContainsFunc_Chan_D N) N (fun R k a b c d e g h i=>slices_ContainsFunc_Chan N a b c d e g h i (oQ ⟨.b,[],[]⟩ k))⟩
def sound_checker_channel_c5 (N:Nat) (i_27 c_28:Int) (c_29:List Chart) (c_30:List Inst) (c_31:List Chan) (c_32:List Cert) (c_33 c_34:Int) (x_35 x_36 x_37 x_38:List UInt8) (x_39 x_40 x_41:Int) (kp0:Int→Int→Option R):Option R :=
 if (0:Int) ≤ 0 ∧ 0 ≤ i_27 ∧ i_27 ≤ ((c_31.length:Nat):Int) then (slices_ContainsFunc_Chan N ((c_31.take i_27.toNat).drop (Int.toNat 0)) x_35 x_36 x_37 x_38 x_39 x_40 x_41 (fun r42 =>
 sound_checker_want N (!r42) 8 x_41 c_28 c_29 c_30 c_31 c_32 c_33 c_34 (fun r43 r44 =>
 sound_within N x_39 1 32 (fun r45 =>
 (ifB r45 true (sound_within N x_40 0 7 (fun r46 =>
 some r46)) (some false)).bind fun c47 =>
 sound_checker_want N c47 16 x_41 c_28 c_29 c_30 c_31 c_32 r43 r44 (fun r48 r49 =>
 kp0 r48 r49))))) else none
def sound_checker_channel (N:Nat) (i:Int) (Name From Port To:List UInt8) (Cap Prio At Age:Int) (Charts:List Chart) (Insts:List Inst) (Chans:List Chan) (Certs:List Cert) (Code At_2:Int) (k0:Int→Int→Option R):Option R :=
 if (0:Int) ≤ 0 ∧ 0 ≤ i ∧ i ≤ ((Chans.length:Nat):Int) then (sound_twice_Chan N ((Chans.take i.toNat).drop (Int.toNat 0)) Name From Port To Cap Prio At (fun r1 =>
 sound_checker_want N (!r1) 8 At Age Charts Insts Chans Certs Code At_2 (fun r2 r3 =>
 sound_checker_chartOf N From Age Charts Insts Chans Certs r2 r3 (fun r4 r5 r6 r7 r8 r9 r10 r11 r12 =>
 sound_checker_chartOf N To Age Charts Insts Chans Certs r2 r3 (fun r13 r14 r15 r16 r17 r18 r19 r20 r21 =>
 (ifB r12 true (some r21) (some false)).bind fun c22 =>
 (ifB c22 true (sound_find_Named N r8 Port (fun r23 =>
 some (decide (r23 ≥ 0)))) (some false)).bind fun c24 =>
 sound_checker_want N c24 7 At Age Charts Insts Chans Certs r2 r3 (fun r25 r26 =>
 sound_checker_channel_c5 N i Age Charts Insts Chans Certs r25 r26 Name From Port To Cap Prio At (fun y50 y51 =>
 k0 y50 y51))))))) else none
def sound_checker_channel_D (N:Nat):FD E0:={ f:=34,fn:=Tryz.f34,q:=⟨[.p 0 0 0,.i .i64,y15],[z34]⟩,cuts:=[{ key:=5,live:=[0,1,5],out:=fun | .normal=>([],[]) | _=>([],[]),q:=⟨[.p 0 0 0,.i .i64,.p 1 0 0],[z34,z22]⟩,G:=fun R K a b c d e g h i j l m o p q s=>sound_checker_channel_c5 N a b c d e g h i j l m o p q s (pK ⟨[],[z34]⟩ (K .normal) b c d e g) }],g:=[sound_checker_want_S N,sound_within_S N,sound_twice_Chan_S N,sound_checker_chartOf_S N,sound_find_Named_S N,slices_ContainsFunc_Chan_S N] }
def sound_checker_channel_S (N:Nat):OC E0:=⟨_,FD.ct e0 (sound_checker_channel_D N) N (fun R k a b c d e g h i j l m o p q s=>sound_checker_channel N a b c d e g h i j l m o p q s (oK ⟨.tp [],[z34],[]⟩ k j l m o p))⟩
def sound_checker_joined_1 (N:Nat) (Name From Port To:List UInt8) (Cap Prio At:Int) (a1_0 a1_1:List UInt8) (a1_2 a1_3 a1_4 a1_5:Int) (a2_0:List UInt8) (a2_1 a2_2:Int) (k0:Bool→Option R):Option R :=
 (ifB (From == a1_0) true (some (Port == a2_0)) (some false)).bind fun c1 =>
 k0 c1
def sound_checker_joined_1_D (N:Nat):FD E0:={ f:=77,fn:=Tryz.f77,q:=⟨[y15,.p 0 0 0,.p 1 0 0],[z21,.bx [.st,.i .i64,.i .i64]]⟩ }
def sound_checker_joined_1_S (N:Nat):OC E0:=⟨_,FD.ctq e0 (sound_checker_joined_1_D N) N (fun R k a b c d e g h i j l m o p q s t=>sound_checker_joined_1 N a b c d e g h i j l m o p q s t (oQ ⟨.b,[],[]⟩ k))⟩
def slices_IndexFunc_Chan_3_l0_b (N:Nat) (s_1:List Chan) (v_2:Int) (f_4 f_5:List UInt8) (f_6 f_7 f_8 f_9:Int) (f_10:List UInt8) (f_11 f_12:Int) (kp0:Option R) (kp1:Int→Option R) (rec:Int→Option R) (v_3:Int):Option R :=
 if (decide (v_3 < v_2)) = true then
 ((at? s_1 v_3).bind fun e13 =>
 sound_checker_joined_1 N e13.Name e13.From e13.Port e13.To e13.Cap e13.Prio e13.At f_4 f_5 f_6 f_7 f_8 f_9 f_10 f_11 f_12 (fun r14 =>
 if r14 = true then
 (kp1 v_3)
 else
 (rec (IntKind.wrap .i64 (v_3 + 1)))))
 else
 (kp0 )
def slices_IndexFunc_Chan_3_l0 (N:Nat) (s_1:List Chan) (v_2:Int) (f_4 f_5:List UInt8) (f_6 f_7 f_8 f_9:Int) (f_10:List UInt8) (f_11 f_12:Int) (kp0:Option R) (kp1:Int→Option R):Nat→Int→Option R
 | 0=>fun _=>none
 | n + 1=>fun v_3=>slices_IndexFunc_Chan_3_l0_b N s_1 v_2 f_4 f_5 f_6 f_7 f_8 f_9 f_10 f_11 f_12 kp0 kp1 (slices_IndexFunc_Chan_3_l0 N s_1 v_2 f_4 f_5 f_6 f_7 f_8 f_9 f_10 f_11 f_12 kp0 kp1 n) v_3
def slices_IndexFunc_Chan_3 (N:Nat) (s:List Chan) (f_c0_0 f_c0_1:List UInt8) (f_c0_2 f_c0_3 f_c0_4 f_c0_5:Int) (f_c1_0:List UInt8) (f_c1_1 f_c1_2:Int) (k0:Int→Option R):Option R :=
 slices_IndexFunc_Chan_3_l0 N s ((s.length:Nat):Int) f_c0_0 f_c0_1 f_c0_2 f_c0_3 f_c0_4 f_c0_5 f_c1_0 f_c1_1 f_c1_2 (k0 (-1))
 (fun y15 =>
 k0 y15) N 0
def slices_IndexFunc_Chan_3_D (N:Nat):FD E0:={ f:=133,fn:=Tryz.f133,q:=⟨[.t .chan,.fn 77 [.p 0 0 0,.p 1 0 0]],[z21,.bx [.st,.i .i64,.i .i64]]⟩,loops:=[{ cur:=0,live:=[0,1,7,8],out:=fun | .exit 0=>([],[]) | .ret=>([4],[]) | _=>([],[]),q:=⟨[.t .chan,.fn 77 [.p 0 0 0,.p 1 0 0],.i .i64,.i .i64],[z21,.bx [.st,.i .i64,.i .i64]]⟩,G:=fun R K n a b c d e g h i j l m o=>slices_IndexFunc_Chan_3_l0 N a b d e g h i j l m o (pK ⟨[],[z21,.bx [.st,.i .i64,.i .i64]]⟩ (K (.exit 0)) d e g h i j l m o) (fun p=>pK ⟨[.i .i64],[z21,.bx [.st,.i .i64,.i .i64]]⟩ (K .ret) p d e g h i j l m o) n c,B:=fun R K rec a b c d e g h i j l m o=>slices_IndexFunc_Chan_3_l0_b N a b d e g h i j l m o (pK ⟨[],[z21,.bx [.st,.i .i64,.i .i64]]⟩ (K (.exit 0)) d e g h i j l m o) (fun p=>pK ⟨[.i .i64],[z21,.bx [.st,.i .i64,.i .i64]]⟩ (K .ret) p d e g h i j l m o) (fun c=>rec a b c d e g h i j l m o) c }],g:=[sound_checker_joined_1_S N] }
def slices_IndexFunc_Chan_3_S (N:Nat):OC E0:=⟨_,FD.ctq e0 (slices_IndexFunc_Chan_3_D N) N (fun R k a b c d e g h i j l=>slices_IndexFunc_Chan_3 N a b c d e g h i j l (oQ ⟨.i .i64,[],[]⟩ k))⟩
def slices_ContainsFunc_Chan_2 (N:Nat) (s:List Chan) (f_c0_0 f_c0_1:List UInt8) (f_c0_2 f_c0_3 f_c0_4 f_c0_5:Int) (f_c1_0:List UInt8) (f_c1_1 f_c1_2:Int) (k0:Bool→Option R):Option R :=
 slices_IndexFunc_Chan_3 N s f_c0_0 f_c0_1 f_c0_2 f_c0_3 f_c0_4 f_c0_5 f_c1_0 f_c1_1 f_c1_2 (fun r1 =>
 k0 (decide (r1 ≥ 0)))
def slices_ContainsFunc_Chan_2_D (N:Nat):FD E0:={ f:=76,fn:=Tryz.f76,q:=⟨[.t .chan,.fn 77 [.p 0 0 0,.p 1 0 0]],[z21,.bx [.st,.i .i64,.i .i64]]⟩,g:=[slices_IndexFunc_Chan_3_S N] }
def slices_ContainsFunc_Chan_2_S (N:Nat):OC E0:=⟨_,FD.ctq e0 (slices_ContainsFunc_Chan_2_D N) N (fun R k a b c d e g h i j l=>slices_ContainsFunc_Chan_2 N a b c d e g h i j l (oQ ⟨.b,[],[]⟩ k))⟩
def sound_checker_joined_l0_b (N:Nat) (v_10:List Named) (v_11 c_13:Int) (c_14:List Chart) (c_15:List Inst) (c_16:List Chan) (c_17:List Cert) (x_20 x_21:List UInt8) (x_22 x_23 x_24 x_25:Int) (kp0:Int→Int→Option R) (rec:Int→Int→Int→Option R) (v_12 c_18 c_19:Int):Option R :=
 if (decide (v_12 < v_11)) = true then
 ((at? v_10 v_12).bind fun e26 =>
 slices_ContainsFunc_Chan_2 N c_16 x_20 x_21 x_22 x_23 x_24 x_25 e26.Name e26.N e26.At (fun r27 =>
 sound_checker_want N r27 7 x_25 c_13 c_14 c_15 c_16 c_17 c_18 c_19 (fun r28 r29 =>
 rec (IntKind.wrap .i64 (v_12 + 1)) r28 r29)))
 else
 (kp0 c_18 c_19)
def sound_checker_joined_l0 (N:Nat) (v_10:List Named) (v_11 c_13:Int) (c_14:List Chart) (c_15:List Inst) (c_16:List Chan) (c_17:List Cert) (x_20 x_21:List UInt8) (x_22 x_23 x_24 x_25:Int) (kp0:Int→Int→Option R):Nat→Int→Int→Int→Option R
 | 0=>fun _ _ _=>none
 | n + 1=>fun v_12 c_18 c_19=>sound_checker_joined_l0_b N v_10 v_11 c_13 c_14 c_15 c_16 c_17 x_20 x_21 x_22 x_23 x_24 x_25 kp0 (sound_checker_joined_l0 N v_10 v_11 c_13 c_14 c_15 c_16 c_17 x_20 x_21 x_22 x_23 x_24 x_25 kp0 n) v_12 c_18 c_19
def sound_checker_joined (N:Nat) (Name Chart_:List UInt8) (Quantum Ext Prio At Age:Int) (Charts:List Chart) (Insts:List Inst) (Chans:List Chan) (Certs:List Cert) (Code At_2:Int) (k0:Int→Int→Option R):Option R :=
 sound_checker_chartOf N Name Age Charts Insts Chans Certs Code At_2 (fun r1 r2 r3 r4 r5 r6 r7 r8 r9 =>
 sound_checker_joined_l0 N r5 ((r5.length:Nat):Int) Age Charts Insts Chans Certs Name Chart_ Quantum Ext Prio At (fun y30 y31 =>
 k0 y30 y31) N 0 Code At_2)
def sound_checker_joined_D (N:Nat):FD E0:={ f:=35,fn:=Tryz.f35,q:=⟨[.p 0 0 0,y14],[z34]⟩,loops:=[{ cur:=0,live:=[0,3,17,18,19],out:=fun | .exit 0=>([],[]) | _=>([],[]),q:=⟨[.p 0 0 0,.p 1 0 0,.t .named,.i .i64,.i .i64],[z34,z21]⟩,G:=fun R K n a b c d e g h i j l m o p q s t=>sound_checker_joined_l0 N a b d e g h i m o p q s t (pK ⟨[],[z34]⟩ (K (.exit 0)) d e g h i) n c j l,B:=fun R K rec a b c d e g h i j l m o p q s t=>sound_checker_joined_l0_b N a b d e g h i m o p q s t (pK ⟨[],[z34]⟩ (K (.exit 0)) d e g h i) (fun c j l=>rec a b c d e g h i j l m o p q s t) c j l }],g:=[sound_checker_want_S N,sound_checker_chartOf_S N,slices_ContainsFunc_Chan_2_S N] }
def sound_checker_joined_S (N:Nat):OC E0:=⟨_,FD.ct e0 (sound_checker_joined_D N) N (fun R k a b c d e g h i j l m o p=>sound_checker_joined N a b c d e g h i j l m o p (oK ⟨.tp [],[z34],[]⟩ k h i j l m))⟩
def sound_certName (N:Nat) (Name Inst_ Req Resp:List UInt8) (Insts Chans:List (List UInt8)) (Cells:List Cell) (At:Int) (k0:Option R):Option R :=
 k0 
def sound_certName_D (N:Nat):FD E0:={ f:=37,fn:=Tryz.f37,q:=⟨[y17],[]⟩ }
def sound_certName_S (N:Nat):OC E0:=⟨_,FD.ct e0 (sound_certName_D N) N (fun R k a b c d e g h i=>sound_certName N a b c d e g h i (oK ⟨.st,[],[]⟩ k a))⟩
def sound_find_Cert_1 (N:Nat) (Name Inst_ Req Resp:List UInt8) (Insts Chans:List (List UInt8)) (Cells:List Cell) (At:Int) (a2_0:List UInt8) (k0:Bool→Option R):Option R :=
 k0 (Name == a2_0)
def sound_find_Cert_1_D (N:Nat):FD E0:={ f:=135,fn:=Tryz.f135,q:=⟨[y17,.p 0 0 0,.p 1 0 0],[.bx [.fn 37 []],.bx [.st]]⟩,g:=[sound_certName_S N] }
def sound_find_Cert_1_S (N:Nat):OC E0:=⟨_,FD.ctq e0 (sound_find_Cert_1_D N) N (fun R k a b c d e g h i j=>sound_find_Cert_1 N a b c d e g h i j (oQ ⟨.b,[],[]⟩ k))⟩
def slices_IndexFunc_Cert_l0_b (N:Nat) (s_1:List Cert) (v_2:Int) (f_4:List UInt8) (kp0:Option R) (kp1:Int→Option R) (rec:Int→Option R) (v_3:Int):Option R :=
 if (decide (v_3 < v_2)) = true then
 ((at? s_1 v_3).bind fun e5 =>
 if (e5.Name == f_4) = true then
 (kp1 v_3)
 else
 (rec (IntKind.wrap .i64 (v_3 + 1))))
 else
 (kp0 )
def slices_IndexFunc_Cert_l0 (N:Nat) (s_1:List Cert) (v_2:Int) (f_4:List UInt8) (kp0:Option R) (kp1:Int→Option R):Nat→Int→Option R
 | 0=>fun _=>none
 | n + 1=>fun v_3=>slices_IndexFunc_Cert_l0_b N s_1 v_2 f_4 kp0 kp1 (slices_IndexFunc_Cert_l0 N s_1 v_2 f_4 kp0 kp1 n) v_3
def slices_IndexFunc_Cert (N:Nat) (s:List Cert) (f_c1_0:List UInt8) (k0:Int→Option R):Option R :=
 slices_IndexFunc_Cert_l0 N s ((s.length:Nat):Int) f_c1_0 (k0 (-1))
 (fun y6 =>
 k0 y6) N 0
def slices_IndexFunc_Cert_D (N:Nat):FD E0:={ f:=134,fn:=Tryz.f134,q:=⟨[.t .cert,.fn 135 [.p 0 0 0,.p 1 0 0]],[.bx [.fn 37 []],.bx [.st]]⟩,loops:=[{ cur:=0,live:=[0,1,7,8],out:=fun | .exit 0=>([],[]) | .ret=>([4],[]) | _=>([],[]),q:=⟨[.t .cert,.fn 135 [.p 0 0 0,.p 1 0 0],.i .i64,.i .i64],[.bx [.fn 37 []],.bx [.st]]⟩,G:=fun R K n a b c d=>slices_IndexFunc_Cert_l0 N a b d (pK ⟨[],[.bx [.fn 37 []],.bx [.st]]⟩ (K (.exit 0)) d) (fun e=>pK ⟨[.i .i64],[.bx [.fn 37 []],.bx [.st]]⟩ (K .ret) e d) n c,B:=fun R K rec a b c d=>slices_IndexFunc_Cert_l0_b N a b d (pK ⟨[],[.bx [.fn 37 []],.bx [.st]]⟩ (K (.exit 0)) d) (fun e=>pK ⟨[.i .i64],[.bx [.fn 37 []],.bx [.st]]⟩ (K .ret) e d) (fun c=>rec a b c d) c }],g:=[sound_find_Cert_1_S N] }
def slices_IndexFunc_Cert_S (N:Nat):OC E0:=⟨_,FD.ctq e0 (slices_IndexFunc_Cert_D N) N (fun R k a b=>slices_IndexFunc_Cert N a b (oQ ⟨.i .i64,[],[]⟩ k))⟩
def sound_find_Cert (N:Nat) (l:List Cert) (s:List UInt8) (k0:Int→Option R):Option R :=
 slices_IndexFunc_Cert N l s (fun r1 =>
 k0 r1)
def sound_find_Cert_D (N:Nat):FD E0:={ f:=78,fn:=Tryz.f78,q:=⟨[.t .cert,.st,.fn 37 []],[]⟩,g:=[slices_IndexFunc_Cert_S N] }
def sound_find_Cert_S (N:Nat):OC E0:=⟨_,FD.ct e0 (sound_find_Cert_D N) N (fun R k a b=>sound_find_Cert N a b (oK ⟨.i .i64,[],[]⟩ k))⟩
def sound_twice_Cert (N:Nat) (l:List Cert) (Name Inst_ Req Resp:List UInt8) (Insts Chans:List (List UInt8)) (Cells:List Cell) (At:Int) (k0:Bool→Option R):Option R :=
 sound_find_Cert N l Name (fun r1 =>
 k0 (decide (r1 ≥ 0)))
def sound_twice_Cert_D (N:Nat):FD E0:={ f:=36,fn:=Tryz.f36,q:=⟨[.t .cert,y17,.fn 37 []],[]⟩,g:=[sound_certName_S N,sound_find_Cert_S N] }
def sound_twice_Cert_S (N:Nat):OC E0:=⟨_,FD.ct e0 (sound_twice_Cert_D N) N (fun R k a b c d e g h i j=>sound_twice_Cert N a b c d e g h i j (oK ⟨.b,[],[]⟩ k))⟩
def slices_Index_string_l0_b (N:Nat) (s_1:List (List UInt8)) (v_2:List UInt8) (v_3:Int) (kp0:Option R) (kp1:Int→Option R) (rec:Int→Option R) (v_4:Int):Option R :=
 if (decide (v_4 < v_3)) = true then
 ((at? s_1 v_4).bind fun e5 =>
 if (v_2 == e5) = true then
 (kp1 v_4)
 else
 (rec (IntKind.wrap .i64 (v_4 + 1))))
 else
 (kp0 )
def slices_Index_string_l0 (N:Nat) (s_1:List (List UInt8)) (v_2:List UInt8) (v_3:Int) (kp0:Option R) (kp1:Int→Option R):Nat→Int→Option R
 | 0=>fun _=>none
 | n + 1=>fun v_4=>slices_Index_string_l0_b N s_1 v_2 v_3 kp0 kp1 (slices_Index_string_l0 N s_1 v_2 v_3 kp0 kp1 n) v_4
def slices_Index_string (N:Nat) (s:List (List UInt8)) (v:List UInt8) (k0:Int→Option R):Option R :=
 slices_Index_string_l0 N s v ((s.length:Nat):Int) (k0 (-1))
 (fun y6 =>
 k0 y6) N 0
def slices_Index_string_D (N:Nat):FD E0:={ f:=136,fn:=Tryz.f136,q:=⟨[.t .str,.st],[]⟩,loops:=[{ cur:=0,live:=[0,1,7,8],out:=fun | .exit 0=>([],[]) | .ret=>([4],[]) | _=>([],[]),q:=⟨[.t .str,.st,.i .i64,.i .i64],[]⟩,G:=fun R K n a b c d=>slices_Index_string_l0 N a b c (pK ⟨[],[]⟩ (K (.exit 0))) (pK ⟨[.i .i64],[]⟩ (K .ret)) n d,B:=fun R K rec a b c d=>slices_Index_string_l0_b N a b c (pK ⟨[],[]⟩ (K (.exit 0))) (pK ⟨[.i .i64],[]⟩ (K .ret)) (rec a b c) d }] }
def slices_Index_string_S (N:Nat):OC E0:=⟨_,FD.ct e0 (slices_Index_string_D N) N (fun R k a b=>slices_Index_string N a b (oK ⟨.i .i64,[],[]⟩ k))⟩
def slices_Contains_string (N:Nat) (s:List (List UInt8)) (v:List UInt8) (k0:Bool→Option R):Option R :=
 slices_Index_string N s v (fun r1 =>
 k0 (decide (r1 ≥ 0)))
def slices_Contains_string_D (N:Nat):FD E0:={ f:=79,fn:=Tryz.f79,q:=⟨[.t .str,.st],[]⟩,g:=[slices_Index_string_S N] }
def slices_Contains_string_S (N:Nat):OC E0:=⟨_,FD.ct e0 (slices_Contains_string_D N) N (fun R k a b=>slices_Contains_string N a b (oK ⟨.b,[],[]⟩ k))⟩
structure Fam_sound_flat where
 sound_flat:(R:Type)→(List State)→((List State)→Option R)→Option R
def sound_flat_q:Pat S:=⟨[.t .state],[]⟩
def sound_flat_C (F:Fam_sound_flat):Ct S:=⟨81,sound_flat_q,fun R k a=>F.sound_flat R a (oK ⟨.t .state,[],[]⟩ k)⟩
structure Fam_sound_flat_ok (F:Fam_sound_flat):Prop where
 sound_flat:(sound_flat_C F).ok E0
def sound_flat_l0_b (F:Fam_sound_flat) (N:Nat) (v_6:List State) (v_7:Int) (kp0:(List State)→Option R) (rec:Int→(List State)→Option R) (v_8:Int) (out_9:List State):Option R :=
 if (decide (v_8 < v_7)) = true then
 ((at? v_6 v_8).bind fun e10 =>
 if out_9.length + [(⟨e10.Kind,e10.Name,e10.Entry,e10.Exit,e10.Trans,e10.Kids,e10.At⟩:State)].length ≤ maxRow then (F.sound_flat _ e10.Kids (fun r11 =>
 if (out_9 ++ [(⟨e10.Kind,e10.Name,e10.Entry,e10.Exit,e10.Trans,e10.Kids,e10.At⟩:State)]).length + r11.length ≤ maxRow then (rec (IntKind.wrap .i64 (v_8 + 1)) ((out_9 ++ [(⟨e10.Kind,e10.Name,e10.Entry,e10.Exit,e10.Trans,e10.Kids,e10.At⟩:State)]) ++ r11)) else none)) else none)
 else
 (kp0 out_9)
def sound_flat_l0 (F:Fam_sound_flat) (N:Nat) (v_6:List State) (v_7:Int) (kp0:(List State)→Option R):Nat→Int→(List State)→Option R
 | 0=>fun _ _=>none
 | n + 1=>fun v_8 out_9=>sound_flat_l0_b F N v_6 v_7 kp0 (sound_flat_l0 F N v_6 v_7 kp0 n) v_8 out_9
def sound_flat_d (F:Fam_sound_flat) (N:Nat) (l:List State) (k0:(List State)→Option R):Option R :=
 sound_flat_l0 F N l ((l.length:Nat):Int) (fun y12 =>
 k0 y12) N 0 ([]:List State)
def sound_flat_D (F:Fam_sound_flat) (hF:Fam_sound_flat_ok F) (N:Nat):FD E0:={ f:=81,fn:=Tryz.f81,q:=sound_flat_q,loops:=[{ cur:=0,live:=[3,6,7,8],fix:=[(⟨3,[]⟩,.row .state .app)],out:=fun | .exit 0=>([3],[]) | _=>([],[]),q:=⟨[.sw 0,.t .state,.i .i64,.i .i64],[.rw .state .app]⟩,G:=fun R K n a b c d=>sound_flat_l0 F N a b (pK ⟨[.sw 0],[.rw .state .app]⟩ (K (.exit 0))) n c d,B:=fun R K rec a b c d=>sound_flat_l0_b F N a b (pK ⟨[.sw 0],[.rw .state .app]⟩ (K (.exit 0))) (rec a b) c d }],g:=[⟨sound_flat_C F,hF.sound_flat⟩],exit:=[(⟨2,[]⟩,.tree .state)] }
theorem sound_flat_okF (F:Fam_sound_flat) (hF:Fam_sound_flat_ok F) (N:Nat):Ct.ok E0 ⟨(sound_flat_D F hF N).f,(sound_flat_D F hF N).q,fun R k a=>sound_flat_d F N a (oK ⟨.t .state,[],[]⟩ k)⟩:=FD.ct e0 (sound_flat_D F hF N) N (fun R k a=>sound_flat_d F N a (oK ⟨.t .state,[],[]⟩ k))
def Fam_sound_flat_next (F:Fam_sound_flat) (N:Nat):Fam_sound_flat where
 sound_flat:=fun R l k0=>sound_flat_d F N l k0
def Fam_sound_flat_at (N:Nat):Nat→Fam_sound_flat
 | 0=>{ sound_flat:=fun _ _ _=>none }
 | d + 1=>Fam_sound_flat_next (Fam_sound_flat_at N d) N
theorem Fam_sound_flat_at_ok (N:Nat):∀ d,Fam_sound_flat_ok (Fam_sound_flat_at N d)
 | 0=>{ sound_flat:=Ct.ok_none }
 | d + 1=>{ sound_flat:=sound_flat_okF _ (Fam_sound_flat_at_ok N d) N }
def sound_flat (N:Nat) (l:List State) (k0:(List State)→Option R):Option R:=(Fam_sound_flat_at N N).sound_flat R l k0
theorem sound_flat_at (N d:Nat) (l:List State) (k0:(List State)→Option R):(Fam_sound_flat_at N (d + 1)).sound_flat R l k0 = sound_flat_d (Fam_sound_flat_at N d) N l k0:=rfl
def sound_flat_S (N:Nat):OC E0:=⟨sound_flat_C (Fam_sound_flat_at N N),(Fam_sound_flat_at_ok N N).sound_flat⟩
def slices_IndexFunc_State_4_l0_b (N:Nat) (s_1:List State) (v_2:Int) (kp0:Option R) (kp1:Int→Option R) (rec:Int→Option R) (v_3:Int):Option R :=
 if (decide (v_3 < v_2)) = true then
 ((at? s_1 v_3).bind fun e4 =>
 sound_history N e4.Kind e4.Name e4.Entry e4.Exit e4.Trans e4.Kids e4.At (fun r5 =>
 if r5 = true then
 (kp1 v_3)
 else
 (rec (IntKind.wrap .i64 (v_3 + 1)))))
 else
 (kp0 )
def slices_IndexFunc_State_4_l0 (N:Nat) (s_1:List State) (v_2:Int) (kp0:Option R) (kp1:Int→Option R):Nat→Int→Option R
 | 0=>fun _=>none
 | n + 1=>fun v_3=>slices_IndexFunc_State_4_l0_b N s_1 v_2 kp0 kp1 (slices_IndexFunc_State_4_l0 N s_1 v_2 kp0 kp1 n) v_3
def slices_IndexFunc_State_4 (N:Nat) (s:List State) (k0:Int→Option R):Option R :=
 slices_IndexFunc_State_4_l0 N s ((s.length:Nat):Int) (k0 (-1))
 (fun y6 =>
 k0 y6) N 0
def slices_IndexFunc_State_4_D (N:Nat):FD E0:={ f:=137,fn:=Tryz.f137,q:=⟨[.t .state,.fn 65 []],[]⟩,loops:=[{ cur:=0,live:=[0,1,7,8],out:=fun | .exit 0=>([],[]) | .ret=>([4],[]) | _=>([],[]),q:=⟨[.t .state,.fn 65 [],.i .i64,.i .i64],[]⟩,G:=fun R K n a b c=>slices_IndexFunc_State_4_l0 N a b (pK ⟨[],[]⟩ (K (.exit 0))) (pK ⟨[.i .i64],[]⟩ (K .ret)) n c,B:=fun R K rec a b c=>slices_IndexFunc_State_4_l0_b N a b (pK ⟨[],[]⟩ (K (.exit 0))) (pK ⟨[.i .i64],[]⟩ (K .ret)) (rec a b) c }],g:=[sound_history_S N] }
def slices_IndexFunc_State_4_S (N:Nat):OC E0:=⟨_,FD.ct e0 (slices_IndexFunc_State_4_D N) N (fun R k a=>slices_IndexFunc_State_4 N a (oK ⟨.i .i64,[],[]⟩ k))⟩
def slices_ContainsFunc_State_2 (N:Nat) (s:List State) (k0:Bool→Option R):Option R :=
 slices_IndexFunc_State_4 N s (fun r1 =>
 k0 (decide (r1 ≥ 0)))
def slices_ContainsFunc_State_2_D (N:Nat):FD E0:={ f:=80,fn:=Tryz.f80,q:=⟨[.t .state,.fn 65 []],[]⟩,g:=[slices_IndexFunc_State_4_S N] }
def slices_ContainsFunc_State_2_S (N:Nat):OC E0:=⟨_,FD.ct e0 (slices_ContainsFunc_State_2_D N) N (fun R k a=>slices_ContainsFunc_State_2 N a (oK ⟨.b,[],[]⟩ k))⟩
def slices_IndexFunc_State_5_l0_b (N:Nat) (s_1:List State) (v_2:Int) (f_4:List UInt8) (kp0:Option R) (kp1:Int→Option R) (rec:Int→Option R) (v_3:Int):Option R :=
 if (decide (v_3 < v_2)) = true then
 ((at? s_1 v_3).bind fun e5 =>
 if (e5.Name == f_4) = true then
 (kp1 v_3)
 else
 (rec (IntKind.wrap .i64 (v_3 + 1))))
 else
 (kp0 )
def slices_IndexFunc_State_5_l0 (N:Nat) (s_1:List State) (v_2:Int) (f_4:List UInt8) (kp0:Option R) (kp1:Int→Option R):Nat→Int→Option R
 | 0=>fun _=>none
 | n + 1=>fun v_3=>slices_IndexFunc_State_5_l0_b N s_1 v_2 f_4 kp0 kp1 (slices_IndexFunc_State_5_l0 N s_1 v_2 f_4 kp0 kp1 n) v_3
def slices_IndexFunc_State_5 (N:Nat) (s:List State) (f_c1_0:List UInt8) (k0:Int→Option R):Option R :=
 slices_IndexFunc_State_5_l0 N s ((s.length:Nat):Int) f_c1_0 (k0 (-1))
 (fun y6 =>
 k0 y6) N 0
def slices_IndexFunc_State_5_D (N:Nat):FD E0:={ f:=137,fn:=Tryz.f137,q:=⟨[.t .state,.fn 138 [.p 0 0 0,.p 1 0 0]],[.bx [.fn 84 []],.bx [.st]]⟩,loops:=[{ cur:=0,live:=[0,1,7,8],out:=fun | .exit 0=>([],[]) | .ret=>([4],[]) | _=>([],[]),q:=⟨[.t .state,.fn 138 [.p 0 0 0,.p 1 0 0],.i .i64,.i .i64],[.bx [.fn 84 []],.bx [.st]]⟩,G:=fun R K n a b c d=>slices_IndexFunc_State_5_l0 N a b d (pK ⟨[],[.bx [.fn 84 []],.bx [.st]]⟩ (K (.exit 0)) d) (fun e=>pK ⟨[.i .i64],[.bx [.fn 84 []],.bx [.st]]⟩ (K .ret) e d) n c,B:=fun R K rec a b c d=>slices_IndexFunc_State_5_l0_b N a b d (pK ⟨[],[.bx [.fn 84 []],.bx [.st]]⟩ (K (.exit 0)) d) (fun e=>pK ⟨[.i .i64],[.bx [.fn 84 []],.bx [.st]]⟩ (K .ret) e d) (fun c=>rec a b c d) c }],g:=[sound_find_State_1_S N] }
def slices_IndexFunc_State_5_S (N:Nat):OC E0:=⟨_,FD.ctq e0 (slices_IndexFunc_State_5_D N) N (fun R k a b=>slices_IndexFunc_State_5 N a b (oQ ⟨.i .i64,[],[]⟩ k))⟩
def sound_find_State_3 (N:Nat) (l:List State) (s:List UInt8) (k0:Int→Option R):Option R :=
 slices_IndexFunc_State_5 N l s (fun r1 =>
 k0 r1)
def sound_find_State_3_D (N:Nat):FD E0:={ f:=83,fn:=Tryz.f83,q:=⟨[.t .state,.st,.fn 84 []],[]⟩,g:=[slices_IndexFunc_State_5_S N] }
def sound_find_State_3_S (N:Nat):OC E0:=⟨_,FD.ct e0 (sound_find_State_3_D N) N (fun R k a b=>sound_find_State_3 N a b (oK ⟨.i .i64,[],[]⟩ k))⟩
def sound_checker_cert_1 (N:Nat) (name:List UInt8) (a1_0:List State) (k0:Bool→Option R):Option R :=
 sound_find_State_3 N a1_0 name (fun r1 =>
 k0 (decide (r1 ≥ 0)))
def sound_checker_cert_1_D (N:Nat):FD E0:={ f:=82,fn:=Tryz.f82,q:=⟨[.st,.p 0 0 0],[.bx [.t .state]]⟩,g:=[sound_find_State_3_S N] }
def sound_checker_cert_1_S (N:Nat):OC E0:=⟨_,FD.ctq e0 (sound_checker_cert_1_D N) N (fun R k a b=>sound_checker_cert_1 N a b (oQ ⟨.b,[],[]⟩ k))⟩
structure Fam_sound_has where
 sound_has:(R:Type)→Int→(List UInt8)→(List Act)→(List Act)→(List Trans)→(List State)→Int→(List (List UInt8))→(Int→Option R)→Option R
def sound_has_q:Pat S:=⟨[y2,.t .str],[]⟩
def sound_has_C (F:Fam_sound_has):Ct S:=⟨186,sound_has_q,fun R k a b c d e g h i=>F.sound_has R a b c d e g h i (oK ⟨.i .i64,[],[]⟩ k)⟩
structure Fam_sound_has_ok (F:Fam_sound_has):Prop where
 sound_has:(sound_has_C F).ok E0
def sound_has_l0_b (F:Fam_sound_has) (N:Nat) (set_1 v_3:List (List UInt8)) (v_4 s_6:Int) (s_7:List UInt8) (s_8 s_9:List Act) (s_10:List Trans) (s_11:List State) (s_12:Int) (kp0:Int→Option R) (rec:Int→Int→Option R) (n_2 v_5:Int):Option R :=
 if (decide (v_5 < v_4)) = true then
 ((at? v_3 v_5).bind fun e13 =>
 if (e13 == s_7) = true then
 (rec (IntKind.wrap .i64 (n_2 + 1)) (IntKind.wrap .i64 (v_5 + 1)))
 else
 (rec n_2 (IntKind.wrap .i64 (v_5 + 1))))
 else
 (kp0 n_2)
def sound_has_l0 (F:Fam_sound_has) (N:Nat) (set_1 v_3:List (List UInt8)) (v_4 s_6:Int) (s_7:List UInt8) (s_8 s_9:List Act) (s_10:List Trans) (s_11:List State) (s_12:Int) (kp0:Int→Option R):Nat→Int→Int→Option R
 | 0=>fun _ _=>none
 | n + 1=>fun n_2 v_5=>sound_has_l0_b F N set_1 v_3 v_4 s_6 s_7 s_8 s_9 s_10 s_11 s_12 kp0 (sound_has_l0 F N set_1 v_3 v_4 s_6 s_7 s_8 s_9 s_10 s_11 s_12 kp0 n) n_2 v_5
def sound_has_l2_b (F:Fam_sound_has) (N:Nat) (set_24:List (List UInt8)) (v_26:List State) (v_27:Int) (kp0:Int→Option R) (rec:Int→Int→Option R) (n_25 v_28:Int):Option R :=
 if (decide (v_28 < v_27)) = true then
 ((at? v_26 v_28).bind fun e29 =>
 F.sound_has _ e29.Kind e29.Name e29.Entry e29.Exit e29.Trans e29.Kids e29.At set_24 (fun r30 =>
 rec (IntKind.wrap .i64 (n_25 + r30)) (IntKind.wrap .i64 (v_28 + 1))))
 else
 (kp0 n_25)
def sound_has_l2 (F:Fam_sound_has) (N:Nat) (set_24:List (List UInt8)) (v_26:List State) (v_27:Int) (kp0:Int→Option R):Nat→Int→Int→Option R
 | 0=>fun _ _=>none
 | n + 1=>fun n_25 v_28=>sound_has_l2_b F N set_24 v_26 v_27 kp0 (sound_has_l2 F N set_24 v_26 v_27 kp0 n) n_25 v_28
def sound_has_c9 (F:Fam_sound_has) (N:Nat) (set_15:List (List UInt8)) (n_16 s_17:Int) (s_18:List UInt8) (s_19 s_20:List Act) (s_21:List Trans) (s_22:List State) (s_23:Int) (kp0:Int→Option R):Option R :=
 sound_has_l2 F N set_15 s_22 ((s_22.length:Nat):Int) (fun y31 =>
 kp0 y31) N n_16 0
def sound_has_d (F:Fam_sound_has) (N:Nat) (Kind:Int) (Name:List UInt8) (Entry Exit:List Act) (Trans_:List Trans) (Kids:List State) (At:Int) (set_:List (List UInt8)) (k0:Int→Option R):Option R :=
 if (((Kids.length:Nat):Int) == 0) = true then
 (sound_has_l0 F N set_ set_ ((set_.length:Nat):Int) Kind Name Entry Exit Trans_ Kids At (fun y14 =>
 sound_has_c9 F N set_ y14 Kind Name Entry Exit Trans_ Kids At (fun y32 =>
 k0 y32)) N 0 0)
 else
 (sound_has_c9 F N set_ 0 Kind Name Entry Exit Trans_ Kids At (fun y33 =>
 k0 y33))
def sound_has_D (F:Fam_sound_has) (hF:Fam_sound_has_ok F) (N:Nat):FD E0:={ f:=186,fn:=Tryz.f186,q:=sound_has_q,loops:=[{ cur:=0,live:=[1,2,5,14,15,16],out:=fun | .exit 0=>([1,2,5],[]) | _=>([],[]),q:=⟨[.t .str,.p 0 0 0,.i .i64,.t .str,.i .i64,.i .i64],[z35]⟩,G:=fun R K n a b c d e g h i j l m o=>sound_has_l0 F N a c d g h i j l m o (fun p=>pK ⟨[.t .str,.p 0 0 0,.i .i64],[z35]⟩ (K (.exit 0)) a p g h i j l m o) n b e,B:=fun R K rec a b c d e g h i j l m o=>sound_has_l0_b F N a c d g h i j l m o (fun p=>pK ⟨[.t .str,.p 0 0 0,.i .i64],[z35]⟩ (K (.exit 0)) a p g h i j l m o) (fun b e=>rec a b c d e g h i j l m o) b e },{ cur:=2,live:=[1,5,28,29,30],out:=fun | .exit 2=>([5],[]) | _=>([],[]),q:=⟨[.t .str,.i .i64,.t .state,.i .i64,.i .i64],[]⟩,G:=fun R K n a b c d e=>sound_has_l2 F N a c d (pK ⟨[.i .i64],[]⟩ (K (.exit 2))) n b e,B:=fun R K rec a b c d e=>sound_has_l2_b F N a c d (pK ⟨[.i .i64],[]⟩ (K (.exit 2))) (fun b e=>rec a b c d e) b e }],cuts:=[{ key:=9,live:=[1,2,5],out:=fun | .ret=>([4],[]) | _=>([],[]),q:=⟨[.t .str,.p 0 0 0,.i .i64],[z35]⟩,G:=fun R K a b c d e g h i j=>sound_has_c9 F N a b c d e g h i j (pK ⟨[.i .i64],[]⟩ (K .ret)) }],g:=[⟨sound_has_C F,hF.sound_has⟩] }
theorem sound_has_okF (F:Fam_sound_has) (hF:Fam_sound_has_ok F) (N:Nat):Ct.ok E0 ⟨(sound_has_D F hF N).f,(sound_has_D F hF N).q,fun R k a b c d e g h i=>sound_has_d F N a b c d e g h i (oK ⟨.i .i64,[],[]⟩ k)⟩:=FD.ct e0 (sound_has_D F hF N) N (fun R k a b c d e g h i=>sound_has_d F N a b c d e g h i (oK ⟨.i .i64,[],[]⟩ k))
def Fam_sound_has_next (F:Fam_sound_has) (N:Nat):Fam_sound_has where
 sound_has:=fun R Kind Name Entry Exit Trans_ Kids At set_ k0=>sound_has_d F N Kind Name Entry Exit Trans_ Kids At set_ k0
def Fam_sound_has_at (N:Nat):Nat→Fam_sound_has
 | 0=>{ sound_has:=fun _ _ _ _ _ _ _ _ _ _=>none }
 | d + 1=>Fam_sound_has_next (Fam_sound_has_at N d) N
theorem Fam_sound_has_at_ok (N:Nat):∀ d,Fam_sound_has_ok (Fam_sound_has_at N d)
 | 0=>{ sound_has:=Ct.ok_none }
 | d + 1=>{ sound_has:=sound_has_okF _ (Fam_sound_has_at_ok N d) N }
def sound_has (N:Nat) (Kind:Int) (Name:List UInt8) (Entry Exit:List Act) (Trans_:List Trans) (Kids:List State) (At:Int) (set_:List (List UInt8)) (k0:Int→Option R):Option R:=(Fam_sound_has_at N N).sound_has R Kind Name Entry Exit Trans_ Kids At set_ k0
theorem sound_has_at (N d:Nat) (Kind:Int) (Name:List UInt8) (Entry Exit:List Act) (Trans_:List Trans) (Kids:List State) (At:Int) (set_:List (List UInt8)) (k0:Int→Option R):(Fam_sound_has_at N (d + 1)).sound_has R Kind Name Entry Exit Trans_ Kids At set_ k0 = sound_has_d (Fam_sound_has_at N d) N Kind Name Entry Exit Trans_ Kids At set_ k0:=rfl
def sound_has_S (N:Nat):OC E0:=⟨sound_has_C (Fam_sound_has_at N N),(Fam_sound_has_at_ok N N).sound_has⟩
structure Fam_sound_active where
 sound_active:(R:Type)→(List State)→Bool→(List (List UInt8))→(Int→Bool→Option R)→Option R
def sound_active_q:Pat S:=⟨[.t .state,.b,.t .str],[]⟩
def sound_active_C (F:Fam_sound_active):Ct S:=⟨167,sound_active_q,fun R k a b c=>F.sound_active R a b c (oK ⟨.tp [.i .i64,.b],[],[]⟩ k)⟩
structure Fam_sound_active_ok (F:Fam_sound_active):Prop where
 sound_active:(sound_active_C F).ok E0
def sound_active_l0_b (F:Fam_sound_active) (N:Nat) (all_1:Bool) (set_2:List (List UInt8)) (v_5:List State) (v_6:Int) (kp0:Int→Int→Option R) (kp1:Int→Bool→Option R) (rec:Int→Int→Int→Option R) (sum_3 some_4 v_7:Int):Option R :=
 if (decide (v_7 < v_6)) = true then
 ((at? v_5 v_7).bind fun e8 =>
 sound_has N e8.Kind e8.Name e8.Entry e8.Exit e8.Trans e8.Kids e8.At set_2 (fun r9 =>
 (ifB (r9 == 0) true (some (!all_1)) (some false)).bind fun c10 =>
 if c10 = true then
 (rec sum_3 some_4 (IntKind.wrap .i64 (v_7 + 1)))
 else
 (if (((e8.Kids.length:Nat):Int) == 0) = true then
 (if (r9 != 1) = true then
 (kp1 0 false)
 else
 (rec (IntKind.wrap .i64 (sum_3 + r9)) (IntKind.wrap .i64 (some_4 + 1)) (IntKind.wrap .i64 (v_7 + 1))))
 else
 (F.sound_active _ e8.Kids (e8.Kind == 2) set_2 (fun r11 r12 =>
 if (!r12) = true then
 (kp1 0 false)
 else
 (rec (IntKind.wrap .i64 (sum_3 + r9)) (IntKind.wrap .i64 (some_4 + 1)) (IntKind.wrap .i64 (v_7 + 1))))))))
 else
 (kp0 sum_3 some_4)
def sound_active_l0 (F:Fam_sound_active) (N:Nat) (all_1:Bool) (set_2:List (List UInt8)) (v_5:List State) (v_6:Int) (kp0:Int→Int→Option R) (kp1:Int→Bool→Option R):Nat→Int→Int→Int→Option R
 | 0=>fun _ _ _=>none
 | n + 1=>fun sum_3 some_4 v_7=>sound_active_l0_b F N all_1 set_2 v_5 v_6 kp0 kp1 (sound_active_l0 F N all_1 set_2 v_5 v_6 kp0 kp1 n) sum_3 some_4 v_7
def sound_active_d (F:Fam_sound_active) (N:Nat) (l:List State) (all:Bool) (set_:List (List UInt8)) (k0:Int→Bool→Option R):Option R :=
 sound_active_l0 F N all set_ l ((l.length:Nat):Int) (fun y13 y14 =>
 (ifB all false (some (y14 == 1)) (some true)).bind fun c17 =>
 k0 y13 c17)
 (fun y15 y16 =>
 k0 y15 y16) N 0 0 0
def sound_active_D (F:Fam_sound_active) (hF:Fam_sound_active_ok F) (N:Nat):FD E0:={ f:=167,fn:=Tryz.f167,q:=sound_active_q,loops:=[{ cur:=0,live:=[1,2,8,9,15,16,17],out:=fun | .exit 0=>([1,8,9],[]) | .ret=>([6,7],[]) | _=>([],[]),q:=⟨[.b,.t .str,.i .i64,.i .i64,.t .state,.i .i64,.i .i64],[]⟩,G:=fun R K n a b c d e g h=>sound_active_l0 F N a b e g (pK ⟨[.b,.i .i64,.i .i64],[]⟩ (K (.exit 0)) a) (pK ⟨[.i .i64,.b],[]⟩ (K .ret)) n c d h,B:=fun R K rec a b c d e g h=>sound_active_l0_b F N a b e g (pK ⟨[.b,.i .i64,.i .i64],[]⟩ (K (.exit 0)) a) (pK ⟨[.i .i64,.b],[]⟩ (K .ret)) (fun c d h=>rec a b c d e g h) c d h }],g:=[⟨sound_active_C F,hF.sound_active⟩,sound_has_S N] }
theorem sound_active_okF (F:Fam_sound_active) (hF:Fam_sound_active_ok F) (N:Nat):Ct.ok E0 ⟨(sound_active_D F hF N).f,(sound_active_D F hF N).q,fun R k a b c=>sound_active_d F N a b c (oK ⟨.tp [.i .i64,.b],[],[]⟩ k)⟩:=FD.ct e0 (sound_active_D F hF N) N (fun R k a b c=>sound_active_d F N a b c (oK ⟨.tp [.i .i64,.b],[],[]⟩ k))
def Fam_sound_active_next (F:Fam_sound_active) (N:Nat):Fam_sound_active where
 sound_active:=fun R l all set_ k0=>sound_active_d F N l all set_ k0
def Fam_sound_active_at (N:Nat):Nat→Fam_sound_active
 | 0=>{ sound_active:=fun _ _ _ _ _=>none }
 | d + 1=>Fam_sound_active_next (Fam_sound_active_at N d) N
theorem Fam_sound_active_at_ok (N:Nat):∀ d,Fam_sound_active_ok (Fam_sound_active_at N d)
 | 0=>{ sound_active:=Ct.ok_none }
 | d + 1=>{ sound_active:=sound_active_okF _ (Fam_sound_active_at_ok N d) N }
def sound_active (N:Nat) (l:List State) (all:Bool) (set_:List (List UInt8)) (k0:Int→Bool→Option R):Option R:=(Fam_sound_active_at N N).sound_active R l all set_ k0
theorem sound_active_at (N d:Nat) (l:List State) (all:Bool) (set_:List (List UInt8)) (k0:Int→Bool→Option R):(Fam_sound_active_at N (d + 1)).sound_active R l all set_ k0 = sound_active_d (Fam_sound_active_at N d) N l all set_ k0:=rfl
def sound_active_S (N:Nat):OC E0:=⟨sound_active_C (Fam_sound_active_at N N),(Fam_sound_active_at_ok N N).sound_active⟩
def sound_leaves (N:Nat) (l:List State) (set_:List (List UInt8)) (k0:Bool→Option R):Option R :=
 sound_active N l false set_ (fun r1 r2 =>
 (ifB r2 true (some (r1 == ((set_.length:Nat):Int))) (some false)).bind fun c3 =>
 k0 c3)
def sound_leaves_D (N:Nat):FD E0:={ f:=140,fn:=Tryz.f140,q:=⟨[.t .state,.t .str],[]⟩,g:=[sound_active_S N] }
def sound_leaves_S (N:Nat):OC E0:=⟨_,FD.ct e0 (sound_leaves_D N) N (fun R k a b=>sound_leaves N a b (oK ⟨.b,[],[]⟩ k))⟩
def z36:ShO S:=.bx [.st,.st,.st,.st,.t .str,.t .str,.t .cell,.i .i64]
def z37:ShO S:=.bx [.i .i64,.t .strs,.t .strs,.i .i64]
end
end So
