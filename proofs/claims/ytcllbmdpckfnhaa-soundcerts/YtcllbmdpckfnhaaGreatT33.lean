/- T3_3: a part of the proof of SoundCerts: lemmas on the evaluator and on the functions that the law reaches. -/
import Derived.Test.YtcllbmdpckfnhaaGreatT32
set_option maxRecDepth 100000
set_option linter.unusedVariables false
namespace So
open Go TE Go.Proofs
noncomputable section
variable {R:Type}
def bw (N:Nat) (inst:List UInt8) (Age:Int) (Charts:List Chart) (Insts:List Inst) (Chans:List ai) (Certs:List Cert) (Code At:Int) (k0:(List UInt8)→Int→Int→(List af)→(List af)→(List af)→(List State)→Int→Bool→Option R):Option R :=
 kj N Insts inst (fun r1 =>
 if (decide (r1 < 0)) = true then
 (k0 [] 0 0 ([]:List af) ([]:List af) ([]:List af) ([]:List State) 0 false)
 else
 ((at? Insts r1).bind fun e2 =>
 eK N Charts e2.Chart (fun r3 =>
 if (decide (r3 < 0)) = true then
 (k0 [] 0 0 ([]:List af) ([]:List af) ([]:List af) ([]:List State) 0 false)
 else
 ((at? Charts r3).bind fun e4 =>
 k0 e4.Name e4.Steps e4.Fuel e4.Vars e4.Ports e4.Timers e4.States e4.At true))))
def uN (N:Nat):FD E0:={ f:=72,fn:=Tryz.f72,q:=⟨[.p 0 0 0,.st],[z34]⟩,g:=[nA N,tC N],exit:=[(⟨4,[3]⟩,.tree .named),(⟨4,[4]⟩,.tree .named),(⟨4,[5]⟩,.tree .named),(⟨4,[6]⟩,.tree .state)] }
def fE (N:Nat):OC E0:=⟨_,FD.ctq e0 (uN N) N (fun R k a b c d e g h i=>bw N a b c d e g h i (oQ ⟨.tp [y12,.b],[],[]⟩ k))⟩
def fF (N:Nat) (Name From Port To:List UInt8) (Cap Prio At:Int) (a1_0 a1_1 a1_2 a1_3:List UInt8) (a1_4 a1_5 a1_6:Int) (k0:Bool→Option R):Option R :=
 (ifB (From == a1_1) true (some (Port == a1_2)) (some false)).bind fun c1 =>
 k0 c1
def sO (N:Nat):FD E0:={ f:=75,fn:=Tryz.f75,q:=⟨[y15,.p 0 0 0],[z22]⟩ }
def sP (N:Nat):OC E0:=⟨_,FD.ctq e0 (sO N) N (fun R k a b c d e g h i j l m o p q=>fF N a b c d e g h i j l m o p q (oQ ⟨.b,[],[]⟩ k))⟩
def dk (N:Nat) (s_1:List ai) (v_2:Int) (f_4 f_5 f_6 f_7:List UInt8) (f_8 f_9 f_10:Int) (kp0:Option R) (kp1:Int→Option R) (rec:Int→Option R) (v_3:Int):Option R :=
 if (decide (v_3 < v_2)) = true then
 ((at? s_1 v_3).bind fun e11 =>
 fF N e11.Name e11.From e11.Port e11.To e11.Cap e11.Prio e11.At f_4 f_5 f_6 f_7 f_8 f_9 f_10 (fun r12 =>
 if r12 = true then
 (kp1 v_3)
 else
 (rec (IntKind.wrap .i64 (v_3 + 1)))))
 else
 (kp0 )
def bT (N:Nat) (s_1:List ai) (v_2:Int) (f_4 f_5 f_6 f_7:List UInt8) (f_8 f_9 f_10:Int) (kp0:Option R) (kp1:Int→Option R):Nat→Int→Option R
 | 0=>fun _=>none
 | n + 1=>fun v_3=>dk N s_1 v_2 f_4 f_5 f_6 f_7 f_8 f_9 f_10 kp0 kp1 (bT N s_1 v_2 f_4 f_5 f_6 f_7 f_8 f_9 f_10 kp0 kp1 n) v_3
def fG (N:Nat) (s:List ai) (f_c0_0 f_c0_1 f_c0_2 f_c0_3:List UInt8) (f_c0_4 f_c0_5 f_c0_6:Int) (k0:Int→Option R):Option R :=
 bT N s ((s.length:Nat):Int) f_c0_0 f_c0_1 f_c0_2 f_c0_3 f_c0_4 f_c0_5 f_c0_6 (k0 (-1))
 (fun y13 =>
 k0 y13) N 0
def sQ (N:Nat):FD E0:={ f:=133,fn:=Tryz.f133,q:=⟨[.t .chan,.fn 75 [.p 0 0 0]],[z22]⟩,loops:=[{ cur:=0,live:=[0,1,7,8],out:=fun | .exit 0=>([],[]) | .ret=>([4],[]) | _=>([],[]),q:=⟨[.t .chan,.fn 75 [.p 0 0 0],.i .i64,.i .i64],[z22]⟩,G:=fun R K n a b c d e g h i j l=>bT N a b d e g h i j l (pK ⟨[],[z22]⟩ (K (.exit 0)) d e g h i j l) (fun m=>pK ⟨[.i .i64],[z22]⟩ (K .ret) m d e g h i j l) n c,B:=fun R K rec a b c d e g h i j l=>dk N a b d e g h i j l (pK ⟨[],[z22]⟩ (K (.exit 0)) d e g h i j l) (fun m=>pK ⟨[.i .i64],[z22]⟩ (K .ret) m d e g h i j l) (fun c=>rec a b c d e g h i j l) c }],g:=[sP N] }
def sR (N:Nat):OC E0:=⟨_,FD.ctq e0 (sQ N) N (fun R k a b c d e g h i=>fG N a b c d e g h i (oQ ⟨.i .i64,[],[]⟩ k))⟩
def eQ (N:Nat) (s:List ai) (f_c0_0 f_c0_1 f_c0_2 f_c0_3:List UInt8) (f_c0_4 f_c0_5 f_c0_6:Int) (k0:Bool→Option R):Option R :=
 fG N s f_c0_0 f_c0_1 f_c0_2 f_c0_3 f_c0_4 f_c0_5 f_c0_6 (fun r1 =>
 k0 (decide (r1 ≥ 0)))
def rZ (N:Nat):FD E0:={ f:=76,fn:=Tryz.f76,q:=⟨[.t .chan,.fn 75 [.p 0 0 0]],[z22]⟩,g:=[sR N] }
def sb (N:Nat):OC E0:=⟨_,FD.ctq e0 (rZ N) N (fun R k a b c d e g h i=>eQ N a b c d e g h i (oQ ⟨.b,[],[]⟩ k))⟩
def iO (N:Nat) (i_27 c_28:Int) (c_29:List Chart) (c_30:List Inst) (c_31:List ai) (c_32:List Cert) (c_33 c_34:Int) (x_35 x_36 x_37 x_38:List UInt8) (x_39 x_40 x_41:Int) (kp0:Int→Int→Option R):Option R :=
 if (0:Int) ≤ 0 ∧ 0 ≤ i_27 ∧ i_27 ≤ ((c_31.length:Nat):Int) then (eQ N ((c_31.take i_27.toNat).drop (Int.toNat 0)) x_35 x_36 x_37 x_38 x_39 x_40 x_41 (fun r42 =>
 ae N (!r42) 8 x_41 c_28 c_29 c_30 c_31 c_32 c_33 c_34 (fun r43 r44 =>
 dj N x_39 1 32 (fun r45 =>
 (ifB r45 true (dj N x_40 0 7 (fun r46 =>
 some r46)) (some false)).bind fun c47 =>
 ae N c47 16 x_41 c_28 c_29 c_30 c_31 c_32 r43 r44 (fun r48 r49 =>
 kp0 r48 r49))))) else none
def gY (N:Nat) (i:Int) (Name From Port To:List UInt8) (Cap Prio At Age:Int) (Charts:List Chart) (Insts:List Inst) (Chans:List ai) (Certs:List Cert) (Code At_2:Int) (k0:Int→Int→Option R):Option R :=
 if (0:Int) ≤ 0 ∧ 0 ≤ i ∧ i ≤ ((Chans.length:Nat):Int) then (lJ N ((Chans.take i.toNat).drop (Int.toNat 0)) Name From Port To Cap Prio At (fun r1 =>
 ae N (!r1) 8 At Age Charts Insts Chans Certs Code At_2 (fun r2 r3 =>
 bw N From Age Charts Insts Chans Certs r2 r3 (fun r4 r5 r6 r7 r8 r9 r10 r11 r12 =>
 bw N To Age Charts Insts Chans Certs r2 r3 (fun r13 r14 r15 r16 r17 r18 r19 r20 r21 =>
 (ifB r12 true (some r21) (some false)).bind fun c22 =>
 (ifB c22 true (bE N r8 Port (fun r23 =>
 some (decide (r23 ≥ 0)))) (some false)).bind fun c24 =>
 ae N c24 7 At Age Charts Insts Chans Certs r2 r3 (fun r25 r26 =>
 iO N i Age Charts Insts Chans Certs r25 r26 Name From Port To Cap Prio At (fun y50 y51 =>
 k0 y50 y51))))))) else none
def uO (N:Nat):FD E0:={ f:=34,fn:=Tryz.f34,q:=⟨[.p 0 0 0,.i .i64,y15],[z34]⟩,cuts:=[{ key:=5,live:=[0,1,5],out:=fun | .normal=>([],[]) | _=>([],[]),q:=⟨[.p 0 0 0,.i .i64,.p 1 0 0],[z34,z22]⟩,G:=fun R K a b c d e g h i j l m o p q s=>iO N a b c d e g h i j l m o p q s (pK ⟨[],[z34]⟩ (K .normal) b c d e g) }],g:=[aU N,la N,Ac N,fE N,jD N,sb N] }
def uP (N:Nat):OC E0:=⟨_,FD.ct e0 (uO N) N (fun R k a b c d e g h i j l m o p q s=>gY N a b c d e g h i j l m o p q s (oK ⟨.tp [],[z34],[]⟩ k j l m o p))⟩
def gq (N:Nat) (Name From Port To:List UInt8) (Cap Prio At:Int) (a1_0 a1_1:List UInt8) (a1_2 a1_3 a1_4 a1_5:Int) (a2_0:List UInt8) (a2_1 a2_2:Int) (k0:Bool→Option R):Option R :=
 (ifB (From == a1_0) true (some (Port == a2_0)) (some false)).bind fun c1 =>
 k0 c1
def ua (N:Nat):FD E0:={ f:=77,fn:=Tryz.f77,q:=⟨[y15,.p 0 0 0,.p 1 0 0],[z21,.bx [.st,.i .i64,.i .i64]]⟩ }
def ub (N:Nat):OC E0:=⟨_,FD.ctq e0 (ua N) N (fun R k a b c d e g h i j l m o p q s t=>gq N a b c d e g h i j l m o p q s t (oQ ⟨.b,[],[]⟩ k))⟩
def dm (N:Nat) (s_1:List ai) (v_2:Int) (f_4 f_5:List UInt8) (f_6 f_7 f_8 f_9:Int) (f_10:List UInt8) (f_11 f_12:Int) (kp0:Option R) (kp1:Int→Option R) (rec:Int→Option R) (v_3:Int):Option R :=
 if (decide (v_3 < v_2)) = true then
 ((at? s_1 v_3).bind fun e13 =>
 gq N e13.Name e13.From e13.Port e13.To e13.Cap e13.Prio e13.At f_4 f_5 f_6 f_7 f_8 f_9 f_10 f_11 f_12 (fun r14 =>
 if r14 = true then
 (kp1 v_3)
 else
 (rec (IntKind.wrap .i64 (v_3 + 1)))))
 else
 (kp0 )
def bU (N:Nat) (s_1:List ai) (v_2:Int) (f_4 f_5:List UInt8) (f_6 f_7 f_8 f_9:Int) (f_10:List UInt8) (f_11 f_12:Int) (kp0:Option R) (kp1:Int→Option R):Nat→Int→Option R
 | 0=>fun _=>none
 | n + 1=>fun v_3=>dm N s_1 v_2 f_4 f_5 f_6 f_7 f_8 f_9 f_10 f_11 f_12 kp0 kp1 (bU N s_1 v_2 f_4 f_5 f_6 f_7 f_8 f_9 f_10 f_11 f_12 kp0 kp1 n) v_3
def fH (N:Nat) (s:List ai) (f_c0_0 f_c0_1:List UInt8) (f_c0_2 f_c0_3 f_c0_4 f_c0_5:Int) (f_c1_0:List UInt8) (f_c1_1 f_c1_2:Int) (k0:Int→Option R):Option R :=
 bU N s ((s.length:Nat):Int) f_c0_0 f_c0_1 f_c0_2 f_c0_3 f_c0_4 f_c0_5 f_c1_0 f_c1_1 f_c1_2 (k0 (-1))
 (fun y15 =>
 k0 y15) N 0
def sS (N:Nat):FD E0:={ f:=133,fn:=Tryz.f133,q:=⟨[.t .chan,.fn 77 [.p 0 0 0,.p 1 0 0]],[z21,.bx [.st,.i .i64,.i .i64]]⟩,loops:=[{ cur:=0,live:=[0,1,7,8],out:=fun | .exit 0=>([],[]) | .ret=>([4],[]) | _=>([],[]),q:=⟨[.t .chan,.fn 77 [.p 0 0 0,.p 1 0 0],.i .i64,.i .i64],[z21,.bx [.st,.i .i64,.i .i64]]⟩,G:=fun R K n a b c d e g h i j l m o=>bU N a b d e g h i j l m o (pK ⟨[],[z21,.bx [.st,.i .i64,.i .i64]]⟩ (K (.exit 0)) d e g h i j l m o) (fun p=>pK ⟨[.i .i64],[z21,.bx [.st,.i .i64,.i .i64]]⟩ (K .ret) p d e g h i j l m o) n c,B:=fun R K rec a b c d e g h i j l m o=>dm N a b d e g h i j l m o (pK ⟨[],[z21,.bx [.st,.i .i64,.i .i64]]⟩ (K (.exit 0)) d e g h i j l m o) (fun p=>pK ⟨[.i .i64],[z21,.bx [.st,.i .i64,.i .i64]]⟩ (K .ret) p d e g h i j l m o) (fun c=>rec a b c d e g h i j l m o) c }],g:=[ub N] }
def sT (N:Nat):OC E0:=⟨_,FD.ctq e0 (sS N) N (fun R k a b c d e g h i j l=>fH N a b c d e g h i j l (oQ ⟨.i .i64,[],[]⟩ k))⟩
def dU (N:Nat) (s:List ai) (f_c0_0 f_c0_1:List UInt8) (f_c0_2 f_c0_3 f_c0_4 f_c0_5:Int) (f_c1_0:List UInt8) (f_c1_1 f_c1_2:Int) (k0:Bool→Option R):Option R :=
 fH N s f_c0_0 f_c0_1 f_c0_2 f_c0_3 f_c0_4 f_c0_5 f_c1_0 f_c1_1 f_c1_2 (fun r1 =>
 k0 (decide (r1 ≥ 0)))
def qH (N:Nat):FD E0:={ f:=76,fn:=Tryz.f76,q:=⟨[.t .chan,.fn 77 [.p 0 0 0,.p 1 0 0]],[z21,.bx [.st,.i .i64,.i .i64]]⟩,g:=[sT N] }
def qI (N:Nat):OC E0:=⟨_,FD.ctq e0 (qH N) N (fun R k a b c d e g h i j l=>dU N a b c d e g h i j l (oQ ⟨.b,[],[]⟩ k))⟩
def eD (N:Nat) (v_10:List af) (v_11 c_13:Int) (c_14:List Chart) (c_15:List Inst) (c_16:List ai) (c_17:List Cert) (x_20 x_21:List UInt8) (x_22 x_23 x_24 x_25:Int) (kp0:Int→Int→Option R) (rec:Int→Int→Int→Option R) (v_12 c_18 c_19:Int):Option R :=
 if (decide (v_12 < v_11)) = true then
 ((at? v_10 v_12).bind fun e26 =>
 dU N c_16 x_20 x_21 x_22 x_23 x_24 x_25 e26.Name e26.N e26.At (fun r27 =>
 ae N r27 7 x_25 c_13 c_14 c_15 c_16 c_17 c_18 c_19 (fun r28 r29 =>
 rec (IntKind.wrap .i64 (v_12 + 1)) r28 r29)))
 else
 (kp0 c_18 c_19)
def cy (N:Nat) (v_10:List af) (v_11 c_13:Int) (c_14:List Chart) (c_15:List Inst) (c_16:List ai) (c_17:List Cert) (x_20 x_21:List UInt8) (x_22 x_23 x_24 x_25:Int) (kp0:Int→Int→Option R):Nat→Int→Int→Int→Option R
 | 0=>fun _ _ _=>none
 | n + 1=>fun v_12 c_18 c_19=>eD N v_10 v_11 c_13 c_14 c_15 c_16 c_17 x_20 x_21 x_22 x_23 x_24 x_25 kp0 (cy N v_10 v_11 c_13 c_14 c_15 c_16 c_17 x_20 x_21 x_22 x_23 x_24 x_25 kp0 n) v_12 c_18 c_19
def iE (N:Nat) (Name Chart_:List UInt8) (Quantum Ext Prio At Age:Int) (Charts:List Chart) (Insts:List Inst) (Chans:List ai) (Certs:List Cert) (Code At_2:Int) (k0:Int→Int→Option R):Option R :=
 bw N Name Age Charts Insts Chans Certs Code At_2 (fun r1 r2 r3 r4 r5 r6 r7 r8 r9 =>
 cy N r5 ((r5.length:Nat):Int) Age Charts Insts Chans Certs Name Chart_ Quantum Ext Prio At (fun y30 y31 =>
 k0 y30 y31) N 0 Code At_2)
def vK (N:Nat):FD E0:={ f:=35,fn:=Tryz.f35,q:=⟨[.p 0 0 0,y14],[z34]⟩,loops:=[{ cur:=0,live:=[0,3,17,18,19],out:=fun | .exit 0=>([],[]) | _=>([],[]),q:=⟨[.p 0 0 0,.p 1 0 0,.t .named,.i .i64,.i .i64],[z34,z21]⟩,G:=fun R K n a b c d e g h i j l m o p q s t=>cy N a b d e g h i m o p q s t (pK ⟨[],[z34]⟩ (K (.exit 0)) d e g h i) n c j l,B:=fun R K rec a b c d e g h i j l m o p q s t=>eD N a b d e g h i m o p q s t (pK ⟨[],[z34]⟩ (K (.exit 0)) d e g h i) (fun c j l=>rec a b c d e g h i j l m o p q s t) c j l }],g:=[aU N,fE N,qI N] }
def vL (N:Nat):OC E0:=⟨_,FD.ct e0 (vK N) N (fun R k a b c d e g h i j l m o p=>iE N a b c d e g h i j l m o p (oK ⟨.tp [],[z34],[]⟩ k h i j l m))⟩
def EM (N:Nat) (Name Inst_ Req Resp:List UInt8) (Insts Chans:List (List UInt8)) (Cells:List Cell) (At:Int) (k0:Option R):Option R :=
 k0 
def Cr (N:Nat):FD E0:={ f:=37,fn:=Tryz.f37,q:=⟨[y17],[]⟩ }
def uQ (N:Nat):OC E0:=⟨_,FD.ct e0 (Cr N) N (fun R k a b c d e g h i=>EM N a b c d e g h i (oK ⟨.st,[],[]⟩ k a))⟩
def Bo (N:Nat) (Name Inst_ Req Resp:List UInt8) (Insts Chans:List (List UInt8)) (Cells:List Cell) (At:Int) (a2_0:List UInt8) (k0:Bool→Option R):Option R :=
 k0 (Name == a2_0)
def zi (N:Nat):FD E0:={ f:=135,fn:=Tryz.f135,q:=⟨[y17,.p 0 0 0,.p 1 0 0],[.bx [.fn 37 []],.bx [.st]]⟩,g:=[uQ N] }
def zj (N:Nat):OC E0:=⟨_,FD.ctq e0 (zi N) N (fun R k a b c d e g h i j=>Bo N a b c d e g h i j (oQ ⟨.b,[],[]⟩ k))⟩
def dV (N:Nat) (s_1:List Cert) (v_2:Int) (f_4:List UInt8) (kp0:Option R) (kp1:Int→Option R) (rec:Int→Option R) (v_3:Int):Option R :=
 if (decide (v_3 < v_2)) = true then
 ((at? s_1 v_3).bind fun e5 =>
 if (e5.Name == f_4) = true then
 (kp1 v_3)
 else
 (rec (IntKind.wrap .i64 (v_3 + 1))))
 else
 (kp0 )
def cj (N:Nat) (s_1:List Cert) (v_2:Int) (f_4:List UInt8) (kp0:Option R) (kp1:Int→Option R):Nat→Int→Option R
 | 0=>fun _=>none
 | n + 1=>fun v_3=>dV N s_1 v_2 f_4 kp0 kp1 (cj N s_1 v_2 f_4 kp0 kp1 n) v_3
def gZ (N:Nat) (s:List Cert) (f_c1_0:List UInt8) (k0:Int→Option R):Option R :=
 cj N s ((s.length:Nat):Int) f_c1_0 (k0 (-1))
 (fun y6 =>
 k0 y6) N 0
def uR (N:Nat):FD E0:={ f:=134,fn:=Tryz.f134,q:=⟨[.t .cert,.fn 135 [.p 0 0 0,.p 1 0 0]],[.bx [.fn 37 []],.bx [.st]]⟩,loops:=[{ cur:=0,live:=[0,1,7,8],out:=fun | .exit 0=>([],[]) | .ret=>([4],[]) | _=>([],[]),q:=⟨[.t .cert,.fn 135 [.p 0 0 0,.p 1 0 0],.i .i64,.i .i64],[.bx [.fn 37 []],.bx [.st]]⟩,G:=fun R K n a b c d=>cj N a b d (pK ⟨[],[.bx [.fn 37 []],.bx [.st]]⟩ (K (.exit 0)) d) (fun e=>pK ⟨[.i .i64],[.bx [.fn 37 []],.bx [.st]]⟩ (K .ret) e d) n c,B:=fun R K rec a b c d=>dV N a b d (pK ⟨[],[.bx [.fn 37 []],.bx [.st]]⟩ (K (.exit 0)) d) (fun e=>pK ⟨[.i .i64],[.bx [.fn 37 []],.bx [.st]]⟩ (K .ret) e d) (fun c=>rec a b c d) c }],g:=[zj N] }
def uS (N:Nat):OC E0:=⟨_,FD.ctq e0 (uR N) N (fun R k a b=>gZ N a b (oQ ⟨.i .i64,[],[]⟩ k))⟩
def qJ (N:Nat) (l:List Cert) (s:List UInt8) (k0:Int→Option R):Option R :=
 gZ N l s (fun r1 =>
 k0 r1)
def Bp (N:Nat):FD E0:={ f:=78,fn:=Tryz.f78,q:=⟨[.t .cert,.st,.fn 37 []],[]⟩,g:=[uS N] }
def Bq (N:Nat):OC E0:=⟨_,FD.ct e0 (Bp N) N (fun R k a b=>qJ N a b (oK ⟨.i .i64,[],[]⟩ k))⟩
def lK (N:Nat) (l:List Cert) (Name Inst_ Req Resp:List UInt8) (Insts Chans:List (List UInt8)) (Cells:List Cell) (At:Int) (k0:Bool→Option R):Option R :=
 qJ N l Name (fun r1 =>
 k0 (decide (r1 ≥ 0)))
def Ad (N:Nat):FD E0:={ f:=36,fn:=Tryz.f36,q:=⟨[.t .cert,y17,.fn 37 []],[]⟩,g:=[uQ N,Bq N] }
def Ae (N:Nat):OC E0:=⟨_,FD.ct e0 (Ad N) N (fun R k a b c d e g h i j=>lK N a b c d e g h i j (oK ⟨.b,[],[]⟩ k))⟩
def eR (N:Nat) (s_1:List (List UInt8)) (v_2:List UInt8) (v_3:Int) (kp0:Option R) (kp1:Int→Option R) (rec:Int→Option R) (v_4:Int):Option R :=
 if (decide (v_4 < v_3)) = true then
 ((at? s_1 v_4).bind fun e5 =>
 if (v_2 == e5) = true then
 (kp1 v_4)
 else
 (rec (IntKind.wrap .i64 (v_4 + 1))))
 else
 (kp0 )
def cI (N:Nat) (s_1:List (List UInt8)) (v_2:List UInt8) (v_3:Int) (kp0:Option R) (kp1:Int→Option R):Nat→Int→Option R
 | 0=>fun _=>none
 | n + 1=>fun v_4=>eR N s_1 v_2 v_3 kp0 kp1 (cI N s_1 v_2 v_3 kp0 kp1 n) v_4
def ja (N:Nat) (s:List (List UInt8)) (v:List UInt8) (k0:Int→Option R):Option R :=
 cI N s v ((s.length:Nat):Int) (k0 (-1))
 (fun y6 =>
 k0 y6) N 0
def wW (N:Nat):FD E0:={ f:=136,fn:=Tryz.f136,q:=⟨[.t .str,.st],[]⟩,loops:=[{ cur:=0,live:=[0,1,7,8],out:=fun | .exit 0=>([],[]) | .ret=>([4],[]) | _=>([],[]),q:=⟨[.t .str,.st,.i .i64,.i .i64],[]⟩,G:=fun R K n a b c d=>cI N a b c (pK ⟨[],[]⟩ (K (.exit 0))) (pK ⟨[.i .i64],[]⟩ (K .ret)) n d,B:=fun R K rec a b c d=>eR N a b c (pK ⟨[],[]⟩ (K (.exit 0))) (pK ⟨[.i .i64],[]⟩ (K .ret)) (rec a b c) d }] }
def wX (N:Nat):OC E0:=⟨_,FD.ct e0 (wW N) N (fun R k a b=>ja N a b (oK ⟨.i .i64,[],[]⟩ k))⟩
def bq (N:Nat) (s:List (List UInt8)) (v:List UInt8) (k0:Bool→Option R):Option R :=
 ja N s v (fun r1 =>
 k0 (decide (r1 ≥ 0)))
def uc (N:Nat):FD E0:={ f:=79,fn:=Tryz.f79,q:=⟨[.t .str,.st],[]⟩,g:=[wX N] }
def mK (N:Nat):OC E0:=⟨_,FD.ct e0 (uc N) N (fun R k a b=>bq N a b (oK ⟨.b,[],[]⟩ k))⟩
structure dc where
 sound_flat:(R:Type)→(List State)→((List State)→Option R)→Option R
def Br:Pat S:=⟨[.t .state],[]⟩
def vM (F:dc):Ct S:=⟨81,Br,fun R k a=>F.sound_flat R a (oK ⟨.t .state,[],[]⟩ k)⟩
structure ow (F:dc):Prop where
 sound_flat:(vM F).ok E0
def mY (F:dc) (N:Nat) (v_6:List State) (v_7:Int) (kp0:(List State)→Option R) (rec:Int→(List State)→Option R) (v_8:Int) (out_9:List State):Option R :=
 if (decide (v_8 < v_7)) = true then
 ((at? v_6 v_8).bind fun e10 =>
 if out_9.length + [(⟨e10.Kind,e10.Name,e10.Entry,e10.Exit,e10.Trans,e10.Kids,e10.At⟩:State)].length ≤ ak then (F.sound_flat _ e10.Kids (fun r11 =>
 if (out_9 ++ [(⟨e10.Kind,e10.Name,e10.Entry,e10.Exit,e10.Trans,e10.Kids,e10.At⟩:State)]).length + r11.length ≤ ak then (rec (IntKind.wrap .i64 (v_8 + 1)) ((out_9 ++ [(⟨e10.Kind,e10.Name,e10.Entry,e10.Exit,e10.Trans,e10.Kids,e10.At⟩:State)]) ++ r11)) else none)) else none)
 else
 (kp0 out_9)
def kq (F:dc) (N:Nat) (v_6:List State) (v_7:Int) (kp0:(List State)→Option R):Nat→Int→(List State)→Option R
 | 0=>fun _ _=>none
 | n + 1=>fun v_8 out_9=>mY F N v_6 v_7 kp0 (kq F N v_6 v_7 kp0 n) v_8 out_9
def ox (F:dc) (N:Nat) (l:List State) (k0:(List State)→Option R):Option R :=
 kq F N l ((l.length:Nat):Int) (fun y12 =>
 k0 y12) N 0 ([]:List State)
def vN (F:dc) (hF:ow F) (N:Nat):FD E0:={ f:=81,fn:=Tryz.f81,q:=Br,loops:=[{ cur:=0,live:=[3,6,7,8],fix:=[(⟨3,[]⟩,.row .state .app)],out:=fun | .exit 0=>([3],[]) | _=>([],[]),q:=⟨[.sw 0,.t .state,.i .i64,.i .i64],[.rw .state .app]⟩,G:=fun R K n a b c d=>kq F N a b (pK ⟨[.sw 0],[.rw .state .app]⟩ (K (.exit 0))) n c d,B:=fun R K rec a b c d=>mY F N a b (pK ⟨[.sw 0],[.rw .state .app]⟩ (K (.exit 0))) (rec a b) c d }],g:=[⟨vM F,hF.sound_flat⟩],exit:=[(⟨2,[]⟩,.tree .state)] }
theorem EN (F:dc) (hF:ow F) (N:Nat):Ct.ok E0 ⟨(vN F hF N).f,(vN F hF N).q,fun R k a=>ox F N a (oK ⟨.t .state,[],[]⟩ k)⟩:=FD.ct e0 (vN F hF N) N (fun R k a=>ox F N a (oK ⟨.t .state,[],[]⟩ k))
def zk (F:dc) (N:Nat):dc where
 sound_flat:=fun R l k0=>ox F N l k0
def cR (N:Nat):Nat→dc
 | 0=>{ sound_flat:=fun _ _ _=>none }
 | d + 1=>zk (cR N d) N
theorem qp (N:Nat):∀ d,ow (cR N d)
 | 0=>{ sound_flat:=Ct.ok_none }
 | d + 1=>{ sound_flat:=EN _ (qp N d) N }
def sound_flat (N:Nat) (l:List State) (k0:(List State)→Option R):Option R:=(cR N N).sound_flat R l k0
theorem FP (N d:Nat) (l:List State) (k0:(List State)→Option R):(cR N (d + 1)).sound_flat R l k0 = ox (cR N d) N l k0:=rfl
def HA (N:Nat):OC E0:=⟨vM (cR N N),(qp N N).sound_flat⟩
def cT (N:Nat) (s_1:List State) (v_2:Int) (kp0:Option R) (kp1:Int→Option R) (rec:Int→Option R) (v_3:Int):Option R :=
 if (decide (v_3 < v_2)) = true then
 ((at? s_1 v_3).bind fun e4 =>
 dF N e4.Kind e4.Name e4.Entry e4.Exit e4.Trans e4.Kids e4.At (fun r5 =>
 if r5 = true then
 (kp1 v_3)
 else
 (rec (IntKind.wrap .i64 (v_3 + 1)))))
 else
 (kp0 )
def bK (N:Nat) (s_1:List State) (v_2:Int) (kp0:Option R) (kp1:Int→Option R):Nat→Int→Option R
 | 0=>fun _=>none
 | n + 1=>fun v_3=>cT N s_1 v_2 kp0 kp1 (bK N s_1 v_2 kp0 kp1 n) v_3
def eS (N:Nat) (s:List State) (k0:Int→Option R):Option R :=
 bK N s ((s.length:Nat):Int) (k0 (-1))
 (fun y6 =>
 k0 y6) N 0
def sc (N:Nat):FD E0:={ f:=137,fn:=Tryz.f137,q:=⟨[.t .state,.fn 65 []],[]⟩,loops:=[{ cur:=0,live:=[0,1,7,8],out:=fun | .exit 0=>([],[]) | .ret=>([4],[]) | _=>([],[]),q:=⟨[.t .state,.fn 65 [],.i .i64,.i .i64],[]⟩,G:=fun R K n a b c=>bK N a b (pK ⟨[],[]⟩ (K (.exit 0))) (pK ⟨[.i .i64],[]⟩ (K .ret)) n c,B:=fun R K rec a b c=>cT N a b (pK ⟨[],[]⟩ (K (.exit 0))) (pK ⟨[.i .i64],[]⟩ (K .ret)) (rec a b) c }],g:=[ik N] }
def se (N:Nat):OC E0:=⟨_,FD.ct e0 (sc N) N (fun R k a=>eS N a (oK ⟨.i .i64,[],[]⟩ k))⟩
def dD (N:Nat) (s:List State) (k0:Bool→Option R):Option R :=
 eS N s (fun r1 =>
 k0 (decide (r1 ≥ 0)))
def qq (N:Nat):FD E0:={ f:=80,fn:=Tryz.f80,q:=⟨[.t .state,.fn 65 []],[]⟩,g:=[se N] }
def qt (N:Nat):OC E0:=⟨_,FD.ct e0 (qq N) N (fun R k a=>dD N a (oK ⟨.b,[],[]⟩ k))⟩
def cU (N:Nat) (s_1:List State) (v_2:Int) (f_4:List UInt8) (kp0:Option R) (kp1:Int→Option R) (rec:Int→Option R) (v_3:Int):Option R :=
 if (decide (v_3 < v_2)) = true then
 ((at? s_1 v_3).bind fun e5 =>
 if (e5.Name == f_4) = true then
 (kp1 v_3)
 else
 (rec (IntKind.wrap .i64 (v_3 + 1))))
 else
 (kp0 )
def bL (N:Nat) (s_1:List State) (v_2:Int) (f_4:List UInt8) (kp0:Option R) (kp1:Int→Option R):Nat→Int→Option R
 | 0=>fun _=>none
 | n + 1=>fun v_3=>cU N s_1 v_2 f_4 kp0 kp1 (bL N s_1 v_2 f_4 kp0 kp1 n) v_3
def eT (N:Nat) (s:List State) (f_c1_0:List UInt8) (k0:Int→Option R):Option R :=
 bL N s ((s.length:Nat):Int) f_c1_0 (k0 (-1))
 (fun y6 =>
 k0 y6) N 0
def sf (N:Nat):FD E0:={ f:=137,fn:=Tryz.f137,q:=⟨[.t .state,.fn 138 [.p 0 0 0,.p 1 0 0]],[.bx [.fn 84 []],.bx [.st]]⟩,loops:=[{ cur:=0,live:=[0,1,7,8],out:=fun | .exit 0=>([],[]) | .ret=>([4],[]) | _=>([],[]),q:=⟨[.t .state,.fn 138 [.p 0 0 0,.p 1 0 0],.i .i64,.i .i64],[.bx [.fn 84 []],.bx [.st]]⟩,G:=fun R K n a b c d=>bL N a b d (pK ⟨[],[.bx [.fn 84 []],.bx [.st]]⟩ (K (.exit 0)) d) (fun e=>pK ⟨[.i .i64],[.bx [.fn 84 []],.bx [.st]]⟩ (K .ret) e d) n c,B:=fun R K rec a b c d=>cU N a b d (pK ⟨[],[.bx [.fn 84 []],.bx [.st]]⟩ (K (.exit 0)) d) (fun e=>pK ⟨[.i .i64],[.bx [.fn 84 []],.bx [.st]]⟩ (K .ret) e d) (fun c=>rec a b c d) c }],g:=[qi N] }
def sg (N:Nat):OC E0:=⟨_,FD.ctq e0 (sf N) N (fun R k a b=>eT N a b (oQ ⟨.i .i64,[],[]⟩ k))⟩
def nB (N:Nat) (l:List State) (s:List UInt8) (k0:Int→Option R):Option R :=
 eT N l s (fun r1 =>
 k0 r1)
def xR (N:Nat):FD E0:={ f:=83,fn:=Tryz.f83,q:=⟨[.t .state,.st,.fn 84 []],[]⟩,g:=[sg N] }
def xS (N:Nat):OC E0:=⟨_,FD.ct e0 (xR N) N (fun R k a b=>nB N a b (oK ⟨.i .i64,[],[]⟩ k))⟩
def iF (N:Nat) (name:List UInt8) (a1_0:List State) (k0:Bool→Option R):Option R :=
 nB N a1_0 name (fun r1 =>
 k0 (decide (r1 ≥ 0)))
def vO (N:Nat):FD E0:={ f:=82,fn:=Tryz.f82,q:=⟨[.st,.p 0 0 0],[.bx [.t .state]]⟩,g:=[xS N] }
def vP (N:Nat):OC E0:=⟨_,FD.ctq e0 (vO N) N (fun R k a b=>iF N a b (oQ ⟨.b,[],[]⟩ k))⟩
structure ck where
 sound_has:(R:Type)→Int→(List UInt8)→(List Act)→(List Act)→(List Trans)→(List State)→Int→(List (List UInt8))→(Int→Option R)→Option R
def CP:Pat S:=⟨[y2,.t .str],[]⟩
def xT (F:ck):Ct S:=⟨186,CP,fun R k a b c d e g h i=>F.sound_has R a b c d e g h i (oK ⟨.i .i64,[],[]⟩ k)⟩
structure pz (F:ck):Prop where
 sound_has:(xT F).ok E0
def oy (F:ck) (N:Nat) (set_1 v_3:List (List UInt8)) (v_4 s_6:Int) (s_7:List UInt8) (s_8 s_9:List Act) (s_10:List Trans) (s_11:List State) (s_12:Int) (kp0:Int→Option R) (rec:Int→Int→Option R) (n_2 v_5:Int):Option R :=
 if (decide (v_5 < v_4)) = true then
 ((at? v_3 v_5).bind fun e13 =>
 if (e13 == s_7) = true then
 (rec (IntKind.wrap .i64 (n_2 + 1)) (IntKind.wrap .i64 (v_5 + 1)))
 else
 (rec n_2 (IntKind.wrap .i64 (v_5 + 1))))
 else
 (kp0 n_2)
def lL (F:ck) (N:Nat) (set_1 v_3:List (List UInt8)) (v_4 s_6:Int) (s_7:List UInt8) (s_8 s_9:List Act) (s_10:List Trans) (s_11:List State) (s_12:Int) (kp0:Int→Option R):Nat→Int→Int→Option R
 | 0=>fun _ _=>none
 | n + 1=>fun n_2 v_5=>oy F N set_1 v_3 v_4 s_6 s_7 s_8 s_9 s_10 s_11 s_12 kp0 (lL F N set_1 v_3 v_4 s_6 s_7 s_8 s_9 s_10 s_11 s_12 kp0 n) n_2 v_5
def oz (F:ck) (N:Nat) (set_24:List (List UInt8)) (v_26:List State) (v_27:Int) (kp0:Int→Option R) (rec:Int→Int→Option R) (n_25 v_28:Int):Option R :=
 if (decide (v_28 < v_27)) = true then
 ((at? v_26 v_28).bind fun e29 =>
 F.sound_has _ e29.Kind e29.Name e29.Entry e29.Exit e29.Trans e29.Kids e29.At set_24 (fun r30 =>
 rec (IntKind.wrap .i64 (n_25 + r30)) (IntKind.wrap .i64 (v_28 + 1))))
 else
 (kp0 n_25)
def lM (F:ck) (N:Nat) (set_24:List (List UInt8)) (v_26:List State) (v_27:Int) (kp0:Int→Option R):Nat→Int→Int→Option R
 | 0=>fun _ _=>none
 | n + 1=>fun n_25 v_28=>oz F N set_24 v_26 v_27 kp0 (lM F N set_24 v_26 v_27 kp0 n) n_25 v_28
def jJ (F:ck) (N:Nat) (set_15:List (List UInt8)) (n_16 s_17:Int) (s_18:List UInt8) (s_19 s_20:List Act) (s_21:List Trans) (s_22:List State) (s_23:Int) (kp0:Int→Option R):Option R :=
 lM F N set_15 s_22 ((s_22.length:Nat):Int) (fun y31 =>
 kp0 y31) N n_16 0
def qu (F:ck) (N:Nat) (Kind:Int) (Name:List UInt8) (Entry Exit:List Act) (Trans_:List Trans) (Kids:List State) (At:Int) (set_:List (List UInt8)) (k0:Int→Option R):Option R :=
 if (((Kids.length:Nat):Int) == 0) = true then
 (lL F N set_ set_ ((set_.length:Nat):Int) Kind Name Entry Exit Trans_ Kids At (fun y14 =>
 jJ F N set_ y14 Kind Name Entry Exit Trans_ Kids At (fun y32 =>
 k0 y32)) N 0 0)
 else
 (jJ F N set_ 0 Kind Name Entry Exit Trans_ Kids At (fun y33 =>
 k0 y33))
def xU (F:ck) (hF:pz F) (N:Nat):FD E0:={ f:=186,fn:=Tryz.f186,q:=CP,loops:=[{ cur:=0,live:=[1,2,5,14,15,16],out:=fun | .exit 0=>([1,2,5],[]) | _=>([],[]),q:=⟨[.t .str,.p 0 0 0,.i .i64,.t .str,.i .i64,.i .i64],[z35]⟩,G:=fun R K n a b c d e g h i j l m o=>lL F N a c d g h i j l m o (fun p=>pK ⟨[.t .str,.p 0 0 0,.i .i64],[z35]⟩ (K (.exit 0)) a p g h i j l m o) n b e,B:=fun R K rec a b c d e g h i j l m o=>oy F N a c d g h i j l m o (fun p=>pK ⟨[.t .str,.p 0 0 0,.i .i64],[z35]⟩ (K (.exit 0)) a p g h i j l m o) (fun b e=>rec a b c d e g h i j l m o) b e },{ cur:=2,live:=[1,5,28,29,30],out:=fun | .exit 2=>([5],[]) | _=>([],[]),q:=⟨[.t .str,.i .i64,.t .state,.i .i64,.i .i64],[]⟩,G:=fun R K n a b c d e=>lM F N a c d (pK ⟨[.i .i64],[]⟩ (K (.exit 2))) n b e,B:=fun R K rec a b c d e=>oz F N a c d (pK ⟨[.i .i64],[]⟩ (K (.exit 2))) (fun b e=>rec a b c d e) b e }],cuts:=[{ key:=9,live:=[1,2,5],out:=fun | .ret=>([4],[]) | _=>([],[]),q:=⟨[.t .str,.p 0 0 0,.i .i64],[z35]⟩,G:=fun R K a b c d e g h i j=>jJ F N a b c d e g h i j (pK ⟨[.i .i64],[]⟩ (K .ret)) }],g:=[⟨xT F,hF.sound_has⟩] }
theorem FQ (F:ck) (hF:pz F) (N:Nat):Ct.ok E0 ⟨(xU F hF N).f,(xU F hF N).q,fun R k a b c d e g h i=>qu F N a b c d e g h i (oK ⟨.i .i64,[],[]⟩ k)⟩:=FD.ct e0 (xU F hF N) N (fun R k a b c d e g h i=>qu F N a b c d e g h i (oK ⟨.i .i64,[],[]⟩ k))
def Af (F:ck) (N:Nat):ck where
 sound_has:=fun R Kind Name Entry Exit Trans_ Kids At set_ k0=>qu F N Kind Name Entry Exit Trans_ Kids At set_ k0
def bF (N:Nat):Nat→ck
 | 0=>{ sound_has:=fun _ _ _ _ _ _ _ _ _ _=>none }
 | d + 1=>Af (bF N d) N
theorem qR (N:Nat):∀ d,pz (bF N d)
 | 0=>{ sound_has:=Ct.ok_none }
 | d + 1=>{ sound_has:=FQ _ (qR N d) N }
def sound_has (N:Nat) (Kind:Int) (Name:List UInt8) (Entry Exit:List Act) (Trans_:List Trans) (Kids:List State) (At:Int) (set_:List (List UInt8)) (k0:Int→Option R):Option R:=(bF N N).sound_has R Kind Name Entry Exit Trans_ Kids At set_ k0
theorem HB (N d:Nat) (Kind:Int) (Name:List UInt8) (Entry Exit:List Act) (Trans_:List Trans) (Kids:List State) (At:Int) (set_:List (List UInt8)) (k0:Int→Option R):(bF N (d + 1)).sound_has R Kind Name Entry Exit Trans_ Kids At set_ k0 = qu (bF N d) N Kind Name Entry Exit Trans_ Kids At set_ k0:=rfl
def IV (N:Nat):OC E0:=⟨xT (bF N N),(qR N N).sound_has⟩
structure cm where
 sound_active:(R:Type)→(List State)→Bool→(List (List UInt8))→(Int→Bool→Option R)→Option R
def xV:Pat S:=⟨[.t .state,.b,.t .str],[]⟩
def sj (F:cm):Ct S:=⟨167,xV,fun R k a b c=>F.sound_active R a b c (oK ⟨.tp [.i .i64,.b],[],[]⟩ k)⟩
structure mw (F:cm):Prop where
 sound_active:(sj F).ok E0
def kO (F:cm) (N:Nat) (all_1:Bool) (set_2:List (List UInt8)) (v_5:List State) (v_6:Int) (kp0:Int→Int→Option R) (kp1:Int→Bool→Option R) (rec:Int→Int→Int→Option R) (sum_3 some_4 v_7:Int):Option R :=
 if (decide (v_7 < v_6)) = true then
 ((at? v_5 v_7).bind fun e8 =>
 sound_has N e8.Kind e8.Name e8.Entry e8.Exit e8.Trans e8.Kids e8.At set_2 (fun r9 =>
 (ifB (r9 == 0) true (some (!all_1)) (some false)).bind fun c10 =>
 if c10 = true then
 (rec sum_3 some_4 (IntKind.wrap .i64 (v_7 + 1)))
 else
 (if (((e8.Kids.length:Nat):Int) == 0) = true then
 (if (r9 != 1) = true then
 (kp1 0 false)
 else
 (rec (IntKind.wrap .i64 (sum_3 + r9)) (IntKind.wrap .i64 (some_4 + 1)) (IntKind.wrap .i64 (v_7 + 1))))
 else
 (F.sound_active _ e8.Kids (e8.Kind == 2) set_2 (fun r11 r12 =>
 if (!r12) = true then
 (kp1 0 false)
 else
 (rec (IntKind.wrap .i64 (sum_3 + r9)) (IntKind.wrap .i64 (some_4 + 1)) (IntKind.wrap .i64 (v_7 + 1))))))))
 else
 (kp0 sum_3 some_4)
def fR (F:cm) (N:Nat) (all_1:Bool) (set_2:List (List UInt8)) (v_5:List State) (v_6:Int) (kp0:Int→Int→Option R) (kp1:Int→Bool→Option R):Nat→Int→Int→Int→Option R
 | 0=>fun _ _ _=>none
 | n + 1=>fun sum_3 some_4 v_7=>kO F N all_1 set_2 v_5 v_6 kp0 kp1 (fR F N all_1 set_2 v_5 v_6 kp0 kp1 n) sum_3 some_4 v_7
def lj (F:cm) (N:Nat) (l:List State) (all:Bool) (set_:List (List UInt8)) (k0:Int→Bool→Option R):Option R :=
 fR F N all set_ l ((l.length:Nat):Int) (fun y13 y14 =>
 (ifB all false (some (y14 == 1)) (some true)).bind fun c17 =>
 k0 y13 c17)
 (fun y15 y16 =>
 k0 y15 y16) N 0 0 0
def sm (F:cm) (hF:mw F) (N:Nat):FD E0:={ f:=167,fn:=Tryz.f167,q:=xV,loops:=[{ cur:=0,live:=[1,2,8,9,15,16,17],out:=fun | .exit 0=>([1,8,9],[]) | .ret=>([6,7],[]) | _=>([],[]),q:=⟨[.b,.t .str,.i .i64,.i .i64,.t .state,.i .i64,.i .i64],[]⟩,G:=fun R K n a b c d e g h=>fR F N a b e g (pK ⟨[.b,.i .i64,.i .i64],[]⟩ (K (.exit 0)) a) (pK ⟨[.i .i64,.b],[]⟩ (K .ret)) n c d h,B:=fun R K rec a b c d e g h=>kO F N a b e g (pK ⟨[.b,.i .i64,.i .i64],[]⟩ (K (.exit 0)) a) (pK ⟨[.i .i64,.b],[]⟩ (K .ret)) (fun c d h=>rec a b c d e g h) c d h }],g:=[⟨sj F,hF.sound_active⟩,IV N] }
theorem Cu (F:cm) (hF:mw F) (N:Nat):Ct.ok E0 ⟨(sm F hF N).f,(sm F hF N).q,fun R k a b c=>lj F N a b c (oK ⟨.tp [.i .i64,.b],[],[]⟩ k)⟩:=FD.ct e0 (sm F hF N) N (fun R k a b c=>lj F N a b c (oK ⟨.tp [.i .i64,.b],[],[]⟩ k))
def wY (F:cm) (N:Nat):cm where
 sound_active:=fun R l all set_ k0=>lj F N l all set_ k0
def bQ (N:Nat):Nat→cm
 | 0=>{ sound_active:=fun _ _ _ _ _=>none }
 | d + 1=>wY (bQ N d) N
theorem oA (N:Nat):∀ d,mw (bQ N d)
 | 0=>{ sound_active:=Ct.ok_none }
 | d + 1=>{ sound_active:=Cu _ (oA N d) N }
def sound_active (N:Nat) (l:List State) (all:Bool) (set_:List (List UInt8)) (k0:Int→Bool→Option R):Option R:=(bQ N N).sound_active R l all set_ k0
theorem Dw (N d:Nat) (l:List State) (all:Bool) (set_:List (List UInt8)) (k0:Int→Bool→Option R):(bQ N (d + 1)).sound_active R l all set_ k0 = lj (bQ N d) N l all set_ k0:=rfl
def EO (N:Nat):OC E0:=⟨sj (bQ N N),(oA N N).sound_active⟩
def rf (N:Nat) (l:List State) (set_:List (List UInt8)) (k0:Bool→Option R):Option R :=
 sound_active N l false set_ (fun r1 r2 =>
 (ifB r2 true (some (r1 == ((set_.length:Nat):Int))) (some false)).bind fun c3 =>
 k0 c3)
def EP (N:Nat):FD E0:={ f:=140,fn:=Tryz.f140,q:=⟨[.t .state,.t .str],[]⟩,g:=[EO N] }
def ER (N:Nat):OC E0:=⟨_,FD.ct e0 (EP N) N (fun R k a b=>rf N a b (oK ⟨.b,[],[]⟩ k))⟩
def z36:ShO S:=.bx [.st,.st,.st,.st,.t .str,.t .str,.t .cell,.i .i64]
def z37:ShO S:=.bx [.i .i64,.t .strs,.t .strs,.i .i64]
end
end So
