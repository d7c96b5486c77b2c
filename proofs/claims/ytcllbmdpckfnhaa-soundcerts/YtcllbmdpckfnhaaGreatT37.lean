/- T3_7: a part of the proof of SoundCerts: lemmas on the evaluator and on the functions that the law reaches. -/
import Derived.Test.YtcllbmdpckfnhaaGreatT36
set_option maxRecDepth 100000
set_option linter.unusedVariables false
namespace So
open Go TE Go.Proofs
noncomputable section
variable {R:Type}
def vU (N:Nat) (i_25:Int) (v_26:Bool) (s_27:Int) (s_28:List Chart) (s_29:List Inst) (s_30:List ai) (s_31:List Cert) (v_32 v_33:Int) (x_34 x_35 x_36 x_37:List UInt8) (x_38 x_39 x_40:Int) (kp0:Int→Option R) (kp1:Option R):Option R :=
 if v_26 = true then
 (kp0 7)
 else
 (yh N s_27 s_28 s_29 s_30 s_31 i_25 x_35 x_36 (fun r41 =>
 if r41 = true then
 (kp0 8)
 else
 ((ifB (decide (x_38 < 1)) false (some (decide (x_38 > 32))) (some true)).bind fun c42 =>
 (ifB c42 false (some (decide (x_39 < 0))) (some true)).bind fun c43 =>
 (ifB c43 false (some (decide (x_39 > 7))) (some true)).bind fun c44 =>
 if c44 = true then
 (kp0 16)
 else
 (kp1 ))))
def oI (N:Nat) (s_2:Int) (s_3:List Chart) (s_4:List Inst) (s_5:List ai) (s_6:List Cert) (v_7 v_8:Int) (kp0:Option R) (kp1:Int→Int→Option R) (rec:Int→Option R) (i_1:Int):Option R :=
 if (decide (i_1 < ((s_5.length:Nat):Int))) = true then
 ((at? s_5 i_1).bind fun e9 =>
 uY N s_2 s_3 s_4 s_5 s_6 e9.Name (fun r10 =>
 if (decide (r10 < i_1)) = true then
 (kp1 8 e9.At)
 else
 (qy N s_2 s_3 s_4 s_5 s_6 e9.From (fun r11 =>
 (ifB (decide (r11 < 0)) false (qN N s_2 s_3 s_4 s_5 s_6 e9.From (fun r12 r13 r14 r15 r16 r17 r18 r19 =>
 jk N r16 (fun r20 =>
 eW N r20 e9.Port (fun r21 =>
 some (!r21))))) (some true)).bind fun c22 =>
 (ifB c22 false (qy N s_2 s_3 s_4 s_5 s_6 e9.To (fun r23 =>
 some (decide (r23 < 0)))) (some true)).bind fun c24 =>
 vU N i_1 c24 s_2 s_3 s_4 s_5 s_6 v_7 v_8 e9.Name e9.From e9.Port e9.To e9.Cap e9.Prio e9.At (fun y45 =>
 kp1 y45 e9.At)
 (rec (IntKind.wrap .i64 (i_1 + 1)))))))
 else
 (kp0 )
def lY (N:Nat) (s_2:Int) (s_3:List Chart) (s_4:List Inst) (s_5:List ai) (s_6:List Cert) (v_7 v_8:Int) (kp0:Option R) (kp1:Int→Int→Option R):Nat→Int→Option R
 | 0=>fun _=>none
 | n + 1=>fun i_1=>oI N s_2 s_3 s_4 s_5 s_6 v_7 v_8 kp0 kp1 (lY N s_2 s_3 s_4 s_5 s_6 v_7 v_8 kp0 kp1 n) i_1
def oJ (N:Nat) (i_66:Int) (p_67:List (List UInt8)) (s_69:Int) (s_70:List Chart) (s_71:List Inst) (s_72:List ai) (s_73:List Cert) (v_74 v_75:Int) (kp0:Option R) (kp1:Int→Int→Option R) (rec:Int→Option R) (k_68:Int):Option R :=
 if (decide (k_68 < ((p_67.length:Nat):Int))) = true then
 ((at? s_71 i_66).bind fun e76 =>
 (at? p_67 k_68).bind fun e77 =>
 yh N s_69 s_70 s_71 s_72 s_73 ((s_72.length:Nat):Int) e76.Name e77 (fun r78 =>
 if (!r78) = true then
 ((at? s_71 i_66).bind fun e79 =>
 kp1 7 e79.At)
 else
 (rec (IntKind.wrap .i64 (k_68 + 1)))))
 else
 (kp0 )
def lZ (N:Nat) (i_66:Int) (p_67:List (List UInt8)) (s_69:Int) (s_70:List Chart) (s_71:List Inst) (s_72:List ai) (s_73:List Cert) (v_74 v_75:Int) (kp0:Option R) (kp1:Int→Int→Option R):Nat→Int→Option R
 | 0=>fun _=>none
 | n + 1=>fun k_68=>oJ N i_66 p_67 s_69 s_70 s_71 s_72 s_73 v_74 v_75 kp0 kp1 (lZ N i_66 p_67 s_69 s_70 s_71 s_72 s_73 v_74 v_75 kp0 kp1 n) k_68
def oL (N:Nat) (s_49:Int) (s_50:List Chart) (s_51:List Inst) (s_52:List ai) (s_53:List Cert) (v_54 v_55:Int) (kp0:Option R) (kp1:Int→Int→Option R) (rec:Int→Option R) (i_48:Int):Option R :=
 if (decide (i_48 < ((s_51.length:Nat):Int))) = true then
 ((at? s_51 i_48).bind fun e56 =>
 qN N s_49 s_50 s_51 s_52 s_53 e56.Name (fun r57 r58 r59 r60 r61 r62 r63 r64 =>
 jk N r61 (fun r65 =>
 lZ N i_48 r65 s_49 s_50 s_51 s_52 s_53 v_54 v_55 (rec (IntKind.wrap .i64 (i_48 + 1)))
 (fun y80 y81 =>
 kp1 y80 y81) N 0)))
 else
 (kp0 )
def iH (N:Nat) (s_49:Int) (s_50:List Chart) (s_51:List Inst) (s_52:List ai) (s_53:List Cert) (v_54 v_55:Int) (kp0:Option R) (kp1:Int→Int→Option R):Nat→Int→Option R
 | 0=>fun _=>none
 | n + 1=>fun i_48=>oL N s_49 s_50 s_51 s_52 s_53 v_54 v_55 kp0 kp1 (iH N s_49 s_50 s_51 s_52 s_53 v_54 v_55 kp0 kp1 n) i_48
def uZ (N:Nat) (Age:Int) (Charts:List Chart) (Insts:List Inst) (Chans:List ai) (Certs:List Cert) (k0:Int→Int→Option R):Option R :=
 lY N Age Charts Insts Chans Certs 0 0 (iH N Age Charts Insts Chans Certs 0 0 (k0 0 0)
 (fun y82 y83 =>
 k0 y82 y83) N 0)
 (fun y46 y47 =>
 k0 y46 y47) N 0
def Je (N:Nat):FD E0:={ f:=42,fn:=Tryz.f42,q:=⟨[y18],[]⟩,loops:=[{ cur:=0,live:=[1,2,3],out:=fun | .exit 0=>([1,2],[]) | .ret=>([2],[]) | _=>([],[]),q:=⟨[.p 0 0 0,.p 1 0 0,.i .i64],[z38,.bx [.i .i64,.i .i64]]⟩,G:=fun R K n a b c d e g h i=>lY N b c d e g h i (pK ⟨[.p 0 0 0,.p 1 0 0],[z38,.bx [.i .i64,.i .i64]]⟩ (K (.exit 0)) b c d e g h i) (pK ⟨[.p 0 0 0],[.bx [.i .i64,.i .i64]]⟩ (K .ret)) n a,B:=fun R K rec a b c d e g h i=>oI N b c d e g h i (pK ⟨[.p 0 0 0,.p 1 0 0],[z38,.bx [.i .i64,.i .i64]]⟩ (K (.exit 0)) b c d e g h i) (pK ⟨[.p 0 0 0],[.bx [.i .i64,.i .i64]]⟩ (K .ret)) (fun a=>rec a b c d e g h i) a },{ cur:=5,live:=[1,2,5,6,7],out:=fun | .exit 5=>([1,2,5],[]) | .ret=>([2],[]) | _=>([],[]),q:=⟨[.p 0 0 0,.p 1 0 0,.i .i64,.t .str,.i .i64],[z38,.bx [.i .i64,.i .i64]]⟩,G:=fun R K n a b c d e g h i j l=>lZ N a b d e g h i j l (pK ⟨[.p 0 0 0,.p 1 0 0,.i .i64],[z38,.bx [.i .i64,.i .i64]]⟩ (K (.exit 5)) a d e g h i j l) (pK ⟨[.p 0 0 0],[.bx [.i .i64,.i .i64]]⟩ (K .ret)) n c,B:=fun R K rec a b c d e g h i j l=>oJ N a b d e g h i j l (pK ⟨[.p 0 0 0,.p 1 0 0,.i .i64],[z38,.bx [.i .i64,.i .i64]]⟩ (K (.exit 5)) a d e g h i j l) (pK ⟨[.p 0 0 0],[.bx [.i .i64,.i .i64]]⟩ (K .ret)) (fun c=>rec a b c d e g h i j l) c },{ cur:=3,live:=[1,2,5],out:=fun | .exit 3=>([2],[]) | .ret=>([2],[]) | _=>([],[]),q:=⟨[.p 0 0 0,.p 1 0 0,.i .i64],[z38,.bx [.i .i64,.i .i64]]⟩,G:=fun R K n a b c d e g h i=>iH N b c d e g h i (pK ⟨[.p 0 0 0],[.bx [.i .i64,.i .i64]]⟩ (K (.exit 3)) h i) (pK ⟨[.p 0 0 0],[.bx [.i .i64,.i .i64]]⟩ (K .ret)) n a,B:=fun R K rec a b c d e g h i=>oL N b c d e g h i (pK ⟨[.p 0 0 0],[.bx [.i .i64,.i .i64]]⟩ (K (.exit 3)) h i) (pK ⟨[.p 0 0 0],[.bx [.i .i64,.i .i64]]⟩ (K .ret)) (fun a=>rec a b c d e g h i) a }],cuts:=[{ key:=8,live:=[1,2,3,4,30],out:=fun | .ret=>([2],[]) | .normal=>([1,2,3],[]) | _=>([],[]),q:=⟨[.p 0 0 0,.p 1 0 0,.i .i64,.p 2 0 0,.b],[z38,.bx [.i .i64,.i .i64],z22]⟩,G:=fun R K a b c d e g h i j l m o p q s t=>vU N a b c d e g h i j l m o p q s t (fun u=>pK ⟨[.p 0 0 0],[.bx [.i .i64,.i .i64]]⟩ (K .ret) u t) (pK ⟨[.p 0 0 0,.p 1 0 0,.i .i64],[z38,.bx [.i .i64,.i .i64]]⟩ (K .normal) a c d e g h i j) }],g:=[ll N,vT N,Ah N,lT N,tD N,ES N,KZ N] }
def Jf (N:Nat):OC E0:=⟨_,FD.ct e0 (Je N) N (fun R k a b c d e=>uZ N a b c d e (oK ⟨.ag [.i .i64,.i .i64],[],[]⟩ k))⟩
structure cD where
 r12_history:(R:Type)→(List State)→(Bool→Option R)→Option R
def zt:Pat S:=⟨[.t .state],[]⟩
def uf (F:cD):Ct S:=⟨148,zt,fun R k a=>F.r12_history R a (oK ⟨.b,[],[]⟩ k)⟩
structure nH (F:cD):Prop where
 r12_history:(uf F).ok E0
def ma (F:cD) (N:Nat) (l_1:List State) (kp0:Option R) (kp1:Bool→Option R) (rec:Int→Option R) (i_2:Int):Option R :=
 if (decide (i_2 < ((l_1.length:Nat):Int))) = true then
 ((at? l_1 i_2).bind fun e3 =>
 iG N e3.Kind e3.Name e3.Entry e3.Exit e3.Trans e3.Kids e3.At (fun r4 =>
 (ifB (!r4) false ((at? l_1 i_2).bind fun e5 =>
 F.r12_history _ e5.Kids (fun r6 =>
 some r6)) (some true)).bind fun c7 =>
 if c7 = true then
 (kp1 true)
 else
 (rec (IntKind.wrap .i64 (i_2 + 1)))))
 else
 (kp0 )
def jn (F:cD) (N:Nat) (l_1:List State) (kp0:Option R) (kp1:Bool→Option R):Nat→Int→Option R
 | 0=>fun _=>none
 | n + 1=>fun i_2=>ma F N l_1 kp0 kp1 (jn F N l_1 kp0 kp1 n) i_2
def mO (F:cD) (N:Nat) (l:List State) (k0:Bool→Option R):Option R :=
 jn F N l (k0 false)
 (fun y8 =>
 k0 y8) N 0
def ug (F:cD) (hF:nH F) (N:Nat):FD E0:={ f:=148,fn:=Tryz.f148,q:=zt,loops:=[{ cur:=0,live:=[0,3],out:=fun | .exit 0=>([],[]) | .ret=>([2],[]) | _=>([],[]),q:=⟨[.t .state,.i .i64],[]⟩,G:=fun R K n a b=>jn F N a (pK ⟨[],[]⟩ (K (.exit 0))) (pK ⟨[.b],[]⟩ (K .ret)) n b,B:=fun R K rec a b=>ma F N a (pK ⟨[],[]⟩ (K (.exit 0))) (pK ⟨[.b],[]⟩ (K .ret)) (rec a) b }],g:=[pM N,⟨uf F,hF.r12_history⟩] }
theorem Dz (F:cD) (hF:nH F) (N:Nat):Ct.ok E0 ⟨(ug F hF N).f,(ug F hF N).q,fun R k a=>mO F N a (oK ⟨.b,[],[]⟩ k)⟩:=FD.ct e0 (ug F hF N) N (fun R k a=>mO F N a (oK ⟨.b,[],[]⟩ k))
def yi (F:cD) (N:Nat):cD where
 r12_history:=fun R l k0=>mO F N l k0
def cA (N:Nat):Nat→cD
 | 0=>{ r12_history:=fun _ _ _=>none }
 | d + 1=>yi (cA N d) N
theorem pd (N:Nat):∀ d,nH (cA N d)
 | 0=>{ r12_history:=Ct.ok_none }
 | d + 1=>{ r12_history:=Dz _ (pd N d) N }
def r12_history (N:Nat) (l:List State) (k0:Bool→Option R):Option R:=(cA N N).r12_history R l k0
theorem ET (N d:Nat) (l:List State) (k0:Bool→Option R):(cA N (d + 1)).r12_history R l k0 = mO (cA N d) N l k0:=rfl
def FW (N:Nat):OC E0:=⟨uf (cA N N),(pd N N).r12_history⟩
def Bw (N:Nat) (Kind:Int) (Name:List UInt8) (Entry Exit:List Act) (Trans_:List Trans) (Kids:List State) (At:Int) (k0:Int→Option R):Option R :=
 if (Kind == 3) = true then
 (k0 4)
 else
 (if (Kind == 4) = true then
 (k0 5)
 else
 (if (Kind == 2) = true then
 (k0 3)
 else
 (if (((Kids.length:Nat):Int) == 0) = true then
 (k0 1)
 else
 (k0 2))))
def La (N:Nat):FD E0:={ f:=204,fn:=Tryz.f204,q:=⟨[y2],[]⟩ }
def Lb (N:Nat):OC E0:=⟨_,FD.ct e0 (La N) N (fun R k a b c d e g h=>Bw N a b c d e g h (oK ⟨.i .i64,[],[]⟩ k))⟩
def y19:Sh S:=.ag [.i .i64,.i .i64,.i .i64,.i .i64,.i .i64,.i .i64,.st]
def Jg (N:Nat) (Kind Parent Last Init Entry Exit:Int) (Name:List UInt8) (k0:Bool→Option R):Option R :=
 k0 (decide (Kind ≤ 3))
def FX (N:Nat):FD E0:={ f:=173,fn:=Tryz.f173,q:=⟨[y19],[]⟩ }
def pR (N:Nat):OC E0:=⟨_,FD.ct e0 (FX N) N (fun R k a b c d e g h=>Jg N a b c d e g h (oK ⟨.b,[],[]⟩ k))⟩
structure fo where
 r13_put:(R:Type)→(List State)→Int→(List Node)→((List Node)→Option R)→Option R
def GB:Pat S:=⟨[.sw 0,.t .state,.i .i64],[.rw .node .own]⟩
def Cv (F:fo):Ct S:=⟨189,GB,fun R k a b c=>F.r13_put R a b c (oK ⟨.sw 1,[.g],[.rw .node .own]⟩ k)⟩
structure sy (F:fo):Prop where
 r13_put:(Cv F).ok E0
def sA (F:fo) (N:Nat) (kids_14:List State) (up_15 i_16 at_17:Int) (l_18:List Node) (kp0:(List Node)→Option R):Option R :=
 (at? kids_14 i_16).bind fun e19 =>
 F.r13_put _ e19.Kids at_17 l_18 (fun r20 =>
 if (0:Int) ≤ at_17 ∧ at_17 < (r20.length:Int) then (match r20[at_17.toNat]? with
 | some e21=>(kp0 (r20.set at_17.toNat (⟨e21.Kind,e21.Parent,IntKind.wrap .i64 (((r20.length:Nat):Int) - 1),e21.Init,e21.Entry,e21.Exit,e21.Name⟩:Node)))
 | none=>none) else none)
def rk (F:fo) (N:Nat) (kids_23:List State) (up_24:Int) (kp0:(List Node)→Option R) (rec:Int→(List Node)→Option R) (i_25:Int) (l_26:List Node):Option R :=
 if (decide (i_25 < ((kids_23.length:Nat):Int))) = true then
 ((at? kids_23 i_25).bind fun e27 =>
 Bw N e27.Kind e27.Name e27.Entry e27.Exit e27.Trans e27.Kids e27.At (fun r28 =>
 (at? kids_23 i_25).bind fun e29 =>
 if l_26.length + [(⟨r28,up_24,0,(-1),(-1),(-1),e29.Name⟩:Node)].length ≤ ak then (if (0:Int) ≤ up_24 ∧ up_24 < ((l_26 ++ [(⟨r28,up_24,0,(-1),(-1),(-1),e29.Name⟩:Node)]).length:Int) then (match (l_26 ++ [(⟨r28,up_24,0,(-1),(-1),(-1),e29.Name⟩:Node)])[up_24.toNat]? with
 | some e30=>((ifB (decide (e30.Init < 0)) true (if (0:Int) ≤ up_24 ∧ up_24 < ((l_26 ++ [(⟨r28,up_24,0,(-1),(-1),(-1),e29.Name⟩:Node)]).length:Int) then (match (l_26 ++ [(⟨r28,up_24,0,(-1),(-1),(-1),e29.Name⟩:Node)])[up_24.toNat]? with
 | some e31=>(some (e31.Kind == 2))
 | none=>none) else none) (some false)).bind fun c32 =>
 (ifB c32 true (if (0:Int) ≤ ((l_26.length:Nat):Int) ∧ ((l_26.length:Nat):Int) < ((l_26 ++ [(⟨r28,up_24,0,(-1),(-1),(-1),e29.Name⟩:Node)]).length:Int) then (match (l_26 ++ [(⟨r28,up_24,0,(-1),(-1),(-1),e29.Name⟩:Node)])[((l_26.length:Nat):Int).toNat]? with
 | some e33=>(some (decide (e33.Kind ≤ 3)))
 | none=>none) else none) (some false)).bind fun c34 =>
 if c34 = true then
 (if (0:Int) ≤ up_24 ∧ up_24 < ((l_26 ++ [(⟨r28,up_24,0,(-1),(-1),(-1),e29.Name⟩:Node)]).length:Int) then (match (l_26 ++ [(⟨r28,up_24,0,(-1),(-1),(-1),e29.Name⟩:Node)])[up_24.toNat]? with
 | some e35=>(sA F N kids_23 up_24 i_25 ((l_26.length:Nat):Int) ((l_26 ++ [(⟨r28,up_24,0,(-1),(-1),(-1),e29.Name⟩:Node)]).set up_24.toNat (⟨e35.Kind,e35.Parent,e35.Last,((l_26.length:Nat):Int),e35.Entry,e35.Exit,e35.Name⟩:Node)) (fun y36 =>
 rec (IntKind.wrap .i64 (i_25 + 1)) y36))
 | none=>none) else none)
 else
 (sA F N kids_23 up_24 i_25 ((l_26.length:Nat):Int) (l_26 ++ [(⟨r28,up_24,0,(-1),(-1),(-1),e29.Name⟩:Node)]) (fun y37 =>
 rec (IntKind.wrap .i64 (i_25 + 1)) y37)))
 | none=>none) else none) else none))
 else
 (kp0 l_26)
def jR (F:fo) (N:Nat) (kids_23:List State) (up_24:Int) (kp0:(List Node)→Option R):Nat→Int→(List Node)→Option R
 | 0=>fun _ _=>none
 | n + 1=>fun i_25 l_26=>rk F N kids_23 up_24 kp0 (jR F N kids_23 up_24 kp0 n) i_25 l_26
def vb (F:fo) (N:Nat) (kids:List State) (up:Int) (l:List Node) (k0:(List Node)→Option R):Option R :=
 jR F N kids up (fun y38 =>
 k0 y38) N 0 l
def Cw (F:fo) (hF:sy F) (N:Nat):FD E0:={ f:=189,fn:=Tryz.f189,q:=GB,loops:=[{ cur:=0,live:=[0,1,2,7],fix:=[(⟨0,[]⟩,.fresh .node .own)],out:=fun | .exit 0=>([0],[]) | _=>([],[]),q:=⟨[.sw 1,.t .state,.i .i64,.i .i64],[.g,.rw .node .own]⟩,G:=fun R K n a b c d=>jR F N a b (pK ⟨[.sw 1],[.g,.rw .node .own]⟩ (K (.exit 0))) n c d,B:=fun R K rec a b c d=>rk F N a b (pK ⟨[.sw 1],[.g,.rw .node .own]⟩ (K (.exit 0))) (rec a b) c d }],cuts:=[{ key:=8,live:=[0,1,2,7,8],out:=fun | .normal=>([0,1,2,7],[]) | _=>([],[]),q:=⟨[.sw 1,.t .state,.i .i64,.i .i64,.i .i64],[.g,.rw .node .own]⟩,G:=fun R K a b c d e=>sA F N a b c d e (pK ⟨[.sw 1,.t .state,.i .i64,.i .i64],[.g,.rw .node .own]⟩ (K .normal) a b c) }],g:=[pR N,⟨Cv F,hF.r13_put⟩,Lb N] }
theorem Jh (F:fo) (hF:sy F) (N:Nat):Ct.ok E0 ⟨(Cw F hF N).f,(Cw F hF N).q,fun R k a b c=>vb F N a b c (oK ⟨.sw 1,[.g],[.rw .node .own]⟩ k)⟩:=FD.ct e0 (Cw F hF N) N (fun R k a b c=>vb F N a b c (oK ⟨.sw 1,[.g],[.rw .node .own]⟩ k))
def Cx (F:fo) (N:Nat):fo where
 r13_put:=fun R kids up l k0=>vb F N kids up l k0
def cd (N:Nat):Nat→fo
 | 0=>{ r13_put:=fun _ _ _ _ _=>none }
 | d + 1=>Cx (cd N d) N
theorem tE (N:Nat):∀ d,sy (cd N d)
 | 0=>{ r13_put:=Ct.ok_none }
 | d + 1=>{ r13_put:=Jh _ (tE N d) N }
def r13_put (N:Nat) (kids:List State) (up:Int) (l:List Node) (k0:(List Node)→Option R):Option R:=(cd N N).r13_put R kids up l k0
theorem Lc (N d:Nat) (kids:List State) (up:Int) (l:List Node) (k0:(List Node)→Option R):(cd N (d + 1)).r13_put R kids up l k0 = vb (cd N d) N kids up l k0:=rfl
def NK (N:Nat):OC E0:=⟨Cv (cd N N),(tE N N).r13_put⟩
def ve (N:Nat) (Name:List UInt8) (Steps Fuel:Int) (Vars Ports Timers:List af) (States:List State) (At:Int) (k0:(List Node)→Option R):Option R :=
 r13_put N States 0 ([(⟨2,(-1),0,(-1),(-1),(-1),[]⟩:Node)]) (fun r1 =>
 if (0:Int) ≤ 0 ∧ 0 < (r1.length:Int) then (match r1[(Int.toNat 0)]? with
 | some e2=>(k0 (r1.set (Int.toNat 0) (⟨e2.Kind,e2.Parent,IntKind.wrap .i64 (((r1.length:Nat):Int) - 1),e2.Init,e2.Entry,e2.Exit,e2.Name⟩:Node)))
 | none=>none) else none)
def Ji (N:Nat):FD E0:={ f:=171,fn:=Tryz.f171,q:=⟨[y12],[]⟩,g:=[NK N],mode:=fun | 5=>.own | _=>.app,exit:=[(⟨2,[]⟩,.tree .node)] }
def CS (N:Nat):OC E0:=⟨_,FD.ct e0 (Ji N) N (fun R k a b c d e g h i=>ve N a b c d e g h i (oK ⟨.t .node,[],[]⟩ k))⟩
def pS (N:Nat) (l_1:List Node) (name_2:List UInt8) (kp0:Option R) (kp1:Int→Option R) (rec:Int→Option R) (i_3:Int):Option R :=
 if (decide (i_3 < ((l_1.length:Nat):Int))) = true then
 ((at? l_1 i_3).bind fun e4 =>
 if (e4.Name == name_2) = true then
 (kp1 i_3)
 else
 (rec (IntKind.wrap .i64 (i_3 + 1))))
 else
 (kp0 )
def nU (N:Nat) (l_1:List Node) (name_2:List UInt8) (kp0:Option R) (kp1:Int→Option R):Nat→Int→Option R
 | 0=>fun _=>none
 | n + 1=>fun i_3=>pS N l_1 name_2 kp0 kp1 (nU N l_1 name_2 kp0 kp1 n) i_3
def vg (N:Nat) (l:List Node) (name:List UInt8) (k0:Int→Option R):Option R :=
 nU N l name (k0 (-1))
 (fun y5 =>
 k0 y5) N 1
def Ld (N:Nat):FD E0:={ f:=172,fn:=Tryz.f172,q:=⟨[.t .node,.st],[]⟩,loops:=[{ cur:=0,live:=[0,1,5],out:=fun | .exit 0=>([],[]) | .ret=>([4],[]) | _=>([],[]),q:=⟨[.t .node,.st,.i .i64],[]⟩,G:=fun R K n a b c=>nU N a b (pK ⟨[],[]⟩ (K (.exit 0))) (pK ⟨[.i .i64],[]⟩ (K .ret)) n c,B:=fun R K rec a b c=>pS N a b (pK ⟨[],[]⟩ (K (.exit 0))) (pK ⟨[.i .i64],[]⟩ (K .ret)) (rec a b) c }] }
def EU (N:Nat):OC E0:=⟨_,FD.ct e0 (Ld N) N (fun R k a b=>vg N a b (oK ⟨.i .i64,[],[]⟩ k))⟩
def pC (N:Nat) (Name:List UInt8) (Steps Fuel:Int) (Vars Ports Timers:List af) (States:List State) (At:Int) (name:List UInt8) (k0:Bool→Option R):Option R :=
 ve N Name Steps Fuel Vars Ports Timers States At (fun r1 =>
 vg N r1 name (fun r2 =>
 (ifB (decide (r2 > 0)) true ((at? r1 r2).bind fun e3 =>
 some (decide (e3.Kind ≤ 3))) (some false)).bind fun c4 =>
 k0 c4))
def Jj (N:Nat):FD E0:={ f:=149,fn:=Tryz.f149,q:=⟨[y12,.st],[]⟩,g:=[CS N,EU N,pR N] }
def Jk (N:Nat):OC E0:=⟨_,FD.ct e0 (Jj N) N (fun R k a b c d e g h i j=>pC N a b c d e g h i j (oK ⟨.b,[],[]⟩ k))⟩
def mb (N:Nat) (s_2:Int) (s_3:List Chart) (s_4:List Inst) (s_5:List ai) (s_6:List Cert) (x_7 x_8 x_9 x_10:List UInt8) (x_11 x_12:List (List UInt8)) (x_13:List Cell) (x_14:Int) (kp0:Option R) (kp1:Int→Option R) (rec:Int→Option R) (i_1:Int):Option R :=
 if (decide (i_1 < ((x_11.length:Nat):Int))) = true then
 ((at? x_11 i_1).bind fun e15 =>
 qy N s_2 s_3 s_4 s_5 s_6 e15 (fun r16 =>
 if (decide (r16 < 0)) = true then
 (kp1 7)
 else
 (if (0:Int) ≤ 0 ∧ 0 ≤ i_1 ∧ i_1 ≤ ((x_11.length:Nat):Int) then ((at? x_11 i_1).bind fun e17 =>
 eW N ((x_11.take i_1.toNat).drop (Int.toNat 0)) e17 (fun r18 =>
 if r18 = true then
 (kp1 8)
 else
 ((at? x_11 i_1).bind fun e19 =>
 qN N s_2 s_3 s_4 s_5 s_6 e19 (fun r20 r21 r22 r23 r24 r25 r26 r27 =>
 r12_history N r26 (fun r28 =>
 if r28 = true then
 (kp1 17)
 else
 (rec (IntKind.wrap .i64 (i_1 + 1)))))))) else none)))
 else
 (kp0 )
def jo (N:Nat) (s_2:Int) (s_3:List Chart) (s_4:List Inst) (s_5:List ai) (s_6:List Cert) (x_7 x_8 x_9 x_10:List UInt8) (x_11 x_12:List (List UInt8)) (x_13:List Cell) (x_14:Int) (kp0:Option R) (kp1:Int→Option R):Nat→Int→Option R
 | 0=>fun _=>none
 | n + 1=>fun i_1=>mb N s_2 s_3 s_4 s_5 s_6 x_7 x_8 x_9 x_10 x_11 x_12 x_13 x_14 kp0 kp1 (jo N s_2 s_3 s_4 s_5 s_6 x_7 x_8 x_9 x_10 x_11 x_12 x_13 x_14 kp0 kp1 n) i_1
def mc (N:Nat) (s_65:Int) (s_66:List Chart) (s_67:List Inst) (s_68:List ai) (s_69:List Cert) (x_70 x_71 x_72 x_73:List UInt8) (x_74 x_75:List (List UInt8)) (x_76:List Cell) (x_77:Int) (kp0:Option R) (kp1:Int→Option R) (rec:Int→Option R) (i_64:Int):Option R :=
 if (decide (i_64 < ((x_75.length:Nat):Int))) = true then
 ((at? x_75 i_64).bind fun e78 =>
 uY N s_65 s_66 s_67 s_68 s_69 e78 (fun r79 =>
 if (decide (r79 < 0)) = true then
 (kp1 7)
 else
 (if (0:Int) ≤ 0 ∧ 0 ≤ i_64 ∧ i_64 ≤ ((x_75.length:Nat):Int) then ((at? x_75 i_64).bind fun e80 =>
 eW N ((x_75.take i_64.toNat).drop (Int.toNat 0)) e80 (fun r81 =>
 if r81 = true then
 (kp1 8)
 else
 ((at? s_68 r79).bind fun e82 =>
 eW N x_74 e82.From (fun r83 =>
 (ifB (!r83) false ((at? s_68 r79).bind fun e84 =>
 eW N x_74 e84.To (fun r85 =>
 some (!r85))) (some true)).bind fun c86 =>
 if c86 = true then
 (kp1 17)
 else
 (rec (IntKind.wrap .i64 (i_64 + 1))))))) else none)))
 else
 (kp0 )
def jq (N:Nat) (s_65:Int) (s_66:List Chart) (s_67:List Inst) (s_68:List ai) (s_69:List Cert) (x_70 x_71 x_72 x_73:List UInt8) (x_74 x_75:List (List UInt8)) (x_76:List Cell) (x_77:Int) (kp0:Option R) (kp1:Int→Option R):Nat→Int→Option R
 | 0=>fun _=>none
 | n + 1=>fun i_64=>mc N s_65 s_66 s_67 s_68 s_69 x_70 x_71 x_72 x_73 x_74 x_75 x_76 x_77 kp0 kp1 (jq N s_65 s_66 s_67 s_68 s_69 x_70 x_71 x_72 x_73 x_74 x_75 x_76 x_77 kp0 kp1 n) i_64
def kl (N:Nat) (s_51:Int) (s_52:List Chart) (s_53:List Inst) (s_54:List ai) (s_55:List Cert) (x_56 x_57 x_58 x_59:List UInt8) (x_60 x_61:List (List UInt8)) (x_62:List Cell) (x_63:Int) (kp0:Int→Option R):Option R :=
 if (x_58 == x_59) = true then
 (kp0 17)
 else
 (jq N s_51 s_52 s_53 s_54 s_55 x_56 x_57 x_58 x_59 x_60 x_61 x_62 x_63 (kp0 0)
 (fun y87 =>
 kp0 y87) N 0)
def qz (N:Nat) (Age:Int) (Charts:List Chart) (Insts:List Inst) (Chans:List ai) (Certs:List Cert) (Name Inst_ Req Resp:List UInt8) (Insts_2 Chans_2:List (List UInt8)) (Cells:List Cell) (At:Int) (k0:Int→Option R):Option R :=
 jo N Age Charts Insts Chans Certs Name Inst_ Req Resp Insts_2 Chans_2 Cells At (eW N Insts_2 Inst_ (fun r30 =>
 (ifB (!r30) false (qN N Age Charts Insts Chans Certs Inst_ (fun r31 r32 r33 r34 r35 r36 r37 r38 =>
 pC N r31 r32 r33 r34 r35 r36 r37 r38 Req (fun r39 =>
 some (!r39)))) (some true)).bind fun c40 =>
 (ifB c40 false (qN N Age Charts Insts Chans Certs Inst_ (fun r41 r42 r43 r44 r45 r46 r47 r48 =>
 pC N r41 r42 r43 r44 r45 r46 r47 r48 Resp (fun r49 =>
 some (!r49)))) (some true)).bind fun c50 =>
 if c50 = true then
 (k0 7)
 else
 (kl N Age Charts Insts Chans Certs Name Inst_ Req Resp Insts_2 Chans_2 Cells At (fun y88 =>
 k0 y88))))
 (fun y29 =>
 k0 y29) N 0
def FY (N:Nat):FD E0:={ f:=101,fn:=Tryz.f101,q:=⟨[y18,y17],[]⟩,loops:=[{ cur:=0,live:=[2,3,5],out:=fun | .exit 0=>([2,3],[]) | .ret=>([4],[]) | _=>([],[]),q:=⟨[.p 0 0 0,.p 1 0 0,.i .i64],[z38,z36]⟩,G:=fun R K n a b c d e g h i j l m o p q=>jo N b c d e g h i j l m o p q (pK ⟨[.p 0 0 0,.p 1 0 0],[z38,z36]⟩ (K (.exit 0)) b c d e g h i j l m o p q) (pK ⟨[.i .i64],[]⟩ (K .ret)) n a,B:=fun R K rec a b c d e g h i j l m o p q=>mb N b c d e g h i j l m o p q (pK ⟨[.p 0 0 0,.p 1 0 0],[z38,z36]⟩ (K (.exit 0)) b c d e g h i j l m o p q) (pK ⟨[.i .i64],[]⟩ (K .ret)) (fun a=>rec a b c d e g h i j l m o p q) a },{ cur:=3,live:=[2,3,6],out:=fun | .exit 3=>([],[]) | .ret=>([4],[]) | _=>([],[]),q:=⟨[.p 0 0 0,.p 1 0 0,.i .i64],[z38,z36]⟩,G:=fun R K n a b c d e g h i j l m o p q=>jq N b c d e g h i j l m o p q (pK ⟨[],[]⟩ (K (.exit 3))) (pK ⟨[.i .i64],[]⟩ (K .ret)) n a,B:=fun R K rec a b c d e g h i j l m o p q=>mc N b c d e g h i j l m o p q (pK ⟨[],[]⟩ (K (.exit 3))) (pK ⟨[.i .i64],[]⟩ (K .ret)) (fun a=>rec a b c d e g h i j l m o p q) a }],cuts:=[{ key:=12,live:=[2,3],out:=fun | .ret=>([4],[]) | _=>([],[]),q:=⟨[.p 0 0 0,.p 1 0 0],[z38,z36]⟩,G:=fun R K a b c d e g h i j l m o p=>kl N a b c d e g h i j l m o p (pK ⟨[.i .i64],[]⟩ (K .ret)) }],g:=[vT N,Ah N,lT N,ES N,FW N,Jk N] }
def FZ (N:Nat):OC E0:=⟨_,FD.ct e0 (FY N) N (fun R k a b c d e g h i j l m o p=>qz N a b c d e g h i j l m o p (oK ⟨.i .i64,[],[]⟩ k))⟩
def vV (N:Nat) (l:List Node) (i:Int) (k0:Bool→Option R):Option R :=
 (ifB (decide (i ≥ 0)) true (some (decide (i < ((l.length:Nat):Int)))) (some false)).bind fun c1 =>
 k0 c1
def PT (N:Nat):FD E0:={ f:=190,fn:=Tryz.f190,q:=⟨[.t .node,.i .i64],[]⟩ }
def EV (N:Nat):OC E0:=⟨_,FD.ct e0 (PT N) N (fun R k a b=>vV N a b (oK ⟨.b,[],[]⟩ k))⟩
def tF (N:Nat) (l_1:List Int) (i_2:Int) (kp0:Option R) (kp1:Bool→Option R) (rec:Int→Option R) (k_3:Int):Option R :=
 if (decide (k_3 < ((l_1.length:Nat):Int))) = true then
 ((at? l_1 k_3).bind fun e4 =>
 if (e4 == i_2) = true then
 (kp1 true)
 else
 (rec (IntKind.wrap .i64 (k_3 + 1))))
 else
 (kp0 )
def rA (N:Nat) (l_1:List Int) (i_2:Int) (kp0:Option R) (kp1:Bool→Option R):Nat→Int→Option R
 | 0=>fun _=>none
 | n + 1=>fun k_3=>tF N l_1 i_2 kp0 kp1 (rA N l_1 i_2 kp0 kp1 n) k_3
def sB (N:Nat) (l:List Int) (i:Int) (k0:Bool→Option R):Option R :=
 rA N l i (k0 false)
 (fun y5 =>
 k0 y5) N 0
def PU (N:Nat):FD E0:={ f:=191,fn:=Tryz.f191,q:=⟨[.t .int,.i .i64],[]⟩,loops:=[{ cur:=0,live:=[0,1,5],out:=fun | .exit 0=>([],[]) | .ret=>([4],[]) | _=>([],[]),q:=⟨[.t .int,.i .i64,.i .i64],[]⟩,G:=fun R K n a b c=>rA N a b (pK ⟨[],[]⟩ (K (.exit 0))) (pK ⟨[.b],[]⟩ (K .ret)) n c,B:=fun R K rec a b c=>tF N a b (pK ⟨[],[]⟩ (K (.exit 0))) (pK ⟨[.b],[]⟩ (K .ret)) (rec a b) c }] }
def Bx (N:Nat):OC E0:=⟨_,FD.ct e0 (PU N) N (fun R k a b=>sB N a b (oK ⟨.b,[],[]⟩ k))⟩
def vW (N:Nat) (l_4:List Int) (kp0:(List Int)→Option R) (rec:Int→(List Int)→Option R) (i_5:Int) (out_6:List Int):Option R :=
 if (decide (i_5 < 128)) = true then
 (sB N l_4 i_5 (fun r7 =>
 if r7 = true then
 (if out_6.length + [i_5].length ≤ ak then (rec (IntKind.wrap .i64 (i_5 + 1)) (out_6 ++ [i_5])) else none)
 else
 (rec (IntKind.wrap .i64 (i_5 + 1)) out_6)))
 else
 (kp0 out_6)
def vh (N:Nat) (l_4:List Int) (kp0:(List Int)→Option R):Nat→Int→(List Int)→Option R
 | 0=>fun _ _=>none
 | n + 1=>fun i_5 out_6=>vW N l_4 kp0 (vh N l_4 kp0 n) i_5 out_6
def GC (N:Nat) (l:List Int) (k0:(List Int)→Option R):Option R :=
 vh N l (fun y8 =>
 k0 y8) N 0 ([]:List Int)
def Se (N:Nat):FD E0:={ f:=192,fn:=Tryz.f192,q:=⟨[.t .int],[]⟩,loops:=[{ cur:=0,live:=[0,3,4],fix:=[(⟨3,[]⟩,.row .int .app)],out:=fun | .exit 0=>([3],[]) | _=>([],[]),q:=⟨[.t .int,.sw 0,.i .i64],[.rw .int .app]⟩,G:=fun R K n a b c=>vh N a (pK ⟨[.sw 0],[.rw .int .app]⟩ (K (.exit 0))) n b c,B:=fun R K rec a b c=>vW N a (pK ⟨[.sw 0],[.rw .int .app]⟩ (K (.exit 0))) (rec a) b c }],g:=[Bx N],exit:=[(⟨2,[]⟩,.tree .int)] }
def Sf (N:Nat):OC E0:=⟨_,FD.ct e0 (Se N) N (fun R k a=>GC N a (oK ⟨.t .int,[],[]⟩ k))⟩
def pT (N:Nat) (l_7:List Node) (i_8:Int) (kp0:(List Int)→Option R) (rec:Int→(List Int)→Option R) (k_9:Int) (out_10:List Int):Option R :=
 (ifB (decide (k_9 < ((l_7.length:Nat):Int))) true (vV N l_7 i_8 (fun r11 =>
 some r11)) (some false)).bind fun c12 =>
 if c12 = true then
 ((at? l_7 k_9).bind fun e13 =>
 if (e13.Parent == i_8) = true then
 (if out_10.length + [k_9].length ≤ ak then (rec (IntKind.wrap .i64 (k_9 + 1)) (out_10 ++ [k_9])) else none)
 else
 (rec (IntKind.wrap .i64 (k_9 + 1)) out_10))
 else
 (kp0 out_10)
def nV (N:Nat) (l_7:List Node) (i_8:Int) (kp0:(List Int)→Option R):Nat→Int→(List Int)→Option R
 | 0=>fun _ _=>none
 | n + 1=>fun k_9 out_10=>pT N l_7 i_8 kp0 (nV N l_7 i_8 kp0 n) k_9 out_10
def By (N:Nat) (l:List Node) (i:Int) (k0:(List Int)→Option R):Option R :=
 nV N l i (fun y14 =>
 k0 y14) N 0 ([]:List Int)
def Le (N:Nat):FD E0:={ f:=210,fn:=Tryz.f210,q:=⟨[.t .node,.i .i64],[]⟩,loops:=[{ cur:=0,live:=[0,1,5,6],fix:=[(⟨5,[]⟩,.row .int .app)],out:=fun | .exit 0=>([5],[]) | _=>([],[]),q:=⟨[.t .node,.i .i64,.sw 0,.i .i64],[.rw .int .app]⟩,G:=fun R K n a b c d=>nV N a b (pK ⟨[.sw 0],[.rw .int .app]⟩ (K (.exit 0))) n c d,B:=fun R K rec a b c d=>pT N a b (pK ⟨[.sw 0],[.rw .int .app]⟩ (K (.exit 0))) (rec a b) c d }],g:=[EV N],exit:=[(⟨4,[]⟩,.tree .int)] }
def Lf (N:Nat):OC E0:=⟨_,FD.ct e0 (Le N) N (fun R k a b=>By N a b (oK ⟨.t .int,[],[]⟩ k))⟩
def na (N:Nat) (l_8:List Node) (k_9:List Int) (kp0:(List Int)→Option R) (rec:Int→(List Int)→Option R) (j_10:Int) (out_11:List Int):Option R :=
 if (decide (j_10 < ((k_9.length:Nat):Int))) = true then
 ((at? k_9 j_10).bind fun e12 =>
 (at? l_8 e12).bind fun e13 =>
 if (decide (e13.Kind ≤ 3)) = true then
 ((at? k_9 j_10).bind fun e14 =>
 if out_11.length + [e14].length ≤ ak then (rec (IntKind.wrap .i64 (j_10 + 1)) (out_11 ++ [e14])) else none)
 else
 (rec (IntKind.wrap .i64 (j_10 + 1)) out_11))
 else
 (kp0 out_11)
def ku (N:Nat) (l_8:List Node) (k_9:List Int) (kp0:(List Int)→Option R):Nat→Int→(List Int)→Option R
 | 0=>fun _ _=>none
 | n + 1=>fun j_10 out_11=>na N l_8 k_9 kp0 (ku N l_8 k_9 kp0 n) j_10 out_11
def sC (N:Nat) (l:List Node) (i:Int) (k0:(List Int)→Option R):Option R :=
 By N l i (fun r1 =>
 ku N l r1 (fun y15 =>
 k0 y15) N 0 ([]:List Int))
def HC (N:Nat):FD E0:={ f:=206,fn:=Tryz.f206,q:=⟨[.t .node,.i .i64],[]⟩,loops:=[{ cur:=0,live:=[0,5,6,7],fix:=[(⟨5,[]⟩,.row .int .app)],out:=fun | .exit 0=>([5],[]) | _=>([],[]),q:=⟨[.t .node,.sw 0,.t .int,.i .i64],[.rw .int .app]⟩,G:=fun R K n a b c d=>ku N a b (pK ⟨[.sw 0],[.rw .int .app]⟩ (K (.exit 0))) n c d,B:=fun R K rec a b c d=>na N a b (pK ⟨[.sw 0],[.rw .int .app]⟩ (K (.exit 0))) (rec a b) c d }],g:=[pR N,Lf N],exit:=[(⟨4,[]⟩,.tree .int)] }
def HD (N:Nat):OC E0:=⟨_,FD.ct e0 (HC N) N (fun R k a b=>sC N a b (oK ⟨.t .int,[],[]⟩ k))⟩
def tG (N:Nat) (a_7 b_8:List Int) (kp0:(List Int)→Option R) (rec:Int→(List Int)→Option R) (i_9:Int) (out_10:List Int):Option R :=
 if (decide (i_9 < ((a_7.length:Nat):Int))) = true then
 ((at? a_7 i_9).bind fun e11 =>
 sB N b_8 e11 (fun r12 =>
 if (!r12) = true then
 ((at? a_7 i_9).bind fun e13 =>
 if out_10.length + [e13].length ≤ ak then (rec (IntKind.wrap .i64 (i_9 + 1)) (out_10 ++ [e13])) else none)
 else
 (rec (IntKind.wrap .i64 (i_9 + 1)) out_10)))
 else
 (kp0 out_10)
def rB (N:Nat) (a_7 b_8:List Int) (kp0:(List Int)→Option R):Nat→Int→(List Int)→Option R
 | 0=>fun _ _=>none
 | n + 1=>fun i_9 out_10=>tG N a_7 b_8 kp0 (rB N a_7 b_8 kp0 n) i_9 out_10
def EW (N:Nat) (a b:List Int) (k0:(List Int)→Option R):Option R :=
 rB N a b (fun y14 =>
 k0 y14) N 0 ([]:List Int)
def PW (N:Nat):FD E0:={ f:=209,fn:=Tryz.f209,q:=⟨[.t .int,.t .int],[]⟩,loops:=[{ cur:=0,live:=[0,1,5,6],fix:=[(⟨5,[]⟩,.row .int .app)],out:=fun | .exit 0=>([5],[]) | _=>([],[]),q:=⟨[.t .int,.t .int,.sw 0,.i .i64],[.rw .int .app]⟩,G:=fun R K n a b c d=>rB N a b (pK ⟨[.sw 0],[.rw .int .app]⟩ (K (.exit 0))) n c d,B:=fun R K rec a b c d=>tG N a b (pK ⟨[.sw 0],[.rw .int .app]⟩ (K (.exit 0))) (rec a b) c d }],g:=[Bx N],exit:=[(⟨4,[]⟩,.tree .int)] }
def PX (N:Nat):OC E0:=⟨_,FD.ct e0 (PW N) N (fun R k a b=>EW N a b (oK ⟨.t .int,[],[]⟩ k))⟩
def HF (N:Nat) (a b:List Int) (k0:(List Int)→Option R):Option R :=
 EW N a b (fun r1 =>
 EW N a r1 (fun r2 =>
 k0 r2))
def PY (N:Nat):FD E0:={ f:=205,fn:=Tryz.f205,q:=⟨[.t .int,.t .int],[]⟩,g:=[PX N],exit:=[(⟨4,[]⟩,.tree .int)] }
def PZ (N:Nat):OC E0:=⟨_,FD.ct e0 (PY N) N (fun R k a b=>HF N a b (oK ⟨.t .int,[],[]⟩ k))⟩
def oM (N:Nat) (l_2:List Node) (conf_3:List Int) (kp0:Option R) (kp1:Bool→Option R) (rec:Int→Option R) (i_4:Int):Option R :=
 if (decide (i_4 < ((conf_3.length:Nat):Int))) = true then
 ((at? conf_3 i_4).bind fun e5 =>
 vV N l_2 e5 (fun r6 =>
 (ifB (!r6) false ((ifB (decide (i_4 > 0)) true ((at? conf_3 i_4).bind fun e7 =>
 (at? conf_3 (IntKind.wrap .i64 (i_4 - 1))).bind fun e8 =>
 some (decide (e7 ≤ e8))) (some false)).bind fun c9 =>
 some c9) (some true)).bind fun c10 =>
 (ifB c10 false ((at? conf_3 i_4).bind fun e11 =>
 (at? l_2 e11).bind fun e12 =>
 some (!(decide (e12.Kind ≤ 3)))) (some true)).bind fun c13 =>
 (ifB c13 false ((at? conf_3 i_4).bind fun e14 =>
 (ifB (decide (e14 > 0)) true ((at? conf_3 i_4).bind fun e15 =>
 (at? l_2 e15).bind fun e16 =>
 sB N conf_3 e16.Parent (fun r17 =>
 some (!r17))) (some false)).bind fun c18 =>
 some c18) (some true)).bind fun c19 =>
 if c19 = true then
 (kp1 false)
 else
 ((at? conf_3 i_4).bind fun e20 =>
 sC N l_2 e20 (fun r21 =>
 HF N r21 conf_3 (fun r22 =>
 (at? conf_3 i_4).bind fun e23 =>
 (at? l_2 e23).bind fun e24 =>
 (ifB (e24.Kind == 2) true (some (((r22.length:Nat):Int) != 1)) (some false)).bind fun c25 =>
 (ifB c25 false ((ifB (e24.Kind == 3) true ((at? conf_3 i_4).bind fun e26 =>
 sC N l_2 e26 (fun r27 =>
 some (((r22.length:Nat):Int) != ((r27.length:Nat):Int)))) (some false)).bind fun c28 =>
 some c28) (some true)).bind fun c29 =>
 if c29 = true then
 (kp1 false)
 else
 (rec (IntKind.wrap .i64 (i_4 + 1))))))))
 else
 (kp0 )
def me (N:Nat) (l_2:List Node) (conf_3:List Int) (kp0:Option R) (kp1:Bool→Option R):Nat→Int→Option R
 | 0=>fun _=>none
 | n + 1=>fun i_4=>oM N l_2 conf_3 kp0 kp1 (me N l_2 conf_3 kp0 kp1 n) i_4
def rC (N:Nat) (l:List Node) (conf:List Int) (k0:Bool→Option R):Option R :=
 sB N conf 0 (fun r1 =>
 if (!r1) = true then
 (k0 false)
 else
 (me N l conf (k0 true)
 (fun y30 =>
 k0 y30) N 0))
def Jl (N:Nat):FD E0:={ f:=193,fn:=Tryz.f193,q:=⟨[.t .node,.t .int],[]⟩,loops:=[{ cur:=0,live:=[0,1,5],out:=fun | .exit 0=>([],[]) | .ret=>([4],[]) | _=>([],[]),q:=⟨[.t .node,.t .int,.i .i64],[]⟩,G:=fun R K n a b c=>me N a b (pK ⟨[],[]⟩ (K (.exit 0))) (pK ⟨[.b],[]⟩ (K .ret)) n c,B:=fun R K rec a b c=>oM N a b (pK ⟨[],[]⟩ (K (.exit 0))) (pK ⟨[.b],[]⟩ (K .ret)) (rec a b) c }],g:=[pR N,EV N,Bx N,PZ N,HD N] }
def Jm (N:Nat):OC E0:=⟨_,FD.ct e0 (Jl N) N (fun R k a b=>rC N a b (oK ⟨.b,[],[]⟩ k))⟩
def mP (N:Nat) (l_18:List Node) (atomic_19:List Int) (i_20:Int) (kp0:(List Int)→Option R) (rec:Int→(List Int)→Option R) (k_21:Int) (all_22:List Int):Option R :=
 if (decide (k_21 ≥ 0)) = true then
 (if all_22.length + [k_21].length ≤ ak then ((at? l_18 k_21).bind fun e23 =>
 rec e23.Parent (all_22 ++ [k_21])) else none)
 else
 (kp0 all_22)
def lq (N:Nat) (l_18:List Node) (atomic_19:List Int) (i_20:Int) (kp0:(List Int)→Option R):Nat→Int→(List Int)→Option R
 | 0=>fun _ _=>none
 | n + 1=>fun k_21 all_22=>mP N l_18 atomic_19 i_20 kp0 (lq N l_18 atomic_19 i_20 kp0 n) k_21 all_22
def pU (N:Nat) (l_25:List Node) (atomic_26:List Int) (kp0:(List Int)→Option R) (kp1:Bool→Option R) (rec:Int→(List Int)→Option R) (i_27:Int) (all_28:List Int):Option R :=
 if (decide (i_27 < ((atomic_26.length:Nat):Int))) = true then
 ((at? atomic_26 i_27).bind fun e29 =>
 vV N l_25 e29 (fun r30 =>
 (ifB (!r30) false ((at? atomic_26 i_27).bind fun e31 =>
 (at? l_25 e31).bind fun e32 =>
 some (e32.Kind != 1)) (some true)).bind fun c33 =>
 (ifB c33 false (if (0:Int) ≤ 0 ∧ 0 ≤ i_27 ∧ i_27 ≤ ((atomic_26.length:Nat):Int) then ((at? atomic_26 i_27).bind fun e34 =>
 sB N ((atomic_26.take i_27.toNat).drop (Int.toNat 0)) e34 (fun r35 =>
 some r35)) else none) (some true)).bind fun c36 =>
 if c36 = true then
 (kp1 false)
 else
 ((at? atomic_26 i_27).bind fun e37 =>
 lq N l_25 atomic_26 i_27 (fun y38 =>
 rec (IntKind.wrap .i64 (i_27 + 1)) y38) N e37 all_28)))
 else
 (kp0 all_28)
def nW (N:Nat) (l_25:List Node) (atomic_26:List Int) (kp0:(List Int)→Option R) (kp1:Bool→Option R):Nat→Int→(List Int)→Option R
 | 0=>fun _ _=>none
 | n + 1=>fun i_27 all_28=>pU N l_25 atomic_26 kp0 kp1 (nW N l_25 atomic_26 kp0 kp1 n) i_27 all_28
def sD (N:Nat) (l:List Node) (atomic:List Int) (k0:(List Int)→Bool→Option R):Option R :=
 nW N l atomic (fun y39 =>
 GC N y39 (fun r41 =>
 rC N l r41 (fun r42 =>
 if (!r42) = true then
 (k0 ([]:List Int) false)
 else
 (k0 r41 true))))
 (fun y40 =>
 k0 ([]:List Int) y40) N 0 ([]:List Int)
def Lg (N:Nat):FD E0:={ f:=174,fn:=Tryz.f174,q:=⟨[.t .node,.t .int],[]⟩,loops:=[{ cur:=2,live:=[0,1,6,7,8],fix:=[(⟨6,[]⟩,.row .int .app)],out:=fun | .exit 2=>([0,1,6,7],[]) | _=>([],[]),q:=⟨[.t .node,.t .int,.sw 0,.i .i64,.i .i64],[.rw .int .app]⟩,G:=fun R K n a b c d e=>lq N a b c (pK ⟨[.t .node,.t .int,.sw 0,.i .i64],[.rw .int .app]⟩ (K (.exit 2)) a b c) n d e,B:=fun R K rec a b c d e=>mP N a b c (pK ⟨[.t .node,.t .int,.sw 0,.i .i64],[.rw .int .app]⟩ (K (.exit 2)) a b c) (rec a b c) d e },{ cur:=0,live:=[0,1,6,7],fix:=[(⟨6,[]⟩,.row .int .app)],out:=fun | .exit 0=>([0,6],[]) | .ret=>([4,5],[]) | _=>([],[]),q:=⟨[.t .node,.t .int,.sw 0,.i .i64],[.rw .int .app]⟩,G:=fun R K n a b c d=>nW N a b (pK ⟨[.t .node,.sw 0],[.rw .int .app]⟩ (K (.exit 0)) a) (pK ⟨[.ns,.b],[]⟩ (K .ret)) n c d,B:=fun R K rec a b c d=>pU N a b (pK ⟨[.t .node,.sw 0],[.rw .int .app]⟩ (K (.exit 0)) a) (pK ⟨[.ns,.b],[]⟩ (K .ret)) (rec a b) c d }],g:=[EV N,Bx N,Sf N,Jm N],exit:=[(⟨4,[]⟩,.tree .int)] }
def Lh (N:Nat):OC E0:=⟨_,FD.ct e0 (Lg N) N (fun R k a b=>sD N a b (oK ⟨.tp [.t .int,.b],[],[]⟩ k))⟩
end
end So
