/- T3_7: a part of the proof of SoundTells: lemmas on the evaluator and on the functions that the law reaches. -/
import Derived.Test.YtcllbmdpckfnhaaGreatT36
set_option maxRecDepth 100000
set_option linter.unusedVariables false
namespace So
open Go TE Go.Proofs
noncomputable section
variable {R:Type}
def r12_chans_c8 (N:Nat) (i_25:Int) (v_26:Bool) (s_27:Int) (s_28:List Chart) (s_29:List Inst) (s_30:List Chan) (s_31:List Cert) (v_32 v_33:Int) (x_34 x_35 x_36 x_37:List UInt8) (x_38 x_39 x_40:Int) (kp0:Int→Option R) (kp1:Option R):Option R :=
 if v_26 = true then
 (kp0 7)
 else
 (r12_from N s_27 s_28 s_29 s_30 s_31 i_25 x_35 x_36 (fun r41 =>
 if r41 = true then
 (kp0 8)
 else
 ((ifB (decide (x_38 < 1)) false (some (decide (x_38 > 32))) (some true)).bind fun c42 =>
 (ifB c42 false (some (decide (x_39 < 0))) (some true)).bind fun c43 =>
 (ifB c43 false (some (decide (x_39 > 7))) (some true)).bind fun c44 =>
 if c44 = true then
 (kp0 16)
 else
 (kp1 ))))
def r12_chans_l0_b (N:Nat) (s_2:Int) (s_3:List Chart) (s_4:List Inst) (s_5:List Chan) (s_6:List Cert) (v_7 v_8:Int) (kp0:Option R) (kp1:Int→Int→Option R) (rec:Int→Option R) (i_1:Int):Option R :=
 if (decide (i_1 < ((s_5.length:Nat):Int))) = true then
 ((at? s_5 i_1).bind fun e9 =>
 r12_Chan N s_2 s_3 s_4 s_5 s_6 e9.Name (fun r10 =>
 if (decide (r10 < i_1)) = true then
 (kp1 8 e9.At)
 else
 (r12_Inst N s_2 s_3 s_4 s_5 s_6 e9.From (fun r11 =>
 (ifB (decide (r11 < 0)) false (r12_Of N s_2 s_3 s_4 s_5 s_6 e9.From (fun r12 r13 r14 r15 r16 r17 r18 r19 =>
 r12_names N r16 (fun r20 =>
 r12_has N r20 e9.Port (fun r21 =>
 some (!r21))))) (some true)).bind fun c22 =>
 (ifB c22 false (r12_Inst N s_2 s_3 s_4 s_5 s_6 e9.To (fun r23 =>
 some (decide (r23 < 0)))) (some true)).bind fun c24 =>
 r12_chans_c8 N i_1 c24 s_2 s_3 s_4 s_5 s_6 v_7 v_8 e9.Name e9.From e9.Port e9.To e9.Cap e9.Prio e9.At (fun y45 =>
 kp1 y45 e9.At)
 (rec (IntKind.wrap .i64 (i_1 + 1)))))))
 else
 (kp0 )
def r12_chans_l0 (N:Nat) (s_2:Int) (s_3:List Chart) (s_4:List Inst) (s_5:List Chan) (s_6:List Cert) (v_7 v_8:Int) (kp0:Option R) (kp1:Int→Int→Option R):Nat→Int→Option R
 | 0=>fun _=>none
 | n + 1=>fun i_1=>r12_chans_l0_b N s_2 s_3 s_4 s_5 s_6 v_7 v_8 kp0 kp1 (r12_chans_l0 N s_2 s_3 s_4 s_5 s_6 v_7 v_8 kp0 kp1 n) i_1
def r12_chans_l5_b (N:Nat) (i_66:Int) (p_67:List (List UInt8)) (s_69:Int) (s_70:List Chart) (s_71:List Inst) (s_72:List Chan) (s_73:List Cert) (v_74 v_75:Int) (kp0:Option R) (kp1:Int→Int→Option R) (rec:Int→Option R) (k_68:Int):Option R :=
 if (decide (k_68 < ((p_67.length:Nat):Int))) = true then
 ((at? s_71 i_66).bind fun e76 =>
 (at? p_67 k_68).bind fun e77 =>
 r12_from N s_69 s_70 s_71 s_72 s_73 ((s_72.length:Nat):Int) e76.Name e77 (fun r78 =>
 if (!r78) = true then
 ((at? s_71 i_66).bind fun e79 =>
 kp1 7 e79.At)
 else
 (rec (IntKind.wrap .i64 (k_68 + 1)))))
 else
 (kp0 )
def r12_chans_l5 (N:Nat) (i_66:Int) (p_67:List (List UInt8)) (s_69:Int) (s_70:List Chart) (s_71:List Inst) (s_72:List Chan) (s_73:List Cert) (v_74 v_75:Int) (kp0:Option R) (kp1:Int→Int→Option R):Nat→Int→Option R
 | 0=>fun _=>none
 | n + 1=>fun k_68=>r12_chans_l5_b N i_66 p_67 s_69 s_70 s_71 s_72 s_73 v_74 v_75 kp0 kp1 (r12_chans_l5 N i_66 p_67 s_69 s_70 s_71 s_72 s_73 v_74 v_75 kp0 kp1 n) k_68
def r12_chans_l3_b (N:Nat) (s_49:Int) (s_50:List Chart) (s_51:List Inst) (s_52:List Chan) (s_53:List Cert) (v_54 v_55:Int) (kp0:Option R) (kp1:Int→Int→Option R) (rec:Int→Option R) (i_48:Int):Option R :=
 if (decide (i_48 < ((s_51.length:Nat):Int))) = true then
 ((at? s_51 i_48).bind fun e56 =>
 r12_Of N s_49 s_50 s_51 s_52 s_53 e56.Name (fun r57 r58 r59 r60 r61 r62 r63 r64 =>
 r12_names N r61 (fun r65 =>
 r12_chans_l5 N i_48 r65 s_49 s_50 s_51 s_52 s_53 v_54 v_55 (rec (IntKind.wrap .i64 (i_48 + 1)))
 (fun y80 y81 =>
 kp1 y80 y81) N 0)))
 else
 (kp0 )
def r12_chans_l3 (N:Nat) (s_49:Int) (s_50:List Chart) (s_51:List Inst) (s_52:List Chan) (s_53:List Cert) (v_54 v_55:Int) (kp0:Option R) (kp1:Int→Int→Option R):Nat→Int→Option R
 | 0=>fun _=>none
 | n + 1=>fun i_48=>r12_chans_l3_b N s_49 s_50 s_51 s_52 s_53 v_54 v_55 kp0 kp1 (r12_chans_l3 N s_49 s_50 s_51 s_52 s_53 v_54 v_55 kp0 kp1 n) i_48
def r12_chans (N:Nat) (Age:Int) (Charts:List Chart) (Insts:List Inst) (Chans:List Chan) (Certs:List Cert) (k0:Int→Int→Option R):Option R :=
 r12_chans_l0 N Age Charts Insts Chans Certs 0 0 (r12_chans_l3 N Age Charts Insts Chans Certs 0 0 (k0 0 0)
 (fun y82 y83 =>
 k0 y82 y83) N 0)
 (fun y46 y47 =>
 k0 y46 y47) N 0
def r12_chans_D (N:Nat):FD E0:={ f:=42,fn:=Tryz.f42,q:=⟨[y18],[]⟩,loops:=[{ cur:=0,live:=[1,2,3],out:=fun | .exit 0=>([1,2],[]) | .ret=>([2],[]) | _=>([],[]),q:=⟨[.p 0 0 0,.p 1 0 0,.i .i64],[z38,.bx [.i .i64,.i .i64]]⟩,G:=fun R K n a b c d e g h i=>r12_chans_l0 N b c d e g h i (pK ⟨[.p 0 0 0,.p 1 0 0],[z38,.bx [.i .i64,.i .i64]]⟩ (K (.exit 0)) b c d e g h i) (pK ⟨[.p 0 0 0],[.bx [.i .i64,.i .i64]]⟩ (K .ret)) n a,B:=fun R K rec a b c d e g h i=>r12_chans_l0_b N b c d e g h i (pK ⟨[.p 0 0 0,.p 1 0 0],[z38,.bx [.i .i64,.i .i64]]⟩ (K (.exit 0)) b c d e g h i) (pK ⟨[.p 0 0 0],[.bx [.i .i64,.i .i64]]⟩ (K .ret)) (fun a=>rec a b c d e g h i) a },{ cur:=5,live:=[1,2,5,6,7],out:=fun | .exit 5=>([1,2,5],[]) | .ret=>([2],[]) | _=>([],[]),q:=⟨[.p 0 0 0,.p 1 0 0,.i .i64,.t .str,.i .i64],[z38,.bx [.i .i64,.i .i64]]⟩,G:=fun R K n a b c d e g h i j l=>r12_chans_l5 N a b d e g h i j l (pK ⟨[.p 0 0 0,.p 1 0 0,.i .i64],[z38,.bx [.i .i64,.i .i64]]⟩ (K (.exit 5)) a d e g h i j l) (pK ⟨[.p 0 0 0],[.bx [.i .i64,.i .i64]]⟩ (K .ret)) n c,B:=fun R K rec a b c d e g h i j l=>r12_chans_l5_b N a b d e g h i j l (pK ⟨[.p 0 0 0,.p 1 0 0,.i .i64],[z38,.bx [.i .i64,.i .i64]]⟩ (K (.exit 5)) a d e g h i j l) (pK ⟨[.p 0 0 0],[.bx [.i .i64,.i .i64]]⟩ (K .ret)) (fun c=>rec a b c d e g h i j l) c },{ cur:=3,live:=[1,2,5],out:=fun | .exit 3=>([2],[]) | .ret=>([2],[]) | _=>([],[]),q:=⟨[.p 0 0 0,.p 1 0 0,.i .i64],[z38,.bx [.i .i64,.i .i64]]⟩,G:=fun R K n a b c d e g h i=>r12_chans_l3 N b c d e g h i (pK ⟨[.p 0 0 0],[.bx [.i .i64,.i .i64]]⟩ (K (.exit 3)) h i) (pK ⟨[.p 0 0 0],[.bx [.i .i64,.i .i64]]⟩ (K .ret)) n a,B:=fun R K rec a b c d e g h i=>r12_chans_l3_b N b c d e g h i (pK ⟨[.p 0 0 0],[.bx [.i .i64,.i .i64]]⟩ (K (.exit 3)) h i) (pK ⟨[.p 0 0 0],[.bx [.i .i64,.i .i64]]⟩ (K .ret)) (fun a=>rec a b c d e g h i) a }],cuts:=[{ key:=8,live:=[1,2,3,4,30],out:=fun | .ret=>([2],[]) | .normal=>([1,2,3],[]) | _=>([],[]),q:=⟨[.p 0 0 0,.p 1 0 0,.i .i64,.p 2 0 0,.b],[z38,.bx [.i .i64,.i .i64],z22]⟩,G:=fun R K a b c d e g h i j l m o p q s t=>r12_chans_c8 N a b c d e g h i j l m o p q s t (fun u=>pK ⟨[.p 0 0 0],[.bx [.i .i64,.i .i64]]⟩ (K .ret) u t) (pK ⟨[.p 0 0 0,.p 1 0 0,.i .i64],[z38,.bx [.i .i64,.i .i64]]⟩ (K .normal) a c d e g h i j) }],g:=[r12_at_S N,r12_Inst_S N,r12_Chan_S N,r12_has_S N,r12_names_S N,r12_Of_S N,r12_from_S N] }
def r12_chans_S (N:Nat):OC E0:=⟨_,FD.ct e0 (r12_chans_D N) N (fun R k a b c d e=>r12_chans N a b c d e (oK ⟨.ag [.i .i64,.i .i64],[],[]⟩ k))⟩
structure Fam_r12_history where
 r12_history:(R:Type)→(List State)→(Bool→Option R)→Option R
def r12_history_q:Pat S:=⟨[.t .state],[]⟩
def r12_history_C (F:Fam_r12_history):Ct S:=⟨148,r12_history_q,fun R k a=>F.r12_history R a (oK ⟨.b,[],[]⟩ k)⟩
structure Fam_r12_history_ok (F:Fam_r12_history):Prop where
 r12_history:(r12_history_C F).ok E0
def r12_history_l0_b (F:Fam_r12_history) (N:Nat) (l_1:List State) (kp0:Option R) (kp1:Bool→Option R) (rec:Int→Option R) (i_2:Int):Option R :=
 if (decide (i_2 < ((l_1.length:Nat):Int))) = true then
 ((at? l_1 i_2).bind fun e3 =>
 r12_isState N e3.Kind e3.Name e3.Entry e3.Exit e3.Trans e3.Kids e3.At (fun r4 =>
 (ifB (!r4) false ((at? l_1 i_2).bind fun e5 =>
 F.r12_history _ e5.Kids (fun r6 =>
 some r6)) (some true)).bind fun c7 =>
 if c7 = true then
 (kp1 true)
 else
 (rec (IntKind.wrap .i64 (i_2 + 1)))))
 else
 (kp0 )
def r12_history_l0 (F:Fam_r12_history) (N:Nat) (l_1:List State) (kp0:Option R) (kp1:Bool→Option R):Nat→Int→Option R
 | 0=>fun _=>none
 | n + 1=>fun i_2=>r12_history_l0_b F N l_1 kp0 kp1 (r12_history_l0 F N l_1 kp0 kp1 n) i_2
def r12_history_d (F:Fam_r12_history) (N:Nat) (l:List State) (k0:Bool→Option R):Option R :=
 r12_history_l0 F N l (k0 false)
 (fun y8 =>
 k0 y8) N 0
def r12_history_D (F:Fam_r12_history) (hF:Fam_r12_history_ok F) (N:Nat):FD E0:={ f:=148,fn:=Tryz.f148,q:=r12_history_q,loops:=[{ cur:=0,live:=[0,3],out:=fun | .exit 0=>([],[]) | .ret=>([2],[]) | _=>([],[]),q:=⟨[.t .state,.i .i64],[]⟩,G:=fun R K n a b=>r12_history_l0 F N a (pK ⟨[],[]⟩ (K (.exit 0))) (pK ⟨[.b],[]⟩ (K .ret)) n b,B:=fun R K rec a b=>r12_history_l0_b F N a (pK ⟨[],[]⟩ (K (.exit 0))) (pK ⟨[.b],[]⟩ (K .ret)) (rec a) b }],g:=[r12_isState_S N,⟨r12_history_C F,hF.r12_history⟩] }
theorem r12_history_okF (F:Fam_r12_history) (hF:Fam_r12_history_ok F) (N:Nat):Ct.ok E0 ⟨(r12_history_D F hF N).f,(r12_history_D F hF N).q,fun R k a=>r12_history_d F N a (oK ⟨.b,[],[]⟩ k)⟩:=FD.ct e0 (r12_history_D F hF N) N (fun R k a=>r12_history_d F N a (oK ⟨.b,[],[]⟩ k))
def Fam_r12_history_next (F:Fam_r12_history) (N:Nat):Fam_r12_history where
 r12_history:=fun R l k0=>r12_history_d F N l k0
def Fam_r12_history_at (N:Nat):Nat→Fam_r12_history
 | 0=>{ r12_history:=fun _ _ _=>none }
 | d + 1=>Fam_r12_history_next (Fam_r12_history_at N d) N
theorem Fam_r12_history_at_ok (N:Nat):∀ d,Fam_r12_history_ok (Fam_r12_history_at N d)
 | 0=>{ r12_history:=Ct.ok_none }
 | d + 1=>{ r12_history:=r12_history_okF _ (Fam_r12_history_at_ok N d) N }
def r12_history (N:Nat) (l:List State) (k0:Bool→Option R):Option R:=(Fam_r12_history_at N N).r12_history R l k0
theorem r12_history_at (N d:Nat) (l:List State) (k0:Bool→Option R):(Fam_r12_history_at N (d + 1)).r12_history R l k0 = r12_history_d (Fam_r12_history_at N d) N l k0:=rfl
def r12_history_S (N:Nat):OC E0:=⟨r12_history_C (Fam_r12_history_at N N),(Fam_r12_history_at_ok N N).r12_history⟩
def r13_kind (N:Nat) (Kind:Int) (Name:List UInt8) (Entry Exit:List Act) (Trans_:List Trans) (Kids:List State) (At:Int) (k0:Int→Option R):Option R :=
 if (Kind == 3) = true then
 (k0 4)
 else
 (if (Kind == 4) = true then
 (k0 5)
 else
 (if (Kind == 2) = true then
 (k0 3)
 else
 (if (((Kids.length:Nat):Int) == 0) = true then
 (k0 1)
 else
 (k0 2))))
def r13_kind_D (N:Nat):FD E0:={ f:=204,fn:=Tryz.f204,q:=⟨[y2],[]⟩ }
def r13_kind_S (N:Nat):OC E0:=⟨_,FD.ct e0 (r13_kind_D N) N (fun R k a b c d e g h=>r13_kind N a b c d e g h (oK ⟨.i .i64,[],[]⟩ k))⟩
def y19:Sh S:=.ag [.i .i64,.i .i64,.i .i64,.i .i64,.i .i64,.i .i64,.st]
def r13_IsState (N:Nat) (Kind Parent Last Init Entry Exit:Int) (Name:List UInt8) (k0:Bool→Option R):Option R :=
 k0 (decide (Kind ≤ 3))
def r13_IsState_D (N:Nat):FD E0:={ f:=173,fn:=Tryz.f173,q:=⟨[y19],[]⟩ }
def r13_IsState_S (N:Nat):OC E0:=⟨_,FD.ct e0 (r13_IsState_D N) N (fun R k a b c d e g h=>r13_IsState N a b c d e g h (oK ⟨.b,[],[]⟩ k))⟩
structure Fam_r13_put where
 r13_put:(R:Type)→(List State)→Int→(List Node)→((List Node)→Option R)→Option R
def r13_put_q:Pat S:=⟨[.sw 0,.t .state,.i .i64],[.rw .node .own]⟩
def r13_put_C (F:Fam_r13_put):Ct S:=⟨189,r13_put_q,fun R k a b c=>F.r13_put R a b c (oK ⟨.sw 1,[.g],[.rw .node .own]⟩ k)⟩
structure Fam_r13_put_ok (F:Fam_r13_put):Prop where
 r13_put:(r13_put_C F).ok E0
def r13_put_c8 (F:Fam_r13_put) (N:Nat) (kids_14:List State) (up_15 i_16 at_17:Int) (l_18:List Node) (kp0:(List Node)→Option R):Option R :=
 (at? kids_14 i_16).bind fun e19 =>
 F.r13_put _ e19.Kids at_17 l_18 (fun r20 =>
 if (0:Int) ≤ at_17 ∧ at_17 < (r20.length:Int) then (match r20[at_17.toNat]? with
 | some e21=>(kp0 (r20.set at_17.toNat (⟨e21.Kind,e21.Parent,IntKind.wrap .i64 (((r20.length:Nat):Int) - 1),e21.Init,e21.Entry,e21.Exit,e21.Name⟩:Node)))
 | none=>none) else none)
def r13_put_l0_b (F:Fam_r13_put) (N:Nat) (kids_23:List State) (up_24:Int) (kp0:(List Node)→Option R) (rec:Int→(List Node)→Option R) (i_25:Int) (l_26:List Node):Option R :=
 if (decide (i_25 < ((kids_23.length:Nat):Int))) = true then
 ((at? kids_23 i_25).bind fun e27 =>
 r13_kind N e27.Kind e27.Name e27.Entry e27.Exit e27.Trans e27.Kids e27.At (fun r28 =>
 (at? kids_23 i_25).bind fun e29 =>
 if l_26.length + [(⟨r28,up_24,0,(-1),(-1),(-1),e29.Name⟩:Node)].length ≤ maxRow then (if (0:Int) ≤ up_24 ∧ up_24 < ((l_26 ++ [(⟨r28,up_24,0,(-1),(-1),(-1),e29.Name⟩:Node)]).length:Int) then (match (l_26 ++ [(⟨r28,up_24,0,(-1),(-1),(-1),e29.Name⟩:Node)])[up_24.toNat]? with
 | some e30=>((ifB (decide (e30.Init < 0)) true (if (0:Int) ≤ up_24 ∧ up_24 < ((l_26 ++ [(⟨r28,up_24,0,(-1),(-1),(-1),e29.Name⟩:Node)]).length:Int) then (match (l_26 ++ [(⟨r28,up_24,0,(-1),(-1),(-1),e29.Name⟩:Node)])[up_24.toNat]? with
 | some e31=>(some (e31.Kind == 2))
 | none=>none) else none) (some false)).bind fun c32 =>
 (ifB c32 true (if (0:Int) ≤ ((l_26.length:Nat):Int) ∧ ((l_26.length:Nat):Int) < ((l_26 ++ [(⟨r28,up_24,0,(-1),(-1),(-1),e29.Name⟩:Node)]).length:Int) then (match (l_26 ++ [(⟨r28,up_24,0,(-1),(-1),(-1),e29.Name⟩:Node)])[((l_26.length:Nat):Int).toNat]? with
 | some e33=>(some (decide (e33.Kind ≤ 3)))
 | none=>none) else none) (some false)).bind fun c34 =>
 if c34 = true then
 (if (0:Int) ≤ up_24 ∧ up_24 < ((l_26 ++ [(⟨r28,up_24,0,(-1),(-1),(-1),e29.Name⟩:Node)]).length:Int) then (match (l_26 ++ [(⟨r28,up_24,0,(-1),(-1),(-1),e29.Name⟩:Node)])[up_24.toNat]? with
 | some e35=>(r13_put_c8 F N kids_23 up_24 i_25 ((l_26.length:Nat):Int) ((l_26 ++ [(⟨r28,up_24,0,(-1),(-1),(-1),e29.Name⟩:Node)]).set up_24.toNat (⟨e35.Kind,e35.Parent,e35.Last,((l_26.length:Nat):Int),e35.Entry,e35.Exit,e35.Name⟩:Node)) (fun y36 =>
 rec (IntKind.wrap .i64 (i_25 + 1)) y36))
 | none=>none) else none)
 else
 (r13_put_c8 F N kids_23 up_24 i_25 ((l_26.length:Nat):Int) (l_26 ++ [(⟨r28,up_24,0,(-1),(-1),(-1),e29.Name⟩:Node)]) (fun y37 =>
 rec (IntKind.wrap .i64 (i_25 + 1)) y37)))
 | none=>none) else none) else none))
 else
 (kp0 l_26)
def r13_put_l0 (F:Fam_r13_put) (N:Nat) (kids_23:List State) (up_24:Int) (kp0:(List Node)→Option R):Nat→Int→(List Node)→Option R
 | 0=>fun _ _=>none
 | n + 1=>fun i_25 l_26=>r13_put_l0_b F N kids_23 up_24 kp0 (r13_put_l0 F N kids_23 up_24 kp0 n) i_25 l_26
def r13_put_d (F:Fam_r13_put) (N:Nat) (kids:List State) (up:Int) (l:List Node) (k0:(List Node)→Option R):Option R :=
 r13_put_l0 F N kids up (fun y38 =>
 k0 y38) N 0 l
def r13_put_D (F:Fam_r13_put) (hF:Fam_r13_put_ok F) (N:Nat):FD E0:={ f:=189,fn:=Tryz.f189,q:=r13_put_q,loops:=[{ cur:=0,live:=[0,1,2,7],fix:=[(⟨0,[]⟩,.fresh .node .own)],out:=fun | .exit 0=>([0],[]) | _=>([],[]),q:=⟨[.sw 1,.t .state,.i .i64,.i .i64],[.g,.rw .node .own]⟩,G:=fun R K n a b c d=>r13_put_l0 F N a b (pK ⟨[.sw 1],[.g,.rw .node .own]⟩ (K (.exit 0))) n c d,B:=fun R K rec a b c d=>r13_put_l0_b F N a b (pK ⟨[.sw 1],[.g,.rw .node .own]⟩ (K (.exit 0))) (rec a b) c d }],cuts:=[{ key:=8,live:=[0,1,2,7,8],out:=fun | .normal=>([0,1,2,7],[]) | _=>([],[]),q:=⟨[.sw 1,.t .state,.i .i64,.i .i64,.i .i64],[.g,.rw .node .own]⟩,G:=fun R K a b c d e=>r13_put_c8 F N a b c d e (pK ⟨[.sw 1,.t .state,.i .i64,.i .i64],[.g,.rw .node .own]⟩ (K .normal) a b c) }],g:=[r13_IsState_S N,⟨r13_put_C F,hF.r13_put⟩,r13_kind_S N] }
theorem r13_put_okF (F:Fam_r13_put) (hF:Fam_r13_put_ok F) (N:Nat):Ct.ok E0 ⟨(r13_put_D F hF N).f,(r13_put_D F hF N).q,fun R k a b c=>r13_put_d F N a b c (oK ⟨.sw 1,[.g],[.rw .node .own]⟩ k)⟩:=FD.ct e0 (r13_put_D F hF N) N (fun R k a b c=>r13_put_d F N a b c (oK ⟨.sw 1,[.g],[.rw .node .own]⟩ k))
def Fam_r13_put_next (F:Fam_r13_put) (N:Nat):Fam_r13_put where
 r13_put:=fun R kids up l k0=>r13_put_d F N kids up l k0
def Fam_r13_put_at (N:Nat):Nat→Fam_r13_put
 | 0=>{ r13_put:=fun _ _ _ _ _=>none }
 | d + 1=>Fam_r13_put_next (Fam_r13_put_at N d) N
theorem Fam_r13_put_at_ok (N:Nat):∀ d,Fam_r13_put_ok (Fam_r13_put_at N d)
 | 0=>{ r13_put:=Ct.ok_none }
 | d + 1=>{ r13_put:=r13_put_okF _ (Fam_r13_put_at_ok N d) N }
def r13_put (N:Nat) (kids:List State) (up:Int) (l:List Node) (k0:(List Node)→Option R):Option R:=(Fam_r13_put_at N N).r13_put R kids up l k0
theorem r13_put_at (N d:Nat) (kids:List State) (up:Int) (l:List Node) (k0:(List Node)→Option R):(Fam_r13_put_at N (d + 1)).r13_put R kids up l k0 = r13_put_d (Fam_r13_put_at N d) N kids up l k0:=rfl
def r13_put_S (N:Nat):OC E0:=⟨r13_put_C (Fam_r13_put_at N N),(Fam_r13_put_at_ok N N).r13_put⟩
def r13_Nodes (N:Nat) (Name:List UInt8) (Steps Fuel:Int) (Vars Ports Timers:List Named) (States:List State) (At:Int) (k0:(List Node)→Option R):Option R :=
 r13_put N States 0 ([(⟨2,(-1),0,(-1),(-1),(-1),[]⟩:Node)]) (fun r1 =>
 if (0:Int) ≤ 0 ∧ 0 < (r1.length:Int) then (match r1[(Int.toNat 0)]? with
 | some e2=>(k0 (r1.set (Int.toNat 0) (⟨e2.Kind,e2.Parent,IntKind.wrap .i64 (((r1.length:Nat):Int) - 1),e2.Init,e2.Entry,e2.Exit,e2.Name⟩:Node)))
 | none=>none) else none)
def r13_Nodes_D (N:Nat):FD E0:={ f:=171,fn:=Tryz.f171,q:=⟨[y12],[]⟩,g:=[r13_put_S N],mode:=fun | 5=>.own | _=>.app,exit:=[(⟨2,[]⟩,.tree .node)] }
def r13_Nodes_S (N:Nat):OC E0:=⟨_,FD.ct e0 (r13_Nodes_D N) N (fun R k a b c d e g h i=>r13_Nodes N a b c d e g h i (oK ⟨.t .node,[],[]⟩ k))⟩
def r13_Find_l0_b (N:Nat) (l_1:List Node) (name_2:List UInt8) (kp0:Option R) (kp1:Int→Option R) (rec:Int→Option R) (i_3:Int):Option R :=
 if (decide (i_3 < ((l_1.length:Nat):Int))) = true then
 ((at? l_1 i_3).bind fun e4 =>
 if (e4.Name == name_2) = true then
 (kp1 i_3)
 else
 (rec (IntKind.wrap .i64 (i_3 + 1))))
 else
 (kp0 )
def r13_Find_l0 (N:Nat) (l_1:List Node) (name_2:List UInt8) (kp0:Option R) (kp1:Int→Option R):Nat→Int→Option R
 | 0=>fun _=>none
 | n + 1=>fun i_3=>r13_Find_l0_b N l_1 name_2 kp0 kp1 (r13_Find_l0 N l_1 name_2 kp0 kp1 n) i_3
def r13_Find (N:Nat) (l:List Node) (name:List UInt8) (k0:Int→Option R):Option R :=
 r13_Find_l0 N l name (k0 (-1))
 (fun y5 =>
 k0 y5) N 1
def r13_Find_D (N:Nat):FD E0:={ f:=172,fn:=Tryz.f172,q:=⟨[.t .node,.st],[]⟩,loops:=[{ cur:=0,live:=[0,1,5],out:=fun | .exit 0=>([],[]) | .ret=>([4],[]) | _=>([],[]),q:=⟨[.t .node,.st,.i .i64],[]⟩,G:=fun R K n a b c=>r13_Find_l0 N a b (pK ⟨[],[]⟩ (K (.exit 0))) (pK ⟨[.i .i64],[]⟩ (K .ret)) n c,B:=fun R K rec a b c=>r13_Find_l0_b N a b (pK ⟨[],[]⟩ (K (.exit 0))) (pK ⟨[.i .i64],[]⟩ (K .ret)) (rec a b) c }] }
def r13_Find_S (N:Nat):OC E0:=⟨_,FD.ct e0 (r13_Find_D N) N (fun R k a b=>r13_Find N a b (oK ⟨.i .i64,[],[]⟩ k))⟩
def r12_state (N:Nat) (Name:List UInt8) (Steps Fuel:Int) (Vars Ports Timers:List Named) (States:List State) (At:Int) (name:List UInt8) (k0:Bool→Option R):Option R :=
 r13_Nodes N Name Steps Fuel Vars Ports Timers States At (fun r1 =>
 r13_Find N r1 name (fun r2 =>
 (ifB (decide (r2 > 0)) true ((at? r1 r2).bind fun e3 =>
 some (decide (e3.Kind ≤ 3))) (some false)).bind fun c4 =>
 k0 c4))
def r12_state_D (N:Nat):FD E0:={ f:=149,fn:=Tryz.f149,q:=⟨[y12,.st],[]⟩,g:=[r13_Nodes_S N,r13_Find_S N,r13_IsState_S N] }
def r12_state_S (N:Nat):OC E0:=⟨_,FD.ct e0 (r12_state_D N) N (fun R k a b c d e g h i j=>r12_state N a b c d e g h i j (oK ⟨.b,[],[]⟩ k))⟩
def r12_members_l0_b (N:Nat) (s_2:Int) (s_3:List Chart) (s_4:List Inst) (s_5:List Chan) (s_6:List Cert) (x_7 x_8 x_9 x_10:List UInt8) (x_11 x_12:List (List UInt8)) (x_13:List Cell) (x_14:Int) (kp0:Option R) (kp1:Int→Option R) (rec:Int→Option R) (i_1:Int):Option R :=
 if (decide (i_1 < ((x_11.length:Nat):Int))) = true then
 ((at? x_11 i_1).bind fun e15 =>
 r12_Inst N s_2 s_3 s_4 s_5 s_6 e15 (fun r16 =>
 if (decide (r16 < 0)) = true then
 (kp1 7)
 else
 (if (0:Int) ≤ 0 ∧ 0 ≤ i_1 ∧ i_1 ≤ ((x_11.length:Nat):Int) then ((at? x_11 i_1).bind fun e17 =>
 r12_has N ((x_11.take i_1.toNat).drop (Int.toNat 0)) e17 (fun r18 =>
 if r18 = true then
 (kp1 8)
 else
 ((at? x_11 i_1).bind fun e19 =>
 r12_Of N s_2 s_3 s_4 s_5 s_6 e19 (fun r20 r21 r22 r23 r24 r25 r26 r27 =>
 r12_history N r26 (fun r28 =>
 if r28 = true then
 (kp1 17)
 else
 (rec (IntKind.wrap .i64 (i_1 + 1)))))))) else none)))
 else
 (kp0 )
def r12_members_l0 (N:Nat) (s_2:Int) (s_3:List Chart) (s_4:List Inst) (s_5:List Chan) (s_6:List Cert) (x_7 x_8 x_9 x_10:List UInt8) (x_11 x_12:List (List UInt8)) (x_13:List Cell) (x_14:Int) (kp0:Option R) (kp1:Int→Option R):Nat→Int→Option R
 | 0=>fun _=>none
 | n + 1=>fun i_1=>r12_members_l0_b N s_2 s_3 s_4 s_5 s_6 x_7 x_8 x_9 x_10 x_11 x_12 x_13 x_14 kp0 kp1 (r12_members_l0 N s_2 s_3 s_4 s_5 s_6 x_7 x_8 x_9 x_10 x_11 x_12 x_13 x_14 kp0 kp1 n) i_1
def r12_members_l3_b (N:Nat) (s_65:Int) (s_66:List Chart) (s_67:List Inst) (s_68:List Chan) (s_69:List Cert) (x_70 x_71 x_72 x_73:List UInt8) (x_74 x_75:List (List UInt8)) (x_76:List Cell) (x_77:Int) (kp0:Option R) (kp1:Int→Option R) (rec:Int→Option R) (i_64:Int):Option R :=
 if (decide (i_64 < ((x_75.length:Nat):Int))) = true then
 ((at? x_75 i_64).bind fun e78 =>
 r12_Chan N s_65 s_66 s_67 s_68 s_69 e78 (fun r79 =>
 if (decide (r79 < 0)) = true then
 (kp1 7)
 else
 (if (0:Int) ≤ 0 ∧ 0 ≤ i_64 ∧ i_64 ≤ ((x_75.length:Nat):Int) then ((at? x_75 i_64).bind fun e80 =>
 r12_has N ((x_75.take i_64.toNat).drop (Int.toNat 0)) e80 (fun r81 =>
 if r81 = true then
 (kp1 8)
 else
 ((at? s_68 r79).bind fun e82 =>
 r12_has N x_74 e82.From (fun r83 =>
 (ifB (!r83) false ((at? s_68 r79).bind fun e84 =>
 r12_has N x_74 e84.To (fun r85 =>
 some (!r85))) (some true)).bind fun c86 =>
 if c86 = true then
 (kp1 17)
 else
 (rec (IntKind.wrap .i64 (i_64 + 1))))))) else none)))
 else
 (kp0 )
def r12_members_l3 (N:Nat) (s_65:Int) (s_66:List Chart) (s_67:List Inst) (s_68:List Chan) (s_69:List Cert) (x_70 x_71 x_72 x_73:List UInt8) (x_74 x_75:List (List UInt8)) (x_76:List Cell) (x_77:Int) (kp0:Option R) (kp1:Int→Option R):Nat→Int→Option R
 | 0=>fun _=>none
 | n + 1=>fun i_64=>r12_members_l3_b N s_65 s_66 s_67 s_68 s_69 x_70 x_71 x_72 x_73 x_74 x_75 x_76 x_77 kp0 kp1 (r12_members_l3 N s_65 s_66 s_67 s_68 s_69 x_70 x_71 x_72 x_73 x_74 x_75 x_76 x_77 kp0 kp1 n) i_64
def r12_members_c12 (N:Nat) (s_51:Int) (s_52:List Chart) (s_53:List Inst) (s_54:List Chan) (s_55:List Cert) (x_56 x_57 x_58 x_59:List UInt8) (x_60 x_61:List (List UInt8)) (x_62:List Cell) (x_63:Int) (kp0:Int→Option R):Option R :=
 if (x_58 == x_59) = true then
 (kp0 17)
 else
 (r12_members_l3 N s_51 s_52 s_53 s_54 s_55 x_56 x_57 x_58 x_59 x_60 x_61 x_62 x_63 (kp0 0)
 (fun y87 =>
 kp0 y87) N 0)
def r12_members (N:Nat) (Age:Int) (Charts:List Chart) (Insts:List Inst) (Chans:List Chan) (Certs:List Cert) (Name Inst_ Req Resp:List UInt8) (Insts_2 Chans_2:List (List UInt8)) (Cells:List Cell) (At:Int) (k0:Int→Option R):Option R :=
 r12_members_l0 N Age Charts Insts Chans Certs Name Inst_ Req Resp Insts_2 Chans_2 Cells At (r12_has N Insts_2 Inst_ (fun r30 =>
 (ifB (!r30) false (r12_Of N Age Charts Insts Chans Certs Inst_ (fun r31 r32 r33 r34 r35 r36 r37 r38 =>
 r12_state N r31 r32 r33 r34 r35 r36 r37 r38 Req (fun r39 =>
 some (!r39)))) (some true)).bind fun c40 =>
 (ifB c40 false (r12_Of N Age Charts Insts Chans Certs Inst_ (fun r41 r42 r43 r44 r45 r46 r47 r48 =>
 r12_state N r41 r42 r43 r44 r45 r46 r47 r48 Resp (fun r49 =>
 some (!r49)))) (some true)).bind fun c50 =>
 if c50 = true then
 (k0 7)
 else
 (r12_members_c12 N Age Charts Insts Chans Certs Name Inst_ Req Resp Insts_2 Chans_2 Cells At (fun y88 =>
 k0 y88))))
 (fun y29 =>
 k0 y29) N 0
def r12_members_D (N:Nat):FD E0:={ f:=101,fn:=Tryz.f101,q:=⟨[y18,y17],[]⟩,loops:=[{ cur:=0,live:=[2,3,5],out:=fun | .exit 0=>([2,3],[]) | .ret=>([4],[]) | _=>([],[]),q:=⟨[.p 0 0 0,.p 1 0 0,.i .i64],[z38,z36]⟩,G:=fun R K n a b c d e g h i j l m o p q=>r12_members_l0 N b c d e g h i j l m o p q (pK ⟨[.p 0 0 0,.p 1 0 0],[z38,z36]⟩ (K (.exit 0)) b c d e g h i j l m o p q) (pK ⟨[.i .i64],[]⟩ (K .ret)) n a,B:=fun R K rec a b c d e g h i j l m o p q=>r12_members_l0_b N b c d e g h i j l m o p q (pK ⟨[.p 0 0 0,.p 1 0 0],[z38,z36]⟩ (K (.exit 0)) b c d e g h i j l m o p q) (pK ⟨[.i .i64],[]⟩ (K .ret)) (fun a=>rec a b c d e g h i j l m o p q) a },{ cur:=3,live:=[2,3,6],out:=fun | .exit 3=>([],[]) | .ret=>([4],[]) | _=>([],[]),q:=⟨[.p 0 0 0,.p 1 0 0,.i .i64],[z38,z36]⟩,G:=fun R K n a b c d e g h i j l m o p q=>r12_members_l3 N b c d e g h i j l m o p q (pK ⟨[],[]⟩ (K (.exit 3))) (pK ⟨[.i .i64],[]⟩ (K .ret)) n a,B:=fun R K rec a b c d e g h i j l m o p q=>r12_members_l3_b N b c d e g h i j l m o p q (pK ⟨[],[]⟩ (K (.exit 3))) (pK ⟨[.i .i64],[]⟩ (K .ret)) (fun a=>rec a b c d e g h i j l m o p q) a }],cuts:=[{ key:=12,live:=[2,3],out:=fun | .ret=>([4],[]) | _=>([],[]),q:=⟨[.p 0 0 0,.p 1 0 0],[z38,z36]⟩,G:=fun R K a b c d e g h i j l m o p=>r12_members_c12 N a b c d e g h i j l m o p (pK ⟨[.i .i64],[]⟩ (K .ret)) }],g:=[r12_Inst_S N,r12_Chan_S N,r12_has_S N,r12_Of_S N,r12_history_S N,r12_state_S N] }
def r12_members_S (N:Nat):OC E0:=⟨_,FD.ct e0 (r12_members_D N) N (fun R k a b c d e g h i j l m o p=>r12_members N a b c d e g h i j l m o p (oK ⟨.i .i64,[],[]⟩ k))⟩
def r13_Is (N:Nat) (l:List Node) (i:Int) (k0:Bool→Option R):Option R :=
 (ifB (decide (i ≥ 0)) true (some (decide (i < ((l.length:Nat):Int)))) (some false)).bind fun c1 =>
 k0 c1
def r13_Is_D (N:Nat):FD E0:={ f:=190,fn:=Tryz.f190,q:=⟨[.t .node,.i .i64],[]⟩ }
def r13_Is_S (N:Nat):OC E0:=⟨_,FD.ct e0 (r13_Is_D N) N (fun R k a b=>r13_Is N a b (oK ⟨.b,[],[]⟩ k))⟩
def r3_Has_l0_b (N:Nat) (l_1:List Int) (i_2:Int) (kp0:Option R) (kp1:Bool→Option R) (rec:Int→Option R) (k_3:Int):Option R :=
 if (decide (k_3 < ((l_1.length:Nat):Int))) = true then
 ((at? l_1 k_3).bind fun e4 =>
 if (e4 == i_2) = true then
 (kp1 true)
 else
 (rec (IntKind.wrap .i64 (k_3 + 1))))
 else
 (kp0 )
def r3_Has_l0 (N:Nat) (l_1:List Int) (i_2:Int) (kp0:Option R) (kp1:Bool→Option R):Nat→Int→Option R
 | 0=>fun _=>none
 | n + 1=>fun k_3=>r3_Has_l0_b N l_1 i_2 kp0 kp1 (r3_Has_l0 N l_1 i_2 kp0 kp1 n) k_3
def r3_Has (N:Nat) (l:List Int) (i:Int) (k0:Bool→Option R):Option R :=
 r3_Has_l0 N l i (k0 false)
 (fun y5 =>
 k0 y5) N 0
def r3_Has_D (N:Nat):FD E0:={ f:=191,fn:=Tryz.f191,q:=⟨[.t .int,.i .i64],[]⟩,loops:=[{ cur:=0,live:=[0,1,5],out:=fun | .exit 0=>([],[]) | .ret=>([4],[]) | _=>([],[]),q:=⟨[.t .int,.i .i64,.i .i64],[]⟩,G:=fun R K n a b c=>r3_Has_l0 N a b (pK ⟨[],[]⟩ (K (.exit 0))) (pK ⟨[.b],[]⟩ (K .ret)) n c,B:=fun R K rec a b c=>r3_Has_l0_b N a b (pK ⟨[],[]⟩ (K (.exit 0))) (pK ⟨[.b],[]⟩ (K .ret)) (rec a b) c }] }
def r3_Has_S (N:Nat):OC E0:=⟨_,FD.ct e0 (r3_Has_D N) N (fun R k a b=>r3_Has N a b (oK ⟨.b,[],[]⟩ k))⟩
def r3_Of_l0_b (N:Nat) (l_4:List Int) (kp0:(List Int)→Option R) (rec:Int→(List Int)→Option R) (i_5:Int) (out_6:List Int):Option R :=
 if (decide (i_5 < 128)) = true then
 (r3_Has N l_4 i_5 (fun r7 =>
 if r7 = true then
 (if out_6.length + [i_5].length ≤ maxRow then (rec (IntKind.wrap .i64 (i_5 + 1)) (out_6 ++ [i_5])) else none)
 else
 (rec (IntKind.wrap .i64 (i_5 + 1)) out_6)))
 else
 (kp0 out_6)
def r3_Of_l0 (N:Nat) (l_4:List Int) (kp0:(List Int)→Option R):Nat→Int→(List Int)→Option R
 | 0=>fun _ _=>none
 | n + 1=>fun i_5 out_6=>r3_Of_l0_b N l_4 kp0 (r3_Of_l0 N l_4 kp0 n) i_5 out_6
def r3_Of (N:Nat) (l:List Int) (k0:(List Int)→Option R):Option R :=
 r3_Of_l0 N l (fun y8 =>
 k0 y8) N 0 ([]:List Int)
def r3_Of_D (N:Nat):FD E0:={ f:=192,fn:=Tryz.f192,q:=⟨[.t .int],[]⟩,loops:=[{ cur:=0,live:=[0,3,4],fix:=[(⟨3,[]⟩,.row .int .app)],out:=fun | .exit 0=>([3],[]) | _=>([],[]),q:=⟨[.t .int,.sw 0,.i .i64],[.rw .int .app]⟩,G:=fun R K n a b c=>r3_Of_l0 N a (pK ⟨[.sw 0],[.rw .int .app]⟩ (K (.exit 0))) n b c,B:=fun R K rec a b c=>r3_Of_l0_b N a (pK ⟨[.sw 0],[.rw .int .app]⟩ (K (.exit 0))) (rec a) b c }],g:=[r3_Has_S N],exit:=[(⟨2,[]⟩,.tree .int)] }
def r3_Of_S (N:Nat):OC E0:=⟨_,FD.ct e0 (r3_Of_D N) N (fun R k a=>r3_Of N a (oK ⟨.t .int,[],[]⟩ k))⟩
def r13_Kids_l0_b (N:Nat) (l_7:List Node) (i_8:Int) (kp0:(List Int)→Option R) (rec:Int→(List Int)→Option R) (k_9:Int) (out_10:List Int):Option R :=
 (ifB (decide (k_9 < ((l_7.length:Nat):Int))) true (r13_Is N l_7 i_8 (fun r11 =>
 some r11)) (some false)).bind fun c12 =>
 if c12 = true then
 ((at? l_7 k_9).bind fun e13 =>
 if (e13.Parent == i_8) = true then
 (if out_10.length + [k_9].length ≤ maxRow then (rec (IntKind.wrap .i64 (k_9 + 1)) (out_10 ++ [k_9])) else none)
 else
 (rec (IntKind.wrap .i64 (k_9 + 1)) out_10))
 else
 (kp0 out_10)
def r13_Kids_l0 (N:Nat) (l_7:List Node) (i_8:Int) (kp0:(List Int)→Option R):Nat→Int→(List Int)→Option R
 | 0=>fun _ _=>none
 | n + 1=>fun k_9 out_10=>r13_Kids_l0_b N l_7 i_8 kp0 (r13_Kids_l0 N l_7 i_8 kp0 n) k_9 out_10
def r13_Kids (N:Nat) (l:List Node) (i:Int) (k0:(List Int)→Option R):Option R :=
 r13_Kids_l0 N l i (fun y14 =>
 k0 y14) N 0 ([]:List Int)
def r13_Kids_D (N:Nat):FD E0:={ f:=210,fn:=Tryz.f210,q:=⟨[.t .node,.i .i64],[]⟩,loops:=[{ cur:=0,live:=[0,1,5,6],fix:=[(⟨5,[]⟩,.row .int .app)],out:=fun | .exit 0=>([5],[]) | _=>([],[]),q:=⟨[.t .node,.i .i64,.sw 0,.i .i64],[.rw .int .app]⟩,G:=fun R K n a b c d=>r13_Kids_l0 N a b (pK ⟨[.sw 0],[.rw .int .app]⟩ (K (.exit 0))) n c d,B:=fun R K rec a b c d=>r13_Kids_l0_b N a b (pK ⟨[.sw 0],[.rw .int .app]⟩ (K (.exit 0))) (rec a b) c d }],g:=[r13_Is_S N],exit:=[(⟨4,[]⟩,.tree .int)] }
def r13_Kids_S (N:Nat):OC E0:=⟨_,FD.ct e0 (r13_Kids_D N) N (fun R k a b=>r13_Kids N a b (oK ⟨.t .int,[],[]⟩ k))⟩
def r13_States_l0_b (N:Nat) (l_8:List Node) (k_9:List Int) (kp0:(List Int)→Option R) (rec:Int→(List Int)→Option R) (j_10:Int) (out_11:List Int):Option R :=
 if (decide (j_10 < ((k_9.length:Nat):Int))) = true then
 ((at? k_9 j_10).bind fun e12 =>
 (at? l_8 e12).bind fun e13 =>
 if (decide (e13.Kind ≤ 3)) = true then
 ((at? k_9 j_10).bind fun e14 =>
 if out_11.length + [e14].length ≤ maxRow then (rec (IntKind.wrap .i64 (j_10 + 1)) (out_11 ++ [e14])) else none)
 else
 (rec (IntKind.wrap .i64 (j_10 + 1)) out_11))
 else
 (kp0 out_11)
def r13_States_l0 (N:Nat) (l_8:List Node) (k_9:List Int) (kp0:(List Int)→Option R):Nat→Int→(List Int)→Option R
 | 0=>fun _ _=>none
 | n + 1=>fun j_10 out_11=>r13_States_l0_b N l_8 k_9 kp0 (r13_States_l0 N l_8 k_9 kp0 n) j_10 out_11
def r13_States (N:Nat) (l:List Node) (i:Int) (k0:(List Int)→Option R):Option R :=
 r13_Kids N l i (fun r1 =>
 r13_States_l0 N l r1 (fun y15 =>
 k0 y15) N 0 ([]:List Int))
def r13_States_D (N:Nat):FD E0:={ f:=206,fn:=Tryz.f206,q:=⟨[.t .node,.i .i64],[]⟩,loops:=[{ cur:=0,live:=[0,5,6,7],fix:=[(⟨5,[]⟩,.row .int .app)],out:=fun | .exit 0=>([5],[]) | _=>([],[]),q:=⟨[.t .node,.sw 0,.t .int,.i .i64],[.rw .int .app]⟩,G:=fun R K n a b c d=>r13_States_l0 N a b (pK ⟨[.sw 0],[.rw .int .app]⟩ (K (.exit 0))) n c d,B:=fun R K rec a b c d=>r13_States_l0_b N a b (pK ⟨[.sw 0],[.rw .int .app]⟩ (K (.exit 0))) (rec a b) c d }],g:=[r13_IsState_S N,r13_Kids_S N],exit:=[(⟨4,[]⟩,.tree .int)] }
def r13_States_S (N:Nat):OC E0:=⟨_,FD.ct e0 (r13_States_D N) N (fun R k a b=>r13_States N a b (oK ⟨.t .int,[],[]⟩ k))⟩
def r3_Not_l0_b (N:Nat) (a_7 b_8:List Int) (kp0:(List Int)→Option R) (rec:Int→(List Int)→Option R) (i_9:Int) (out_10:List Int):Option R :=
 if (decide (i_9 < ((a_7.length:Nat):Int))) = true then
 ((at? a_7 i_9).bind fun e11 =>
 r3_Has N b_8 e11 (fun r12 =>
 if (!r12) = true then
 ((at? a_7 i_9).bind fun e13 =>
 if out_10.length + [e13].length ≤ maxRow then (rec (IntKind.wrap .i64 (i_9 + 1)) (out_10 ++ [e13])) else none)
 else
 (rec (IntKind.wrap .i64 (i_9 + 1)) out_10)))
 else
 (kp0 out_10)
def r3_Not_l0 (N:Nat) (a_7 b_8:List Int) (kp0:(List Int)→Option R):Nat→Int→(List Int)→Option R
 | 0=>fun _ _=>none
 | n + 1=>fun i_9 out_10=>r3_Not_l0_b N a_7 b_8 kp0 (r3_Not_l0 N a_7 b_8 kp0 n) i_9 out_10
def r3_Not (N:Nat) (a b:List Int) (k0:(List Int)→Option R):Option R :=
 r3_Not_l0 N a b (fun y14 =>
 k0 y14) N 0 ([]:List Int)
def r3_Not_D (N:Nat):FD E0:={ f:=209,fn:=Tryz.f209,q:=⟨[.t .int,.t .int],[]⟩,loops:=[{ cur:=0,live:=[0,1,5,6],fix:=[(⟨5,[]⟩,.row .int .app)],out:=fun | .exit 0=>([5],[]) | _=>([],[]),q:=⟨[.t .int,.t .int,.sw 0,.i .i64],[.rw .int .app]⟩,G:=fun R K n a b c d=>r3_Not_l0 N a b (pK ⟨[.sw 0],[.rw .int .app]⟩ (K (.exit 0))) n c d,B:=fun R K rec a b c d=>r3_Not_l0_b N a b (pK ⟨[.sw 0],[.rw .int .app]⟩ (K (.exit 0))) (rec a b) c d }],g:=[r3_Has_S N],exit:=[(⟨4,[]⟩,.tree .int)] }
def r3_Not_S (N:Nat):OC E0:=⟨_,FD.ct e0 (r3_Not_D N) N (fun R k a b=>r3_Not N a b (oK ⟨.t .int,[],[]⟩ k))⟩
def r3_And (N:Nat) (a b:List Int) (k0:(List Int)→Option R):Option R :=
 r3_Not N a b (fun r1 =>
 r3_Not N a r1 (fun r2 =>
 k0 r2))
def r3_And_D (N:Nat):FD E0:={ f:=205,fn:=Tryz.f205,q:=⟨[.t .int,.t .int],[]⟩,g:=[r3_Not_S N],exit:=[(⟨4,[]⟩,.tree .int)] }
def r3_And_S (N:Nat):OC E0:=⟨_,FD.ct e0 (r3_And_D N) N (fun R k a b=>r3_And N a b (oK ⟨.t .int,[],[]⟩ k))⟩
def r13_Legal_l0_b (N:Nat) (l_2:List Node) (conf_3:List Int) (kp0:Option R) (kp1:Bool→Option R) (rec:Int→Option R) (i_4:Int):Option R :=
 if (decide (i_4 < ((conf_3.length:Nat):Int))) = true then
 ((at? conf_3 i_4).bind fun e5 =>
 r13_Is N l_2 e5 (fun r6 =>
 (ifB (!r6) false ((ifB (decide (i_4 > 0)) true ((at? conf_3 i_4).bind fun e7 =>
 (at? conf_3 (IntKind.wrap .i64 (i_4 - 1))).bind fun e8 =>
 some (decide (e7 ≤ e8))) (some false)).bind fun c9 =>
 some c9) (some true)).bind fun c10 =>
 (ifB c10 false ((at? conf_3 i_4).bind fun e11 =>
 (at? l_2 e11).bind fun e12 =>
 some (!(decide (e12.Kind ≤ 3)))) (some true)).bind fun c13 =>
 (ifB c13 false ((at? conf_3 i_4).bind fun e14 =>
 (ifB (decide (e14 > 0)) true ((at? conf_3 i_4).bind fun e15 =>
 (at? l_2 e15).bind fun e16 =>
 r3_Has N conf_3 e16.Parent (fun r17 =>
 some (!r17))) (some false)).bind fun c18 =>
 some c18) (some true)).bind fun c19 =>
 if c19 = true then
 (kp1 false)
 else
 ((at? conf_3 i_4).bind fun e20 =>
 r13_States N l_2 e20 (fun r21 =>
 r3_And N r21 conf_3 (fun r22 =>
 (at? conf_3 i_4).bind fun e23 =>
 (at? l_2 e23).bind fun e24 =>
 (ifB (e24.Kind == 2) true (some (((r22.length:Nat):Int) != 1)) (some false)).bind fun c25 =>
 (ifB c25 false ((ifB (e24.Kind == 3) true ((at? conf_3 i_4).bind fun e26 =>
 r13_States N l_2 e26 (fun r27 =>
 some (((r22.length:Nat):Int) != ((r27.length:Nat):Int)))) (some false)).bind fun c28 =>
 some c28) (some true)).bind fun c29 =>
 if c29 = true then
 (kp1 false)
 else
 (rec (IntKind.wrap .i64 (i_4 + 1))))))))
 else
 (kp0 )
def r13_Legal_l0 (N:Nat) (l_2:List Node) (conf_3:List Int) (kp0:Option R) (kp1:Bool→Option R):Nat→Int→Option R
 | 0=>fun _=>none
 | n + 1=>fun i_4=>r13_Legal_l0_b N l_2 conf_3 kp0 kp1 (r13_Legal_l0 N l_2 conf_3 kp0 kp1 n) i_4
def r13_Legal (N:Nat) (l:List Node) (conf:List Int) (k0:Bool→Option R):Option R :=
 r3_Has N conf 0 (fun r1 =>
 if (!r1) = true then
 (k0 false)
 else
 (r13_Legal_l0 N l conf (k0 true)
 (fun y30 =>
 k0 y30) N 0))
def r13_Legal_D (N:Nat):FD E0:={ f:=193,fn:=Tryz.f193,q:=⟨[.t .node,.t .int],[]⟩,loops:=[{ cur:=0,live:=[0,1,5],out:=fun | .exit 0=>([],[]) | .ret=>([4],[]) | _=>([],[]),q:=⟨[.t .node,.t .int,.i .i64],[]⟩,G:=fun R K n a b c=>r13_Legal_l0 N a b (pK ⟨[],[]⟩ (K (.exit 0))) (pK ⟨[.b],[]⟩ (K .ret)) n c,B:=fun R K rec a b c=>r13_Legal_l0_b N a b (pK ⟨[],[]⟩ (K (.exit 0))) (pK ⟨[.b],[]⟩ (K .ret)) (rec a b) c }],g:=[r13_IsState_S N,r13_Is_S N,r3_Has_S N,r3_And_S N,r13_States_S N] }
def r13_Legal_S (N:Nat):OC E0:=⟨_,FD.ct e0 (r13_Legal_D N) N (fun R k a b=>r13_Legal N a b (oK ⟨.b,[],[]⟩ k))⟩
def r13_Full_l2_b (N:Nat) (l_18:List Node) (atomic_19:List Int) (i_20:Int) (kp0:(List Int)→Option R) (rec:Int→(List Int)→Option R) (k_21:Int) (all_22:List Int):Option R :=
 if (decide (k_21 ≥ 0)) = true then
 (if all_22.length + [k_21].length ≤ maxRow then ((at? l_18 k_21).bind fun e23 =>
 rec e23.Parent (all_22 ++ [k_21])) else none)
 else
 (kp0 all_22)
def r13_Full_l2 (N:Nat) (l_18:List Node) (atomic_19:List Int) (i_20:Int) (kp0:(List Int)→Option R):Nat→Int→(List Int)→Option R
 | 0=>fun _ _=>none
 | n + 1=>fun k_21 all_22=>r13_Full_l2_b N l_18 atomic_19 i_20 kp0 (r13_Full_l2 N l_18 atomic_19 i_20 kp0 n) k_21 all_22
def r13_Full_l0_b (N:Nat) (l_25:List Node) (atomic_26:List Int) (kp0:(List Int)→Option R) (kp1:Bool→Option R) (rec:Int→(List Int)→Option R) (i_27:Int) (all_28:List Int):Option R :=
 if (decide (i_27 < ((atomic_26.length:Nat):Int))) = true then
 ((at? atomic_26 i_27).bind fun e29 =>
 r13_Is N l_25 e29 (fun r30 =>
 (ifB (!r30) false ((at? atomic_26 i_27).bind fun e31 =>
 (at? l_25 e31).bind fun e32 =>
 some (e32.Kind != 1)) (some true)).bind fun c33 =>
 (ifB c33 false (if (0:Int) ≤ 0 ∧ 0 ≤ i_27 ∧ i_27 ≤ ((atomic_26.length:Nat):Int) then ((at? atomic_26 i_27).bind fun e34 =>
 r3_Has N ((atomic_26.take i_27.toNat).drop (Int.toNat 0)) e34 (fun r35 =>
 some r35)) else none) (some true)).bind fun c36 =>
 if c36 = true then
 (kp1 false)
 else
 ((at? atomic_26 i_27).bind fun e37 =>
 r13_Full_l2 N l_25 atomic_26 i_27 (fun y38 =>
 rec (IntKind.wrap .i64 (i_27 + 1)) y38) N e37 all_28)))
 else
 (kp0 all_28)
def r13_Full_l0 (N:Nat) (l_25:List Node) (atomic_26:List Int) (kp0:(List Int)→Option R) (kp1:Bool→Option R):Nat→Int→(List Int)→Option R
 | 0=>fun _ _=>none
 | n + 1=>fun i_27 all_28=>r13_Full_l0_b N l_25 atomic_26 kp0 kp1 (r13_Full_l0 N l_25 atomic_26 kp0 kp1 n) i_27 all_28
def r13_Full (N:Nat) (l:List Node) (atomic:List Int) (k0:(List Int)→Bool→Option R):Option R :=
 r13_Full_l0 N l atomic (fun y39 =>
 r3_Of N y39 (fun r41 =>
 r13_Legal N l r41 (fun r42 =>
 if (!r42) = true then
 (k0 ([]:List Int) false)
 else
 (k0 r41 true))))
 (fun y40 =>
 k0 ([]:List Int) y40) N 0 ([]:List Int)
def r13_Full_D (N:Nat):FD E0:={ f:=174,fn:=Tryz.f174,q:=⟨[.t .node,.t .int],[]⟩,loops:=[{ cur:=2,live:=[0,1,6,7,8],fix:=[(⟨6,[]⟩,.row .int .app)],out:=fun | .exit 2=>([0,1,6,7],[]) | _=>([],[]),q:=⟨[.t .node,.t .int,.sw 0,.i .i64,.i .i64],[.rw .int .app]⟩,G:=fun R K n a b c d e=>r13_Full_l2 N a b c (pK ⟨[.t .node,.t .int,.sw 0,.i .i64],[.rw .int .app]⟩ (K (.exit 2)) a b c) n d e,B:=fun R K rec a b c d e=>r13_Full_l2_b N a b c (pK ⟨[.t .node,.t .int,.sw 0,.i .i64],[.rw .int .app]⟩ (K (.exit 2)) a b c) (rec a b c) d e },{ cur:=0,live:=[0,1,6,7],fix:=[(⟨6,[]⟩,.row .int .app)],out:=fun | .exit 0=>([0,6],[]) | .ret=>([4,5],[]) | _=>([],[]),q:=⟨[.t .node,.t .int,.sw 0,.i .i64],[.rw .int .app]⟩,G:=fun R K n a b c d=>r13_Full_l0 N a b (pK ⟨[.t .node,.sw 0],[.rw .int .app]⟩ (K (.exit 0)) a) (pK ⟨[.ns,.b],[]⟩ (K .ret)) n c d,B:=fun R K rec a b c d=>r13_Full_l0_b N a b (pK ⟨[.t .node,.sw 0],[.rw .int .app]⟩ (K (.exit 0)) a) (pK ⟨[.ns,.b],[]⟩ (K .ret)) (rec a b) c d }],g:=[r13_Is_S N,r3_Has_S N,r3_Of_S N,r13_Legal_S N],exit:=[(⟨4,[]⟩,.tree .int)] }
def r13_Full_S (N:Nat):OC E0:=⟨_,FD.ct e0 (r13_Full_D N) N (fun R k a b=>r13_Full N a b (oK ⟨.tp [.t .int,.b],[],[]⟩ k))⟩
end
end So
