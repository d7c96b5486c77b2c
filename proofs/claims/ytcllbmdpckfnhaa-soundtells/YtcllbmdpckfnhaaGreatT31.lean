/- T3_1: a part of the proof of SoundTells: lemmas on the evaluator and on the functions that the law reaches. -/
import Derived.Test.YtcllbmdpckfnhaaGreatT24
set_option maxRecDepth 100000
set_option linter.unusedVariables false
namespace So
open Go TE Go.Proofs
noncomputable section
variable {R:Type}
def z34:ShO S:=.bx [.i .i64,.t .chart,.t .inst,.t .chan,.t .cert,.i .i64,.i .i64]
def sound_checker_want (N:Nat) (holds:Bool) (code at_ Age:Int) (Charts:List Chart) (Insts:List Inst) (Chans:List Chan) (Certs:List Cert) (Code At:Int) (k0:Int→Int→Option R):Option R :=
 (ifB (!holds) true (some (Code == 0)) (some false)).bind fun c1 =>
 if c1 = true then
 (k0 code at_)
 else
 (k0 Code At)
def sound_checker_want_D (N:Nat):FD E0:={ f:=29,fn:=Tryz.f29,q:=⟨[.p 0 0 0,.b,.i .i64,.i .i64],[z34]⟩ }
def sound_checker_want_S (N:Nat):OC E0:=⟨_,FD.ct e0 (sound_checker_want_D N) N (fun R k a b c d e g h i j l=>sound_checker_want N a b c d e g h i j l (oK ⟨.tp [],[z34],[]⟩ k d e g h i))⟩
def sound_chartName (N:Nat) (Name:List UInt8) (Steps Fuel:Int) (Vars Ports Timers:List Named) (States:List State) (At:Int) (k0:Option R):Option R :=
 k0 
def sound_chartName_D (N:Nat):FD E0:={ f:=31,fn:=Tryz.f31,q:=⟨[y12],[]⟩ }
def sound_chartName_S (N:Nat):OC E0:=⟨_,FD.ct e0 (sound_chartName_D N) N (fun R k a b c d e g h i=>sound_chartName N a b c d e g h i (oK ⟨.st,[],[]⟩ k a))⟩
def sound_find_Chart_1 (N:Nat) (Name:List UInt8) (Steps Fuel:Int) (Vars Ports Timers:List Named) (States:List State) (At:Int) (a2_0:List UInt8) (k0:Bool→Option R):Option R :=
 k0 (Name == a2_0)
def sound_find_Chart_1_D (N:Nat):FD E0:={ f:=125,fn:=Tryz.f125,q:=⟨[y12,.p 0 0 0,.p 1 0 0],[.bx [.fn 31 []],.bx [.st]]⟩,g:=[sound_chartName_S N] }
def sound_find_Chart_1_S (N:Nat):OC E0:=⟨_,FD.ctq e0 (sound_find_Chart_1_D N) N (fun R k a b c d e g h i j=>sound_find_Chart_1 N a b c d e g h i j (oQ ⟨.b,[],[]⟩ k))⟩
def slices_IndexFunc_Chart_l0_b (N:Nat) (s_1:List Chart) (v_2:Int) (f_4:List UInt8) (kp0:Option R) (kp1:Int→Option R) (rec:Int→Option R) (v_3:Int):Option R :=
 if (decide (v_3 < v_2)) = true then
 ((at? s_1 v_3).bind fun e5 =>
 if (e5.Name == f_4) = true then
 (kp1 v_3)
 else
 (rec (IntKind.wrap .i64 (v_3 + 1))))
 else
 (kp0 )
def slices_IndexFunc_Chart_l0 (N:Nat) (s_1:List Chart) (v_2:Int) (f_4:List UInt8) (kp0:Option R) (kp1:Int→Option R):Nat→Int→Option R
 | 0=>fun _=>none
 | n + 1=>fun v_3=>slices_IndexFunc_Chart_l0_b N s_1 v_2 f_4 kp0 kp1 (slices_IndexFunc_Chart_l0 N s_1 v_2 f_4 kp0 kp1 n) v_3
def slices_IndexFunc_Chart (N:Nat) (s:List Chart) (f_c1_0:List UInt8) (k0:Int→Option R):Option R :=
 slices_IndexFunc_Chart_l0 N s ((s.length:Nat):Int) f_c1_0 (k0 (-1))
 (fun y6 =>
 k0 y6) N 0
def slices_IndexFunc_Chart_D (N:Nat):FD E0:={ f:=124,fn:=Tryz.f124,q:=⟨[.t .chart,.fn 125 [.p 0 0 0,.p 1 0 0]],[.bx [.fn 31 []],.bx [.st]]⟩,loops:=[{ cur:=0,live:=[0,1,7,8],out:=fun | .exit 0=>([],[]) | .ret=>([4],[]) | _=>([],[]),q:=⟨[.t .chart,.fn 125 [.p 0 0 0,.p 1 0 0],.i .i64,.i .i64],[.bx [.fn 31 []],.bx [.st]]⟩,G:=fun R K n a b c d=>slices_IndexFunc_Chart_l0 N a b d (pK ⟨[],[.bx [.fn 31 []],.bx [.st]]⟩ (K (.exit 0)) d) (fun e=>pK ⟨[.i .i64],[.bx [.fn 31 []],.bx [.st]]⟩ (K .ret) e d) n c,B:=fun R K rec a b c d=>slices_IndexFunc_Chart_l0_b N a b d (pK ⟨[],[.bx [.fn 31 []],.bx [.st]]⟩ (K (.exit 0)) d) (fun e=>pK ⟨[.i .i64],[.bx [.fn 31 []],.bx [.st]]⟩ (K .ret) e d) (fun c=>rec a b c d) c }],g:=[sound_find_Chart_1_S N] }
def slices_IndexFunc_Chart_S (N:Nat):OC E0:=⟨_,FD.ctq e0 (slices_IndexFunc_Chart_D N) N (fun R k a b=>slices_IndexFunc_Chart N a b (oQ ⟨.i .i64,[],[]⟩ k))⟩
def sound_find_Chart (N:Nat) (l:List Chart) (s:List UInt8) (k0:Int→Option R):Option R :=
 slices_IndexFunc_Chart N l s (fun r1 =>
 k0 r1)
def sound_find_Chart_D (N:Nat):FD E0:={ f:=60,fn:=Tryz.f60,q:=⟨[.t .chart,.st,.fn 31 []],[]⟩,g:=[slices_IndexFunc_Chart_S N] }
def sound_find_Chart_S (N:Nat):OC E0:=⟨_,FD.ct e0 (sound_find_Chart_D N) N (fun R k a b=>sound_find_Chart N a b (oK ⟨.i .i64,[],[]⟩ k))⟩
def sound_twice_Chart (N:Nat) (l:List Chart) (Name:List UInt8) (Steps Fuel:Int) (Vars Ports Timers:List Named) (States:List State) (At:Int) (k0:Bool→Option R):Option R :=
 sound_find_Chart N l Name (fun r1 =>
 k0 (decide (r1 ≥ 0)))
def sound_twice_Chart_D (N:Nat):FD E0:={ f:=30,fn:=Tryz.f30,q:=⟨[.t .chart,y12,.fn 31 []],[]⟩,g:=[sound_chartName_S N,sound_find_Chart_S N] }
def sound_twice_Chart_S (N:Nat):OC E0:=⟨_,FD.ct e0 (sound_twice_Chart_D N) N (fun R k a b c d e g h i j=>sound_twice_Chart N a b c d e g h i j (oK ⟨.b,[],[]⟩ k))⟩
def sound_within (N:Nat) (n_ least most:Int) (k0:Bool→Option R):Option R :=
 (ifB (decide (n_ ≥ least)) true (some (decide (n_ ≤ most))) (some false)).bind fun c1 =>
 k0 c1
def sound_within_D (N:Nat):FD E0:={ f:=61,fn:=Tryz.f61,q:=⟨[.i .i64,.i .i64,.i .i64],[]⟩ }
def sound_within_S (N:Nat):OC E0:=⟨_,FD.ct e0 (sound_within_D N) N (fun R k a b c=>sound_within N a b c (oK ⟨.b,[],[]⟩ k))⟩
def sound_history (N:Nat) (Kind:Int) (Name:List UInt8) (Entry Exit:List Act) (Trans_:List Trans) (Kids:List State) (At:Int) (k0:Bool→Option R):Option R :=
 (ifB (Kind == 3) false (some (Kind == 4)) (some true)).bind fun c1 =>
 k0 c1
def sound_history_D (N:Nat):FD E0:={ f:=65,fn:=Tryz.f65,q:=⟨[y2],[]⟩ }
def sound_history_S (N:Nat):OC E0:=⟨_,FD.ct e0 (sound_history_D N) N (fun R k a b c d e g h=>sound_history N a b c d e g h (oK ⟨.b,[],[]⟩ k))⟩
def sound_states_1 (N:Nat) (Kind:Int) (Name:List UInt8) (Entry Exit:List Act) (Trans_:List Trans) (Kids:List State) (At:Int) (k0:Bool→Option R):Option R :=
 sound_history N Kind Name Entry Exit Trans_ Kids At (fun r1 =>
 k0 (!r1))
def sound_states_1_D (N:Nat):FD E0:={ f:=126,fn:=Tryz.f126,q:=⟨[y2],[]⟩,g:=[sound_history_S N] }
def sound_states_1_S (N:Nat):OC E0:=⟨_,FD.ct e0 (sound_states_1_D N) N (fun R k a b c d e g h=>sound_states_1 N a b c d e g h (oK ⟨.b,[],[]⟩ k))⟩
def slices_IndexFunc_State_l0_b (N:Nat) (s_1:List State) (v_2:Int) (kp0:Option R) (kp1:Int→Option R) (rec:Int→Option R) (v_3:Int):Option R :=
 if (decide (v_3 < v_2)) = true then
 ((at? s_1 v_3).bind fun e4 =>
 sound_states_1 N e4.Kind e4.Name e4.Entry e4.Exit e4.Trans e4.Kids e4.At (fun r5 =>
 if r5 = true then
 (kp1 v_3)
 else
 (rec (IntKind.wrap .i64 (v_3 + 1)))))
 else
 (kp0 )
def slices_IndexFunc_State_l0 (N:Nat) (s_1:List State) (v_2:Int) (kp0:Option R) (kp1:Int→Option R):Nat→Int→Option R
 | 0=>fun _=>none
 | n + 1=>fun v_3=>slices_IndexFunc_State_l0_b N s_1 v_2 kp0 kp1 (slices_IndexFunc_State_l0 N s_1 v_2 kp0 kp1 n) v_3
def slices_IndexFunc_State (N:Nat) (s:List State) (k0:Int→Option R):Option R :=
 slices_IndexFunc_State_l0 N s ((s.length:Nat):Int) (k0 (-1))
 (fun y6 =>
 k0 y6) N 0
def slices_IndexFunc_State_D (N:Nat):FD E0:={ f:=137,fn:=Tryz.f137,q:=⟨[.t .state,.fn 126 []],[]⟩,loops:=[{ cur:=0,live:=[0,1,7,8],out:=fun | .exit 0=>([],[]) | .ret=>([4],[]) | _=>([],[]),q:=⟨[.t .state,.fn 126 [],.i .i64,.i .i64],[]⟩,G:=fun R K n a b c=>slices_IndexFunc_State_l0 N a b (pK ⟨[],[]⟩ (K (.exit 0))) (pK ⟨[.i .i64],[]⟩ (K .ret)) n c,B:=fun R K rec a b c=>slices_IndexFunc_State_l0_b N a b (pK ⟨[],[]⟩ (K (.exit 0))) (pK ⟨[.i .i64],[]⟩ (K .ret)) (rec a b) c }],g:=[sound_states_1_S N] }
def slices_IndexFunc_State_S (N:Nat):OC E0:=⟨_,FD.ct e0 (slices_IndexFunc_State_D N) N (fun R k a=>slices_IndexFunc_State N a (oK ⟨.i .i64,[],[]⟩ k))⟩
def slices_ContainsFunc_State (N:Nat) (s:List State) (k0:Bool→Option R):Option R :=
 slices_IndexFunc_State N s (fun r1 =>
 k0 (decide (r1 ≥ 0)))
def slices_ContainsFunc_State_D (N:Nat):FD E0:={ f:=80,fn:=Tryz.f80,q:=⟨[.t .state,.fn 126 []],[]⟩,g:=[slices_IndexFunc_State_S N] }
def slices_ContainsFunc_State_S (N:Nat):OC E0:=⟨_,FD.ct e0 (slices_ContainsFunc_State_D N) N (fun R k a=>slices_ContainsFunc_State N a (oK ⟨.b,[],[]⟩ k))⟩
def sound_states (N:Nat) (l:List State) (k0:Bool→Option R):Option R :=
 slices_ContainsFunc_State N l (fun r1 =>
 k0 r1)
def sound_states_D (N:Nat):FD E0:={ f:=62,fn:=Tryz.f62,q:=⟨[.t .state],[]⟩,g:=[slices_ContainsFunc_State_S N] }
def sound_states_S (N:Nat):OC E0:=⟨_,FD.ct e0 (sound_states_D N) N (fun R k a=>sound_states N a (oK ⟨.b,[],[]⟩ k))⟩
def sound_named (N:Nat) (Name:List UInt8) (N_ At:Int) (k0:Option R):Option R :=
 k0 
def sound_named_D (N:Nat):FD E0:={ f:=74,fn:=Tryz.f74,q:=⟨[.ag [.st,.i .i64,.i .i64]],[]⟩ }
def sound_named_S (N:Nat):OC E0:=⟨_,FD.ct e0 (sound_named_D N) N (fun R k a b c=>sound_named N a b c (oK ⟨.st,[],[]⟩ k a))⟩
def sound_find_Named_1 (N:Nat) (Name:List UInt8) (N_ At:Int) (a2_0:List UInt8) (k0:Bool→Option R):Option R :=
 k0 (Name == a2_0)
def sound_find_Named_1_D (N:Nat):FD E0:={ f:=132,fn:=Tryz.f132,q:=⟨[.ag [.st,.i .i64,.i .i64],.p 0 0 0,.p 1 0 0],[.bx [.fn 74 []],.bx [.st]]⟩,g:=[sound_named_S N] }
def sound_find_Named_1_S (N:Nat):OC E0:=⟨_,FD.ctq e0 (sound_find_Named_1_D N) N (fun R k a b c d=>sound_find_Named_1 N a b c d (oQ ⟨.b,[],[]⟩ k))⟩
def slices_IndexFunc_Named_l0_b (N:Nat) (s_1:List Named) (v_2:Int) (f_4:List UInt8) (kp0:Option R) (kp1:Int→Option R) (rec:Int→Option R) (v_3:Int):Option R :=
 if (decide (v_3 < v_2)) = true then
 ((at? s_1 v_3).bind fun e5 =>
 if (e5.Name == f_4) = true then
 (kp1 v_3)
 else
 (rec (IntKind.wrap .i64 (v_3 + 1))))
 else
 (kp0 )
def slices_IndexFunc_Named_l0 (N:Nat) (s_1:List Named) (v_2:Int) (f_4:List UInt8) (kp0:Option R) (kp1:Int→Option R):Nat→Int→Option R
 | 0=>fun _=>none
 | n + 1=>fun v_3=>slices_IndexFunc_Named_l0_b N s_1 v_2 f_4 kp0 kp1 (slices_IndexFunc_Named_l0 N s_1 v_2 f_4 kp0 kp1 n) v_3
def slices_IndexFunc_Named (N:Nat) (s:List Named) (f_c1_0:List UInt8) (k0:Int→Option R):Option R :=
 slices_IndexFunc_Named_l0 N s ((s.length:Nat):Int) f_c1_0 (k0 (-1))
 (fun y6 =>
 k0 y6) N 0
def slices_IndexFunc_Named_D (N:Nat):FD E0:={ f:=131,fn:=Tryz.f131,q:=⟨[.t .named,.fn 132 [.p 0 0 0,.p 1 0 0]],[.bx [.fn 74 []],.bx [.st]]⟩,loops:=[{ cur:=0,live:=[0,1,7,8],out:=fun | .exit 0=>([],[]) | .ret=>([4],[]) | _=>([],[]),q:=⟨[.t .named,.fn 132 [.p 0 0 0,.p 1 0 0],.i .i64,.i .i64],[.bx [.fn 74 []],.bx [.st]]⟩,G:=fun R K n a b c d=>slices_IndexFunc_Named_l0 N a b d (pK ⟨[],[.bx [.fn 74 []],.bx [.st]]⟩ (K (.exit 0)) d) (fun e=>pK ⟨[.i .i64],[.bx [.fn 74 []],.bx [.st]]⟩ (K .ret) e d) n c,B:=fun R K rec a b c d=>slices_IndexFunc_Named_l0_b N a b d (pK ⟨[],[.bx [.fn 74 []],.bx [.st]]⟩ (K (.exit 0)) d) (fun e=>pK ⟨[.i .i64],[.bx [.fn 74 []],.bx [.st]]⟩ (K .ret) e d) (fun c=>rec a b c d) c }],g:=[sound_find_Named_1_S N] }
def slices_IndexFunc_Named_S (N:Nat):OC E0:=⟨_,FD.ctq e0 (slices_IndexFunc_Named_D N) N (fun R k a b=>slices_IndexFunc_Named N a b (oQ ⟨.i .i64,[],[]⟩ k))⟩
def sound_find_Named (N:Nat) (l:List Named) (s:List UInt8) (k0:Int→Option R):Option R :=
 slices_IndexFunc_Named N l s (fun r1 =>
 k0 r1)
def sound_find_Named_D (N:Nat):FD E0:={ f:=73,fn:=Tryz.f73,q:=⟨[.t .named,.st,.fn 74 []],[]⟩,g:=[slices_IndexFunc_Named_S N] }
def sound_find_Named_S (N:Nat):OC E0:=⟨_,FD.ct e0 (sound_find_Named_D N) N (fun R k a b=>sound_find_Named N a b (oK ⟨.i .i64,[],[]⟩ k))⟩
def sound_twice_Named (N:Nat) (l:List Named) (Name:List UInt8) (N_ At:Int) (k0:Bool→Option R):Option R :=
 sound_find_Named N l Name (fun r1 =>
 k0 (decide (r1 ≥ 0)))
def sound_twice_Named_D (N:Nat):FD E0:={ f:=127,fn:=Tryz.f127,q:=⟨[.t .named,.ag [.st,.i .i64,.i .i64],.fn 74 []],[]⟩,g:=[sound_find_Named_S N,sound_named_S N] }
def sound_twice_Named_S (N:Nat):OC E0:=⟨_,FD.ct e0 (sound_twice_Named_D N) N (fun R k a b c d=>sound_twice_Named N a b c d (oK ⟨.b,[],[]⟩ k))⟩
def sound_checker_names_l0_b (N:Nat) (l_1:List Named) (most_2:Int) (v_3:List Named) (v_4 c_6:Int) (c_7:List Chart) (c_8:List Inst) (c_9:List Chan) (c_10:List Cert) (kp0:Int→Int→Option R) (rec:Int→Int→Int→Option R) (v_5 c_11 c_12:Int):Option R :=
 if (decide (v_5 < v_4)) = true then
 ((at? v_3 v_5).bind fun e13 =>
 sound_checker_want N (decide (v_5 < most_2)) 15 e13.At c_6 c_7 c_8 c_9 c_10 c_11 c_12 (fun r14 r15 =>
 if (0:Int) ≤ 0 ∧ 0 ≤ v_5 ∧ v_5 ≤ ((l_1.length:Nat):Int) then (sound_twice_Named N ((l_1.take v_5.toNat).drop (Int.toNat 0)) e13.Name e13.N e13.At (fun r16 =>
 sound_checker_want N (!r16) 8 e13.At c_6 c_7 c_8 c_9 c_10 r14 r15 (fun r17 r18 =>
 rec (IntKind.wrap .i64 (v_5 + 1)) r17 r18))) else none))
 else
 (kp0 c_11 c_12)
def sound_checker_names_l0 (N:Nat) (l_1:List Named) (most_2:Int) (v_3:List Named) (v_4 c_6:Int) (c_7:List Chart) (c_8:List Inst) (c_9:List Chan) (c_10:List Cert) (kp0:Int→Int→Option R):Nat→Int→Int→Int→Option R
 | 0=>fun _ _ _=>none
 | n + 1=>fun v_5 c_11 c_12=>sound_checker_names_l0_b N l_1 most_2 v_3 v_4 c_6 c_7 c_8 c_9 c_10 kp0 (sound_checker_names_l0 N l_1 most_2 v_3 v_4 c_6 c_7 c_8 c_9 c_10 kp0 n) v_5 c_11 c_12
def sound_checker_names (N:Nat) (l:List Named) (most Age:Int) (Charts:List Chart) (Insts:List Inst) (Chans:List Chan) (Certs:List Cert) (Code At:Int) (k0:Int→Int→Option R):Option R :=
 sound_checker_names_l0 N l most l ((l.length:Nat):Int) Age Charts Insts Chans Certs (fun y19 y20 =>
 k0 y19 y20) N 0 Code At
def sound_checker_names_D (N:Nat):FD E0:={ f:=63,fn:=Tryz.f63,q:=⟨[.p 0 0 0,.t .named,.i .i64],[z34]⟩,loops:=[{ cur:=0,live:=[0,1,2,8,9,10],out:=fun | .exit 0=>([],[]) | _=>([],[]),q:=⟨[.p 0 0 0,.t .named,.i .i64,.t .named,.i .i64,.i .i64],[z34]⟩,G:=fun R K n a b c d e g h i j l m o=>sound_checker_names_l0 N a b c d g h i j l (pK ⟨[],[z34]⟩ (K (.exit 0)) g h i j l) n e m o,B:=fun R K rec a b c d e g h i j l m o=>sound_checker_names_l0_b N a b c d g h i j l (pK ⟨[],[z34]⟩ (K (.exit 0)) g h i j l) (fun e m o=>rec a b c d e g h i j l m o) e m o }],g:=[sound_checker_want_S N,sound_twice_Named_S N] }
def sound_checker_names_S (N:Nat):OC E0:=⟨_,FD.ct e0 (sound_checker_names_D N) N (fun R k a b c d e g h i j=>sound_checker_names N a b c d e g h i j (oK ⟨.tp [],[z34],[]⟩ k c d e g h))⟩
def sound_stateName (N:Nat) (Kind:Int) (Name:List UInt8) (Entry Exit:List Act) (Trans_:List Trans) (Kids:List State) (At:Int) (k0:Option R):Option R :=
 k0 
def sound_stateName_D (N:Nat):FD E0:={ f:=84,fn:=Tryz.f84,q:=⟨[y2],[]⟩ }
def sound_stateName_S (N:Nat):OC E0:=⟨_,FD.ct e0 (sound_stateName_D N) N (fun R k a b c d e g h=>sound_stateName N a b c d e g h (oK ⟨.st,[],[]⟩ k b))⟩
def sound_find_State_1 (N:Nat) (Kind:Int) (Name:List UInt8) (Entry Exit:List Act) (Trans_:List Trans) (Kids:List State) (At:Int) (a2_0:List UInt8) (k0:Bool→Option R):Option R :=
 k0 (Name == a2_0)
def sound_find_State_1_D (N:Nat):FD E0:={ f:=138,fn:=Tryz.f138,q:=⟨[y2,.p 0 0 0,.p 1 0 0],[.bx [.fn 84 []],.bx [.st]]⟩,g:=[sound_stateName_S N] }
def sound_find_State_1_S (N:Nat):OC E0:=⟨_,FD.ctq e0 (sound_find_State_1_D N) N (fun R k a b c d e g h i=>sound_find_State_1 N a b c d e g h i (oQ ⟨.b,[],[]⟩ k))⟩
def slices_IndexFunc_State_3_l0_b (N:Nat) (v_1:Int) (s_3:List State) (f_4:List UInt8) (kp0:Option R) (kp1:Int→Option R) (rec:Int→Option R) (v_2:Int):Option R :=
 if (decide (v_2 < v_1)) = true then
 (if (0:Int) ≤ v_2 ∧ v_2 < (s_3.length:Int) then (match s_3[v_2.toNat]? with
 | some e5=>(if (e5.Name == f_4) = true then
 (kp1 v_2)
 else
 (rec (IntKind.wrap .i64 (v_2 + 1))))
 | none=>none) else none)
 else
 (kp0 )
def slices_IndexFunc_State_3_l0 (N:Nat) (v_1:Int) (s_3:List State) (f_4:List UInt8) (kp0:Option R) (kp1:Int→Option R):Nat→Int→Option R
 | 0=>fun _=>none
 | n + 1=>fun v_2=>slices_IndexFunc_State_3_l0_b N v_1 s_3 f_4 kp0 kp1 (slices_IndexFunc_State_3_l0 N v_1 s_3 f_4 kp0 kp1 n) v_2
def slices_IndexFunc_State_3 (N:Nat) (s:List State) (f_c1_0:List UInt8) (k0:Int→Option R):Option R :=
 slices_IndexFunc_State_3_l0 N ((s.length:Nat):Int) s f_c1_0 (k0 (-1))
 (fun y6 =>
 k0 y6) N 0
def slices_IndexFunc_State_3_D (N:Nat):FD E0:={ f:=137,fn:=Tryz.f137,q:=⟨[.sw 0,.fn 138 [.p 1 0 0,.p 2 0 0]],[.rw .state .own,.bx [.fn 84 []],.bx [.st]]⟩,loops:=[{ cur:=0,live:=[0,1,7,8],out:=fun | .exit 0=>([],[]) | .ret=>([4],[]) | _=>([],[]),q:=⟨[.sw 0,.fn 138 [.p 1 0 0,.p 2 0 0],.i .i64,.i .i64],[.rw .state .own,.bx [.fn 84 []],.bx [.st]]⟩,G:=fun R K n a b c d=>slices_IndexFunc_State_3_l0 N a c d (pK ⟨[],[.rw .state .own,.bx [.fn 84 []],.bx [.st]]⟩ (K (.exit 0)) c d) (fun e=>pK ⟨[.i .i64],[.rw .state .own,.bx [.fn 84 []],.bx [.st]]⟩ (K .ret) e c d) n b,B:=fun R K rec a b c d=>slices_IndexFunc_State_3_l0_b N a c d (pK ⟨[],[.rw .state .own,.bx [.fn 84 []],.bx [.st]]⟩ (K (.exit 0)) c d) (fun e=>pK ⟨[.i .i64],[.rw .state .own,.bx [.fn 84 []],.bx [.st]]⟩ (K .ret) e c d) (fun b=>rec a b c d) b }],g:=[sound_find_State_1_S N] }
def slices_IndexFunc_State_3_S (N:Nat):OC E0:=⟨_,FD.ctq e0 (slices_IndexFunc_State_3_D N) N (fun R k a b=>slices_IndexFunc_State_3 N a b (oQ ⟨.i .i64,[],[]⟩ k))⟩
def sound_find_State_2 (N:Nat) (s:List UInt8) (l:List State) (k0:Int→Option R):Option R :=
 slices_IndexFunc_State_3 N l s (fun r1 =>
 k0 r1)
def sound_find_State_2_D (N:Nat):FD E0:={ f:=83,fn:=Tryz.f83,q:=⟨[.sw 0,.st,.fn 84 []],[.rw .state .own]⟩,g:=[slices_IndexFunc_State_3_S N] }
def sound_find_State_2_S (N:Nat):OC E0:=⟨_,FD.ctq e0 (sound_find_State_2_D N) N (fun R k a b=>sound_find_State_2 N a b (oQ ⟨.i .i64,[],[]⟩ k))⟩
def sound_twice_State_2 (N:Nat) (Kind:Int) (Name:List UInt8) (Entry Exit:List Act) (Trans_:List Trans) (Kids:List State) (At:Int) (l:List State) (k0:Bool→Option R):Option R :=
 sound_find_State_2 N Name l (fun r1 =>
 k0 (decide (r1 ≥ 0)))
def sound_twice_State_2_D (N:Nat):FD E0:={ f:=128,fn:=Tryz.f128,q:=⟨[.sw 0,y2,.fn 84 []],[.rw .state .own]⟩,g:=[sound_find_State_2_S N,sound_stateName_S N] }
def sound_twice_State_2_S (N:Nat):OC E0:=⟨_,FD.ctq e0 (sound_twice_State_2_D N) N (fun R k a b c d e g h i=>sound_twice_State_2 N a b c d e g h i (oQ ⟨.b,[],[]⟩ k))⟩
structure Fam_sound_checker_tree_2 where
 sound_checker_tree_2:(R:Type)→(List State)→Bool→Int→(List Chart)→(List Inst)→(List Chan)→(List Cert)→Int→Int→(List State)→(Int→Int→(List State)→Option R)→Option R
def sound_checker_tree_2_q:Pat S:=⟨[.p 0 0 0,.t .state,.b,.p 1 0 0],[z34,.bx [.sw 2],.rw .state .own]⟩
def sound_checker_tree_2_C (F:Fam_sound_checker_tree_2):Ct S:=⟨64,sound_checker_tree_2_q,fun R k a b c d e g h i j l=>F.sound_checker_tree_2 R a b c d e g h i j l (oK ⟨.tp [],[z34,.bx [.sw 3],.g],[.rw .state .own]⟩ k c d e g h)⟩
structure Fam_sound_checker_tree_2_ok (F:Fam_sound_checker_tree_2):Prop where
 sound_checker_tree_2:(sound_checker_tree_2_C F).ok E0
def z35:ShO S:=.bx [.i .i64,.st,.t .act,.t .act,.t .trans,.t .state,.i .i64]
def sound_checker_tree_2_c6 (F:Fam_sound_checker_tree_2) (N:Nat) (top_27 bad_28:Bool) (v_29:List State) (v_30 v_31 c_32:Int) (c_33:List Chart) (c_34:List Inst) (c_35:List Chan) (c_36:List Cert) (c_37 c_38:Int) (o_39:List State) (s_40:Int) (s_41:List UInt8) (s_42 s_43:List Act) (s_44:List Trans) (s_45:List State) (s_46:Int) (kp0 kp1:Int→Int→(List State)→Option R):Option R :=
 sound_checker_want N (!bad_28) 17 s_46 c_32 c_33 c_34 c_35 c_36 c_37 c_38 (fun r47 r48 =>
 if o_39.length + ([(⟨0,[],[],[],[],[],0⟩:State)]).length ≤ maxRow then (if (0:Int) ≤ ((o_39.length:Nat):Int) ∧ ((o_39.length:Nat):Int) < ((o_39 ++ ([(⟨0,[],[],[],[],[],0⟩:State)])).length:Int) then (match (o_39 ++ ([(⟨0,[],[],[],[],[],0⟩:State)]))[((o_39.length:Nat):Int).toNat]? with
 | some e49=>(if (r47 != 0) = true then
 (kp0 r47 r48 ((o_39 ++ ([(⟨0,[],[],[],[],[],0⟩:State)])).set (((o_39.length:Nat):Int).toNat) (⟨s_40,s_41,s_42,s_43,s_44,s_45,s_46⟩:State)))
 else
 (F.sound_checker_tree_2 _ s_45 false c_32 c_33 c_34 c_35 c_36 r47 r48 ((o_39 ++ ([(⟨0,[],[],[],[],[],0⟩:State)])).set (((o_39.length:Nat):Int).toNat) (⟨s_40,s_41,s_42,s_43,s_44,s_45,s_46⟩:State)) (fun r50 r51 r52 =>
 kp1 r50 r51 r52)))
 | none=>none) else none) else none)
def sound_checker_tree_2_l0_b (F:Fam_sound_checker_tree_2) (N:Nat) (top_1:Bool) (v_2:List State) (v_3 c_5:Int) (c_6:List Chart) (c_7:List Inst) (c_8:List Chan) (c_9:List Cert) (kp0 kp1:Int→Int→(List State)→Option R) (rec:Int→Int→Int→(List State)→Option R) (v_4 c_10 c_11:Int) (o_12:List State):Option R :=
 if (decide (v_4 < v_3)) = true then
 ((at? v_2 v_4).bind fun e13 =>
 sound_checker_want N (decide (((o_12.length:Nat):Int) < 63)) 15 e13.At c_5 c_6 c_7 c_8 c_9 c_10 c_11 (fun r14 r15 =>
 sound_twice_State_2 N e13.Kind e13.Name e13.Entry e13.Exit e13.Trans e13.Kids e13.At o_12 (fun r16 =>
 sound_checker_want N (!r16) 8 e13.At c_5 c_6 c_7 c_8 c_9 r14 r15 (fun r17 r18 =>
 (ifB top_1 true (sound_history N e13.Kind e13.Name e13.Entry e13.Exit e13.Trans e13.Kids e13.At (fun r19 =>
 some r19)) (some false)).bind fun c20 =>
 (ifB c20 false ((ifB (e13.Kind == 2) true (sound_states N e13.Kids (fun r21 =>
 some (!r21))) (some false)).bind fun c22 =>
 some c22) (some true)).bind fun c23 =>
 (ifB c23 false ((ifB (decide (((e13.Kids.length:Nat):Int) > 0)) true (sound_states N e13.Kids (fun r24 =>
 some (!r24))) (some false)).bind fun c25 =>
 some c25) (some true)).bind fun c26 =>
 sound_checker_tree_2_c6 F N top_1 c26 v_2 v_3 v_4 c_5 c_6 c_7 c_8 c_9 r17 r18 o_12 e13.Kind e13.Name e13.Entry e13.Exit e13.Trans e13.Kids e13.At (fun y53 y54 y55 =>
 kp1 y53 y54 y55)
 (fun y56 y57 y58 =>
 rec (IntKind.wrap .i64 (v_4 + 1)) y56 y57 y58)))))
 else
 (kp0 c_10 c_11 o_12)
def sound_checker_tree_2_l0 (F:Fam_sound_checker_tree_2) (N:Nat) (top_1:Bool) (v_2:List State) (v_3 c_5:Int) (c_6:List Chart) (c_7:List Inst) (c_8:List Chan) (c_9:List Cert) (kp0 kp1:Int→Int→(List State)→Option R):Nat→Int→Int→Int→(List State)→Option R
 | 0=>fun _ _ _ _=>none
 | n + 1=>fun v_4 c_10 c_11 o_12=>sound_checker_tree_2_l0_b F N top_1 v_2 v_3 c_5 c_6 c_7 c_8 c_9 kp0 kp1 (sound_checker_tree_2_l0 F N top_1 v_2 v_3 c_5 c_6 c_7 c_8 c_9 kp0 kp1 n) v_4 c_10 c_11 o_12
def sound_checker_tree_2_d (F:Fam_sound_checker_tree_2) (N:Nat) (l:List State) (top:Bool) (Age:Int) (Charts:List Chart) (Insts:List Inst) (Chans:List Chan) (Certs:List Cert) (Code At:Int) (out:List State) (k0:Int→Int→(List State)→Option R):Option R :=
 sound_checker_tree_2_l0 F N top l ((l.length:Nat):Int) Age Charts Insts Chans Certs (fun y59 y60 y61 =>
 k0 y59 y60 y61)
 (fun y62 y63 y64 =>
 k0 y62 y63 y64) N 0 Code At out
def sound_checker_tree_2_D (F:Fam_sound_checker_tree_2) (hF:Fam_sound_checker_tree_2_ok F) (N:Nat):FD E0:={ f:=64,fn:=Tryz.f64,q:=sound_checker_tree_2_q,loops:=[{ cur:=0,live:=[0,2,3,11,12,13],fix:=[(⟨3,[0]⟩,.fresh .state .own)],out:=fun | .exit 0=>([],[]) | .ret=>([],[]) | _=>([],[]),q:=⟨[.p 0 0 0,.b,.p 1 0 0,.t .state,.i .i64,.i .i64],[z34,.bx [.sw 3],.g,.rw .state .own]⟩,G:=fun R K n a b c d e g h i j l m o=>sound_checker_tree_2_l0 F N a b c e g h i j (pK ⟨[],[z34,.bx [.sw 3],.g,.rw .state .own]⟩ (K (.exit 0)) e g h i j) (pK ⟨[],[z34,.bx [.sw 3],.g,.rw .state .own]⟩ (K .ret) e g h i j) n d l m o,B:=fun R K rec a b c d e g h i j l m o=>sound_checker_tree_2_l0_b F N a b c e g h i j (pK ⟨[],[z34,.bx [.sw 3],.g,.rw .state .own]⟩ (K (.exit 0)) e g h i j) (pK ⟨[],[z34,.bx [.sw 3],.g,.rw .state .own]⟩ (K .ret) e g h i j) (fun d l m o=>rec a b c d e g h i j l m o) d l m o }],cuts:=[{ key:=6,live:=[0,2,3,9,10,11,12,13],fix:=[(⟨3,[0]⟩,.fresh .state .own)],out:=fun | .ret=>([],[]) | .normal=>([0,2,3,11,12,13],[]) | _=>([],[]),q:=⟨[.p 0 0 0,.b,.p 1 0 0,.p 4 0 0,.b,.t .state,.i .i64,.i .i64],[z34,.bx [.sw 3],.g,.rw .state .own,z35]⟩,G:=fun R K a b c d e g h i j l m o p q s t u v w x=>sound_checker_tree_2_c6 F N a b c d e g h i j l m o p q s t u v w x (pK ⟨[],[z34,.bx [.sw 3],.g,.rw .state .own]⟩ (K .ret) g h i j l) (pK ⟨[.p 0 0 0,.b,.p 1 0 0,.t .state,.i .i64,.i .i64],[z34,.bx [.sw 3],.g,.rw .state .own]⟩ (K .normal) a c d e g h i j l) }],g:=[sound_checker_want_S N,sound_states_S N,⟨sound_checker_tree_2_C F,hF.sound_checker_tree_2⟩,sound_history_S N,sound_twice_State_2_S N] }
theorem sound_checker_tree_2_okF (F:Fam_sound_checker_tree_2) (hF:Fam_sound_checker_tree_2_ok F) (N:Nat):Ct.ok E0 ⟨(sound_checker_tree_2_D F hF N).f,(sound_checker_tree_2_D F hF N).q,fun R k a b c d e g h i j l=>sound_checker_tree_2_d F N a b c d e g h i j l (oK ⟨.tp [],[z34,.bx [.sw 3],.g],[.rw .state .own]⟩ k c d e g h)⟩:=FD.ct e0 (sound_checker_tree_2_D F hF N) N (fun R k a b c d e g h i j l=>sound_checker_tree_2_d F N a b c d e g h i j l (oK ⟨.tp [],[z34,.bx [.sw 3],.g],[.rw .state .own]⟩ k c d e g h))
def Fam_sound_checker_tree_2_next (F:Fam_sound_checker_tree_2) (N:Nat):Fam_sound_checker_tree_2 where
 sound_checker_tree_2:=fun R l top Age Charts Insts Chans Certs Code At out k0=>sound_checker_tree_2_d F N l top Age Charts Insts Chans Certs Code At out k0
def Fam_sound_checker_tree_2_at (N:Nat):Nat→Fam_sound_checker_tree_2
 | 0=>{ sound_checker_tree_2:=fun _ _ _ _ _ _ _ _ _ _ _ _=>none }
 | d + 1=>Fam_sound_checker_tree_2_next (Fam_sound_checker_tree_2_at N d) N
theorem Fam_sound_checker_tree_2_at_ok (N:Nat):∀ d,Fam_sound_checker_tree_2_ok (Fam_sound_checker_tree_2_at N d)
 | 0=>{ sound_checker_tree_2:=Ct.ok_none }
 | d + 1=>{ sound_checker_tree_2:=sound_checker_tree_2_okF _ (Fam_sound_checker_tree_2_at_ok N d) N }
def sound_checker_tree_2 (N:Nat) (l:List State) (top:Bool) (Age:Int) (Charts:List Chart) (Insts:List Inst) (Chans:List Chan) (Certs:List Cert) (Code At:Int) (out:List State) (k0:Int→Int→(List State)→Option R):Option R:=(Fam_sound_checker_tree_2_at N N).sound_checker_tree_2 R l top Age Charts Insts Chans Certs Code At out k0
theorem sound_checker_tree_2_at (N d:Nat) (l:List State) (top:Bool) (Age:Int) (Charts:List Chart) (Insts:List Inst) (Chans:List Chan) (Certs:List Cert) (Code At:Int) (out:List State) (k0:Int→Int→(List State)→Option R):(Fam_sound_checker_tree_2_at N (d + 1)).sound_checker_tree_2 R l top Age Charts Insts Chans Certs Code At out k0 = sound_checker_tree_2_d (Fam_sound_checker_tree_2_at N d) N l top Age Charts Insts Chans Certs Code At out k0:=rfl
def sound_checker_tree_2_S (N:Nat):OC E0:=⟨sound_checker_tree_2_C (Fam_sound_checker_tree_2_at N N),(Fam_sound_checker_tree_2_at_ok N N).sound_checker_tree_2⟩
def sound_checker_tree_c6 (N:Nat) (top_27 bad_28:Bool) (v_29:List State) (v_30 v_31 c_32:Int) (c_33:List Chart) (c_34:List Inst) (c_35:List Chan) (c_36:List Cert) (c_37 c_38:Int) (o_39:List State) (s_40:Int) (s_41:List UInt8) (s_42 s_43:List Act) (s_44:List Trans) (s_45:List State) (s_46:Int) (kp0 kp1:Int→Int→(List State)→Option R):Option R :=
 sound_checker_want N (!bad_28) 17 s_46 c_32 c_33 c_34 c_35 c_36 c_37 c_38 (fun r47 r48 =>
 if o_39.length + ([(⟨0,[],[],[],[],[],0⟩:State)]).length ≤ maxRow then (if (0:Int) ≤ ((o_39.length:Nat):Int) ∧ ((o_39.length:Nat):Int) < ((o_39 ++ ([(⟨0,[],[],[],[],[],0⟩:State)])).length:Int) then (match (o_39 ++ ([(⟨0,[],[],[],[],[],0⟩:State)]))[((o_39.length:Nat):Int).toNat]? with
 | some e49=>(if (r47 != 0) = true then
 (kp0 r47 r48 ((o_39 ++ ([(⟨0,[],[],[],[],[],0⟩:State)])).set (((o_39.length:Nat):Int).toNat) (⟨s_40,s_41,s_42,s_43,s_44,s_45,s_46⟩:State)))
 else
 (sound_checker_tree_2 N s_45 false c_32 c_33 c_34 c_35 c_36 r47 r48 ((o_39 ++ ([(⟨0,[],[],[],[],[],0⟩:State)])).set (((o_39.length:Nat):Int).toNat) (⟨s_40,s_41,s_42,s_43,s_44,s_45,s_46⟩:State)) (fun r50 r51 r52 =>
 kp1 r50 r51 r52)))
 | none=>none) else none) else none)
def sound_checker_tree_l0_b (N:Nat) (top_1:Bool) (v_2:List State) (v_3 c_5:Int) (c_6:List Chart) (c_7:List Inst) (c_8:List Chan) (c_9:List Cert) (kp0 kp1:Int→Int→(List State)→Option R) (rec:Int→Int→Int→(List State)→Option R) (v_4 c_10 c_11:Int) (o_12:List State):Option R :=
 if (decide (v_4 < v_3)) = true then
 ((at? v_2 v_4).bind fun e13 =>
 sound_checker_want N (decide (((o_12.length:Nat):Int) < 63)) 15 e13.At c_5 c_6 c_7 c_8 c_9 c_10 c_11 (fun r14 r15 =>
 sound_twice_State_2 N e13.Kind e13.Name e13.Entry e13.Exit e13.Trans e13.Kids e13.At o_12 (fun r16 =>
 sound_checker_want N (!r16) 8 e13.At c_5 c_6 c_7 c_8 c_9 r14 r15 (fun r17 r18 =>
 (ifB top_1 true (sound_history N e13.Kind e13.Name e13.Entry e13.Exit e13.Trans e13.Kids e13.At (fun r19 =>
 some r19)) (some false)).bind fun c20 =>
 (ifB c20 false ((ifB (e13.Kind == 2) true (sound_states N e13.Kids (fun r21 =>
 some (!r21))) (some false)).bind fun c22 =>
 some c22) (some true)).bind fun c23 =>
 (ifB c23 false ((ifB (decide (((e13.Kids.length:Nat):Int) > 0)) true (sound_states N e13.Kids (fun r24 =>
 some (!r24))) (some false)).bind fun c25 =>
 some c25) (some true)).bind fun c26 =>
 sound_checker_tree_c6 N top_1 c26 v_2 v_3 v_4 c_5 c_6 c_7 c_8 c_9 r17 r18 o_12 e13.Kind e13.Name e13.Entry e13.Exit e13.Trans e13.Kids e13.At (fun y53 y54 y55 =>
 kp1 y53 y54 y55)
 (fun y56 y57 y58 =>
 rec (IntKind.wrap .i64 (v_4 + 1)) y56 y57 y58)))))
 else
 (kp0 c_10 c_11 o_12)
def sound_checker_tree_l0 (N:Nat) (top_1:Bool) (v_2:List State) (v_3 c_5:Int) (c_6:List Chart) (c_7:List Inst) (c_8:List Chan) (c_9:List Cert) (kp0 kp1:Int→Int→(List State)→Option R):Nat→Int→Int→Int→(List State)→Option R
 | 0=>fun _ _ _ _=>none
 | n + 1=>fun v_4 c_10 c_11 o_12=>sound_checker_tree_l0_b N top_1 v_2 v_3 c_5 c_6 c_7 c_8 c_9 kp0 kp1 (sound_checker_tree_l0 N top_1 v_2 v_3 c_5 c_6 c_7 c_8 c_9 kp0 kp1 n) v_4 c_10 c_11 o_12
def sound_checker_tree (N:Nat) (l:List State) (top:Bool) (Age:Int) (Charts:List Chart) (Insts:List Inst) (Chans:List Chan) (Certs:List Cert) (Code At:Int) (k0:Int→Int→(List State)→Option R):Option R :=
 sound_checker_tree_l0 N top l ((l.length:Nat):Int) Age Charts Insts Chans Certs (fun y59 y60 y61 =>
 k0 y59 y60 y61)
 (fun y62 y63 y64 =>
 k0 y62 y63 y64) N 0 Code At ([]:List State)
def sound_checker_tree_D (N:Nat):FD E0:={ f:=64,fn:=Tryz.f64,q:=⟨[.p 0 0 0,.t .state,.b,.p 1 0 0],[z34,.bx [.ns]]⟩,loops:=[{ cur:=0,live:=[0,2,3,11,12,13],fix:=[(⟨3,[0]⟩,.row .state .own)],out:=fun | .exit 0=>([],[]) | .ret=>([],[]) | _=>([],[]),q:=⟨[.p 0 0 0,.b,.p 1 0 0,.t .state,.i .i64,.i .i64],[z34,.bx [.sw 2],.rw .state .own]⟩,G:=fun R K n a b c d e g h i j l m o=>sound_checker_tree_l0 N a b c e g h i j (pK ⟨[],[z34,.bx [.sw 2],.rw .state .own]⟩ (K (.exit 0)) e g h i j) (pK ⟨[],[z34,.bx [.sw 2],.rw .state .own]⟩ (K .ret) e g h i j) n d l m o,B:=fun R K rec a b c d e g h i j l m o=>sound_checker_tree_l0_b N a b c e g h i j (pK ⟨[],[z34,.bx [.sw 2],.rw .state .own]⟩ (K (.exit 0)) e g h i j) (pK ⟨[],[z34,.bx [.sw 2],.rw .state .own]⟩ (K .ret) e g h i j) (fun d l m o=>rec a b c d e g h i j l m o) d l m o }],cuts:=[{ key:=6,live:=[0,2,3,9,10,11,12,13],fix:=[(⟨3,[0]⟩,.row .state .own)],out:=fun | .ret=>([],[]) | .normal=>([0,2,3,11,12,13],[]) | _=>([],[]),q:=⟨[.p 0 0 0,.b,.p 1 0 0,.p 3 0 0,.b,.t .state,.i .i64,.i .i64],[z34,.bx [.sw 2],.rw .state .own,z35]⟩,G:=fun R K a b c d e g h i j l m o p q s t u v w x=>sound_checker_tree_c6 N a b c d e g h i j l m o p q s t u v w x (pK ⟨[],[z34,.bx [.sw 2],.rw .state .own]⟩ (K .ret) g h i j l) (pK ⟨[.p 0 0 0,.b,.p 1 0 0,.t .state,.i .i64,.i .i64],[z34,.bx [.sw 2],.rw .state .own]⟩ (K .normal) a c d e g h i j l) }],g:=[sound_checker_want_S N,sound_states_S N,sound_checker_tree_2_S N,sound_history_S N,sound_twice_State_2_S N],mode:=fun | 76=>.own | _=>.app }
def sound_checker_tree_S (N:Nat):OC E0:=⟨_,FD.ct e0 (sound_checker_tree_D N) N (fun R k a b c d e g h i j=>sound_checker_tree N a b c d e g h i j (oK ⟨.tp [],[z34,.bx [.sw 2]],[.rw .state .own]⟩ k c d e g h))⟩
structure Fam_sound_checker_expr where
 sound_checker_expr:(R:Type)→(List UInt8)→Int→Int→(List Named)→(List Named)→(List Named)→(List State)→Int→Int→Int→(List UInt8)→(List Expr)→Int→Int→(List Chart)→(List Inst)→(List Chan)→(List Cert)→Int→Int→(List State)→(Int→Int→Option R)→Option R
def sound_checker_expr_q:Pat S:=⟨[.p 0 0 0,y12,.sw 1,y4],[z34,.rw .state .own]⟩
def sound_checker_expr_C (F:Fam_sound_checker_expr):Ct S:=⟨129,sound_checker_expr_q,fun R k a b c d e g h i j l m o p q s t u v w x y=>F.sound_checker_expr R a b c d e g h i j l m o p q s t u v w x y (fun z a1=>oK ⟨.tp [],[z34,.rw .state .own],[]⟩ k q s t u v z a1 y)⟩
structure Fam_sound_checker_expr_ok (F:Fam_sound_checker_expr):Prop where
 sound_checker_expr:(sound_checker_expr_C F).ok E0
end
end So
