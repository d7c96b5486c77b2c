/- T3_1: a part of the proof of SoundCerts: lemmas on the evaluator and on the functions that the law reaches. -/
import Derived.Test.YtcllbmdpckfnhaaGreatT24
set_option maxRecDepth 100000
set_option linter.unusedVariables false
namespace So
open Go TE Go.Proofs
noncomputable section
variable {R:Type}
def z34:ShO S:=.bx [.i .i64,.t .chart,.t .inst,.t .chan,.t .cert,.i .i64,.i .i64]
def ae (N:Nat) (holds:Bool) (code at_ Age:Int) (Charts:List Chart) (Insts:List Inst) (Chans:List ai) (Certs:List Cert) (Code At:Int) (k0:Int→Int→Option R):Option R :=
 (ifB (!holds) true (some (Code == 0)) (some false)).bind fun c1 =>
 if c1 = true then
 (k0 code at_)
 else
 (k0 Code At)
def xG (N:Nat):FD E0:={ f:=29,fn:=Tryz.f29,q:=⟨[.p 0 0 0,.b,.i .i64,.i .i64],[z34]⟩ }
def aU (N:Nat):OC E0:=⟨_,FD.ct e0 (xG N) N (fun R k a b c d e g h i j l=>ae N a b c d e g h i j l (oK ⟨.tp [],[z34],[]⟩ k d e g h i))⟩
def Dt (N:Nat) (Name:List UInt8) (Steps Fuel:Int) (Vars Ports Timers:List af) (States:List State) (At:Int) (k0:Option R):Option R :=
 k0 
def Bi (N:Nat):FD E0:={ f:=31,fn:=Tryz.f31,q:=⟨[y12],[]⟩ }
def tA (N:Nat):OC E0:=⟨_,FD.ct e0 (Bi N) N (fun R k a b c d e g h i=>Dt N a b c d e g h i (oK ⟨.st,[],[]⟩ k a))⟩
def zU (N:Nat) (Name:List UInt8) (Steps Fuel:Int) (Vars Ports Timers:List af) (States:List State) (At:Int) (a2_0:List UInt8) (k0:Bool→Option R):Option R :=
 k0 (Name == a2_0)
def xH (N:Nat):FD E0:={ f:=125,fn:=Tryz.f125,q:=⟨[y12,.p 0 0 0,.p 1 0 0],[.bx [.fn 31 []],.bx [.st]]⟩,g:=[tA N] }
def xI (N:Nat):OC E0:=⟨_,FD.ctq e0 (xH N) N (fun R k a b c d e g h i j=>zU N a b c d e g h i j (oQ ⟨.b,[],[]⟩ k))⟩
def dA (N:Nat) (s_1:List Chart) (v_2:Int) (f_4:List UInt8) (kp0:Option R) (kp1:Int→Option R) (rec:Int→Option R) (v_3:Int):Option R :=
 if (decide (v_3 < v_2)) = true then
 ((at? s_1 v_3).bind fun e5 =>
 if (e5.Name == f_4) = true then
 (kp1 v_3)
 else
 (rec (IntKind.wrap .i64 (v_3 + 1))))
 else
 (kp0 )
def bY (N:Nat) (s_1:List Chart) (v_2:Int) (f_4:List UInt8) (kp0:Option R) (kp1:Int→Option R):Nat→Int→Option R
 | 0=>fun _=>none
 | n + 1=>fun v_3=>dA N s_1 v_2 f_4 kp0 kp1 (bY N s_1 v_2 f_4 kp0 kp1 n) v_3
def gj (N:Nat) (s:List Chart) (f_c1_0:List UInt8) (k0:Int→Option R):Option R :=
 bY N s ((s.length:Nat):Int) f_c1_0 (k0 (-1))
 (fun y6 =>
 k0 y6) N 0
def tT (N:Nat):FD E0:={ f:=124,fn:=Tryz.f124,q:=⟨[.t .chart,.fn 125 [.p 0 0 0,.p 1 0 0]],[.bx [.fn 31 []],.bx [.st]]⟩,loops:=[{ cur:=0,live:=[0,1,7,8],out:=fun | .exit 0=>([],[]) | .ret=>([4],[]) | _=>([],[]),q:=⟨[.t .chart,.fn 125 [.p 0 0 0,.p 1 0 0],.i .i64,.i .i64],[.bx [.fn 31 []],.bx [.st]]⟩,G:=fun R K n a b c d=>bY N a b d (pK ⟨[],[.bx [.fn 31 []],.bx [.st]]⟩ (K (.exit 0)) d) (fun e=>pK ⟨[.i .i64],[.bx [.fn 31 []],.bx [.st]]⟩ (K .ret) e d) n c,B:=fun R K rec a b c d=>dA N a b d (pK ⟨[],[.bx [.fn 31 []],.bx [.st]]⟩ (K (.exit 0)) d) (fun e=>pK ⟨[.i .i64],[.bx [.fn 31 []],.bx [.st]]⟩ (K .ret) e d) (fun c=>rec a b c d) c }],g:=[xI N] }
def tU (N:Nat):OC E0:=⟨_,FD.ctq e0 (tT N) N (fun R k a b=>gj N a b (oQ ⟨.i .i64,[],[]⟩ k))⟩
def eK (N:Nat) (l:List Chart) (s:List UInt8) (k0:Int→Option R):Option R :=
 gj N l s (fun r1 =>
 k0 r1)
def zV (N:Nat):FD E0:={ f:=60,fn:=Tryz.f60,q:=⟨[.t .chart,.st,.fn 31 []],[]⟩,g:=[tU N] }
def nA (N:Nat):OC E0:=⟨_,FD.ct e0 (zV N) N (fun R k a b=>eK N a b (oK ⟨.i .i64,[],[]⟩ k))⟩
def kM (N:Nat) (l:List Chart) (Name:List UInt8) (Steps Fuel:Int) (Vars Ports Timers:List af) (States:List State) (At:Int) (k0:Bool→Option R):Option R :=
 eK N l Name (fun r1 =>
 k0 (decide (r1 ≥ 0)))
def za (N:Nat):FD E0:={ f:=30,fn:=Tryz.f30,q:=⟨[.t .chart,y12,.fn 31 []],[]⟩,g:=[tA N,nA N] }
def zb (N:Nat):OC E0:=⟨_,FD.ct e0 (za N) N (fun R k a b c d e g h i j=>kM N a b c d e g h i j (oK ⟨.b,[],[]⟩ k))⟩
def dj (N:Nat) (n_ least most:Int) (k0:Bool→Option R):Option R :=
 (ifB (decide (n_ ≥ least)) true (some (decide (n_ ≤ most))) (some false)).bind fun c1 =>
 k0 c1
def EI (N:Nat):FD E0:={ f:=61,fn:=Tryz.f61,q:=⟨[.i .i64,.i .i64,.i .i64],[]⟩ }
def la (N:Nat):OC E0:=⟨_,FD.ct e0 (EI N) N (fun R k a b c=>dj N a b c (oK ⟨.b,[],[]⟩ k))⟩
def dF (N:Nat) (Kind:Int) (Name:List UInt8) (Entry Exit:List Act) (Trans_:List Trans) (Kids:List State) (At:Int) (k0:Bool→Option R):Option R :=
 (ifB (Kind == 3) false (some (Kind == 4)) (some true)).bind fun c1 =>
 k0 c1
def Du (N:Nat):FD E0:={ f:=65,fn:=Tryz.f65,q:=⟨[y2],[]⟩ }
def ik (N:Nat):OC E0:=⟨_,FD.ct e0 (Du N) N (fun R k a b c d e g h=>dF N a b c d e g h (oK ⟨.b,[],[]⟩ k))⟩
def ot (N:Nat) (Kind:Int) (Name:List UInt8) (Entry Exit:List Act) (Trans_:List Trans) (Kids:List State) (At:Int) (k0:Bool→Option R):Option R :=
 dF N Kind Name Entry Exit Trans_ Kids At (fun r1 =>
 k0 (!r1))
def Cn (N:Nat):FD E0:={ f:=126,fn:=Tryz.f126,q:=⟨[y2],[]⟩,g:=[ik N] }
def Co (N:Nat):OC E0:=⟨_,FD.ct e0 (Cn N) N (fun R k a b c d e g h=>ot N a b c d e g h (oK ⟨.b,[],[]⟩ k))⟩
def dB (N:Nat) (s_1:List State) (v_2:Int) (kp0:Option R) (kp1:Int→Option R) (rec:Int→Option R) (v_3:Int):Option R :=
 if (decide (v_3 < v_2)) = true then
 ((at? s_1 v_3).bind fun e4 =>
 ot N e4.Kind e4.Name e4.Entry e4.Exit e4.Trans e4.Kids e4.At (fun r5 =>
 if r5 = true then
 (kp1 v_3)
 else
 (rec (IntKind.wrap .i64 (v_3 + 1)))))
 else
 (kp0 )
def bZ (N:Nat) (s_1:List State) (v_2:Int) (kp0:Option R) (kp1:Int→Option R):Nat→Int→Option R
 | 0=>fun _=>none
 | n + 1=>fun v_3=>dB N s_1 v_2 kp0 kp1 (bZ N s_1 v_2 kp0 kp1 n) v_3
def gl (N:Nat) (s:List State) (k0:Int→Option R):Option R :=
 bZ N s ((s.length:Nat):Int) (k0 (-1))
 (fun y6 =>
 k0 y6) N 0
def tV (N:Nat):FD E0:={ f:=137,fn:=Tryz.f137,q:=⟨[.t .state,.fn 126 []],[]⟩,loops:=[{ cur:=0,live:=[0,1,7,8],out:=fun | .exit 0=>([],[]) | .ret=>([4],[]) | _=>([],[]),q:=⟨[.t .state,.fn 126 [],.i .i64,.i .i64],[]⟩,G:=fun R K n a b c=>bZ N a b (pK ⟨[],[]⟩ (K (.exit 0))) (pK ⟨[.i .i64],[]⟩ (K .ret)) n c,B:=fun R K rec a b c=>dB N a b (pK ⟨[],[]⟩ (K (.exit 0))) (pK ⟨[.i .i64],[]⟩ (K .ret)) (rec a b) c }],g:=[Co N] }
def tW (N:Nat):OC E0:=⟨_,FD.ct e0 (tV N) N (fun R k a=>gl N a (oK ⟨.i .i64,[],[]⟩ k))⟩
def hU (N:Nat) (s:List State) (k0:Bool→Option R):Option R :=
 gl N s (fun r1 =>
 k0 (decide (r1 ≥ 0)))
def qZ (N:Nat):FD E0:={ f:=80,fn:=Tryz.f80,q:=⟨[.t .state,.fn 126 []],[]⟩,g:=[tW N] }
def ra (N:Nat):OC E0:=⟨_,FD.ct e0 (qZ N) N (fun R k a=>hU N a (oK ⟨.b,[],[]⟩ k))⟩
def iD (N:Nat) (l:List State) (k0:Bool→Option R):Option R :=
 hU N l (fun r1 =>
 k0 r1)
def EJ (N:Nat):FD E0:={ f:=62,fn:=Tryz.f62,q:=⟨[.t .state],[]⟩,g:=[ra N] }
def rW (N:Nat):OC E0:=⟨_,FD.ct e0 (EJ N) N (fun R k a=>iD N a (oK ⟨.b,[],[]⟩ k))⟩
def IU (N:Nat) (Name:List UInt8) (N_ At:Int) (k0:Option R):Option R :=
 k0 
def FO (N:Nat):FD E0:={ f:=74,fn:=Tryz.f74,q:=⟨[.ag [.st,.i .i64,.i .i64]],[]⟩ }
def zr (N:Nat):OC E0:=⟨_,FD.ct e0 (FO N) N (fun R k a b c=>IU N a b c (oK ⟨.st,[],[]⟩ k a))⟩
def zW (N:Nat) (Name:List UInt8) (N_ At:Int) (a2_0:List UInt8) (k0:Bool→Option R):Option R :=
 k0 (Name == a2_0)
def xJ (N:Nat):FD E0:={ f:=132,fn:=Tryz.f132,q:=⟨[.ag [.st,.i .i64,.i .i64],.p 0 0 0,.p 1 0 0],[.bx [.fn 74 []],.bx [.st]]⟩,g:=[zr N] }
def xK (N:Nat):OC E0:=⟨_,FD.ctq e0 (xJ N) N (fun R k a b c d=>zW N a b c d (oQ ⟨.b,[],[]⟩ k))⟩
def dC (N:Nat) (s_1:List af) (v_2:Int) (f_4:List UInt8) (kp0:Option R) (kp1:Int→Option R) (rec:Int→Option R) (v_3:Int):Option R :=
 if (decide (v_3 < v_2)) = true then
 ((at? s_1 v_3).bind fun e5 =>
 if (e5.Name == f_4) = true then
 (kp1 v_3)
 else
 (rec (IntKind.wrap .i64 (v_3 + 1))))
 else
 (kp0 )
def ca (N:Nat) (s_1:List af) (v_2:Int) (f_4:List UInt8) (kp0:Option R) (kp1:Int→Option R):Nat→Int→Option R
 | 0=>fun _=>none
 | n + 1=>fun v_3=>dC N s_1 v_2 f_4 kp0 kp1 (ca N s_1 v_2 f_4 kp0 kp1 n) v_3
def gn (N:Nat) (s:List af) (f_c1_0:List UInt8) (k0:Int→Option R):Option R :=
 ca N s ((s.length:Nat):Int) f_c1_0 (k0 (-1))
 (fun y6 =>
 k0 y6) N 0
def tX (N:Nat):FD E0:={ f:=131,fn:=Tryz.f131,q:=⟨[.t .named,.fn 132 [.p 0 0 0,.p 1 0 0]],[.bx [.fn 74 []],.bx [.st]]⟩,loops:=[{ cur:=0,live:=[0,1,7,8],out:=fun | .exit 0=>([],[]) | .ret=>([4],[]) | _=>([],[]),q:=⟨[.t .named,.fn 132 [.p 0 0 0,.p 1 0 0],.i .i64,.i .i64],[.bx [.fn 74 []],.bx [.st]]⟩,G:=fun R K n a b c d=>ca N a b d (pK ⟨[],[.bx [.fn 74 []],.bx [.st]]⟩ (K (.exit 0)) d) (fun e=>pK ⟨[.i .i64],[.bx [.fn 74 []],.bx [.st]]⟩ (K .ret) e d) n c,B:=fun R K rec a b c d=>dC N a b d (pK ⟨[],[.bx [.fn 74 []],.bx [.st]]⟩ (K (.exit 0)) d) (fun e=>pK ⟨[.i .i64],[.bx [.fn 74 []],.bx [.st]]⟩ (K .ret) e d) (fun c=>rec a b c d) c }],g:=[xK N] }
def tY (N:Nat):OC E0:=⟨_,FD.ctq e0 (tX N) N (fun R k a b=>gn N a b (oQ ⟨.i .i64,[],[]⟩ k))⟩
def bE (N:Nat) (l:List af) (s:List UInt8) (k0:Int→Option R):Option R :=
 gn N l s (fun r1 =>
 k0 r1)
def zX (N:Nat):FD E0:={ f:=73,fn:=Tryz.f73,q:=⟨[.t .named,.st,.fn 74 []],[]⟩,g:=[tY N] }
def jD (N:Nat):OC E0:=⟨_,FD.ct e0 (zX N) N (fun R k a b=>bE N a b (oK ⟨.i .i64,[],[]⟩ k))⟩
def kN (N:Nat) (l:List af) (Name:List UInt8) (N_ At:Int) (k0:Bool→Option R):Option R :=
 bE N l Name (fun r1 =>
 k0 (decide (r1 ≥ 0)))
def zc (N:Nat):FD E0:={ f:=127,fn:=Tryz.f127,q:=⟨[.t .named,.ag [.st,.i .i64,.i .i64],.fn 74 []],[]⟩,g:=[jD N,zr N] }
def zd (N:Nat):OC E0:=⟨_,FD.ct e0 (zc N) N (fun R k a b c d=>kN N a b c d (oK ⟨.b,[],[]⟩ k))⟩
def eL (N:Nat) (l_1:List af) (most_2:Int) (v_3:List af) (v_4 c_6:Int) (c_7:List Chart) (c_8:List Inst) (c_9:List ai) (c_10:List Cert) (kp0:Int→Int→Option R) (rec:Int→Int→Int→Option R) (v_5 c_11 c_12:Int):Option R :=
 if (decide (v_5 < v_4)) = true then
 ((at? v_3 v_5).bind fun e13 =>
 ae N (decide (v_5 < most_2)) 15 e13.At c_6 c_7 c_8 c_9 c_10 c_11 c_12 (fun r14 r15 =>
 if (0:Int) ≤ 0 ∧ 0 ≤ v_5 ∧ v_5 ≤ ((l_1.length:Nat):Int) then (kN N ((l_1.take v_5.toNat).drop (Int.toNat 0)) e13.Name e13.N e13.At (fun r16 =>
 ae N (!r16) 8 e13.At c_6 c_7 c_8 c_9 c_10 r14 r15 (fun r17 r18 =>
 rec (IntKind.wrap .i64 (v_5 + 1)) r17 r18))) else none))
 else
 (kp0 c_11 c_12)
def cF (N:Nat) (l_1:List af) (most_2:Int) (v_3:List af) (v_4 c_6:Int) (c_7:List Chart) (c_8:List Inst) (c_9:List ai) (c_10:List Cert) (kp0:Int→Int→Option R):Nat→Int→Int→Int→Option R
 | 0=>fun _ _ _=>none
 | n + 1=>fun v_5 c_11 c_12=>eL N l_1 most_2 v_3 v_4 c_6 c_7 c_8 c_9 c_10 kp0 (cF N l_1 most_2 v_3 v_4 c_6 c_7 c_8 c_9 c_10 kp0 n) v_5 c_11 c_12
def er (N:Nat) (l:List af) (most Age:Int) (Charts:List Chart) (Insts:List Inst) (Chans:List ai) (Certs:List Cert) (Code At:Int) (k0:Int→Int→Option R):Option R :=
 cF N l most l ((l.length:Nat):Int) Age Charts Insts Chans Certs (fun y19 y20 =>
 k0 y19 y20) N 0 Code At
def wN (N:Nat):FD E0:={ f:=63,fn:=Tryz.f63,q:=⟨[.p 0 0 0,.t .named,.i .i64],[z34]⟩,loops:=[{ cur:=0,live:=[0,1,2,8,9,10],out:=fun | .exit 0=>([],[]) | _=>([],[]),q:=⟨[.p 0 0 0,.t .named,.i .i64,.t .named,.i .i64,.i .i64],[z34]⟩,G:=fun R K n a b c d e g h i j l m o=>cF N a b c d g h i j l (pK ⟨[],[z34]⟩ (K (.exit 0)) g h i j l) n e m o,B:=fun R K rec a b c d e g h i j l m o=>eL N a b c d g h i j l (pK ⟨[],[z34]⟩ (K (.exit 0)) g h i j l) (fun e m o=>rec a b c d e g h i j l m o) e m o }],g:=[aU N,zd N] }
def wO (N:Nat):OC E0:=⟨_,FD.ct e0 (wN N) N (fun R k a b c d e g h i j=>er N a b c d e g h i j (oK ⟨.tp [],[z34],[]⟩ k c d e g h))⟩
def Dv (N:Nat) (Kind:Int) (Name:List UInt8) (Entry Exit:List Act) (Trans_:List Trans) (Kids:List State) (At:Int) (k0:Option R):Option R :=
 k0 
def Bj (N:Nat):FD E0:={ f:=84,fn:=Tryz.f84,q:=⟨[y2],[]⟩ }
def tB (N:Nat):OC E0:=⟨_,FD.ct e0 (Bj N) N (fun R k a b c d e g h=>Dv N a b c d e g h (oK ⟨.st,[],[]⟩ k b))⟩
def zY (N:Nat) (Kind:Int) (Name:List UInt8) (Entry Exit:List Act) (Trans_:List Trans) (Kids:List State) (At:Int) (a2_0:List UInt8) (k0:Bool→Option R):Option R :=
 k0 (Name == a2_0)
def xL (N:Nat):FD E0:={ f:=138,fn:=Tryz.f138,q:=⟨[y2,.p 0 0 0,.p 1 0 0],[.bx [.fn 84 []],.bx [.st]]⟩,g:=[tB N] }
def qi (N:Nat):OC E0:=⟨_,FD.ctq e0 (xL N) N (fun R k a b c d e g h i=>zY N a b c d e g h i (oQ ⟨.b,[],[]⟩ k))⟩
def cQ (N:Nat) (v_1:Int) (s_3:List State) (f_4:List UInt8) (kp0:Option R) (kp1:Int→Option R) (rec:Int→Option R) (v_2:Int):Option R :=
 if (decide (v_2 < v_1)) = true then
 (if (0:Int) ≤ v_2 ∧ v_2 < (s_3.length:Int) then (match s_3[v_2.toNat]? with
 | some e5=>(if (e5.Name == f_4) = true then
 (kp1 v_2)
 else
 (rec (IntKind.wrap .i64 (v_2 + 1))))
 | none=>none) else none)
 else
 (kp0 )
def bJ (N:Nat) (v_1:Int) (s_3:List State) (f_4:List UInt8) (kp0:Option R) (kp1:Int→Option R):Nat→Int→Option R
 | 0=>fun _=>none
 | n + 1=>fun v_2=>cQ N v_1 s_3 f_4 kp0 kp1 (bJ N v_1 s_3 f_4 kp0 kp1 n) v_2
def eM (N:Nat) (s:List State) (f_c1_0:List UInt8) (k0:Int→Option R):Option R :=
 bJ N ((s.length:Nat):Int) s f_c1_0 (k0 (-1))
 (fun y6 =>
 k0 y6) N 0
def rX (N:Nat):FD E0:={ f:=137,fn:=Tryz.f137,q:=⟨[.sw 0,.fn 138 [.p 1 0 0,.p 2 0 0]],[.rw .state .own,.bx [.fn 84 []],.bx [.st]]⟩,loops:=[{ cur:=0,live:=[0,1,7,8],out:=fun | .exit 0=>([],[]) | .ret=>([4],[]) | _=>([],[]),q:=⟨[.sw 0,.fn 138 [.p 1 0 0,.p 2 0 0],.i .i64,.i .i64],[.rw .state .own,.bx [.fn 84 []],.bx [.st]]⟩,G:=fun R K n a b c d=>bJ N a c d (pK ⟨[],[.rw .state .own,.bx [.fn 84 []],.bx [.st]]⟩ (K (.exit 0)) c d) (fun e=>pK ⟨[.i .i64],[.rw .state .own,.bx [.fn 84 []],.bx [.st]]⟩ (K .ret) e c d) n b,B:=fun R K rec a b c d=>cQ N a c d (pK ⟨[],[.rw .state .own,.bx [.fn 84 []],.bx [.st]]⟩ (K (.exit 0)) c d) (fun e=>pK ⟨[.i .i64],[.rw .state .own,.bx [.fn 84 []],.bx [.st]]⟩ (K .ret) e c d) (fun b=>rec a b c d) b }],g:=[qi N] }
def rY (N:Nat):OC E0:=⟨_,FD.ctq e0 (rX N) N (fun R k a b=>eM N a b (oQ ⟨.i .i64,[],[]⟩ k))⟩
def dv (N:Nat) (s:List UInt8) (l:List State) (k0:Int→Option R):Option R :=
 eM N l s (fun r1 =>
 k0 r1)
def xM (N:Nat):FD E0:={ f:=83,fn:=Tryz.f83,q:=⟨[.sw 0,.st,.fn 84 []],[.rw .state .own]⟩,g:=[rY N] }
def lb (N:Nat):OC E0:=⟨_,FD.ctq e0 (xM N) N (fun R k a b=>dv N a b (oQ ⟨.i .i64,[],[]⟩ k))⟩
def ga (N:Nat) (Kind:Int) (Name:List UInt8) (Entry Exit:List Act) (Trans_:List Trans) (Kids:List State) (At:Int) (l:List State) (k0:Bool→Option R):Option R :=
 dv N Name l (fun r1 =>
 k0 (decide (r1 ≥ 0)))
def wP (N:Nat):FD E0:={ f:=128,fn:=Tryz.f128,q:=⟨[.sw 0,y2,.fn 84 []],[.rw .state .own]⟩,g:=[lb N,tB N] }
def pc (N:Nat):OC E0:=⟨_,FD.ctq e0 (wP N) N (fun R k a b c d e g h i=>ga N a b c d e g h i (oQ ⟨.b,[],[]⟩ k))⟩
structure az where
 sound_checker_tree_2:(R:Type)→(List State)→Bool→Int→(List Chart)→(List Inst)→(List ai)→(List Cert)→Int→Int→(List State)→(Int→Int→(List State)→Option R)→Option R
def ou:Pat S:=⟨[.p 0 0 0,.t .state,.b,.p 1 0 0],[z34,.bx [.sw 2],.rw .state .own]⟩
def jE (F:az):Ct S:=⟨64,ou,fun R k a b c d e g h i j l=>F.sound_checker_tree_2 R a b c d e g h i j l (oK ⟨.tp [],[z34,.bx [.sw 3],.g],[.rw .state .own]⟩ k c d e g h)⟩
structure gp (F:az):Prop where
 sound_checker_tree_2:(jE F).ok E0
def z35:ShO S:=.bx [.i .i64,.st,.t .act,.t .act,.t .trans,.t .state,.i .i64]
def fy (F:az) (N:Nat) (top_27 bad_28:Bool) (v_29:List State) (v_30 v_31 c_32:Int) (c_33:List Chart) (c_34:List Inst) (c_35:List ai) (c_36:List Cert) (c_37 c_38:Int) (o_39:List State) (s_40:Int) (s_41:List UInt8) (s_42 s_43:List Act) (s_44:List Trans) (s_45:List State) (s_46:Int) (kp0 kp1:Int→Int→(List State)→Option R):Option R :=
 ae N (!bad_28) 17 s_46 c_32 c_33 c_34 c_35 c_36 c_37 c_38 (fun r47 r48 =>
 if o_39.length + ([(⟨0,[],[],[],[],[],0⟩:State)]).length ≤ ak then (if (0:Int) ≤ ((o_39.length:Nat):Int) ∧ ((o_39.length:Nat):Int) < ((o_39 ++ ([(⟨0,[],[],[],[],[],0⟩:State)])).length:Int) then (match (o_39 ++ ([(⟨0,[],[],[],[],[],0⟩:State)]))[((o_39.length:Nat):Int).toNat]? with
 | some e49=>(if (r47 != 0) = true then
 (kp0 r47 r48 ((o_39 ++ ([(⟨0,[],[],[],[],[],0⟩:State)])).set (((o_39.length:Nat):Int).toNat) (⟨s_40,s_41,s_42,s_43,s_44,s_45,s_46⟩:State)))
 else
 (F.sound_checker_tree_2 _ s_45 false c_32 c_33 c_34 c_35 c_36 r47 r48 ((o_39 ++ ([(⟨0,[],[],[],[],[],0⟩:State)])).set (((o_39.length:Nat):Int).toNat) (⟨s_40,s_41,s_42,s_43,s_44,s_45,s_46⟩:State)) (fun r50 r51 r52 =>
 kp1 r50 r51 r52)))
 | none=>none) else none) else none)
def eC (F:az) (N:Nat) (top_1:Bool) (v_2:List State) (v_3 c_5:Int) (c_6:List Chart) (c_7:List Inst) (c_8:List ai) (c_9:List Cert) (kp0 kp1:Int→Int→(List State)→Option R) (rec:Int→Int→Int→(List State)→Option R) (v_4 c_10 c_11:Int) (o_12:List State):Option R :=
 if (decide (v_4 < v_3)) = true then
 ((at? v_2 v_4).bind fun e13 =>
 ae N (decide (((o_12.length:Nat):Int) < 63)) 15 e13.At c_5 c_6 c_7 c_8 c_9 c_10 c_11 (fun r14 r15 =>
 ga N e13.Kind e13.Name e13.Entry e13.Exit e13.Trans e13.Kids e13.At o_12 (fun r16 =>
 ae N (!r16) 8 e13.At c_5 c_6 c_7 c_8 c_9 r14 r15 (fun r17 r18 =>
 (ifB top_1 true (dF N e13.Kind e13.Name e13.Entry e13.Exit e13.Trans e13.Kids e13.At (fun r19 =>
 some r19)) (some false)).bind fun c20 =>
 (ifB c20 false ((ifB (e13.Kind == 2) true (iD N e13.Kids (fun r21 =>
 some (!r21))) (some false)).bind fun c22 =>
 some c22) (some true)).bind fun c23 =>
 (ifB c23 false ((ifB (decide (((e13.Kids.length:Nat):Int) > 0)) true (iD N e13.Kids (fun r24 =>
 some (!r24))) (some false)).bind fun c25 =>
 some c25) (some true)).bind fun c26 =>
 fy F N top_1 c26 v_2 v_3 v_4 c_5 c_6 c_7 c_8 c_9 r17 r18 o_12 e13.Kind e13.Name e13.Entry e13.Exit e13.Trans e13.Kids e13.At (fun y53 y54 y55 =>
 kp1 y53 y54 y55)
 (fun y56 y57 y58 =>
 rec (IntKind.wrap .i64 (v_4 + 1)) y56 y57 y58)))))
 else
 (kp0 c_10 c_11 o_12)
def bS (F:az) (N:Nat) (top_1:Bool) (v_2:List State) (v_3 c_5:Int) (c_6:List Chart) (c_7:List Inst) (c_8:List ai) (c_9:List Cert) (kp0 kp1:Int→Int→(List State)→Option R):Nat→Int→Int→Int→(List State)→Option R
 | 0=>fun _ _ _ _=>none
 | n + 1=>fun v_4 c_10 c_11 o_12=>eC F N top_1 v_2 v_3 c_5 c_6 c_7 c_8 c_9 kp0 kp1 (bS F N top_1 v_2 v_3 c_5 c_6 c_7 c_8 c_9 kp0 kp1 n) v_4 c_10 c_11 o_12
def dN (F:az) (N:Nat) (l:List State) (top:Bool) (Age:Int) (Charts:List Chart) (Insts:List Inst) (Chans:List ai) (Certs:List Cert) (Code At:Int) (out:List State) (k0:Int→Int→(List State)→Option R):Option R :=
 bS F N top l ((l.length:Nat):Int) Age Charts Insts Chans Certs (fun y59 y60 y61 =>
 k0 y59 y60 y61)
 (fun y62 y63 y64 =>
 k0 y62 y63 y64) N 0 Code At out
def jF (F:az) (hF:gp F) (N:Nat):FD E0:={ f:=64,fn:=Tryz.f64,q:=ou,loops:=[{ cur:=0,live:=[0,2,3,11,12,13],fix:=[(⟨3,[0]⟩,.fresh .state .own)],out:=fun | .exit 0=>([],[]) | .ret=>([],[]) | _=>([],[]),q:=⟨[.p 0 0 0,.b,.p 1 0 0,.t .state,.i .i64,.i .i64],[z34,.bx [.sw 3],.g,.rw .state .own]⟩,G:=fun R K n a b c d e g h i j l m o=>bS F N a b c e g h i j (pK ⟨[],[z34,.bx [.sw 3],.g,.rw .state .own]⟩ (K (.exit 0)) e g h i j) (pK ⟨[],[z34,.bx [.sw 3],.g,.rw .state .own]⟩ (K .ret) e g h i j) n d l m o,B:=fun R K rec a b c d e g h i j l m o=>eC F N a b c e g h i j (pK ⟨[],[z34,.bx [.sw 3],.g,.rw .state .own]⟩ (K (.exit 0)) e g h i j) (pK ⟨[],[z34,.bx [.sw 3],.g,.rw .state .own]⟩ (K .ret) e g h i j) (fun d l m o=>rec a b c d e g h i j l m o) d l m o }],cuts:=[{ key:=6,live:=[0,2,3,9,10,11,12,13],fix:=[(⟨3,[0]⟩,.fresh .state .own)],out:=fun | .ret=>([],[]) | .normal=>([0,2,3,11,12,13],[]) | _=>([],[]),q:=⟨[.p 0 0 0,.b,.p 1 0 0,.p 4 0 0,.b,.t .state,.i .i64,.i .i64],[z34,.bx [.sw 3],.g,.rw .state .own,z35]⟩,G:=fun R K a b c d e g h i j l m o p q s t u v w x=>fy F N a b c d e g h i j l m o p q s t u v w x (pK ⟨[],[z34,.bx [.sw 3],.g,.rw .state .own]⟩ (K .ret) g h i j l) (pK ⟨[.p 0 0 0,.b,.p 1 0 0,.t .state,.i .i64,.i .i64],[z34,.bx [.sw 3],.g,.rw .state .own]⟩ (K .normal) a c d e g h i j l) }],g:=[aU N,rW N,⟨jE F,hF.sound_checker_tree_2⟩,ik N,pc N] }
theorem tZ (F:az) (hF:gp F) (N:Nat):Ct.ok E0 ⟨(jF F hF N).f,(jF F hF N).q,fun R k a b c d e g h i j l=>dN F N a b c d e g h i j l (oK ⟨.tp [],[z34,.bx [.sw 3],.g],[.rw .state .own]⟩ k c d e g h)⟩:=FD.ct e0 (jF F hF N) N (fun R k a b c d e g h i j l=>dN F N a b c d e g h i j l (oK ⟨.tp [],[z34,.bx [.sw 3],.g],[.rw .state .own]⟩ k c d e g h))
def qj (F:az) (N:Nat):az where
 sound_checker_tree_2:=fun R l top Age Charts Insts Chans Certs Code At out k0=>dN F N l top Age Charts Insts Chans Certs Code At out k0
def bp (N:Nat):Nat→az
 | 0=>{ sound_checker_tree_2:=fun _ _ _ _ _ _ _ _ _ _ _ _=>none }
 | d + 1=>qj (bp N d) N
theorem jh (N:Nat):∀ d,gp (bp N d)
 | 0=>{ sound_checker_tree_2:=Ct.ok_none }
 | d + 1=>{ sound_checker_tree_2:=tZ _ (jh N d) N }
def sound_checker_tree_2 (N:Nat) (l:List State) (top:Bool) (Age:Int) (Charts:List Chart) (Insts:List Inst) (Chans:List ai) (Certs:List Cert) (Code At:Int) (out:List State) (k0:Int→Int→(List State)→Option R):Option R:=(bp N N).sound_checker_tree_2 R l top Age Charts Insts Chans Certs Code At out k0
theorem uG (N d:Nat) (l:List State) (top:Bool) (Age:Int) (Charts:List Chart) (Insts:List Inst) (Chans:List ai) (Certs:List Cert) (Code At:Int) (out:List State) (k0:Int→Int→(List State)→Option R):(bp N (d + 1)).sound_checker_tree_2 R l top Age Charts Insts Chans Certs Code At out k0 = dN (bp N d) N l top Age Charts Insts Chans Certs Code At out k0:=rfl
def vH (N:Nat):OC E0:=⟨jE (bp N N),(jh N N).sound_checker_tree_2⟩
def gV (N:Nat) (top_27 bad_28:Bool) (v_29:List State) (v_30 v_31 c_32:Int) (c_33:List Chart) (c_34:List Inst) (c_35:List ai) (c_36:List Cert) (c_37 c_38:Int) (o_39:List State) (s_40:Int) (s_41:List UInt8) (s_42 s_43:List Act) (s_44:List Trans) (s_45:List State) (s_46:Int) (kp0 kp1:Int→Int→(List State)→Option R):Option R :=
 ae N (!bad_28) 17 s_46 c_32 c_33 c_34 c_35 c_36 c_37 c_38 (fun r47 r48 =>
 if o_39.length + ([(⟨0,[],[],[],[],[],0⟩:State)]).length ≤ ak then (if (0:Int) ≤ ((o_39.length:Nat):Int) ∧ ((o_39.length:Nat):Int) < ((o_39 ++ ([(⟨0,[],[],[],[],[],0⟩:State)])).length:Int) then (match (o_39 ++ ([(⟨0,[],[],[],[],[],0⟩:State)]))[((o_39.length:Nat):Int).toNat]? with
 | some e49=>(if (r47 != 0) = true then
 (kp0 r47 r48 ((o_39 ++ ([(⟨0,[],[],[],[],[],0⟩:State)])).set (((o_39.length:Nat):Int).toNat) (⟨s_40,s_41,s_42,s_43,s_44,s_45,s_46⟩:State)))
 else
 (sound_checker_tree_2 N s_45 false c_32 c_33 c_34 c_35 c_36 r47 r48 ((o_39 ++ ([(⟨0,[],[],[],[],[],0⟩:State)])).set (((o_39.length:Nat):Int).toNat) (⟨s_40,s_41,s_42,s_43,s_44,s_45,s_46⟩:State)) (fun r50 r51 r52 =>
 kp1 r50 r51 r52)))
 | none=>none) else none) else none)
def fA (N:Nat) (top_1:Bool) (v_2:List State) (v_3 c_5:Int) (c_6:List Chart) (c_7:List Inst) (c_8:List ai) (c_9:List Cert) (kp0 kp1:Int→Int→(List State)→Option R) (rec:Int→Int→Int→(List State)→Option R) (v_4 c_10 c_11:Int) (o_12:List State):Option R :=
 if (decide (v_4 < v_3)) = true then
 ((at? v_2 v_4).bind fun e13 =>
 ae N (decide (((o_12.length:Nat):Int) < 63)) 15 e13.At c_5 c_6 c_7 c_8 c_9 c_10 c_11 (fun r14 r15 =>
 ga N e13.Kind e13.Name e13.Entry e13.Exit e13.Trans e13.Kids e13.At o_12 (fun r16 =>
 ae N (!r16) 8 e13.At c_5 c_6 c_7 c_8 c_9 r14 r15 (fun r17 r18 =>
 (ifB top_1 true (dF N e13.Kind e13.Name e13.Entry e13.Exit e13.Trans e13.Kids e13.At (fun r19 =>
 some r19)) (some false)).bind fun c20 =>
 (ifB c20 false ((ifB (e13.Kind == 2) true (iD N e13.Kids (fun r21 =>
 some (!r21))) (some false)).bind fun c22 =>
 some c22) (some true)).bind fun c23 =>
 (ifB c23 false ((ifB (decide (((e13.Kids.length:Nat):Int) > 0)) true (iD N e13.Kids (fun r24 =>
 some (!r24))) (some false)).bind fun c25 =>
 some c25) (some true)).bind fun c26 =>
 gV N top_1 c26 v_2 v_3 v_4 c_5 c_6 c_7 c_8 c_9 r17 r18 o_12 e13.Kind e13.Name e13.Entry e13.Exit e13.Trans e13.Kids e13.At (fun y53 y54 y55 =>
 kp1 y53 y54 y55)
 (fun y56 y57 y58 =>
 rec (IntKind.wrap .i64 (v_4 + 1)) y56 y57 y58)))))
 else
 (kp0 c_10 c_11 o_12)
def cq (N:Nat) (top_1:Bool) (v_2:List State) (v_3 c_5:Int) (c_6:List Chart) (c_7:List Inst) (c_8:List ai) (c_9:List Cert) (kp0 kp1:Int→Int→(List State)→Option R):Nat→Int→Int→Int→(List State)→Option R
 | 0=>fun _ _ _ _=>none
 | n + 1=>fun v_4 c_10 c_11 o_12=>fA N top_1 v_2 v_3 c_5 c_6 c_7 c_8 c_9 kp0 kp1 (cq N top_1 v_2 v_3 c_5 c_6 c_7 c_8 c_9 kp0 kp1 n) v_4 c_10 c_11 o_12
def jG (N:Nat) (l:List State) (top:Bool) (Age:Int) (Charts:List Chart) (Insts:List Inst) (Chans:List ai) (Certs:List Cert) (Code At:Int) (k0:Int→Int→(List State)→Option R):Option R :=
 cq N top l ((l.length:Nat):Int) Age Charts Insts Chans Certs (fun y59 y60 y61 =>
 k0 y59 y60 y61)
 (fun y62 y63 y64 =>
 k0 y62 y63 y64) N 0 Code At ([]:List State)
def xN (N:Nat):FD E0:={ f:=64,fn:=Tryz.f64,q:=⟨[.p 0 0 0,.t .state,.b,.p 1 0 0],[z34,.bx [.ns]]⟩,loops:=[{ cur:=0,live:=[0,2,3,11,12,13],fix:=[(⟨3,[0]⟩,.row .state .own)],out:=fun | .exit 0=>([],[]) | .ret=>([],[]) | _=>([],[]),q:=⟨[.p 0 0 0,.b,.p 1 0 0,.t .state,.i .i64,.i .i64],[z34,.bx [.sw 2],.rw .state .own]⟩,G:=fun R K n a b c d e g h i j l m o=>cq N a b c e g h i j (pK ⟨[],[z34,.bx [.sw 2],.rw .state .own]⟩ (K (.exit 0)) e g h i j) (pK ⟨[],[z34,.bx [.sw 2],.rw .state .own]⟩ (K .ret) e g h i j) n d l m o,B:=fun R K rec a b c d e g h i j l m o=>fA N a b c e g h i j (pK ⟨[],[z34,.bx [.sw 2],.rw .state .own]⟩ (K (.exit 0)) e g h i j) (pK ⟨[],[z34,.bx [.sw 2],.rw .state .own]⟩ (K .ret) e g h i j) (fun d l m o=>rec a b c d e g h i j l m o) d l m o }],cuts:=[{ key:=6,live:=[0,2,3,9,10,11,12,13],fix:=[(⟨3,[0]⟩,.row .state .own)],out:=fun | .ret=>([],[]) | .normal=>([0,2,3,11,12,13],[]) | _=>([],[]),q:=⟨[.p 0 0 0,.b,.p 1 0 0,.p 3 0 0,.b,.t .state,.i .i64,.i .i64],[z34,.bx [.sw 2],.rw .state .own,z35]⟩,G:=fun R K a b c d e g h i j l m o p q s t u v w x=>gV N a b c d e g h i j l m o p q s t u v w x (pK ⟨[],[z34,.bx [.sw 2],.rw .state .own]⟩ (K .ret) g h i j l) (pK ⟨[.p 0 0 0,.b,.p 1 0 0,.t .state,.i .i64,.i .i64],[z34,.bx [.sw 2],.rw .state .own]⟩ (K .normal) a c d e g h i j l) }],g:=[aU N,rW N,vH N,ik N,pc N],mode:=fun | 76=>.own | _=>.app }
def xO (N:Nat):OC E0:=⟨_,FD.ct e0 (xN N) N (fun R k a b c d e g h i j=>jG N a b c d e g h i j (oK ⟨.tp [],[z34,.bx [.sw 2]],[.rw .state .own]⟩ k c d e g h))⟩
structure aS where
 sound_checker_expr:(R:Type)→(List UInt8)→Int→Int→(List af)→(List af)→(List af)→(List State)→Int→Int→Int→(List UInt8)→(List Expr)→Int→Int→(List Chart)→(List Inst)→(List ai)→(List Cert)→Int→Int→(List State)→(Int→Int→Option R)→Option R
def qk:Pat S:=⟨[.p 0 0 0,y12,.sw 1,y4],[z34,.rw .state .own]⟩
def ld (F:aS):Ct S:=⟨129,qk,fun R k a b c d e g h i j l m o p q s t u v w x y=>F.sound_checker_expr R a b c d e g h i j l m o p q s t u v w x y (fun z a1=>oK ⟨.tp [],[z34,.rw .state .own],[]⟩ k q s t u v z a1 y)⟩
structure hY (F:aS):Prop where
 sound_checker_expr:(ld F).ok E0
end
end So
