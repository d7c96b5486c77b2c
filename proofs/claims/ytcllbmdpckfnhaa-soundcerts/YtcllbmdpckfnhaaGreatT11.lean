/- T1_1: a part of the proof of SoundCerts: lemmas on the evaluator and on the functions that the law reaches. -/
import Derived.Test.YtcllbmdpckfnhaaGreatSB
set_option maxRecDepth 100000
set_option linter.unusedVariables false
namespace So
open Go TE Go.Proofs
noncomputable section
variable {R:Type}
def lA (N:Nat) (s_11:List UInt8) (kp0:Int→Option R) (rec:Int→Option R) (i_12:Int):Option R :=
 (ifB (decide (i_12 < ((s_11.length:Nat):Int))) true ((at? s_11 i_12).bind fun b13 =>
 some ((b13.toNat:Int) != 10)) (some false)).bind fun c14 =>
 if c14 = true then
 (rec (IntKind.wrap .i64 (i_12 + 1)))
 else
 (kp0 i_12)
def pv (N:Nat) (s_11:List UInt8) (kp0:Int→Option R):Nat→Int→Option R
 | 0=>fun _=>none
 | n + 1=>fun i_12=>lA N s_11 kp0 (pv N s_11 kp0 n) i_12
def lB (N:Nat) (s_1:List UInt8) (kp0 kp1:Int→Option R) (rec:Int→Option R) (i_2:Int):Option R :=
 if (decide (i_2 < ((s_1.length:Nat):Int))) = true then
 ((at? s_1 i_2).bind fun b3 =>
 (ifB ((b3.toNat:Int) == 32) false ((at? s_1 i_2).bind fun b4 =>
 some ((b4.toNat:Int) == 9)) (some true)).bind fun c5 =>
 (ifB c5 false ((at? s_1 i_2).bind fun b6 =>
 some ((b6.toNat:Int) == 10)) (some true)).bind fun c7 =>
 (ifB c7 false ((at? s_1 i_2).bind fun b8 =>
 some ((b8.toNat:Int) == 13)) (some true)).bind fun c9 =>
 if c9 = true then
 (rec (IntKind.wrap .i64 (i_2 + 1)))
 else
 ((at? s_1 i_2).bind fun b10 =>
 if ((b10.toNat:Int) == 35) = true then
 (pv N s_1 (fun y15 =>
 rec y15) N i_2)
 else
 (kp1 i_2)))
 else
 (kp0 i_2)
def kT (N:Nat) (s_1:List UInt8) (kp0 kp1:Int→Option R):Nat→Int→Option R
 | 0=>fun _=>none
 | n + 1=>fun i_2=>lB N s_1 kp0 kp1 (kT N s_1 kp0 kp1 n) i_2
def vA (N:Nat) (s:List UInt8) (i:Int) (k0:Int→Option R):Option R :=
 kT N s (fun y16 =>
 k0 y16)
 (fun y17 =>
 k0 y17) N i
def NA (N:Nat):FD E0:={ f:=52,fn:=Tryz.f52,q:=⟨[.st,.i .i64],[]⟩,loops:=[{ cur:=3,live:=[0,1],out:=fun | .exit 3=>([0,1],[]) | _=>([],[]),q:=⟨[.st,.i .i64],[]⟩,G:=fun R K n a b=>pv N a (pK ⟨[.st,.i .i64],[]⟩ (K (.exit 3)) a) n b,B:=fun R K rec a b=>lA N a (pK ⟨[.st,.i .i64],[]⟩ (K (.exit 3)) a) (rec a) b },{ cur:=0,live:=[0,1],out:=fun | .exit 0=>([1],[]) | .ret=>([4],[]) | _=>([],[]),q:=⟨[.st,.i .i64],[]⟩,G:=fun R K n a b=>kT N a (pK ⟨[.i .i64],[]⟩ (K (.exit 0))) (pK ⟨[.i .i64],[]⟩ (K .ret)) n b,B:=fun R K rec a b=>lB N a (pK ⟨[.i .i64],[]⟩ (K (.exit 0))) (pK ⟨[.i .i64],[]⟩ (K .ret)) (rec a) b }] }
def NB (N:Nat):OC E0:=⟨_,FD.ct e0 (NA N) N (fun R k a b=>vA N a b (oK ⟨.i .i64,[],[]⟩ k))⟩
def pw (N:Nat) (x:Int) (k0:Bool→Option R):Option R :=
 (ifB (decide (x ≥ 97)) true (some (decide (x ≤ 122))) (some false)).bind fun c1 =>
 (ifB c1 false ((ifB (decide (x ≥ 65)) true (some (decide (x ≤ 90))) (some false)).bind fun c2 =>
 some c2) (some true)).bind fun c3 =>
 (ifB c3 false (some (x == 95)) (some true)).bind fun c4 =>
 k0 c4
def IL (N:Nat):FD E0:={ f:=112,fn:=Tryz.f112,q:=⟨[.i .u8],[]⟩ }
def IM (N:Nat):OC E0:=⟨_,FD.ct e0 (IL N) N (fun R k a=>pw N a (oK ⟨.b,[],[]⟩ k))⟩
def qg (N:Nat) (x:Int) (k0:Bool→Option R):Option R :=
 (ifB (decide (x ≥ 48)) true (some (decide (x ≤ 57))) (some false)).bind fun c1 =>
 k0 c1
def KI (N:Nat):FD E0:={ f:=113,fn:=Tryz.f113,q:=⟨[.i .u8],[]⟩ }
def KJ (N:Nat):OC E0:=⟨_,FD.ct e0 (KI N) N (fun R k a=>qg N a (oK ⟨.b,[],[]⟩ k))⟩
def kn (N:Nat) (s_1:List UInt8) (kp0:Int→Option R) (kp1:Int→Bool→Option R) (rec:Int→Int→Option R) (n_2 i_3:Int):Option R :=
 if (decide (i_3 < ((s_1.length:Nat):Int))) = true then
 ((at? s_1 i_3).bind fun b4 =>
 if (decide (n_2 > (IntKind.wrap .i64 (Int.tdiv (IntKind.wrap .i64 (9223372036854775807 - (IntKind.wrap .i64 (IntKind.wrap .u8 ((b4.toNat:Int) - 48))))) 10)))) = true then
 (kp1 0 false)
 else
 (rec (IntKind.wrap .i64 ((IntKind.wrap .i64 (10 * n_2)) + (IntKind.wrap .i64 (IntKind.wrap .u8 ((b4.toNat:Int) - 48))))) (IntKind.wrap .i64 (i_3 + 1))))
 else
 (kp0 n_2)
def ju (N:Nat) (s_1:List UInt8) (kp0:Int→Option R) (kp1:Int→Bool→Option R):Nat→Int→Int→Option R
 | 0=>fun _ _=>none
 | n + 1=>fun n_2 i_3=>kn N s_1 kp0 kp1 (ju N s_1 kp0 kp1 n) n_2 i_3
def xy (N:Nat) (s:List UInt8) (k0:Int→Bool→Option R):Option R :=
 ju N s (fun y5 =>
 k0 y5 true)
 (fun y6 y7 =>
 k0 y6 y7) N 0 0
def KK (N:Nat):FD E0:={ f:=114,fn:=Tryz.f114,q:=⟨[.st],[]⟩,loops:=[{ cur:=0,live:=[0,4,5],out:=fun | .exit 0=>([4],[]) | .ret=>([2,3],[]) | _=>([],[]),q:=⟨[.st,.i .i64,.i .i64],[]⟩,G:=fun R K n a b c=>ju N a (pK ⟨[.i .i64],[]⟩ (K (.exit 0))) (pK ⟨[.i .i64,.b],[]⟩ (K .ret)) n b c,B:=fun R K rec a b c=>kn N a (pK ⟨[.i .i64],[]⟩ (K (.exit 0))) (pK ⟨[.i .i64,.b],[]⟩ (K .ret)) (rec a) b c }] }
def KL (N:Nat):OC E0:=⟨_,FD.ct e0 (KK N) N (fun R k a=>xy N a (oK ⟨.tp [.i .i64,.b],[],[]⟩ k))⟩
def z0:ShO S:=.bx [.st,.st,.st,.st,.st,.st,.st]
def lC (N:Nat) (s_1:List UInt8) (i_2:Int) (two_4 two_5 two_6 two_7 two_8 two_9 two_10:List UInt8) (kp0:Option R) (kp1:Int→Option R) (rec:Int→Option R) (k_3:Int):Option R :=
 if (decide (k_3 < 7)) = true then
 ((ifB (decide ((IntKind.wrap .i64 (i_2 + 1)) < ((s_1.length:Nat):Int))) true (if (0:Int) ≤ i_2 ∧ i_2 ≤ IntKind.wrap .i64 (i_2 + 2) ∧ IntKind.wrap .i64 (i_2 + 2) ≤ ((s_1.length:Nat):Int) then (if (0:Int) ≤ k_3 ∧ k_3 < ((7:Nat):Int) then ((([two_4,two_5,two_6,two_7,two_8,two_9,two_10]:List (List UInt8))[(0 + Int.toNat k_3 * 1)]?).bind fun e11 =>
 some (((s_1.take (IntKind.wrap .i64 (i_2 + 2)).toNat).drop i_2.toNat) == e11)) else none) else none) (some false)).bind fun c12 =>
 if c12 = true then
 (kp1 2)
 else
 (rec (IntKind.wrap .i64 (k_3 + 1))))
 else
 (kp0 )
def kU (N:Nat) (s_1:List UInt8) (i_2:Int) (two_4 two_5 two_6 two_7 two_8 two_9 two_10:List UInt8) (kp0:Option R) (kp1:Int→Option R):Nat→Int→Option R
 | 0=>fun _=>none
 | n + 1=>fun k_3=>lC N s_1 i_2 two_4 two_5 two_6 two_7 two_8 two_9 two_10 kp0 kp1 (kU N s_1 i_2 two_4 two_5 two_6 two_7 two_8 two_9 two_10 kp0 kp1 n) k_3
def lD (N:Nat) (s_14:List UInt8) (i_15:Int) (one_16:List UInt8) (kp0:Option R) (kp1:Int→Option R) (rec:Int→Option R) (k_17:Int):Option R :=
 if (decide (k_17 < ((one_16.length:Nat):Int))) = true then
 ((at? s_14 i_15).bind fun b18 =>
 (at? one_16 k_17).bind fun b19 =>
 if ((b18.toNat:Int) == (b19.toNat:Int)) = true then
 (kp1 1)
 else
 (rec (IntKind.wrap .i64 (k_17 + 1))))
 else
 (kp0 )
def iN (N:Nat) (s_14:List UInt8) (i_15:Int) (one_16:List UInt8) (kp0:Option R) (kp1:Int→Option R):Nat→Int→Option R
 | 0=>fun _=>none
 | n + 1=>fun k_17=>lD N s_14 i_15 one_16 kp0 kp1 (iN N s_14 i_15 one_16 kp0 kp1 n) k_17
def yE (N:Nat) (s:List UInt8) (i:Int) (k0:Int→Option R):Option R :=
 kU N s i [45,62] [61,61] [33,61] [60,61] [62,61] [38,38] [124,124] (iN N s i [123,125,40,41,91,93,59,44,46,58,61,60,62,43,45,42,47,37,33,36] (k0 0)
 (fun y20 =>
 k0 y20) N 0)
 (fun y13 =>
 k0 y13) N 0
def NC (N:Nat):FD E0:={ f:=115,fn:=Tryz.f115,q:=⟨[.st,.i .i64],[]⟩,loops:=[{ cur:=0,live:=[0,1,5,6],out:=fun | .exit 0=>([0,1],[]) | .ret=>([4],[]) | _=>([],[]),q:=⟨[.st,.i .i64,.p 0 0 0,.i .i64],[z0]⟩,G:=fun R K n a b c d e g h i j l=>kU N a b d e g h i j l (pK ⟨[.st,.i .i64],[]⟩ (K (.exit 0)) a b) (pK ⟨[.i .i64],[]⟩ (K .ret)) n c,B:=fun R K rec a b c d e g h i j l=>lC N a b d e g h i j l (pK ⟨[.st,.i .i64],[]⟩ (K (.exit 0)) a b) (pK ⟨[.i .i64],[]⟩ (K .ret)) (fun c=>rec a b c d e g h i j l) c },{ cur:=2,live:=[0,1,7,8],out:=fun | .exit 2=>([],[]) | .ret=>([4],[]) | _=>([],[]),q:=⟨[.st,.i .i64,.st,.i .i64],[]⟩,G:=fun R K n a b c d=>iN N a b c (pK ⟨[],[]⟩ (K (.exit 2))) (pK ⟨[.i .i64],[]⟩ (K .ret)) n d,B:=fun R K rec a b c d=>lD N a b c (pK ⟨[],[]⟩ (K (.exit 2))) (pK ⟨[.i .i64],[]⟩ (K .ret)) (rec a b c) d }] }
def ND (N:Nat):OC E0:=⟨_,FD.ct e0 (NC N) N (fun R k a b=>yE N a b (oK ⟨.i .i64,[],[]⟩ k))⟩
def z1:ShO S:=.bx [.i .i64,.i .i64,.i .i64,.st,.i .i64]
def y0:Sh S:=.ag [.i .i64,.i .i64,.i .i64,.st,.i .i64]
def kV (N:Nat) (s_3:List UInt8) (i_4 v_6 v_7 v_8:Int) (v_9:List UInt8) (v_10 t_11 t_12 t_13:Int) (t_14:List UInt8) (t_15:Int) (kp0:Int→Option R) (rec:Int→Option R) (j_5:Int):Option R :=
 (ifB (decide (j_5 < ((s_3.length:Nat):Int))) true ((at? s_3 j_5).bind fun b16 =>
 pw N (b16.toNat:Int) (fun r17 =>
 (ifB r17 false ((at? s_3 j_5).bind fun b18 =>
 qg N (b18.toNat:Int) (fun r19 =>
 some r19)) (some true)).bind fun c20 =>
 some c20)) (some false)).bind fun c21 =>
 if c21 = true then
 (rec (IntKind.wrap .i64 (j_5 + 1)))
 else
 (kp0 j_5)
def lE (N:Nat) (s_3:List UInt8) (i_4 v_6 v_7 v_8:Int) (v_9:List UInt8) (v_10 t_11 t_12 t_13:Int) (t_14:List UInt8) (t_15:Int) (kp0:Int→Option R):Nat→Int→Option R
 | 0=>fun _=>none
 | n + 1=>fun j_5=>kV N s_3 i_4 v_6 v_7 v_8 v_9 v_10 t_11 t_12 t_13 t_14 t_15 kp0 (lE N s_3 i_4 v_6 v_7 v_8 v_9 v_10 t_11 t_12 t_13 t_14 t_15 kp0 n) j_5
def jw (N:Nat) (s_23:List UInt8) (i_24 j_25 v_26 v_27 v_28:Int) (v_29:List UInt8) (v_30 t_31 t_32 t_33:Int) (t_34:List UInt8) (t_35:Int) (kp0:Int→(List UInt8)→Option R):Option R :=
 if (0:Int) ≤ i_24 ∧ i_24 ≤ j_25 ∧ j_25 ≤ ((s_23.length:Nat):Int) then (kp0 0 ((s_23.take j_25.toNat).drop i_24.toNat)) else none
def kW (N:Nat) (s_40:List UInt8) (i_41 v_43 v_44 v_45:Int) (v_46:List UInt8) (v_47 t_48 t_49 t_50:Int) (t_51:List UInt8) (t_52:Int) (kp0:Int→Option R) (rec:Int→Option R) (j_42:Int):Option R :=
 (ifB (decide (j_42 < ((s_40.length:Nat):Int))) true ((at? s_40 j_42).bind fun b53 =>
 qg N (b53.toNat:Int) (fun r54 =>
 some r54)) (some false)).bind fun c55 =>
 if c55 = true then
 (rec (IntKind.wrap .i64 (j_42 + 1)))
 else
 (kp0 j_42)
def lF (N:Nat) (s_40:List UInt8) (i_41 v_43 v_44 v_45:Int) (v_46:List UInt8) (v_47 t_48 t_49 t_50:Int) (t_51:List UInt8) (t_52:Int) (kp0:Int→Option R):Nat→Int→Option R
 | 0=>fun _=>none
 | n + 1=>fun j_42=>kW N s_40 i_41 v_43 v_44 v_45 v_46 v_47 t_48 t_49 t_50 t_51 t_52 kp0 (lF N s_40 i_41 v_43 v_44 v_45 v_46 v_47 t_48 t_49 t_50 t_51 t_52 kp0 n) j_42
def Cf (N:Nat) (s:List UInt8) (i:Int) (k0:Int→Int→Int→(List UInt8)→Int→Int→Option R):Option R :=
 (at? s i).bind fun b1 =>
 pw N (b1.toNat:Int) (fun r2 =>
 if r2 = true then
 (lE N s i 0 0 0 [] 0 0 i 0 [] 0 (fun y22 =>
 if (decide ((IntKind.wrap .i64 (y22 - i)) > 24)) = true then
 (k0 0 0 0 [] 0 13)
 else
 (jw N s i y22 0 0 0 [] 0 1 i 0 [] 0 (fun y36 y37 =>
 k0 1 i y22 y37 0 y36))) N i)
 else
 ((at? s i).bind fun b38 =>
 qg N (b38.toNat:Int) (fun r39 =>
 if r39 = true then
 (lF N s i 0 0 0 [] 0 0 i 0 [] 0 (fun y56 =>
 (ifB (decide ((IntKind.wrap .i64 (y56 - i)) > 1)) true ((at? s i).bind fun b57 =>
 some ((b57.toNat:Int) == 48)) (some false)).bind fun c58 =>
 if c58 = true then
 (k0 0 0 0 [] 0 11)
 else
 (if (0:Int) ≤ i ∧ i ≤ y56 ∧ y56 ≤ ((s.length:Nat):Int) then (xy N ((s.take y56.toNat).drop i.toNat) (fun r59 r60 =>
 if (!r60) = true then
 (k0 0 0 0 [] 0 16)
 else
 (jw N s i y56 0 0 0 [] 0 2 i 0 [] r59 (fun y61 y62 =>
 k0 2 i y56 y62 r59 y61)))) else none)) N i)
 else
 (yE N s i (fun r63 =>
 if (r63 == 0) = true then
 (k0 0 0 0 [] 0 10)
 else
 (jw N s i (IntKind.wrap .i64 (i + r63)) 0 0 0 [] 0 3 i 0 [] 0 (fun y64 y65 =>
 k0 3 i (IntKind.wrap .i64 (i + r63)) y65 0 y64)))))))
def PI (N:Nat):FD E0:={ f:=53,fn:=Tryz.f53,q:=⟨[.st,.i .i64],[]⟩,loops:=[{ cur:=1,live:=[0,1,4,6,7],out:=fun | .exit 1=>([0,1,4,6,7],[]) | _=>([],[]),q:=⟨[.st,.i .i64,.p 0 0 0,.i .i64,.p 1 0 0],[z1,z1]⟩,G:=fun R K n a b c d e g h i j l m o p=>lE N a b d e g h i j l m o p (fun q=>pK ⟨[.st,.i .i64,.p 0 0 0,.i .i64,.p 1 0 0],[z1,z1]⟩ (K (.exit 1)) a b q d e g h i j l m o p) n c,B:=fun R K rec a b c d e g h i j l m o p=>kV N a b d e g h i j l m o p (fun q=>pK ⟨[.st,.i .i64,.p 0 0 0,.i .i64,.p 1 0 0],[z1,z1]⟩ (K (.exit 1)) a b q d e g h i j l m o p) (fun c=>rec a b c d e g h i j l m o p) c },{ cur:=3,live:=[0,1,4,6,7],out:=fun | .exit 3=>([0,1,4,6,7],[]) | _=>([],[]),q:=⟨[.st,.i .i64,.p 0 0 0,.i .i64,.p 1 0 0],[z1,z1]⟩,G:=fun R K n a b c d e g h i j l m o p=>lF N a b d e g h i j l m o p (fun q=>pK ⟨[.st,.i .i64,.p 0 0 0,.i .i64,.p 1 0 0],[z1,z1]⟩ (K (.exit 3)) a b q d e g h i j l m o p) n c,B:=fun R K rec a b c d e g h i j l m o p=>kW N a b d e g h i j l m o p (fun q=>pK ⟨[.st,.i .i64,.p 0 0 0,.i .i64,.p 1 0 0],[z1,z1]⟩ (K (.exit 3)) a b q d e g h i j l m o p) (fun c=>rec a b c d e g h i j l m o p) c }],cuts:=[{ key:=22,live:=[0,1,4,6,7],out:=fun | .ret=>([4,5],[]) | _=>([],[]),q:=⟨[.st,.i .i64,.p 0 0 0,.i .i64,.p 1 0 0],[z1,z1]⟩,G:=fun R K a b c d e g h i j l m o p=>jw N a b c d e g h i j l m o p (fun q s=>pK ⟨[.p 0 0 0,.i .i64],[z1]⟩ (K .ret) q j l c s p) }],g:=[IM N,KJ N,KL N,ND N] }
def PJ (N:Nat):OC E0:=⟨_,FD.ct e0 (PI N) N (fun R k a b=>Cf N a b (oK ⟨.tp [y0,.i .i64],[],[]⟩ k))⟩
def y1:Sh S:=.tp [.t .tok,.ag [.i .i64,.i .i64]]
def nM (N:Nat) (s_13:List UInt8) (v_15 v_16:Int) (kp0:(List Token)→Option R) (kp1:Int→Int→Option R) (rec:Int→(List Token)→Option R) (i_14:Int) (out_17:List Token):Option R :=
 if (decide (i_14 < ((s_13.length:Nat):Int))) = true then
 (Cf N s_13 i_14 (fun r18 r19 r20 r21 r22 r23 =>
 if (r23 != 0) = true then
 (kp1 r23 i_14)
 else
 (if out_17.length + [(⟨r18,r19,r20,r21,r22⟩:Token)].length ≤ ak then (vA N s_13 r20 (fun r24 =>
 rec r24 (out_17 ++ [(⟨r18,r19,r20,r21,r22⟩:Token)]))) else none)))
 else
 (kp0 out_17)
def jc (N:Nat) (s_13:List UInt8) (v_15 v_16:Int) (kp0:(List Token)→Option R) (kp1:Int→Int→Option R):Nat→Int→(List Token)→Option R
 | 0=>fun _ _=>none
 | n + 1=>fun i_14 out_17=>nM N s_13 v_15 v_16 kp0 kp1 (jc N s_13 v_15 v_16 kp0 kp1 n) i_14 out_17
def zG (N:Nat) (s:List UInt8) (k0:(List Token)→Int→Int→Option R):Option R :=
 if (decide (((s.length:Nat):Int) > 16384)) = true then
 (k0 ([]:List Token) 13 16384)
 else
 (vA N s 0 (fun r1 =>
 jc N s 0 0 (fun y25 =>
 if y25.length + ([(⟨4,((s.length:Nat):Int),((s.length:Nat):Int),[],0⟩:Token)]).length ≤ ak then (k0 (y25 ++ ([(⟨4,((s.length:Nat):Int),((s.length:Nat):Int),[],0⟩:Token)])) 0 0) else none)
 (fun y26 y27 =>
 k0 ([]:List Token) y26 y27) N r1 ([]:List Token)))
def PK (N:Nat):FD E0:={ f:=17,fn:=Tryz.f17,q:=⟨[.st],[]⟩,loops:=[{ cur:=0,live:=[0,3,4,5],fix:=[(⟨4,[]⟩,.row .tok .app)],out:=fun | .exit 0=>([0,3,4],[]) | .ret=>([2,3],[]) | _=>([],[]),q:=⟨[.st,.p 0 0 0,.sw 1,.i .i64],[.bx [.i .i64,.i .i64],.rw .tok .app]⟩,G:=fun R K n a b c d e=>jc N a c d (pK ⟨[.st,.p 0 0 0,.sw 1],[.bx [.i .i64,.i .i64],.rw .tok .app]⟩ (K (.exit 0)) a c d) (pK ⟨[.ns,.p 0 0 0],[.bx [.i .i64,.i .i64]]⟩ (K .ret)) n b e,B:=fun R K rec a b c d e=>nM N a c d (pK ⟨[.st,.p 0 0 0,.sw 1],[.bx [.i .i64,.i .i64],.rw .tok .app]⟩ (K (.exit 0)) a c d) (pK ⟨[.ns,.p 0 0 0],[.bx [.i .i64,.i .i64]]⟩ (K .ret)) (fun b e=>rec a b c d e) b e }],g:=[NB N,PJ N],exit:=[(⟨2,[]⟩,.tree .tok)] }
def PM (N:Nat):OC E0:=⟨_,FD.ct e0 (PK N) N (fun R k a=>zG N a (oK ⟨y1,[],[]⟩ k))⟩
end
end So
