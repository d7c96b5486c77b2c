/- T3_4: a part of the proof of SoundSpoilt: lemmas on the evaluator and on the functions that the law reaches. -/
import Derived.Test.YtcllbmdpckfnhaaGreatT3x3
set_option maxRecDepth 100000
set_option linter.unusedVariables false
namespace So
open Go TE Go.Proofs
noncomputable section
variable{R:Type}
def gm(N:Nat)(C:List (List ae))(I J:Int)(U:List Chart)(b9:List Inst)(j6:List ak)(j7:List Cert)(j8 j9:Int)(m3 m4 m5 m6:ae)(k5 m7:List ae)(m8:List Cell)(m9 n9:Int)(o0 o5:List (List ae))(o6:Int)(k7:ab R)(k8:Bool→ab R)(rec:Int→ab R)(j:Int):ab R:=
 if(decide (j<I))=true then
 ((at? C j).bind fun o=>
 (at? k5 j).bind fun k9=>
 bH N k9 J U b9 j6 j7 j8 j9 (fun o7 o8 o9 p5 p6 p7 l7 p8 p9=>
 (ifB (decide (((o.length:Nat):Int)>0)) true (ui N l7 o (fun l9=>
 some (!l9))) (some false)).bind fun m0=>
 if m0=true then
 (k8 false)
 else
 (rec (IntKind.wrap .i64 (j+1)))))
 else
 (k7 )
def dA(N:Nat)(j:List (List ae))(o C:Int)(I:List Chart)(J:List Inst)(U:List ak)(b9:List Cert)(j6 j7:Int)(j8 j9 k5 k7:ae)(k8 k9:List ae)(l7:List Cell)(l9 m0:Int)(m3 m4:List (List ae))(m5:Int)(m6:ab R)(m7:Bool→ab R):Nat→Int→ab R
 |0=>fun _=>none
 |n+1=>fun m8=>gm N j o C I J U b9 j6 j7 j8 j9 k5 k7 k8 k9 l7 l9 m0 m3 m4 m5 m6 m7 (dA N j o C I J U b9 j6 j7 j8 j9 k5 k7 k8 k9 l7 l9 m0 m3 m4 m5 m6 m7 n) m8
def gn(N:Nat)(I:List (List ae))(J k7:Int)(k8:List Chart)(k9:List Inst)(o:List ak)(l7:List Cert)(l9 m0:Int)(m3 m4 m5 m6:ae)(m7 U:List ae)(m8:List Cell)(m9:Int)(b9:ab R)(j6:Bool→ab R)(rec:Int→ab R)(j:Int):ab R:=
 if(decide (j<J))=true then
 ((at? I j).bind fun j7=>
 (at? U j).bind fun j8=>
 gz N o j8 (fun C=>
 (ifB (decide (C<0)) false ((at? o C).bind fun j9=>
 some (decide (((j7.length:Nat):Int)>j9.Cap))) (some true)).bind fun k5=>
 if k5=true then
 (j6 false)
 else
 (rec (IntKind.wrap .i64 (j+1)))))
 else
 (b9 )
def bI(N:Nat)(j:List (List ae))(o C:Int)(I:List Chart)(J:List Inst)(U:List ak)(b9:List Cert)(j6 j7:Int)(j8 j9 k5 k7:ae)(k8 k9:List ae)(l7:List Cell)(l9:Int)(m0:ab R)(m3:Bool→ab R):Nat→Int→ab R
 |0=>fun _=>none
 |n+1=>fun m4=>gn N j o C I J U b9 j6 j7 j8 j9 k5 k7 k8 k9 l7 l9 m0 m3 (bI N j o C I J U b9 j6 j7 j8 j9 k5 k7 k8 k9 l7 l9 m0 m3 n) m4
def km(N:Nat)(Name Inst_ Req Resp:ae)(Insts Chans:List ae)(Cells:List Cell)(At Rank:Int)(Sets Msgs:List (List ae))(J Age:Int)(Charts:List Chart)(o:List Inst)(C:List ak)(Certs:List Cert)(Code I:Int)(j:Bool→ab R):ab R:=
 (ifB (((Sets.length:Nat):Int) != ((Insts.length:Nat):Int)) false (some (((Msgs.length:Nat):Int) != ((Chans.length:Nat):Int))) (some true)).bind fun U=>
 if U=true then
 (j false)
 else
 (dA N Sets ((Sets.length:Nat):Int) Age Charts o C Certs Code I Name Inst_ Req Resp Insts Chans Cells At Rank Sets Msgs J (bI N Msgs ((Msgs.length:Nat):Int) Age Charts o C Certs Code I Name Inst_ Req Resp Insts Chans Cells At (j true)
 (fun b9=>
 j b9) N 0)
 (fun j6=>
 j j6) N 0)
def BG(N:Nat):FD E0:={f:=86,fn:=Tryz.f86,q:=⟨[.p 0 0 0,y17,y16],[z34]⟩,loops:=[{cur:=0,live:=[0,4,5,31,32,33],out:=fun | .exit 0=>([0,4,5],[]) | .ret=>([6],[])|_=>([],[]),q:=⟨[.p 0 0 0,.p 1 0 0,.p 2 0 0,.t .strs,.i .i64,.i .i64],[z34,z36,z37]⟩,G:=fun R K n a b c d e g h i j l m o p q s t u v w x y z=>dA N a b d e g h i j l m o p q s t u v w x y z (pK ⟨[.p 0 0 0,.p 1 0 0,.p 2 0 0],[z34,z36,z37]⟩ (K (.exit 0)) d e g h i j l m o p q s t u v w x y z) (fun a1=>pK ⟨[.b],[z34]⟩ (K .ret) a1 d e g h i j l) n c,B:=fun R K rec a b c d e g h i j l m o p q s t u v w x y z=>gm N a b d e g h i j l m o p q s t u v w x y z (pK ⟨[.p 0 0 0,.p 1 0 0,.p 2 0 0],[z34,z36,z37]⟩ (K (.exit 0)) d e g h i j l m o p q s t u v w x y z) (fun a1=>pK ⟨[.b],[z34]⟩ (K .ret) a1 d e g h i j l) (fun c=>rec a b c d e g h i j l m o p q s t u v w x y z) c},{cur:=2,live:=[0,4,60,61,62],out:=fun | .exit 2=>([],[]) | .ret=>([6],[])|_=>([],[]),q:=⟨[.p 0 0 0,.p 1 0 0,.t .strs,.i .i64,.i .i64],[z34,z36]⟩,G:=fun R K n a b c d e g h i j l m o p q s t u v=>bI N a b d e g h i j l m o p q s t u v (pK ⟨[],[z34]⟩ (K (.exit 2)) d e g h i j l) (fun w=>pK ⟨[.b],[z34]⟩ (K .ret) w d e g h i j l) n c,B:=fun R K rec a b c d e g h i j l m o p q s t u v=>gn N a b d e g h i j l m o p q s t u v (pK ⟨[],[z34]⟩ (K (.exit 2)) d e g h i j l) (fun w=>pK ⟨[.b],[z34]⟩ (K .ret) w d e g h i j l) (fun c=>rec a b c d e g h i j l m o p q s t u v) c}],g:=[gh N,qb N,Ka N]}
def BH(N:Nat):OC E0:=⟨_,FD.ctq e0 (BG N) N (fun R k a b c d e g h i j l m o p q s t u v w=>km N a b c d e g h i j l m o p q s t u v w (oQ ⟨.b,[],[]⟩ k))⟩
def tH(N:Nat)(s:ae)(j:List ae)(o:Bool→ab R):ab R:=
 bB N j s (fun C=>
 o (!C))
def FT(N:Nat):FD E0:={f:=169,fn:=Tryz.f169,q:=⟨[.st,.p 0 0 0],[.bx [.t .str]]⟩,g:=[oh N]}
def FU(N:Nat):OC E0:=⟨_,FD.ctq e0 (FT N) N (fun R k a b=>tH N a b (oQ ⟨.b,[],[]⟩ k))⟩
def dQ(N:Nat)(o:List ae)(C:Int)(I:List ae)(J:ab R)(U:Int→ab R)(rec:Int→ab R)(j:Int):ab R:=
 if(decide (j<C))=true then
 ((at? o j).bind fun e5=>
 tH N e5 I (fun r6=>
 if r6=true then
 (U j)
 else
 (rec (IntKind.wrap .i64 (j+1)))))
 else
 (J )
def cl(N:Nat)(j:List ae)(o:Int)(C:List ae)(I:ab R)(J:Int→ab R):Nat→Int→ab R
 |0=>fun _=>none
 |n+1=>fun U=>dQ N j o C I J (cl N j o C I J n) U
def jG(N:Nat)(s o:List ae)(j:Int→ab R):ab R:=
 cl N s ((s.length:Nat):Int) o (j (-1))
 (fun y7=>
 j y7) N 0
def wR(N:Nat):FD E0:={f:=187,fn:=Tryz.f187,q:=⟨[.t .str,.fn 169 [.p 0 0 0]],[.bx [.t .str]]⟩,loops:=[{cur:=0,live:=[0,1,7,8],out:=fun | .exit 0=>([],[]) | .ret=>([4],[])|_=>([],[]),q:=⟨[.t .str,.fn 169 [.p 0 0 0],.i .i64,.i .i64],[.bx [.t .str]]⟩,G:=fun R K n a b c d=>cl N a b d (pK ⟨[],[.bx [.t .str]]⟩ (K (.exit 0)) d) (fun e=>pK ⟨[.i .i64],[.bx [.t .str]]⟩ (K .ret) e d) n c,B:=fun R K rec a b c d=>dQ N a b d (pK ⟨[],[.bx [.t .str]]⟩ (K (.exit 0)) d) (fun e=>pK ⟨[.i .i64],[.bx [.t .str]]⟩ (K .ret) e d) (fun c=>rec a b c d) c}],g:=[FU N]}
def wS(N:Nat):OC E0:=⟨_,FD.ctq e0 (wR N) N (fun R k a b=>jG N a b (oQ ⟨.i .i64,[],[]⟩ k))⟩
def eD(N:Nat)(s j:List ae)(o:Bool→ab R):ab R:=
 jG N s j (fun C=>
 o (decide (C≥0)))
def tI(N:Nat):FD E0:={f:=168,fn:=Tryz.f168,q:=⟨[.t .str,.fn 169 [.p 0 0 0]],[.bx [.t .str]]⟩,g:=[wS N]}
def tJ(N:Nat):OC E0:=⟨_,FD.ctq e0 (tI N) N (fun R k a b=>eD N a b (oQ ⟨.b,[],[]⟩ k))⟩
def rT(N:Nat)(a b:List ae)(j:Bool→ab R):ab R:=
 (ifB (((a.length:Nat):Int)==((b.length:Nat):Int)) true (eD N a b (fun o=>
 some (!o))) (some false)).bind fun C=>
 j C
def II(N:Nat):FD E0:={f:=143,fn:=Tryz.f143,q:=⟨[.t .str,.t .str],[]⟩,g:=[tJ N]}
def IJ(N:Nat):OC E0:=⟨_,FD.ct e0 (II N) N (fun R k a b=>rT N a b (oK ⟨.b,[],[]⟩ k))⟩
def dh(N:Nat)(o C:List (List ae))(I:Int)(J:ab R)(U:Bool→ab R)(rec:Int→ab R)(j:Int):ab R:=
 if(decide (j<I))=true then
 ((at? C j).bind fun e5=>
 (at? o j).bind fun e6=>
 rT N e5 e6 (fun r7=>
 if(!r7)=true then
 (U false)
 else
 (rec (IntKind.wrap .i64 (j+1)))))
 else
 (J )
def bP(N:Nat)(j o:List (List ae))(C:Int)(I:ab R)(J:Bool→ab R):Nat→Int→ab R
 |0=>fun _=>none
 |n+1=>fun U=>dh N j o C I J (bP N j o C I J n) U
def fb(N:Nat)(j C:List (List ae))(o:Bool→ab R):ab R:=
 if(((j.length:Nat):Int) != ((C.length:Nat):Int))=true then
 (o false)
 else
 (bP N C j ((j.length:Nat):Int) (o true)
 (fun y8=>
 o y8) N 0)
def uj(N:Nat):FD E0:={f:=142,fn:=Tryz.f142,q:=⟨[.t .strs,.t .strs,.fn 143 []],[]⟩,loops:=[{cur:=0,live:=[1,2,15,16,17],out:=fun | .exit 0=>([],[]) | .ret=>([6],[])|_=>([],[]),q:=⟨[.t .strs,.fn 143 [],.t .strs,.i .i64,.i .i64],[]⟩,G:=fun R K n a b c d=>bP N a b c (pK ⟨[],[]⟩ (K (.exit 0))) (pK ⟨[.b],[]⟩ (K .ret)) n d,B:=fun R K rec a b c d=>dh N a b c (pK ⟨[],[]⟩ (K (.exit 0))) (pK ⟨[.b],[]⟩ (K .ret)) (rec a b c) d}],g:=[IJ N]}
def uk(N:Nat):OC E0:=⟨_,FD.ct e0 (uj N) N (fun R k a b=>fb N a b (oK ⟨.b,[],[]⟩ k))⟩
def fB(N:Nat)(o C:List ae)(I:Int)(J:ab R)(U:Bool→ab R)(rec:Int→ab R)(j:Int):ab R:=
 if(decide (j<I))=true then
 ((at? o j).bind fun e5=>
 (at? C j).bind fun e6=>
 if(!(e5==e6))=true then
 (U false)
 else
 (rec (IntKind.wrap .i64 (j+1))))
 else
 (J )
def di(N:Nat)(j o:List ae)(C:Int)(I:ab R)(J:Bool→ab R):Nat→Int→ab R
 |0=>fun _=>none
 |n+1=>fun U=>fB N j o C I J (di N j o C I J n) U
def jA(N:Nat)(j C:List ae)(o:Bool→ab R):ab R:=
 if(((j.length:Nat):Int) != ((C.length:Nat):Int))=true then
 (o false)
 else
 (di N j C ((j.length:Nat):Int) (o true)
 (fun y7=>
 o y7) N 0)
def AP(N:Nat):FD E0:={f:=144,fn:=Tryz.f144,q:=⟨[.t .str,.t .str],[]⟩,loops:=[{cur:=0,live:=[0,1,12,13],out:=fun | .exit 0=>([],[]) | .ret=>([4],[])|_=>([],[]),q:=⟨[.t .str,.t .str,.i .i64,.i .i64],[]⟩,G:=fun R K n a b c d=>di N a b c (pK ⟨[],[]⟩ (K (.exit 0))) (pK ⟨[.b],[]⟩ (K .ret)) n d,B:=fun R K rec a b c d=>fB N a b c (pK ⟨[],[]⟩ (K (.exit 0))) (pK ⟨[.b],[]⟩ (K .ret)) (rec a b c) d}]}
def AQ(N:Nat):OC E0:=⟨_,FD.ct e0 (AP N) N (fun R k a b=>jA N a b (oK ⟨.b,[],[]⟩ k))⟩
def cQ(N:Nat)(o C:List (List ae))(I:Int)(J:ab R)(U:Bool→ab R)(rec:Int→ab R)(j:Int):ab R:=
 if(decide (j<I))=true then
 ((at? C j).bind fun e5=>
 (at? o j).bind fun e6=>
 jA N e5 e6 (fun r7=>
 if(!r7)=true then
 (U false)
 else
 (rec (IntKind.wrap .i64 (j+1)))))
 else
 (J )
def bE(N:Nat)(j o:List (List ae))(C:Int)(I:ab R)(J:Bool→ab R):Nat→Int→ab R
 |0=>fun _=>none
 |n+1=>fun U=>cQ N j o C I J (bE N j o C I J n) U
def ed(N:Nat)(j C:List (List ae))(o:Bool→ab R):ab R:=
 if(((j.length:Nat):Int) != ((C.length:Nat):Int))=true then
 (o false)
 else
 (bE N C j ((j.length:Nat):Int) (o true)
 (fun y8=>
 o y8) N 0)
def sP(N:Nat):FD E0:={f:=142,fn:=Tryz.f142,q:=⟨[.t .strs,.t .strs,.fn 144 []],[]⟩,loops:=[{cur:=0,live:=[1,2,15,16,17],out:=fun | .exit 0=>([],[]) | .ret=>([6],[])|_=>([],[]),q:=⟨[.t .strs,.fn 144 [],.t .strs,.i .i64,.i .i64],[]⟩,G:=fun R K n a b c d=>bE N a b c (pK ⟨[],[]⟩ (K (.exit 0))) (pK ⟨[.b],[]⟩ (K .ret)) n d,B:=fun R K rec a b c d=>cQ N a b c (pK ⟨[],[]⟩ (K (.exit 0))) (pK ⟨[.b],[]⟩ (K .ret)) (rec a b c) d}],g:=[AQ N]}
def sQ(N:Nat):OC E0:=⟨_,FD.ct e0 (sP N) N (fun R k a b=>ed N a b (oK ⟨.b,[],[]⟩ k))⟩
def BI(N:Nat)(Rank:Int)(Sets Msgs:List (List ae))(At b9:Int)(j o:List (List ae))(j6:Int)(C:Bool→ab R):ab R:=
 fb N Sets j (fun I=>
 (ifB I true (ed N Msgs o (fun J=>
 some J)) (some false)).bind fun U=>
 C U)
def Lo(N:Nat):FD E0:={f:=89,fn:=Tryz.f89,q:=⟨[y16,y16],[]⟩,g:=[uk N,sQ N]}
def Lp(N:Nat):OC E0:=⟨_,FD.ct e0 (Lo N) N (fun R k a b c d e g h i=>BI N a b c d e g h i (oK ⟨.b,[],[]⟩ k))⟩
def mu(N:Nat)(Rank:Int)(Sets Msgs:List (List ae))(At j:Int)(o C:List (List ae))(I:Int)(J:Bool→ab R):ab R:=
 BI N j o C I Rank Sets Msgs At (fun U=>
 J U)
def zR(N:Nat):FD E0:={f:=88,fn:=Tryz.f88,q:=⟨[y16,.p 0 0 0],[z37]⟩,g:=[Lp N]}
def zS(N:Nat):OC E0:=⟨_,FD.ctq e0 (zR N) N (fun R k a b c d e g h i=>mu N a b c d e g h i (oQ ⟨.b,[],[]⟩ k))⟩
def eE(N:Nat)(C:List Cell)(I J:Int)(U b9:List (List ae))(j6:Int)(j7:ab R)(j8:Int→ab R)(rec:Int→ab R)(j:Int):ab R:=
 if(decide (j<I))=true then
 ((at? C j).bind fun o=>
 mu N o.Rank o.Sets o.Msgs o.At J U b9 j6 (fun r9=>
 if r9=true then
 (j8 j)
 else
 (rec (IntKind.wrap .i64 (j+1)))))
 else
 (j7 )
def cJ(N:Nat)(j:List Cell)(o C:Int)(I J:List (List ae))(U:Int)(b9:ab R)(j6:Int→ab R):Nat→Int→ab R
 |0=>fun _=>none
 |n+1=>fun j7=>eE N j o C I J U b9 j6 (cJ N j o C I J U b9 j6 n) j7
def lA(N:Nat)(s:List Cell)(o:Int)(C I:List (List ae))(J:Int)(j:Int→ab R):ab R:=
 cJ N s ((s.length:Nat):Int) o C I J (j (-1))
 (fun y10=>
 j y10) N 0
def yZ(N:Nat):FD E0:={f:=141,fn:=Tryz.f141,q:=⟨[.t .cell,.fn 88 [.p 0 0 0]],[z37]⟩,loops:=[{cur:=0,live:=[0,1,7,8],out:=fun | .exit 0=>([],[]) | .ret=>([4],[])|_=>([],[]),q:=⟨[.t .cell,.fn 88 [.p 0 0 0],.i .i64,.i .i64],[z37]⟩,G:=fun R K n a b c d e g h=>cJ N a b d e g h (pK ⟨[],[z37]⟩ (K (.exit 0)) d e g h) (fun i=>pK ⟨[.i .i64],[z37]⟩ (K .ret) i d e g h) n c,B:=fun R K rec a b c d e g h=>eE N a b d e g h (pK ⟨[],[z37]⟩ (K (.exit 0)) d e g h) (fun i=>pK ⟨[.i .i64],[z37]⟩ (K .ret) i d e g h) (fun c=>rec a b c d e g h) c}],g:=[zS N]}
def za(N:Nat):OC E0:=⟨_,FD.ctq e0 (yZ N) N (fun R k a b c d e=>lA N a b c d e (oQ ⟨.i .i64,[],[]⟩ k))⟩
def fC(N:Nat)(s:List Cell)(j:Int)(o C:List (List ae))(I:Int)(J:Bool→ab R):ab R:=
 lA N s j o C I (fun U=>
 J (decide (U≥0)))
def vI(N:Nat):FD E0:={f:=87,fn:=Tryz.f87,q:=⟨[.t .cell,.fn 88 [.p 0 0 0]],[z37]⟩,g:=[za N]}
def vJ(N:Nat):OC E0:=⟨_,FD.ctq e0 (vI N) N (fun R k a b c d e=>fC N a b c d e (oQ ⟨.b,[],[]⟩ k))⟩
def gp(N:Nat)(k5:List ae)(k7 o:Int)(C:List Chart)(I:List Inst)(J:List ak)(U:List Cert)(n9 o0 o5 o6:ae)(j8 o7:List ae)(o8:List Cell)(b9:Int)(k8:Int→Int→ab R)(rec:Int→Int→Int→ab R)(j j6 j7:Int):ab R:=
 if(decide (j<k7))=true then
 ((at? k5 j).bind fun j9=>
 bH N j9 o C I J U j6 j7 (fun o9 p5 p6 p7 p8 p9 k9 q8 l7=>
 aj N l7 7 b9 o C I J U j6 j7 (fun l9 m0=>
 if(0:Int)≤0∧0≤j∧j≤((j8.length:Nat):Int) then(bB N ((j8.take j.toNat).drop (Int.toNat 0)) j9 (fun m3=>
 aj N (!m3) 8 b9 o C I J U l9 m0 (fun m4 m5=>
 sound_flat N k9 (fun m6=>
 ec N m6 (fun m7=>
 aj N (!m7) 17 b9 o C I J U m4 m5 (fun m8 m9=>
 rec (IntKind.wrap .i64 (j+1)) m8 m9)))))) else none)))
 else
 (k8 j6 j7)
def dB(N:Nat)(j:List ae)(o C:Int)(I:List Chart)(J:List Inst)(U:List ak)(b9:List Cert)(j6 j7 j8 j9:ae)(k5 k7:List ae)(k8:List Cell)(k9:Int)(l7:Int→Int→ab R):Nat→Int→Int→Int→ab R
 |0=>fun _ _ _=>none
 |n+1=>fun l9 m0 m3=>gp N j o C I J U b9 j6 j7 j8 j9 k5 k7 k8 k9 l7 (dB N j o C I J U b9 j6 j7 j8 j9 k5 k7 k8 k9 l7 n) l9 m0 m3
def gq(N:Nat)(l7:List ae)(l9 I:Int)(J:List Chart)(U:List Inst)(o:List ak)(b9:List Cert)(o6 o7 o8 o9:ae)(j7 j8:List ae)(p5:List Cell)(j6:Int)(m0:Int→Int→ab R)(rec:Int→Int→Int→ab R)(j j9 k5:Int):ab R:=
 if(decide (j<l9))=true then
 ((at? l7 j).bind fun k7=>
 gz N o k7 (fun C=>
 aj N (decide (C≥0)) 7 j6 I J U o b9 j9 k5 (fun m3 m4=>
 if(0:Int)≤0∧0≤j∧j≤((j8.length:Nat):Int) then(bB N ((j8.take j.toNat).drop (Int.toNat 0)) k7 (fun m5=>
 aj N (!m5) 8 j6 I J U o b9 m3 m4 (fun k8 k9=>
 if(decide (C≥0))=true then
 ((at? o C).bind fun m6=>
 bB N j7 m6.From (fun m7=>
 (ifB m7 true ((at? o C).bind fun m8=>
 bB N j7 m8.To (fun m9=>
 some m9)) (some false)).bind fun n9=>
 aj N n9 17 j6 I J U o b9 k8 k9 (fun o0 o5=>
 rec (IntKind.wrap .i64 (j+1)) o0 o5)))
 else
 (rec (IntKind.wrap .i64 (j+1)) k8 k9)))) else none)))
 else
 (m0 j9 k5)
def cN(N:Nat)(j:List ae)(o C:Int)(I:List Chart)(J:List Inst)(U:List ak)(b9:List Cert)(j6 j7 j8 j9:ae)(k5 k7:List ae)(k8:List Cell)(k9:Int)(l7:Int→Int→ab R):Nat→Int→Int→Int→ab R
 |0=>fun _ _ _=>none
 |n+1=>fun l9 m0 m3=>gq N j o C I J U b9 j6 j7 j8 j9 k5 k7 k8 k9 l7 (cN N j o C I J U b9 j6 j7 j8 j9 k5 k7 k8 k9 l7 n) l9 m0 m3
def gr(N:Nat)(k7:List Cell)(k8 C:Int)(I:List Chart)(J:List Inst)(U:List ak)(b9:List Cert)(k9 l7 l9 m0:ae)(m3 m4:List ae)(j6:List Cell)(m5:Int)(m6:Int→Int→ab R)(rec:Int→Int→Int→ab R)(o j7 j8:Int):ab R:=
 if(decide (o<k8))=true then
 ((at? k7 o).bind fun j=>
 dL N j.Rank 0 64 (fun m7=>
 aj N m7 16 j.At C I J U b9 j7 j8 (fun j9 k5=>
 km N k9 l7 l9 m0 m3 m4 j6 m5 j.Rank j.Sets j.Msgs j.At C I J U b9 j9 k5 (fun m8=>
 aj N m8 18 j.At C I J U b9 j9 k5 (fun m9 n9=>
 if(0:Int)≤0∧0≤o∧o≤((j6.length:Nat):Int) then(fC N ((j6.take o.toNat).drop (Int.toNat 0)) j.Rank j.Sets j.Msgs j.At (fun o0=>
 aj N (!o0) 8 j.At C I J U b9 m9 n9 (fun o5 o6=>
 rec (IntKind.wrap .i64 (o+1)) o5 o6))) else none)))))
 else
 (m6 j7 j8)
def cO(N:Nat)(j:List Cell)(o C:Int)(I:List Chart)(J:List Inst)(U:List ak)(b9:List Cert)(j6 j7 j8 j9:ae)(k5 k7:List ae)(k8:List Cell)(k9:Int)(l7:Int→Int→ab R):Nat→Int→Int→Int→ab R
 |0=>fun _ _ _=>none
 |n+1=>fun l9 m0 m3=>gr N j o C I J U b9 j6 j7 j8 j9 k5 k7 k8 k9 l7 (cO N j o C I J U b9 j6 j7 j8 j9 k5 k7 k8 k9 l7 n) l9 m0 m3
def eF(N:Nat)(C:Int)(I:List Chart)(J:List Inst)(U:List ak)(b9:List Cert)(o j6:Int)(j7 j8 j9 k5:ae)(k7 k8:List ae)(j:List Cell)(k9:Int)(l7:ab R)(l9:Int→Int→ab R):ab R:=
 if(o != 0)=true then
 (l7 )
 else
 (cO N j ((j.length:Nat):Int) C I J U b9 j7 j8 j9 k5 k7 k8 j k9 (fun m0 m3=>
 l9 m0 m3) N 0 o j6)
def kn(N:Nat)(o:Int)(C:List Chart)(I:List Inst)(J:List ak)(U:List Cert)(l7 l9:Int)(j8 j9 b9 j6:ae)(k5 j:List ae)(k7:List Cell)(j7:Int)(m0 m3:Int→Int→ab R):ab R:=
 aj N (!(b9==j6)) 17 j7 o C I J U l7 l9 (fun m4 m5=>
 cN N j ((j.length:Nat):Int) o C I J U j8 j9 b9 j6 k5 j k7 j7 (fun k8 k9=>
 eF N o C I J U k8 k9 j8 j9 b9 j6 k5 j k7 j7 (m0 k8 k9)
 (fun m6 m7=>
 m3 m6 m7)) N 0 m4 m5)
def iI(N:Nat)(j:Int)(o:List Chart)(C:List Inst)(I:List ak)(J:List Cert)(b9 j6:Int)(k8 U j7 j8:ae)(j9 k9:List ae)(l7:List Cell)(k5:Int)(l9 m0:Int→Int→ab R):ab R:=
 bH N U j o C I J b9 j6 (fun o8 o9 p5 p6 p7 p8 m3 p9 q8=>
 sound_flat N m3 (fun k7=>
 bB N j9 U (fun m4=>
 (ifB m4 true (jd N j7 k7 (fun m5=>
 some m5)) (some false)).bind fun m6=>
 (ifB m6 true (jd N j8 k7 (fun m7=>
 some m7)) (some false)).bind fun m8=>
 aj N m8 7 k5 j o C I J b9 j6 (fun m9 n9=>
 kn N j o C I J m9 n9 k8 U j7 j8 j9 k9 l7 k5 (fun o0 o5=>
 l9 o0 o5)
 (fun o6 o7=>
 m0 o6 o7)))))
def ko(N:Nat)(Name Inst_ Req Resp:ae)(Insts Chans:List ae)(Cells:List Cell)(At Age:Int)(Charts:List Chart)(j:List Inst)(o:List ak)(Certs:List Cert)(Code I:Int)(C:Int→Int→ab R):ab R:=
 dB N Insts ((Insts.length:Nat):Int) Age Charts j o Certs Name Inst_ Req Resp Insts Chans Cells At (fun J U=>
 iI N Age Charts j o Certs J U Name Inst_ Req Resp Insts Chans Cells At (fun b9 j6=>
 C b9 j6)
 (fun j7 j8=>
 C j7 j8)) N 0 Code I
def BJ(N:Nat):FD E0:={f:=38,fn:=Tryz.f38,q:=⟨[.p 0 0 0,y17],[z34]⟩,loops:=[{cur:=0,live:=[0,3,18,19,20],out:=fun | .exit 0=>([0,3],[])|_=>([],[]),q:=⟨[.p 0 0 0,.p 1 0 0,.t .str,.i .i64,.i .i64],[z34,z36]⟩,G:=fun R K n a b c d e g h i j l m o p q s t u v=>dB N a b d e g h i m o p q s t u v (fun w x=>pK ⟨[.p 0 0 0,.p 1 0 0],[z34,z36]⟩ (K (.exit 0)) d e g h i w x m o p q s t u v) n c j l,B:=fun R K rec a b c d e g h i j l m o p q s t u v=>gp N a b d e g h i m o p q s t u v (fun w x=>pK ⟨[.p 0 0 0,.p 1 0 0],[z34,z36]⟩ (K (.exit 0)) d e g h i w x m o p q s t u v) (fun c j l=>rec a b c d e g h i j l m o p q s t u v) c j l},{cur:=2,live:=[0,3,99,100,101],out:=fun | .exit 2=>([0,3],[])|_=>([],[]),q:=⟨[.p 0 0 0,.p 1 0 0,.t .str,.i .i64,.i .i64],[z34,z36]⟩,G:=fun R K n a b c d e g h i j l m o p q s t u v=>cN N a b d e g h i m o p q s t u v (fun w x=>pK ⟨[.p 0 0 0,.p 1 0 0],[z34,z36]⟩ (K (.exit 2)) d e g h i w x m o p q s t u v) n c j l,B:=fun R K rec a b c d e g h i j l m o p q s t u v=>gq N a b d e g h i m o p q s t u v (fun w x=>pK ⟨[.p 0 0 0,.p 1 0 0],[z34,z36]⟩ (K (.exit 2)) d e g h i w x m o p q s t u v) (fun c j l=>rec a b c d e g h i j l m o p q s t u v) c j l},{cur:=4,live:=[0,3,170,171,172],out:=fun | .exit 4=>([],[])|_=>([],[]),q:=⟨[.p 0 0 0,.p 1 0 0,.t .cell,.i .i64,.i .i64],[z34,z36]⟩,G:=fun R K n a b c d e g h i j l m o p q s t u v=>cO N a b d e g h i m o p q s t u v (pK ⟨[],[z34]⟩ (K (.exit 4)) d e g h i) n c j l,B:=fun R K rec a b c d e g h i j l m o p q s t u v=>gr N a b d e g h i m o p q s t u v (pK ⟨[],[z34]⟩ (K (.exit 4)) d e g h i) (fun c j l=>rec a b c d e g h i j l m o p q s t u v) c j l}],cuts:=[{key:=23,live:=[0,3],out:=fun | .ret=>([],[]) | .normal=>([],[])|_=>([],[]),q:=⟨[.p 0 0 0,.p 1 0 0],[z34,z36]⟩,G:=fun R K a b c d e g h i j l m o p q s=>eF N a b c d e g h i j l m o p q s (pK ⟨[],[z34]⟩ (K .ret) a b c d e g h) (pK ⟨[],[z34]⟩ (K .normal) a b c d e)},{key:=13,live:=[0,3],out:=fun | .ret=>([],[]) | .normal=>([],[])|_=>([],[]),q:=⟨[.p 0 0 0,.p 1 0 0],[z34,z36]⟩,G:=fun R K a b c d e g h i j l m o p q s=>kn N a b c d e g h i j l m o p q s (pK ⟨[],[z34]⟩ (K .ret) a b c d e) (pK ⟨[],[z34]⟩ (K .normal) a b c d e)},{key:=9,live:=[0,3],out:=fun | .ret=>([],[]) | .normal=>([],[])|_=>([],[]),q:=⟨[.p 0 0 0,.p 1 0 0],[z34,z36]⟩,G:=fun R K a b c d e g h i j l m o p q s=>iI N a b c d e g h i j l m o p q s (pK ⟨[],[z34]⟩ (K .ret) a b c d e) (pK ⟨[],[z34]⟩ (K .normal) a b c d e)}],g:=[bc N,mi N,gh N,oh N,sN N,Nb N,zQ N,qb N,BH N,vJ N]}
def BK(N:Nat):OC E0:=⟨_,FD.ct e0 (BJ N) N (fun R k a b c d e g h i j l m o p q s=>ko N a b c d e g h i j l m o p q s (oK ⟨.tp [],[z34],[]⟩ k j l m o p))⟩
def z38:ShO S:=.bx [.i .i64,.t .chart,.t .inst,.t .chan,.t .cert]
def mS(N:Nat)(j9:List Chart)(k5 m3:Int)(C:List Chart)(m4:List Inst)(m5:List ak)(m6:List Cert)(m7 m8 I:Int)(J:List Chart)(U:List Inst)(b9:List ak)(j6:List Cert)(k7:Int→Int→ab R)(rec:Int→Int→Int→ab R)(o j7 j8:Int):ab R:=
 if(decide (o<k5))=true then
 ((at? j9 o).bind fun j=>
 if(0:Int)≤0∧0≤o∧o≤((C.length:Nat):Int) then(lN N ((C.take o.toNat).drop (Int.toNat 0)) j.Name j.Steps j.Fuel j.Vars j.Ports j.Timers j.States j.At (fun k8=>
 aj N (!k8) 8 j.At I J U b9 j6 j7 j8 (fun k9 l7=>
 jy N j.Name j.Steps j.Fuel j.Vars j.Ports j.Timers j.States j.At I J U b9 j6 k9 l7 (fun l9 m0=>
 rec (IntKind.wrap .i64 (o+1)) l9 m0)))) else none)
 else
 (k7 j7 j8)
def jH(N:Nat)(j:List Chart)(o C:Int)(I:List Chart)(J:List Inst)(U:List ak)(b9:List Cert)(j6 j7 j8:Int)(j9:List Chart)(k5:List Inst)(k7:List ak)(k8:List Cert)(k9:Int→Int→ab R):Nat→Int→Int→Int→ab R
 |0=>fun _ _ _=>none
 |n+1=>fun l7 l9 m0=>mS N j o C I J U b9 j6 j7 j8 j9 k5 k7 k8 k9 (jH N j o C I J U b9 j6 j7 j8 j9 k5 k7 k8 k9 n) l7 l9 m0
def mT(N:Nat)(J:List Inst)(U k9:Int)(l7:List Chart)(l9:List Inst)(m0:List ak)(m3:List Cert)(m4 m5 b9:Int)(j6:List Chart)(j7:List Inst)(j8:List ak)(j9:List Cert)(k5:Int→Int→ab R)(rec:Int→Int→Int→ab R)(o C I:Int):ab R:=
 if(decide (o<U))=true then
 ((at? J o).bind fun j=>
 kj N o j.Name j.Chart j.Quantum j.Ext j.Prio j.At b9 j6 j7 j8 j9 C I (fun k7 k8=>
 rec (IntKind.wrap .i64 (o+1)) k7 k8))
 else
 (k5 C I)
def iv(N:Nat)(j:List Inst)(o C:Int)(I:List Chart)(J:List Inst)(U:List ak)(b9:List Cert)(j6 j7 j8:Int)(j9:List Chart)(k5:List Inst)(k7:List ak)(k8:List Cert)(k9:Int→Int→ab R):Nat→Int→Int→Int→ab R
 |0=>fun _ _ _=>none
 |n+1=>fun l7 l9 m0=>mT N j o C I J U b9 j6 j7 j8 j9 k5 k7 k8 k9 (iv N j o C I J U b9 j6 j7 j8 j9 k5 k7 k8 k9 n) l7 l9 m0
def mU(N:Nat)(J:List ak)(U k9:Int)(l7:List Chart)(l9:List Inst)(m0:List ak)(m3:List Cert)(m4 m5 b9:Int)(j6:List Chart)(j7:List Inst)(j8:List ak)(j9:List Cert)(k5:Int→Int→ab R)(rec:Int→Int→Int→ab R)(o C I:Int):ab R:=
 if(decide (o<U))=true then
 ((at? J o).bind fun j=>
 iG N o j.Name j.From j.Port j.To j.Cap j.Prio j.At b9 j6 j7 j8 j9 C I (fun k7 k8=>
 rec (IntKind.wrap .i64 (o+1)) k7 k8))
 else
 (k5 C I)
def fM(N:Nat)(j:List ak)(o C:Int)(I:List Chart)(J:List Inst)(U:List ak)(b9:List Cert)(j6 j7 j8:Int)(j9:List Chart)(k5:List Inst)(k7:List ak)(k8:List Cert)(k9:Int→Int→ab R):Nat→Int→Int→Int→ab R
 |0=>fun _ _ _=>none
 |n+1=>fun l7 l9 m0=>mU N j o C I J U b9 j6 j7 j8 j9 k5 k7 k8 k9 (fM N j o C I J U b9 j6 j7 j8 j9 k5 k7 k8 k9 n) l7 l9 m0
def mV(N:Nat)(J:List Inst)(U k9:Int)(l7:List Chart)(l9:List Inst)(m0:List ak)(m3:List Cert)(m4 m5 b9:Int)(j6:List Chart)(j7:List Inst)(j8:List ak)(j9:List Cert)(k5:Int→Int→ab R)(rec:Int→Int→Int→ab R)(o C I:Int):ab R:=
 if(decide (o<U))=true then
 ((at? J o).bind fun j=>
 jc N j.Name j.Chart j.Quantum j.Ext j.Prio j.At b9 j6 j7 j8 j9 C I (fun k7 k8=>
 rec (IntKind.wrap .i64 (o+1)) k7 k8))
 else
 (k5 C I)
def eG(N:Nat)(j:List Inst)(o C:Int)(I:List Chart)(J:List Inst)(U:List ak)(b9:List Cert)(j6 j7 j8:Int)(j9:List Chart)(k5:List Inst)(k7:List ak)(k8:List Cert)(k9:Int→Int→ab R):Nat→Int→Int→Int→ab R
 |0=>fun _ _ _=>none
 |n+1=>fun l7 l9 m0=>mV N j o C I J U b9 j6 j7 j8 j9 k5 k7 k8 k9 (eG N j o C I J U b9 j6 j7 j8 j9 k5 k7 k8 k9 n) l7 l9 m0
def mW(N:Nat)(j9:List Cert)(k5 m3:Int)(m4:List Chart)(m5:List Inst)(m6:List ak)(C:List Cert)(m7 m8 I:Int)(J:List Chart)(U:List Inst)(b9:List ak)(j6:List Cert)(k7:Int→Int→ab R)(rec:Int→Int→Int→ab R)(o j7 j8:Int):ab R:=
 if(decide (o<k5))=true then
 ((at? j9 o).bind fun j=>
 if(0:Int)≤0∧0≤o∧o≤((C.length:Nat):Int) then(mP N ((C.take o.toNat).drop (Int.toNat 0)) j.Name j.Inst j.Req j.Resp j.Insts j.Chans j.Cells j.At (fun k8=>
 aj N (!k8) 8 j.At I J U b9 j6 j7 j8 (fun k9 l7=>
 ko N j.Name j.Inst j.Req j.Resp j.Insts j.Chans j.Cells j.At I J U b9 j6 k9 l7 (fun l9 m0=>
 rec (IntKind.wrap .i64 (o+1)) l9 m0)))) else none)
 else
 (k7 j7 j8)
def dF(N:Nat)(j:List Cert)(o C:Int)(I:List Chart)(J:List Inst)(U:List ak)(b9:List Cert)(j6 j7 j8:Int)(j9:List Chart)(k5:List Inst)(k7:List ak)(k8:List Cert)(k9:Int→Int→ab R):Nat→Int→Int→Int→ab R
 |0=>fun _ _ _=>none
 |n+1=>fun l7 l9 m0=>mW N j o C I J U b9 j6 j7 j8 j9 k5 k7 k8 k9 (dF N j o C I J U b9 j6 j7 j8 j9 k5 k7 k8 k9 n) l7 l9 m0
def sound_Check(N:Nat)(Age:Int)(Charts:List Chart)(Insts:List Inst)(Chans:List ak)(Certs:List Cert)(j:Int→Int→ab R):ab R:=
 (ifB (decide (Age≥1)) true (some (decide (Age≤65536))) (some false)).bind fun o=>
 aj N o 16 0 Age Charts Insts Chans Certs 0 0 (fun C I=>
 aj N (decide (((Insts.length:Nat):Int)>0)) 7 0 Age Charts Insts Chans Certs C I (fun J U=>
 jH N Charts ((Charts.length:Nat):Int) Age Charts Insts Chans Certs 0 0 Age Charts Insts Chans Certs (fun b9 j6=>
 iv N Insts ((Insts.length:Nat):Int) Age Charts Insts Chans Certs 0 0 Age Charts Insts Chans Certs (fun j7 j8=>
 fM N Chans ((Chans.length:Nat):Int) Age Charts Insts Chans Certs 0 0 Age Charts Insts Chans Certs (fun j9 k5=>
 eG N Insts ((Insts.length:Nat):Int) Age Charts Insts Chans Certs 0 0 Age Charts Insts Chans Certs (fun k7 k8=>
 dF N Certs ((Certs.length:Nat):Int) Age Charts Insts Chans Certs 0 0 Age Charts Insts Chans Certs (fun k9 l7=>
 j k9 l7) N 0 k7 k8) N 0 j9 k5) N 0 j7 j8) N 0 b9 j6) N 0 J U))
def Lq(N:Nat):FD E0:={f:=10,fn:=Tryz.f10,q:=⟨[y18],[]⟩,loops:=[{cur:=0,live:=[1,2,3,34,35,36],out:=fun | .exit 0=>([1,2,3],[])|_=>([],[]),q:=⟨[.p 0 0 0,.p 1 0 0,.p 2 0 0,.t .chart,.i .i64,.i .i64],[z38,.bx [.i .i64,.i .i64],z34]⟩,G:=fun R K n a b c d e g h i j l m o p q s t u=>jH N a b d e g h i j l m o p q s (pK ⟨[.p 0 0 0,.p 1 0 0,.p 2 0 0],[z38,.bx [.i .i64,.i .i64],z34]⟩ (K (.exit 0)) d e g h i j l m o p q s) n c t u,B:=fun R K rec a b c d e g h i j l m o p q s t u=>mS N a b d e g h i j l m o p q s (pK ⟨[.p 0 0 0,.p 1 0 0,.p 2 0 0],[z38,.bx [.i .i64,.i .i64],z34]⟩ (K (.exit 0)) d e g h i j l m o p q s) (fun c t u=>rec a b c d e g h i j l m o p q s t u) c t u},{cur:=2,live:=[1,2,3,57,58,59],out:=fun | .exit 2=>([1,2,3],[])|_=>([],[]),q:=⟨[.p 0 0 0,.p 1 0 0,.p 2 0 0,.t .inst,.i .i64,.i .i64],[z38,.bx [.i .i64,.i .i64],z34]⟩,G:=fun R K n a b c d e g h i j l m o p q s t u=>iv N a b d e g h i j l m o p q s (pK ⟨[.p 0 0 0,.p 1 0 0,.p 2 0 0],[z38,.bx [.i .i64,.i .i64],z34]⟩ (K (.exit 2)) d e g h i j l m o p q s) n c t u,B:=fun R K rec a b c d e g h i j l m o p q s t u=>mT N a b d e g h i j l m o p q s (pK ⟨[.p 0 0 0,.p 1 0 0,.p 2 0 0],[z38,.bx [.i .i64,.i .i64],z34]⟩ (K (.exit 2)) d e g h i j l m o p q s) (fun c t u=>rec a b c d e g h i j l m o p q s t u) c t u},{cur:=4,live:=[1,2,3,70,71,72],out:=fun | .exit 4=>([1,2,3],[])|_=>([],[]),q:=⟨[.p 0 0 0,.p 1 0 0,.p 2 0 0,.t .chan,.i .i64,.i .i64],[z38,.bx [.i .i64,.i .i64],z34]⟩,G:=fun R K n a b c d e g h i j l m o p q s t u=>fM N a b d e g h i j l m o p q s (pK ⟨[.p 0 0 0,.p 1 0 0,.p 2 0 0],[z38,.bx [.i .i64,.i .i64],z34]⟩ (K (.exit 4)) d e g h i j l m o p q s) n c t u,B:=fun R K rec a b c d e g h i j l m o p q s t u=>mU N a b d e g h i j l m o p q s (pK ⟨[.p 0 0 0,.p 1 0 0,.p 2 0 0],[z38,.bx [.i .i64,.i .i64],z34]⟩ (K (.exit 4)) d e g h i j l m o p q s) (fun c t u=>rec a b c d e g h i j l m o p q s t u) c t u},{cur:=6,live:=[1,2,3,83,84,85],out:=fun | .exit 6=>([1,2,3],[])|_=>([],[]),q:=⟨[.p 0 0 0,.p 1 0 0,.p 2 0 0,.t .inst,.i .i64,.i .i64],[z38,.bx [.i .i64,.i .i64],z34]⟩,G:=fun R K n a b c d e g h i j l m o p q s t u=>eG N a b d e g h i j l m o p q s (pK ⟨[.p 0 0 0,.p 1 0 0,.p 2 0 0],[z38,.bx [.i .i64,.i .i64],z34]⟩ (K (.exit 6)) d e g h i j l m o p q s) n c t u,B:=fun R K rec a b c d e g h i j l m o p q s t u=>mV N a b d e g h i j l m o p q s (pK ⟨[.p 0 0 0,.p 1 0 0,.p 2 0 0],[z38,.bx [.i .i64,.i .i64],z34]⟩ (K (.exit 6)) d e g h i j l m o p q s) (fun c t u=>rec a b c d e g h i j l m o p q s t u) c t u},{cur:=8,live:=[1,2,3,94,95,96],out:=fun | .exit 8=>([2,3],[])|_=>([],[]),q:=⟨[.p 0 0 0,.p 1 0 0,.p 2 0 0,.t .cert,.i .i64,.i .i64],[z38,.bx [.i .i64,.i .i64],z34]⟩,G:=fun R K n a b c d e g h i j l m o p q s t u=>dF N a b d e g h i j l m o p q s (pK ⟨[.p 0 0 0,.p 1 0 0],[.bx [.i .i64,.i .i64],z34]⟩ (K (.exit 8)) j l m o p q s) n c t u,B:=fun R K rec a b c d e g h i j l m o p q s t u=>mW N a b d e g h i j l m o p q s (pK ⟨[.p 0 0 0,.p 1 0 0],[.bx [.i .i64,.i .i64],z34]⟩ (K (.exit 8)) j l m o p q s) (fun c t u=>rec a b c d e g h i j l m o p q s t u) c t u}],g:=[bc N,CY N,AL N,BA N,yV N,zM N,Ei N,BK N]}
def Dt(N:Nat):OC E0:=⟨_,FD.ct e0 (Lq N) N (fun R k a b c d e=>sound_Check N a b c d e (oK ⟨.ag [.i .i64,.i .i64],[],[]⟩ k))⟩
end
end So
