/- T6_1: a part of the proof of SoundSpoilt: lemmas on the evaluator and on the functions that the law reaches. -/
import Derived.Test.YtcllbmdpckfnhaaGreatT3x8
import Derived.Test.YtcllbmdpckfnhaaGreatTZx1
set_option maxRecDepth 100000
set_option linter.unusedVariables false
namespace So
open Go TE Go.Proofs
noncomputable section
variable{R:Type}
def l12_check(N:Nat)(text:ae)(j:Int→Int→Bool→ab R):ab R:=
 r10_Parse N text (fun C I J U r5 o r7=>
 if(o != 0)=true then
 (j o r7 false)
 else
 (sound_Check N C I J U r5 (fun r8 r9=>
 j r8 r9 true)))
def Pb(N:Nat):FD E0:={f:=28,fn:=Tryz.f28,q:=⟨[.st],[]⟩,g:=[HQ N,Dt N]}
def Pc(N:Nat):OC E0:=⟨_,FD.ct e0 (Pb N) N (fun R k a=>l12_check N a (oK ⟨.tp [.ag [.i .i64,.i .i64],.b],[],[]⟩ k))⟩
structure lh where
 l12_check:(R:Type)→ae→(Int→Int→Bool→ab R)→ab R
def AT:Pat S:=⟨[.st],[]⟩
def rf(F:lh):Ct S:=⟨28,AT,fun R k a=>F.l12_check R a (oK ⟨.tp [.ag [.i .i64,.i .i64],.b],[],[]⟩ k)⟩
structure rF(F:lh):Prop where
 l12_check:(rf F).ok E0
def Pd:Pat S:=⟨[],[]⟩
def BT(F:lh)(N:Nat)(j:Bool→ab R):ab R:=
 F.l12_check _ [115,121,115,116,101,109,32,97,103,101,32,48,59] (fun o C I=>
 F.l12_check _ [115,121,115,116,101,109,32,97,103,101,32,49,59,99,104,97,114,116,32,99,32,115,116,101,112,115,32,50,32,102,117,101,108,32,57,123,115,116,97,116,101,32,120,123,125,125,32,99,104,97,114,116,32,100,32,115,116,101,112,115,32,50,32,102,117,101,108,32,57,123,115,116,97,116,101,32,97,123,111,110,32,101,45,62,120,59,125,125,32,105,110,115,116,32,105,58,99,32,113,117,97,110,116,117,109,32,49,32,101,120,116,32,48,32,112,114,105,111,32,48,59] (fun J U r6=>
 F.l12_check _ [115,121,115,116,101,109,32,97,103,101,32,49,59,99,104,97,114,116,32,99,32,115,116,101,112,115,32,50,32,102,117,101,108,32,57,123,115,116,97,116,101,32,120,123,125,125,32,105,110,115,116,32,105,58,99,32,113,117,97,110,116,117,109,32,49,32,101,120,116,32,48,32,112,114,105,111,32,48,59] (fun r7 r8 r9=>
 (ifB I true (some ((o==16)&&((C==0)&&true))) (some false)).bind fun j8=>
 (ifB j8 true (some r6) (some false)).bind fun j9=>
 (ifB j9 true (some ((J==7)&&((U==78)&&true))) (some false)).bind fun k5=>
 (ifB k5 true (some r9) (some false)).bind fun k7=>
 (ifB k7 true (some (r7==0)) (some false)).bind fun k8=>
 j k8)))
def sU(F:lh)(hF:rF F)(N:Nat):FD E0:={f:=9,fn:=Tryz.f9,q:=Pd,g:=[⟨rf F,hF.l12_check⟩]}
theorem Ly(F:lh)(hF:rF F)(N:Nat):Ct.ok E0 ⟨(sU F hF N).f,(sU F hF N).q,fun R k=>BT F N (oK ⟨.b,[],[]⟩ k)⟩:=FD.ct e0 (sU F hF N) N (fun R k=>BT F N (oK ⟨.b,[],[]⟩ k))
def mA(N:Nat):lh where
 l12_check:=fun R=>l12_check N
theorem qA(N:Nat):rF (mA N):={l12_check:=(Pc N).2}
def l12_known(N:Nat)(j:Bool→ab R):ab R:=BT (mA N) N  j
theorem Ni(N:Nat):Ct.ok E0 ⟨(sU (mA N) (qA N) N).f,(sU (mA N) (qA N) N).q,fun R k=>l12_known N (oK ⟨.b,[],[]⟩ k)⟩:=Ly (mA N) (qA N) N
def Pe(N:Nat):OC E0:=⟨_,Ni N⟩
structure bj where
 l12_known:(R:Type)→(Bool→ab R)→ab R
 r37_Text:(R:Type)→(List Int)→(ae→ab R)→ab R
 r37_Spoilt:(R:Type)→ae→Int→(ae→ab R)→ab R
 r10_Parse:(R:Type)→ae→(Int→(List Chart)→(List Inst)→(List ak)→(List Cert)→Int→Int→ab R)→ab R
 sound_Check:(R:Type)→Int→(List Chart)→(List Inst)→(List ak)→(List Cert)→(Int→Int→ab R)→ab R
 r12_Check:(R:Type)→Int→(List Chart)→(List Inst)→(List ak)→(List Cert)→(Int→Int→ab R)→ab R
def uv:Pat S:=⟨[],[]⟩
def lT(F:bj):Ct S:=⟨9,uv,fun R k=>F.l12_known R (oK ⟨.b,[],[]⟩ k)⟩
def vT:Pat S:=⟨[.t .int],[]⟩
def mB(F:bj):Ct S:=⟨13,vT,fun R k a=>F.r37_Text R a (oK ⟨.st,[],[]⟩ k)⟩
def tL:Pat S:=⟨[.st,.i .i64],[]⟩
def kV(F:bj):Ct S:=⟨12,tL,fun R k a b=>F.r37_Spoilt R a b (oK ⟨.st,[],[]⟩ k)⟩
def uw:Pat S:=⟨[.st],[]⟩
def lU(F:bj):Ct S:=⟨8,uw,fun R k a=>F.r10_Parse R a (oK ⟨.tp [y18,.ag [.i .i64,.i .i64]],[],[]⟩ k)⟩
def sV:Pat S:=⟨[y18],[]⟩
def jT(F:bj):Ct S:=⟨10,sV,fun R k a b c d e=>F.sound_Check R a b c d e (oK ⟨.ag [.i .i64,.i .i64],[],[]⟩ k)⟩
def ux:Pat S:=⟨[y18],[]⟩
def lV(F:bj):Ct S:=⟨11,ux,fun R k a b c d e=>F.r12_Check R a b c d e (oK ⟨.ag [.i .i64,.i .i64],[],[]⟩ k)⟩
structure kA(F:bj):Prop where
 l12_known:(lT F).ok E0
 r37_Text:(mB F).ok E0
 r37_Spoilt:(kV F).ok E0
 r10_Parse:(lU F).ok E0
 sound_Check:(jT F).ok E0
 r12_Check:(lV F).ok E0
def Gb:Pat S:=⟨[.t .int,.i .i64,.i .i64],[]⟩
def pj(F:bj)(N:Nat)(j:Int)(o:List Chart)(C:List Inst)(I:List ak)(J:List Cert)(b9 k9:Int)(U:Bool→ab R):ab R:=
 if(b9 != 0)=true then
 (F.l12_known _ (fun j6=>
 U j6))
 else
 (F.sound_Check _ j o C I J (fun j7 j8=>
 F.r12_Check _ j o C I J (fun j9 k5=>
 (ifB ((j7==j9)&&((j8==k5)&&true)) true (F.l12_known _ (fun k7=>
 some k7)) (some false)).bind fun k8=>
 U k8)))
def lW(F:bj)(N:Nat)(v:List Int)(k_ m:Int)(j:Bool→ab R):ab R:=
 if(decide (((v.length:Nat):Int)>200))=true then
 (F.l12_known _ (fun o=>
 j o))
 else
 (F.r37_Text _ v (fun C=>
 F.r37_Spoilt _ C k_ (fun I=>
 F.r37_Spoilt _ I m (fun J=>
 F.r10_Parse _ J (fun U r6 r7 r8 r9 j9 k5=>
 pj F N U r6 r7 r8 r9 j9 k5 (fun k7=>
 j k7))))))
def jh(F:bj)(hF:kA F)(N:Nat):FD E0:={f:=4,fn:=Tryz.f4,q:=Gb,cuts:=[{key:=4,live:=[7,8],out:=fun | .ret=>([6],[])|_=>([],[]),q:=⟨[.p 0 0 0,.p 1 0 0],[z38,.bx [.i .i64,.i .i64]]⟩,G:=fun R K a b c d e g h=>pj F N a b c d e g h (pK ⟨[.b],[]⟩ (K .ret))}],g:=[⟨lU F,hF.r10_Parse⟩,⟨lT F,hF.l12_known⟩,⟨jT F,hF.sound_Check⟩,⟨lV F,hF.r12_Check⟩,⟨kV F,hF.r37_Spoilt⟩,⟨mB F,hF.r37_Text⟩]}
theorem Dl(F:bj)(hF:kA F)(N:Nat):Ct.ok E0 ⟨(jh F hF N).f,(jh F hF N).q,fun R k a b c=>lW F N a b c (oK ⟨.b,[],[]⟩ k)⟩:=FD.ct e0 (jh F hF N) N (fun R k a b c=>lW F N a b c (oK ⟨.b,[],[]⟩ k))
def dW(N:Nat):bj where
 l12_known:=fun R=>l12_known N
 r37_Text:=fun R=>r37_Text N
 r37_Spoilt:=fun R=>r37_Spoilt N
 r10_Parse:=fun R=>r10_Parse N
 sound_Check:=fun R=>sound_Check N
 r12_Check:=fun R=>r12_Check N
theorem jP(N:Nat):kA (dW N):={l12_known:=(Pe N).2,r37_Text:=(Sz N).2,r37_Spoilt:=(NP N).2,r10_Parse:=(HQ N).2,sound_Check:=(Dt N).2,r12_Check:=(Pa N).2}
def oL(N:Nat)(v:List Int)(k_ m:Int)(j:Bool→ab R):ab R:=lW (dW N) N v k_ m j
theorem En(N:Nat):Ct.ok E0 ⟨(jh (dW N) (jP N) N).f,(jh (dW N) (jP N) N).q,fun R k a b c=>oL N a b c (oK ⟨.b,[],[]⟩ k)⟩:=Dl (dW N) (jP N) N
end
end So
