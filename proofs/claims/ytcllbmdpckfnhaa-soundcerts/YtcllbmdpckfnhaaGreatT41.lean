/- T4_1: a part of the proof of SoundCerts: lemmas on the evaluator and on the functions that the law reaches. -/
import Derived.Test.YtcllbmdpckfnhaaGreatT38
set_option maxRecDepth 100000
set_option linter.unusedVariables false
namespace So
open Go TE Go.Proofs
noncomputable section
variable {R:Type}
def yJ (N:Nat) (text:List UInt8) (k0:Int→Int→Bool→Option R):Option R :=
 r10_Parse N text (fun r1 r2 r3 r4 r5 r6 r7 =>
 if (r6 != 0) = true then
 (k0 r6 r7 false)
 else
 (sound_Check N r1 r2 r3 r4 r5 (fun r8 r9 =>
 k0 r8 r9 true)))
def Jt (N:Nat):FD E0:={ f:=28,fn:=Tryz.f28,q:=⟨[.st],[]⟩,g:=[CO N,zs N] }
def Ju (N:Nat):OC E0:=⟨_,FD.ct e0 (Jt N) N (fun R k a=>yJ N a (oK ⟨.tp [.ag [.i .i64,.i .i64],.b],[],[]⟩ k))⟩
def l12_known (N:Nat)  (k0:Bool→Option R):Option R :=
 yJ N [115,121,115,116,101,109,32,97,103,101,32,48,59] (fun r1 r2 r3 =>
 yJ N [115,121,115,116,101,109,32,97,103,101,32,49,59,99,104,97,114,116,32,99,32,115,116,101,112,115,32,50,32,102,117,101,108,32,57,123,115,116,97,116,101,32,120,123,125,125,32,99,104,97,114,116,32,100,32,115,116,101,112,115,32,50,32,102,117,101,108,32,57,123,115,116,97,116,101,32,97,123,111,110,32,101,45,62,120,59,125,125,32,105,110,115,116,32,105,58,99,32,113,117,97,110,116,117,109,32,49,32,101,120,116,32,48,32,112,114,105,111,32,48,59] (fun r4 r5 r6 =>
 yJ N [115,121,115,116,101,109,32,97,103,101,32,49,59,99,104,97,114,116,32,99,32,115,116,101,112,115,32,50,32,102,117,101,108,32,57,123,115,116,97,116,101,32,120,123,125,125,32,105,110,115,116,32,105,58,99,32,113,117,97,110,116,117,109,32,49,32,101,120,116,32,48,32,112,114,105,111,32,48,59] (fun r7 r8 r9 =>
 (ifB r3 true (some ((r1 == 16) && ((r2 == 0) && true))) (some false)).bind fun c10 =>
 (ifB c10 true (some r6) (some false)).bind fun c11 =>
 (ifB c11 true (some ((r4 == 7) && ((r5 == 78) && true))) (some false)).bind fun c12 =>
 (ifB c12 true (some r9) (some false)).bind fun c13 =>
 (ifB c13 true (some (r7 == 0)) (some false)).bind fun c14 =>
 k0 c14)))
def Jv (N:Nat):FD E0:={ f:=9,fn:=Tryz.f9,q:=⟨[],[]⟩,g:=[Ju N] }
def Jw (N:Nat):OC E0:=⟨_,FD.ct e0 (Jv N) N (fun R k=>l12_known N (oK ⟨.b,[],[]⟩ k))⟩
/-- The functions that the law calls,told by their contracts alone. -/
structure Fam_tells where
 r10_Parse:(R:Type)→List UInt8→(Int→List Chart→List Inst→List ai→List Cert→Int→Int→Option R)→Option R
 l12_known:(R:Type)→(Bool→Option R)→Option R
 sound_Check:(R:Type)→Int→List Chart→List Inst→List ai→List Cert→(Int→Int→Option R)→Option R
 r12_Check:(R:Type)→Int→List Chart→List Inst→List ai→List Cert→(Int→Int→Option R)→Option R
structure BA (F:Fam_tells):Prop where
 r10_Parse:Ct.ok E0 ⟨8,⟨[.st],[]⟩,fun R k a=>F.r10_Parse R a (oK ⟨.tp [y18,.ag [.i .i64,.i .i64]],[],[]⟩ k)⟩
 l12_known:Ct.ok E0 ⟨9,⟨[],[]⟩,fun R k=>F.l12_known R (oK ⟨.b,[],[]⟩ k)⟩
 sound_Check:Ct.ok E0 ⟨10,⟨[y18],[]⟩,fun R k a b c d e=>F.sound_Check R a b c d e (oK ⟨.ag [.i .i64,.i .i64],[],[]⟩ k)⟩
 r12_Check:Ct.ok E0 ⟨11,⟨[y18],[]⟩,fun R k a b c d e=>F.r12_Check R a b c d e (oK ⟨.ag [.i .i64,.i .i64],[],[]⟩ k)⟩
def Qa (N:Nat):Fam_tells:=⟨fun _=>r10_Parse N,fun _=>l12_known N,fun _=>sound_Check N,fun _=>r12_Check N⟩
theorem Qb (N:Nat):BA (Qa N):=⟨(CO N).2,(Jw N).2,(zs N).2,(Js N).2⟩
end
end So
