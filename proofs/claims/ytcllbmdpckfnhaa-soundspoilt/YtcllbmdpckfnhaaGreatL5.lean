/- SoundSpoilt in plain words: the law's function answers true. -/
import Derived.Test.YtcllbmdpckfnhaaGreatPF
import Derived.Test.YtcllbmdpckfnhaaGreatPX
import Derived.Test.YtcllbmdpckfnhaaGreatT6x1
set_option maxRecDepth 1000000
set_option linter.unusedVariables false
namespace So
open Go TE Go.Proofs
theorem Ve{R:Type}(k:Bool→Option R):l12_known big k=k true:=by kernel_rfl
theorem Tu{R:Type}{N:Nat}(hN:big≤N)(hkn:∀(R:Type)(k:Bool→Option R),l12_known N k=k true)(v:List Int)(i j:Int)(k:Bool→Option R)(r:R)(hk:k true=some r):oL N v i j k=some r:=by
 have hb:big=1000000000:=rfl
 have key:Ok (fun x=>x=r) (oL N v i j k):=by
  dsimp only[oL,lW,dW]
  refine Ok.i (fun _=>⟨r,by rw[hkn];exact hk,rfl⟩) fun h=>?_
  have hv:v.length≤200:=by
   have:¬((v.length:Nat):Int)>200:=by simpa using h
   omega
  refine Tx.rtext_ok (by omega) hv fun s hs=>Tx.spoilt_ok (by omega) fun t ht=>Tx.spoilt_ok (by omega) fun u hu=>XT (by omega) u fun g cs is ch es c A hok=>⟨r,?_,rfl⟩
  dsimp only[pj]
  simp only[hkn,Option.bind_some]
  by_cases h:(c != 0)=true
  ·rw[if_pos h];exact hk
  ·rw[if_neg h]
   have hc:c=0:=by simpa using h
   have hs:=hok hc
   have e1:=fun k'=>Vw (R:=R) (N:=N) ⟨g,cs,is,ch,es⟩ k' hN hs
   have e2:=fun k'=>TP (R:=R) (N:=N) ⟨g,cs,is,ch,es⟩ k' hN hs
   dsimp only at e1 e2
   rw[e1,bq,e2,bq]
   simp[ifB,hk]
 obtain⟨x,h1,h2⟩:=key
 rw[h1,h2]
theorem Je(v:List Int)(i j:Int){p q s:Prop}(h0:p)(h1:q)(h2:s):qD (E Ak) 4 [.tree .int v,.int .i64 i,.int .i64 j] [] ⟨.bool true,some [],[]⟩:=by
 obtain⟨res,e,h⟩:=En big (Res S) ((v,(i,(j,()))),()) some ⟨.bool true,some [],[]⟩ (Tu (Nat.le_refl _) (fun R k=>Ve k) v i j _ _ rfl)
 cases e
 exact h
end So
