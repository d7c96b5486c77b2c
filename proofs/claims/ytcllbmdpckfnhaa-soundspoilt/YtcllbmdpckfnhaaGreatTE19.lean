/- TE: tables of calls; one environment for every program. -/
import Derived.Test.YtcllbmdpckfnhaaGreatTE18
import Derived.Test.YtcllbmdpckfnhaaGreatTE14
import Derived.Below
namespace TE
open Go Go.RowKit
variable{S:Sig}
abbrev Dz(S:Sig):=FuncId→List (TV S)→List (Obj S)→(R:Type)→(Res S→Option R)→Option R
def Env.withCall(E:Env S)(g:Dz S):Env S:=⟨E.P,E.enc,E.dec,E.sz,E.code,g,E.asObj,E.sub⟩
section
variable{E:Env S}{g:Dz S}
theorem CR.withCall{M:Mem}{tv:TV S}{v:Value}(h:CR E M tv v):CR (E.withCall g) M tv v:=by
 induction h with
 |tree b o vs hcap ht ha hM hC ih=>exact .tree b o vs hcap ht ha hM ih
 |_=>constructor
theorem VR.withCall{φ:Phi}{M:Mem}{tv:TV S}{v:Value}(h:VR E φ M tv v):VR (E.withCall g) φ M tv v:=by
 induction h with
 |dead v=>exact .dead v
 |pure c=>exact .pure c.withCall
 |ptr hg=>exact .ptr hg
 |iptr b o vs hM hC=>exact .iptr b o vs hM fun j tv e=>(hC j tv e).withCall
 |slw hg hs=>exact .slw hg hs
 |sl hg hs=>exact .sl hg hs
 |map hg=>exact .map hg
 |fn hl _ ih=>exact .fn hl ih
 |agg hl _ ih=>exact .agg hl ih
 |tup hl _ ih=>exact .tup hl ih
theorem DR.withCall{M:Mem}{w:World}{c:S.K}{xs:List (Option (S.El c))}{q:GI}(h:DR E M w c xs q):DR (E.withCall g) M w c xs q:=by
 induction h with
 | @mk c xs g vs G hL hs hle live cell val hsl sub dis out hF ih=>
  exact .mk vs G hL hs hle live cell (fun i x j tv hx hj h0=>(val i x j tv hx hj h0).withCall) hsl (fun i x j d ys hx hj h1=>ih i x j d ys hx hj h1) dis out hF
theorem BY.withCall{φ:Phi}{M:Mem}{w:World}{nm:Nat}{x:Obj S}(h:BY E φ M w nm x):BY (E.withCall g) φ M w nm x:=by
 have row:∀{b s:Nat} {c:S.K} {xs:List (S.El c)},KD E M b s c xs→KD (E.withCall g) M b s c xs:=fun h i x j tv hx hj=>by
  obtain⟨v,h1,h2⟩:=h i x j tv hx hj
  exact⟨v,h1,h2.withCall⟩
 cases x with
 |gone=>trivial
 |box cs=>
  obtain⟨q,hq,hcs⟩:=h
  refine⟨q,hq,fun j tv hj=>?_⟩
  obtain⟨v,h1,h2,h3⟩:=hcs j tv hj
  exact⟨v,h1,h2,h3.withCall⟩
 |deep c xs=>
  obtain⟨q,hq,h1⟩:=h
  exact⟨q,hq,h1.withCall⟩
 |row c xs m=>
  obtain⟨q,hq,h1,h2,h3,h4⟩:=h
  refine⟨q,hq,h1,h2,h3,?_⟩
  cases m with
  |own=>exact⟨h4.1,fun i x j tv hx hj=>by
    obtain⟨v,h5,h6⟩:=h4.2 i x j tv hx hj
    exact⟨v,h5,h6.withCall⟩⟩
  |app=>exact⟨h4.1,row h4.2.1,h4.2.2⟩
  |ro=>exact row h4
theorem bh.withCall{B:fE}{o:Nat→Option (Obj S)}{w:World}{φ:Phi}{M:Mem}(h:bh E B o w φ M):bh (E.withCall g) B o w φ M:=
 ⟨fun nm x hx=>(h.objs nm x hx).withCall,h.fresh,h.sep,h.mdis,h.mval,h.os,h.tape,h.output,h.size,h.kept,h.perm,h.csz,h.mle,h.mnew,h.ext,h.drawn⟩
theorem qD.withCall{f:FuncId}{args:List (TV S)}{objs:List (Obj S)}{res:Res S}(h:qD E f args objs res):qD (E.withCall g) f args objs res:=by
 refine⟨h.1,fun B vals hm hl hv hW=>?_⟩
 have back:(E.withCall g).withCall E.callf=E:=rfl
 refine(h.2 B vals hm hl (fun i tv v h1 h2=>by have:=(hv i tv v h1 h2).withCall (g:=E.callf);rw[back]at this;exact this) (by have:=hW.withCall (g:=E.callf);rw[back]at this;exact this)).mono ?_
 rintro e w' ⟨v,φ',M',he,hv',hW'⟩
 exact⟨v,φ',M',he,hv'.withCall,hW'.withCall⟩
theorem qD.unCall{f:FuncId}{args:List (TV S)}{objs:List (Obj S)}{res:Res S}(h:qD (E.withCall g) f args objs res):qD E f args objs res:=by
 have:=h.withCall (g:=E.callf)
 exact this
theorem eg.withCall(h:eg E):eg (E.withCall g) where
 len:=h.len
 pos:=h.pos
 mixed:=h.mixed
 size:=h.size
 pure:=h.pure
 dec c cs x M i tv v h1 h2 h3:=by
  have back:(E.withCall g).withCall E.callf=E:=rfl
  have h4:=h3.withCall (g:=E.callf)
  rw[back]at h4
  obtain⟨tv',h5,h6⟩:=h.dec c cs x M i tv v h1 h2 h4
  exact⟨tv',h5,h6.withCall⟩
 szle:=h.szle
 decLen:=h.decLen
 sub:=⟨h.sub.tree,h.sub.dec,h.sub.decN⟩
end
def WV(E:Env S)(g:Dz S):Prop:=
 ∀(f:FuncId)(args:List (TV S))(objs:List (Obj S))(R:Type)(k:Res S→Option R)(r:R),g f args objs R k=some r→∃res,k res=some r∧qD E f args objs res
theorem WV.callf{E:Env S}{g:Dz S}(h:WV E g):Ab (E.withCall g):=fun f args objs R k r hk=>by
 obtain⟨res,h1,h2⟩:=h f args objs R k r hk
 exact⟨res,h1,h2.withCall⟩
def Ak:Dz S:=fun _ _ _ _ _=>none
inductive PV:Type
 |bool (b:Bool)
 |int (k:IntKind) (n:Int)
 |str (s:List UInt8)
 |nilp
 |nils
 |nilm
 |nilf
 |nili
 |tree (c:Nat) (xs:List (List PV))
end TE
