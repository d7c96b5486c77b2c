/- TE: places in slices, pieces of slices and strings, lengths, literals of structs. -/
import Derived.Test.YtcllbmdpckfnhaaGreatTE6
namespace TE
open Go
variable{S:Sig}{E:Env S}
section
variable{R:Type}{k:Eff S→Option R}{r:R}{t:Nat→TV S}{ob:Nat→Option (Obj S)}{base:Nat}{o:Oper}
theorem at?_some{α:Type}{xs:List α}{n:Int}{x:α}(h:at? xs n=some x):0≤n∧n.toNat<xs.length∧n<xs.length∧xs[n.toNat]?=some x:=by
 unfold at? at h
 split at h
 ·cases h
 ·rename_i hn
  have h1:=(List.getElem?_eq_some_iff.1 h).1
  exact⟨by omega,h1,by omega,h⟩
theorem rJ{ty e:TypeId}{x y:Operand}{q:IntKind}{n:Int}{nm off len:Nat}{rd:List Nat}{i:TypeInfo}{c:S.K}(hE:eg E)(ho:o.op = .indexAddr ty x y)(hu:E.P.underlying ty=some (.slice e))(hi:E.P.info? e=some i)(hc:i.size=E.sz c)(hy:ev t y = .int q n)(h0:0≤n)(h1:n<len)(hx:∀(B:fE)(ob':Nat→Option (Obj S))(w:World)(φ:Phi)(M:Mem)(u:Value),(∀n∈rd,ob' n=ob n)→bh E B ob' w φ M→VR E φ M (ev t x) u →
   ∃g,φ nm=some g∧g.s=E.sz c∧qE g off len u):cX E o t ob base ⟨.ptr nm (off+n.toNat) 0,rd,[],base⟩:=by
 refine cX.value fun B nt t' ob' a w φ M hv hrd hm=>?_
 have h2:=hv x (by rw[ho];simp[Op.operands])
 have h3:=hv y (by rw[ho];simp[Op.operands])
 obtain⟨dst,op',ty',pos,after,guard⟩:=o
 subst ho
 rw[hy]at h3
 have e3:=h3.int
 obtain⟨g,hg,hs,ad,cap,e2,hle,hL,had⟩:=hx B ob' w φ M _ hrd hm h2
 have hcap:cap≠0:=by omega
 obtain⟨had,_⟩:=had.resolve_left hcap
 subst had
 refine⟨_,bw (by rw[e2,e3];exact yb w hu hi h0 h1),?_⟩
 rw[show off*g.s+n.toNat*i.size=(off+n.toNat)*g.s+0 by rw[hc,hs,Nat.add_mul];rfl]
 exact .ptr hg
theorem Gx{ty e:TypeId}{x y:Operand}{q:IntKind}{n:Int}(ho:o.op = .indexAddr ty x y)(hu:E.P.underlying ty=some (.slice e))(hy:ev t y = .int q n)(h:Kl E ob base e (ev t x) n k=some r):∃e',k e'=some r∧cX E o t ob base e':=by
 unfold Kl at h
 split at h
 ·rename_i nm len ag hx ht
  split at h
  ·rename_i cs hob
   split at h
   ·rename_i hb
    refine⟨_,h,cX.value fun B nt t' ob' a w φ M hv hrd hm=>?_⟩
    have h2:=hv x (by rw[ho];simp[Op.operands])
    have h3:=hv y (by rw[ho];simp[Op.operands])
    obtain⟨dst,op',ty',pos,after,guard⟩:=o
    subst ho
    rw[hy]at h3
    rw[hx]at h2
    have e3:=h3.int
    obtain⟨i,d,hi,_,hs,_⟩:=uP ht
    obtain⟨g,hg,ad,cap,e2,hle,hL,had⟩:=h2.sl_inv
    have hcap:cap≠0:=by omega
    obtain⟨had,_⟩:=had.resolve_left hcap
    subst had
    refine⟨_,bw (by rw[e2,e3];exact yb w hu hi hb.1 hb.2),?_⟩
    rw[show 0*g.s+n.toNat*i.size=0*g.s+n.toNat by rw[hs,Nat.mul_one]]
    exact .ptr hg
   ·cases h
  ·cases h
 ·cases h
theorem PA(hE:eg E){e:TypeId}{c:S.K}(h:vU E e c=true):∃i,E.P.info? e=some i∧i.size=E.sz c:=by
 unfold vU at h
 split at h
 ·rename_i d hd
  obtain rfl:=of_decide_eq_true h
  obtain⟨i,h1,h2,_⟩:=hE.size e d hd
  exact⟨i,h1,h2⟩
 ·cases h
theorem HC(hE:eg E){ty e:TypeId}{x y:Operand}{q:IntKind}{n:Int}(ho:o.op = .indexAddr ty x y)(hu:E.P.underlying ty=some (.slice e))(hy:ev t y = .int q n)(h:Nj E ob base e (ev t x) n k=some r):∃e',k e'=some r∧cX E o t ob base e':=by
 unfold Nj at h
 split at h
 ·rename_i nm hx
  split at h
  ·rename_i c xs hob
   split at h
   ·rename_i hc
    split at h
    ·rename_i hb
     obtain⟨i,hi,his⟩:=PA hE hc
     refine⟨_,h,?_⟩
     have:=rJ (ob:=ob) (nm:=nm) (off:=0) (len:=xs.len) (rd:=[nm]) (base:=base) hE ho hu hi his hy hb.1 hb.2 fun B ob' w φ M u hag hm hv=>by
      rw[hx]at hv
      obtain⟨g,hg,hsl⟩:=hv.slw_inv
      have hob':ob' nm=some (.deep c xs):=(hag nm (by simp)).trans hob
      obtain⟨g',hg',hd⟩:=hm.objs nm _ hob'
      rw[hg]at hg';cases hg'
      obtain⟨hL,hs,_⟩:=hd.facts
      exact⟨g,hg,hs,by rw[← DX.get_len,← hL];exact hsl⟩
     simpa using this
    ·cases h
   ·cases h
  ·cases h
 ·exact Gx ho hu hy h
theorem Gy{ty e:TypeId}{x y:Operand}{q:IntKind}{n:Int}{i:TypeInfo}{c:S.K}{xs:List (S.El c)}{z:S.El c}(ho:o.op = .indexAddr ty x y)(hu:E.P.underlying ty=some (.slice e))(hi:E.P.info? e=some i)(hc:i.size=E.sz c)(hy:ev t y = .int q n)(hx:ev t x = .tree c xs)(hz:at? xs n=some z):cX E o t ob base ⟨.iptr c z 0,[],[],base⟩:=by
 refine cX.value fun B nt t' ob' a w φ M hv hrd hm=>?_
 have h2:=hv x (by rw[ho];simp[Op.operands])
 have h3:=hv y (by rw[ho];simp[Op.operands])
 obtain⟨dst,op',ty',pos,after,guard⟩:=o
 subst ho
 rw[hy]at h3
 rw[hx]at h2
 have e3:=h3.int
 obtain⟨h0,h1,h1',hz'⟩:=at?_some hz
 obtain⟨ad,cap,b,of,e2,hle,had,hM⟩:=h2.tree_inv
 have hcap:cap≠0:=by omega
 have had:=had.resolve_left hcap
 subst had
 refine⟨_,bw (by rw[e2,e3];exact yb w hu hi h0 h1'),.iptr_mk b (of+n.toNat*E.sz c) (by rw[hc];rfl) fun j tv hj=>hM n.toNat z j tv hz' hj⟩
theorem NC{ty:TypeId}{x y:Operand}{q:IntKind}{n:Int}{s:List UInt8}{b:UInt8}(ho:o.op = .index ty x y)(hu:E.P.underlying ty=some .string)(hy:ev t y = .int q n)(hx:ev t x = .str s)(hz:at? s n=some b):cX E o t ob base ⟨.int .u8 b.toNat,[],[],base⟩:=by
 refine cX.value fun B nt t' ob' a w φ M hv hrd hm=>?_
 have h2:=hv x (by rw[ho];simp[Op.operands])
 have h3:=hv y (by rw[ho];simp[Op.operands])
 obtain⟨dst,op',ty',pos,after,guard⟩:=o
 subst ho
 rw[hy]at h3
 rw[hx]at h2
 have e3:=h3.int
 have e2:=h2.str
 obtain⟨h0,h1,h1',hz'⟩:=at?_some hz
 refine⟨.int .u8 b.toNat,bw ?_,.pure (.int _ _)⟩
 rw[e2,e3]
 unfold Instr.index
 simp only[run_bind,sY,run_underlying ty w hu,h0,if_true]
 have:(⟨s.toArray⟩:ByteArray)[n.toNat]?=some b:=by
  have hsz:n.toNat<(⟨s.toArray⟩:ByteArray).size:=by simpa[ByteArray.size] using h1
  rw[getElem?_pos (⟨s.toArray⟩:ByteArray) n.toNat hsz]
  congr 1
  have:=(List.getElem?_eq_some_iff.1 hz').2
  rw[← this]
  rfl
 simp only[this]
 rfl
theorem Cb:∀(cs:List (TV S))(l:List (List UInt8)),gB cs=some l→∀i:Nat,cs[i]?=(l[i]?).map .str
 | [],l,h,i=>by simp only[gB,Option.some.injEq]at h;subst h;simp
 | .str s::r,l,h,i=>by
  simp only[gB,Option.map_eq_some_iff]at h
  obtain⟨l',h',rfl⟩:=h
  cases i with
  |zero=>simp
  |succ i=>simpa using Cb r l' h' i
 | .dead::_,_,h,_=>by simp[gB]at h
 | .undef::_,_,h,_=>by simp[gB]at h
 | .bool _::_,_,h,_=>by simp[gB]at h
 | .int _ _::_,_,h,_=>by simp[gB]at h
 | .nilp::_,_,h,_=>by simp[gB]at h
 | .ptr _ _ _::_,_,h,_=>by simp[gB]at h
 | .iptr _ _ _::_,_,h,_=>by simp[gB]at h
 | .nils::_,_,h,_=>by simp[gB]at h
 | .slw _::_,_,h,_=>by simp[gB]at h
 | .sl _ _ _::_,_,h,_=>by simp[gB]at h
 | .tree _ _::_,_,h,_=>by simp[gB]at h
 | .nilm::_,_,h,_=>by simp[gB]at h
 | .map _::_,_,h,_=>by simp[gB]at h
 | .nilf::_,_,h,_=>by simp[gB]at h
 | .fn _ _::_,_,h,_=>by simp[gB]at h
 | .nili::_,_,h,_=>by simp[gB]at h
 | .iface _ _::_,_,h,_=>by simp[gB]at h
 | .agg _::_,_,h,_=>by simp[gB]at h
 | .tup _::_,_,h,_=>by simp[gB]at h
theorem Cc(kd:IntKind):∀(cs:List (TV S))(l:List Int),gC kd cs=some l→∀i:Nat,cs[i]?=(l[i]?).map (.int kd ·)
 | [],l,h,i=>by simp only[gC,Option.some.injEq]at h;subst h;simp
 | .int k' n::r,l,h,i=>by
  simp only[gC]at h
  split at h
  ·rename_i hk
   subst hk
   simp only[Option.map_eq_some_iff]at h
   obtain⟨l',h',rfl⟩:=h
   cases i with
   |zero=>simp
   |succ i=>simpa using Cc kd r l' h' i
  ·cases h
 | .dead::_,_,h,_=>by simp[gC]at h
 | .undef::_,_,h,_=>by simp[gC]at h
 | .bool _::_,_,h,_=>by simp[gC]at h
 | .str _::_,_,h,_=>by simp[gC]at h
 | .nilp::_,_,h,_=>by simp[gC]at h
 | .ptr _ _ _::_,_,h,_=>by simp[gC]at h
 | .iptr _ _ _::_,_,h,_=>by simp[gC]at h
 | .nils::_,_,h,_=>by simp[gC]at h
 | .slw _::_,_,h,_=>by simp[gC]at h
 | .sl _ _ _::_,_,h,_=>by simp[gC]at h
 | .tree _ _::_,_,h,_=>by simp[gC]at h
 | .nilm::_,_,h,_=>by simp[gC]at h
 | .map _::_,_,h,_=>by simp[gC]at h
 | .nilf::_,_,h,_=>by simp[gC]at h
 | .fn _ _::_,_,h,_=>by simp[gC]at h
 | .nili::_,_,h,_=>by simp[gC]at h
 | .iface _ _::_,_,h,_=>by simp[gC]at h
 | .agg _::_,_,h,_=>by simp[gC]at h
 | .tup _::_,_,h,_=>by simp[gC]at h
theorem RU{R:Type}{cs:List (TV S)}{n:Nat}{k:TV S→Option R}{r:R}(h:WD cs n k=some r):∃v,cs[n]?=some v∧k v=some r:=by
 unfold WD at h
 split at h
 ·rename_i l hl
  obtain⟨s,h1,h2⟩:=Option.bind_eq_some_iff.1 h
  exact⟨_,by rw[Cb cs l hl,h1];rfl,h2⟩
 ·split at h
  ·rename_i l hl
   obtain⟨s,h1,h2⟩:=Option.bind_eq_some_iff.1 h
   exact⟨_,by rw[Cc .i64 cs l hl,h1];rfl,h2⟩
  ·split at h
   ·rename_i v hv
    exact⟨v,hv,h⟩
   ·cases h
theorem Gz{ty e:TypeId}{L:Nat}{x y:Operand}{q:IntKind}{n:Int}{cs:List (TV S)}{tv:TV S}(ho:o.op = .index ty x y)(hu:E.P.underlying ty=some (.array L e))(hty:xY E.P e=some (false,1))(hL:cs.length=L)(hy:ev t y = .int q n)(hx:ev t x = .agg cs)(h0:0≤n)(hz:cs[n.toNat]?=some tv):cX E o t ob base ⟨tv,[],[],base⟩:=by
 refine cX.value fun B nt t' ob' a w φ M hv hrd hm=>?_
 have h2:=hv x (by rw[ho];simp[Op.operands])
 have h3:=hv y (by rw[ho];simp[Op.operands])
 obtain⟨dst,op',ty',pos,after,guard⟩:=o
 subst ho
 rw[hy]at h3
 rw[hx]at h2
 have e3:=h3.int
 obtain⟨vs,e2,hl,hvs⟩:=h2.agg_inv
 obtain⟨i,d,g1,g2,g3,_⟩:=uP hty
 obtain⟨v,hrun,hvr⟩:=Gu (E:=E) (k:=n.toNat*1) w hty (by simpa[bY] using hz) hl hvs
 refine⟨v,bw ?_,hvr⟩
 have hlt:n<(L:Int):=by
  have:=(List.getElem?_eq_some_iff.1 hz).1
  omega
 rw[e2,e3]
 unfold Instr.index
 simp only[run_bind,sY,run_underlying ty w hu,h0,hlt,and_self,if_true,run_sizeOf e w g1,g3]
 exact hrun
theorem Yr{P:Program}{φ:Phi}{M:Mem}{B:fE}{ob':Nat→Option (Obj S)}{ts:Array TypeId}{ty':TypeId}{x:TV S}{u:Value}{n:Nat}(w:World)(hn:Yi ((ts[0]?).bind P.underlying) ob x=some n)(hrd:∀n∈aG x,ob' n=ob n)(hm:bh E B ob' w φ M)(hu:VR E φ M x u):(Builtin.len_ ts ty' #[u]).run P w = .ok (.int .i64 n) w:=by
 unfold Yi at hn
 have go:∀d,(ts[0]?).bind P.underlying=some d→∃ty,ts[0]?=some ty∧P.underlying ty=some d:=by
  intro d hd
  cases h0:ts[0]? with
  |none=>rw[h0]at hd;cases hd
  |some ty=>rw[h0]at hd;exact⟨ty,rfl,hd⟩
 split at hn
 ·rename_i s hd
  obtain⟨ty,h0,h1⟩:=go _ hd
  cases hn
  cases hu.str
  unfold Builtin.len_
  simp only[h0,show(#[Value.string ⟨s.toArray⟩]:Array Value)[0]?=some (Value.string ⟨s.toArray⟩) from rfl,run_bind,run_underlying ty w h1]
  simp[goInt,ByteArray.size]
 ·rename_i e hd
  obtain⟨ty,h0,h1⟩:=go _ hd
  cases hn
  cases hu.nils
  unfold Builtin.len_
  simp only[h0,show(#[Value.slice none 0 0]:Array Value)[0]?=some (Value.slice none 0 0) from rfl,run_bind,run_underlying ty w h1]
  rfl
 ·rename_i e c xs hd
  obtain⟨ty,h0,h1⟩:=go _ hd
  cases hn
  obtain⟨a,cap,b,of,rfl,_⟩:=hu.tree_inv
  unfold Builtin.len_
  simp only[h0,show(#[Value.slice a xs.length cap]:Array Value)[0]?=some (Value.slice a xs.length cap) from rfl,run_bind,run_underlying ty w h1]
  rfl
 ·rename_i e nm hd
  obtain⟨ty,h0,h1⟩:=go _ hd
  split at hn
  ·rename_i c xs m ho
   cases hn
   obtain⟨g,hg,a,cap,rfl,_⟩:=hu.slw_inv
   obtain⟨g',hg',hL,_⟩:=hm.objs nm _ (by rw[hrd nm (by simp[aG])];exact ho)
   rw[hg]at hg';cases hg'
   unfold Builtin.len_
   simp only[h0,show(#[Value.slice a g.L cap]:Array Value)[0]?=some (Value.slice a g.L cap) from rfl,run_bind,run_underlying ty w h1]
   rw[hL];rfl
  ·rename_i c dx ho
   cases hn
   obtain⟨g,hg,a,cap,rfl,_⟩:=hu.slw_inv
   obtain⟨g',hg',hdr⟩:=hm.objs nm _ (by rw[hrd nm (by simp[aG])];exact ho)
   rw[hg]at hg';cases hg'
   have hL:=hdr.facts.1
   rw[DX.get_len]at hL
   unfold Builtin.len_
   simp only[h0,show(#[Value.slice a g.L cap]:Array Value)[0]?=some (Value.slice a g.L cap) from rfl,run_bind,run_underlying ty w h1]
   rw[hL];rfl
  ·cases hn
 ·rename_i e nm off len hd
  obtain⟨ty,h0,h1⟩:=go _ hd
  cases hn
  obtain⟨g,hg,a,cap,rfl,_⟩:=hu.sl_inv
  unfold Builtin.len_
  simp only[h0,show(#[Value.slice a n cap]:Array Value)[0]?=some (Value.slice a n cap) from rfl,run_bind,run_underlying ty w h1]
  rfl
 ·rename_i p q hd
  obtain⟨ty,h0,h1⟩:=go _ hd
  cases hn
  cases hu.nilm
  unfold Builtin.len_
  simp only[h0,show(#[Value.map none]:Array Value)[0]?=some (Value.map none) from rfl,run_bind,run_underlying ty w h1]
  rfl
 ·cases hn
theorem Cd{P:Program}{b:Builtin}{args:Array Operand}{ts:Array TypeId}{dst:Option Tmp}{ty:TypeId}{pos:String}{after:Array Edge}{guard:Option (Nat×Bool)}(ρ:Operand→Value)(w:World):
  (execOp ρ {dst,op := .call {callee := .builtin b,args,argTypes:=ts},type:=ty,pos,after,guard}).run P w =
   (builtin b ts ty (args.map fun | .const _=>true|_=>false) (args.map ρ)).run P w:=rfl
theorem Zj{x:Operand}{args:Array Operand}{ts:Array TypeId}{n:Nat}(ho:o.op = .call {callee := .builtin .len,args,argTypes:=ts})(ha:args.toList=[x])(hn:Yi ((ts[0]?).bind E.P.underlying) ob (ev t x)=some n):cX E o t ob base ⟨.int .i64 n,aG (ev t x),[],base⟩:=by
 refine cX.value fun B nt t' ob' a w φ M hv hrd hm=>?_
 have hargs:args = #[x]:=by rw[← Array.toArray_toList (xs:=args),ha]
 subst hargs
 have h2:=hv x (by rw[ho];simp[Op.operands,Call.operands])
 obtain⟨dst,op',ty',pos,after,guard⟩:=o
 subst ho
 refine⟨.int .i64 n,?_,.pure (.int _ _)⟩
 rw[Cd,show Array.map a.eval #[x] = #[a.eval x] by simp]
 exact bw (Yr w hn hrd hm h2)
theorem PB{φ:Phi}{M:Mem}{P:Program}(lt:Bool)(w:World):∀(r:List (TV S))(x tv:TV S)(u:Value)(vs:List Value),Et lt x r=some tv→VR E φ M x u →
  r.length=vs.length→(∀(i:Nat)(y:TV S)(v:Value),r[i]?=some y→vs[i]?=some v→VR E φ M y v) →
  ∃z,(vs.foldlM (if lt then Builtin.min2 else Builtin.max2) u).run P w = .ok z w∧VR E φ M tv z:=by
 intro r
 induction r with
 |nil=>
  intro x tv u vs h hu hl _
  have:tv=x:=by cases x<;>simp[Et]at h<;>exact h.symm
  subst this
  have:vs=[]:=List.length_eq_zero_iff.1 (by simpa using hl.symm)
  subst this
  exact⟨u,rfl,hu⟩
 |cons y r ih=>
  intro x tv u vs h hu hl hvs
  cases vs with
  |nil=>simp at hl
  |cons v vs=>
   unfold Et at h
   split at h
   ·rename_i heq;cases heq
   ·rename_i k p k' q r' heq
    cases heq
    split at h
    ·rename_i hk
     subst hk
     have hv:=hvs 0 (.int k q) v (by simp) (by simp)
     cases hu.int;cases hv.int
     obtain⟨z,hz,hzr⟩:=ih _ tv (.int k (if(if lt=true then q<p else q>p) then q else p)) vs h (.pure (.int _ _)) (by simpa using hl) (fun i y v h1 h2=>hvs (i+1) y v (by simpa using h1) (by simpa using h2))
     refine⟨z,?_,hzr⟩
     rw[List.foldlM_cons,run_bind]
     cases lt
     ·simp only[Bool.false_eq_true,if_false,Builtin.max2,run_pure]at hz ⊢
      exact hz
     ·simp only[if_true,Builtin.min2,run_pure]at hz ⊢
      exact hz
    ·cases h
   ·cases h
theorem Mu{lt:Bool}{b:Builtin}{x:Operand}{xs:List Operand}{args:Array Operand}{ts:Array TypeId}{tv:TV S}(hb:b=if lt then .min else .max)(ho:o.op = .call {callee := .builtin b,args,argTypes:=ts})(ha:args.toList=x::xs)(h:Et lt (ev t x) (xs.map (ev t))=some tv):cX E o t ob base ⟨tv,[],[],base⟩:=by
 refine cX.value fun B nt t' ob' a w φ M hv hrd hm=>?_
 have hargs:args=(x::xs).toArray:=by rw[← Array.toArray_toList (xs:=args),ha]
 subst hargs
 have hv':∀y∈x::xs,VR E φ M (ev t y) (a.eval y):=fun y hy=>hv y (by rw[ho];simp[Op.operands,Call.operands];simpa using hy)
 obtain⟨dst,op',ty',pos,after,guard⟩:=o
 subst ho
 obtain⟨z,hz,hzr⟩:=PB (P:=E.P) lt w (xs.map (ev t)) (ev t x) tv (a.eval x) (xs.map a.eval) h (hv' x (by simp)) (by simp) (by
  intro i y v h1 h2
  simp only[List.getElem?_map,Option.map_eq_some_iff]at h1 h2
  obtain⟨p,hp,rfl⟩:=h1
  obtain⟨q,hq,rfl⟩:=h2
  rw[hp]at hq;cases hq
  exact hv' p (by simp[List.mem_of_getElem? hp]))
 refine⟨z,?_,hzr⟩
 rw[Cd]
 subst hb
 cases lt
 ·refine bw (s:=Builtin.max_ ts ty' _) ?_
  simp only[Bool.false_eq_true,if_false]at hz
  simp only[Builtin.max_,List.map_toArray,List.map_cons]
  exact hz
 ·refine bw (s:=Builtin.min_ ts ty' _) ?_
  simp only[if_true]at hz
  simp only[Builtin.min_,List.map_toArray,List.map_cons]
  exact hz
end
end TE
