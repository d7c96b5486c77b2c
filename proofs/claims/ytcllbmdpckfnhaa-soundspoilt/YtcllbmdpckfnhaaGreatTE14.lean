/- TE: names counted anew; calls. -/
import Derived.Test.YtcllbmdpckfnhaaGreatTE13
namespace TE
open Go
variable{S:Sig}{E:Env S}
theorem sW(ρ:Nat→Nat):∀l:List (TV S),(Eo ρ l).length=l.length
 | []=>rfl
 |v::r=>by simp only[Eo,List.length_cons,sW ρ r]
theorem zo(ρ:Nat→Nat):∀(l:List (TV S))(i:Nat),(Eo ρ l)[i]?=(l[i]?).map (ren ρ)
 | [],i=>by simp[Eo]
 |v::r,0=>by simp[Eo]
 |v::r,i+1=>by simp[Eo,zo ρ r i]
theorem rI{l:List (TV S)}{i:Nat}{v:TV S}{n:Nat}(h:l[i]?=some v)(hn:n∈bZ v):n∈kB l:=by
 induction l generalizing i with
 |nil=>simp at h
 |cons x r ih=>
  simp only[kB,List.mem_append]
  cases i with
  |zero=>simp at h;subst h;exact .inl hn
  |succ i=>exact .inr (ih (by simpa using h))
theorem CR.ren{M:Mem}{tv:TV S}{v:Value}(h:CR E M tv v)(ρ:Nat→Nat):TE.ren ρ tv=tv:=by
 cases h<;>rfl
theorem VR.ren{φ φ':Phi}{M:Mem}{ρ:Nat→Nat}{tv:TV S}{v:Value}(h:VR E φ M tv v):(∀n∈bZ tv,∀g,φ n=some g→φ' (ρ n)=some g)→VR E φ' M (TE.ren ρ tv) v:=by
 induction h with
 |dead v=>intro _;exact .dead v
 |pure c=>intro _;rw[c.ren];exact .pure c
 |ptr hg=>intro hn;exact .ptr (hn _ (by simp[bZ]) _ hg)
 |iptr b o vs hM hC=>intro _;exact .iptr b o vs hM hC
 |slw hg hs=>intro hn;exact .slw (hn _ (by simp[bZ]) _ hg) hs
 |sl hg hs=>intro hn;exact .sl (hn _ (by simp[bZ]) _ hg) hs
 |map hg=>intro hn;exact .map (hn _ (by simp[bZ]) _ hg)
 |fn hl _ ih=>
  intro hn
  refine .fn (by rw[sW];exact hl) fun i tv v h1 h2=>?_
  rw[zo]at h1
  obtain⟨y,hy,rfl⟩:=Option.map_eq_some_iff.1 h1
  exact ih i y v hy h2 (fun n hm=>hn n (by simp only[bZ];exact rI hy hm))
 |agg hl _ ih=>
  intro hn
  refine .agg (by rw[sW];exact hl) fun i tv v h1 h2=>?_
  rw[zo]at h1
  obtain⟨y,hy,rfl⟩:=Option.map_eq_some_iff.1 h1
  exact ih i y v hy h2 (fun n hm=>hn n (by simp only[bZ];exact rI hy hm))
 |tup hl _ ih=>
  intro hn
  refine .tup (by rw[sW];exact hl) fun i tv v h1 h2=>?_
  rw[zo]at h1
  obtain⟨y,hy,rfl⟩:=Option.map_eq_some_iff.1 h1
  exact ih i y v hy h2 (fun n hm=>hn n (by simp only[bZ];exact rI hy hm))
mutual
theorem Tm{ρ σ:Nat→Nat}:∀(tv:TV S),(∀n∈bZ tv,σ (ρ n)=n)→ren σ (ren ρ tv)=tv
 | .ptr nm i k,h=>by simp only[ren];rw[h nm (by simp[bZ])]
 | .slw nm,h=>by simp only[ren];rw[h nm (by simp[bZ])]
 | .sl nm _ _,h=>by simp only[ren];rw[h nm (by simp[bZ])]
 | .map nm,h=>by simp only[ren];rw[h nm (by simp[bZ])]
 | .fn f cap,h=>by simp only[ren];rw[zp cap (fun n hn=>h n (by simp only[bZ];exact hn))]
 | .iface t v,h=>by simp only[ren];rw[Tm v (fun n hn=>h n (by simp only[bZ];exact hn))]
 | .agg cs,h=>by simp only[ren];rw[zp cs (fun n hn=>h n (by simp only[bZ];exact hn))]
 | .tup cs,h=>by simp only[ren];rw[zp cs (fun n hn=>h n (by simp only[bZ];exact hn))]
 | .dead,_=>rfl
 | .undef,_=>rfl
 | .bool _,_=>rfl
 | .int _ _,_=>rfl
 | .str _,_=>rfl
 | .nilp,_=>rfl
 | .iptr _ _ _,_=>rfl
 | .nils,_=>rfl
 | .tree _ _,_=>rfl
 | .nilm,_=>rfl
 | .nilf,_=>rfl
 | .nili,_=>rfl
theorem zp{ρ σ:Nat→Nat}:∀(l:List (TV S)),(∀n∈kB l,σ (ρ n)=n)→Eo σ (Eo ρ l)=l
 | [],_=>rfl
 |v::r,h=>by
  simp only[Eo]
  rw[Tm v (fun n hn=>h n (by simp only[kB,List.mem_append];exact .inl hn)),zp r (fun n hn=>h n (by simp only[kB,List.mem_append];exact .inr hn))]
end
theorem LC{ρ σ:Nat→Nat}(x:Obj S)(h:∀n∈zl x,σ (ρ n)=n):dJ σ (dJ ρ x)=x:=by
 cases x with
 |gone=>rfl
 |row c xs m=>rfl
 |deep c xs=>rfl
 |box cs=>simp only[dJ];rw[zp cs h]
theorem pI{φ φ':Phi}{n n':Nat}{ρ:Nat→Nat}(h:φ' n'=φ n)(x:Obj S):bL φ' n' (dJ ρ x)=bL φ n x:=by
 funext b f
 unfold bL
 rw[h]
 cases x<;>rfl
theorem BY.ren{φ φ':Phi}{M:Mem}{w:World}{n n':Nat}{ρ:Nat→Nat}{x:Obj S}(h:BY E φ M w n x)(hn:∀g,φ n=some g→φ' n'=some g)(hx:∀m∈zl x,∀g,φ m=some g→φ' (ρ m)=some g):BY E φ' M w n' (dJ ρ x):=by
 cases x with
 |gone=>trivial
 |box cs=>
  obtain⟨g,hg,hcs⟩:=h
  refine⟨g,hn g hg,fun j tv hj=>?_⟩
  rw[zo]at hj
  obtain⟨y,hy,rfl⟩:=Option.map_eq_some_iff.1 hj
  obtain⟨v,h1,h2,h3⟩:=hcs j y hy
  exact⟨v,h1,h2,h3.ren fun m hm=>hx m (rI hy hm)⟩
 |row c xs m=>
  obtain⟨g,hg,h1,h2,h3,h4⟩:=h
  exact⟨g,hn g hg,h1,h2,h3,h4⟩
 |deep c xs=>
  obtain⟨g,hg,h1⟩:=h
  exact⟨g,hn g hg,h1⟩
theorem xy(o:Nat→Option (Obj S)):∀(k:Nat)(todo seen:List Nat),seen.Nodup→(reach o k todo seen).Nodup
 |0,_,_,h=>h
 |_+1,[],_,h=>h
 |k+1,n::todo,seen,h=>by
  simp only[reach]
  split
  ·exact xy o k _ _ h
  ·rename_i hc
   refine xy o k _ _ ?_
   rw[List.nodup_append]
   refine⟨h,by simp,fun x hx y hy e=>?_⟩
   simp at hy
   subst hy;subst e
   simp at hc
   exact hc hx
theorem HA(o:Nat→Option (Obj S)):∀(k:Nat)(todo seen:List Nat),∃r,reach o k todo seen=seen++r
 |0,_,seen=>⟨[],by simp[reach]⟩
 |_+1,[],seen=>⟨[],by simp[reach]⟩
 |k+1,n::todo,seen=>by
  simp only[reach]
  split
  ·exact HA o k _ _
  ·obtain⟨r,hr⟩:=HA o k (RE o n++todo) (seen++[n])
   exact⟨n::r,by rw[hr];simp⟩
theorem Aa{o:Nat→Option (Obj S)}{ks roots:List Nat}(h:fR o ks roots=true){n:Nat}(hn:n∈roots):n∈ks:=by
 simp only[fR,Bool.and_eq_true,List.all_eq_true]at h
 simpa using h.1 n hn
theorem xz{o:Nat→Option (Obj S)}{ks roots:List Nat}(h:fR o ks roots=true){n:Nat}(hn:n∈ks):∃x,o n=some x∧∀m∈zl x,m∈ks:=by
 simp only[fR,Bool.and_eq_true,List.all_eq_true]at h
 have h2:=h.2 n hn
 split at h2
 ·rename_i x hx
  refine⟨x,hx,fun m hm=>?_⟩
  simp only[List.all_eq_true]at h2
  simpa using h2 m hm
 ·cases h2
theorem Nv{ks:List Nat}(h:ks.Nodup){i n:Nat}(hi:ks[i]?=some n):ks.idxOf n=i:=by
 obtain⟨hlt,rfl⟩:=List.getElem?_eq_some_iff.1 hi
 exact List.Nodup.idxOf_getElem h i hlt
theorem Gr{ks:List Nat}{n:Nat}(h:n∈ks):ks[ks.idxOf n]?=some n:=by
 have hlt:=List.idxOf_lt_length_of_mem h
 rw[List.getElem?_eq_getElem hlt]
 simp[List.getElem_idxOf hlt]
theorem bh.tidy{B B':fE}{o:Nat→Option (Obj S)}{w:World}{φ:Phi}{M:Mem}(h:bh E B o w φ M){ks roots:List Nat}(hnd:ks.Nodup)(hcl:fR o ks roots=true)(hw:B'.w.os=w.os∧B'.w.tape=w.tape∧B'.w.output=w.output∧B'.w.heap.size≤w.heap.size∧(∀b,b<B'.w.heap.size→¬B'.own b→w.heap[b]?=B'.w.heap[b]?)∧B'.M.le M∧(∀b off,M b off≠B'.M b off→B'.w.heap.size≤b∨B'.own b)∧B'.w.drawn≤w.drawn)(hperm:∀(i n:Nat)(x:Obj S)(b f:Nat),ks[i]?=some n→o n=some x→bL φ n x b f→B'.w.heap.size≤b∨B'.own b)(hext:∀i,i<B'.m→((ks[i]?).bind φ).map GI.strip=(B'.φ i).map GI.strip):
  bh E B' (fun i=>(ks[i]?).map fun n=>dJ (fun n=>ks.idxOf n) ((o n).getD .gone)) w (fun i=>(ks[i]?).bind φ) M:=by
 have getO:∀(i:Nat)(x:Obj S),((ks[i]?).map fun n=>dJ (fun n=>ks.idxOf n) ((o n).getD .gone))=some x→∃n y,ks[i]?=some n∧o n=some y∧x=dJ (fun n=>ks.idxOf n) y∧∀m∈zl y,m∈ks:=by
  intro i x hx
  obtain⟨n,hn,rfl⟩:=Option.map_eq_some_iff.1 hx
  obtain⟨y,hy,hm⟩:=xz hcl (List.mem_of_getElem? hn)
  exact⟨n,y,hn,hy,by rw[hy];rfl,hm⟩
 have hφ:∀(i n:Nat),ks[i]?=some n→(ks[i]?).bind φ=φ n:=fun i n hn=>by rw[hn];rfl
 constructor
 case objs=>
  intro i x hx
  obtain⟨n,y,hn,hy,rfl,hm⟩:=getO i x hx
  refine(h.objs n y hy).ren (fun g hg=>by rw[hφ i n hn];exact hg) (fun m hmy g hg=>?_)
  show(ks[ks.idxOf m]?).bind φ=some g
  rw[Gr (hm m hmy)];exact hg
 case fresh=>
  intro i hi
  cases hk:ks[i]? with
  |none=>rfl
  |some n=>rw[hk]at hi;cases hi
 case sep=>
  intro i i' x x' b f f' hx hx' hc hc'
  obtain⟨n,y,hn,hy,rfl,_⟩:=getO i x hx
  obtain⟨n',y',hn',hy',rfl,_⟩:=getO i' x' hx'
  rw[pI (hφ i n hn)]at hc
  rw[pI (hφ i' n' hn')]at hc'
  have:=h.sep n n' y y' b f f' hy hy' hc hc'
  subst this
  rw[← Nv hnd hn,← Nv hnd hn']
 case mdis=>
  intro i x b f off hx hc hf
  obtain⟨n,y,hn,hy,rfl,_⟩:=getO i x hx
  rw[pI (hφ i n hn)]at hc
  exact h.mdis n y b f off hy hc hf
 case mval=>exact h.mval
 case os=>exact hw.1.symm
 case tape=>exact hw.2.1.symm
 case output=>exact hw.2.2.1.symm
 case size=>exact hw.2.2.2.1
 case kept=>exact hw.2.2.2.2.1
 case perm=>
  intro i x b f hx hc
  obtain⟨n,y,hn,hy,rfl,_⟩:=getO i x hx
  rw[pI (hφ i n hn)]at hc
  exact hperm i n y b f hn hy hc
 case csz=>
  intro i x b f hx hc
  obtain⟨n,y,hn,hy,rfl,_⟩:=getO i x hx
  rw[pI (hφ i n hn)]at hc
  exact h.csz n y b f hy hc
 case mle=>exact hw.2.2.2.2.2.1
 case mnew=>exact hw.2.2.2.2.2.2.1
 case drawn=>exact hw.2.2.2.2.2.2.2
 case ext=>exact hext
def qD(E:Env S)(f:FuncId)(args:List (TV S))(objs:List (Obj S))(res:Res S):Prop:=
 (∃fn,E.P.funcs[f]?=some fn∧(fn.name == "runtime.NumGoroutine")=false∧fn.body.isNone=false) ∧
 ∀(B:fE)(vals:Array Value),B.m=objs.length→args.length=vals.size→(∀(i:Nat)(tv:TV S)(v:Value),args[i]?=some tv→vals[i]?=some v→VR E B.φ B.M tv v) →
  bh E B (fun i=>objs[i]?) B.w B.φ B.M →
  Calls E.P f vals B.w fun e w'=>∃v φ' M',e = .returned v∧VR E φ' M' res.v v∧bh E B (fun i=>(res.xs.getD objs++res.ns)[i]?) w' φ' M'
def Ab(E:Env S):Prop:=
 ∀(f:FuncId)(args:List (TV S))(objs:List (Obj S))(R:Type)(k:Res S→Option R)(r:R),E.callf f args objs R k=some r→∃res,k res=some r∧qD E f args objs res
section
variable{R:Type}{k:Eff S→Option R}{r:R}{t:Nat→TV S}{ob:Nat→Option (Obj S)}{base:Nat}{o:Oper}
theorem Mn(HE:EncOk E){B:fE}{ob':Nat→Option (Obj S)}{w:World}{φ:Phi}{M:Mem}{x y:TV S}{v:Value}(h:bh E B ob' w φ M)(hag:∀n∈bZ x,ob' n=ob n)(ha:Ko ob x=some y)(hv:VR E φ M x v):VR E φ M y v:=by
 have conv:∀{z:TV S},iy ob x=some z→(∀nm∈aG x,∀c xs m,ob nm=some (.row c xs m)→m ≠ .own)→VR E φ M z v:=by
  intro z hz hm
  refine .pure (uN h hz (fun nm hnm c xs m hob=>⟨m,hm nm hnm c xs m hob,id,?_⟩) HE hv)
  rw[hag nm ?_]
  ·exact hob
  ·cases x<;>simp[aG]at hnm<;>simp[bZ,hnm]
 unfold Ko at ha
 split at ha
 ·rename_i nm
  split at ha
  ·rename_i c xs hob
   cases ha
   exact conv (by simp[iy,hob,UB]) (fun n hn c' xs' m' h'=>by simp[aG]at hn;subst hn;rw[hob]at h';injection h' with h';injection h' with _ _ h5;rw[← h5];simp)
  ·rename_i c xs hob
   split at ha
   ·rename_i htok
    cases ha
    exact conv (by simp[iy,hob,UB,htok]) (fun n hn c' xs' m' h'=>by simp[aG]at hn;subst hn;rw[hob]at h';injection h' with h';injection h' with _ _ h5;rw[← h5];simp)
   ·cases ha
  ·cases ha
 ·rename_i nm of len
  split at ha
  ·rename_i c xs hob
   split at ha
   ·rename_i htok
    cases ha
    exact conv (by simp[iy,hob,htok]) (fun n hn c' xs' m' h'=>by simp[aG]at hn;subst hn;rw[hob]at h';injection h' with h';injection h' with _ _ h5;rw[← h5];simp)
   ·cases ha
  ·rename_i c xs hob
   split at ha
   ·rename_i htok
    cases ha
    exact conv (by simp[iy,hob,htok]) (fun n hn c' xs' m' h'=>by simp[aG]at hn;subst hn;rw[hob]at h';injection h' with h';injection h' with _ _ h5;rw[← h5];simp)
   ·cases ha
  ·cases ha
 ·cases ha;exact hv
theorem RJ(HE:EncOk E){B:fE}{ob':Nat→Option (Obj S)}{w:World}{φ:Phi}{M:Mem}{x y:TV S}{v:Value}(h:bh E B ob' w φ M)(hag:∀n∈bZ x,ob' n=ob n)(ha:Nl ob x=some y)(hv:VR E φ M x v):VR E φ M y v:=by
 cases x with
 |agg cs=>
  cases ha
  cases hv with
  |pure c=>cases c
  |agg hl hc=>
   refine .agg (by simpa using hl) fun i tv u h1 h2=>?_
   rw[List.getElem?_map]at h1
   obtain⟨z,hz,rfl⟩:=Option.map_eq_some_iff.1 h1
   have hvz:=hc i z u hz h2
   cases haz:Ko ob z with
   |none=>exact hvz
   |some y=>exact Mn HE h (fun n hn=>hag n (by simp only[bZ];exact rI hz hn)) haz hvz
 |_=>exact Mn HE h hag ha hv
theorem Pq(HE:EncOk E){B:fE}{ob':Nat→Option (Obj S)}{w:World}{φ:Phi}{M:Mem}{f:FuncId}(h:bh E B ob' w φ M):∀(l:List (TV S))(j:Nat)(l':List (TV S)),(∀n∈kB l,ob' n=ob n)→zm E ob f j l=some l' →
  l'.length=l.length∧∀(i:Nat)(x:TV S)(v:Value),l[i]?=some x→VR E φ M x v→∃y,l'[i]?=some y∧VR E φ M y v
 | [],j,l',_,hs=>by simp only[zm,Option.some.injEq]at hs;subst hs;simp
 |x::r,j,l',hag,hs=>by
  simp only[zm]at hs
  split at hs
  ·rename_i r' h2
   cases hs
   obtain⟨h3,h4⟩:=Pq HE h r (j+1) r' (fun n hn=>hag n (by simp only[kB,List.mem_append];exact .inr hn)) h2
   refine⟨by simp[h3],fun i z v hz hv=>?_⟩
   cases i with
   |zero=>
    simp at hz;subst hz
    refine⟨_,by simp;rfl,?_⟩
    split
    ·exact hv
    ·cases ha:Nl ob x with
     |none=>exact hv
     |some y=>exact RJ HE h (fun n hn=>hag n (by simp only[kB,List.mem_append];exact .inl hn)) ha hv
   |succ i=>simpa using h4 i z v (by simpa using hz) hv
  ·cases hs
theorem Kz{α:Type}:∀(ks:List Nat)(xs:List α)(f:Nat→Option α),ks.Nodup→ks.length=xs.length→∀(i n:Nat),ks[i]?=some n→aL f (ks.zip xs) n=xs[i]?
 | [],_,_,_,_,i,n,h=>by simp at h
 |k::ks,[],_,_,hl,_,_,_=>by simp at hl
 |k::ks,x::xs,f,hnd,hl,i,n,h=>by
  simp only[List.zip_cons_cons]
  show aL (bp f k (some x)) (ks.zip xs) n=_
  rw[List.nodup_cons]at hnd
  cases i with
  |zero=>
   simp at h;subst h
   rw[cm,af]
   ·simp
   ·intro hc
    simp only[List.mem_map]at hc
    obtain⟨p,hp,e⟩:=hc
    exact hnd.1 (e▸(List.of_mem_zip hp).1)
  |succ i=>
   rw[Kz ks xs _ hnd.2 (by simpa using hl) i n (by simpa using h)]
   simp
theorem UF{α:Type}(ks:List Nat)(xs:List α):∀n∈(ks.zip xs).map (·.1),n∈ks:=by
 intro n hn
 simp only[List.mem_map]at hn
 obtain⟨p,hp,e⟩:=hn
 exact e▸(List.of_mem_zip hp).1
theorem Ac{α:Type}(base:Nat):∀(l:List α)(k:Nat)(g:Nat→Option α)(h:α→α),∀n,aL g ((l.zipIdx k).map fun p=>(base+p.2,h p.1)) n=if base+k≤n∧n<base+k+l.length then(l[n-(base+k)]?).map h else g n
 | [],k,g,h,n=>by simp[aL];omega
 |x::r,k,g,h,n=>by
  simp only[List.zipIdx_cons,List.map_cons,List.length_cons]
  show aL (bp g (base+k) (some (h x))) _ n=_
  rw[Ac base r (k+1) _ h n]
  by_cases h1:base+(k+1)≤n∧n<base+(k+1)+r.length
  ·rw[if_pos h1,if_pos (by omega),show n-(base+k)=(n-(base+(k+1)))+1 by omega]
   simp
  ·rw[if_neg h1]
   by_cases h2:n=base+k
   ·subst h2
    rw[af,if_pos (by omega)];simp
   ·rw[aq _ _ h2,if_neg (by omega)]
theorem Yn(hE:eg E)(hf:Ab E){f:Operand}{args:Array Operand}{ts:Array TypeId}{g:FuncId}{cap:List (TV S)}(ho:o.op = .call {callee := .value f,args,argTypes:=ts})(hg:ev t f = .fn g cap)(h:Kp E ob base g (args.toList.map (ev t)++cap) k=some r):∃ef,k ef=some r∧cX E o t ob base ef:=by
 unfold Kp at h
 split at h
 ·cases h
 ·rename_i args' hshare
  simp only at h
  split at h
  ·rename_i hclosed
   obtain⟨res,hres,⟨fn,hfn,hname,hbody⟩,hcall⟩:=hf _ _ _ _ _ _ h
   split at hres
   ·rename_i hxs
    refine⟨_,hres,?_⟩
    generalize hks:reach ob 400 (kB args') []=ks at *
    have hnd:ks.Nodup:=by rw[← hks];exact xy ob 400 _ _ (by simp)
    have hrd1:∀(rest:List Nat),∀n∈ks,n∈rest++ks:=fun rest n hn=>by simp[hn]
    refine⟨by simp,fun p hp=>?_,fun n h1 h2=>?_,?_⟩
    ·simp only[List.mem_append]at hp
     rcases hp with hp|hp
     ·right
      have hpk:p.1∈ks:=by
       cases hx:res.xs with
       |none=>rw[hx]at hp;simp[CA]at hp
       |some xs=>rw[hx]at hp;exact(List.of_mem_zip hp).1
      obtain⟨x,hx,_⟩:=xz hclosed hpk
      exact⟨hrd1 _ _ hpk,by rw[hx];simp⟩
     ·left
      simp only[List.mem_map]at hp
      obtain⟨q,hq,rfl⟩:=hp
      have:=List.mem_zipIdx hq
      simp only;omega
    ·simp only at h2
     simp only[List.map_append,List.mem_append,List.map_map,List.mem_map,Function.comp_apply]
     right
     refine⟨(res.ns[n-base]'(by omega),n-base),?_,by simp only;omega⟩
     rw[List.mem_iff_getElem?]
     exact⟨n-base,by rw[List.getElem?_zipIdx,List.getElem?_eq_getElem (by omega)];simp⟩
    ·intro B nt t' ob' a w φ M Q hd hev hrd hfr hB hrel
     -- agreement
     have hagA:∀n∈kB (args.toList.map (ev t)++cap),ob' n=ob n:=fun n hn=>hrd n (by simp[hn])
     have hagK:∀n∈ks,ob' n=ob n:=fun n hn=>hrd n (by simp[hn])
     have hclosed':fR ob' ks (kB args')=true:=by
      simp only[fR,Bool.and_eq_true,List.all_eq_true]at hclosed ⊢
      exact⟨hclosed.1,fun n hn=>by rw[hagK n hn];exact hclosed.2 n hn⟩
     -- the model's call
     have vf:VR E φ M (ev t f) (a.eval f):=hev f (by rw[ho];simp[Op.operands,Call.operands])
     rw[hg]at vf
     obtain⟨cvs,ef,hcl,hcv⟩:=vf.fn_inv
     have vargs:∀x∈args.toList,VR E φ M (ev t x) (a.eval x):=fun x hx=>hev x (by rw[ho];simp[Op.operands,Call.operands];exact .inr (by simpa using hx))
     let vals:Array Value:=args.map a.eval++cvs
     have hrun:(execOp a.eval o).run E.P w = .ok (.enter g vals) w:=by
      obtain⟨dst,op',ty',pos,after,guard⟩:=o
      subst ho
      simp only[execOp,resolve,ef]
      rw[run_bind]
      show(match Sem.run E.P (Deferred.ofValue (.func (.func g) #[] cvs) (args.map a.eval)) w with | .ok d w'=>_ | .halt h w'=>Result.halt h w')=_
      simp only[Deferred.ofValue,run_pure,invoke,callFunc]
      rw[run_bind]
      show Sem.run E.P (match E.P.funcs[g]? with|none=>_|some fn=>_) w=_
      rw[hfn]
      simp only[hname,Bool.false_eq_true,if_false,hbody,run_pure]
      simp[vals]
     rw[hrun]
     show Calls E.P g vals w _
     -- what comes in
     have hVR:(args.toList.map (ev t)++cap).length=vals.size∧∀(i:Nat)(x:TV S)(v:Value),(args.toList.map (ev t)++cap)[i]?=some x→vals[i]?=some v→VR E φ M x v:=by
      refine⟨by simp[vals,hcl],fun i x v hx hv=>?_⟩
      by_cases hi:i<args.size
      ·rw[List.getElem?_append_left (by simpa using hi)]at hx
       simp only[vals]at hv
       rw[Array.getElem?_append_left (by simpa using hi)]at hv
       simp[hi]at hx hv
       subst hx;subst hv
       exact vargs _ (by simp)
      ·rw[List.getElem?_append_right (by simp;omega)]at hx
       simp only[vals]at hv
       rw[Array.getElem?_append_right (by simp;omega)]at hv
       simp at hx hv
       exact hcv _ x v hx hv
     obtain⟨hsl,hsv⟩:=Pq hE.toEncOk (f:=g) hrel.mem _ 0 args' hagA hshare
     let own:Nat→Prop:=fun b=>∃n x fr,n∈ks∧ob' n=some x∧bL φ n x b fr
     let φc:Phi:=fun(i:Nat)=>(ks[i]?).bind φ
     let Bc:fE:=⟨w,own,M,φc,ks.length⟩
     have hstart:bh E Bc (fun(i:Nat)=>(ks[i]?).map fun n=>dJ (fun n=>ks.idxOf n) ((ob' n).getD .gone)) w φc M:=
      hrel.mem.tidy hnd hclosed' ⟨rfl,rfl,rfl,Nat.le_refl _,fun _ _ _=>rfl,Mem.le_refl _,fun b off hd=>absurd rfl hd,Nat.le_refl _⟩
       (fun i n x b fr hi hx hc => .inr ⟨n,x,fr,List.mem_of_getElem? hi,hx,hc⟩) (fun i _=>rfl)
     have hobjs:(fun(i:Nat)=>(ks[i]?).map fun n=>dJ (fun n=>ks.idxOf n) ((ob' n).getD .gone))=fun(i:Nat)=>(ks.map fun n=>dJ (fun n=>ks.idxOf n) ((ob n).getD .gone))[i]?:=by
      funext i
      rw[List.getElem?_map]
      cases hk:ks[i]? with
      |none=>rfl
      |some n=>simp only[Option.map_some];rw[hagK n (List.mem_of_getElem? hk)]
     rw[hobjs]at hstart
     refine(hcall Bc vals (by simp[Bc]) (by rw[sW,hsl];exact hVR.1) (fun i tv v h1 h2=>?_) hstart).mono ?_
     ·rw[zo]at h1
      obtain⟨y,hy,rfl⟩:=Option.map_eq_some_iff.1 h1
      have hi:i<(args.toList.map (ev t)++cap).length:=by rw[← hsl];exact(List.getElem?_eq_some_iff.1 hy).1
      obtain⟨x,hx⟩:∃x,(args.toList.map (ev t)++cap)[i]?=some x:=⟨_,List.getElem?_eq_getElem hi⟩
      obtain⟨y',hy',hv'⟩:=hsv i x v hx (hVR.2 i x v hx h2)
      rw[hy]at hy';cases hy'
      refine hv'.ren fun n hn g' hg'=>?_
      show(ks[ks.idxOf n]?).bind φ=some g'
      rw[Gr (Aa hclosed (rI hy hn))];exact hg'
     ·rintro e w' ⟨v,φ2,M2,rfl,hv,hW⟩
      -- the objects,as they are now,by the caller's names
      generalize hobj0:(ks.map fun n=>dJ (fun n=>ks.idxOf n) ((ob n).getD .gone))=objs at *
      have hol:objs.length=ks.length:=by rw[← hobj0];simp
      let fx:List (Obj S):=res.xs.getD objs
      have hfl:fx.length=ks.length:=by
       simp only[fx]
       cases hx:res.xs with
       |none=>exact hol
       |some xs=>rw[hx]at hxs;simpa[ZQ] using hxs
      let bk:=tM ks base
      let φ':Phi:=fun n=>if base≤n∧n<base+res.ns.length then φ2 (ks.length+(n-base)) else if n∈ks then φ2 (ks.idxOf n) else φ n
      have hnew:∀n,base≤n→n<base+res.ns.length→ob' n=none:=fun n h1 h2=>hfr n h1 h2
      have hksnew:∀n∈ks,¬(base≤n∧n<base+res.ns.length):=by
       rintro n hn ⟨h1,h2⟩
       obtain⟨x,hx,_⟩:=xz hclosed' hn
       rw[hnew n h1 h2]at hx;cases hx
      have hφks:∀(i n:Nat),ks[i]?=some n→φ' n=φ2 i∧(φ2 i).map GI.strip=(φ n).map GI.strip:=by
       intro i n hi
       have hmem:=List.mem_of_getElem? hi
       refine⟨(if_neg (hksnew n hmem)).trans ((if_pos hmem).trans (by rw[Nv hnd hi])),?_⟩
       rw[hW.ext i (List.getElem?_eq_some_iff.1 hi).1]
       show((ks[i]?).bind φ).map GI.strip=_
       rw[hi];rfl
      have hback:∀j g',φ2 j=some g'→φ' (bk j)=some g':=by
       intro j g' hj
       show φ' (tM ks base j)=_
       unfold tM
       cases hk:ks[j]? with
       |some n=>
        simp only
        obtain⟨h1,h2⟩:=hφks j n hk
        rw[h1];exact hj
       |none=>
        simp only
        have hge:ks.length≤j:=List.getElem?_eq_none_iff.1 hk
        have hlt:j-ks.length<res.ns.length:=by
         rcases Nat.lt_or_ge (j-ks.length) res.ns.length with h' | h'
         ·exact h'
         ·have:=hW.fresh j (by
           show(fx++res.ns)[j]?=none
           rw[List.getElem?_eq_none_iff,List.length_append];omega)
          rw[hj]at this;cases this
        show(if _ then _ else _)=_
        rw[if_pos (by omega)]
        rw[show ks.length+(base+(j-ks.length)-base)=j by omega];exact hj
      have hφle:φ.le φ':=by
       intro n g' hn
       by_cases hr:base≤n∧n<base+res.ns.length
       ·rw[hrel.mem.fresh n (hnew n hr.1 hr.2)]at hn;cases hn
       ·by_cases hk:n∈ks
        ·obtain⟨i,hi⟩:=List.mem_iff_getElem?.1 hk
         obtain⟨h1,h2⟩:=hφks i n hi
         rw[hn]at h2
         obtain⟨g2,h3,h4⟩:=Option.map_eq_some_iff.1 h2
         exact⟨g2.F,by rw[h1,h3];exact congrArg some (GI.strip_eq h4)⟩
        ·exact⟨g'.F,(if_neg hr).trans ((if_neg hk).trans hn)⟩
      let wr:List (Nat×Obj S):=CA ks base res.xs++(res.ns.zipIdx.map fun p=>(base+p.2,dJ bk p.1))
      have hwrK:∀(i n:Nat),ks[i]?=some n→∃y,fx[i]?=some y∧aL ob' wr n=some (dJ bk y):=by
       intro i n hi
       obtain⟨y,hy⟩:∃y,fx[i]?=some y:=⟨_,List.getElem?_eq_getElem (by rw[hfl];exact(List.getElem?_eq_some_iff.1 hi).1)⟩
       refine⟨y,hy,?_⟩
       have hnn:=hksnew n (List.mem_of_getElem? hi)
       simp only[wr,cZ]
       rw[Ac base res.ns 0 _ (dJ bk) n,if_neg (by simpa using hnn)]
       cases hx:res.xs with
       |some xs=>
        simp only[fx,hx,Option.getD_some]at hy hfl
        simp only[CA]
        rw[Kz ks _ ob' hnd (by simp[hfl]) i n hi,List.getElem?_map,hy];rfl
       |none=>
        simp only[fx,hx,Option.getD_none]at hy
        simp only[CA,aL]
        rw[← hobj0,List.getElem?_map,hi]at hy
        simp only[Option.map_some,Option.some.injEq]at hy
        obtain⟨x,hx',hm⟩:=xz hclosed' (List.mem_of_getElem? hi)
        rw[← hagK n (List.mem_of_getElem? hi),hx']at hy
        simp only[Option.getD_some]at hy
        rw[hx',← hy]
        congr 1
        symm
        refine LC x fun m hmx=>?_
        show tM ks base (ks.idxOf m)=m
        unfold tM
        rw[Gr (hm m hmx)]
      have hwrN:∀n,base≤n→n<base+res.ns.length→aL ob' wr n=(res.ns[n-base]?).map (dJ bk):=by
       intro n h1 h2
       simp only[wr,cZ]
       rw[Ac base res.ns 0 _ (dJ bk) n,if_pos (by omega)];simp
      have hwrO:∀n,¬(n∈ks∨(base≤n∧n<base+res.ns.length))→aL ob' wr n=ob' n:=by
       intro n hn
       simp only[wr,cZ]
       rw[Ac base res.ns 0 _ (dJ bk) n,if_neg (by simp;omega)]
       refine cm _ _ fun hc=>?_
       cases hx:res.xs with
       |none=>rw[hx]at hc;simp[CA]at hc
       |some xs=>rw[hx]at hc;exact hn (.inl (UF _ _ n hc))
      -- by whichever name: the callee's index
      have hidx:∀n x,(n∈ks∨(base≤n∧n<base+res.ns.length))→aL ob' wr n=some x→∃i y,(fx++res.ns)[i]?=some y∧x=dJ bk y∧bk i=n∧φ' n=φ2 i:=by
       intro n x hn hx
       rcases hn with hn|⟨h1,h2⟩
       ·obtain⟨i,hi⟩:=List.mem_iff_getElem?.1 hn
        obtain⟨y,hy,hs⟩:=hwrK i n hi
        rw[hx]at hs;cases hs
        refine⟨i,y,by rw[List.getElem?_append_left (List.getElem?_eq_some_iff.1 hy).1];exact hy,rfl,?_,?_⟩
        ·show tM ks base i=n
         unfold tM;rw[hi]
        ·exact(hφks i n hi).1
       ·rw[hwrN n h1 h2]at hx
        obtain⟨y,hy,rfl⟩:=Option.map_eq_some_iff.1 hx
        refine⟨ks.length+(n-base),y,?_,rfl,?_,if_pos ⟨h1,h2⟩⟩
        ·rw[List.getElem?_append_right (by omega)]
         rw[← hy];congr 1;omega
        ·show tM ks base _=n
         unfold tM
         rw[List.getElem?_eq_none_iff.2 (by omega)]
         simp only;omega
      have hWnew:bh E B (aL ob' wr) w' φ' M2:=by
       refine hrel.mem.step2 hE.toEncOk (fun n=>n∈ks∨(base≤n∧n<base+res.ns.length)) own hφle hW.mle hW.size hW.os hW.tape hW.output (fun b hb hn=>hW.kept b hb hn) ?_ ?_ ?_ ?_ ?_ ?_ ?_ ?_ ?_ hW.drawn
       ·rintro b ⟨n,x,fr,hn,hx,hc⟩
        refine⟨n,x,fr,.inl hn,hx,hc,fun off hoff=>?_⟩
        -- the cells below are those of a row that does not change
        have hcell:∃u,M b off=some u:=by
         cases x with
         |gone=>exact absurd hc cz
         |deep c xs=>have:=hc.choose_spec.2.2;omega
         |box cs=>
          obtain⟨g',hg',_⟩:=hrel.mem.objs n _ hx
          have:=(KE hg' _ _ hc).2;omega
         |row c xs mm=>
          obtain⟨g',hg',hL,hs,_,hr⟩:=hrel.mem.objs n _ hx
          cases mm with
          |ro=>exact absurd hc kW
          |own=>have:=(KF hg' _ _ hc).2;omega
          |app=>
           obtain⟨rfl,rfl⟩:=KG hg' _ _ hc
           rw[hL,hs]at hoff
           obtain⟨i,y,j,tv,p1,p2,p3⟩:=Ml hE.toEncOk hoff
           obtain⟨u,hu,_⟩:=hr.2.1 i y j tv p1 p2
           exact⟨u,by rw[p3,← hs];exact hu⟩
        obtain⟨u,hu⟩:=hcell
        rw[hW.mval b off u (hW.mle b off u hu),hrel.mem.mval b off u hu]
       ·intro b off hne
        exact(hW.mnew b off hne).symm
       ·intro b off v h1 _
        exact hW.mval b off v h1
       ·intro n hn
        exact⟨hwrO n hn,(if_neg fun hc=>hn (.inr hc)).trans (if_neg fun hc=>hn (.inl hc))⟩
       ·intro n x hn hx
        obtain⟨i,y,hi,rfl,hb,hp⟩:=hidx n x hn hx
        exact(hW.objs i y hi).ren (fun g' hg'=>by rw[hp];exact hg') (fun m _ g' hg'=>hback m g' hg')
       ·intro n hn hx
        rcases hn with hn|⟨h1,h2⟩
        ·obtain⟨i,hi⟩:=List.mem_iff_getElem?.1 hn
         obtain⟨y,_,hs⟩:=hwrK i n hi
         rw[hx]at hs;cases hs
        ·rw[hwrN n h1 h2,List.getElem?_eq_getElem (by omega)]at hx;cases hx
       ·intro n x b fr hn hx hc
        obtain⟨i,y,hi,rfl,hb,hp⟩:=hidx n x hn hx
        rw[pI hp]at hc
        refine⟨hW.csz i y b fr hi hc,?_,fun off hoff=>hW.mdis i y b fr off hi hc hoff⟩
        rcases hW.perm i y b fr hi hc with h1|⟨n',x',fr',h1,h2,h3⟩
        ·exact .inl h1
        ·exact .inr ⟨n',x',fr',.inl h1,h2,h3⟩
       ·intro n1 n2 x1 x2 b f1 f2 hn1 hn2 hx1 hx2 hc1 hc2
        obtain⟨i1,y1,hi1,rfl,hb1,hp1⟩:=hidx n1 x1 hn1 hx1
        obtain⟨i2,y2,hi2,rfl,hb2,hp2⟩:=hidx n2 x2 hn2 hx2
        rw[pI hp1]at hc1
        rw[pI hp2]at hc2
        have:=hW.sep i1 i2 y1 y2 b f1 f2 hi1 hi2 hc1 hc2
        rw[← hb1,← hb2,this]
       ·intro n hn
        have h0:¬(base≤n∧n<base+res.ns.length):=by omega
        by_cases hk:n∈ks
        ·obtain⟨i,hi⟩:=List.mem_iff_getElem?.1 hk
         obtain⟨h1,h2⟩:=hφks i n hi
         rw[h1];exact h2
        ·exact congrArg (Option.map GI.strip) ((if_neg h0).trans (if_neg hk))
      exact⟨φ',M2,hrel.put hd hφle hW.mle (hv.ren fun n _ g' hg'=>hback n g' hg') hWnew⟩
   ·cases hres
  ·cases h
end
end TE
