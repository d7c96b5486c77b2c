/- TE: literals of slices, make. -/
import Derived.Test.YtcllbmdpckfnhaaGreatTE12
import Derived.IntWalk
namespace TE
open Go
variable{S:Sig}{E:Env S}
theorem Gp{α β:Type}(f:α→List β)(s:Nat):∀(l:List α),(∀x∈l,(f x).length=s)→∀(i j:Nat)(x:α),l[i]?=some x→j<s→(l.flatMap f)[i*s+j]?=(f x)[j]?
 | [],_,i,j,x,h,_=>by simp at h
 |y::r,hl,i,j,x,h,hj=>by
  rw[List.flatMap_cons]
  have hy:=hl y (by simp)
  cases i with
  |zero=>
   simp at h;subst h
   rw[List.getElem?_append_left (by omega)];simp
  |succ i=>
   rw[List.getElem?_append_right (by rw[hy,Nat.succ_mul];omega),hy,show(i+1)*s+j-s=i*s+j by rw[Nat.succ_mul];omega]
   exact Gp f s r (fun x hx=>hl x (by simp[hx])) i j x (by simpa using h) hj
theorem Gq{α β:Type}(f:α→List β)(s:Nat):∀(l:List α),(∀x∈l,(f x).length=s)→(l.flatMap f).length=l.length*s
 | [],_=>by simp
 |y::r,hl=>by
  rw[List.flatMap_cons,List.length_append,hl y (by simp),Gq f s r (fun x hx=>hl x (by simp[hx])),List.length_cons,Nat.succ_mul];omega
theorem Hz(s:Nat):∀(qs:List (Nat×Value))(k:Nat)(cells:Array Value),qs.map (·.1)=List.range' k qs.length→(∀q∈qs,q.2.cells.size=s)→(k+qs.length)*s≤cells.size →
  ∃cells',Instr.fill (fun i=>some (i*s,s)) cells qs=some cells'∧cells'.size=cells.size ∧
   ∀p,cells'[p]?=if k*s≤p∧p<(k+qs.length)*s then(qs.flatMap (fun q=>q.2.cells.toList))[p-k*s]? else cells[p]?
 | [],k,cells,_,_,_=>⟨cells,rfl,rfl,fun p=>by simp;omega⟩
 |(j,v)::r,k,cells,hk,hs,hle=>by
  simp only[List.map_cons,List.length_cons,List.range'_succ,List.cons.injEq]at hk
  obtain⟨rfl,hk⟩:=hk
  have hv:v.cells.size=s:=hs (j,v) (by simp)
  simp only[List.length_cons]at hle
  have hmul:(j+1+r.length)*s=j*s+s+r.length*s:=by rw[Nat.add_mul,Nat.succ_mul]
  have hmul2:(j+(r.length+1))*s=(j+1+r.length)*s:=by congr 1;omega
  obtain⟨cells',h1,h2,h3⟩:=Hz s r (j+1) (v.cells.zipIdx.foldl (fun cs (c,i)=>cs.setIfInBounds (j*s+i) c) cells) hk (fun q hq=>hs q (by simp[hq])) (by
   have:(v.cells.zipIdx.foldl (fun cs (c,i)=>cs.setIfInBounds (j*s+i) c) cells).size=cells.size:=by
    have hfold:v.cells.zipIdx.foldl (fun cs (c,i)=>cs.setIfInBounds (j*s+i) c) cells=(v.cells.toList.zipIdx 0).foldl (fun cs (x:Value×Nat)=>cs.setIfInBounds (j*s+x.2) x.1) cells:=by
     rw[← Array.foldl_toList];simp
    rw[hfold,qH]
   rw[this];omega)
  have hfold:v.cells.zipIdx.foldl (fun cs (c,i)=>cs.setIfInBounds (j*s+i) c) cells=(v.cells.toList.zipIdx 0).foldl (fun cs (x:Value×Nat)=>cs.setIfInBounds (j*s+x.2) x.1) cells:=by
   rw[← Array.foldl_toList];simp
  refine⟨cells',?_,by rw[h2,hfold,qH],fun p=>?_⟩
  ·simp only[Instr.fill]
   rw[if_neg (by simp;omega)]
   exact h1
  ·rw[h3 p,hfold,wa (j*s) _ 0 cells (by simp;omega) p]
   simp only[Nat.add_zero,Array.length_toList,hv,List.length_cons,List.flatMap_cons]
   rw[hmul2]
   by_cases c1:(j+1)*s≤p∧p<(j+1+r.length)*s
   ·rw[Nat.succ_mul]at c1
    rw[if_pos (by rw[Nat.succ_mul];omega),if_pos (by omega),List.getElem?_append_right (by simp;omega)]
    congr 1
    simp only[Array.length_toList,hv,Nat.succ_mul];omega
   ·rw[Nat.succ_mul]at c1
    rw[if_neg (by rw[Nat.succ_mul];omega)]
    by_cases c2:j*s≤p∧p<j*s+s
    ·rw[if_pos c2,if_pos (by omega),List.getElem?_append_left (by simp;omega)]
    ·rw[if_neg c2,if_neg (by omega)]
section
variable{R:Type}{k:Eff S→Option R}{r:R}{t:Nat→TV S}{ob:Nat→Option (Obj S)}{base:Nat}{o:Oper}
theorem LB(hE:eg E){ty e:TypeId}{n:Nat}{ps:Array (Nat×Operand)}{c:S.K}{xs:List (S.El c)}{m:RM}(ho:o.op = .buildSlice ty n ps)(hu:E.P.underlying ty=some (.slice e))(hc:E.code e=some c)(hps:ps.toList.map (·.1)=List.range n)(hn:n≤1000)(hxs:(ps.toList.map fun p=>ev t p.2).mapM (elem E ob c)=some xs):
  cX E o t ob base ⟨.slw base,(ps.toList.map fun p=>ev t p.2).flatMap (fun v=>(cellsOf v).flatMap aG),
   eJ ob ((ps.toList.map fun p=>ev t p.2).flatMap (fun v=>(cellsOf v).flatMap aG))++[(base,.row c xs m)],base+1⟩:=by
 obtain⟨i,hi,hsz,hb,z,hz,hzs⟩:=hE.size e c hc
 refine⟨by simp,fun p hp=>?_,fun n h1 h2=>?_,?_⟩
 ·simp only[List.mem_append,List.mem_singleton]at hp
  rcases hp with hp|rfl
  ·obtain⟨h1,c',xs',_,h2⟩:=cL hp
   exact .inr ⟨h1,by simp[h2]⟩
  ·exact .inl ⟨Nat.le_refl _,Nat.lt_succ_self _⟩
 ·simp only at h2;simp;right;omega
 ·intro B nt t' ob' a w φ M Q hd hev hrd hfr hB hrel
  have hag:∀n∈(ps.toList.map fun p=>ev t p.2).flatMap (fun v=>(cellsOf v).flatMap aG),ob' n=ob n:=hrd
  obtain⟨M1,hM1,hW1⟩:=hrel.mem.freezeList hE.toEncOk (eJ ob ((ps.toList.map fun p=>ev t p.2).flatMap (fun v=>(cellsOf v).flatMap aG))) _ M (fun p hp=>by
   obtain⟨h1,c',xs',h2,h3⟩:=cL hp
   exact⟨c',xs',h2,.inl (by rw[hag _ h1];exact h3)⟩) (fun p hp q hq e=>xx p hp q hq e)
  have hv':∀p∈ps.toList,VR E φ M (ev t p.2) (a.eval p.2):=fun p hp=>hev p.2 (by rw[ho];simp[Op.operands];exact⟨p.1,by simpa using hp⟩)
  have hlen:ps.toList.length=n:=by have:=congrArg List.length hps;simpa using this
  obtain⟨hml,hmg⟩:=Gm hxs
  have hxl:xs.length=n:=by rw[← hml];simp;exact hlen
  -- each part: its cells,and the element
  have part:∀(q:Nat)(p:Nat×Operand),ps.toList[q]?=some p→∃x,xs[q]?=some x∧(a.eval p.2).cells.size=E.sz c∧∀(j:Nat)(tv:TV S),(E.enc c x)[j]?=some tv→∃u,(a.eval p.2).cells.toList[j]?=some u∧CR E M1 tv u:=by
   intro q p hp
   have hpm:=List.mem_of_getElem? hp
   obtain⟨x,hx,hel⟩:=hmg q (ev t p.2) (by simp[hp])
   unfold elem at hel
   simp only[Option.bind_eq_some_iff]at hel
   obtain⟨cs',hcs',hdec⟩:=hel
   obtain⟨hl2,hg2⟩:=Gm hcs'
   have hnd:ev t p.2 ≠ .dead:=by
    intro hd'
    rw[hd']at hcs'
    simp[cellsOf,iy]at hcs'
   obtain⟨hcl,hcv⟩:=VR.cells hnd (hv' p hpm)
   have hsize:(cellsOf (ev t p.2)).length=E.sz c:=by rw[hl2];exact hE.decLen c cs' x hdec
   refine⟨x,hx,by omega,fun j tv hj=>?_⟩
   have hjl:j<E.sz c:=by rw[← hE.len c x];exact(List.getElem?_eq_some_iff.1 hj).1
   obtain⟨y,hy⟩:∃y,(cellsOf (ev t p.2))[j]?=some y:=⟨_,List.getElem?_eq_getElem (by omega)⟩
   obtain⟨y',hy',hpy⟩:=hg2 j y hy
   obtain⟨u,hu'⟩:∃u,(a.eval p.2).cells[j]?=some u:=⟨_,Array.getElem?_eq_getElem (by omega)⟩
   have hcr:CR E M1 y' u:=by
    refine uN hW1 hpy (fun nm' hnm' c' xs' m' hm'=>?_) hE.toEncOk ((hcv j y u hy hu').mono (Phi.le_refl _) hM1)
    have hmem:nm'∈(ps.toList.map fun p=>ev t p.2).flatMap (fun v=>(cellsOf v).flatMap aG):=
     List.mem_flatMap.2 ⟨ev t p.2,List.mem_map_of_mem hpm,List.mem_flatMap.2 ⟨y,List.mem_of_getElem? hy,hnm'⟩⟩
    exact xZ hmem hm' (hag _ hmem)
   obtain⟨tv',htv',hc'⟩:=hE.dec c cs' x M1 j y' u hdec hy' hcr
   rw[hj]at htv';cases htv'
   exact⟨u,by simpa using hu',hc'⟩
  let us:List Value:=ps.toList.flatMap fun p=>(a.eval p.2).cells.toList
  have hcl:∀p∈ps.toList,((a.eval p.2).cells.toList).length=E.sz c:=by
   intro p hp
   obtain⟨q,hq⟩:=List.mem_iff_getElem?.1 hp
   obtain⟨x,_,h2,_⟩:=part q p hq
   simpa using h2
  have husl:us.length=n*E.sz c:=by rw[← hlen];exact Gq _ _ _ hcl
  have hrow:Nt E M1 c xs us:=by
   intro q x j tv hq hj
   have hql:q<n:=by rw[← hxl];exact(List.getElem?_eq_some_iff.1 hq).1
   obtain⟨p,hp⟩:∃p,ps.toList[q]?=some p:=⟨_,List.getElem?_eq_getElem (by omega)⟩
   obtain⟨x',hx',_,h3⟩:=part q p hp
   rw[hq]at hx';cases hx'
   obtain⟨u,hu',hc'⟩:=h3 j tv hj
   have hjl:j<E.sz c:=by rw[← hE.len c x];exact(List.getElem?_eq_some_iff.1 hj).1
   exact⟨u,by rw[Gp _ _ _ hcl q j p hp hjl];exact hu',hc'⟩
  -- the model's run
  have hbig:¬n*i.size>2^24:=by
   have:=hE.szle c
   rw[hsz]
   have:n*E.sz c≤1000*2^11:=Nat.mul_le_mul hn this
   omega
  obtain⟨cells,hf1,hf2,hf3⟩:=Hz i.size (ps.toList.map fun p=>(p.1,a.eval p.2)) 0 ((Array.range (n*i.size)).map ((if n*i.size=0 then #[] else z.cells)[· % (if n*i.size=0 then #[] else z.cells).size]!)) (by
    rw[List.map_map,show((fun x:Nat×Value=>x.1)∘fun p:Nat×Operand=>(p.1,a.eval p.2))=fun p=>p.1 from rfl,hps]
    rw[List.length_map,hlen,List.range_eq_range']) (by
    intro q hq
    simp only[List.mem_map]at hq
    obtain⟨p,hp,rfl⟩:=hq
    have:=hcl p hp
    simp at this;rw[hsz];exact this) (by simp[hlen])
  have hpre:∀(p:Nat)(u:Value),us[p]?=some u→cells[p]?=some u:=by
   intro p u hpu
   have hlt:p<n*E.sz c:=by rw[← husl];exact(List.getElem?_eq_some_iff.1 hpu).1
   rw[hf3 p,if_pos (by simp[hlen,hsz];exact hlt)]
   rw[Nat.zero_mul,Nat.sub_zero,List.flatMap_map];exact hpu
  obtain⟨M2,hM2,hW2⟩:=hW1.newRow hE.toEncOk (m:=m) (e:=e) (vs:=cells) (us:=us) (xs:=xs) (by
    rw[cm _ _ ?_]
    ·exact hfr base (Nat.le_refl _) (Nat.lt_succ_self _)
    ·intro hc'
     simp only[List.mem_map]at hc'
     obtain⟨p,hp,e1⟩:=hc'
     obtain⟨h1,c',xs',_,h2⟩:=cL hp
     have h3:=hag _ h1
     rw[e1,hfr base (Nat.le_refl _) (Nat.lt_succ_self _)]at h3
     rw[e1,← h3]at h2;cases h2) hB (by rw[husl,hxl]) (by rw[husl,hf2];simp[hsz]) hpre hrow (fun _ _ he=>by rw[hf2];simp[show n=0 by rw[← hxl,he];rfl])
  have hn0:aL ob' (eJ ob ((ps.toList.map fun p=>ev t p.2).flatMap (fun v=>(cellsOf v).flatMap aG))) base=none:=by
   rw[cm _ _ ?_]
   ·exact hfr base (Nat.le_refl _) (Nat.lt_succ_self _)
   ·intro hc'
    simp only[List.mem_map]at hc'
    obtain⟨p,hp,e1⟩:=hc'
    obtain⟨h1,c',xs',_,h2⟩:=cL hp
    have h3:=hag _ h1
    rw[e1,hfr base (Nat.le_refl _) (Nat.lt_succ_self _)]at h3
    rw[e1,← h3]at h2;cases h2
  have hφ:=Nu hW1 hn0 (⟨w.heap.size,E.sz c,xs.length,cells.size,fun _=>false⟩:GI)
  have hrun:(Instr.buildSlice ty n (ps.map fun p=>(p.1,a.eval p.2))).run E.P w = .ok (.slice (some (at_ w.heap.size 0)) n n) (w.alloc (.cells cells e)):=by
   unfold Instr.buildSlice
   rw[run_bind,run_underlying ty w hu]
   simp only[]
   rw[run_bind,run_sizeOf e w hi]
   simp only[hbig,if_false]
   have:(ps.map fun p=>(p.1,a.eval p.2)).toList=ps.toList.map fun p=>(p.1,a.eval p.2):=by simp
   by_cases h0:n*i.size=0
   ·rw[if_pos h0]at hf1 ⊢
    simp only[run_bind,run_pure,this,hf1]
    rfl
   ·rw[if_neg h0]at hf1 ⊢
    simp only[run_bind,run_pure,ll e w hi hz,this,hf1]
    rfl
  obtain⟨dst,op',ty',pos,after,guard⟩:=o
  subst ho
  refine dK (bw hrun) ⟨_,M2,hrel.put hd hφ (hM1.le_trans hM2) ?_ (by rw[cZ,cx];exact hW2)⟩
  refine .slw (af _ _ _) ?_
  rw[show Value.slice (some (at_ w.heap.size 0)) n n=Value.slice (some (at_ w.heap.size 0)) xs.length xs.length by rw[hxl]]
  exact HW (E:=E) (c:=c) (Nat.le_refl _) (by rw[hf2];simp[hsz,hxl])
theorem HX{ty e:TypeId}{n:Nat}{ps:Array (Nat×Operand)}(hE:eg E)(ho:o.op = .buildSlice ty n ps)(hu:E.P.underlying ty=some (.slice e))(h:Gc E base e n (ps.toList.map (·.1)) (ps.toList.map fun p=>ev t p.2) k=some r):∃e',k e'=some r∧cX E o t ob base e':=by
 unfold Gc at h
 split at h
 ·rename_i ag s z ht hz
  split at h
  ·rename_i hc
   obtain⟨⟨hps,hn⟩,hal⟩:=hc
   obtain⟨i,d,hi,_,hs,_⟩:=uP ht
   obtain⟨i',zv,hi',hzv,_⟩:=Ey hz
   rw[hi]at hi';cases hi'
   refine⟨_,h,by simp,fun p hp=>?_,fun n h1 h2=>?_,?_⟩
   ·simp only[List.mem_singleton]at hp;subst hp;exact .inl ⟨Nat.le_refl _,Nat.lt_succ_self _⟩
   ·simp only at h2;simp;omega
   ·intro B nt t' ob' a w φ M Q hd hev hrd hfr hB hrel
    have hv':∀p∈ps.toList,VR E φ M (ev t p.2) (a.eval p.2):=fun p hp=>hev p.2 (by rw[ho];simp[Op.operands];exact⟨p.1,by simpa using hp⟩)
    have hlen:ps.toList.length=n:=by have:=congrArg List.length hps;simpa using this
    have hal':∀p∈ps.toList,(cellsOf (ev t p.2)).length=s∧(cellsOf (ev t p.2)).all bF=true:=by
     intro p hp
     have:=List.all_eq_true.1 hal (ev t p.2) (List.mem_map.2 ⟨p,hp,rfl⟩)
     simp only[Bool.and_eq_true,decide_eq_true_eq]at this
     exact this
    have hcell:∀p∈ps.toList,(cellsOf (ev t p.2)).length=(a.eval p.2).cells.size∧∀(j:Nat)(tv:TV S)(u:Value),(cellsOf (ev t p.2))[j]?=some tv→(a.eval p.2).cells[j]?=some u→VR E φ M tv u:=by
     intro p hp
     have hd':ev t p.2 ≠ .dead:=by intro e;have:=(hal' p hp).2;rw[e]at this;simp[cellsOf,bF]at this
     exact VR.cells hd' (hv' p hp)
    let us:List Value:=ps.toList.flatMap fun p=>(a.eval p.2).cells.toList
    have hcl:∀p∈ps.toList,((a.eval p.2).cells.toList).length=s:=by
     intro p hp
     have:=(hcell p hp).1
     rw[(hal' p hp).1]at this
     simp;omega
    have husl:us.length=n*s:=by rw[← hlen];exact Gq _ _ _ hcl
    obtain⟨cells,hf1,hf2,hf3⟩:=Hz i.size (ps.toList.map fun p=>(p.1,a.eval p.2)) 0 ((Array.range (n*i.size)).map ((if n*i.size=0 then #[] else zv.cells)[· % (if n*i.size=0 then #[] else zv.cells).size]!)) (by
      rw[List.map_map,show((fun x:Nat×Value=>x.1)∘fun p:Nat×Operand=>(p.1,a.eval p.2))=fun p=>p.1 from rfl,hps]
      rw[List.length_map,hlen,List.range_eq_range']) (by
      intro q hq
      simp only[List.mem_map]at hq
      obtain⟨p,hp,rfl⟩:=hq
      have:=hcl p hp
      simp at this;rw[hs];exact this) (by simp[hlen])
    have hsz:cells.size=n*s:=by rw[hf2];simp[hs]
    have hpre:∀p:Nat,p<n*s→cells[p]?=us[p]?:=by
     intro p hlt
     rw[hf3 p,if_pos (by simp[hlen,hs];exact hlt)]
     rw[Nat.zero_mul,Nat.sub_zero,List.flatMap_map]
    have hpair:UR E φ M ((ps.toList.map fun p=>ev t p.2).flatMap cellsOf) cells:=by
     have hl1:((ps.toList.map fun p=>ev t p.2).flatMap cellsOf).length=n*s:=by
      rw[List.flatMap_map,← hlen]
      exact Gq _ s _ (fun p hp=>(hal' p hp).1)
     refine⟨by rw[hl1,hsz],fun j tv v hj hv=>?_⟩
     have hjn:j<n*s:=by rw[← hl1];exact(List.getElem?_eq_some_iff.1 hj).1
     have hs0:0<s:=by
      rcases Nat.eq_zero_or_pos s with e|e
      ·rw[e]at hjn;simp at hjn
      ·exact e
     have hq:j/s<n:=by rw[Nat.div_lt_iff_lt_mul hs0];exact hjn
     have hr:j%s<s:=Nat.mod_lt _ hs0
     have hjq:j=j/s*s+j%s:=by rw[Nat.mul_comm];exact(Nat.div_add_mod j s).symm
     obtain⟨p,hp⟩:∃p,ps.toList[j/s]?=some p:=⟨_,List.getElem?_eq_getElem (by omega)⟩
     have g1:=Gp (fun p:Nat×Operand=>cellsOf (ev t p.2)) s ps.toList (fun p hp=>(hal' p hp).1) (j/s) (j%s) p hp hr
     have g2:=Gp (fun p:Nat×Operand=>(a.eval p.2).cells.toList) s ps.toList hcl (j/s) (j%s) p hp hr
     rw[← hjq]at g1 g2
     rw[List.flatMap_map,g1]at hj
     rw[hpre j hjn]at hv
     have hv2:us[j]?=(a.eval p.2).cells.toList[j%s]?:=g2
     rw[hv2]at hv
     exact(hcell p (List.mem_of_getElem? hp)).2 (j%s) tv v hj (by simpa using hv)
    have hbig:¬n*i.size>2^24:=by rw[hs];omega
    have hrun:(Instr.buildSlice ty n (ps.map fun p=>(p.1,a.eval p.2))).run E.P w = .ok (.slice (some (at_ w.heap.size 0)) n n) (w.alloc (.cells cells e)):=by
     unfold Instr.buildSlice
     rw[run_bind,run_underlying ty w hu]
     simp only[]
     rw[run_bind,run_sizeOf e w hi]
     simp only[hbig,if_false]
     have:(ps.map fun p=>(p.1,a.eval p.2)).toList=ps.toList.map fun p=>(p.1,a.eval p.2):=by simp
     by_cases h0:n*i.size=0
     ·rw[if_pos h0]at hf1 ⊢
      simp only[run_bind,run_pure,this,hf1]
      rfl
     ·rw[if_neg h0]at hf1 ⊢
      simp only[run_bind,run_pure,ll e w hi hzv,this,hf1]
      rfl
    obtain⟨dst,op',ty',pos,after,guard⟩:=o
    subst ho
    refine dK (bw hrun) ⟨bp φ base (some ⟨w.heap.size,s,n,n*s,fun _=>false⟩),M,?_⟩
    have hn:ob' base=none:=hfr base (Nat.le_refl _) (Nat.lt_succ_self _)
    have hle:φ.le (bp φ base (some ⟨w.heap.size,s,n,n*s,fun _=>false⟩)):=Phi.le_of <| by
     intro n' g' h'
     by_cases e:n'=base
     ·subst e;rw[hrel.mem.fresh n' hn]at h';cases h'
     ·rw[aq _ _ e];exact h'
    have hnone:∀off,M w.heap.size off=none:=by
     intro off
     cases hm:M w.heap.size off with
     |none=>rfl
     |some v=>have:=kF (hrel.mem.mval _ _ _ hm);omega
    have hw:=hrel.mem.new hE.toEncOk (x := .box ((ps.toList.map fun p=>ev t p.2).flatMap cellsOf)) (vs:=cells) (e:=e) (g:=⟨w.heap.size,s,n,n*s,fun _=>false⟩) hn hB rfl (Mem.le_refl M) (fun b off hd=>absurd rfl hd) (fun off v hv=>by rw[hnone off]at hv;cases hv)
     (fun b f off hc _=>by have:=xB (af φ base (some ⟨w.heap.size,s,n,n*s,fun _=>false⟩)) hc;rw[this];exact hnone off)
     ⟨_,af _ _ _,fun j tv hj=>by
      have hlt:j<cells.size:=by rw[← hpair.1];exact(List.getElem?_eq_some_iff.1 hj).1
      have hv:cells[j]?=some cells[j]:=Array.getElem?_eq_getElem hlt
      refine⟨cells[j],?_,?_,(hpair.2 j tv _ hj hv).mono hle (Mem.le_refl _)⟩
      ·simp only[at_,World.cell?_alloc_new];exact hv
      ·simp only[at_,World.frozen?_alloc_new]⟩
    refine hrel.put hd hle (Mem.le_refl _) ?_ hw
    exact .sl (af _ _ _) ⟨_,n,rfl,Nat.le_refl _,by simp,.inr ⟨by simp[at_],by simp⟩⟩
  ·cases h
 ·cases h
end
end TE
