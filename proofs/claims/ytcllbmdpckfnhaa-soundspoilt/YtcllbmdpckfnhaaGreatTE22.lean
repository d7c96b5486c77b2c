/- TE: a function's loops, one by one. -/
import Derived.Test.YtcllbmdpckfnhaaGreatTE19
import Derived.KernelRfl
namespace TE
open Go
variable{S:Sig}{E:Env S}
def uC:Code→Nat→List (Nat×Code)
 | .seq a b,cur=>uC a cur++uC b cur
 | .cond _ a b,cur=>uC a cur++uC b cur
 | .block id c,_=>uC c id
 | .loop c,cur=>(cur,c)::uC c cur
 |_,_=>[]
def BZ(ids:List Nat):Code→Nat→List (Nat×Code)
 | .seq a b,cur=>(match ou b with
  |some i=>bif ids.contains i then[(cur,b)] else[]
  |none=>[])++(BZ ids a cur++BZ ids b cur)
 | .cond _ a b,cur=>BZ ids a cur++BZ ids b cur
 | .block id c,_=>BZ ids c id
 | .loop c,cur=>BZ ids c cur
 |_,_=>[]
theorem Py{H:Hint S}{m nt N:Nat}(ids:List Nat)(hids:∀i,ids.contains i=false→H.cuts i=none):∀(c:Code)(cur:Nat),(∀p∈uC c cur,∀h L,H.loops p.1=some h→h.oracle=some L→∀(R:Type)(vals:List (TV S))(objs:List (Obj S))(K:Ex→List (TV S)→List (Obj S)→Option R)(r:R),L R vals objs K=some r →
   zn (fun vals objs k=>iL E H m nt N p.2 p.1 (uA h.live vals objs) k) (iz m h.live h.fix) (fun e=>iz m (h.out e).1 (h.out e).2) N vals objs K=some r) →
  (∀p∈BZ ids c cur,∀J L,cutAt H p.2=some J→J.oracle=some L→∀(R:Type)(vals:List (TV S))(objs:List (Obj S))(K:Ex→List (TV S)→List (Obj S)→Option R)(r:R),L R vals objs K=some r →
   iL E H m nt N p.2 p.1 (uA J.live vals objs) (Yk m J.out K)=some r)→sn E H m nt N c cur:=by
 intro c
 induction c with
 |seq a b iha ihb=>
  refine fun cur h hc=>⟨iha cur (fun p hp=>h p (List.mem_append_left _ hp)) fun p hp=>hc p (List.mem_append_right _ (List.mem_append_left _ hp)),ihb cur (fun p hp=>h p (List.mem_append_right _ hp)) fun p hp=>hc p (List.mem_append_right _ (List.mem_append_right _ hp)),fun J L h1 h2=>?_⟩
  refine hc (cur,b) (List.mem_append_left _ ?_) J L h1 h2
  have h1':=h1
  unfold cutAt at h1'
  split at h1'
  ·rename_i i hi
   cases hm:ids.contains i with
   |true=>
    rw[hi]
    show(cur,b)∈(bif ids.contains i then[(cur,b)] else[])
    rw[hm];exact List.mem_singleton.2 rfl
   |false=>rw[hids i hm]at h1';cases h1'
  ·cases h1'
 |cond c a b iha ihb=>exact fun cur h hc=>⟨iha cur (fun p hp=>h p (List.mem_append_left _ hp)) fun p hp=>hc p (List.mem_append_left _ hp),ihb cur (fun p hp=>h p (List.mem_append_right _ hp)) fun p hp=>hc p (List.mem_append_right _ hp)⟩
 |block id c ih=>exact fun cur h hc=>ih id h hc
 |loop c ih=>exact fun cur h hc=>⟨ih cur (fun p hp=>h p (List.mem_cons_of_mem _ hp)) hc,fun hh L h1 h2=>h (cur,c) (List.mem_cons_self ..) hh L h1 h2⟩
 |_=>exact fun _ _ _=>trivial
open Classical in
noncomputable def KH{R:Type}(objs:List (Obj S))(k:Res S→Option R)(res:Res S):Option R:=if res.xs=some objs then k ⟨res.v,none,res.ns⟩ else none
theorem UJ{R:Type}(objs:List (Obj S))(k:Res S→Option R)(v:TV S)(ns:List (Obj S)):KH objs k ⟨v,some objs,ns⟩=k ⟨v,none,ns⟩:=if_pos rfl
theorem WY{R:Type}{f:FuncId}{args:List (TV S)}{objs:List (Obj S)}{k:Res S→Option R}{r:R}{res:Res S}(h:KH objs k res=some r)(hc:qD E f args objs res):∃res',k res'=some r∧qD E f args objs res':=by
 unfold KH at h
 split at h
 ·rename_i hx
  obtain⟨v,xs,ns⟩:=res
  simp only at hx
  subst hx
  exact⟨_,h,hc⟩
 ·cases h
end TE
