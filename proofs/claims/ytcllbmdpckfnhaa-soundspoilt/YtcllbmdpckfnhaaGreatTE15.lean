/- TE: every operation. -/
import Derived.Test.YtcllbmdpckfnhaaGreatTEM
import Derived.Test.YtcllbmdpckfnhaaGreatTEY
import Derived.Laws.BytesString
namespace TE
open Go
variable{S:Sig}{E:Env S}
theorem WO{args:Array Operand}{t:Nat→TV S}{x:TV S}(h:args.toList.map (ev t)=[x]):∃y,args.toList=[y]∧ev t y=x:=by
 cases hl:args.toList with
 |nil=>rw[hl]at h;cases h
 |cons y r=>
  rw[hl]at h
  cases r with
  |nil=>simp at h;exact⟨y,rfl,h⟩
  |cons z r=>simp at h
theorem WQ{args:Array Operand}{t:Nat→TV S}{x y:TV S}(h:args.toList.map (ev t)=[x,y]):∃p q,args.toList=[p,q]∧ev t p=x∧ev t q=y:=by
 cases hl:args.toList with
 |nil=>rw[hl]at h;cases h
 |cons p r=>
  rw[hl]at h
  cases r with
  |nil=>simp at h
  |cons q r=>
   cases r with
   |nil=>simp at h;exact⟨p,q,rfl,h.1,h.2⟩
   |cons z r=>simp at h
theorem Mo{args:Array Operand}{t:Nat→TV S}{x:TV S}{r:List (TV S)}(h:args.toList.map (ev t)=x::r):∃p q,args.toList=p::q∧ev t p=x∧q.map (ev t)=r:=by
 cases hl:args.toList with
 |nil=>rw[hl]at h;cases h
 |cons p q=>rw[hl]at h;simp at h;exact⟨p,q,rfl,h.1,h.2⟩
theorem WR(hE:eg E)(hf:Ab E){R:Type}{H:Hint S}{o:Oper}{t:Nat→TV S}{ob:Nat→Option (Obj S)}{base:Nat}{k:Eff S→Option R}{r:R}(h:No E H o t ob base k=some r):
  ∃e,k e=some r∧cX E o t ob base e:=by
 unfold No Pf Pj WE Pg Dw Kt Pn Kr Ks Pk Gf Pl Gg Ti HV Tg HU Th Pm Ph Tj at h
 simp only at h
 split at h
 ·rename_i x ho;exact⟨_,h,Tr (.inl ho)⟩
 ·rename_i x ho;exact⟨_,h,Tr (.inr ho)⟩
 ·rename_i c x y ho
  split at h
  ·rename_i q hc
   split at h
   ·rename_i p s hx hy;exact⟨_,h,Yp ho hc hx hy⟩
   ·split at h
    ·rename_i s hs;exact⟨_,h,KL ho hc hs⟩
    ·cases h
  ·cases h
 ·rename_i e ho
  split at h
  ·rename_i z hz;exact⟨_,h,WK hE ho hz⟩
  ·cases h
 ·rename_i e v ho
  split at h
  ·rename_i hal;exact⟨_,h,Zh hE ho hal⟩
  ·cases h
 ·rename_i ty ps ho
  split at h
  ·rename_i z pl hz hpl
   split at h
   ·rename_i hal
    split at h
    ·rename_i cs hcs
     refine⟨_,h,Xc ho hz hpl hcs fun p hp c hc=>?_⟩
     have:=List.all_eq_true.1 hal p hp
     exact List.all_eq_true.1 this c hc
    ·cases h
   ·cases h
  ·cases h
 ·rename_i ty a ho
  split at h
  ·rename_i ag n nm i k' ht hx
   split at h
   ·rename_i cs hob
    split at h
    ·rename_i hi
     split at h
     ·split at h
      ·rename_i v hv
       refine⟨_,h,Gw ho ht hv fun B ob' w φ M u hag hm hu=>?_⟩
       rw[hx]at hu
       exact Ew hm (by rw[hag nm (by simp)];exact hob) hi hu
      ·cases h
     ·rename_i hagg
      obtain rfl:ag=false:=by simpa using hagg
      obtain⟨v,hv,h⟩:=RU h
      refine⟨_,h,Gw ho ht (show bY false n k' cs=some v from hv) fun B ob' w φ M u hag hm hu=>?_⟩
      rw[hx]at hu
      exact Ew hm (by rw[hag nm (by simp)];exact hob) hi hu
    ·cases h
   ·rename_i c xs m hob
    split at h
    ·rename_i z hz
     split at h
     ·rename_i v hv
      refine⟨_,h,Gw ho ht hv fun B ob' w φ M u hag hm hu=>?_⟩
      rw[hx]at hu
      exact KM hm (by rw[hag nm (by simp)];exact hob) hz hu
     ·cases h
    ·cases h
   ·rename_i c d hob
    exact PG hE ho ht hx hob h
   ·cases h
  ·rename_i ag n c x k' ht hx
   split at h
   ·rename_i v hv
    refine⟨_,h,Gw ho ht hv fun B ob' w φ M u hag hm hu=>?_⟩
    rw[hx]at hu
    exact Ig hm hu
   ·cases h
  ·cases h
 ·rename_i ty a v ho
  split at h
  ·rename_i ag n nm i k' ht hx
   split at h
   ·rename_i hc
    split at h
    ·rename_i old hob
     split at h
     ·rename_i hk
      obtain⟨rfl,hk⟩:=hk
      exact⟨_,h,Nr hE ho ht hx hob hc.1 hc.2 hk⟩
     ·cases h
    ·rename_i c xs hob
     split at h
     ·rename_i z hz
      split at h
      ·rename_i cs' hcs
       split at h
       ·rename_i hk
        split at h
        ·rename_i z' hz'
         exact⟨_,h,Ns hE ho ht hx hob hz hcs hz' (by have:=hk.2;intro hc2;rw[List.contains_iff_mem.2 hc2]at this;cases this) hc.1 hc.2 hk.1⟩
        ·cases h
       ·cases h
      ·cases h
     ·cases h
    ·rename_i c d hob
     split at h
     ·rename_i hk
      obtain⟨rfl,hk⟩:=hk
      exact NG hE ho ht hx hob hc.1 hc.2 h
     ·cases h
    ·cases h
   ·cases h
  ·cases h
 ·rename_i x ho
  split at h
  ·rename_i nm i j hx
   have:=Ic (E:=E) (t:=t) (ob:=ob) (base:=base) ho (.inl ⟨_,_,_,hx⟩)
   rw[hx]at this
   exact⟨_,h,this⟩
  ·rename_i c y j hx
   have:=Ic (E:=E) (t:=t) (ob:=ob) (base:=base) ho (.inr ⟨_,_,_,hx⟩)
   rw[hx]at this
   exact⟨_,h,this⟩
  ·cases h
 ·rename_i op xt x y yt ho
  exact Xa ho h
 ·rename_i op xt x ho
  split at h
  ·rename_i v hv;exact⟨_,h,Yq ho hv⟩
  ·cases h
 ·rename_i a b x ho
  split at h
  ·rename_i v hv;exact⟨_,h,RS ho hv⟩
  ·cases h
 ·rename_i st x f ho
  split at h
  ·rename_i off ft nm i j hf' hx
   exact⟨_,h,Gv ho hf' (.inl ⟨_,_,_,hx,rfl⟩)⟩
  ·rename_i off ft c y j hf' hx
   exact⟨_,h,Gv ho hf' (.inr ⟨_,_,_,hx,rfl⟩)⟩
  ·cases h
 ·rename_i st x f ho
  split at h
  ·rename_i off ft cs hf' hx
   split at h
   ·rename_i ag n ht
    split at h
    ·rename_i v hv;exact⟨_,h,Xb ho hf' hx ht hv⟩
    ·cases h
   ·cases h
  ·cases h
 ·rename_i ty x i ho
  split at h
  ·rename_i e q n hu hi
   split at h
   ·rename_i hso
    split at h
    ·rename_i nm hx
     split at h
     ·rename_i c xs m hob
      split at h
      ·rename_i hb
       obtain⟨c',xs',m',inf,h1,h2,h3⟩:=xA hE hso (.inl hx)
       rw[hob]at h1;injection h1 with h1;injection h1 with e1 e2 e3
       subst e1
       have:=rJ (t:=t) (ob:=ob) (base:=base) (off:=0) (len:=xs.length) (rd:=[nm]) hE ho hu h2 h3 hi hb.1 hb.2 (fun B ob' w φ M u hag hm hu'=>by
        rw[hx]at hu'
        obtain⟨g,hg,hs⟩:=hu'.slw_inv
        obtain⟨g',hg',hL,hs',_⟩:=hm.objs nm _ (by rw[hag nm (by simp)];exact hob)
        rw[hg]at hg';cases hg'
        exact⟨g,hg,hs',by rw[← hL];exact hs⟩)
       rw[Nat.zero_add]at this
       exact⟨_,h,this⟩
      ·cases h
     ·cases h
    ·rename_i nm off len hx
     split at h
     ·rename_i hb
      obtain⟨c',xs',m',inf,h1,h2,h3⟩:=xA hE hso (.inr ⟨_,_,hx⟩)
      have:=rJ (t:=t) (ob:=ob) (base:=base) (off:=off) (len:=len) (rd:=[nm]) hE ho hu h2 h3 hi hb.1 hb.2 (fun B ob' w φ M u hag hm hu'=>by
       rw[hx]at hu'
       obtain⟨g,hg,hs⟩:=hu'.sl_inv
       obtain⟨g',hg',hL,hs',_⟩:=hm.objs nm _ (by rw[hag nm (by simp)];exact h1)
       rw[hg]at hg';cases hg'
       exact⟨g,hg,hs',hs⟩)
      exact⟨_,h,this⟩
     ·cases h
    ·rename_i c xs hx
     simp only[Option.bind_eq_some_iff]at h
     obtain⟨z,hz,h⟩:=h
     rw[hx]at hso
     obtain⟨inf,h2,h3⟩:=GB hE hso
     exact⟨_,h,Gy ho hu h2 h3 hi hx hz⟩
    ·cases h
   ·exact HC hE ho hu hi h
  ·rename_i L e q n hu hi
   split at h
   ·rename_i inf nm i0 j0 hinf hx
    split at h
    ·rename_i hb;exact⟨_,h,Ii ho hu hinf hi hb.1 hb.2 (.inl ⟨_,_,_,hx,rfl⟩)⟩
    ·cases h
   ·rename_i inf c z j0 hinf hx
    split at h
    ·rename_i hb;exact⟨_,h,Ii ho hu hinf hi hb.1 hb.2 (.inr ⟨_,_,_,hx,rfl⟩)⟩
    ·cases h
   ·cases h
  ·cases h
 ·rename_i ty x i ho
  split at h
  ·rename_i q n hi
   unfold Tf at h
   split at h
   ·rename_i s hu hx
    simp only[Option.bind_eq_some_iff]at h
    obtain⟨z,hz,h⟩:=h
    exact⟨_,h,NC ho hu hi hx hz⟩
   ·rename_i L e cs hu hx
    split at h
    ·rename_i hL
     split at h
     ·rename_i l hl
      simp only[Option.bind_eq_some_iff]at h
      obtain⟨z,hz,h⟩:=h
      obtain⟨h0,_,_,hz'⟩:=at?_some hz
      exact⟨_,h,Gz ho hu hL.2 hL.1 hi hx h0 (by rw[Cb cs l hl,hz'];rfl)⟩
     ·split at h
      ·rename_i l hl
       simp only[Option.bind_eq_some_iff]at h
       obtain⟨z,hz,h⟩:=h
       obtain⟨h0,_,_,hz'⟩:=at?_some hz
       exact⟨_,h,Gz ho hu hL.2 hL.1 hi hx h0 (by rw[Cc .i64 cs l hl,hz'];rfl)⟩
      ·cases h
    ·cases h
   ·cases h
  ·cases h
 ·rename_i ty x lo hi mx ho
  split at h
  ·rename_i hu
   split at h
   ·rename_i hs
    obtain⟨tv,rd,h1,h2⟩:=ok_slice hE ho hu (.inl ⟨rfl,hs⟩) h
    exact⟨_,h1,h2⟩
   ·cases h
  ·rename_i e hu
   split at h
   ·rename_i hs
    obtain⟨tv,rd,h1,h2⟩:=ok_slice hE ho hu (.inr ⟨e,rfl,hs⟩) h
    exact⟨_,h1,h2⟩
   ·cases h
  ·cases h
 ·rename_i x i ho
  split at h
  ·rename_i vs hx
   split at h
   ·rename_i v hv;exact⟨_,h,RT ho hx hv⟩
   ·cases h
  ·cases h
 ·rename_i f first cap ho
  split at h
  ·rename_i hf';exact⟨_,h,Pz ho hf'⟩
  ·cases h
 ·rename_i ty n ps ho
  split at h
  ·rename_i e hu
   split at h
   ·rename_i c hc
    split at h
    ·exact HX hE ho hu h
    split at h
    ·rename_i hps
     split at h
     ·rename_i xs hxs
      exact⟨_,h,LB hE ho hu hc hps.1 hps.2 hxs⟩
     ·cases h
    ·cases h
   ·exact HX hE ho hu h
  ·cases h
 ·rename_i b args ts ho
  split at h
  ·rename_i x hx
   split at h
   ·rename_i n hn
    obtain⟨y,hy,rfl⟩:=WO hx
    exact⟨_,h,Zj ho hy hn⟩
   ·cases h
  ·rename_i x y hx
   split at h
   ·rename_i e e' h0 h1
    split at h
    ·rename_i c hc
     obtain⟨p,q,hpq,rfl,rfl⟩:=WQ hx
     split at h
     ·rename_i bn cs hbo
      exact LM hE ho hpq h0 h1 hc hbo h
     ·exact UE hE ho hpq h0 h1 hc h
    ·cases h
   ·cases h
  ·rename_i x r' hx
   split at h
   ·rename_i v hv
    obtain⟨p,q,hpq,rfl,rfl⟩:=Mo hx
    exact⟨_,h,Mu (lt:=true) rfl ho hpq hv⟩
   ·cases h
  ·rename_i x r' hx
   split at h
   ·rename_i v hv
    obtain⟨p,q,hpq,rfl,rfl⟩:=Mo hx
    exact⟨_,h,Mu (lt:=false) rfl ho hpq hv⟩
   ·cases h
  ·cases h
 ·rename_i f args ts ho
  split at h
  ·rename_i g cap hg
   exact Yn hE hf ho hg h
  ·cases h
 ·cases h
end TE
