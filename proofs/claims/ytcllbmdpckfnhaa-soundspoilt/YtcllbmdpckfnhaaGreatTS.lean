/- TE: shapes of values; contracts and loops told by shapes. -/
import Derived.Test.YtcllbmdpckfnhaaGreatTE22
set_option linter.unusedVariables false
namespace TE
open Go
variable{S:Sig}
inductive Sh(S:Sig):Type
 |i (k:IntKind)
 |b
 |st
 |t (c:S.K)
 |p (nm i k:Nat)
 |pk (nm k:Nat)
 |ip (c:S.K) (k:Nat)
 |np
 |ns
 |nm
 |nf
 |ni
 |dd
 |ud
 |sw (nm:Nat)
 |sl (nm:Nat)
 |m (nm:Nat)
 |fn (f:FuncId) (l:List (Sh S))
 |ag (l:List (Sh S))
 |tp (l:List (Sh S))
 |iff (t:TypeId) (s:Sh S)
inductive ShO(S:Sig):Type
 |bx (l:List (Sh S))
 |rw (c:S.K) (m:RM)
 |dp (c:S.K)
 |g
mutual
def Sh.T:Sh S→Type
 | .i _=>Int
 | .b=>Bool
 | .st=>List UInt8
 | .t c=>List (S.El c)
 | .pk _ _=>Nat
 | .ip c _=>S.El c
 | .sl _=>Nat×Nat
 | .fn _ l=>TL l
 | .ag l=>TL l
 | .tp l=>TL l
 | .iff _ s=>Sh.T s
 | .p _ _ _=>Unit
 | .np=>Unit
 | .ns=>Unit
 | .nm=>Unit
 | .nf=>Unit
 | .ni=>Unit
 | .dd=>Unit
 | .ud=>Unit
 | .sw _=>Unit
 | .m _=>Unit
def TL:List (Sh S)→Type
 | []=>Unit
 |s::r=>Sh.T s×TL r
end
def ShO.T:ShO S→Type
 | .bx l=>TL l
 | .rw c _=>List (S.El c)
 | .dp c=>List (S.El c)
 | .g=>Unit
def TOL:List (ShO S)→Type
 | []=>Unit
 |s::r=>s.T×TOL r
mutual
def Sh.Fn:Sh S→Type→Type
 | .i _,Y=>Int→Y
 | .b,Y=>Bool→Y
 | .st,Y=>List UInt8→Y
 | .t c,Y=>List (S.El c)→Y
 | .pk _ _,Y=>Nat→Y
 | .ip c _,Y=>S.El c→Y
 | .sl _,Y=>Nat→Nat→Y
 | .fn _ l,Y=>FnL l Y
 | .ag l,Y=>FnL l Y
 | .tp l,Y=>FnL l Y
 | .iff _ s,Y=>Sh.Fn s Y
 | .p _ _ _,Y=>Y
 | .np,Y=>Y
 | .ns,Y=>Y
 | .nm,Y=>Y
 | .nf,Y=>Y
 | .ni,Y=>Y
 | .dd,Y=>Y
 | .ud,Y=>Y
 | .sw _,Y=>Y
 | .m _,Y=>Y
def FnL:List (Sh S)→Type→Type
 | [],Y=>Y
 |s::r,Y=>Sh.Fn s (FnL r Y)
end
def ShO.Fn:ShO S→Type→Type
 | .bx l,Y=>FnL l Y
 | .rw c _,Y=>List (S.El c)→Y
 | .dp c,Y=>List (S.El c)→Y
 | .g,Y=>Y
def Ce:List (ShO S)→Type→Type
 | [],Y=>Y
 |s::r,Y=>s.Fn (Ce r Y)
mutual
def Sh.enc:(s:Sh S)→s.T→TV S
 | .i k,x => .int k x
 | .b,x => .bool x
 | .st,x => .str x
 | .t c,x => .tree c x
 | .pk nm k,x => .ptr nm x k
 | .ip c k,x => .iptr c x k
 | .sl nm,x => .sl nm x.1 x.2
 | .fn f l,x => .fn f (RX l x)
 | .ag l,x => .agg (RX l x)
 | .tp l,x => .tup (RX l x)
 | .iff t s,x => .iface t (Sh.enc s x)
 | .p nm i k,_ => .ptr nm i k
 | .np,_ => .nilp
 | .ns,_ => .nils
 | .nm,_ => .nilm
 | .nf,_ => .nilf
 | .ni,_ => .nili
 | .dd,_ => .dead
 | .ud,_ => .undef
 | .sw nm,_ => .slw nm
 | .m nm,_ => .map nm
def RX:(l:List (Sh S))→TL l→List (TV S)
 | [],_=>[]
 |s::r,x=>Sh.enc s x.1::RX r x.2
end
def ShO.enc:(s:ShO S)→s.T→Obj S
 | .bx l,x => .box (RX l x)
 | .rw c m,x => .row c x m
 | .dp c,x => .deep c (.full x)
 | .g,_ => .gone
def KN:(l:List (ShO S))→TOL l→List (Obj S)
 | [],_=>[]
 |s::r,x=>s.enc x.1::KN r x.2
mutual
def Sh.app{Y:Type}:(s:Sh S)→s.Fn Y→s.T→Y
 | .i _,F,x=>F x
 | .b,F,x=>F x
 | .st,F,x=>F x
 | .t _,F,x=>F x
 | .pk _ _,F,x=>F x
 | .ip _ _,F,x=>F x
 | .sl _,F,x=>F x.1 x.2
 | .fn _ l,F,x=>LN l F x
 | .ag l,F,x=>LN l F x
 | .tp l,F,x=>LN l F x
 | .iff _ s,F,x=>Sh.app s F x
 | .p _ _ _,F,_=>F
 | .np,F,_=>F
 | .ns,F,_=>F
 | .nm,F,_=>F
 | .nf,F,_=>F
 | .ni,F,_=>F
 | .dd,F,_=>F
 | .ud,F,_=>F
 | .sw _,F,_=>F
 | .m _,F,_=>F
def LN{Y:Type}:(l:List (Sh S))→FnL l Y→TL l→Y
 | [],F,_=>F
 |s::r,F,x=>LN r (Sh.app (Y:=FnL r Y) s F x.1) x.2
end
def ShO.app{Y:Type}:(s:ShO S)→s.Fn Y→s.T→Y
 | .bx l,F,x=>LN l F x
 | .rw _ _,F,x=>F x
 | .dp _,F,x=>F x
 | .g,F,_=>F
def KO{Y:Type}:(l:List (ShO S))→Ce l Y→TOL l→Y
 | [],F,_=>F
 |s::r,F,x=>KO r (s.app (Y:=Ce r Y) F x.1) x.2
mutual
def Sh.cur{Y:Type}:(s:Sh S)→(s.T→Y)→s.Fn Y
 | .i _,f=>fun a=>f a
 | .b,f=>fun a=>f a
 | .st,f=>fun a=>f a
 | .t _,f=>fun a=>f a
 | .pk _ _,f=>fun a=>f a
 | .ip _ _,f=>fun a=>f a
 | .sl _,f=>fun a b=>f (a,b)
 | .fn _ l,f=>PH l f
 | .ag l,f=>PH l f
 | .tp l,f=>PH l f
 | .iff _ s,f=>Sh.cur s f
 | .p _ _ _,f=>f ()
 | .np,f=>f ()
 | .ns,f=>f ()
 | .nm,f=>f ()
 | .nf,f=>f ()
 | .ni,f=>f ()
 | .dd,f=>f ()
 | .ud,f=>f ()
 | .sw _,f=>f ()
 | .m _,f=>f ()
def PH{Y:Type}:(l:List (Sh S))→(TL l→Y)→FnL l Y
 | [],f=>f ()
 |s::r,f=>Sh.cur (Y:=FnL r Y) s fun a=>PH r fun b=>f (a,b)
end
def ShO.cur{Y:Type}:(s:ShO S)→(s.T→Y)→s.Fn Y
 | .bx l,f=>PH l f
 | .rw _ _,f=>fun a=>f a
 | .dp _,f=>fun a=>f a
 | .g,f=>f ()
def Il{Y:Type}:(l:List (ShO S))→(TOL l→Y)→Ce l Y
 | [],f=>f ()
 |s::r,f=>s.cur (Y:=Ce r Y) fun a=>Il r fun b=>f (a,b)
def Zk(k:IntKind):TV S→Option Int
 | .int k' n=>if k'=k then some n else none
 |_=>none
def Xg:TV S→Option Bool
 | .bool b=>some b
 |_=>none
def Zl:TV S→Option (List UInt8)
 | .str b=>some b
 |_=>none
def Xh(c:S.K):TV S→Option (List (S.El c))
 | .tree c' xs=>if h:c'=c then some (h▸xs) else none
 |_=>none
def dPk(nm k:Nat):TV S→Option Nat
 | .ptr nm' i k'=>bif (Nat.beq nm nm'&&Nat.beq k k') then some i else none
 |_=>none
def dIp(c:S.K)(k:Nat):TV S→Option (S.El c)
 | .iptr c' x k'=>if h:c'=c then(bif Nat.beq k k' then some (h▸x) else none) else none
 |_=>none
def dSl(nm:Nat):TV S→Option (Nat×Nat)
 | .sl nm' a b=>bif Nat.beq nm nm' then some (a,b) else none
 |_=>none
def dFn(f:FuncId):TV S→Option (List (TV S))
 | .fn f' xs=>bif Nat.beq f f' then some xs else none
 |_=>none
def Zm:TV S→Option (List (TV S))
 | .agg xs=>some xs
 |_=>none
def Zn:TV S→Option (List (TV S))
 | .tup xs=>some xs
 |_=>none
def dIf(t:TypeId):TV S→Option (TV S)
 | .iface t' x=>bif Nat.beq t t' then some x else none
 |_=>none
def dP(nm i k:Nat):TV S→Option Unit
 | .ptr nm' i' k'=>bif (Nat.beq nm nm'&&(Nat.beq i i'&&Nat.beq k k')) then some () else none
 |_=>none
def dNp:TV S→Option Unit
 | .nilp=>some ()
 |_=>none
def dNs:TV S→Option Unit
 | .nils=>some ()
 |_=>none
def dNm:TV S→Option Unit
 | .nilm=>some ()
 |_=>none
def dNf:TV S→Option Unit
 | .nilf=>some ()
 |_=>none
def dNi:TV S→Option Unit
 | .nili=>some ()
 |_=>none
def dDd:TV S→Option Unit
 | .dead=>some ()
 |_=>none
def dUd:TV S→Option Unit
 | .undef=>some ()
 |_=>none
def dSw(nm:Nat):TV S→Option Unit
 | .slw nm'=>bif Nat.beq nm nm' then some () else none
 |_=>none
def dM(nm:Nat):TV S→Option Unit
 | .map nm'=>bif Nat.beq nm nm' then some () else none
 |_=>none
section
variable{v:TV S}
theorem Yt{k:IntKind}{n:Int}(h:Zk k v=some n):TV.int k n=v:=by
 cases v<;>simp only[Zk,reduceCtorEq]at h
 split at h<;>cases h
 subst_vars;rfl
theorem Xi{b:Bool}(h:Xg v=some b):TV.bool b=v:=by
 cases v<;>simp only[Xg,reduceCtorEq]at h
 cases h;rfl
theorem Yu{b:List UInt8}(h:Zl v=some b):TV.str b=v:=by
 cases v<;>simp only[Zl,reduceCtorEq]at h
 cases h;rfl
theorem Xj{c:S.K}{b:List (S.El c)}(h:Xh c v=some b):TV.tree c b=v:=by
 cases v<;>simp only[Xh,reduceCtorEq]at h
 split at h<;>cases h
 subst_vars;rfl
theorem Zo{nm k i:Nat}(h:dPk nm k v=some i):TV.ptr nm i k=v:=by
 cases v<;>simp only[dPk,reduceCtorEq]at h
 rename_i a b c
 cases hb:(Nat.beq nm a&&Nat.beq k c)<;>rw[hb]at h<;>cases h
 rw[Bool.and_eq_true]at hb
 cases Nat.eq_of_beq_eq_true hb.1;cases Nat.eq_of_beq_eq_true hb.2;rfl
theorem Zp{c:S.K}{k:Nat}{x:S.El c}(h:dIp c k v=some x):TV.iptr c x k=v:=by
 cases v<;>simp only[dIp,reduceCtorEq]at h
 rename_i c' y k'
 split at h
 ·subst_vars
  cases hb:Nat.beq k k'<;>rw[hb]at h<;>cases h
  cases Nat.eq_of_beq_eq_true hb;rfl
 ·cases h
theorem Zq{nm:Nat}{x:Nat×Nat}(h:dSl nm v=some x):TV.sl nm x.1 x.2=v:=by
 cases v<;>simp only[dSl,reduceCtorEq]at h
 rename_i a b c
 cases hb:Nat.beq nm a<;>rw[hb]at h<;>cases h
 cases Nat.eq_of_beq_eq_true hb;rfl
theorem Zr{f:FuncId}{x:List (TV S)}(h:dFn f v=some x):TV.fn f x=v:=by
 cases v<;>simp only[dFn,reduceCtorEq]at h
 rename_i a b
 cases hb:Nat.beq f a<;>rw[hb]at h<;>cases h
 cases Nat.eq_of_beq_eq_true hb;rfl
theorem Yv{x:List (TV S)}(h:Zm v=some x):TV.agg x=v:=by
 cases v<;>simp only[Zm,reduceCtorEq]at h
 cases h;rfl
theorem Yw{x:List (TV S)}(h:Zn v=some x):TV.tup x=v:=by
 cases v<;>simp only[Zn,reduceCtorEq]at h
 cases h;rfl
theorem Zs{t:TypeId}{x:TV S}(h:dIf t v=some x):TV.iface t x=v:=by
 cases v<;>simp only[dIf,reduceCtorEq]at h
 rename_i a b
 cases hb:Nat.beq t a<;>rw[hb]at h<;>cases h
 cases Nat.eq_of_beq_eq_true hb;rfl
theorem ZR{nm i k:Nat}{x:Unit}(h:dP nm i k v=some x):TV.ptr nm i k=v:=by
 cases v<;>simp only[dP,reduceCtorEq]at h
 rename_i a b c
 cases hb:(Nat.beq nm a&&(Nat.beq i b&&Nat.beq k c))<;>rw[hb]at h<;>cases h
 rw[Bool.and_eq_true,Bool.and_eq_true]at hb
 cases Nat.eq_of_beq_eq_true hb.1;cases Nat.eq_of_beq_eq_true hb.2.1;cases Nat.eq_of_beq_eq_true hb.2.2;rfl
theorem Zt{x:Unit}(h:dNp v=some x):TV.nilp=v:=by cases v<;>first|rfl|cases h
theorem Zu{x:Unit}(h:dNs v=some x):TV.nils=v:=by cases v<;>first|rfl|cases h
theorem Zv{x:Unit}(h:dNm v=some x):TV.nilm=v:=by cases v<;>first|rfl|cases h
theorem Zw{x:Unit}(h:dNf v=some x):TV.nilf=v:=by cases v<;>first|rfl|cases h
theorem Zx{x:Unit}(h:dNi v=some x):TV.nili=v:=by cases v<;>first|rfl|cases h
theorem Zy{x:Unit}(h:dDd v=some x):TV.dead=v:=by cases v<;>first|rfl|cases h
theorem Zz{x:Unit}(h:dUd v=some x):TV.undef=v:=by cases v<;>first|rfl|cases h
theorem ZA{nm:Nat}{x:Unit}(h:dSw nm v=some x):TV.slw nm=v:=by
 cases v<;>simp only[dSw,reduceCtorEq]at h
 rename_i a
 cases hb:Nat.beq nm a<;>rw[hb]at h<;>cases h
 cases Nat.eq_of_beq_eq_true hb;rfl
theorem ZS{nm:Nat}{x:Unit}(h:dM nm v=some x):TV.map nm=v:=by
 cases v<;>simp only[dM,reduceCtorEq]at h
 rename_i a
 cases hb:Nat.beq nm a<;>rw[hb]at h<;>cases h
 cases Nat.eq_of_beq_eq_true hb;rfl
end
mutual
def Sh.dec:(s:Sh S)→TV S→Option s.T
 | .i k,v=>Zk k v
 | .b,v=>Xg v
 | .st,v=>Zl v
 | .t c,v=>Xh c v
 | .pk nm k,v=>dPk nm k v
 | .ip c k,v=>dIp c k v
 | .sl nm,v=>dSl nm v
 | .fn f l,v=>(dFn f v).bind fun xs=>RY l xs
 | .ag l,v=>(Zm v).bind fun xs=>RY l xs
 | .tp l,v=>(Zn v).bind fun xs=>RY l xs
 | .iff t s,v=>(dIf t v).bind fun x=>Sh.dec s x
 | .p nm i k,v=>dP nm i k v
 | .np,v=>dNp v
 | .ns,v=>dNs v
 | .nm,v=>dNm v
 | .nf,v=>dNf v
 | .ni,v=>dNi v
 | .dd,v=>dDd v
 | .ud,v=>dUd v
 | .sw nm,v=>dSw nm v
 | .m nm,v=>dM nm v
def RY:(l:List (Sh S))→List (TV S)→Option (TL l)
 | [],[]=>some ()
 | [],_::_=>none
 |_::_,[]=>none
 |s::r,v::vs=>(Sh.dec s v).bind fun a=>(RY r vs).bind fun b=>some (a,b)
end
def ZB:Obj S→Option (List (TV S))
 | .box xs=>some xs
 |_=>none
def ZC(c:S.K)(m:RM):Obj S→Option (List (S.El c))
 | .row c' xs m'=>if h:c'=c then(if m'=m then some (h▸xs) else none) else none
 |_=>none
def Xk(c:S.K):Obj S→Option (List (S.El c))
 | .deep c' (.full xs)=>if h:c'=c then some (h▸xs) else none
 |_=>none
def YD:Obj S→Option Unit
 | .gone=>some ()
 |_=>none
section
variable{v:Obj S}
theorem Yx{x:List (TV S)}(h:ZB v=some x):Obj.box x=v:=by
 cases v<;>simp only[ZB,reduceCtorEq]at h
 cases h;rfl
theorem Yy{c:S.K}{m:RM}{x:List (S.El c)}(h:ZC c m v=some x):Obj.row c x m=v:=by
 cases v<;>simp only[ZC,reduceCtorEq]at h
 split at h
 ·split at h<;>cases h
  subst_vars;rfl
 ·cases h
theorem Xl{c:S.K}{x:List (S.El c)}(h:Xk c v=some x):Obj.deep c (.full x)=v:=by
 unfold Xk at h
 split at h
 ·split at h
  ·cases h;subst_vars;rfl
  ·cases h
 ·cases h
theorem Xm{x:Unit}(h:YD v=some x):Obj.gone=v:=by cases v<;>first|rfl|cases h
end
def ShO.dec:(s:ShO S)→Obj S→Option s.T
 | .bx l,v=>(ZB v).bind fun xs=>RY l xs
 | .rw c m,v=>ZC c m v
 | .dp c,v=>Xk c v
 | .g,v=>YD v
def Xn:(l:List (ShO S))→List (Obj S)→Option (TOL l)
 | [],[]=>some ()
 | [],_::_=>none
 |_::_,[]=>none
 |s::r,v::vs=>(s.dec v).bind fun a=>(Xn r vs).bind fun b=>some (a,b)
mutual
theorem Sh.app_cur{Y:Type}:(s:Sh S)→(f:s.T→Y)→(x:s.T)→s.app (s.cur f) x=f x
 | .i _,f,x=>rfl
 | .b,f,x=>rfl
 | .st,f,x=>rfl
 | .t _,f,x=>rfl
 | .pk _ _,f,x=>rfl
 | .ip _ _,f,x=>rfl
 | .sl _,f,x=>rfl
 | .fn _ l,f,x=>zq l f x
 | .ag l,f,x=>zq l f x
 | .tp l,f,x=>zq l f x
 | .iff _ s,f,x=>Sh.app_cur s f x
 | .p _ _ _,f,x=>rfl
 | .np,f,x=>rfl
 | .ns,f,x=>rfl
 | .nm,f,x=>rfl
 | .nf,f,x=>rfl
 | .ni,f,x=>rfl
 | .dd,f,x=>rfl
 | .ud,f,x=>rfl
 | .sw _,f,x=>rfl
 | .m _,f,x=>rfl
theorem zq{Y:Type}:(l:List (Sh S))→(f:TL l→Y)→(x:TL l)→LN l (PH l f) x=f x
 | [],f,x=>rfl
 |s::r,f,x=>(congrArg (fun F=>LN r F x.2) (Sh.app_cur s (fun a=>PH r fun b=>f (a,b)) x.1)).trans (zq r (fun b=>f (x.1,b)) x.2)
end
theorem ShO.app_cur{Y:Type}(s:ShO S)(f:s.T→Y)(x:s.T):s.app (s.cur f) x=f x:=by
 cases s with
 |bx l=>exact zq l f x
 |_=>rfl
theorem Mx{Y:Type}:(l:List (ShO S))→(f:TOL l→Y)→(x:TOL l)→KO l (Il l f) x=f x
 | [],f,x=>rfl
 |s::r,f,x=>(congrArg (fun F=>KO r F x.2) (ShO.app_cur s (fun a=>Il r fun b=>f (a,b)) x.1)).trans (Mx r (fun b=>f (x.1,b)) x.2)
mutual
theorem Sh.ext{Y:Type}:(s:Sh S)→(F G:s.Fn Y)→(∀x,s.app F x=s.app G x)→F=G
 | .i _,F,G,h=>funext h
 | .b,F,G,h=>funext h
 | .st,F,G,h=>funext h
 | .t _,F,G,h=>funext h
 | .pk _ _,F,G,h=>funext h
 | .ip _ _,F,G,h=>funext h
 | .sl _,F,G,h=>funext fun a=>funext fun b=>h (a,b)
 | .fn _ l,F,G,h=>UT l F G h
 | .ag l,F,G,h=>UT l F G h
 | .tp l,F,G,h=>UT l F G h
 | .iff _ s,F,G,h=>Sh.ext s F G h
 | .p _ _ _,F,G,h=>h ()
 | .np,F,G,h=>h ()
 | .ns,F,G,h=>h ()
 | .nm,F,G,h=>h ()
 | .nf,F,G,h=>h ()
 | .ni,F,G,h=>h ()
 | .dd,F,G,h=>h ()
 | .ud,F,G,h=>h ()
 | .sw _,F,G,h=>h ()
 | .m _,F,G,h=>h ()
theorem UT{Y:Type}:(l:List (Sh S))→(F G:FnL l Y)→(∀x,LN l F x=LN l G x)→F=G
 | [],F,G,h=>h ()
 |s::r,F,G,h=>Sh.ext (Y:=FnL r Y) s F G fun a=>UT r _ _ fun b=>h (a,b)
end
theorem ShO.ext{Y:Type}(s:ShO S)(F G:s.Fn Y)(h:∀x,s.app F x=s.app G x):F=G:=by
 cases s with
 |bx l=>exact UT l F G h
 |rw c m=>exact funext h
 |dp c=>exact funext h
 |g=>exact h ()
theorem YE{Y:Type}:(l:List (ShO S))→(F G:Ce l Y)→(∀x,KO l F x=KO l G x)→F=G
 | [],F,G,h=>h ()
 |s::r,F,G,h=>ShO.ext (Y:=Ce r Y) s F G fun a=>YE r _ _ fun b=>h (a,b)
mutual
theorem Sh.dec_enc:(s:Sh S)→(v:TV S)→(x:s.T)→s.dec v=some x→s.enc x=v
 | .i k,v,x,h=>Yt h
 | .b,v,x,h=>Xi h
 | .st,v,x,h=>Yu h
 | .t c,v,x,h=>Xj h
 | .pk nm k,v,x,h=>Zo h
 | .ip c k,v,x,h=>Zp h
 | .sl nm,v,x,h=>Zq h
 | .fn f l,v,x,h=>by
  obtain⟨xs,h1,h2⟩:=Option.bind_eq_some_iff.1 h
  exact(congrArg (TV.fn f) (zr l xs x h2)).trans (Zr h1)
 | .ag l,v,x,h=>by
  obtain⟨xs,h1,h2⟩:=Option.bind_eq_some_iff.1 h
  exact(congrArg TV.agg (zr l xs x h2)).trans (Yv h1)
 | .tp l,v,x,h=>by
  obtain⟨xs,h1,h2⟩:=Option.bind_eq_some_iff.1 h
  exact(congrArg TV.tup (zr l xs x h2)).trans (Yw h1)
 | .iff t s,v,x,h=>by
  obtain⟨xs,h1,h2⟩:=Option.bind_eq_some_iff.1 h
  exact(congrArg (TV.iface t) (Sh.dec_enc s xs x h2)).trans (Zs h1)
 | .p nm i k,v,x,h=>ZR h
 | .np,v,x,h=>Zt h
 | .ns,v,x,h=>Zu h
 | .nm,v,x,h=>Zv h
 | .nf,v,x,h=>Zw h
 | .ni,v,x,h=>Zx h
 | .dd,v,x,h=>Zy h
 | .ud,v,x,h=>Zz h
 | .sw nm,v,x,h=>ZA h
 | .m nm,v,x,h=>ZS h
theorem zr:(l:List (Sh S))→(v:List (TV S))→(x:TL l)→RY l v=some x→RX l x=v
 | [],[],x,h=>rfl
 | [],_::_,x,h=>by cases h
 |_::_,[],x,h=>by cases h
 |s::r,v::vs,x,h=>by
  obtain⟨a,h1,h2⟩:=Option.bind_eq_some_iff.1 h
  obtain⟨b,h3,h4⟩:=Option.bind_eq_some_iff.1 h2
  have hx:(a,b)=x:=Option.some.inj h4
  subst hx
  exact congr (congrArg List.cons (Sh.dec_enc s v a h1)) (zr r vs b h3)
end
theorem ShO.dec_enc:(s:ShO S)→(v:Obj S)→(x:s.T)→s.dec v=some x→s.enc x=v
 | .bx l,v,x,h=>by
  obtain⟨xs,h1,h2⟩:=Option.bind_eq_some_iff.1 h
  exact(congrArg Obj.box (zr l xs x h2)).trans (Yx h1)
 | .rw c m,v,x,h=>Yy h
 | .dp c,v,x,h=>Xl h
 | .g,v,x,h=>Xm h
theorem My:(l:List (ShO S))→(v:List (Obj S))→(x:TOL l)→Xn l v=some x→KN l x=v
 | [],[],x,h=>rfl
 | [],_::_,x,h=>by cases h
 |_::_,[],x,h=>by cases h
 |s::r,v::vs,x,h=>by
  obtain⟨a,h1,h2⟩:=Option.bind_eq_some_iff.1 h
  obtain⟨b,h3,h4⟩:=Option.bind_eq_some_iff.1 h2
  have hx:(a,b)=x:=Option.some.inj h4
  subst hx
  exact congr (congrArg List.cons (ShO.dec_enc s v a h1)) (My r vs b h3)
structure Pat(S:Sig) where
 v:List (Sh S)
 o:List (ShO S):=[]
namespace Pat
def T(q:Pat S):Type:=TL q.v×TOL q.o
def Fn(q:Pat S)(Y:Type):Type:=FnL q.v (Ce q.o Y)
def app{Y:Type}(q:Pat S)(F:q.Fn Y)(x:q.T):Y:=KO q.o (LN (Y:=Ce q.o Y) q.v F x.1) x.2
def cur{Y:Type}(q:Pat S)(f:q.T→Y):q.Fn Y:=PH (Y:=Ce q.o Y) q.v fun a=>Il q.o fun b=>f (a,b)
def ev(q:Pat S)(x:q.T):List (TV S):=RX q.v x.1
def eo(q:Pat S)(x:q.T):List (Obj S):=KN q.o x.2
def dec(q:Pat S)(vals:List (TV S))(objs:List (Obj S)):Option q.T:=match RY q.v vals,Xn q.o objs with
 |some a,some b=>some (a,b)
 |_,_=>none
def mat{R:Type}(q:Pat S)(F:q.Fn (Option R))(vals:List (TV S))(objs:List (Obj S)):Option R:=match q.dec vals objs with
 |some x=>q.app F x
 |none=>none
def k{Y:Type}(q:Pat S)(K:List (TV S)→List (Obj S)→Y):q.Fn Y:=q.cur fun x=>K (q.ev x) (q.eo x)
theorem app_cur{Y:Type}(q:Pat S)(f:q.T→Y)(x:q.T):q.app (q.cur f) x=f x:=
 (congrArg (fun F=>KO q.o F x.2) (zq q.v (fun a=>Il q.o fun b=>f (a,b)) x.1)).trans (Mx q.o (fun b=>f (x.1,b)) x.2)
theorem ext{Y:Type}(q:Pat S)(F G:q.Fn Y)(h:∀x,q.app F x=q.app G x):F=G:=
 UT (Y:=Ce q.o Y) q.v F G fun a=>YE q.o _ _ fun b=>h (a,b)
theorem dec_enc(q:Pat S){vals:List (TV S)}{objs:List (Obj S)}{x:q.T}(h:q.dec vals objs=some x):q.ev x=vals∧q.eo x=objs:=by
 unfold dec at h
 split at h
 ·rename_i a b ha hb
  cases h
  exact⟨zr _ _ _ ha,My _ _ _ hb⟩
 ·cases h
theorem mat_some{R:Type}(q:Pat S){F:q.Fn (Option R)}{vals:List (TV S)}{objs:List (Obj S)}{r:R}(h:q.mat F vals objs=some r):∃x,q.ev x=vals∧q.eo x=objs∧q.app F x=some r:=by
 unfold mat at h
 split at h
 ·rename_i x hx
  exact⟨x,(q.dec_enc hx).1,(q.dec_enc hx).2,h⟩
 ·cases h
end Pat
structure Out(S:Sig) where
 v:Sh S
 xs:List (ShO S):=[]
 ns:List (ShO S):=[]
def Out.k{Y:Type}(o:Out S)(K:Res S→Y):o.v.Fn (Ce o.xs (Ce o.ns Y)):=
 o.v.cur fun a=>Il o.xs fun b=>Il o.ns fun c=>K ⟨o.v.enc a,some (KN o.xs b),KN o.ns c⟩
def Out.q{Y:Type}(o:Out S)(K:TV S→List (Obj S)→Y):o.v.Fn (Ce o.ns Y):=
 o.v.cur fun a=>Il o.ns fun c=>K (o.v.enc a) (KN o.ns c)
structure Ct(S:Sig) where
 f:FuncId
 q:Pat S
 F:(R:Type)→(Res S→Option R)→q.Fn (Option R)
def Ct.ok(E:Env S)(c:Ct S):Prop:=∀(R:Type)(x:c.q.T)(k:Res S→Option R)(r:R),c.q.app (c.F R k) x=some r→∃res,k res=some r∧qD E c.f (c.q.ev x) (c.q.eo x) res
structure OC(E:Env S) where
 c:Ct S
 ok:c.ok E
def PI{E:Env S}:List (OC E)→FuncId→List (TV S)→List (Obj S)→(R:Type)→(Res S→Option R)→Option R
 | [],_,_,_,_,_=>none
 |o::l,f,args,objs,R,k=>bif Nat.beq f o.c.f then(match o.c.q.dec args objs with
  |some x=>o.c.q.app (o.c.F R k) x
  |none=>PI l f args objs R k) else PI l f args objs R k
theorem PJ{E:Env S}(l:List (OC E)):WV E (PI l):=by
 intro f args objs R k r h
 induction l with
 |nil=>cases h
 |cons o l ih=>
  unfold PI at h
  cases hb:Nat.beq f o.c.f with
  |false=>rw[hb]at h;exact ih h
  |true=>
   rw[hb]at h
   simp only[cond_true]at h
   split at h
   ·rename_i x hx
    obtain⟨h1,h2⟩:=o.c.q.dec_enc hx
    have:=o.ok R x k r h
    rw[h1,h2]at this
    rw[Nat.eq_of_beq_eq_true hb]
    exact this
   ·exact ih h
structure LA(S:Sig) where
 q:Pat S
 G:(R:Type)→(Ex→List (TV S)→List (Obj S)→Option R)→Nat→q.Fn (Option R)
 B:(R:Type)→(Ex→List (TV S)→List (Obj S)→Option R)→q.Fn (Option R)→q.Fn (Option R)
structure UD(S:Sig) where
 cur:Nat
 live:List Nat
 fix:List (Tgt×LK S):=[]
 out:Ex→List Nat×List (Tgt×LK S)
structure LD(S:Sig) where
 cur:Nat
 live:List Nat
 fix:List (Tgt×LK S):=[]
 out:Ex→List Nat×List (Tgt×LK S)
 q:Pat S
 G:(R:Type)→(Ex→List (TV S)→List (Obj S)→Option R)→Nat→q.Fn (Option R)
 B:(R:Type)→(Ex→List (TV S)→List (Obj S)→Option R)→q.Fn (Option R)→q.Fn (Option R)
 alts:List (LA S):=[]
structure CD(S:Sig) where
 key:Nat
 live:List Nat
 fix:List (Tgt×LK S):=[]
 out:Ex→List Nat×List (Tgt×LK S)
 q:Pat S
 G:(R:Type)→(Ex→List (TV S)→List (Obj S)→Option R)→q.Fn (Option R)
structure FD(E:Env S) where
 f:FuncId
 fn:Func
 q:Pat S
 g:List (OC E):=[]
 loops:List (LD S):=[]
 unr:List (UD S):=[]
 cuts:List (CD S):=[]
 mode:Nat→RM:=fun _ => .app
 exit:List (Tgt×LK S):=[]
 fork:Bool:=false
 nd:Bool:=false
def LD.by(L:LD S)(a:LA S):LD S:={cur:=L.cur,live:=L.live,fix:=L.fix,out:=L.out,q:=a.q,G:=a.G,B:=a.B}
def KP(N:Nat)(R:Type)(K:Ex→List (TV S)→List (Obj S)→Option R)(vals:List (TV S))(objs:List (Obj S)):List (LA S)→Option R
 | []=>none
 |a::l=>match a.q.dec vals objs with
  |some x=>a.q.app (a.G R K N) x
  |none=>KP N R K vals objs l
def LD.h(N:Nat)(L:LD S):zk S:={live:=L.live,fix:=L.fix,out:=L.out,oracle:=some fun R vals objs K=>match L.q.dec vals objs with
 |some x=>L.q.app (L.G R K N) x
 |none=>KP N R K vals objs L.alts}
def UD.h(L:UD S):zk S:={live:=L.live,fix:=L.fix,out:=L.out}
def KQ(c:Nat):List (UD S)→Option (zk S)
 | []=>none
 |L::r=>bif Nat.beq c L.cur then some L.h else KQ c r
theorem Im{c:Nat}{h:zk S}:∀{l:List (UD S)},KQ c l=some h→h.oracle=none
 | [],e=>by cases e
 |L::r,e=>by
  unfold KQ at e
  cases hb:Nat.beq c L.cur with
  |true=>rw[hb]at e;cases e;rfl
  |false=>rw[hb]at e;exact Im e
theorem Io{N:Nat}{R:Type}{K:Ex→List (TV S)→List (Obj S)→Option R}{vals:List (TV S)}{objs:List (Obj S)}{r:R}:∀{l:List (LA S)},KP N R K vals objs l=some r→∃a∈l,a.q.mat (a.G R K N) vals objs=some r
 | [],e=>by cases e
 |a::l,e=>by
  unfold KP at e
  split at e
  ·rename_i x hx
   exact⟨a,by simp,by unfold Pat.mat;rw[hx];exact e⟩
  ·obtain⟨b,hb,h⟩:=Io e
   exact⟨b,List.mem_cons_of_mem _ hb,h⟩
def CD.h(L:CD S):zk S:={live:=L.live,fix:=L.fix,out:=L.out,oracle:=some fun R vals objs K=>L.q.mat (L.G R K) vals objs}
def KR(N c:Nat):List (LD S)→Option (zk S)
 | []=>none
 |L::r=>bif Nat.beq c L.cur then some (L.h N) else KR N c r
def EA(c:Nat):List (CD S)→Option (zk S)
 | []=>none
 |L::r=>bif Nat.beq c L.key then some L.h else EA c r
def PK{α:Type}(c:Nat):List (Nat×α)→Option α
 | []=>none
 |p::r=>bif Nat.beq c p.1 then some p.2 else PK c r
def KS:List Nat→Bool
 | []=>true
 |a::r => !(r.any fun b=>Nat.beq a b)&&KS r
def RZ(ids:List Nat)(c:Code):List (Nat×Nat×Code):=(BZ ids c 0).map fun p=>((ou p.2).getD 0,p)
namespace FD
variable{E:Env S}
def body(D:FD E):Code:=D.fn.body.getD .ret
def loopsH(D:FD E)(N:Nat)(c:Nat):Option (zk S):=match KQ c D.unr with
 |some h=>some h
 |none=>KR N c D.loops
def H(D:FD E)(N:Nat):Hint S:={loops:=D.loopsH N,mode:=D.mode,exit:=D.exit,fork:=D.fork,nd:=D.nd,cuts:=fun c=>EA c D.cuts}
def loopsX(D:FD E):List (LD S):=D.loops.flatMap fun L=>L::L.alts.map L.by
def lcode(D:FD E)(c:Nat):Code:=(PK c (uC D.body 0)).getD .ret
def ccode(D:FD E)(c:Nat):Nat×Code:=(PK c (RZ (D.cuts.map CD.key) D.body)).getD (0,.ret)
def chk(D:FD E):Bool:=KS ((uC D.body 0).map (·.1))&&KS ((RZ (D.cuts.map CD.key) D.body).map (·.1))
def ee(D:FD E):Env S:=E.withCall (PI D.g)
structure LOk(D:FD E)(N:Nat)(L:LD S):Prop where
 zero:∀(R:Type)(K:Ex→List (TV S)→List (Obj S)→Option R)(x:L.q.T),L.q.app (L.G R K 0) x=none
 succ:∀(R:Type)(K:Ex→List (TV S)→List (Obj S)→Option R)(n:Nat)(x:L.q.T),L.q.app (L.G R K (n+1)) x=L.q.app (L.B R K (L.G R K n)) x
 step:∀(R:Type)(K:Ex→List (TV S)→List (Obj S)→Option R)(rec:List (TV S)→List (Obj S)→Option R)(x:L.q.T),
  iL D.ee (D.H N) D.q.o.length D.fn.ntmps N (D.lcode L.cur) L.cur (uA L.live (L.q.ev x) (L.q.eo x)) (Hy (iz D.q.o.length L.live L.fix) (fun e=>iz D.q.o.length (L.out e).1 (L.out e).2) rec K)=L.q.app (L.B R K (L.q.k rec)) x
def COk(D:FD E)(N:Nat)(L:CD S):Prop:=∀(R:Type)(K:Ex→List (TV S)→List (Obj S)→Option R)(x:L.q.T),
  iL D.ee (D.H N) D.q.o.length D.fn.ntmps N (D.ccode L.key).2 (D.ccode L.key).1 (uA L.live (L.q.ev x) (L.q.eo x)) (Yk D.q.o.length L.out K)=L.q.app (L.G R K) x
end FD
def All{α:Type _}(P:α→Prop):List α→Prop
 | []=>True
 |a::r=>P a∧All P r
theorem All.mem{α:Type _}{P:α→Prop}:∀{l:List α},All P l→∀a∈l,P a
 |_::_,h,a,ha=>by
  rcases List.mem_cons.1 ha with rfl|ha
  ·exact h.1
  ·exact All.mem h.2 a ha
theorem Ip{N c:Nat}{h:zk S}:∀{l:List (LD S)},KR N c l=some h→∃L∈l,L.cur=c∧h=L.h N
 | [],e=>by cases e
 |L::r,e=>by
  unfold KR at e
  cases hb:Nat.beq c L.cur with
  |true=>rw[hb]at e;cases e;exact⟨L,List.mem_cons_self ..,(Nat.eq_of_beq_eq_true hb).symm,rfl⟩
  |false=>rw[hb]at e;obtain⟨L',h1,h2⟩:=Ip e;exact⟨L',List.mem_cons_of_mem _ h1,h2⟩
theorem Iq{c:Nat}{h:zk S}:∀{l:List (CD S)},EA c l=some h→∃L∈l,L.key=c∧h=L.h
 | [],e=>by cases e
 |L::r,e=>by
  unfold EA at e
  cases hb:Nat.beq c L.key with
  |true=>rw[hb]at e;cases e;exact⟨L,List.mem_cons_self ..,(Nat.eq_of_beq_eq_true hb).symm,rfl⟩
  |false=>rw[hb]at e;obtain⟨L',h1,h2⟩:=Iq e;exact⟨L',List.mem_cons_of_mem _ h1,h2⟩
theorem HH{α:Type}:∀{l:List (Nat×α)},KS (l.map (·.1))=true→∀p∈l,PK p.1 l=some p.2
 |q::r,h,p,hp=>by
  simp only[List.map_cons,KS,Bool.and_eq_true,Bool.not_eq_true']at h
  unfold PK
  rcases List.mem_cons.1 hp with rfl|hp
  ·rw[Nat.beq_refl];rfl
  ·cases hb:Nat.beq p.1 q.1 with
   |false=>exact HH h.2 p hp
   |true=>
    exfalso
    have h1:=List.any_eq_false.1 h.1 p.1 (List.mem_map.2 ⟨p,hp,rfl⟩)
    rw[Nat.eq_of_beq_eq_true hb,Nat.beq_refl]at h1
    exact h1 rfl
theorem Ir{c:Nat}:∀{l:List (CD S)},(l.map CD.key).contains c=false→EA c l=none
 | [],_=>rfl
 |L::r,h=>by
  simp only[List.map_cons,List.contains_cons,Bool.or_eq_false_iff]at h
  unfold EA
  have:Nat.beq c L.key=false:=by
   cases hb:Nat.beq c L.key with
   |false=>rfl
   |true=>rw[Nat.eq_of_beq_eq_true hb]at h;simp at h
  rw[this]
  exact Ir h.2
theorem FD.loopsOK{E:Env S}(D:FD E)(N:Nat)(hchk:D.chk=true)(hL:All (D.LOk N) D.loopsX)(hC:All (D.COk N) D.cuts):∀c,D.fn.body=some c→sn D.ee (D.H N) D.q.o.length D.fn.ntmps N c 0:=by
 intro c hc
 have hb:D.body=c:=by unfold FD.body;rw[hc];rfl
 unfold FD.chk at hchk
 rw[Bool.and_eq_true,hb]at hchk
 refine Py (D.cuts.map CD.key) (fun i hi=>Ir hi) c 0 (fun p hp h L h1 h2 R vals objs K r hr=>?_) (fun p hp J L h1 h2 R vals objs K r hr=>?_)
 ·have h1':(match KQ p.1 D.unr with|some h=>some h|none=>KR N p.1 D.loops)=some h:=h1
  split at h1'
  ·rename_i h0 hu
   cases h1'
   rw[Im hu]at h2
   cases h2
  obtain⟨L0,hm0,he0,rfl⟩:=Ip h1'
  cases h2
  have hr':(match L0.q.dec vals objs with
   |some x=>L0.q.app (L0.G R K N) x
   |none=>KP N R K vals objs L0.alts)=some r:=hr
  obtain⟨LL,hm,he,hlive,hfix,hout,hr2⟩:∃LL∈D.loopsX,LL.cur=p.1∧LL.live=L0.live∧LL.fix=L0.fix∧LL.out=L0.out∧LL.q.mat (LL.G R K N) vals objs=some r:=by
   split at hr'
   ·rename_i x hx
    exact⟨L0,List.mem_flatMap.2 ⟨L0,hm0,by simp⟩,he0,rfl,rfl,rfl,by unfold Pat.mat;rw[hx];exact hr'⟩
   ·obtain⟨a,ha,h⟩:=Io hr'
    exact⟨L0.by a,List.mem_flatMap.2 ⟨L0,hm0,List.mem_cons_of_mem _ (List.mem_map.2 ⟨a,ha,rfl⟩)⟩,he0,rfl,rfl,rfl,h⟩
  have hok:=hL.mem LL hm
  obtain⟨x,hx1,hx2,hx3⟩:=LL.q.mat_some hr2
  subst hx1;subst hx2
  show zn (fun vals objs k=>iL D.ee (D.H N) D.q.o.length D.fn.ntmps N p.2 p.1 (uA L0.live vals objs) k) (iz D.q.o.length L0.live L0.fix) (fun e=>iz D.q.o.length (L0.out e).1 (L0.out e).2) N (LL.q.ev x) (LL.q.eo x) K=some r
  rw[← hlive,← hfix,← hout]
  have hcode:D.lcode LL.cur=p.2:=by
   unfold FD.lcode
   rw[hb,he,HH hchk.1 p hp];rfl
  have key:∀n x,zn (fun vals objs k=>iL D.ee (D.H N) D.q.o.length D.fn.ntmps N p.2 p.1 (uA LL.live vals objs) k) (iz D.q.o.length LL.live LL.fix) (fun e=>iz D.q.o.length (LL.out e).1 (LL.out e).2) n (LL.q.ev x) (LL.q.eo x) K=LL.q.app (LL.G R K n) x:=by
   intro n
   induction n with
   |zero=>intro x;exact(hok.zero R K x).symm
   |succ n ih=>
    intro x
    rw[RI,hok.succ R K n x]
    have hs:=hok.step R K (fun v o=>zn (fun vals objs k=>iL D.ee (D.H N) D.q.o.length D.fn.ntmps N p.2 p.1 (uA LL.live vals objs) k) (iz D.q.o.length LL.live LL.fix) (fun e=>iz D.q.o.length (LL.out e).1 (LL.out e).2) n v o K) x
    rw[hcode,he]at hs
    refine hs.trans ?_
    congr 2
    refine LL.q.ext _ _ fun y=>?_
    exact(LL.q.app_cur _ y).trans (ih y)
  exact(key N x).trans hx3
 ·have h1':=h1
  unfold cutAt at h1'
  split at h1'
  ·rename_i i hi
   obtain⟨LL,hm,he,rfl⟩:=Iq (show EA i D.cuts=some J from h1')
   cases h2
   have hok:=hC.mem LL hm
   obtain⟨x,hx1,hx2,hx3⟩:=LL.q.mat_some hr
   subst hx1;subst hx2
   have hcode:D.ccode LL.key=p:=by
    unfold FD.ccode
    have hmem:((ou p.2).getD 0,p)∈RZ (D.cuts.map CD.key) c:=List.mem_map.2 ⟨p,hp,rfl⟩
    have:=HH hchk.2 _ hmem
    simp only[hi,Option.getD_some]at this
    rw[hb,he,this];rfl
   have:=hok R K x
   rw[hcode]at this
   exact this.trans hx3
  ·cases h1'
theorem An:∀(l:List (ShO S))(y:TOL l),(KN l y).length=l.length
 | [],_=>rfl
 |_::l,y=>congrArg (· + 1) (An l y.2)
theorem FD.ct{E:Env S}(hE:eg E)(D:FD E)(N:Nat)(F:(R:Type)→(Res S→Option R)→D.q.Fn (Option R))(hfn:E.P.funcs[D.f]?=some D.fn:=by kernel_rfl)(hname:(D.fn.name == "runtime.NumGoroutine")=false:=by kernel_rfl)(hchk:D.chk=true:=by kernel_rfl)(hnd:D.nd=false:=by kernel_rfl)(hL:All (D.LOk N) D.loopsX:=by repeat (first|exact True.intro|refine And.intro ⟨fun _ _ _=>by kernel_rfl,fun _ _ _ _=>by kernel_rfl,fun _ _ _ _=>by kernel_rfl⟩ ?_))(hC:All (D.COk N) D.cuts:=by repeat (first|exact True.intro|refine And.intro (fun _ _ _=>by kernel_rfl) ?_))(run:∀(R:Type)(k:Res S→Option R)(x:D.q.T),Tl D.ee (D.H N) N D.fn (D.q.ev x) (D.q.eo x) k=D.q.app (F R k) x:=by intros;kernel_rfl):Ct.ok E ⟨D.f,D.q,F⟩:=by
 intro R x k r h
 have hlen:(D.q.eo x).length=D.q.o.length:=An _ _
 have hlo:=D.loopsOK N hchk hL hC
 rw[← hlen]at hlo
 obtain⟨res,h1,h2⟩:=Ib hE.withCall (PJ D.g).callf hnd (f:=D.f) hfn hname hlo ((run R k x).trans h)
 exact⟨res,h1,h2.unCall⟩
theorem FD.ctq{E:Env S}(hE:eg E)(D:FD E)(N:Nat)(F:(R:Type)→(TV S→List (Obj S)→Option R)→D.q.Fn (Option R))(hfn:E.P.funcs[D.f]?=some D.fn:=by kernel_rfl)(hname:(D.fn.name == "runtime.NumGoroutine")=false:=by kernel_rfl)(hchk:D.chk=true:=by kernel_rfl)(hnd:D.nd=false:=by kernel_rfl)(hL:All (D.LOk N) D.loopsX:=by repeat (first|exact True.intro|refine And.intro ⟨fun _ _ _=>by kernel_rfl,fun _ _ _ _=>by kernel_rfl,fun _ _ _ _=>by kernel_rfl⟩ ?_))(hC:All (D.COk N) D.cuts:=by repeat (first|exact True.intro|refine And.intro (fun _ _ _=>by kernel_rfl) ?_))(run:∀(R:Type)(k:Res S→Option R)(x:D.q.T),Tl D.ee (D.H N) N D.fn (D.q.ev x) (D.q.eo x) k=D.q.app (F R fun v ns=>k ⟨v,some (D.q.eo x),ns⟩) x:=by intros;kernel_rfl):Ct.ok E ⟨D.f,D.q,fun R k=>F R fun v ns=>k ⟨v,none,ns⟩⟩:=by
 intro R x k r h
 have hlen:(D.q.eo x).length=D.q.o.length:=An _ _
 have hlo:=D.loopsOK N hchk hL hC
 rw[← hlen]at hlo
 have hq:(fun v ns=>KH (D.q.eo x) k ⟨v,some (D.q.eo x),ns⟩)=fun v ns=>k ⟨v,none,ns⟩:=funext fun _=>funext fun _=>UJ _ _ _ _
 have hr:=run R (KH (D.q.eo x) k) x
 rw[hq]at hr
 obtain⟨res,h1,h2⟩:=Ib hE.withCall (PJ D.g).callf hnd (f:=D.f) hfn hname hlo (hr.trans h)
 exact WY h1 h2.unCall
theorem Ct.ok_none{E:Env S}{c:Ct S}(h:∀(R:Type)(k:Res S→Option R)(x:c.q.T),c.q.app (c.F R k) x=none:=by intros;kernel_rfl):c.ok E:=fun R x k r e=>by rw[h]at e;cases e
end TE
