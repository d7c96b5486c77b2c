/- TE: a small evaluator over the model's own Code, on plain values: definitions. -/
import Derived.Orders
namespace TE
open Go
structure Sig where
 K:Type
 El:K→Type
 deq:DecidableEq K
 tight:K→Bool
instance (S : Sig) : DecidableEq S.K := S.deq
inductive TV(S:Sig):Type
 |dead
 |undef
 |bool (b:Bool)
 |int (k:IntKind) (n:Int)
 |str (s:List UInt8)
 |nilp
 |ptr (nm i k:Nat)
 |iptr (c:S.K) (x:S.El c) (k:Nat)
 |nils
 |slw (nm:Nat)
 |sl (nm off len:Nat)
 |tree (c:S.K) (xs:List (S.El c))
 |nilm
 |map (nm:Nat)
 |nilf
 |fn (f:FuncId) (cap:List (TV S))
 |nili
 |iface (t:TypeId) (v:TV S)
 |agg (cs:List (TV S))
 |tup (vs:List (TV S))
instance {S : Sig} : Inhabited (TV S) := ⟨.dead⟩
inductive RM|own|app|ro
 deriving DecidableEq
inductive Sc:Type
 |bool (b:Bool)
 |int (k:IntKind) (n:Int)
 |str (s:List UInt8)
 deriving DecidableEq
inductive ScK:Type
 |bool
 |int (k:IntKind)
 |str
 deriving DecidableEq
def Sc.kind:Sc→ScK
 | .bool _ => .bool
 | .int k _ => .int k
 | .str _ => .str
def shaped(sh:List ScK)(k:List Sc):Bool:=decide (k.map Sc.kind=sh)
inductive DX(α:Type)
 |full (xs:List α)
 |hole (xs:List α) (i:Nat)
 |gen (xs:List (Option α))
def DX.get{α:Type}:DX α→List (Option α)
 | .full xs=>xs.map some
 | .hole xs i=>(xs.map some).set i none
 | .gen xs=>xs
def DX.len{α:Type}:DX α→Nat
 | .full xs=>xs.length
 | .hole xs _=>xs.length
 | .gen xs=>xs.length
theorem DX.get_len{α:Type}(d:DX α):d.get.length=d.len:=by cases d<;>simp[DX.get,DX.len]
inductive Obj(S:Sig):Type
 |gone
 |box (cs:List (TV S))
 |row (c:S.K) (xs:List (S.El c)) (m:RM)
 |deep (c:S.K) (xs:DX (S.El c))
structure Res(S:Sig) where
 v:TV S
 xs:Option (List (Obj S))
 ns:List (Obj S)
inductive LK(S:Sig)
 |row (c:S.K) (m:RM)
 |tree (c:S.K)
 |fresh (c:S.K) (m:RM)
 |deep (c:S.K)
structure Tgt where
 slot:Nat
 path:List Nat
structure St(S:Sig) where
 t:Nat→TV S
 o:Nat→Option (Obj S)
 next:Nat
inductive Ex|normal|exit(id:Nat)|ret
structure zk(S:Sig) where
 live:List Nat
 fix:List (Tgt×LK S):=[]
 out:Ex→List Nat×List (Tgt×LK S)
 oracle:Option ((R:Type)→List (TV S)→List (Obj S)→(Ex→List (TV S)→List (Obj S)→Option R)→Option R):=none
structure Hint(S:Sig) where
 loops:Nat→Option (zk S):=fun _=>none
 mode:Nat→RM:=fun _ => .app
 exit:List (Tgt×LK S):=[]
 fork:Bool:=false
 nd:Bool:=false
 cuts:Nat→Option (zk S):=fun _=>none
structure Env(S:Sig) where
 P:Program
 enc:(c:S.K)→S.El c→List (TV S)
 dec:(c:S.K)→List (TV S)→Option (S.El c)
 sz:S.K→Nat
 code:TypeId→Option S.K
 callf:FuncId→List (TV S)→List (Obj S)→(R:Type)→(Res S→Option R)→Option R
 asObj:FuncId→Nat→Bool
 sub:S.K→Nat→Bool:=fun _ _=>false
structure Eff(S:Sig) where
 v:TV S
 rd:List Nat
 wr:List (Nat×Obj S)
 nx:Nat
variable{S:Sig}
def bp{α:Type}(f:Nat→α)(d:Nat)(v:α):Nat→α:=fun n=>bif Nat.beq n d then v else f n
theorem af{α:Type}(f:Nat→α)(d:Nat)(v:α):bp f d v d=v:=by
 unfold bp
 rw[Nat.beq_refl];rfl
theorem aq{α:Type}(f:Nat→α){d n:Nat}(v:α)(h:n≠d):bp f d v n=f n:=by
 have:Nat.beq n d=false:=by
  cases hb:Nat.beq n d with
  |false=>rfl
  |true=>exact absurd (Nat.eq_of_beq_eq_true hb) h
 unfold bp
 rw[this];rfl
def hasN(i:Nat):List Nat→Bool
 | []=>false
 |x::r=>bif Nat.beq i x then true else hasN i r
def aL{α:Type}(f:Nat→Option α):List (Nat×α)→Nat→Option α
 | []=>f
 |(n,o)::r=>aL (bp f n (some o)) r
def Ki:Value→TV S
 | .bool b => .bool b
 | .int k n => .int k n
 | .string s => .str s.data.toList
 | .pointer none => .nilp
 | .slice none 0 0 => .nils
 | .map none => .nilm
 | .nilFunc => .nilf
 | .nilIface => .nili
 |_ => .dead
def RB:Value→TV S
 | .agg vs => .agg (vs.toList.map Ki)
 |v=>Ki v
def ev(t:Nat→TV S):Operand→TV S
 | .tmp i=>t i
 | .const v=>RB v
 | .func f => .fn f []
 | .global _ => .dead
def tok{S:Sig}(c:S.K)(xs:List (S.El c)):Bool := !S.tight c || !xs.isEmpty
def UB{S:Sig}(c:S.K)(xs:List (S.El c)):RM→Bool
 | .app=>true
 |_=>tok c xs
def iy(o:Nat→Option (Obj S)):TV S→Option (TV S)
 | .slw nm=>match o nm with
  |some (.row c xs m)=>if UB c xs m=true then some (.tree c xs) else none
  |_=>none
 | .sl nm off len=>match o nm with
  |some (.row c xs _)=>if tok c ((xs.drop off).take len)=true then some (.tree c ((xs.drop off).take len)) else none
  |_=>none
 | .bool b=>some (.bool b)
 | .int k n=>some (.int k n)
 | .str s=>some (.str s)
 | .nilp=>some .nilp
 | .nils=>some .nils
 | .tree c xs=>some (.tree c xs)
 | .nilm=>some .nilm
 | .nilf=>some .nilf
 | .nili=>some .nili
 |_=>none
def aG:TV S→List Nat
 | .slw nm=>[nm]
 | .sl nm _ _=>[nm]
 |_=>[]
def eJ(o:Nat→Option (Obj S))(ns:List Nat):List (Nat×Obj S):=
 ns.filterMap fun n=>match o n with
  |some (.row c xs .own)=>some (n,.row c xs .ro)
  |_=>none
def cellsOf:TV S→List (TV S)
 | .agg cs=>cs
 |v=>[v]
def elem(E:Env S)(o:Nat→Option (Obj S))(c:S.K)(v:TV S):Option (S.El c):=
 ((cellsOf v).mapM (iy o)).bind (E.dec c)
def uy{c d:S.K}(h:c=d)(xs:List (S.El c)):List (S.El d):=h▸xs
def rG(o:Nat→Option (Obj S))(c:S.K):TV S→Option (List (S.El c))
 | .nils=>some []
 | .slw nm=>match o nm with
  |some (.row d xs _)=>if h:d=c then some (uy h xs) else none
  |_=>none
 | .sl nm off len=>match o nm with
  |some (.row d xs _)=>if h:d=c then some (((uy h xs).drop off).take len) else none
  |_=>none
 | .tree d xs=>if h:d=c then some (uy h xs) else none
 |_=>none
def lenOf(o:Nat→Option (Obj S)):TV S→Option Nat
 | .nils=>some 0
 | .slw nm=>match o nm with
  |some (.row _ xs _)=>some xs.length
  |some (.deep _ xs)=>some xs.len
  |_=>none
 | .sl nm _ len=>match o nm with
  |some (.row _ _ _)=>some len
  |some (.box _)=>some len
  |_=>none
 | .tree _ xs=>some xs.length
 | .str s=>some s.length
 | .nilm=>some 0
 |_=>none
def vU(E:Env S)(e:TypeId)(c:S.K):Bool:=
 match E.code e with
 |some d=>decide (d=c)
 |none=>false
def sj(E:Env S)(o:Nat→Option (Obj S))(e:TypeId):TV S→Bool
 | .nils=>(E.code e).isSome
 | .tree c _=>vU E e c
 | .slw nm=>match o nm with
  |some (.row c _ _)=>vU E e c
  |_=>false
 | .sl nm _ _=>match o nm with
  |some (.row c _ _)=>vU E e c
  |_=>false
 |_=>false
def isStr:TV S→Bool
 | .str _=>true
 |_=>false
def RC:TypeDesc→Bool
 | .struct _ | .array _ _=>true
 |_=>false
def xY(P:Program)(t:TypeId):Option (Bool×Nat):=
 match P.info? t,P.underlying t with
 |some i,some d=>some (RC d,i.size)
 |_,_=>none
def bY(agg:Bool)(n k:Nat)(cs:List (TV S)):Option (TV S):=
 if agg then(if k+n≤cs.length then some (.agg ((cs.drop k).take n)) else none) else cs[k]?
def behind(E:Env S)(o:Nat→Option (Obj S)):TV S→Option (List (TV S)×Nat×List Nat)
 | .ptr nm i k=>match o nm with
  |some (.box cs)=>if i=0 then some (cs,k,[nm]) else none
  |some (.row c xs _)=>(xs[i]?).map fun x=>(E.enc c x,k,[nm])
  |_=>none
 | .iptr c x k=>some (E.enc c x,k,[])
 |_=>none
def setCells(cs:List (TV S))(k:Nat):List (TV S)→List (TV S)
 | []=>cs
 |v::r=>setCells (cs.set k v) (k+1) r
def gB:List (TV S)→Option (List (List UInt8))
 | []=>some []
 | .str s::r=>(gB r).map (s :: ·)
 |_::_=>none
def gC(k:IntKind):List (TV S)→Option (List Int)
 | []=>some []
 | .int k' n::r=>if k=k' then(gC k r).map (n :: ·) else none
 |_::_=>none
def WD{R:Type}(cs:List (TV S))(n:Nat)(k:TV S→Option R):Option R:=
 match gB cs with
 |some l=>(l[n]?).bind fun s=>k (.str s)
 |none=>match gC .i64 cs with
  |some l=>(l[n]?).bind fun s=>k (.int .i64 s)
  |none=>match cs[n]? with
   |some v=>k v
   |none=>none
def bytesLess:List UInt8→List UInt8→Bool
 |_,[]=>false
 | [],_::_=>true
 |a::x,b::y=>a<b||(a==b&&bytesLess x y)
def Td(op:BinOp)(k:IntKind)(a b:Int):Option (TV S):=
 match op with
 | .add=>some (.int k (k.wrap (a+b)))
 | .sub=>some (.int k (k.wrap (a-b)))
 | .mul=>some (.int k (k.wrap (a*b)))
 | .quo=>if b=0 then none else some (.int k (k.wrap (a.tdiv b)))
 | .rem=>if b=0 then none else some (.int k (a.tmod b))
 | .and=>some (.int k (k.wrap (BitVec.ofInt k.bits a &&& BitVec.ofInt k.bits b).toNat))
 | .or=>some (.int k (k.wrap (BitVec.ofInt k.bits a ||| BitVec.ofInt k.bits b).toNat))
 | .xor=>some (.int k (k.wrap (BitVec.ofInt k.bits a ^^^ BitVec.ofInt k.bits b).toNat))
 | .andNot=>some (.int k (k.wrap (BitVec.ofInt k.bits a &&& ~~~BitVec.ofInt k.bits b).toNat))
 | .eql=>some (.bool (a==b))
 | .neq=>some (.bool (a != b))
 | .lss=>some (.bool (decide (a<b)))
 | .leq=>some (.bool (decide (a≤b)))
 | .gtr=>some (.bool (decide (a>b)))
 | .geq=>some (.bool (decide (a≥b)))
 |_=>none
def YB(op:BinOp)(a b:List UInt8):Option (TV S):=
 match op with
 | .add=>if a.length+b.length≤2^40 then some (.str (a++b)) else none
 | .eql=>some (.bool (a==b))
 | .neq=>some (.bool (!(a==b)))
 | .lss=>some (.bool (bytesLess a b))
 | .leq=>some (.bool (bytesLess a b||a==b))
 | .gtr=>some (.bool (!(bytesLess a b||a==b)))
 | .geq=>some (.bool (!(bytesLess a b)))
 |_=>none
def Kj:TypeDesc→TV S→TV S→Option Bool
 | .bool,.bool a,.bool b=>some (a==b)
 | .int _,.int k a,.int k' b=>if k=k' then some (a==b) else none
 | .string,.str a,.str b=>some (a==b)
 | .pointer _,.nilp,.nilp=>some true
 | .pointer _,.nilp,.ptr _ _ _=>some false
 | .pointer _,.ptr _ _ _,.nilp=>some false
 | .map _ _,.nilm,.nilm=>some true
 | .map _ _,.map _,.nilm=>some false
 | .map _ _,.nilm,.map _=>some false
 | .slice _,.nils,.nils=>some true
 | .func _ _ _,.nilf,.nilf=>some true
 | .func _ _ _,.fn _ _,.nilf=>some false
 | .func _ _ _,.nilf,.fn _ _=>some false
 |_,_,_=>none
def eqFields(eq:TypeId→TV S→TV S→Option Bool)(P:Program)(xs ys:List (TV S)):List Field→Option Bool
 | []=>some true
 |f::r=>
  if f.name = "_" then eqFields eq P xs ys r else
  match xY P f.type with
  |none=>none
  |some (ag,n)=>
   match bY ag n f.offset xs,bY ag n f.offset ys with
   |some a,some b=>match eq f.type a b with
    |none=>none
    |some q=>match eqFields eq P xs ys r with
     |none=>none
     |some q'=>some (q&&q')
   |_,_=>none
def Hv(P:Program):Nat→TypeId→TV S→TV S→Option Bool
 |0,_,_,_=>none
 |d+1,t,x,y=>
  match P.underlying t with
  |none=>none
  |some (.struct fs)=>match x,y with
   | .agg xs,.agg ys=>if P.stoodInHeld t then none else eqFields (Hv P d) P xs ys fs.toList
   |_,_=>none
  |some td=>Kj td x y
def qB(P:Program)(op:BinOp)(xt:TypeId)(x y:TV S):Option (TV S):=
 match op with
 | .eql=>(Hv P 40 xt x y).map TV.bool
 | .neq=>(Hv P 40 xt x y).map fun b=>TV.bool (!b)
 |_=>none
def Te(P:Program)(op:BinOp)(xt:TypeId)(x y:TV S):Option (TV S):=
 match x,y with
 | .bool a,.bool b=>qB P op xt (.bool a) (.bool b)
 | .nilp,.nilp=>qB P op xt .nilp .nilp
 | .nilp,.ptr n i k=>qB P op xt .nilp (.ptr n i k)
 | .ptr n i k,.nilp=>qB P op xt (.ptr n i k) .nilp
 | .nilm,.nilm=>qB P op xt .nilm .nilm
 | .map n,.nilm=>qB P op xt (.map n) .nilm
 | .nilm,.map n=>qB P op xt .nilm (.map n)
 | .nils,.nils=>qB P op xt .nils .nils
 | .nilf,.nilf=>qB P op xt .nilf .nilf
 | .fn f c,.nilf=>qB P op xt (.fn f c) .nilf
 | .nilf,.fn f c=>qB P op xt .nilf (.fn f c)
 | .agg xs,.agg ys=>if P.eqGuardType P.depth xt=true then none else qB P op xt (.agg xs) (.agg ys)
 |_,_=>none
def RD(op:UnOp)(x:TV S):Option (TV S):=
 match op,x with
 | .neg,.int k n=>some (.int k (k.wrap (0-n)))
 | .not,.bool b=>some (.bool (!b))
 | .xor,.int k n=>Td .xor k (if k.signed then -1 else k.max) n
 |_,_=>none
def Hw(P:Program)(t:TypeId):Option (Nat→Option (Nat×Nat)):=
 match P.underlying t with
 |some (.struct fs)=>(fs.toList.mapM fun f=>(P.info? f.type).map fun i=>(f.offset,i.size)).map fun l i=>l[i]?
 |some (.array _ e)=>(P.info? e).map fun i=>fun j=>some (j*i.size,i.size)
 |_=>none
def Mj(place:Nat→Option (Nat×Nat))(cs:List (TV S)):List (Nat×TV S)→Option (List (TV S))
 | []=>some cs
 |(i,v)::r=>
  match place i with
  |none=>none
  |some (off,n)=>
   if(cellsOf v).length=n∧off+n≤cs.length then Mj place (setCells cs off (cellsOf v)) r else none
def Kk(P:Program)(t:TypeId):Option (List (TV S)):=
 match P.info? t with
 |some i=>i.zero.map fun z=>z.cells.toList.map Ki
 |none=>none
def ah:Nat:=2^36
def bF:TV S→Bool
 | .agg _=>false
 | .tup _=>false
 | .dead=>false
 | .undef=>false
 |_=>true
mutual
def bZ:TV S→List Nat
 | .ptr nm _ _=>[nm]
 | .slw nm=>[nm]
 | .sl nm _ _=>[nm]
 | .map nm=>[nm]
 | .fn _ cap=>kB cap
 | .iface _ v=>bZ v
 | .agg cs=>kB cs
 | .tup cs=>kB cs
 |_=>[]
def kB:List (TV S)→List Nat
 | []=>[]
 |v::r=>bZ v++kB r
end
mutual
def ren(ρ:Nat→Nat):TV S→TV S
 | .ptr nm i k => .ptr (ρ nm) i k
 | .slw nm => .slw (ρ nm)
 | .sl nm off len => .sl (ρ nm) off len
 | .map nm => .map (ρ nm)
 | .fn f cap => .fn f (Eo ρ cap)
 | .iface t v => .iface t (ren ρ v)
 | .agg cs => .agg (Eo ρ cs)
 | .tup cs => .tup (Eo ρ cs)
 |v=>v
def Eo(ρ:Nat→Nat):List (TV S)→List (TV S)
 | []=>[]
 |v::r=>ren ρ v::Eo ρ r
end
def zl:Obj S→List Nat
 | .box cs=>kB cs
 |_=>[]
def dJ(ρ:Nat→Nat):Obj S→Obj S
 | .box cs => .box (Eo ρ cs)
 | .row c xs m => .row c xs m
 | .deep c xs => .deep c xs
 | .gone => .gone
def RE(o:Nat→Option (Obj S))(n:Nat):List Nat:=match o n with
 |some x=>zl x
 |none=>[]
def reach(o:Nat→Option (Obj S)):Nat→List Nat→List Nat→List Nat
 |0,_,seen=>seen
 |_+1,[],seen=>seen
 |k+1,n::todo,seen=>
  if seen.contains n then reach o k todo seen
  else reach o k (RE o n++todo) (seen++[n])
section
variable{R:Type}
def Kl(E:Env S)(o:Nat→Option (Obj S))(base:Nat)(e:TypeId)(x:TV S)(n:Int)(k:Eff S→Option R):Option R:=
 match x,xY E.P e with
 | .sl nm 0 len,some (_,1)=>match o nm with
  |some (.box _)=>if 0≤n∧n<len then k ⟨.ptr nm 0 n.toNat,[nm],[],base⟩ else none
  |_=>none
 |_,_=>none
def Nj(E:Env S)(o:Nat→Option (Obj S))(base:Nat)(e:TypeId)(x:TV S)(n:Int)(k:Eff S→Option R):Option R:=
 match x with
 | .slw nm=>match o nm with
  |some (.deep c xs)=>if vU E e c=true then(if 0≤n∧n<xs.len then k ⟨.ptr nm n.toNat 0,[nm],[],base⟩ else none) else none
  |_=>none
 |y=>Kl E o base e y n k
def Gc(E:Env S)(base:Nat)(e:TypeId)(n:Nat)(is:List Nat)(vs:List (TV S))(k:Eff S→Option R):Option R:=
 match xY E.P e,(Kk E.P e:Option (List (TV S))) with
 |some (_,s),some _=>if(is=List.range n∧n*s≤1000)∧vs.all (fun v=>decide ((cellsOf v).length=s)&&(cellsOf v).all bF)=true then k ⟨.sl base 0 n,[],[(base,.box (vs.flatMap cellsOf))],base+1⟩ else none
 |_,_=>none
end
def Dv(E:Env S)(d:S.K):Bool:=(List.range (E.sz d)).any (E.sub d)
def qC(E:Env S)(d:S.K)(ys:List (S.El d)):Obj S:=if Dv E d=true then .deep d (.full ys) else .row d ys .own
def vV(E:Env S)(c:S.K):Nat→Nat→List (TV S)→List (TV S)
 |_,_,[]=>[]
 |j,b,v::r=>if E.sub c j=true then .slw b::vV E c (j+1) (b+1) r else v::vV E c (j+1) b r
def RF(E:Env S):TV S→Obj S
 | .tree d ys=>qC E d ys
 |_ => .gone
def rh(E:Env S)(c:S.K):Nat→Nat→List (TV S)→List (Nat×Obj S)
 |_,_,[]=>[]
 |j,b,v::r=>if E.sub c j=true then(b,RF E v)::rh E c (j+1) (b+1) r else rh E c (j+1) b r
def Km(E:Env S)(o:Nat→Option (Obj S))(c:S.K)(j:Nat)(v:TV S):Option (TV S×List Nat):=
 if E.sub c j=true then(match v with
  | .nils=>some (.nils,[])
  | .slw n=>match o n with
   |some (.deep d (.full ys))=>if Dv E d=true then some (.tree d ys,[n]) else none
   |some (.row d ys .own)=>if Dv E d=true then none else some (.tree d ys,[n])
   |_=>none
  |_=>none)
 else(iy o v).map fun p=>(p,[])
def BU(E:Env S)(o:Nat→Option (Obj S))(c:S.K):Nat→List (TV S)→Option (List (TV S)×List Nat)
 |_,[]=>some ([],[])
 |j,v::r=>match Km E o c j v,BU E o c (j+1) r with
  |some (p,ns),some (ps,ms)=>some (p::ps,ns++ms)
  |_,_=>none
def frozenIn(E:Env S)(c:S.K):Nat→List (TV S)→List Nat
 |_,[]=>[]
 |j,v::r=>if E.sub c j=true then frozenIn E c (j+1) r else aG v++frozenIn E c (j+1) r
section
variable{R:Type}
def sm(E:Env S)(o:Nat→Option (Obj S))(c:S.K)(cs:List (TV S))(ns:List Nat):List (Nat×Obj S):=
 eJ o (frozenIn E c 0 cs)++ns.map fun n=>(n,.gone)
def Nk(nm:Nat)(ns fs:List Nat):Bool := !ns.contains nm && !fs.contains nm&&ns.all (fun n => !fs.contains n)&&decide ns.Nodup
def Hx(E:Env S)(o:Nat→Option (Obj S))(base nm i:Nat)(c:S.K)(d:DX (S.El c))(cs:List (TV S))(k:Eff S→Option R):Option R:=
 match BU E o c 0 cs with
 |none=>none
 |some (ps,ns)=>if(Nk nm ns (frozenIn E c 0 cs)&&decide (cs.length=E.sz c))=true then
  (match E.dec c ps with
  |none=>none
  |some z=>match d with
   | .full xs=>if i<xs.length then k ⟨.undef,nm::cs.flatMap aG,sm E o c cs ns++[(nm,.deep c (.full (xs.set i z)))],base⟩ else none
   | .hole xs j=>if i=j∧i<xs.length then k ⟨.undef,nm::cs.flatMap aG,sm E o c cs ns++[(nm,.deep c (.full (xs.set i z)))],base⟩ else none
   | .gen _=>none) else none
def Kn(E:Env S)(base:Nat)(ag:Bool)(n nm i k':Nat)(c:S.K)(d:DX (S.El c))(k:Eff S→Option R):Option R:=
 match d with
 | .full xs=>match xs[i]? with
  |some x=>
   if(decide (1≤n)&&(List.range n).all fun j => !E.sub c (k'+j))=true then(match bY ag n k' (E.enc c x) with
    |some v=>k ⟨v,[nm],[],base⟩
    |none=>none)
   else if(k'=0∧n=E.sz c)∧ag=true then k ⟨.agg (vV E c 0 base (E.enc c x)),[nm],(nm,.deep c (.hole xs i))::rh E c 0 base (E.enc c x),base+(rh E c 0 base (E.enc c x)).length⟩
   else none
  |none=>none
 |_=>none
def RG(E:Env S)(o:Nat→Option (Obj S))(c:S.K)(y:TV S):Option (Nat×List (TV S)):=
 match y with
 | .sl nm 0 1=>match o nm with
  |some (.box cs)=>if(Dv E c&&decide (cs.length=E.sz c)&&cs.all bF)=true then some (nm,cs) else none
  |_=>none
 |_=>none
def Ep(E:Env S)(o:Nat→Option (Obj S))(base:Nat)(c:S.K)(x:TV S)(bn:Nat)(cs:List (TV S))(k:Eff S→Option R):Option R:=
 match x with
 | .slw nm=>match o nm with
  |some (.deep d (.full xs))=>if h:d=c then
    (match BU E o c 0 cs with
    |none=>none
    |some (ps,ns)=>if Nk nm ns (frozenIn E c 0 cs)=true then
     (match E.dec c ps with
     |none=>none
     |some z=>if xs.length+1≤ah then k ⟨.slw base,nm::bn::cs.flatMap aG,((nm,.gone)::sm E o c cs ns)++[(base,.deep c (.full ((h▸xs)++[z])))],base+1⟩ else none) else none) else none
  |_=>none
 |_=>none
end
def at?{α:Type}(xs:List α)(n:Int):Option α:=if n<0 then none else xs[n.toNat]?
def ifB(q w:Bool)(x:Option Bool)(y:Option Bool):Option Bool:=if(q==w)=true then x else y
def Ko(o:Nat→Option (Obj S)):TV S→Option (TV S)
 | .slw nm=>match o nm with
  |some (.row c xs .app)=>some (.tree c xs)
  |some (.row c xs .ro)=>if tok c xs=true then some (.tree c xs) else none
  |_=>none
 | .sl nm off len=>match o nm with
  |some (.row c xs .app)=>if tok c ((xs.drop off).take len)=true then some (.tree c ((xs.drop off).take len)) else none
  |some (.row c xs .ro)=>if tok c ((xs.drop off).take len)=true then some (.tree c ((xs.drop off).take len)) else none
  |_=>none
 |v=>some v
def Nl(o:Nat→Option (Obj S)):TV S→Option (TV S)
 | .agg cs=>some (.agg (cs.map fun c=>(Ko o c).getD c))
 |v=>Ko o v
def zm(E:Env S)(o:Nat→Option (Obj S))(f:FuncId):Nat→List (TV S)→Option (List (TV S))
 |_,[]=>some []
 |j,v::r=>match zm E o f (j+1) r with
  |some r=>some ((if E.asObj f j then v else(Nl o v).getD v)::r)
  |none=>none
def fR(o:Nat→Option (Obj S))(ks roots:List Nat):Bool:=
 (roots.all fun n=>ks.contains n)&&ks.all fun n=>match o n with
  |some x=>(zl x).all fun m=>ks.contains m
  |none=>false
def tM(ks:List Nat)(base i:Nat):Nat:=match ks[i]? with
 |some n=>n
 |none=>base+(i-ks.length)
def ZQ(n:Nat):Option (List (Obj S))→Bool
 |none=>true
 |some xs=>xs.length==n
def CA(ks:List Nat)(base:Nat):Option (List (Obj S))→List (Nat×Obj S)
 |none=>[]
 |some xs=>ks.zip (xs.map (dJ (tM ks base)))
section cps
variable{R:Type}
def Kp(E:Env S)(o:Nat→Option (Obj S))(base:Nat)(f:FuncId)(args:List (TV S))(k:Eff S→Option R):Option R:=
 match zm E o f 0 args with
 |none=>none
 |some args' =>
  let ks:=reach o 400 (kB args') []
  if fR o ks (kB args')=true then
   E.callf f (Eo (fun n=>ks.idxOf n) args') (ks.map fun n=>dJ (fun n=>ks.idxOf n) ((o n).getD .gone)) R fun r=>
    if ZQ ks.length r.xs=true then
     k ⟨ren (tM ks base) r.v,kB args++ks,
      CA ks base r.xs++(r.ns.zipIdx.map fun p=>(base+p.2,dJ (tM ks base) p.1)),
      base+r.ns.length⟩
    else none
  else none
def Er(o:Nat→Option (Obj S))(base:Nat)(m:RM)(c:S.K)(x y:TV S)(k:Eff S→Option R):Option R:=
 match rG o c y with
 |none=>none
 |some ys=>
  match x with
  | .nils=>if ys.length≤ah then k ⟨.slw base,aG y,[(base,.row c ys m)],base+1⟩ else none
  | .tree d xs=>if S.tight d&&xs.isEmpty&&decide (d=c) then(if ys.length≤ah then k ⟨.slw base,aG y,[(base,.row c ys m)],base+1⟩ else none) else none
  | .slw nm=>match o nm with
   |some (.row d xs m')=>if h:d=c then
     (match m' with
     | .app=>if xs.length+ys.length≤ah then k ⟨.slw base,nm::aG y,[(nm,.row d xs .ro),(base,.row c (uy h xs++ys) .app)],base+1⟩ else none
     | .own=>if xs.length+ys.length≤ah then k ⟨.slw base,nm::aG y,[(nm,.gone),(base,.row c (uy h xs++ys) .own)],base+1⟩ else none
     | .ro=>none) else none
   |_=>none
  |_=>none
def Tf(P:Program)(t:Option TypeDesc)(x:TV S)(i:Int)(k:TV S→Option R):Option R:=
 match t,x with
 |some .string,.str s=>(at? s i).bind fun b=>k (.int .u8 b.toNat)
 |some (.array L e),.agg cs=>if cs.length=L∧xY P e=some (false,1) then
   (match gB cs with
   |some l=>(at? l i).bind fun s=>k (.str s)
   |none=>match gC .i64 cs with
    |some l=>(at? l i).bind fun n=>k (.int .i64 n)
    |none=>none) else none
 |_,_=>none
def Yi(d:Option TypeDesc)(o:Nat→Option (Obj S))(x:TV S):Option Nat:=
 match d,x with
 |some .string,.str s=>some s.length
 |some (.slice _),.nils=>some 0
 |some (.slice _),.tree _ xs=>some xs.length
 |some (.slice _),.slw nm=>match o nm with
  |some (.row _ xs _)=>some xs.length
  |some (.deep _ d)=>some d.len
  |_=>none
 |some (.slice _),.sl _ _ len=>some len
 |some (.map _ _),.nilm=>some 0
 |_,_=>none
def Nn(x:Option (TV S))(d:Int):Option Int:=
 match x with
 |none=>some d
 |some (.int _ n)=>some n
 |_=>none
def CB(o:Nat→Option (Obj S))(x:TV S)(lo hi:Option (TV S))(k:TV S→List Nat→Option R):Option R:=
 match lenOf o x with
 |none=>none
 |some n=>
  match Nn lo 0,Nn hi n with
  |some l,some h=>
   if 0≤l∧l≤h∧h≤n then
    match x with
    | .str s=>k (.str ((s.take h.toNat).drop l.toNat)) []
    | .tree c xs=>if tok c ((xs.take h.toNat).drop l.toNat)=true then k (.tree c ((xs.take h.toNat).drop l.toNat)) [] else none
    | .nils=>k .nils []
    | .slw nm=>k (.sl nm l.toNat (h.toNat-l.toNat)) [nm]
    | .sl nm off _=>k (.sl nm (off+l.toNat) (h.toNat-l.toNat)) [nm]
    |_=>none
   else none
  |_,_=>none
def vW(P:Program)(t:TypeId)(f:Nat):Option (Nat×TypeId):=
 match P.underlying t with
 |some (.struct fs)=>match fs[f]? with
  |some fd=>match P.info? fd.type with
   |some i=>if i.size=0 then none else some (fd.offset,fd.type)
   |none=>none
  |none=>none
 |_=>none
def Kq(E:Env S)(src dst:TypeId)(x:TV S):Option (TV S):=
 match E.P.underlying src,E.P.underlying dst,x with
 |some _,some (.int k),.int _ n=>some (.int k (k.wrap n))
 |some _,some .string,.str s=>some (.str s)
 |_,_,_=>none
def Ge(P:Program)(op:BinOp)(xt:TypeId)(x y:TV S)(k:TV S→Option R):Option R:=
 match x,y with
 | .int j a,.int j' b=>
  match op with
  | .shl=>if b<0 then none else k (.int j (j.wrap (a*2^(min b.toNat j.bits))))
  | .shr=>if b<0 then none else k (.int j (a.fdiv (2^(min b.toNat j.bits))))
  | .quo=>if b=0 then none else(if j=j' then k (.int j (j.wrap (a.tdiv b))) else none)
  | .rem=>if b=0 then none else(if j=j' then k (.int j (a.tmod b)) else none)
  |_=>if j=j' then(match Td op j a b with|some v=>k v|none=>none) else none
 | .str a,.str b=>match op with
  | .add=>if a.length+b.length≤ah then k (.str (a++b)) else none
  |_=>(match YB op a b with|some v=>k v|none=>none)
 |x,y=>match Te P op xt x y with|some v=>k v|none=>none
def Et(lt:Bool):TV S→List (TV S)→Option (TV S)
 |v,[]=>some v
 | .int k p,.int k' q::r=>if k=k' then Et lt (.int k (if(if lt then q<p else q>p) then q else p)) r else none
 |_,_=>none
def Tg(E:Env S)(H:Hint S)(o:Oper)(t:Nat→TV S)(ob:Nat→Option (Obj S))(base:Nat)(k:Eff S→Option R)(x:Operand):Option R:=
 k ⟨ev t x,[],[],base⟩
def Th(E:Env S)(H:Hint S)(o:Oper)(t:Nat→TV S)(ob:Nat→Option (Obj S))(base:Nat)(k:Eff S→Option R)(c:Operand)(a:Operand)(b:Operand):Option R:=
 match ev t c with
  | .bool q=>match ev t a,ev t b with
   | .bool x,.bool y=>k ⟨.bool (bif q then x else y),[],[],base⟩
   |_,_=>match ev t (bif q then a else b) with
    | .bool x=>k ⟨.bool x,[],[],base⟩
    |_=>none
  |_=>none
def Pf(E:Env S)(H:Hint S)(o:Oper)(t:Nat→TV S)(ob:Nat→Option (Obj S))(base:Nat)(k:Eff S→Option R)(e:TypeId):Option R:=
 match Kk E.P e with
  |some z=>k ⟨.ptr base 0 0,[],[(base,.box z)],base+1⟩
  |none=>none
def WE(E:Env S)(H:Hint S)(o:Oper)(t:Nat→TV S)(ob:Nat→Option (Obj S))(base:Nat)(k:Eff S→Option R)(v:Operand):Option R:=
 if(cellsOf (ev t v)).all bF=true then k ⟨.ptr base 0 0,[],[(base,.box (cellsOf (ev t v)))],base+1⟩ else none
def Pg(E:Env S)(H:Hint S)(o:Oper)(t:Nat→TV S)(ob:Nat→Option (Obj S))(base:Nat)(k:Eff S→Option R)(ty:TypeId)(ps:Array (Nat×Operand)):Option R:=
 match Kk E.P ty,Hw E.P ty with
  |some z,some pl=>if(ps.toList.all fun p=>(cellsOf (ev t p.2)).all bF)=true then
    (match Mj pl z (ps.toList.map fun p=>(p.1,ev t p.2)) with
    |some cs=>k ⟨.agg cs,[],[],base⟩
    |none=>none) else none
  |_,_=>none
def Ti(E:Env S)(H:Hint S)(o:Oper)(t:Nat→TV S)(ob:Nat→Option (Obj S))(base:Nat)(k:Eff S→Option R)(ty:TypeId)(a:Operand):Option R:=
 let pure (v:Option (TV S)) (rd:List Nat):Option R:=match v with|some v=>k ⟨v,rd,[],base⟩|none=>none
 match xY E.P ty,ev t a with
  |some (ag,n),.ptr nm i k'=>match ob nm with
   |some (.box cs)=>if i=0 then(if ag=true then pure (bY ag n k' cs) [nm] else WD cs k' fun v=>k ⟨v,[nm],[],base⟩) else none
   |some (.row c xs _)=>match xs[i]? with
    |some x=>pure (bY ag n k' (E.enc c x)) [nm]
    |none=>none
   |some (.deep c d)=>Kn E base ag n nm i k' c d k
   |_=>none
  |some (ag,n),.iptr c x k'=>pure (bY ag n k' (E.enc c x)) []
  |_,_=>none
def Ph(E:Env S)(H:Hint S)(o:Oper)(t:Nat→TV S)(ob:Nat→Option (Obj S))(base:Nat)(k:Eff S→Option R)(ty:TypeId)(a:Operand)(v:Operand):Option R:=
 match xY E.P ty,ev t a with
  |some (_,n),.ptr nm i k' =>
   let cs:=cellsOf (ev t v)
   if cs.length=n∧cs.all bF=true then
    match ob nm with
    |some (.box old)=>if i=0∧k'+n≤old.length then k ⟨.undef,[nm],[(nm,.box (setCells old k' cs))],base⟩ else none
    |some (.row c xs .own)=>match xs[i]? with
     |some x=>match cs.mapM (iy ob) with
      |some cs'=>if k'+n≤(E.enc c x).length∧(cs.flatMap aG).contains nm=false then
        (match E.dec c (setCells (E.enc c x) k' cs') with
        |some x'=>k ⟨.undef,nm::cs.flatMap aG,eJ ob (cs.flatMap aG)++[(nm,.row c (xs.set i x') .own)],base⟩
        |none=>none) else none
      |none=>none
     |none=>none
    |some (.deep c d)=>if k'=0∧n=E.sz c then Hx E ob base nm i c d cs k else none
    |_=>none
   else none
  |_,_=>none
def HU(E:Env S)(H:Hint S)(o:Oper)(t:Nat→TV S)(ob:Nat→Option (Obj S))(base:Nat)(k:Eff S→Option R)(x:Operand):Option R:=
 match ev t x with
  | .ptr nm i j=>k ⟨.ptr nm i j,[],[],base⟩
  | .iptr c x j=>k ⟨.iptr c x j,[],[],base⟩
  |_=>none
def Pj(E:Env S)(H:Hint S)(o:Oper)(t:Nat→TV S)(ob:Nat→Option (Obj S))(base:Nat)(k:Eff S→Option R)(op:BinOp)(xt:TypeId)(x:Operand)(y:Operand):Option R:=
 Ge E.P op xt (ev t x) (ev t y) fun v=>k ⟨v,[],[],base⟩
def Tj(E:Env S)(H:Hint S)(o:Oper)(t:Nat→TV S)(ob:Nat→Option (Obj S))(base:Nat)(k:Eff S→Option R)(op:UnOp)(x:Operand):Option R:=
 let pure (v:Option (TV S)) (rd:List Nat):Option R:=match v with|some v=>k ⟨v,rd,[],base⟩|none=>none
 pure (RD op (ev t x)) []
def Kr(E:Env S)(H:Hint S)(o:Oper)(t:Nat→TV S)(ob:Nat→Option (Obj S))(base:Nat)(k:Eff S→Option R)(a:TypeId)(b:TypeId)(x:Operand):Option R:=
 match Kq E a b (ev t x) with
  |some v=>k ⟨v,[],[],base⟩
  |none=>none
def Gf(E:Env S)(H:Hint S)(o:Oper)(t:Nat→TV S)(ob:Nat→Option (Obj S))(base:Nat)(k:Eff S→Option R)(st:TypeId)(x:Operand)(f:Nat):Option R:=
 match vW E.P st f,ev t x with
  |some (off,_),.ptr nm i j=>k ⟨.ptr nm i (j+off),[],[],base⟩
  |some (off,_),.iptr c x j=>k ⟨.iptr c x (j+off),[],[],base⟩
  |_,_=>none
def Pk(E:Env S)(H:Hint S)(o:Oper)(t:Nat→TV S)(ob:Nat→Option (Obj S))(base:Nat)(k:Eff S→Option R)(st:TypeId)(x:Operand)(f:Nat):Option R:=
 let pure (v:Option (TV S)) (rd:List Nat):Option R:=match v with|some v=>k ⟨v,rd,[],base⟩|none=>none
 match vW E.P st f,ev t x with
  |some (off,ft),.agg cs=>match xY E.P ft with
   |some (ag,n)=>pure (bY ag n off cs) []
   |none=>none
  |_,_=>none
def Gg(E:Env S)(H:Hint S)(o:Oper)(t:Nat→TV S)(ob:Nat→Option (Obj S))(base:Nat)(k:Eff S→Option R)(ty:TypeId)(x:Operand)(i:Operand):Option R:=
 match E.P.underlying ty,ev t i with
  |some (.slice e),.int _ n=>if sj E ob e (ev t x)=true then
   (match ev t x with
   | .slw nm=>match ob nm with
    |some (.row _ xs _)=>if 0≤n∧n<xs.length then k ⟨.ptr nm n.toNat 0,[nm],[],base⟩ else none
    |_=>none
   | .sl nm off len=>if 0≤n∧n<len then k ⟨.ptr nm (off+n.toNat) 0,[nm],[],base⟩ else none
   | .tree c xs=>(at? xs n).bind fun x=>k ⟨.iptr c x 0,[],[],base⟩
   |_=>none) else Nj E ob base e (ev t x) n k
  |some (.array L e),.int _ n=>match E.P.info? e,ev t x with
   |some inf,.ptr nm i j=>if 0≤n∧n<L then k ⟨.ptr nm i (j+n.toNat*inf.size),[],[],base⟩ else none
   |some inf,.iptr c z j=>if 0≤n∧n<L then k ⟨.iptr c z (j+n.toNat*inf.size),[],[],base⟩ else none
   |_,_=>none
  |_,_=>none
def Pl(E:Env S)(H:Hint S)(o:Oper)(t:Nat→TV S)(ob:Nat→Option (Obj S))(base:Nat)(k:Eff S→Option R)(ty:TypeId)(x:Operand)(i:Operand):Option R:=
 match ev t i with
  | .int _ n=>Tf E.P (E.P.underlying ty) (ev t x) n fun v=>k ⟨v,[],[],base⟩
  |_=>none
def Pm(E:Env S)(H:Hint S)(o:Oper)(t:Nat→TV S)(ob:Nat→Option (Obj S))(base:Nat)(k:Eff S→Option R)(ty:TypeId)(x:Operand)(lo:Option Operand)(hi:Option Operand)(mx:Option Operand):Option R:=
 match mx,E.P.underlying ty with
  |none,some .string=>if isStr (ev t x)=true then CB ob (ev t x) (lo.map (ev t)) (hi.map (ev t)) fun v rd=>k ⟨v,rd,[],base⟩ else none
  |none,some (.slice e)=>if sj E ob e (ev t x)=true then CB ob (ev t x) (lo.map (ev t)) (hi.map (ev t)) fun v rd=>k ⟨v,rd,[],base⟩ else none
  |_,_=>none
def Ks(E:Env S)(H:Hint S)(o:Oper)(t:Nat→TV S)(ob:Nat→Option (Obj S))(base:Nat)(k:Eff S→Option R)(x:Operand)(i:Nat):Option R:=
 let pure (v:Option (TV S)) (rd:List Nat):Option R:=match v with|some v=>k ⟨v,rd,[],base⟩|none=>none
 match ev t x with
  | .tup vs=>pure vs[i]? []
  |_=>none
def HV(E:Env S)(H:Hint S)(o:Oper)(t:Nat→TV S)(ob:Nat→Option (Obj S))(base:Nat)(k:Eff S→Option R)(f:FuncId)(first:Array Operand)(cap:Array Operand):Option R:=
 if first.size=0 then k ⟨.fn f (cap.toList.map (ev t)),[],[],base⟩ else none
def Dw(E:Env S)(H:Hint S)(o:Oper)(t:Nat→TV S)(ob:Nat→Option (Obj S))(base:Nat)(k:Eff S→Option R)(ty:TypeId)(n:Nat)(ps:Array (Nat×Operand)):Option R:=
 match E.P.underlying ty with
  |some (.slice e)=>match E.code e with
   |some c=>if(Dv E c&&decide (n=1)&&decide (H.mode (o.dst.getD 0) = .app))=true then Gc E base e n (ps.toList.map (·.1)) (ps.toList.map fun p=>ev t p.2) k else if ps.toList.map (·.1)=List.range n∧n≤1000 then
     let vs:=ps.toList.map fun p=>ev t p.2
     match vs.mapM (elem E ob c) with
     |some xs=>k ⟨.slw base,vs.flatMap (fun v=>(cellsOf v).flatMap aG),eJ ob (vs.flatMap (fun v=>(cellsOf v).flatMap aG))++[(base,.row c xs (H.mode (o.dst.getD 0)))],base+1⟩
     |none=>none
    else none
   |none=>Gc E base e n (ps.toList.map (·.1)) (ps.toList.map fun p=>ev t p.2) k
  |_=>none
def Kt(E:Env S)(H:Hint S)(o:Oper)(t:Nat→TV S)(ob:Nat→Option (Obj S))(base:Nat)(k:Eff S→Option R)(b:Builtin)(args:Array Operand)(argTypes:Array TypeId):Option R:=
 let pure (v:Option (TV S)) (rd:List Nat):Option R:=match v with|some v=>k ⟨v,rd,[],base⟩|none=>none
 match b,args.toList.map (ev t) with
  | .len,[x]=>match Yi ((argTypes[0]?).bind E.P.underlying) ob x with
   |some n=>k ⟨.int .i64 n,aG x,[],base⟩
   |none=>none
  | .append,[x,y]=>match(argTypes[0]?).bind E.P.underlying,(argTypes[1]?).bind E.P.underlying with
   |some (.slice e),some (.slice _)=>match E.code e with
    |some c=>match RG E ob c y with
     |some (bn,cs)=>Ep E ob base c x bn cs k
     |none=>Er ob base (H.mode (o.dst.getD 0)) c x y k
    |none=>none
   |_,_=>none
  | .min,x::r=>pure (Et true x r) []
  | .max,x::r=>pure (Et false x r) []
  |_,_=>none
def Pn(E:Env S)(H:Hint S)(o:Oper)(t:Nat→TV S)(ob:Nat→Option (Obj S))(base:Nat)(k:Eff S→Option R)(f:Operand)(args:Array Operand):Option R:=
 match ev t f with
  | .fn g cap=>Kp E ob base g (args.toList.map (ev t)++cap) k
  |_=>none
def No(E:Env S)(H:Hint S)(o:Oper)(t:Nat→TV S)(ob:Nat→Option (Obj S))(base:Nat)(k:Eff S→Option R):Option R:=
 match o.op with
 | .move x | .assign x=>Tg E H o t ob base k x
 | .pick c a b=>Th E H o t ob base k c a b
 | .alloc e=>Pf E H o t ob base k e
 | .box _ v=>WE E H o t ob base k v
 | .build ty ps=>Pg E H o t ob base k ty ps
 | .load ty a=>Ti E H o t ob base k ty a
 | .store ty a v=>Ph E H o t ob base k ty a v
 | .nilCheck x=>HU E H o t ob base k x
 | .binOp op xt x y _=>Pj E H o t ob base k op xt x y
 | .unOp op _ x=>Tj E H o t ob base k op x
 | .convert a b x=>Kr E H o t ob base k a b x
 | .fieldAddr st x f=>Gf E H o t ob base k st x f
 | .field st x f=>Pk E H o t ob base k st x f
 | .indexAddr ty x i=>Gg E H o t ob base k ty x i
 | .index ty x i=>Pl E H o t ob base k ty x i
 | .slice ty x lo hi mx=>Pm E H o t ob base k ty x lo hi mx
 | .extract x i=>Ks E H o t ob base k x i
 | .makeFunc (.func f) first cap=>HV E H o t ob base k f first cap
 | .buildSlice ty n ps=>Dw E H o t ob base k ty n ps
 | .call {callee := .builtin b,args,argTypes}=>Kt E H o t ob base k b args argTypes
 | .call {callee := .value f,args,..}=>Pn E H o t ob base k f args
 |_=>none
def putDst(t:Nat→TV S)(d:Option Tmp)(v:TV S):Nat→TV S:=
 match d with
 |some d=>bp t d v
 |none=>t
def St.after(st:St S)(o:Oper)(e:Eff S):St S:=⟨putDst st.t o.dst e.v,aL st.o e.wr,e.nx⟩
def BV(nt:Nat):Option Tmp→Bool
 |some d=>decide (d<nt)
 |none=>true
def vX(d:Tmp):List Oper→Option (List Oper×Oper×List Oper)
 | []=>none
 |o::r=>match o.op with
  | .pick (.tmp c) _ _=>if c=d then some ([],o,r) else(vX d r).map fun(g,p,r')=>(o::g,p,r')
  |_=>(vX d r).map fun(g,p,r')=>(o::g,p,r')
def oM(t:Nat→TV S):List Oper→Nat→TV S
 | []=>t
 |o::r=>oM (putDst t o.dst .dead) r
def Np:TV S→Option Bool
 | .bool b=>some b
 |_=>none
structure nY where
 rd:Option (List Nat)
 wr:List Nat
def Eff.foot(e:Eff S):nY:=⟨some e.rd,e.wr.map (·.1)⟩
def nY.top:nY:=⟨none,[]⟩
def WG(f:nY):Bool:=f.wr.isEmpty
def ji(ops:Array Oper)(t:Nat→TV S)(o:Oper):Option Bool:=
 match o.guard with
 |none=>some true
 |some (j,w)=>match(ops[j]?).bind (·.dst) with
  |none=>some false
  |some d=>match t d with
   | .bool b=>some (b==w)
   | .undef=>some false
   |_=>none
def CC(ops:Array Oper)(nt:Nat):List Oper→(Nat→TV S)→Option (Nat→TV S)
 | [],t=>some t
 |o::r,t=>match ji ops t o with
  |some false=>if BV nt o.dst=true then CC ops nt r (putDst t o.dst .undef) else none
  |_=>none
def isBool(x:TV S)(b:Bool):Bool:=
 match x with
 | .bool q=>q==b
 |_=>false
def Gh(x:Option Bool)(b:Bool):Bool:=
 match x with
 |some q=>q==b
 |none=>false
end cps
def Yj(as:List (Nat×Bool))(o:Oper):Bool:=
 match o.guard with
 |none=>true
 |some g=>as.contains g
def WH(p:Oper):Option (Operand×Operand):=
 match p.op with
 | .pick _ a b=>some (a,b)
 |_=>none
def Ku(E:Env S)(H:Hint S)(nt:Nat)(ops:Array Oper):Nat→(R:Type)→List (Nat×Bool)→List Oper→St S→List nY→(St S→List nY→Option R)→Option R
 |0,_,_,_,_,_,_=>none
 |_+1,_,_,[],st,fs,k=>k st fs
 |n+1,R,as,o::r,st,fs,k=>
  if Yj as o=true then
   if(BV nt o.dst&&Gh (ji ops st.t o) true)=true then
    No E H o st.t st.o st.next fun e=>Ku E H nt ops n R as r (st.after o e) (e.foot::fs) k
   else none
  else match o.guard with
   |none=>none
   |some (j,w)=>match(ops[j]?).bind (·.dst) with
    |none=>none
    |some d=>if H.fork=true then
      (match st.t d with
      | .bool q=>if(q==w)=true then Ku E H nt ops n R ((j,w)::as) (o::r) ⟨bp st.t d (.bool w),st.o,st.next⟩ fs k
       else(match vX d (o::r) with
        |none=>none
        |some (g,p,rest)=>match CC ops nt g (bp st.t d (.bool (!w))) with
         |some t1=>Ku E H nt ops n R as (p::rest) ⟨t1,st.o,st.next⟩ ((g.map fun _=>(⟨some [],[]⟩:nY))++fs) k
         |none=>none)
      |_=>none)
     else match vX d (o::r) with
     |none=>none
     |some (g,p,rest)=>match st.t d,WH p with
      | .bool q,some (a,b)=>
       if BV nt p.dst=true then
        (ifB q w
         (Ku E H nt ops n Bool ((j,w)::as) g ⟨bp st.t d (.bool w),st.o,st.next⟩ [] fun st' fs' =>
          if(fs'.all WG&&(Gh (ji ops st'.t p) true&&isBool (st'.t d) w))=true then Np (ev st'.t (bif w then a else b)) else none)
         (match CC ops nt g (bp st.t d (.bool (!w))) with
         |some t1=>if(Gh (ji ops t1 p) true&&isBool (t1 d) (!w))=true then Np (ev t1 (bif w then b else a)) else none
         |none=>none)).bind fun res=>
        Ku E H nt ops n R as rest ⟨putDst (oM st.t g) p.dst (.bool res),st.o,st.next⟩ (⟨some [],[]⟩::(g.map fun _=>nY.top)++fs) k
       else none
      |_,_=>none
def WI(a b:List Nat):Bool:=a.all fun x => !b.contains x
def nY.apart(a b:nY):Bool:=
 (a.wr.isEmpty&&b.wr.isEmpty) ||
 (WI a.wr b.wr&&(a.wr.isEmpty||(match b.rd with|some r=>WI a.wr r|none=>false))&&(b.wr.isEmpty||(match a.rd with|some r=>WI b.wr r|none=>false)))
def bitsOf(acc:List Nat)(o:Oper):Nat:=o.after.toList.foldl (fun s e=>if Region.binds .any e then s ||| 2^e.on ||| acc.getD e.on 0 else s) 0
def oN:List Oper→List Nat→List Nat
 | [],acc=>acc
 |o::r,acc=>oN r (acc++[bitsOf acc o])
def Gj(ops:Array Oper):Bool:=ops.toList.zipIdx.all fun p=>p.1.after.toList.all fun e => !Region.binds .any e||decide (e.on<p.2)
def uz{α:Type}(f:α→α→Bool)(bits:List Nat)(xs:List α):Bool:=
 let l:=bits.zip xs
 l.zipIdx.all fun p=>(l.take p.2).zipIdx.all fun q=>p.1.1.testBit q.2||f q.1.2 p.1.2
def Eu{R:Type}(E:Env S)(H:Hint S)(nt:Nat)(ops:Array Oper)(draw:Bool)(st:St S)(k:St S→Option R):Option R:=
 if draw=true then
  (if(Gj ops&&(Region.noSelect ops&&uz (fun x y=>x.apart ops y) (oN ops.toList []) ops.toList))=true then
   Ku E H nt ops (2*ops.size+2) R [] ops.toList st [] fun st' fs=>if((fs.all fun f=>f.wr.isEmpty)||uz nY.apart (oN ops.toList []) fs.reverse)=true then k st' else none
  else none)
 else Ku E H nt ops (2*ops.size+2) R [] ops.toList st [] fun st' _=>k st'
def Kv(k:LK S)(o:Nat→Option (Obj S))(next:Nat)(v:TV S):Option (TV S×List (Nat×Obj S)×Nat):=
 match k,v with
 | .row c m,.nils=>some (.slw next,[(next,.row c [] m)],next+1)
 | .row _ _,v=>some (v,[],next)
 | .fresh c m,.nils=>some (.slw next,[(next,.row c [] m)],next+1)
 | .fresh _ _,.slw nm=>match o nm with
  |some (.row c xs .app)=>some (.slw next,[(nm,.row c xs .ro),(next,.row c xs .app)],next+1)
  |some (.row c xs .own)=>some (.slw next,[(nm,.gone),(next,.row c xs .own)],next+1)
  |_=>none
 | .fresh _ _,.sl nm 0 len=>match o nm with
  |some (.row c xs .own)=>some (.slw next,[(nm,.gone),(next,.row c (xs.take len) .own)],next+1)
  |_=>none
 | .fresh _ _,_=>none
 | .deep c,.nils=>some (.slw next,[(next,.deep c (.full []))],next+1)
 | .deep _,v=>some (v,[],next)
 | .tree c,.nils=>some (.tree c [],[],next)
 | .tree _,.slw nm=>match o nm with
  |some (.row c xs .own)=>if tok c xs=true then some (.tree c xs,[(nm,.row c xs .ro)],next) else none
  |some (.row c xs m)=>if UB c xs m=true then some (.tree c xs,[],next) else none
  |some (.deep c (.full xs))=>if tok c xs=true then some (.tree c xs,[(nm,.row c xs .ro)],next) else none
  |_=>none
 | .tree _,.sl nm off len=>match o nm with
  |some (.row c xs .own)=>if tok c ((xs.drop off).take len)=true then some (.tree c ((xs.drop off).take len),[(nm,.row c xs .ro)],next) else none
  |some (.row c xs _)=>if tok c ((xs.drop off).take len)=true then some (.tree c ((xs.drop off).take len),[],next) else none
  |_=>none
 | .tree _,v=>some (v,[],next)
def follow(o:Nat→Option (Obj S)):TV S→List Nat→Option (Nat×Nat)
 | .ptr nm _ _,[i]=>some (nm,i)
 | .ptr nm _ _,i::r=>match o nm with
  |some (.box cs)=>match cs[i]? with
   |some v=>follow o v r
   |none=>none
  |_=>none
 |_,_=>none
def Tk(v:TV S)(p:List Nat):Option (List (TV S)×Nat×TV S):=
 match v,p with
 | .agg cs,[i]=>(cs[i]?).map fun x=>(cs,i,x)
 |_,_=>none
def RH(st:St S)(g:Tgt)(k:LK S):Option (St S):=
 match g.path with
 | []=>(Kv k st.o st.next (st.t g.slot)).map fun(v,wr,nx)=>⟨bp st.t g.slot v,aL st.o wr,nx⟩
 |p=>match Tk (st.t g.slot) p with
 |some (cs,i,x)=>(Kv k st.o st.next x).map fun(v,wr,nx)=>⟨bp st.t g.slot (.agg (cs.set i v)),aL st.o wr,nx⟩
 |none=>
  match follow st.o (st.t g.slot) p with
  |some (nm,i)=>match st.o nm with
   |some (.box cs)=>match cs[i]? with
    |some v=>(Kv k st.o st.next v).map fun(v,wr,nx)=>⟨st.t,bp (aL st.o wr) nm (some (.box (cs.set i v))),nx⟩
    |none=>none
   |_=>none
  |none=>none
def zY(st:St S):List (Tgt×LK S)→Option (St S)
 | []=>some st
 |(g,k)::r=>match RH st g k with
  |some st=>zY st r
  |none=>none
def kids(o:Nat→Option (Obj S))(m:Nat):List Nat:=(List.range m).flatMap (RE o)
def UC:List Nat→List (TV S)→Nat→TV S
 |n::ns,v::vs,i=>bif Nat.beq i n then v else UC ns vs i
 |_,_,_ => .dead
def uA(live:List Nat)(vals:List (TV S))(objs:List (Obj S)):St S:=⟨UC live vals,fun i=>objs[i]?,objs.length⟩
def tidy(m:Nat)(live:List Nat)(st:St S):Option (List (TV S)×List (Obj S)):=
 let roots:=List.range m++live.flatMap fun s=>bZ (st.t s)
 let ks:=reach st.o 400 (kids st.o m++live.flatMap fun s=>bZ (st.t s)) (List.range m)
 if fR st.o ks roots=true then
  some (live.map fun i=>ren (fun n=>ks.idxOf n) (st.t i),ks.map fun n=>dJ (fun n=>ks.idxOf n) ((st.o n).getD .gone))
 else none
def iz(m:Nat)(live:List Nat)(fix:List (Tgt×LK S))(st:St S):Option (List (TV S)×List (Obj S)):=
 match zY st fix with
 |some st'=>tidy m live st'
 |none=>none
def Hy{R:Type}(hd:St S→Option (List (TV S)×List (Obj S)))(out:Ex→St S→Option (List (TV S)×List (Obj S)))(rec:List (TV S)→List (Obj S)→Option R)(K:Ex→List (TV S)→List (Obj S)→Option R)(e:Ex)(s':St S):Option R:=
 match e with
  | .normal=>(match hd s' with
   |some (vals',objs')=>rec vals' objs'
   |none=>none)
  |e=>(match out e s' with
   |some (vals',objs')=>K e vals' objs'
   |none=>none)
def zn{R:Type}(body:List (TV S)→List (Obj S)→(Ex→St S→Option R)→Option R)(hd:St S→Option (List (TV S)×List (Obj S)))(out:Ex→St S→Option (List (TV S)×List (Obj S))):Nat→List (TV S)→List (Obj S)→(Ex→List (TV S)→List (Obj S)→Option R)→Option R
 |0,_,_,_=>none
 |n+1,vals,objs,K=>body vals objs (Hy hd out (fun v o=>zn body hd out n v o K) K)
theorem RI{R:Type}(body:List (TV S)→List (Obj S)→(Ex→St S→Option R)→Option R)(hd:St S→Option (List (TV S)×List (Obj S)))(out:Ex→St S→Option (List (TV S)×List (Obj S)))(n:Nat)(vals:List (TV S))(objs:List (Obj S))(K:Ex→List (TV S)→List (Obj S)→Option R):
  zn body hd out (n+1) vals objs K=body vals objs (Hy hd out (fun v o=>zn body hd out n v o K) K):=rfl
def ou:Code→Option Nat
 | .region id _ _=>some id
 | .seq a b=>match ou a with
  |some i=>some i
  |none=>ou b
 | .cond _ a b=>match ou a with
  |some i=>some i
  |none=>ou b
 | .block _ c=>ou c
 | .loop c=>ou c
 |_=>none
def cutAt(H:Hint S)(b:Code):Option (zk S):=match ou b with
 |some i=>H.cuts i
 |none=>none
def Yk{R:Type}(m:Nat)(out:Ex→List Nat×List (Tgt×LK S))(K:Ex→List (TV S)→List (Obj S)→Option R)(e:Ex)(st:St S):Option R:=
 match iz m (out e).1 (out e).2 st with
 |some (vals,objs)=>K e vals objs
 |none=>none
def iL{R:Type}(E:Env S)(H:Hint S)(m nt N:Nat):Code→Nat→St S→(Ex→St S→Option R)→Option R
 | .skip,_,st,K=>K .normal st
 | .region id ops draw,_,st,K=>Eu E H nt ops draw st fun st'=>K .normal st'
 | .seq a b,cur,st,K=>iL E H m nt N a cur st fun e st'=>match e with
  | .normal=>match cutAt H b with
   |none=>iL E H m nt N b cur st' K
   |some J=>match iz m J.live J.fix st' with
    |none=>none
    |some (vals,objs)=>match J.oracle with
     |some L=>L R vals objs fun e vals objs=>K e (uA (J.out e).1 vals objs)
     |none=>iL E H m nt N b cur (uA J.live vals objs) K
  |e=>K e st'
 | .cond c x y,cur,st,K=>match ev st.t c with
  | .bool q=>if q=true then iL E H m nt N x cur st K else iL E H m nt N y cur st K
  |_=>none
 | .block id c,_,st,K=>iL E H m nt N c id st fun e st'=>match e with
  | .exit i=>if i=id then K .normal st' else K (.exit i) st'
  |e=>K e st'
 | .loop c,cur,st,K=>match H.loops cur with
  |none=>none
  |some h=>match iz m h.live h.fix st with
   |none=>none
   |some (vals,objs)=>match h.oracle with
    |some L=>L R vals objs fun e vals objs=>K e (uA (h.out e).1 vals objs)
    |none=>zn (fun vals objs k=>iL E H m nt N c cur (uA h.live vals objs) k) (iz m h.live h.fix) (fun e=>iz m (h.out e).1 (h.out e).2) N vals objs fun e vals objs=>K e (uA (h.out e).1 vals objs)
 | .exit id,_,st,K=>K (.exit id) st
 | .ret,_,st,K=>K .ret st
 |_,_,_,_=>none
def sn(E:Env S)(H:Hint S)(m nt N:Nat):Code→Nat→Prop
 | .seq a b,cur=>sn E H m nt N a cur∧sn E H m nt N b cur∧∀J L,cutAt H b=some J→J.oracle=some L→∀(R:Type)(vals:List (TV S))(objs:List (Obj S))(K:Ex→List (TV S)→List (Obj S)→Option R)(r:R),L R vals objs K=some r →
   iL E H m nt N b cur (uA J.live vals objs) (Yk m J.out K)=some r
 | .cond _ a b,cur=>sn E H m nt N a cur∧sn E H m nt N b cur
 | .block id c,_=>sn E H m nt N c id
 | .loop c,cur=>sn E H m nt N c cur∧∀h L,H.loops cur=some h→h.oracle=some L→∀(R:Type)(vals:List (TV S))(objs:List (Obj S))(K:Ex→List (TV S)→List (Obj S)→Option R)(r:R),L R vals objs K=some r →
   zn (fun vals objs k=>iL E H m nt N c cur (uA h.live vals objs) k) (iz m h.live h.fix) (fun e=>iz m (h.out e).1 (h.out e).2) N vals objs K=some r
 |_,_=>True
def Kw(E:Env S)(st:St S):ResultVar→Option (TV S)
 | .tmp t=>some (st.t t)
 | .cell a ty=>match xY E.P ty,behind E st.o (st.t a) with
  |some (ag,n),some (cs,k,_)=>bY ag n k cs
  |_,_=>none
def Gk:List (TV S)→TV S
 | [v]=>v
 |vs => .tup vs
def finish(E:Env S)(fn:Func)(m:Nat)(st:St S):Option (Res S):=
 match fn.results.toList.mapM (Kw E st) with
 |none=>none
 |some vs=>
  let ks:=reach st.o 400 (kids st.o m++bZ (Gk vs)) (List.range m)
  if fR st.o ks (List.range m++bZ (Gk vs))=true then
   some ⟨ren (fun n=>ks.idxOf n) (Gk vs),some ((ks.take m).map fun n=>dJ (fun n=>ks.idxOf n) ((st.o n).getD .gone)),(ks.drop m).map fun n=>dJ (fun n=>ks.idxOf n) ((st.o n).getD .gone)⟩
  else none
def Yl(args:List (TV S))(objs:List (Obj S)):St S:=⟨fun i=>args.getD i .undef,fun i=>objs[i]?,objs.length⟩
def Tl{R:Type}(E:Env S)(H:Hint S)(N:Nat)(fn:Func)(args:List (TV S))(objs:List (Obj S))(K:Res S→Option R):Option R:=
 match fn.body with
 |none=>none
 |some c=>iL E H objs.length fn.ntmps N c 0 (Yl args objs) fun e st=>match e with
  | .exit _=>none
  |_=>match zY st H.exit with
   |some st'=>(match finish E fn objs.length st' with
    |some r=>K r
    |none=>none)
   |none=>none
end TE
