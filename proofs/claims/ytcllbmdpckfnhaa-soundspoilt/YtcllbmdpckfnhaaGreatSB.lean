/- Sound: element types, codes, environment. -/
import Derived.Test.YtcllbmdpckfnhaaGreatProg
import Derived.Test.YtcllbmdpckfnhaaGreatTS
import Derived.Test.YtcllbmdpckfnhaaGreatTE25
set_option maxRecDepth 100000
set_option linter.unusedVariables false
namespace So
open Go TE Go.Proofs
abbrev ae:=List UInt8
abbrev ab(R:Type):=Option R
structure Token where
 Kind:Int
 At:Int
 End:Int
 Text:ae
 N:Int
structure ZW where
 Code:Int
 At:Int
structure ai where
 Name:ae
 N:Int
 At:Int
structure Expr where
 Kind:Int
 N:Int
 Name:ae
 Kids:List Expr
 At:Int
structure Act where
 Kind:Int
 Name:ae
 Event:ae
 X:List Expr
 N:Int
 Then:List Act
 Else:List Act
 At:Int
structure Trans where
 Event:ae
 Guard:List Expr
 Target:ae
 Acts:List Act
 At:Int
structure State where
 Kind:Int
 Name:ae
 Entry:List Act
 Exit:List Act
 Trans:List Trans
 Kids:List State
 At:Int
structure Chart where
 Name:ae
 Steps:Int
 Fuel:Int
 Vars:List ai
 Ports:List ai
 Timers:List ai
 States:List State
 At:Int
structure Inst where
 Name:ae
 Chart:ae
 Quantum:Int
 Ext:Int
 Prio:Int
 At:Int
structure ak where
 Name:ae
 From:ae
 Port:ae
 To:ae
 Cap:Int
 Prio:Int
 At:Int
structure Cell where
 Rank:Int
 Sets:List (List (ae))
 Msgs:List (List (ae))
 At:Int
structure Cert where
 Name:ae
 Inst:ae
 Req:ae
 Resp:ae
 Insts:List (ae)
 Chans:List (ae)
 Cells:List Cell
 At:Int
structure System where
 Age:Int
 Charts:List Chart
 Insts:List Inst
 Chans:List ak
 Certs:List Cert
structure Node where
 Kind:Int
 Parent:Int
 Last:Int
 Init:Int
 Entry:Int
 Exit:Int
 Name:ae
inductive K|int|str|strs|tok|named|expr|act|trans|state|chart|inst|chan|cell|cert|node deriving DecidableEq
def El:K→Type
 | .int=>Int
 | .str=>List UInt8
 | .strs=>List (List UInt8)
 | .tok=>Token
 | .named=>ai
 | .expr=>Expr
 | .act=>Act
 | .trans=>Trans
 | .state=>State
 | .chart=>Chart
 | .inst=>Inst
 | .chan=>ak
 | .cell=>Cell
 | .cert=>Cert
 | .node=>Node
def tight:K→Bool
 |_=>false
def S:Sig:=⟨K,El,inferInstance,tight⟩
def enc:(c:K)→El c→List (TV S)
 | .int,(x:Int)=>[.int .i64 x]
 | .str,(x:List UInt8)=>[.str x]
 | .strs,(x:List (List UInt8))=>[.tree .str x]
 | .tok,(x:Token)=>[.int .i64 x.Kind,.int .i64 x.At,.int .i64 x.End,.str x.Text,.int .i64 x.N]
 | .named,(x:ai)=>[.str x.Name,.int .i64 x.N,.int .i64 x.At]
 | .expr,(x:Expr)=>[.int .i64 x.Kind,.int .i64 x.N,.str x.Name,.tree .expr x.Kids,.int .i64 x.At]
 | .act,(x:Act)=>[.int .i64 x.Kind,.str x.Name,.str x.Event,.tree .expr x.X,.int .i64 x.N,.tree .act x.Then,.tree .act x.Else,.int .i64 x.At]
 | .trans,(x:Trans)=>[.str x.Event,.tree .expr x.Guard,.str x.Target,.tree .act x.Acts,.int .i64 x.At]
 | .state,(x:State)=>[.int .i64 x.Kind,.str x.Name,.tree .act x.Entry,.tree .act x.Exit,.tree .trans x.Trans,.tree .state x.Kids,.int .i64 x.At]
 | .chart,(x:Chart)=>[.str x.Name,.int .i64 x.Steps,.int .i64 x.Fuel,.tree .named x.Vars,.tree .named x.Ports,.tree .named x.Timers,.tree .state x.States,.int .i64 x.At]
 | .inst,(x:Inst)=>[.str x.Name,.str x.Chart,.int .i64 x.Quantum,.int .i64 x.Ext,.int .i64 x.Prio,.int .i64 x.At]
 | .chan,(x:ak)=>[.str x.Name,.str x.From,.str x.Port,.str x.To,.int .i64 x.Cap,.int .i64 x.Prio,.int .i64 x.At]
 | .cell,(x:Cell)=>[.int .i64 x.Rank,.tree .strs x.Sets,.tree .strs x.Msgs,.int .i64 x.At]
 | .cert,(x:Cert)=>[.str x.Name,.str x.Inst,.str x.Req,.str x.Resp,.tree .str x.Insts,.tree .str x.Chans,.tree .cell x.Cells,.int .i64 x.At]
 | .node,(x:Node)=>[.int .i64 x.Kind,.int .i64 x.Parent,.int .i64 x.Last,.int .i64 x.Init,.int .i64 x.Entry,.int .i64 x.Exit,.str x.Name]
def dI(k:IntKind):TV S→Option Int
 | .int k' n=>if k'=k then some n else none
 |_=>none
def dS:TV S→Option (List UInt8)
 | .str s=>some s
 |_=>none
def dT(c:S.K):TV S→Option (List (S.El c))
 | .nils=>some []
 | .tree d xs=>if h:d=c then some (h▸xs) else none
 |_=>none
def dec:(c:K)→List (TV S)→Option (El c)
 | .int,[a0]=>(dI .i64 a0).bind fun a0=>some a0
 | .str,[a0]=>(dS a0).bind fun a0=>some a0
 | .strs,[a0]=>(dT .str a0).bind fun a0=>some a0
 | .tok,[a0,a1,a2,a3,a4]=>(dI .i64 a0).bind fun a0=>(dI .i64 a1).bind fun a1=>(dI .i64 a2).bind fun a2=>(dS a3).bind fun a3=>(dI .i64 a4).bind fun a4=>some ((⟨a0,a1,a2,a3,a4⟩:Token):Token)
 | .named,[a0,a1,a2]=>(dS a0).bind fun a0=>(dI .i64 a1).bind fun a1=>(dI .i64 a2).bind fun a2=>some ((⟨a0,a1,a2⟩:ai):ai)
 | .expr,[a0,a1,a2,a3,a4]=>(dI .i64 a0).bind fun a0=>(dI .i64 a1).bind fun a1=>(dS a2).bind fun a2=>(dT .expr a3).bind fun a3=>(dI .i64 a4).bind fun a4=>some ((⟨a0,a1,a2,a3,a4⟩:Expr):Expr)
 | .act,[a0,a1,a2,a3,a4,a5,a6,a7]=>(dI .i64 a0).bind fun a0=>(dS a1).bind fun a1=>(dS a2).bind fun a2=>(dT .expr a3).bind fun a3=>(dI .i64 a4).bind fun a4=>(dT .act a5).bind fun a5=>(dT .act a6).bind fun a6=>(dI .i64 a7).bind fun a7=>some ((⟨a0,a1,a2,a3,a4,a5,a6,a7⟩:Act):Act)
 | .trans,[a0,a1,a2,a3,a4]=>(dS a0).bind fun a0=>(dT .expr a1).bind fun a1=>(dS a2).bind fun a2=>(dT .act a3).bind fun a3=>(dI .i64 a4).bind fun a4=>some ((⟨a0,a1,a2,a3,a4⟩:Trans):Trans)
 | .state,[a0,a1,a2,a3,a4,a5,a6]=>(dI .i64 a0).bind fun a0=>(dS a1).bind fun a1=>(dT .act a2).bind fun a2=>(dT .act a3).bind fun a3=>(dT .trans a4).bind fun a4=>(dT .state a5).bind fun a5=>(dI .i64 a6).bind fun a6=>some ((⟨a0,a1,a2,a3,a4,a5,a6⟩:State):State)
 | .chart,[a0,a1,a2,a3,a4,a5,a6,a7]=>(dS a0).bind fun a0=>(dI .i64 a1).bind fun a1=>(dI .i64 a2).bind fun a2=>(dT .named a3).bind fun a3=>(dT .named a4).bind fun a4=>(dT .named a5).bind fun a5=>(dT .state a6).bind fun a6=>(dI .i64 a7).bind fun a7=>some ((⟨a0,a1,a2,a3,a4,a5,a6,a7⟩:Chart):Chart)
 | .inst,[a0,a1,a2,a3,a4,a5]=>(dS a0).bind fun a0=>(dS a1).bind fun a1=>(dI .i64 a2).bind fun a2=>(dI .i64 a3).bind fun a3=>(dI .i64 a4).bind fun a4=>(dI .i64 a5).bind fun a5=>some ((⟨a0,a1,a2,a3,a4,a5⟩:Inst):Inst)
 | .chan,[a0,a1,a2,a3,a4,a5,a6]=>(dS a0).bind fun a0=>(dS a1).bind fun a1=>(dS a2).bind fun a2=>(dS a3).bind fun a3=>(dI .i64 a4).bind fun a4=>(dI .i64 a5).bind fun a5=>(dI .i64 a6).bind fun a6=>some ((⟨a0,a1,a2,a3,a4,a5,a6⟩:ak):ak)
 | .cell,[a0,a1,a2,a3]=>(dI .i64 a0).bind fun a0=>(dT .strs a1).bind fun a1=>(dT .strs a2).bind fun a2=>(dI .i64 a3).bind fun a3=>some ((⟨a0,a1,a2,a3⟩:Cell):Cell)
 | .cert,[a0,a1,a2,a3,a4,a5,a6,a7]=>(dS a0).bind fun a0=>(dS a1).bind fun a1=>(dS a2).bind fun a2=>(dS a3).bind fun a3=>(dT .str a4).bind fun a4=>(dT .str a5).bind fun a5=>(dT .cell a6).bind fun a6=>(dI .i64 a7).bind fun a7=>some ((⟨a0,a1,a2,a3,a4,a5,a6,a7⟩:Cert):Cert)
 | .node,[a0,a1,a2,a3,a4,a5,a6]=>(dI .i64 a0).bind fun a0=>(dI .i64 a1).bind fun a1=>(dI .i64 a2).bind fun a2=>(dI .i64 a3).bind fun a3=>(dI .i64 a4).bind fun a4=>(dI .i64 a5).bind fun a5=>(dS a6).bind fun a6=>some ((⟨a0,a1,a2,a3,a4,a5,a6⟩:Node):Node)
 |_,_=>none
def sz:K→Nat
 | .int=>1
 | .str=>1
 | .strs=>1
 | .tok=>5
 | .named=>3
 | .expr=>5
 | .act=>8
 | .trans=>5
 | .state=>7
 | .chart=>8
 | .inst=>6
 | .chan=>7
 | .cell=>4
 | .cert=>8
 | .node=>7
def code(t:TypeId):Option K:=match t with
 |3=>some .int
 |9=>some .str
 |65=>some .strs
 |71=>some .tok
 |96=>some .named
 |106=>some .expr
 |108=>some .act
 |104=>some .trans
 |100=>some .state
 |57=>some .chart
 |60=>some .inst
 |63=>some .chan
 |125=>some .cell
 |68=>some .cert
 |236=>some .node
 |_=>none
def asObj(f:FuncId)(j:Nat):Bool:=match f,j with
 |_,_=>false
def sub:K→Nat→Bool
 | .state,j=>Nat.beq j 4||Nat.beq j 5
 |_,_=>false
noncomputable def E(g:Dz S):Env S:=⟨Tryz.prog,enc,dec,sz,code,g,asObj,sub⟩
section
variable{EE:Env S}{M:Mem}
theorem fI{k:IntKind}{tv:TV S}{n:Int}{v:Value}(h:dI k tv=some n)(hc:CR EE M tv v):CR EE M (.int k n) v:=by
 cases tv<;>simp only[dI,reduceCtorEq]at h
 split at h
 ·rename_i e;cases h;subst e;exact hc
 ·cases h
theorem od{tv:TV S}{b:List UInt8}{v:Value}(h:dS tv=some b)(hc:CR EE M tv v):CR EE M (.str b) v:=by
 cases tv<;>simp only[dS,reduceCtorEq,Option.some.injEq]at h
 subst h;exact hc
theorem px{c:S.K}{tv:TV S}{xs:List (S.El c)}{v:Value}(h:dT c tv=some xs)(hc:CR EE M tv v):CR EE M (.tree (S:=S) c xs) v:=by
 cases tv<;>simp only[dT,reduceCtorEq,Option.some.injEq]at h
 ·subst h;cases hc;exact CR.tree (S:=S) (c:=c) (xs:=[]) 0 0 (fun _ _=>undef) (Nat.le_refl _) (fun _ _=>rfl) (.inl rfl) (fun i x j tv hx=>by simp at hx) (fun i x j tv hx=>by simp at hx)
 ·split at h
  ·rename_i e;subst e;cases h;exact hc
  ·cases h
end
theorem XZ(c:K)(x:El c):(enc c x).length=sz c:=by cases c<;>rfl
theorem Um(c:K)(x:El c)(tv:TV S)(h:tv∈enc c x):bF tv=true:=by
 cases c with
 |int=>
  simp only[enc,List.mem_cons,List.not_mem_nil,or_false]at h
  rcases h with rfl<;>rfl
 |str=>
  simp only[enc,List.mem_cons,List.not_mem_nil,or_false]at h
  rcases h with rfl<;>rfl
 |strs=>
  simp only[enc,List.mem_cons,List.not_mem_nil,or_false]at h
  rcases h with rfl<;>rfl
 |tok=>
  simp only[enc,List.mem_cons,List.not_mem_nil,or_false]at h
  rcases h with rfl|rfl|rfl|rfl|rfl<;>rfl
 |named=>
  simp only[enc,List.mem_cons,List.not_mem_nil,or_false]at h
  rcases h with rfl|rfl|rfl<;>rfl
 |expr=>
  simp only[enc,List.mem_cons,List.not_mem_nil,or_false]at h
  rcases h with rfl|rfl|rfl|rfl|rfl<;>rfl
 |act=>
  simp only[enc,List.mem_cons,List.not_mem_nil,or_false]at h
  rcases h with rfl|rfl|rfl|rfl|rfl|rfl|rfl|rfl<;>rfl
 |trans=>
  simp only[enc,List.mem_cons,List.not_mem_nil,or_false]at h
  rcases h with rfl|rfl|rfl|rfl|rfl<;>rfl
 |state=>
  simp only[enc,List.mem_cons,List.not_mem_nil,or_false]at h
  rcases h with rfl|rfl|rfl|rfl|rfl|rfl|rfl<;>rfl
 |chart=>
  simp only[enc,List.mem_cons,List.not_mem_nil,or_false]at h
  rcases h with rfl|rfl|rfl|rfl|rfl|rfl|rfl|rfl<;>rfl
 |inst=>
  simp only[enc,List.mem_cons,List.not_mem_nil,or_false]at h
  rcases h with rfl|rfl|rfl|rfl|rfl|rfl<;>rfl
 |chan=>
  simp only[enc,List.mem_cons,List.not_mem_nil,or_false]at h
  rcases h with rfl|rfl|rfl|rfl|rfl|rfl|rfl<;>rfl
 |cell=>
  simp only[enc,List.mem_cons,List.not_mem_nil,or_false]at h
  rcases h with rfl|rfl|rfl|rfl<;>rfl
 |cert=>
  simp only[enc,List.mem_cons,List.not_mem_nil,or_false]at h
  rcases h with rfl|rfl|rfl|rfl|rfl|rfl|rfl|rfl<;>rfl
 |node=>
  simp only[enc,List.mem_cons,List.not_mem_nil,or_false]at h
  rcases h with rfl|rfl|rfl|rfl|rfl|rfl|rfl<;>rfl
theorem Ze{EE:Env S}(c:K)(cs:List (TV S))(x:El c)(M:Mem)(i:Nat)(tv:TV S)(v:Value)(h1:dec c cs=some x)(h2:cs[i]?=some tv)(h3:CR EE M tv v):∃tv',(enc c x)[i]?=some tv'∧CR EE M tv' v:=by
 cases c with
 |int=>
  rcases cs with _|⟨a0,_|⟨b,cs⟩⟩
  ·exact absurd h1 (by simp[dec])
  ·simp only[dec,Option.bind_eq_some_iff]at h1
   obtain⟨x0,h0_,he⟩:=h1
   cases he
   rcases i with _|i
   ·simp at h2;subst h2;exact⟨_,rfl,fI h0_ h3⟩
   ·simp at h2
  ·exact absurd h1 (by simp[dec])
 |str=>
  rcases cs with _|⟨a0,_|⟨b,cs⟩⟩
  ·exact absurd h1 (by simp[dec])
  ·simp only[dec,Option.bind_eq_some_iff]at h1
   obtain⟨x0,h0_,he⟩:=h1
   cases he
   rcases i with _|i
   ·simp at h2;subst h2;exact⟨_,rfl,od h0_ h3⟩
   ·simp at h2
  ·exact absurd h1 (by simp[dec])
 |strs=>
  rcases cs with _|⟨a0,_|⟨b,cs⟩⟩
  ·exact absurd h1 (by simp[dec])
  ·simp only[dec,Option.bind_eq_some_iff]at h1
   obtain⟨x0,h0_,he⟩:=h1
   cases he
   rcases i with _|i
   ·simp at h2;subst h2;exact⟨_,rfl,px h0_ h3⟩
   ·simp at h2
  ·exact absurd h1 (by simp[dec])
 |tok=>
  rcases cs with _|⟨a0,_|⟨a1,_|⟨a2,_|⟨a3,_|⟨a4,_|⟨b,cs⟩⟩⟩⟩⟩⟩
  ·exact absurd h1 (by simp[dec])
  ·exact absurd h1 (by simp[dec])
  ·exact absurd h1 (by simp[dec])
  ·exact absurd h1 (by simp[dec])
  ·exact absurd h1 (by simp[dec])
  ·simp only[dec,Option.bind_eq_some_iff]at h1
   obtain⟨x0,h0_,x1,h1_,x2,h2_,x3,h3_,x4,h4_,he⟩:=h1
   cases he
   rcases i with _|(_|(_|(_|(_|i))))
   ·simp at h2;subst h2;exact⟨_,rfl,fI h0_ h3⟩
   ·simp at h2;subst h2;exact⟨_,rfl,fI h1_ h3⟩
   ·simp at h2;subst h2;exact⟨_,rfl,fI h2_ h3⟩
   ·simp at h2;subst h2;exact⟨_,rfl,od h3_ h3⟩
   ·simp at h2;subst h2;exact⟨_,rfl,fI h4_ h3⟩
   ·simp at h2
  ·exact absurd h1 (by simp[dec])
 |named=>
  rcases cs with _|⟨a0,_|⟨a1,_|⟨a2,_|⟨b,cs⟩⟩⟩⟩
  ·exact absurd h1 (by simp[dec])
  ·exact absurd h1 (by simp[dec])
  ·exact absurd h1 (by simp[dec])
  ·simp only[dec,Option.bind_eq_some_iff]at h1
   obtain⟨x0,h0_,x1,h1_,x2,h2_,he⟩:=h1
   cases he
   rcases i with _|(_|(_|i))
   ·simp at h2;subst h2;exact⟨_,rfl,od h0_ h3⟩
   ·simp at h2;subst h2;exact⟨_,rfl,fI h1_ h3⟩
   ·simp at h2;subst h2;exact⟨_,rfl,fI h2_ h3⟩
   ·simp at h2
  ·exact absurd h1 (by simp[dec])
 |expr=>
  rcases cs with _|⟨a0,_|⟨a1,_|⟨a2,_|⟨a3,_|⟨a4,_|⟨b,cs⟩⟩⟩⟩⟩⟩
  ·exact absurd h1 (by simp[dec])
  ·exact absurd h1 (by simp[dec])
  ·exact absurd h1 (by simp[dec])
  ·exact absurd h1 (by simp[dec])
  ·exact absurd h1 (by simp[dec])
  ·simp only[dec,Option.bind_eq_some_iff]at h1
   obtain⟨x0,h0_,x1,h1_,x2,h2_,x3,h3_,x4,h4_,he⟩:=h1
   cases he
   rcases i with _|(_|(_|(_|(_|i))))
   ·simp at h2;subst h2;exact⟨_,rfl,fI h0_ h3⟩
   ·simp at h2;subst h2;exact⟨_,rfl,fI h1_ h3⟩
   ·simp at h2;subst h2;exact⟨_,rfl,od h2_ h3⟩
   ·simp at h2;subst h2;exact⟨_,rfl,px h3_ h3⟩
   ·simp at h2;subst h2;exact⟨_,rfl,fI h4_ h3⟩
   ·simp at h2
  ·exact absurd h1 (by simp[dec])
 |act=>
  rcases cs with _|⟨a0,_|⟨a1,_|⟨a2,_|⟨a3,_|⟨a4,_|⟨a5,_|⟨a6,_|⟨a7,_|⟨b,cs⟩⟩⟩⟩⟩⟩⟩⟩⟩
  ·exact absurd h1 (by simp[dec])
  ·exact absurd h1 (by simp[dec])
  ·exact absurd h1 (by simp[dec])
  ·exact absurd h1 (by simp[dec])
  ·exact absurd h1 (by simp[dec])
  ·exact absurd h1 (by simp[dec])
  ·exact absurd h1 (by simp[dec])
  ·exact absurd h1 (by simp[dec])
  ·simp only[dec,Option.bind_eq_some_iff]at h1
   obtain⟨x0,h0_,x1,h1_,x2,h2_,x3,h3_,x4,h4_,x5,h5_,x6,h6_,x7,h7_,he⟩:=h1
   cases he
   rcases i with _|(_|(_|(_|(_|(_|(_|(_|i)))))))
   ·simp at h2;subst h2;exact⟨_,rfl,fI h0_ h3⟩
   ·simp at h2;subst h2;exact⟨_,rfl,od h1_ h3⟩
   ·simp at h2;subst h2;exact⟨_,rfl,od h2_ h3⟩
   ·simp at h2;subst h2;exact⟨_,rfl,px h3_ h3⟩
   ·simp at h2;subst h2;exact⟨_,rfl,fI h4_ h3⟩
   ·simp at h2;subst h2;exact⟨_,rfl,px h5_ h3⟩
   ·simp at h2;subst h2;exact⟨_,rfl,px h6_ h3⟩
   ·simp at h2;subst h2;exact⟨_,rfl,fI h7_ h3⟩
   ·simp at h2
  ·exact absurd h1 (by simp[dec])
 |trans=>
  rcases cs with _|⟨a0,_|⟨a1,_|⟨a2,_|⟨a3,_|⟨a4,_|⟨b,cs⟩⟩⟩⟩⟩⟩
  ·exact absurd h1 (by simp[dec])
  ·exact absurd h1 (by simp[dec])
  ·exact absurd h1 (by simp[dec])
  ·exact absurd h1 (by simp[dec])
  ·exact absurd h1 (by simp[dec])
  ·simp only[dec,Option.bind_eq_some_iff]at h1
   obtain⟨x0,h0_,x1,h1_,x2,h2_,x3,h3_,x4,h4_,he⟩:=h1
   cases he
   rcases i with _|(_|(_|(_|(_|i))))
   ·simp at h2;subst h2;exact⟨_,rfl,od h0_ h3⟩
   ·simp at h2;subst h2;exact⟨_,rfl,px h1_ h3⟩
   ·simp at h2;subst h2;exact⟨_,rfl,od h2_ h3⟩
   ·simp at h2;subst h2;exact⟨_,rfl,px h3_ h3⟩
   ·simp at h2;subst h2;exact⟨_,rfl,fI h4_ h3⟩
   ·simp at h2
  ·exact absurd h1 (by simp[dec])
 |state=>
  rcases cs with _|⟨a0,_|⟨a1,_|⟨a2,_|⟨a3,_|⟨a4,_|⟨a5,_|⟨a6,_|⟨b,cs⟩⟩⟩⟩⟩⟩⟩⟩
  ·exact absurd h1 (by simp[dec])
  ·exact absurd h1 (by simp[dec])
  ·exact absurd h1 (by simp[dec])
  ·exact absurd h1 (by simp[dec])
  ·exact absurd h1 (by simp[dec])
  ·exact absurd h1 (by simp[dec])
  ·exact absurd h1 (by simp[dec])
  ·simp only[dec,Option.bind_eq_some_iff]at h1
   obtain⟨x0,h0_,x1,h1_,x2,h2_,x3,h3_,x4,h4_,x5,h5_,x6,h6_,he⟩:=h1
   cases he
   rcases i with _|(_|(_|(_|(_|(_|(_|i))))))
   ·simp at h2;subst h2;exact⟨_,rfl,fI h0_ h3⟩
   ·simp at h2;subst h2;exact⟨_,rfl,od h1_ h3⟩
   ·simp at h2;subst h2;exact⟨_,rfl,px h2_ h3⟩
   ·simp at h2;subst h2;exact⟨_,rfl,px h3_ h3⟩
   ·simp at h2;subst h2;exact⟨_,rfl,px h4_ h3⟩
   ·simp at h2;subst h2;exact⟨_,rfl,px h5_ h3⟩
   ·simp at h2;subst h2;exact⟨_,rfl,fI h6_ h3⟩
   ·simp at h2
  ·exact absurd h1 (by simp[dec])
 |chart=>
  rcases cs with _|⟨a0,_|⟨a1,_|⟨a2,_|⟨a3,_|⟨a4,_|⟨a5,_|⟨a6,_|⟨a7,_|⟨b,cs⟩⟩⟩⟩⟩⟩⟩⟩⟩
  ·exact absurd h1 (by simp[dec])
  ·exact absurd h1 (by simp[dec])
  ·exact absurd h1 (by simp[dec])
  ·exact absurd h1 (by simp[dec])
  ·exact absurd h1 (by simp[dec])
  ·exact absurd h1 (by simp[dec])
  ·exact absurd h1 (by simp[dec])
  ·exact absurd h1 (by simp[dec])
  ·simp only[dec,Option.bind_eq_some_iff]at h1
   obtain⟨x0,h0_,x1,h1_,x2,h2_,x3,h3_,x4,h4_,x5,h5_,x6,h6_,x7,h7_,he⟩:=h1
   cases he
   rcases i with _|(_|(_|(_|(_|(_|(_|(_|i)))))))
   ·simp at h2;subst h2;exact⟨_,rfl,od h0_ h3⟩
   ·simp at h2;subst h2;exact⟨_,rfl,fI h1_ h3⟩
   ·simp at h2;subst h2;exact⟨_,rfl,fI h2_ h3⟩
   ·simp at h2;subst h2;exact⟨_,rfl,px h3_ h3⟩
   ·simp at h2;subst h2;exact⟨_,rfl,px h4_ h3⟩
   ·simp at h2;subst h2;exact⟨_,rfl,px h5_ h3⟩
   ·simp at h2;subst h2;exact⟨_,rfl,px h6_ h3⟩
   ·simp at h2;subst h2;exact⟨_,rfl,fI h7_ h3⟩
   ·simp at h2
  ·exact absurd h1 (by simp[dec])
 |inst=>
  rcases cs with _|⟨a0,_|⟨a1,_|⟨a2,_|⟨a3,_|⟨a4,_|⟨a5,_|⟨b,cs⟩⟩⟩⟩⟩⟩⟩
  ·exact absurd h1 (by simp[dec])
  ·exact absurd h1 (by simp[dec])
  ·exact absurd h1 (by simp[dec])
  ·exact absurd h1 (by simp[dec])
  ·exact absurd h1 (by simp[dec])
  ·exact absurd h1 (by simp[dec])
  ·simp only[dec,Option.bind_eq_some_iff]at h1
   obtain⟨x0,h0_,x1,h1_,x2,h2_,x3,h3_,x4,h4_,x5,h5_,he⟩:=h1
   cases he
   rcases i with _|(_|(_|(_|(_|(_|i)))))
   ·simp at h2;subst h2;exact⟨_,rfl,od h0_ h3⟩
   ·simp at h2;subst h2;exact⟨_,rfl,od h1_ h3⟩
   ·simp at h2;subst h2;exact⟨_,rfl,fI h2_ h3⟩
   ·simp at h2;subst h2;exact⟨_,rfl,fI h3_ h3⟩
   ·simp at h2;subst h2;exact⟨_,rfl,fI h4_ h3⟩
   ·simp at h2;subst h2;exact⟨_,rfl,fI h5_ h3⟩
   ·simp at h2
  ·exact absurd h1 (by simp[dec])
 |chan=>
  rcases cs with _|⟨a0,_|⟨a1,_|⟨a2,_|⟨a3,_|⟨a4,_|⟨a5,_|⟨a6,_|⟨b,cs⟩⟩⟩⟩⟩⟩⟩⟩
  ·exact absurd h1 (by simp[dec])
  ·exact absurd h1 (by simp[dec])
  ·exact absurd h1 (by simp[dec])
  ·exact absurd h1 (by simp[dec])
  ·exact absurd h1 (by simp[dec])
  ·exact absurd h1 (by simp[dec])
  ·exact absurd h1 (by simp[dec])
  ·simp only[dec,Option.bind_eq_some_iff]at h1
   obtain⟨x0,h0_,x1,h1_,x2,h2_,x3,h3_,x4,h4_,x5,h5_,x6,h6_,he⟩:=h1
   cases he
   rcases i with _|(_|(_|(_|(_|(_|(_|i))))))
   ·simp at h2;subst h2;exact⟨_,rfl,od h0_ h3⟩
   ·simp at h2;subst h2;exact⟨_,rfl,od h1_ h3⟩
   ·simp at h2;subst h2;exact⟨_,rfl,od h2_ h3⟩
   ·simp at h2;subst h2;exact⟨_,rfl,od h3_ h3⟩
   ·simp at h2;subst h2;exact⟨_,rfl,fI h4_ h3⟩
   ·simp at h2;subst h2;exact⟨_,rfl,fI h5_ h3⟩
   ·simp at h2;subst h2;exact⟨_,rfl,fI h6_ h3⟩
   ·simp at h2
  ·exact absurd h1 (by simp[dec])
 |cell=>
  rcases cs with _|⟨a0,_|⟨a1,_|⟨a2,_|⟨a3,_|⟨b,cs⟩⟩⟩⟩⟩
  ·exact absurd h1 (by simp[dec])
  ·exact absurd h1 (by simp[dec])
  ·exact absurd h1 (by simp[dec])
  ·exact absurd h1 (by simp[dec])
  ·simp only[dec,Option.bind_eq_some_iff]at h1
   obtain⟨x0,h0_,x1,h1_,x2,h2_,x3,h3_,he⟩:=h1
   cases he
   rcases i with _|(_|(_|(_|i)))
   ·simp at h2;subst h2;exact⟨_,rfl,fI h0_ h3⟩
   ·simp at h2;subst h2;exact⟨_,rfl,px h1_ h3⟩
   ·simp at h2;subst h2;exact⟨_,rfl,px h2_ h3⟩
   ·simp at h2;subst h2;exact⟨_,rfl,fI h3_ h3⟩
   ·simp at h2
  ·exact absurd h1 (by simp[dec])
 |cert=>
  rcases cs with _|⟨a0,_|⟨a1,_|⟨a2,_|⟨a3,_|⟨a4,_|⟨a5,_|⟨a6,_|⟨a7,_|⟨b,cs⟩⟩⟩⟩⟩⟩⟩⟩⟩
  ·exact absurd h1 (by simp[dec])
  ·exact absurd h1 (by simp[dec])
  ·exact absurd h1 (by simp[dec])
  ·exact absurd h1 (by simp[dec])
  ·exact absurd h1 (by simp[dec])
  ·exact absurd h1 (by simp[dec])
  ·exact absurd h1 (by simp[dec])
  ·exact absurd h1 (by simp[dec])
  ·simp only[dec,Option.bind_eq_some_iff]at h1
   obtain⟨x0,h0_,x1,h1_,x2,h2_,x3,h3_,x4,h4_,x5,h5_,x6,h6_,x7,h7_,he⟩:=h1
   cases he
   rcases i with _|(_|(_|(_|(_|(_|(_|(_|i)))))))
   ·simp at h2;subst h2;exact⟨_,rfl,od h0_ h3⟩
   ·simp at h2;subst h2;exact⟨_,rfl,od h1_ h3⟩
   ·simp at h2;subst h2;exact⟨_,rfl,od h2_ h3⟩
   ·simp at h2;subst h2;exact⟨_,rfl,od h3_ h3⟩
   ·simp at h2;subst h2;exact⟨_,rfl,px h4_ h3⟩
   ·simp at h2;subst h2;exact⟨_,rfl,px h5_ h3⟩
   ·simp at h2;subst h2;exact⟨_,rfl,px h6_ h3⟩
   ·simp at h2;subst h2;exact⟨_,rfl,fI h7_ h3⟩
   ·simp at h2
  ·exact absurd h1 (by simp[dec])
 |node=>
  rcases cs with _|⟨a0,_|⟨a1,_|⟨a2,_|⟨a3,_|⟨a4,_|⟨a5,_|⟨a6,_|⟨b,cs⟩⟩⟩⟩⟩⟩⟩⟩
  ·exact absurd h1 (by simp[dec])
  ·exact absurd h1 (by simp[dec])
  ·exact absurd h1 (by simp[dec])
  ·exact absurd h1 (by simp[dec])
  ·exact absurd h1 (by simp[dec])
  ·exact absurd h1 (by simp[dec])
  ·exact absurd h1 (by simp[dec])
  ·simp only[dec,Option.bind_eq_some_iff]at h1
   obtain⟨x0,h0_,x1,h1_,x2,h2_,x3,h3_,x4,h4_,x5,h5_,x6,h6_,he⟩:=h1
   cases he
   rcases i with _|(_|(_|(_|(_|(_|(_|i))))))
   ·simp at h2;subst h2;exact⟨_,rfl,fI h0_ h3⟩
   ·simp at h2;subst h2;exact⟨_,rfl,fI h1_ h3⟩
   ·simp at h2;subst h2;exact⟨_,rfl,fI h2_ h3⟩
   ·simp at h2;subst h2;exact⟨_,rfl,fI h3_ h3⟩
   ·simp at h2;subst h2;exact⟨_,rfl,fI h4_ h3⟩
   ·simp at h2;subst h2;exact⟨_,rfl,fI h5_ h3⟩
   ·simp at h2;subst h2;exact⟨_,rfl,od h6_ h3⟩
   ·simp at h2
  ·exact absurd h1 (by simp[dec])
theorem Ya(c:K)(cs:List (TV S))(x:El c)(h:dec c cs=some x):cs.length=sz c:=by
 cases c with
 |int=>
  rcases cs with _|⟨a0,_|⟨b,cs⟩⟩
  ·exact absurd h (by simp[dec])
  ·rfl
  ·exact absurd h (by simp[dec])
 |str=>
  rcases cs with _|⟨a0,_|⟨b,cs⟩⟩
  ·exact absurd h (by simp[dec])
  ·rfl
  ·exact absurd h (by simp[dec])
 |strs=>
  rcases cs with _|⟨a0,_|⟨b,cs⟩⟩
  ·exact absurd h (by simp[dec])
  ·rfl
  ·exact absurd h (by simp[dec])
 |tok=>
  rcases cs with _|⟨a0,_|⟨a1,_|⟨a2,_|⟨a3,_|⟨a4,_|⟨b,cs⟩⟩⟩⟩⟩⟩
  ·exact absurd h (by simp[dec])
  ·exact absurd h (by simp[dec])
  ·exact absurd h (by simp[dec])
  ·exact absurd h (by simp[dec])
  ·exact absurd h (by simp[dec])
  ·rfl
  ·exact absurd h (by simp[dec])
 |named=>
  rcases cs with _|⟨a0,_|⟨a1,_|⟨a2,_|⟨b,cs⟩⟩⟩⟩
  ·exact absurd h (by simp[dec])
  ·exact absurd h (by simp[dec])
  ·exact absurd h (by simp[dec])
  ·rfl
  ·exact absurd h (by simp[dec])
 |expr=>
  rcases cs with _|⟨a0,_|⟨a1,_|⟨a2,_|⟨a3,_|⟨a4,_|⟨b,cs⟩⟩⟩⟩⟩⟩
  ·exact absurd h (by simp[dec])
  ·exact absurd h (by simp[dec])
  ·exact absurd h (by simp[dec])
  ·exact absurd h (by simp[dec])
  ·exact absurd h (by simp[dec])
  ·rfl
  ·exact absurd h (by simp[dec])
 |act=>
  rcases cs with _|⟨a0,_|⟨a1,_|⟨a2,_|⟨a3,_|⟨a4,_|⟨a5,_|⟨a6,_|⟨a7,_|⟨b,cs⟩⟩⟩⟩⟩⟩⟩⟩⟩
  ·exact absurd h (by simp[dec])
  ·exact absurd h (by simp[dec])
  ·exact absurd h (by simp[dec])
  ·exact absurd h (by simp[dec])
  ·exact absurd h (by simp[dec])
  ·exact absurd h (by simp[dec])
  ·exact absurd h (by simp[dec])
  ·exact absurd h (by simp[dec])
  ·rfl
  ·exact absurd h (by simp[dec])
 |trans=>
  rcases cs with _|⟨a0,_|⟨a1,_|⟨a2,_|⟨a3,_|⟨a4,_|⟨b,cs⟩⟩⟩⟩⟩⟩
  ·exact absurd h (by simp[dec])
  ·exact absurd h (by simp[dec])
  ·exact absurd h (by simp[dec])
  ·exact absurd h (by simp[dec])
  ·exact absurd h (by simp[dec])
  ·rfl
  ·exact absurd h (by simp[dec])
 |state=>
  rcases cs with _|⟨a0,_|⟨a1,_|⟨a2,_|⟨a3,_|⟨a4,_|⟨a5,_|⟨a6,_|⟨b,cs⟩⟩⟩⟩⟩⟩⟩⟩
  ·exact absurd h (by simp[dec])
  ·exact absurd h (by simp[dec])
  ·exact absurd h (by simp[dec])
  ·exact absurd h (by simp[dec])
  ·exact absurd h (by simp[dec])
  ·exact absurd h (by simp[dec])
  ·exact absurd h (by simp[dec])
  ·rfl
  ·exact absurd h (by simp[dec])
 |chart=>
  rcases cs with _|⟨a0,_|⟨a1,_|⟨a2,_|⟨a3,_|⟨a4,_|⟨a5,_|⟨a6,_|⟨a7,_|⟨b,cs⟩⟩⟩⟩⟩⟩⟩⟩⟩
  ·exact absurd h (by simp[dec])
  ·exact absurd h (by simp[dec])
  ·exact absurd h (by simp[dec])
  ·exact absurd h (by simp[dec])
  ·exact absurd h (by simp[dec])
  ·exact absurd h (by simp[dec])
  ·exact absurd h (by simp[dec])
  ·exact absurd h (by simp[dec])
  ·rfl
  ·exact absurd h (by simp[dec])
 |inst=>
  rcases cs with _|⟨a0,_|⟨a1,_|⟨a2,_|⟨a3,_|⟨a4,_|⟨a5,_|⟨b,cs⟩⟩⟩⟩⟩⟩⟩
  ·exact absurd h (by simp[dec])
  ·exact absurd h (by simp[dec])
  ·exact absurd h (by simp[dec])
  ·exact absurd h (by simp[dec])
  ·exact absurd h (by simp[dec])
  ·exact absurd h (by simp[dec])
  ·rfl
  ·exact absurd h (by simp[dec])
 |chan=>
  rcases cs with _|⟨a0,_|⟨a1,_|⟨a2,_|⟨a3,_|⟨a4,_|⟨a5,_|⟨a6,_|⟨b,cs⟩⟩⟩⟩⟩⟩⟩⟩
  ·exact absurd h (by simp[dec])
  ·exact absurd h (by simp[dec])
  ·exact absurd h (by simp[dec])
  ·exact absurd h (by simp[dec])
  ·exact absurd h (by simp[dec])
  ·exact absurd h (by simp[dec])
  ·exact absurd h (by simp[dec])
  ·rfl
  ·exact absurd h (by simp[dec])
 |cell=>
  rcases cs with _|⟨a0,_|⟨a1,_|⟨a2,_|⟨a3,_|⟨b,cs⟩⟩⟩⟩⟩
  ·exact absurd h (by simp[dec])
  ·exact absurd h (by simp[dec])
  ·exact absurd h (by simp[dec])
  ·exact absurd h (by simp[dec])
  ·rfl
  ·exact absurd h (by simp[dec])
 |cert=>
  rcases cs with _|⟨a0,_|⟨a1,_|⟨a2,_|⟨a3,_|⟨a4,_|⟨a5,_|⟨a6,_|⟨a7,_|⟨b,cs⟩⟩⟩⟩⟩⟩⟩⟩⟩
  ·exact absurd h (by simp[dec])
  ·exact absurd h (by simp[dec])
  ·exact absurd h (by simp[dec])
  ·exact absurd h (by simp[dec])
  ·exact absurd h (by simp[dec])
  ·exact absurd h (by simp[dec])
  ·exact absurd h (by simp[dec])
  ·exact absurd h (by simp[dec])
  ·rfl
  ·exact absurd h (by simp[dec])
 |node=>
  rcases cs with _|⟨a0,_|⟨a1,_|⟨a2,_|⟨a3,_|⟨a4,_|⟨a5,_|⟨a6,_|⟨b,cs⟩⟩⟩⟩⟩⟩⟩⟩
  ·exact absurd h (by simp[dec])
  ·exact absurd h (by simp[dec])
  ·exact absurd h (by simp[dec])
  ·exact absurd h (by simp[dec])
  ·exact absurd h (by simp[dec])
  ·exact absurd h (by simp[dec])
  ·exact absurd h (by simp[dec])
  ·rfl
  ·exact absurd h (by simp[dec])
theorem Un(t:TypeId)(c:K)(h:code t=some c):∃i,Tryz.prog.info? t=some i∧i.size=sz c∧i.bytes≤2^11∧∃z,i.zero=some z∧z.cells.size=sz c:=by
 have key:∀(t:TypeId)(n:Nat),((Tryz.prog.info? t).bind fun i=>i.zero.map fun z=>decide (i.size=n∧i.bytes≤2^11∧z.cells.size=n))=some true→∃i,Tryz.prog.info? t=some i∧i.size=n∧i.bytes≤2^11∧∃z,i.zero=some z∧z.cells.size=n:=by
  intro t n h
  obtain⟨i,h1,h2⟩:=Option.bind_eq_some_iff.1 h
  obtain⟨z,h3,h4⟩:=Option.map_eq_some_iff.1 h2
  have:=of_decide_eq_true h4
  exact⟨i,h1,this.1,this.2.1,z,h3,this.2.2⟩
 unfold code at h
 split at h<;>first|(cases h;exact key _ _ (by kernel_rfl))|cases h
theorem Zf(c:K):1≤sz c:=by cases c<;>decide
theorem ZO(c:K):sz c≤2^11:=by cases c<;>decide
theorem Tb{c d:S.K}{ys:List (S.El d)}{xs:List (S.El c)}(h:dT c (.tree d ys)=some xs):(TV.tree d ys:TV S) = .tree c xs:=by
 simp only[dT]at h
 split at h
 ·rename_i e;subst e;cases h;rfl
 ·cases h
theorem Tc{c:S.K}{xs:List (S.El c)}(h:dT c .nils=some xs):xs=[]:=by simp only[dT,Option.some.injEq]at h;exact h.symm
theorem Wm(c:K)(x:El c)(j:Nat)(hj:j<sz c)(hs:sub c j=true):∃d ys,(enc c x)[j]?=some (.tree d ys)∧S.tight d=false:=by
 cases c with
 |int=>cases hs
 |str=>cases hs
 |strs=>cases hs
 |tok=>cases hs
 |named=>cases hs
 |expr=>cases hs
 |act=>cases hs
 |trans=>cases hs
 |state=>
  have hs:(Nat.beq j 4||Nat.beq j 5)=true:=hs
  simp only[Bool.or_eq_true]at hs
  rcases hs with hs|hs
  ·obtain rfl:=Nat.eq_of_beq_eq_true hs
   exact⟨_,_,rfl,rfl⟩
  ·obtain rfl:=Nat.eq_of_beq_eq_true hs
   exact⟨_,_,rfl,rfl⟩
 |chart=>cases hs
 |inst=>cases hs
 |chan=>cases hs
 |cell=>cases hs
 |cert=>cases hs
 |node=>cases hs
theorem Yb(c:K)(cs:List (TV S))(x:El c)(j:Nat)(d:S.K)(ys:List (S.El d))(h1:dec c cs=some x)(hs:sub c j=true)(h2:cs[j]?=some (.tree d ys)):(enc c x)[j]?=some (.tree d ys):=by
 cases c with
 |int=>cases hs
 |str=>cases hs
 |strs=>cases hs
 |tok=>cases hs
 |named=>cases hs
 |expr=>cases hs
 |act=>cases hs
 |trans=>cases hs
 |state=>
  rcases cs with _|⟨a0,_|⟨a1,_|⟨a2,_|⟨a3,_|⟨a4,_|⟨a5,_|⟨a6,_|⟨b,cs⟩⟩⟩⟩⟩⟩⟩⟩
  ·exact absurd h1 (by simp[dec])
  ·exact absurd h1 (by simp[dec])
  ·exact absurd h1 (by simp[dec])
  ·exact absurd h1 (by simp[dec])
  ·exact absurd h1 (by simp[dec])
  ·exact absurd h1 (by simp[dec])
  ·exact absurd h1 (by simp[dec])
  ·simp only[dec,Option.bind_eq_some_iff]at h1
   obtain⟨x0,h0_,x1,h1_,x2,h2_,x3,h3_,x4,h4_,x5,h5_,x6,h6_,he⟩:=h1
   cases he
   have hs:(Nat.beq j 4||Nat.beq j 5)=true:=hs
   simp only[Bool.or_eq_true]at hs
   rcases hs with hs|hs
   ·obtain rfl:=Nat.eq_of_beq_eq_true hs
    simp only[List.getElem?_cons_succ,List.getElem?_cons_zero,Option.some.injEq]at h2
    subst h2
    exact congrArg some (Tb h4_).symm
   ·obtain rfl:=Nat.eq_of_beq_eq_true hs
    simp only[List.getElem?_cons_succ,List.getElem?_cons_zero,Option.some.injEq]at h2
    subst h2
    exact congrArg some (Tb h5_).symm
  ·exact absurd h1 (by simp[dec])
 |chart=>cases hs
 |inst=>cases hs
 |chan=>cases hs
 |cell=>cases hs
 |cert=>cases hs
 |node=>cases hs
theorem Wn(c:K)(cs:List (TV S))(x:El c)(j:Nat)(h1:dec c cs=some x)(hs:sub c j=true)(h2:cs[j]?=some .nils):∃d,(enc c x)[j]?=some (.tree d []):=by
 cases c with
 |int=>cases hs
 |str=>cases hs
 |strs=>cases hs
 |tok=>cases hs
 |named=>cases hs
 |expr=>cases hs
 |act=>cases hs
 |trans=>cases hs
 |state=>
  rcases cs with _|⟨a0,_|⟨a1,_|⟨a2,_|⟨a3,_|⟨a4,_|⟨a5,_|⟨a6,_|⟨b,cs⟩⟩⟩⟩⟩⟩⟩⟩
  ·exact absurd h1 (by simp[dec])
  ·exact absurd h1 (by simp[dec])
  ·exact absurd h1 (by simp[dec])
  ·exact absurd h1 (by simp[dec])
  ·exact absurd h1 (by simp[dec])
  ·exact absurd h1 (by simp[dec])
  ·exact absurd h1 (by simp[dec])
  ·simp only[dec,Option.bind_eq_some_iff]at h1
   obtain⟨x0,h0_,x1,h1_,x2,h2_,x3,h3_,x4,h4_,x5,h5_,x6,h6_,he⟩:=h1
   cases he
   have hs:(Nat.beq j 4||Nat.beq j 5)=true:=hs
   simp only[Bool.or_eq_true]at hs
   rcases hs with hs|hs
   ·obtain rfl:=Nat.eq_of_beq_eq_true hs
    simp only[List.getElem?_cons_succ,List.getElem?_cons_zero,Option.some.injEq]at h2
    subst h2
    obtain rfl:=Tc h4_
    exact⟨_,rfl⟩
   ·obtain rfl:=Nat.eq_of_beq_eq_true hs
    simp only[List.getElem?_cons_succ,List.getElem?_cons_zero,Option.some.injEq]at h2
    subst h2
    obtain rfl:=Tc h5_
    exact⟨_,rfl⟩
  ·exact absurd h1 (by simp[dec])
 |chart=>cases hs
 |inst=>cases hs
 |chan=>cases hs
 |cell=>cases hs
 |cert=>cases hs
 |node=>cases hs
theorem ZP(g:Dz S):Mt (E g):=⟨Wm,Yb,Wn⟩
theorem Yc(g:Dz S):eg (E g) where
 len:=XZ
 pos:=Zf
 mixed:=by kernel_rfl
 size:=Un
 pure:=Um
 dec:=Ze
 szle:=ZO
 decLen:=Ya
 sub:=ZP g
def kinds:S.K→List (CK S)
 | .int=>[.int .i64]
 | .str=>[.str]
 | .strs=>[.sl .str]
 | .tok=>[.int .i64,.int .i64,.int .i64,.str,.int .i64]
 | .named=>[.str,.int .i64,.int .i64]
 | .expr=>[.int .i64,.int .i64,.str,.sl .expr,.int .i64]
 | .act=>[.int .i64,.str,.str,.sl .expr,.int .i64,.sl .act,.sl .act,.int .i64]
 | .trans=>[.str,.sl .expr,.str,.sl .act,.int .i64]
 | .state=>[.int .i64,.str,.sl .act,.sl .act,.sl .trans,.sl .state,.int .i64]
 | .chart=>[.str,.int .i64,.int .i64,.sl .named,.sl .named,.sl .named,.sl .state,.int .i64]
 | .inst=>[.str,.str,.int .i64,.int .i64,.int .i64,.int .i64]
 | .chan=>[.str,.str,.str,.str,.int .i64,.int .i64,.int .i64]
 | .cell=>[.int .i64,.sl .strs,.sl .strs,.int .i64]
 | .cert=>[.str,.str,.str,.str,.sl .str,.sl .str,.sl .cell,.int .i64]
 | .node=>[.int .i64,.int .i64,.int .i64,.int .i64,.int .i64,.int .i64,.str]
theorem JK(g:Dz S)(c:S.K)(e:TypeId)(h:(E g).code e=some c):Gs (E g).P (E g).code 40 e=some (kinds c):=by
 change code e=some c at h
 unfold code at h
 split at h<;>first|(cases h;kernel_rfl)|cases h
theorem MS(g:Dz S)(c:S.K)(tvs:List (TV S))(n:Nat)(h:ov (okN (E g) kinds n) (kinds c) tvs):∃x,(E g).enc c x=tvs:=by
 cases c with
 |int=>
  obtain⟨y0,r0,rfl,q0,h0⟩:=ar h
  obtain⟨x0,rfl,_⟩:=bJ q0
  obtain rfl:=fg h0
  exact⟨x0,rfl⟩
 |str=>
  obtain⟨y0,r0,rfl,q0,h0⟩:=ar h
  obtain⟨x0,rfl,_⟩:=fF q0
  obtain rfl:=fg h0
  exact⟨x0,rfl⟩
 |strs=>
  obtain⟨y0,r0,rfl,q0,h0⟩:=ar h
  obtain⟨_,x0,rfl,_⟩:=jq q0
  obtain rfl:=fg h0
  exact⟨x0,rfl⟩
 |tok=>
  obtain⟨y0,r0,rfl,q0,h0⟩:=ar h
  obtain⟨x0,rfl,_⟩:=bJ q0
  obtain⟨y1,r1,rfl,q1,h1⟩:=ar h0
  obtain⟨x1,rfl,_⟩:=bJ q1
  obtain⟨y2,r2,rfl,q2,h2⟩:=ar h1
  obtain⟨x2,rfl,_⟩:=bJ q2
  obtain⟨y3,r3,rfl,q3,h3⟩:=ar h2
  obtain⟨x3,rfl,_⟩:=fF q3
  obtain⟨y4,r4,rfl,q4,h4⟩:=ar h3
  obtain⟨x4,rfl,_⟩:=bJ q4
  obtain rfl:=fg h4
  exact⟨((⟨x0,x1,x2,x3,x4⟩:Token):Token),rfl⟩
 |named=>
  obtain⟨y0,r0,rfl,q0,h0⟩:=ar h
  obtain⟨x0,rfl,_⟩:=fF q0
  obtain⟨y1,r1,rfl,q1,h1⟩:=ar h0
  obtain⟨x1,rfl,_⟩:=bJ q1
  obtain⟨y2,r2,rfl,q2,h2⟩:=ar h1
  obtain⟨x2,rfl,_⟩:=bJ q2
  obtain rfl:=fg h2
  exact⟨((⟨x0,x1,x2⟩:ai):ai),rfl⟩
 |expr=>
  obtain⟨y0,r0,rfl,q0,h0⟩:=ar h
  obtain⟨x0,rfl,_⟩:=bJ q0
  obtain⟨y1,r1,rfl,q1,h1⟩:=ar h0
  obtain⟨x1,rfl,_⟩:=bJ q1
  obtain⟨y2,r2,rfl,q2,h2⟩:=ar h1
  obtain⟨x2,rfl,_⟩:=fF q2
  obtain⟨y3,r3,rfl,q3,h3⟩:=ar h2
  obtain⟨_,x3,rfl,_⟩:=jq q3
  obtain⟨y4,r4,rfl,q4,h4⟩:=ar h3
  obtain⟨x4,rfl,_⟩:=bJ q4
  obtain rfl:=fg h4
  exact⟨((⟨x0,x1,x2,x3,x4⟩:Expr):Expr),rfl⟩
 |act=>
  obtain⟨y0,r0,rfl,q0,h0⟩:=ar h
  obtain⟨x0,rfl,_⟩:=bJ q0
  obtain⟨y1,r1,rfl,q1,h1⟩:=ar h0
  obtain⟨x1,rfl,_⟩:=fF q1
  obtain⟨y2,r2,rfl,q2,h2⟩:=ar h1
  obtain⟨x2,rfl,_⟩:=fF q2
  obtain⟨y3,r3,rfl,q3,h3⟩:=ar h2
  obtain⟨_,x3,rfl,_⟩:=jq q3
  obtain⟨y4,r4,rfl,q4,h4⟩:=ar h3
  obtain⟨x4,rfl,_⟩:=bJ q4
  obtain⟨y5,r5,rfl,q5,h5⟩:=ar h4
  obtain⟨_,x5,rfl,_⟩:=jq q5
  obtain⟨y6,r6,rfl,q6,h6⟩:=ar h5
  obtain⟨_,x6,rfl,_⟩:=jq q6
  obtain⟨y7,r7,rfl,q7,h7⟩:=ar h6
  obtain⟨x7,rfl,_⟩:=bJ q7
  obtain rfl:=fg h7
  exact⟨((⟨x0,x1,x2,x3,x4,x5,x6,x7⟩:Act):Act),rfl⟩
 |trans=>
  obtain⟨y0,r0,rfl,q0,h0⟩:=ar h
  obtain⟨x0,rfl,_⟩:=fF q0
  obtain⟨y1,r1,rfl,q1,h1⟩:=ar h0
  obtain⟨_,x1,rfl,_⟩:=jq q1
  obtain⟨y2,r2,rfl,q2,h2⟩:=ar h1
  obtain⟨x2,rfl,_⟩:=fF q2
  obtain⟨y3,r3,rfl,q3,h3⟩:=ar h2
  obtain⟨_,x3,rfl,_⟩:=jq q3
  obtain⟨y4,r4,rfl,q4,h4⟩:=ar h3
  obtain⟨x4,rfl,_⟩:=bJ q4
  obtain rfl:=fg h4
  exact⟨((⟨x0,x1,x2,x3,x4⟩:Trans):Trans),rfl⟩
 |state=>
  obtain⟨y0,r0,rfl,q0,h0⟩:=ar h
  obtain⟨x0,rfl,_⟩:=bJ q0
  obtain⟨y1,r1,rfl,q1,h1⟩:=ar h0
  obtain⟨x1,rfl,_⟩:=fF q1
  obtain⟨y2,r2,rfl,q2,h2⟩:=ar h1
  obtain⟨_,x2,rfl,_⟩:=jq q2
  obtain⟨y3,r3,rfl,q3,h3⟩:=ar h2
  obtain⟨_,x3,rfl,_⟩:=jq q3
  obtain⟨y4,r4,rfl,q4,h4⟩:=ar h3
  obtain⟨_,x4,rfl,_⟩:=jq q4
  obtain⟨y5,r5,rfl,q5,h5⟩:=ar h4
  obtain⟨_,x5,rfl,_⟩:=jq q5
  obtain⟨y6,r6,rfl,q6,h6⟩:=ar h5
  obtain⟨x6,rfl,_⟩:=bJ q6
  obtain rfl:=fg h6
  exact⟨((⟨x0,x1,x2,x3,x4,x5,x6⟩:State):State),rfl⟩
 |chart=>
  obtain⟨y0,r0,rfl,q0,h0⟩:=ar h
  obtain⟨x0,rfl,_⟩:=fF q0
  obtain⟨y1,r1,rfl,q1,h1⟩:=ar h0
  obtain⟨x1,rfl,_⟩:=bJ q1
  obtain⟨y2,r2,rfl,q2,h2⟩:=ar h1
  obtain⟨x2,rfl,_⟩:=bJ q2
  obtain⟨y3,r3,rfl,q3,h3⟩:=ar h2
  obtain⟨_,x3,rfl,_⟩:=jq q3
  obtain⟨y4,r4,rfl,q4,h4⟩:=ar h3
  obtain⟨_,x4,rfl,_⟩:=jq q4
  obtain⟨y5,r5,rfl,q5,h5⟩:=ar h4
  obtain⟨_,x5,rfl,_⟩:=jq q5
  obtain⟨y6,r6,rfl,q6,h6⟩:=ar h5
  obtain⟨_,x6,rfl,_⟩:=jq q6
  obtain⟨y7,r7,rfl,q7,h7⟩:=ar h6
  obtain⟨x7,rfl,_⟩:=bJ q7
  obtain rfl:=fg h7
  exact⟨((⟨x0,x1,x2,x3,x4,x5,x6,x7⟩:Chart):Chart),rfl⟩
 |inst=>
  obtain⟨y0,r0,rfl,q0,h0⟩:=ar h
  obtain⟨x0,rfl,_⟩:=fF q0
  obtain⟨y1,r1,rfl,q1,h1⟩:=ar h0
  obtain⟨x1,rfl,_⟩:=fF q1
  obtain⟨y2,r2,rfl,q2,h2⟩:=ar h1
  obtain⟨x2,rfl,_⟩:=bJ q2
  obtain⟨y3,r3,rfl,q3,h3⟩:=ar h2
  obtain⟨x3,rfl,_⟩:=bJ q3
  obtain⟨y4,r4,rfl,q4,h4⟩:=ar h3
  obtain⟨x4,rfl,_⟩:=bJ q4
  obtain⟨y5,r5,rfl,q5,h5⟩:=ar h4
  obtain⟨x5,rfl,_⟩:=bJ q5
  obtain rfl:=fg h5
  exact⟨((⟨x0,x1,x2,x3,x4,x5⟩:Inst):Inst),rfl⟩
 |chan=>
  obtain⟨y0,r0,rfl,q0,h0⟩:=ar h
  obtain⟨x0,rfl,_⟩:=fF q0
  obtain⟨y1,r1,rfl,q1,h1⟩:=ar h0
  obtain⟨x1,rfl,_⟩:=fF q1
  obtain⟨y2,r2,rfl,q2,h2⟩:=ar h1
  obtain⟨x2,rfl,_⟩:=fF q2
  obtain⟨y3,r3,rfl,q3,h3⟩:=ar h2
  obtain⟨x3,rfl,_⟩:=fF q3
  obtain⟨y4,r4,rfl,q4,h4⟩:=ar h3
  obtain⟨x4,rfl,_⟩:=bJ q4
  obtain⟨y5,r5,rfl,q5,h5⟩:=ar h4
  obtain⟨x5,rfl,_⟩:=bJ q5
  obtain⟨y6,r6,rfl,q6,h6⟩:=ar h5
  obtain⟨x6,rfl,_⟩:=bJ q6
  obtain rfl:=fg h6
  exact⟨((⟨x0,x1,x2,x3,x4,x5,x6⟩:ak):ak),rfl⟩
 |cell=>
  obtain⟨y0,r0,rfl,q0,h0⟩:=ar h
  obtain⟨x0,rfl,_⟩:=bJ q0
  obtain⟨y1,r1,rfl,q1,h1⟩:=ar h0
  obtain⟨_,x1,rfl,_⟩:=jq q1
  obtain⟨y2,r2,rfl,q2,h2⟩:=ar h1
  obtain⟨_,x2,rfl,_⟩:=jq q2
  obtain⟨y3,r3,rfl,q3,h3⟩:=ar h2
  obtain⟨x3,rfl,_⟩:=bJ q3
  obtain rfl:=fg h3
  exact⟨((⟨x0,x1,x2,x3⟩:Cell):Cell),rfl⟩
 |cert=>
  obtain⟨y0,r0,rfl,q0,h0⟩:=ar h
  obtain⟨x0,rfl,_⟩:=fF q0
  obtain⟨y1,r1,rfl,q1,h1⟩:=ar h0
  obtain⟨x1,rfl,_⟩:=fF q1
  obtain⟨y2,r2,rfl,q2,h2⟩:=ar h1
  obtain⟨x2,rfl,_⟩:=fF q2
  obtain⟨y3,r3,rfl,q3,h3⟩:=ar h2
  obtain⟨x3,rfl,_⟩:=fF q3
  obtain⟨y4,r4,rfl,q4,h4⟩:=ar h3
  obtain⟨_,x4,rfl,_⟩:=jq q4
  obtain⟨y5,r5,rfl,q5,h5⟩:=ar h4
  obtain⟨_,x5,rfl,_⟩:=jq q5
  obtain⟨y6,r6,rfl,q6,h6⟩:=ar h5
  obtain⟨_,x6,rfl,_⟩:=jq q6
  obtain⟨y7,r7,rfl,q7,h7⟩:=ar h6
  obtain⟨x7,rfl,_⟩:=bJ q7
  obtain rfl:=fg h7
  exact⟨((⟨x0,x1,x2,x3,x4,x5,x6,x7⟩:Cert):Cert),rfl⟩
 |node=>
  obtain⟨y0,r0,rfl,q0,h0⟩:=ar h
  obtain⟨x0,rfl,_⟩:=bJ q0
  obtain⟨y1,r1,rfl,q1,h1⟩:=ar h0
  obtain⟨x1,rfl,_⟩:=bJ q1
  obtain⟨y2,r2,rfl,q2,h2⟩:=ar h1
  obtain⟨x2,rfl,_⟩:=bJ q2
  obtain⟨y3,r3,rfl,q3,h3⟩:=ar h2
  obtain⟨x3,rfl,_⟩:=bJ q3
  obtain⟨y4,r4,rfl,q4,h4⟩:=ar h3
  obtain⟨x4,rfl,_⟩:=bJ q4
  obtain⟨y5,r5,rfl,q5,h5⟩:=ar h4
  obtain⟨x5,rfl,_⟩:=bJ q5
  obtain⟨y6,r6,rfl,q6,h6⟩:=ar h5
  obtain⟨x6,rfl,_⟩:=fF q6
  obtain rfl:=fg h6
  exact⟨((⟨x0,x1,x2,x3,x4,x5,x6⟩:Node):Node),rfl⟩
noncomputable abbrev E0:Env S:=E Ak
theorem e0:eg E0:=Yc Ak
abbrev pK{Y:Type}(q:Pat S)(K:List (TV S)→List (Obj S)→Y):q.Fn Y:=q.k K
abbrev oK{Y:Type}(o:Out S)(K:Res S→Y):o.v.Fn (Ce o.xs (Ce o.ns Y)):=o.k K
abbrev oQ{Y:Type}(o:Out S)(K:TV S→List (Obj S)→Y):o.v.Fn (Ce o.ns Y):=o.q K
end So
