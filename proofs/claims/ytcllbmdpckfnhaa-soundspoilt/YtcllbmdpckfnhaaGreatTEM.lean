/- TE: maps. -/
import Derived.Test.YtcllbmdpckfnhaaGreatTE14
import Derived.MapKept
namespace TE
open Go
variable{S:Sig}{E:Env S}
section
variable{R:Type}{k:Eff S→Option R}{r:R}{t:Nat→TV S}{ob:Nat→Option (Obj S)}{base:Nat}{o:Oper}
theorem GC{P:Program}{ty e:TypeId}{inf:TypeInfo}{L b off:Nat}{q:IntKind}{n:Int}(w:World)(hu:P.underlying ty=some (.array L e))(hi:P.info? e=some inf)(h0:0≤n)(h1:n<L):
  (Instr.indexAt ty (.pointer (some (at_ b off))) (.int q n)).run P w = .ok (.pointer (some (at_ b (off+n.toNat*inf.size)))) w:=by
 unfold Instr.indexAt
 simp only[TE.run_bind,sY,TE.run_underlying ty w hu,qG,TE.run_pure,h0,h1,and_self,if_true,run_sizeOf e w hi,tN]
theorem Ii{ty e:TypeId}{x y:Operand}{q:IntKind}{n:Int}{L:Nat}{inf:TypeInfo}{tv:TV S}(ho:o.op = .indexAddr ty x y)(hu:E.P.underlying ty=some (.array L e))(hi:E.P.info? e=some inf)(hy:ev t y = .int q n)(h0:0≤n)(h1:n<L)(hx:(∃nm i j,ev t x = .ptr nm i j∧tv = .ptr nm i (j+n.toNat*inf.size))∨∃c z j,ev t x = .iptr c z j∧tv = .iptr c z (j+n.toNat*inf.size)):cX E o t ob base ⟨tv,[],[],base⟩:=by
 refine cX.value fun B nt t' ob' a w φ M hv hrd hm=>?_
 have h2:=hv x (by rw[ho];simp[Op.operands])
 have h3:=hv y (by rw[ho];simp[Op.operands])
 rw[hy]at h3
 have e3:=h3.int
 obtain⟨dst,op',ty',pos,after,guard⟩:=o
 subst ho
 rcases hx with⟨nm,i,j,e1,rfl⟩|⟨c,z,j,e1,rfl⟩
 ·rw[e1]at h2
  obtain⟨g,hg,e2⟩:=h2.ptr_inv
  refine⟨_,bw (by rw[e2,e3];exact GC w hu hi h0 h1),?_⟩
  rw[Nat.add_assoc]
  exact .ptr hg
 ·rw[e1]at h2
  obtain⟨b,off,e2,hM⟩:=h2.iptr_inv
  refine⟨_,bw (by rw[e2,e3];exact GC w hu hi h0 h1),?_⟩
  rw[Nat.add_assoc]
  exact VR.iptr_mk b off rfl hM
end
end TE
