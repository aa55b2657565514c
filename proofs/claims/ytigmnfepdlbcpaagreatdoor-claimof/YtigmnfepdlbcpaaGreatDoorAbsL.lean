import Derived.Test.YtigmnfepdlbcpaaGreatDoorAbsSort
set_option linter.all false
namespace Go.Abs
open Go
section
section
variable{P:Program}
end
end
section
section
variable{P:Program}{tt:TT}{l:List Oper}
end
end
end Go.Abs
namespace Go.Abs
open Go Go.Sort Go.Shelf Go.Proofs
section
variable{P:Program}
theorem RepL.parts{g:G}:∀{ps qs:List PV}{vs:List Value},RepL g (ps++qs) vs->∃a b,vs=a++b/\a.length=ps.length/\RepL g ps a/\RepL g qs b
 |[],qs,vs,h=>⟨[],vs,rfl,rfl,by simp[RepL],h⟩
 |p::ps,qs,vs,h=>by
  simp only[List.cons_append,RepL]at h
  obtain⟨v,i,rfl,c,d⟩:=h
  obtain⟨a,b,rfl,e,f,h4⟩:=RepL.parts d
  exact⟨v::a,b,rfl,by simp[e],by simp only[RepL];exact⟨v,a,rfl,c,f⟩,h4⟩
end
end Go.Abs
