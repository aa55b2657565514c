import Derived.Test.YtigmnfepdlbcpaaGreatDoorClAh
set_option linter.all false
namespace Go.Proofs.YtigmnfepdlbcpaaGreatDoor
open Go Go.Abs Go.ChangeShapes Go.WideShapes Go.ChangeAt Go.RowKit
set_option maxRecDepth 10000
variable{N n t:Nat}{ps:List PV}
theorem aNs(h:bU qp N n 83 ps):∃v:Co,ps=v.z:=by
 obtain⟨m,f,_,rfl,e⟩:=cG aT rfl h;cases e with|cons ha e=>cases e with|cons hb e=>cases e with|cons hc e=>cases e with|cons hd e=>cases e with|nil=>
 obtain⟨a,rfl,_⟩:=acG aT rfl ha;obtain⟨b,rfl,_⟩:=bR aT rfl hb;obtain⟨c,rfl,_⟩:=bR aT rfl hc;obtain⟨d,rfl⟩:=aiA aT rfl hd;exact⟨⟨a,b,c,d⟩,rfl⟩
theorem aLk{fs:List (TypeId×Nat)}(ht:tiK tt t=some (.struct fs)){α:Type}{f:α->List PV}(hf:fs.map (·.1)=[3,3,3])(mk:Int->Int->Int->α)(hm:∀a b c,f (mk a b c)=[vi a,vi b,vi c])(h:bU qp N n t ps):∃v:α,ps=f v:=by
 obtain⟨m,e,_,rfl,d⟩:=cG aT ht h;rw[hf]at d;cases d with|cons ha d=>cases d with|cons hb d=>cases d with|cons hc d=>cases d with|nil=>
 obtain⟨a,rfl,_⟩:=bR aT rfl ha;obtain⟨b,rfl,_⟩:=bR aT rfl hb;obtain⟨c,rfl,_⟩:=bR aT rfl hc;exact⟨mk a b c,(hm a b c).symm⟩
theorem aBK :∀{l:List X.Ex},(∀e∈l,e.ok)->X.Ex.oks l
 |[],_=>by trivial
 |e::l,h=>by
  exact⟨h e (List.mem_cons_self ..),aBK λx hx=>h x (zmm _ hx)⟩
theorem aOi :∀{n:Nat}{ps:List PV},bU qp reachBytes n 80 ps->∃e:X.Ex,ps=e.z/\e.ok:=by
 intro n
 induction n using Nat.strongRecOn with
 |_ n ih=>
  intro ps h;obtain⟨m,q,hm,rfl,d⟩:=cG aT rfl h;cases d with|cons ha d=>cases d with|cons hb d=>cases d with|cons hc d=>cases d with|cons hd d=>cases d with|nil=>
  obtain⟨a,rfl,_⟩:=bR aT rfl ha;obtain⟨b,rfl,_⟩:=bR aT rfl hb;obtain⟨c,rfl⟩:=auM hc;obtain⟨p,rows,k,rfl,hl,o⟩:=cQ aT rfl hd;obtain⟨l,rfl,j,hq⟩:=acT (f:=X.Ex.z) λr g=>ih p (by omega) (o r g);refine⟨.mk a b c l,by rw[<-X.Ex.rows_map];rfl,?_⟩;have i:reachBytes<2^62:=by decide
  exact⟨by omega,aBK hq⟩
theorem aNS(h:bU qp reachBytes n 77 ps):∃v:Tb,ps=v.z/\TbB v/\tH v:=by
 obtain⟨m,t,_,rfl,g⟩:=cG aT rfl h;cases g with|cons ha g=>cases g with|cons hb g=>cases g with|cons hc g=>cases g with|cons hd g=>cases g with|cons he g=>cases g with|cons hf g=>cases g with|nil=>
 obtain⟨a,rfl,_⟩:=acG aT rfl ha;obtain⟨_,b,_,rfl,o,j⟩:=cQ aT rfl hb;obtain⟨b,rfl⟩:=vR (f:=Co.z) λr i=>aNs (j r i);obtain⟨_,c,_,rfl,p,j⟩:=cQ aT rfl hc;obtain⟨c,rfl⟩:=vR (f:=I1) λr i=>by
  obtain⟨x,rfl,_⟩:=bR aT rfl (j r i);exact⟨x,rfl⟩
 obtain⟨_,d,_,rfl,ld,l⟩:=cQ aT rfl hd;have k:∀c∈d,∃e:X.Ex,e.ok/\e.z=c:=λc hc=>by
  have⟨e,s,g⟩:=aOi (l c hc)
  exact⟨e,g,s.symm⟩
 obtain⟨_,e,_,rfl,le,j⟩:=cQ aT rfl he;obtain⟨e,rfl⟩:=vR (f:=Fr.z) λr i=>aLk rfl rfl Fr.mk (λ_ _ _=>rfl) (j r i);obtain⟨_,f,_,rfl,q,j⟩:=cQ aT rfl hf;obtain⟨f,rfl⟩:=vR (f:=Su.z) λr i=>aLk rfl rfl Su.mk (λ_ _ _=>rfl) (j r i);rw[zql]at o p le q;have h:=show reachBytes<200000000000000 by decide
 exact⟨⟨a,b,c,d,e,f⟩,rfl,⟨Nat.lt_of_le_of_lt o h,Nat.lt_of_le_of_lt p h,Nat.lt_of_le_of_lt ld h,Nat.lt_of_le_of_lt le h,Nat.lt_of_le_of_lt q h⟩,k⟩
theorem aKs :Tryz.prog.bytesOf 77=136:=rfl
theorem aNE(h:bU qp reachBytes n 24 ps):∃v:{s:Sc//ScG s/\s.length<2000000000000},ps=scC v.1:=by
 obtain⟨m,f,_,rfl,a⟩:=cG aT rfl h;cases a with|cons ha a=>cases a with|nil=>
 obtain⟨_,c,_,rfl,e,d⟩:=anZ aT rfl ha;obtain⟨c,rfl,hl,hq⟩:=acT λr b=>aNS (d r b);rw[aKs,zql]at e;have h:reachBytes=140737488351232:=rfl;exact⟨⟨c,⟨by omega,λt ht=>(hq t ht).1,λt ht=>(hq t ht).2⟩,by omega⟩,rfl⟩
theorem aOg(h:bU qp N n 30 ps):∃v:T.Sp,ps=v.z:=by
 obtain⟨m,e,_,rfl,d⟩:=cG aT rfl h;cases d with|cons ha d=>cases d with|cons hb d=>cases d with|cons hc d=>cases d with|nil=>
 obtain⟨a,rfl,_⟩:=bR aT rfl ha;obtain⟨b,rfl,_⟩:=bR aT rfl hb;obtain⟨c,rfl,_⟩:=bR aT rfl hc;exact⟨⟨a,b,c⟩,rfl⟩
def OpN(o:Ot):Prop:=o.r.length<200000000000000
theorem aOh(h:bU qp reachBytes n 53 ps):∃o:Ot,ps=o.z/\OpN o:=by
 obtain⟨m,i,_,rfl,b⟩:=cG aT rfl h;cases b with|cons h0 b=>cases b with|cons h1 b=>cases b with|cons h3 b=>cases b with|cons h4 b=>cases b with|cons h5 b=>cases b with|cons h6 b=>cases b with|cons h7 b=>cases b with|cons h8 b=>cases b with|nil=>
 obtain⟨k,rfl,_⟩:=bR aT rfl h0;obtain⟨t,rfl,_⟩:=bR aT rfl h1;obtain⟨y,rfl,_⟩:=bR aT rfl h3;obtain⟨c,rfl,_⟩:=bR aT rfl h4;obtain⟨_,rows,_,rfl,j,g⟩:=cQ aT rfl h5;obtain⟨r,rfl,hl,_⟩:=acT (f:=Vl.z) (Q:=λ_=>True) λx hx=>by
  have⟨v,e⟩:=auM (g x hx);exact⟨v,e,trivial⟩
 obtain⟨v,rfl⟩:=auM h6;obtain⟨d,rfl⟩:=aBu h7;obtain⟨a,rfl,_⟩:=bR aT rfl h8;have h:reachBytes<200000000000000:=by decide
 exact⟨⟨k,t,y,c,r,v,d,a⟩,rfl,by show r.length<_;omega⟩
theorem aMn(h:bU qp reachBytes n 28 ps):∃v:{l:List Ot//l.length<200000000000000/\∀o∈l,OpN o},ps=[.seq (v.1.map Ot.z)]:=by
 obtain⟨_,rows,_,rfl,b,a⟩:=cQ aT rfl h;obtain⟨l,rfl,hl,hq⟩:=acT λx hx=>aOh (a x hx);have h:reachBytes<200000000000000:=by decide
 exact⟨⟨l,by omega,hq⟩,rfl⟩
theorem aNT(h:bU qp reachBytes n 32 ps):∃v:{l:List Int//l.length<200000000000000},ps=[.seq (v.1.map I1)]:=by
 obtain⟨_,rows,_,rfl,b,a⟩:=cQ aT rfl h;obtain⟨l,rfl,hl,_⟩:=acT λx hx=>by
  have⟨v,e,_⟩:=bR aT rfl (a x hx);exact⟨v,e,trivial⟩
 have h:reachBytes<200000000000000:=by decide
 exact⟨⟨l,by omega⟩,rfl⟩
end Go.Proofs.YtigmnfepdlbcpaaGreatDoor
