/- What a problem that is handed in reads as,for each law of the seat. Conditions: as it says. -/
import Derived.Test.YtbhfhkcdfmmmiaaGreatDuBZj
set_option linter.all false
set_option maxRecDepth 100000
namespace Go.Proofs.YtbhfhkcdfmmmiaaGreat
open Go.ChangeShapes Go.WideShapes Go.ChangeAt Go.RowKit Go.Deep
theorem zMj{H:Type}{enc:TypeId × Value→H}{W:World}{base:Nat}{i:Nat→Bool}{held:Bool}{fuel:Nat}{cs:List Value}{x:DataW H × List MemPlace}(h:DataW.trod enc Tryz.prog W base i held fuel 25 cs=some x)(B:Rows.uptoBulk x.1≤1048576) :
  ∃(A:OA) (b cA:Nat) (L:OA) (c a:Nat) (qs:List (Int × Int)) (e:List LineV),cs=[.slice A b cA,.slice L c a]∧zcs W A qs∧zex W L e∧b=qs.length∧c=e.length∧b≤cA∧c≤a∧cA≤9223372036854775807∧a≤9223372036854775807:=by
 obtain⟨zs,n,_,y,m,z,hg⟩:=Y3 Tryz.underlying25 h;rw[zLt]at m
 match cs,m with
 | [c0,c1],_ =>
  have f:DataW.trod enc Tryz.prog W base i held n 22 ([c0,c1].take (Tryz.prog.cellsOf 22))=zs[0]?:=hg 0 _ rfl;have g:DataW.trod enc Tryz.prog W base i held n 23 ([c1].take (Tryz.prog.cellsOf 23))=zs[1]?:=hg 1 _ rfl;rw[zKr]at f;rw[zK3]at g;have D:zs.length=2:=z;rw[Ze (show 0<zs.length by omega)]at f;rw[Ze (show 1<zs.length by omega)]at g;have q:x.1=.agg (zs.map (·.1)):=by rw[y]
  have C:Rows.uptoBulk zs[1].1≤Rows.uptoBulk x.1:=by
   have:=zKR (d:=zs[1].1) (l:=zs.map (·.1)) (Zq.2 ⟨zs[1],XS _,rfl⟩);rw[q];simp only[Rows.uptoBulk];omega
  grind[zrv,zLz]
