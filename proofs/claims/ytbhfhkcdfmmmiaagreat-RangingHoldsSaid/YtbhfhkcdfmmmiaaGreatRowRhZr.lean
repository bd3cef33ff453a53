/- RangingHolds returns true for every input (any two ends,there or not,any two numbers),and the input reads as it did. Conditions: none. -/
import Derived.Test.YtbhfhkcdfmmmiaaGreatRgRZr
import Derived.ChangeSame
set_option linter.all false
set_option maxHeartbeats 4000000
set_option maxRecDepth 100000
namespace Go.Proofs.YtbhfhkcdfmmmiaaGreat
open Go.ChangeShapes Go.WideShapes Go.ChangeAt Go.RowKit Go.Deep
theorem yPK:Tryz.prog.underlying 59=some (.array 2 4):=by kernel_rfl
theorem yYM{H:Type}{enc:TypeId × Value→H}{W:World}{base:Nat}{j:Nat→Bool}{i:Bool}{fuel:Nat}{cs:List Value}{x:DataW H × List MemPlace}(h:DataW.trod enc Tryz.prog W base j i fuel 59 cs=some x):∃a b:Bool,cs=[.bool a,.bool b]:=by
 obtain⟨ys,l,_,_,g,k,hg⟩:=DataW.trod_array yPK h;rw[show Tryz.prog.cellsOf 59=2 by kernel_rfl]at g
 match cs,g with
 | [c0,c1],_ =>
  have c:=hg 0 (by omega);have d:=hg 1 (by omega);rw[zup]at c d;rw[List.getElem?_eq_getElem (show 0<ys.length by omega)]at c;rw[List.getElem?_eq_getElem (show 1<ys.length by omega)]at d;obtain⟨a,e,_⟩:=DataW.trod_bool Tryz.underlying4 c;obtain⟨b,f,_⟩:=DataW.trod_bool Tryz.underlying4 d;simp at e f;exact⟨a,b,by rw[e,f]⟩
theorem yMn{H:Type}{enc:TypeId × Value→H}{W:World}{k:Nat→Bool}{c:Bool}{v:Value}{d:DataW H}{ps:List MemPlace}{a:Nat}(j:Value.okWide Tryz.prog W .any a 58 v)(h:DataW.Trod enc Tryz.prog W 0 k c 58 v d ps):∃p q:Int,v=.agg #[.int .i64 p,.int .i64 q]∧I64 p∧I64 q:=by
 obtain⟨cs,rfl,_⟩:=okWide_struct Tryz.underlying58 j;obtain⟨f,h⟩:=h;obtain⟨p,q,e,g,i⟩:=zAH h;obtain⟨l⟩:=cs;have b:l=[.int .i64 p,.int .i64 q]:=e;subst b;exact⟨p,q,rfl,g,i⟩
theorem ySJ{H:Type}{enc:TypeId × Value→H}{W:World}{m:Nat→Bool}{j:Bool}{v:Value}{d:DataW H}{ps:List MemPlace}{g:Nat}(k:Value.okWide Tryz.prog W .any g 59 v)(h:DataW.Trod enc Tryz.prog W 0 m j 59 v d ps):∃a b:Bool,v=.agg #[.bool a,.bool b]:=by
 have c:=k;simp only[Value.okWide,yPK]at c;obtain⟨cs,rfl,_,_⟩:=c;obtain⟨f,h⟩:=h;obtain⟨p,q,e⟩:=yYM h;obtain⟨l⟩:=cs;have i:l=[.bool p,.bool q]:=e;subst i;exact⟨p,q,rfl⟩
theorem yND(os:Os)(al:os.Started)(H:Type)(enc:TypeId × Value→H) :
  ReturnsInHanded {} Tryz.checked os 4 .any (Rows.rangingHoldsSpec.pre6 enc Tryz.prog Tryz.f4 Rows.rangingHoldsRow.domain false) (Rows.rangingHoldsSpec.post enc Tryz.prog Tryz.f4 false true false false):=by
 refine returnsInHanded_of_change (C:=Tryz.checked) own al (by kernel_rfl) Tryz.func4
  (ChangeSpec.witness6 (enc:=enc) (C:=Tryz.checked) false ⟨#[],#[.agg #[.int .i64 0,.int .i64 0],.agg #[.int .i64 0,.int .i64 0],.agg #[.bool false,.bool false],.agg #[.int .i64 0,.int .i64 0],.agg #[.int .i64 0,.int .i64 0]],[]⟩ 8 (by kernel_rfl) (by kernel_rfl) (by kernel_rfl) (by kernel_rfl)) ?_
 intro W base args Q gs an ah u ax _;have c:∀(j:Nat) t v,Tryz.f4.params[j]? = some t→args[j]? = some v→Value.okWide Tryz.prog W .any base t v:=ah;have b:=u;obtain⟨p,q,R,S,rfl,ay,az⟩:=u;have r:DataW.TrodAll enc Tryz.prog W 0 (fun _=>true) true Tryz.f4.params.toList args.toList Q p:=R;rw[Tryz.params4]at r c;obtain⟨v0,aF,f,ao,y,q0,aw,rfl,rfl,h0,r0⟩:=trodAll_cons r;obtain⟨v1,aG,g,ap,z,q1,rfl,rfl,rfl,h1,r1⟩:=trodAll_cons r0;obtain⟨E,aH,i,aq,A,q2,rfl,rfl,rfl,m,r2⟩:=trodAll_cons r1
 obtain⟨F,aI,k,ar,B,q3,rfl,rfl,rfl,n,r3⟩:=trodAll_cons r2;obtain⟨G,aJ,l,au,D,q4,rfl,rfl,rfl,o,r4⟩:=trodAll_cons r3;obtain⟨rfl,rfl,rfl⟩:=trodAll_nil r4;obtain rfl:args=#[v0,v1,E,F,G]:=by cases args;simp_all
 obtain⟨rfl,rfl⟩:=trodVars_none S;obtain⟨I,M,rfl,T,Y⟩:=yMn (c 0 58 v0 rfl rfl) h0;obtain⟨J,N,rfl,U,Z⟩:=yMn (c 1 58 v1 rfl rfl) h1;obtain⟨s,t,rfl⟩:=ySJ (c 2 59 E rfl rfl) m;obtain⟨K,O,rfl,V,aa⟩:=yMn (c 3 58 F rfl rfl) n;obtain⟨L,P,rfl,X,ab⟩:=yMn (c 4 58 G rfl rfl) o
 have d:Rows.rangingHoldsSpec.fn H ([f,g,i,k,l]++[])={ results:=[.lit (.bool true)],args:=[f,g,i,k,l] }:=by simp[Rows.rangingHoldsSpec]
 refine(Lw.holds22 s t I M J N K O L P T Y U Z V aa X ab W).mono fun e W' ⟨he,hb⟩=>?_
 subst he;refine⟨_,rfl,_,_,_,[],(y++(z++(A++(B++(D++[]))))),[],b,?_,?_,?_,hb.frame _,fun h=>by cases h⟩
 ·rw[d];exact trodAll_mk1 (shut_bool Tryz.underlying4 true)
 ·rw[d];refine trodAll_cons_mk ?_ (trodAll_cons_mk ?_ (trodAll_cons_mk ?_ (trodAll_cons_mk ?_ (trodAll_cons_mk ?_ trodAll_mk0))))
  all_goals exact Below.trod zqj (by kernel_rfl) (of_decide_eq_true (by kernel_rfl)) (by assumption) hb fun x a=>b.lt x (by simp[a])
 ·rw[d];rfl
theorem rangingHolds_said:Rows.RangingHoldsSaid :=
 OpenClaim.holds_of_wide 4 Tryz.f4 rfl rfl rfl rfl rfl rfl rfl ⟨rfl,rfl,rfl,rfl,rfl⟩ rfl rfl rfl rfl rfl (by kernel_rfl) Tryz.func4 (by kernel_rfl)
  (of_decide_eq_true (by kernel_rfl)) (by unfold Func.isWrapper;first | (rw[if_pos (by decide +kernel)];kernel_rfl) | (rw[if_neg (by decide +kernel)];exact⟨rfl,rfl⟩))
  (fun os a H enc _=>yND os a H enc)
