/- CanonBudgets returns true for every input of bulk at most 1048576 (any problem and budget),and the input reads as it did. Conditions: none beyond the statement's own bound. -/
import Derived.Test.YtdnippohkfdncaaGreatRowLZk
import Derived.Test.YtdnippohkfdncaaGreatCb21Zk
set_option linter.all false
set_option maxHeartbeats 4000000
set_option maxRecDepth 100000
namespace Go.Proofs.YtdnippohkfdncaaGreat
open Go.ChangeShapes Go.WideShapes Go.ChangeAt Go.RowKit Go.Deep
theorem ytE(os:Os)(T:os.Started)(H:Type)(enc:TypeId × Value→H)(F:Stop.Interp) :
  ReturnsInHanded {} Tryz.checked os 7 .any ((Rows.OpenSpec.upto Rows.canonBudgetsSpec).pre6 enc Tryz.prog Tryz.f7 Rows.canonBudgetsUptoRow.domain false) (((Rows.OpenSpec.upto Rows.canonBudgetsSpec).at F).post enc Tryz.prog Tryz.f7 false true false false):=by
 refine returnsInHanded_of_cond (C:=Tryz.checked) (s:=Rows.OpenSpec.upto Rows.canonBudgetsSpec) (k:=Rows.uptoSmall) rfl own T (by kernel_rfl) Tryz.func7
  (OpenSpec.witness (enc:=enc) (C:=Tryz.checked) (s:=Rows.OpenSpec.upto Rows.canonBudgetsSpec) (k:=Rows.uptoSmall) rfl false ⟨#[],#[.agg #[.slice none 0 0,.slice none 0 0],.int .u8 0],[]⟩ 8 (by kernel_rfl) (by kernel_rfl) (by kernel_rfl)
   (x:=([.agg [.nil,.nil],.lit (.int .u8 0)],[],[])) (by kernel_rfl) rfl (by kernel_rfl)) ?_
 intro W base args y gs V f j _ hk _;have l:=j;obtain⟨p,q,z,B,rfl,ad,ae⟩:=j;have i:DataW.TrodAll enc Tryz.prog W 0 (fun _=>true) true Tryz.f7.params.toList args.toList y p:=z;rw[Tryz.params7]at i f;obtain⟨v0,ai,b,X,t,q0,ab,rfl,rfl,h0,R⟩:=trodAll_cons i;obtain⟨v1,aj,v,Y,p1,q1,rfl,rfl,rfl,h1,S⟩:=trodAll_cons R;obtain⟨rfl,rfl,rfl⟩:=trodAll_nil S;obtain rfl:args=#[v0,v1]:=by cases args;simp_all
 obtain⟨rfl,rfl⟩:=trodVars_none B;have ac:Rows.uptoBulk b+(Rows.uptoBulk v+0)≤1048576:=by
  have h:=of_decide_eq_true hk;simpa only[List.append_nil,Rows.uptoBulkAll]using h
 obtain⟨u,rfl,_⟩:=okWide_struct Tryz.underlying69 (f 0 69 v0 rfl rfl);obtain⟨a,rfl,rfl,rfl,n⟩:=open_int Tryz.underlying5 (f 1 5 v1 rfl rfl) h1;have O:=h0;obtain⟨Z,h0⟩:=h0;obtain⟨A,o,cA,L,r,g,qs,Q,c,G,I,K,hm,M,N,D,E⟩:=zMj h0 (by show Rows.uptoBulk b≤1048576;omega);obtain⟨l0⟩:=u;have c:l0=[.slice A o cA,.slice L r g]:=c;subst c;have J:∀x∈t,x.block<W.heap.size:=fun x P=>l.lt x (by simp[P])
 have m:0≤a∧a<256:=by
  simp[Lit.wf,IntKind.min,IntKind.max,IntKind.signed,IntKind.bits]at n;omega
 have d:((Rows.OpenSpec.upto Rows.canonBudgetsSpec).at F).fn H ([b,.lit (.int .u8 a)]++[])={ results:=[.lit (.bool true)],args:=[b,.lit (.int .u8 a)] }:=rfl;refine(Lw.budgets21 A o cA L r g qs Q a W G I K hm M N D E m.1 m.2).mono fun e U ⟨he,hb⟩=>?_
 subst he;refine⟨_,rfl,_,_,_,[],(t++([]++[])),[],l,?_,?_,?_,hb.frame _,fun h=>by cases h⟩
 ·rw[d];exact trodAll_mk1 (shut_bool Tryz.underlying4 true)
 ·rw[d];exact trodAll_cons_mk (Below.trod zqj (by kernel_rfl) (of_decide_eq_true (by kernel_rfl)) O hb J) (trodAll_cons_mk (shut_int Tryz.underlying5 n) trodAll_mk0)
 ·rw[d];rfl
theorem canonBudgets_upto:Rows.CanonBudgetsUptoSaid :=
 OpenClaim.holds_of_cond 7 Tryz.f7 rfl rfl rfl rfl rfl rfl rfl ⟨rfl,rfl,rfl,rfl,rfl⟩ rfl rfl rfl rfl rfl (by kernel_rfl) Tryz.func7 (by kernel_rfl)
  (of_decide_eq_true (by kernel_rfl)) (by unfold Func.isWrapper;first | (rw[if_pos (by decide +kernel)];kernel_rfl) | (rw[if_neg (by decide +kernel)];exact⟨rfl,rfl⟩))
  (fun os a H enc _ F=>ytE os a H enc F)
