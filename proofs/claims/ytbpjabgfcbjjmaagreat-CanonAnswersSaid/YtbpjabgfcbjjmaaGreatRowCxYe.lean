/- CanonAnswers returns true for every input (any small problem),and the input reads as it did. Conditions: none. -/
import Derived.Test.YtbpjabgfcbjjmaaGreatCwYe
import Derived.ChangeSame
set_option linter.all false
set_option maxHeartbeats 4000000
set_option maxRecDepth 100000
namespace Go.Proofs.YtbpjabgfcbjjmaaGreat
open Go.ChangeShapes Go.WideShapes Go.ChangeAt Go.RowKit Go.Deep
theorem y7a(os:Os)(N:os.Started)(H:Type)(enc:TypeId × Value→H) :
  ReturnsInHanded {} Tryz.checked os 4 .any (Rows.canonAnswersSpec.pre6 enc Tryz.prog Tryz.f4 Rows.canonAnswersRow.domain false) (Rows.canonAnswersSpec.post enc Tryz.prog Tryz.f4 false true false false):=by
 refine returnsInHanded_of_change (C:=Tryz.checked) own N (by kernel_rfl) Tryz.func4
  (ChangeSpec.witness6 (enc:=enc) (C:=Tryz.checked) false ⟨#[],#[.agg #[.int .u8 0,.int .i8 0,.int .i8 0,.int .i8 0,.slice none 0 0]],[]⟩ 8 (by kernel_rfl) (by kernel_rfl) (by kernel_rfl) (by kernel_rfl)) ?_
 intro W base args y S P K m U _;have o:∀(j:Nat) t v,Tryz.f4.params[j]? = some t→args[j]? = some v→Value.okWide Tryz.prog W .any base t v:=K;have n:=m;obtain⟨p,q,z,B,rfl,V,X⟩:=m;have l:DataW.TrodAll enc Tryz.prog W 0 (fun _=>true) true Tryz.f4.params.toList args.toList y p:=z;rw[Tryz.params4]at l o;obtain⟨v0,Z,k,Q,s,Y,T,rfl,rfl,h0,M⟩:=trodAll_cons l;obtain⟨rfl,rfl,rfl⟩:=trodAll_nil M;obtain rfl:args=#[v0]:=by cases args;simp_all
 obtain⟨rfl,rfl⟩:=trodVars_none B;obtain⟨u,rfl,_⟩:=okWide_struct Tryz.underlying26 (o 0 26 v0 rfl rfl);have I:=h0;obtain⟨R,h0⟩:=h0;obtain⟨i,c,d,f,A,r,g,ls,a,J,F,D,G⟩:=y4Z h0;obtain⟨l0⟩:=u;have a:l0=[.int .u8 i,.int .i8 c,.int .i8 d,.int .i8 f,.slice A r g]:=a;subst a;have E:∀x∈s,x.block<W.heap.size:=fun x L=>n.lt x (by simp[L])
 have b:Rows.canonAnswersSpec.fn H ([k]++[])={ results:=[.lit (.bool true)],args:=[k] }:=by simp[Rows.canonAnswersSpec]
 refine(Lw.answers21 i c d f A r g ls W J F D G).mono fun e O ⟨he,hb⟩=>?_
 subst he;refine⟨_,rfl,_,_,_,[],(s++[]),[],n,?_,?_,?_,hb.frame _,fun h=>by cases h⟩
 ·rw[b];exact trodAll_mk1 (shut_bool Tryz.underlying4 true)
 ·rw[b];exact trodAll_cons_mk (Below.trod zqj (by kernel_rfl) (of_decide_eq_true (by kernel_rfl)) I hb E) trodAll_mk0
 ·rw[b];rfl
theorem canonAnswers_said:Rows.CanonAnswersSaid :=
 OpenClaim.holds_of_wide 4 Tryz.f4 rfl rfl rfl rfl rfl rfl rfl ⟨rfl,rfl,rfl,rfl,rfl⟩ rfl rfl rfl rfl rfl (by kernel_rfl) Tryz.func4 (by kernel_rfl)
  (of_decide_eq_true (by kernel_rfl)) (by unfold Func.isWrapper;first | (rw[if_pos (by decide +kernel)];kernel_rfl) | (rw[if_neg (by decide +kernel)];exact⟨rfl,rfl⟩))
  (fun os a H enc _=>y7a os a H enc)
