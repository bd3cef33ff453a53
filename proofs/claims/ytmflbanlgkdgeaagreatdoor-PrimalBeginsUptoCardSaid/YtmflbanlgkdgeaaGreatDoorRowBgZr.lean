/- PrimalBegins returns true for every input of bulk at most 1048576 (any problem),and the input reads as it did;the variable errors.errorType lies as the program's text lays it (tied by the card). Conditions: none beyond the statement's own bound and the card's own. -/
import Derived.Test.YtmflbanlgkdgeaaGreatDoorRowKZr
import Derived.Test.YtmflbanlgkdgeaaGreatDoorBg18Zr
set_option linter.all false
set_option maxRecDepth 100000
namespace Go.Proofs.YtmflbanlgkdgeaaGreatDoor
open Go.ChangeShapes Go.WideShapes Go.ChangeAt Go.RowKit Go.Deep
abbrev ynw:Array Value:=#[.agg #[.slice none 0 0,.slice none 0 0]]
theorem yov(os:Os){H:Type}(enc:TypeId × Value→H):∃a,DataW.whole enc Tryz.prog ((laidWorld os).forCall (fun _ _=>0) ⟨#[],ynw,[]⟩).memory Tryz.f3.params.toList Rows.primalBeginsSpec.vars false ynw.toList 8=some ([.agg [.nil,.nil]],[],a) :=
 ⟨[],by kernel_rfl⟩
theorem ynx(os:Os)(P:os.Started)(H:Type)(enc:TypeId × Value→H)(F:Stop.Interp) :
  ReturnsInHanded {} Tryz.checked os 3 .any ((Rows.OpenSpec.upto Rows.primalBeginsSpec).preRow enc Tryz.prog Tryz.f3 Rows.primalBeginsUptoRow.domain false Rows.primalBeginsUptoRow.laid) (((Rows.OpenSpec.upto Rows.primalBeginsSpec).at F).post enc Tryz.prog Tryz.f3 false true false false):=by
 obtain⟨aa,d⟩:=yov os enc
 refine returnsInHanded_of_row (C:=Tryz.checked) (s:=Rows.OpenSpec.upto Rows.primalBeginsSpec) own P (by kernel_rfl) Tryz.func3
  (witness_row_at (enc:=enc) (C:=Tryz.checked) false (laidWorld os) ynw rfl (by kernel_rfl) (by kernel_rfl) (by kernel_rfl)
   (OpenSpec.preRow_of_cond 8 d (by kernel_rfl) (fun k hk=>by cases hk;kernel_rfl) (by kernel_rfl) (znG os _))) ?_
 intro W base args t U R l i _ D _ v _ _;have hk:=D _ rfl;have j:=i;obtain⟨p,q,u,y,rfl,Y,Z⟩:=i;have g:DataW.TrodAll enc Tryz.prog W 0 (fun _=>true) true Tryz.f3.params.toList args.toList t p:=u;rw[Tryz.params3]at g l;obtain⟨v0,ac,a,S,o,q0,V,rfl,rfl,h0,O⟩:=trodAll_cons g;obtain⟨rfl,rfl,rfl⟩:=trodAll_nil O;obtain rfl:args=#[v0]:=by cases args;simp_all
 obtain⟨rfl,rfl⟩:=trodVars_none y;have X:Rows.uptoBulk a+0≤1048576:=by
  have h:=of_decide_eq_true hk;simpa only[List.append_nil,Rows.uptoBulkAll]using h
 obtain⟨r,rfl,_⟩:=okWide_struct Tryz.underlying25 (l 0 25 v0 rfl rfl);have N:=h0;obtain⟨T,h0⟩:=h0;obtain⟨A,m,cA,L,n,f,qs,ls,b,E,G,J,hm,K,M,z,B⟩:=zMj h0 (by show Rows.uptoBulk a≤1048576;omega);obtain⟨l0⟩:=r;have b:l0=[.slice A m cA,.slice L n f]:=b;subst b;have I:∀x∈o,x.block<W.heap.size:=fun x d=>j.lt x (by simp[d])
 have c:((Rows.OpenSpec.upto Rows.primalBeginsSpec).at F).fn H ([a]++[])={ results:=[.lit (.bool true)],args:=[a] }:=rfl;refine(Lw.begins18 A m cA L n f qs ls W E G J hm K M z B (zlF v)).mono fun e Q ⟨he,hb⟩=>?_
 subst he;refine⟨_,rfl,_,_,_,[],(o++[]),[],j,?_,?_,?_,hb.frame _,fun h=>by cases h⟩
 ·rw[c];exact trodAll_mk1 (shut_bool Tryz.underlying4 true)
 ·rw[c];exact trodAll_cons_mk (Below.trod zqj (by kernel_rfl) (of_decide_eq_true (by kernel_rfl)) N hb I) trodAll_mk0
 ·rw[c];rfl
theorem ylY:Rows.PrimalBeginsUptoSaid :=
 OpenClaim.holds_of_cond 3 Tryz.f3 rfl rfl rfl rfl rfl rfl rfl ⟨rfl,rfl,rfl,rfl,rfl⟩ rfl rfl rfl rfl rfl (by kernel_rfl) Tryz.func3 (by kernel_rfl)
  (of_decide_eq_true (by kernel_rfl)) (by unfold Func.isWrapper;first | (rw[if_pos (by decide +kernel)];kernel_rfl) | (rw[if_neg (by decide +kernel)];exact⟨rfl,rfl⟩))
  (fun os a H enc _ F=>by rw[OpenClaim.pre_eq_preRow];exact ynx os a H enc F)
theorem you(f:FuncId)(b:Func)(c:Tryz.pinned.checked.prog.funcNamed "actuary/actuarylaw18.PrimalBegins" = some f)(d:Tryz.pinned.checked.prog.funcs[f]? = some b) :
  true=Tryz.pinned.checked.prog.looks []∧∀(j:Nat) t,b.params[j]? = some t→Tryz.pinned.checked.prog.wantsStandIn t=false:=by
 obtain rfl:f=3:=Option.some.inj ((show Tryz.prog.funcNamed "actuary/actuarylaw18.PrimalBegins" = some 3 by kernel_rfl).symm.trans c) |>.symm;obtain rfl:b=Tryz.f3:=(Option.some.inj (Tryz.func3.symm.trans d)).symm;refine⟨by kernel_rfl,fun j t a=>?_⟩;rw[Tryz.params3]at a
 match j,a with
 | 0,a=>simp at a;subst a;exact(show Tryz.prog.wantsStandIn 25=false by kernel_rfl)
 | j+1,a=>simp at a
theorem primalBegins_upto_card:Rows.PrimalBeginsUptoCardSaid :=
 Claim7.holds_tied_plain_at .later [] _ _ _ _ ylY (fun _ h=>by cases h) (by kernel_rfl) (fun _ h=>by cases h) primalBeginsUpto_row_tie rfl ⟨rfl,rfl⟩ (by kernel_rfl) rfl you (by kernel_rfl)
