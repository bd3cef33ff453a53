/- PrimalRuns returns true for every input of bulk at most 1048576 (any problem,any costs,any columns that may come in,any budget),and the input reads as it did;the variable errors.errorType lies as the program's text lays it (tied by the card). Conditions: none beyond the statement's own bound and the card's own. -/
import Derived.Test.YtbdhheepakmgkaaGreatDoorRowKZr
import Derived.Test.YtbdhheepakmgkaaGreatDoorRn18Zr
set_option linter.all false
set_option maxRecDepth 100000
namespace Go.Proofs.YtbdhheepakmgkaaGreatDoor
open Go.ChangeShapes Go.WideShapes Go.ChangeAt Go.RowKit Go.Deep
abbrev yjs:Array Value:=#[.agg #[.slice none 0 0,.slice none 0 0],.slice none 0 0,.slice none 0 0,.int .u8 0]
theorem yjD(os:Os){H:Type}(enc:TypeId × Value→H):∃a,DataW.whole enc Tryz.prog ((laidWorld os).forCall (fun _ _=>0) ⟨#[],yjs,[]⟩).memory Tryz.f4.params.toList Rows.primalRunsSpec.vars false yjs.toList 8=some ([.agg [.nil,.nil],.nil,.nil,.lit (.int .u8 0)],[],a) :=
 ⟨[],by kernel_rfl⟩
theorem yjt(os:Os)(ay:os.Started)(H:Type)(enc:TypeId × Value→H)(F:Stop.Interp) :
  ReturnsInHanded {} Tryz.checked os 4 .any ((Rows.OpenSpec.upto Rows.primalRunsSpec).preRow enc Tryz.prog Tryz.f4 Rows.primalRunsUptoRow.domain false Rows.primalRunsUptoRow.laid) (((Rows.OpenSpec.upto Rows.primalRunsSpec).at F).post enc Tryz.prog Tryz.f4 false true false false):=by
 obtain⟨aW,a⟩:=yjD os enc
 refine returnsInHanded_of_row (C:=Tryz.checked) (s:=Rows.OpenSpec.upto Rows.primalRunsSpec) own ay (by kernel_rfl) Tryz.func4
  (witness_row_at (enc:=enc) (C:=Tryz.checked) false (laidWorld os) yjs rfl (by kernel_rfl) (by kernel_rfl) (by kernel_rfl)
   (OpenSpec.preRow_of_cond 8 a (by kernel_rfl) (fun k hk=>by cases hk;kernel_rfl) (by kernel_rfl) (znG os _))) ?_
 intro W base args R gs aE b u _ ab _ U _ _;have hk:=ab _ rfl;have g:=u;obtain⟨p,q,T,V,rfl,aR,aS⟩:=u;have t:DataW.TrodAll enc Tryz.prog W 0 (fun _=>true) true Tryz.f4.params.toList args.toList R p:=T;rw[Tryz.params4]at t b;obtain⟨v0,a1,d,aH,D,q0,aP,rfl,rfl,h0,r0⟩:=trodAll_cons t;obtain⟨v1,a2,i,aI,E,q1,rfl,rfl,rfl,h1,r1⟩:=trodAll_cons r0;obtain⟨I,a3,j,aJ,G,q2,rfl,rfl,rfl,f,r2⟩:=trodAll_cons r1;obtain⟨J,a4,Q,aK,p3,q3,rfl,rfl,rfl,S,r3⟩:=trodAll_cons r2;obtain⟨rfl,rfl,rfl⟩:=trodAll_nil r3
 obtain rfl:args=#[v0,v1,I,J]:=by cases args;simp_all
 obtain⟨rfl,rfl⟩:=trodVars_none V;have aQ:Rows.uptoBulk d+(Rows.uptoBulk i+(Rows.uptoBulk j+(Rows.uptoBulk Q+0)))≤1048576:=by
  have h:=of_decide_eq_true hk;simpa only[List.append_nil,Rows.uptoBulkAll]using h
 obtain⟨P,rfl,_⟩:=okWide_struct Tryz.underlying25 (b 0 25 v0 rfl rfl);obtain⟨K,au,N,rfl⟩:=okWide_slice Tryz.underlying22 (b 1 22 v1 rfl rfl);obtain⟨M,av,O,rfl⟩:=okWide_slice Tryz.underlying51 (b 2 51 I rfl rfl);obtain⟨c,rfl,rfl,rfl,y⟩:=open_int Tryz.underlying5 (b 3 5 J rfl rfl) S;have am:=h0;obtain⟨f0,h0⟩:=h0;obtain⟨A,z,cA,L,B,n,qs,ls,l,hf,ad,hn,hm,ai,aj,Z,aa⟩:=zMj h0 (by show Rows.uptoBulk d≤1048576;omega);obtain⟨l0⟩:=P;have l:l0=[.slice A z cA,.slice L B n]:=l;subst l;have an:=h1
 obtain⟨f1,h1⟩:=h1;obtain⟨aC,aT,aF,az,o,ak,ap,_,_,X⟩:=zrv h1
 dsimp only at X
 simp[Value.cells]at o;obtain⟨rfl,rfl,rfl⟩:=o;have ao:=f;obtain⟨f2,f⟩:=f;obtain⟨aD,aU,aG,aA,r,al,aq,Y⟩:=zwj f
 dsimp only at Y
 simp[Value.cells]at r;obtain⟨rfl,rfl,rfl⟩:=r;have ae:∀x∈D,x.block<W.heap.size:=fun x a=>g.lt x (by simp[a])
 have af:∀x∈E,x.block<W.heap.size:=fun x a=>g.lt x (by simp[a])
 have ag:∀x∈G,x.block<W.heap.size:=fun x a=>g.lt x (by simp[a])
 have v:0≤c∧c<256:=by
  simp[Lit.wf,IntKind.min,IntKind.max,IntKind.signed,IntKind.bits]at y;omega
 have m:((Rows.OpenSpec.upto Rows.primalRunsSpec).at F).fn H ([d,i,j,.lit (.int .u8 c)]++[])={ results:=[.lit (.bool true)],args:=[d,i,j,.lit (.int .u8 c)] }:=rfl;refine(Lw.runs18 A z cA L B n qs ls K au N az M av O aA c W hf ad hn hm ai aj Z aa (zlF U) ap ak (by omega) aq al (by omega) v.1 v.2).mono fun e W' ⟨he,hb⟩=>?_
 subst he;refine⟨_,rfl,_,_,_,[],(D++(E++(G++([]++[])))),[],g,?_,?_,?_,hb.frame _,fun h=>by cases h⟩
 ·rw[m];exact trodAll_mk1 (shut_bool Tryz.underlying4 true)
 ·rw[m];exact trodAll_cons_mk (Below.trod zqj (by kernel_rfl) (of_decide_eq_true (by kernel_rfl)) am hb ae) (trodAll_cons_mk (Below.trod zqj (by kernel_rfl) (of_decide_eq_true (by kernel_rfl)) an hb af) (trodAll_cons_mk (Below.trod zqj (by kernel_rfl) (of_decide_eq_true (by kernel_rfl)) ao hb ag) (trodAll_cons_mk (shut_int Tryz.underlying5 y) trodAll_mk0)))
 ·rw[m];rfl
theorem yjf:Rows.PrimalRunsUptoSaid :=
 OpenClaim.holds_of_cond 4 Tryz.f4 rfl rfl rfl rfl rfl rfl rfl ⟨rfl,rfl,rfl,rfl,rfl⟩ rfl rfl rfl rfl rfl (by kernel_rfl) Tryz.func4 (by kernel_rfl)
  (of_decide_eq_true (by kernel_rfl)) (by unfold Func.isWrapper;first | (rw[if_pos (by decide +kernel)];kernel_rfl) | (rw[if_neg (by decide +kernel)];exact⟨rfl,rfl⟩))
  (fun os a H enc _ F=>by rw[OpenClaim.pre_eq_preRow];exact yjt os a H enc F)
theorem yjC(f:FuncId)(b:Func)(c:Tryz.pinned.checked.prog.funcNamed "actuary/actuarylaw18.PrimalRuns" = some f)(d:Tryz.pinned.checked.prog.funcs[f]? = some b) :
  true=Tryz.pinned.checked.prog.looks []∧∀(j:Nat) t,b.params[j]? = some t→Tryz.pinned.checked.prog.wantsStandIn t=false:=by
 obtain rfl:f=4:=Option.some.inj ((show Tryz.prog.funcNamed "actuary/actuarylaw18.PrimalRuns" = some 4 by kernel_rfl).symm.trans c) |>.symm;obtain rfl:b=Tryz.f4:=(Option.some.inj (Tryz.func4.symm.trans d)).symm;refine⟨by kernel_rfl,fun j t a=>?_⟩;rw[Tryz.params4]at a
 match j,a with
 | 0,a=>simp at a;subst a;exact(show Tryz.prog.wantsStandIn 25=false by kernel_rfl)
 | 1,a=>simp at a;subst a;exact(show Tryz.prog.wantsStandIn 22=false by kernel_rfl)
 | 2,a=>simp at a;subst a;exact(show Tryz.prog.wantsStandIn 51=false by kernel_rfl)
 | 3,a=>simp at a;subst a;exact(show Tryz.prog.wantsStandIn 5=false by kernel_rfl)
 | j+4,a=>simp at a
theorem primalRuns_upto_card:Rows.PrimalRunsUptoCardSaid :=
 Claim7.holds_tied_plain_at .later [] _ _ _ _ yjf (fun _ h=>by cases h) (by kernel_rfl) (fun _ h=>by cases h) primalRunsUpto_row_tie rfl ⟨rfl,rfl⟩ (by kernel_rfl) rfl yjC (by kernel_rfl)
