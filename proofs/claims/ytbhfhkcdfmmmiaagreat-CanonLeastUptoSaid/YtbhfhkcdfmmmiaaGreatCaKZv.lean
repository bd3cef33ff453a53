/- Contracts and lemmas: CaK CaL. Conditions: as each says. -/
import Derived.Test.YtbhfhkcdfmmmiaaGreatCan1Zv
set_option linter.all false
set_option maxHeartbeats 4000000
set_option maxRecDepth 100000
namespace Go.Proofs.YtbhfhkcdfmmmiaaGreat
open Go.RowKit Am Go.Proofs.Tryz
attribute [local go_sem ↓] Go.wp_at_zero Go.wp_at_succ
variable {may:List Bool}{cols:List Nat}{p:List Rat}{k n:Nat}{t:TypeId}{w w1:World}
def keepT (p:List Rat) (may:List Bool) (k:Nat):List Bool:=(List.range may.length).map fun j=>if j<k then may.getD j false&&decide (el p j=0)else may.getD j false
theorem ytc(p:List Rat)(may:List Bool)(k:Nat):(keepT p may k).length=may.length:=by simp[keepT]
theorem ytg{j:Nat}(h:j<may.length):(keepT p may k)[j]? = some (if j<k then may.getD j false&&decide (el p j=0)else may.getD j false):=by
 unfold keepT;rw[List.getElem?_map,List.getElem?_range h];rfl
theorem ytB(p:List Rat)(may:List Bool):keepT p may 0=may:=by
 apply List.ext_getElem?;intro j;by_cases h:j<may.length
 ·rw[ytg h,if_neg (Nat.not_lt_zero _)];exact(zaO h).symm
 ·rw[List.getElem?_eq_none (by rw[ytc];omega),List.getElem?_eq_none (by omega)]
theorem ytG(p:List Rat)(may:List Bool):keepT p may may.length=ys7 p may:=by
 unfold keepT ys7;refine List.map_congr_left fun j hj=>?_
 rw[if_pos (List.mem_range.1 hj)]
theorem ytH(h:k<may.length):(keepT p may k)[k]? = some (may.getD k false):=by rw[ytg h,if_neg (Nat.lt_irrefl k)]
theorem ytI(h:k<may.length){x:Bool}(d:(may.getD k false&&decide (el p k=0))=x):(keepT p may k).set k x=keepT p may (k+1):=by
 apply List.ext_getElem?;intro j;rw[List.getElem?_set];by_cases hj:j<may.length
 ·rw[ytg hj,ytg hj,ytc];by_cases e:k=j
  ·subst e;rw[if_pos rfl,if_pos h,if_pos (by omega),d]
  ·rw[if_neg e];by_cases a:j<k
   ·rw[if_pos a,if_pos (by omega)]
   ·rw[if_neg a,if_neg (by omega)]
 ·rw[List.getElem?_eq_none (by rw[ytc];omega),List.getElem?_eq_none (by rw[ytc];omega),if_neg (by omega)]
theorem TKeep.trans{d:World}(h:TKeep t w w1)(e:TKeep t w1 d)(f:w.heap.size≤w1.heap.size):TKeep t w d:=fun k hk a=>by
 rw[e k (by omega) (by rw[h k hk a];exact a),h k hk a]
theorem TKeep.of_below(h:Below w w w1):TKeep t w w1:=fun k hk _=>h.block k hk
theorem BoolsS.cellsB{H:Nat}{xs:List Bool}{b c:Nat}(h:BoolsS w H (b,n,c) xs):∃cs,w.heap[b]? = some (.cells cs 4 (0,0)):=by
 rcases h.own.2 with ⟨a,_⟩ | ⟨g',cap,cur,a,_,d,_⟩
 ·injection a with a;cases a
 ·injection a with a;injection a with a;injection a with a;subst a;exact⟨_,d⟩
def TC:List TypeId:=4::TT
theorem Kept.more{T a:List TypeId}{b:Option Nat}(h:Kept T b w w1)(f:∀t∈T,t∈a):Kept a b w w1:=⟨fun k cs t e n m=>h.all k cs t e (fun d=>n (f t d)) m,h.size⟩
def ytJ (n:Nat) (cols:List Nat):List Nat:=if (cols.all fun c=>decide (c<n))then cols else []
theorem yuh(hk:k<cols.length)(h:¬cols.getD k 0<n):ytJ n cols=[]:=by
 unfold ytJ;refine if_neg fun e=>h ?_
 have:=List.all_eq_true.1 e _ (List.mem_of_getElem? (zaO (d:=0) hk));exact of_decide_eq_true this
theorem ytY(h:∀j,j<cols.length→cols.getD j 0<n):ytJ n cols=cols:=by
 unfold ytJ;refine if_pos (List.all_eq_true.2 fun x a=>?_);obtain⟨j,hj⟩:=List.mem_iff_getElem?.1 a;have:=h j (List.getElem?_eq_some_iff.1 hj).1;rw[getD_some (d:=0) hj]at this;exact decide_eq_true this
section
variable {W0 w w':World} {H q:Nat} {rA:OA} {rc:Nat} {lA:List Value} {bA:OA} {bc_:Nat} {kA:OA} {kc:Nat} {eA:OA} {ec m N S own:Nat} {A:List (List Rat)} {b c:List Rat} {left:List Int}
  {tA:OA} {tc:Nat} {cols:List Nat}
theorem zhi.bools(h:zhi W0 w H q rA rc lA bA bc_ kA kc eA ec m N S own A b c left tA tc cols)(hk:TKeep 4 w w')(a:Below H w w'):zhi W0 w' H q rA rc lA bA bc_ kA kc eA ec m N S own A b c left tA tc cols:=by
 obtain⟨qb,xA,xc,P⟩:=h;exact⟨qb,xA,xc,hk.blk P.blk (by decide),P.std,P.bel.trans (a.mono P.base),P.base,P.colsI.tk hk (by decide),P.basO.tk hk (by decide) (by decide) (by decide) (by decide) (by decide) (by decide) (by decide),P.x.tk hk (by decide) (by decide),P.basis,P.own_⟩
namespace Ca
theorem keep(h:zhi W0 w H q rA rc lA bA bc_ kA kc eA ec m N S own A b c left tA tc cols)(C:OA)(D R:Nat)(f:List Rat)(E:VecS w R (C,N,D) f)(zC:∀x∈f,mw x≤S)(M:OA)(o n:Nat)(may:List Bool)(hm:BoolsS w n (M,N,o) may)(V:H≤n)(X:zor m S≤LIM) :
  Calls prog 117 #[.pointer (some ⟨q,0,none⟩),(C,N,D),(M,N,o)] w fun e w'=>e=.returned (.tuple #[])∧BoolsS w' n (M,N,o) (ys7 (zaC N A cols f) may) ∧
   zhi W0 w' H q rA rc lA bA bc_ kA kc eA ec m N S own A b c left tA tc cols∧Below H w w'∧Kept TC (Value.slice tA m tc).ownBlock w w':=by
 have K:=un h;have HC:=un E;have av:=un zC;have HM:=un hm;have ag:=un X;have J:=un hm.len;have I:=un h.hle;have aE:=un h.basis;have ai:=un V;have L:=un (show(zaC N A cols f).length=N from zKp E.len.symm);have aL:=h.std.hN;clear h E zC hm X V;go_enter func117,ntmps117;go_wp2_with fail
 refine(Tb.prices K.o C D f R HC.o av.o ag.o).mono ?_;rintro e v1 ⟨G,a,U,rfl,hv,d⟩;obtain rfl:a=N:=by rw[hv.len,L.o]
 have HV:=un hv;have HT:=un (K.o.below d);have am:=un (HM.o.below d);have u:=un d;clear hv d;go_wp2_with fail
 go_loopw [17] (fun i wr=>∃k:Nat,i=.int .i64 k∧k≤a∧BoolsS wr n (M,a,o) (keepT (zaC a A cols f) may k)∧TKeep 4 v1 wr∧v1.heap.size≤wr.heap.size∧Below H v1 wr)
  (fun i _=>a-(intOf i).toNat)
 case atStart=>exact⟨0,rfl,Nat.zero_le _,by rw[ytB];exact am.o,fun _ _ _=>rfl,Nat.le_refl _,Below.refl _ _⟩
 case round =>
  obtain⟨k,rfl,hk,hm,r,t,d⟩:=hrel;have ae:=un d;have ap:=un r;have B:=un t;by_cases Z:k<a
  ·obtain⟨s,rfl,aA,aK⟩:=hm.has (by omega);have P:=un hm;have F:k<may.length:=by rw[←J.o];exact Z
   have y0:=hm.at_ (ytH (p:=zaC a A cols f) F);have yf:=hm.fro k;obtain⟨aF,Y⟩:=hm.cellsB;have an:=un (fun x (hx:(may.getD k false&&decide (el (zaC a A cols f) k=0))=x)=>ytI F hx);have ah:=un Y;have al:=un aA;have Q:=un (HV.o.tk r (by decide) (by decide));have aI:(0:Int)≤(k:Int):=Int.natCast_nonneg _;have aJ:(k:Int)<(a:Int):=by omega
   clear hm r t d F Y;have O:=un (show ∀l (x:Bool),Below wr.heap.size wr l→(may.getD k false&&decide (el (zaC a A cols f) k=0))=x→BoolsS (l.setCell ⟨s,k,none⟩ (.bool x)) n (s,a,o) (keepT (zaC a A cols f) may (k+1))∧TKeep 4 v1 (l.setCell ⟨s,k,none⟩ (.bool x))∧v1.heap.size≤(l.setCell ⟨s,k,none⟩ (.bool x)).heap.size∧Below H v1 (l.setCell ⟨s,k,none⟩ (.bool x))from fun l x h1 h2=>by
    have hh:=Nat.le_trans (Nat.le_trans I.o u.o.size) B.o;have ay:=zad h1 ah.o;refine⟨by rw[←an.o x h2];exact(P.o.below h1).store k x,(ap.o.trans ((TKeep.of_below h1).trans (TKeep.set ay _) h1.size) B.o),by have:=B.o;have:=h1.size;simp;omega,(ae.o.trans (h1.mono hh)).setCell (p:=⟨s,k,none⟩) (Nat.le_trans ai.o al.o) _⟩)
   cases hmv:may.getD k false with
   | false =>
    rw[hmv]at y0;have z:=un (O.o · false · (by rw[hmv];rfl));go_wp2;go_roundw
    case rel=>exact⟨k+1,by go_num,by omega,z.o _ (Below.refl _ _)⟩
    case measure=>simp[intOf];omega
   | true =>
    rw[hmv]at y0;have z:=un (fun l h x (e:decide (el (zaC a A cols f) k=0)=x)=>O.o l x h (by rw[hmv,Bool.true_and];exact e));clear hmv;obtain⟨b,rfl,aG,aH⟩:=Q.o.has (by omega);have hq:=zaH (xs:=zaC a A cols f) (j:=k) (by rw[L.o];exact Z);obtain⟨g,G,m1,U,D1,aD,aw,k0,k1,k2,W⟩:=Q.o.at_ hq;have y:=un W;clear W hq;go_wp2_with fail
    with_reducible refine(Rt.zero g G m1 U D1 aD aw _ _ y.o).mono ?_
    rintro e l ⟨rfl,d⟩;have HY:=un (z.o l d _ rfl);have y2:=zab d y0;have aQ:=(P.o.below d).fro k;clear d;go_wp2;go_roundw
    case rel=>exact⟨k+1,by go_num,by omega,HY.o⟩
    case measure=>simp[intOf];omega
  ·obtain rfl:a=k:=by omega
   have y:=un (show BoolsS wr n (M,a,o) (ys7 (zaC a A cols f) may)by have h:=ytG (zaC a A cols f) may;rw[←J.o]at h;rw[←h];exact hm);have aq:=un (HT.o.bools r d);have ad:=un ((u.o.mono I.o).trans d);have aj:=un ((Kept.of_below u.o).trans (Kept.tk (T:=TC) (b:=(Value.slice tA m tc).ownBlock) r t (by decide)));clear hm r t d;go_wp2;refine bodyPost_end (v:=.tuple #[]) (by simp[results,results117,go_sem]) rfl ?_;exact⟨rfl,y.o,aq.o,ad.o,aj.o⟩
theorem yui(h:zhi W0 w H q rA rc lA bA bc_ kA kc eA ec m N S own A b c left tA tc cols)(n:Nat) :
  Calls prog 57 #[.pointer (some ⟨q,0,none⟩),(n:Int)] w fun e w'=>∃(B:OA) (k cB:Nat),e=.returned (B,k,cB)∧IntsS w' w (B,k,cB) (ytJ n cols)∧Below w w w':=by
 have v:=un h;have a:=un h.basis.len;have z:=h.std.hm;clear h;go_enter func57,ntmps57;go_wp2_with fail
 refine(Tb.basis v.o).mono ?_;rintro e w1 ⟨B0,cB,rfl,hi,hb⟩;have f:=un hi;have p:=un hb;clear hi hb;go_wp2_with fail
 go_loopw [12] (fun i wr=>∃k:Nat,i=.int .i64 k∧k≤m∧wr=w1∧∀j,j<k→cols.getD j 0<n)
  (fun i _=>m-(intOf i).toNat)
 case atStart=>exact⟨0,rfl,Nat.zero_le _,rfl,fun j hj=>absurd hj (Nat.not_lt_zero _)⟩
 case round =>
  obtain⟨k,rfl,hk,rfl,s⟩:=hrel;have o:=un s;clear s;by_cases r:k<m
  ·obtain⟨b,rfl,_,_⟩:=f.o.has (by omega);have y0:=f.o.at_ (zaO (L:=cols) (i:=k) (d:=0) (by rw[a.o];exact r));have x:(0:Int)≤(k:Int):=Int.natCast_nonneg _;have y:(k:Int)<(m:Int):=by omega
   by_cases hc:cols.getD k 0<n
   ·have l:¬(n:Int)≤((cols.getD k 0:Nat):Int):=by omega
    have t:=un (show ∀j,j<k+1→cols.getD j 0<n from fun j hj=>by
     by_cases e:j=k
     ·rw[e];exact hc
     ·exact o.o j (by omega))
    clear hc;generalize cols.getD k 0=ck at y0 l;go_wp2;go_roundw
    case rel=>exact⟨k+1,by go_num,by omega,by trivial,t.o⟩
    case measure=>simp[intOf];omega
   ·have l:(n:Int)≤((cols.getD k 0:Nat):Int):=by omega
    have g:=un (yuh (by rw[a.o];exact r) hc);generalize cols.getD k 0=ck at y0 l;clear hc;go_wp2;go_ret
    exact⟨none,0,0,rfl,by rw[g.o];exact IntsS.nil _ _,p.o⟩
  ·obtain rfl:m=k:=by omega
   have g:=un (ytY fun j hj=>o.o j (by rw[←a.o];exact hj));go_wp2;go_ret
   exact⟨_,_,_,rfl,by rw[g.o];exact f.o,p.o⟩
end Ca
end
section
variable {W0 w:World} {H q:Nat} {rA:OA} {rc:Nat} {lA:List Value} {bA:OA} {bc_:Nat} {kA:OA} {kc:Nat} {eA:OA} {ec m N S own:Nat} {A:List (List Rat)} {b c:List Rat} {left:List Int}
  {tA:OA} {tc:Nat} {cols:List Nat}
theorem ytv{B f:Nat}{cs:List Nat}{r:RunOut}(h:pivs (zBX N A b (zdL N k) may) (B-n) cs=r) :
  (r.err=true→ys2 N A b B (ys5 N (f+1) k) may cs n=⟨r.cols,n+r.n,true⟩)∧(r.err=false→ys2 N A b B (ys5 N (f+1) k) may cs n=ys2 N A b B (ys5 N f (k+1)) (ys7 (zaC N A r.cols (zdL N k)) may) r.cols (n+r.n)):=by
 constructor
 ·intro e
  conv=>lhs;unfold ys5 ys2
  simp only[h,e,if_true]
 ·intro e
  conv=>lhs;unfold ys5 ys2
  simp only[h,e,Bool.false_eq_true,if_false]
def ytM (W0 w:World) (H q:Nat) (rA:OA) (rc:Nat) (lA:List Value) (bA:OA) (bc_:Nat) (kA:OA) (kc:Nat) (eA:OA) (ec m N S own:Nat) (A:List (List Rat)) (b c:List Rat) (left:List Int) (tA:OA) (tc B:Nat) (l:LexOut) (e:Ending) (w':World):Prop :=
  ∃ ev,e = .returned (.tuple #[(l.n:Int),ev]) ∧ ((l.err = false ∧ ev = .nilIface) ∨ (l.err = true ∧ ∃ fb num:Nat,ev = .iface 224 (.pointer (some ⟨fb,0,none⟩)) ∧ num ≤ B ∧ w'.heap[fb]? = some (.cells #[.string zve, .int .i64 (num:Int), .iface 73 (.int .i64 180)] 226 (0,0)))) ∧
    l.n≤B∧zhi W0 w' H q rA rc lA bA bc_ kA kc eA ec m N S own A b c left tA tc l.cols∧Below H w w'∧Kept TC (Value.slice tA m tc).ownBlock w w'
namespace Ca
theorem least(h:zhi W0 w H q rA rc lA bA bc_ kA kc eA ec m N S own A b c left tA tc cols)(C:OA)(E W:Nat)(t:List Rat)(Y:VecS w W (C,N,E) t)(zC:∀x∈t,mw x≤S)(M:OA)(s o:Nat)(may:List Bool)(hm:BoolsS w o (M,N,s) may)(Z:H≤o)(ab:zor m S≤LIM)(f B:Nat)(hf:f≤N)(X:B≤1000000) :
  Calls prog 58 #[.pointer (some ⟨q,0,none⟩),(C,N,E),(M,N,s),(f:Int),(B:Int)] w
   (ytM W0 w H q rA rc lA bA bc_ kA kc eA ec m N S own A b c left tA tc B (ys2 N A b B (ys5 N f 0) (ys7 (zaC N A cols t) may) cols 0)):=by
 have HP:=un h;have HC:=un Y;have aE:=un zC;have HM:=un hm;have z:=un ab;have K:=un Z;have g:=un hf;have al:=un X;have Q:=un h.std.hS;have aG:=h.std.hN;have aJ:(f:Int)≤64:=by omega
 clear h Y zC hm ab Z hf X;go_enter func58,ntmps58;go_wp2_with fail
 refine(keep HP.o C E W t HC.o aE.o M s o may HM.o K.o z.o).mono ?_;rintro e v1 ⟨rfl,hm,d,a,hk⟩;have av:=un hm;have aA:=un d;have ai:=un a;have ao:=un hk;clear hm d a hk;obtain⟨lo,G⟩:∃lo,ys2 N A b B (ys5 N f 0) (ys7 (zaC N A cols t) may) cols 0=lo:=⟨_,rfl⟩
 have l:=un G;rw[G];generalize ys7 (zaC N A cols t) may=may1 at *
 clear G;go_wp2_with fail
 go_loopw [12,24] (fun nv i wr=>∃(k n:Nat) (cs:List Nat) (mk:List Bool),i=.int .i64 k∧nv=.int .i64 n∧k≤f∧n≤B∧ys2 N A b B (ys5 N (f-k) k) mk cs n=lo∧BoolsS wr o (M,N,s) mk ∧
   zhi W0 wr H q rA rc lA bA bc_ kA kc eA ec m N S own A b c left tA tc cs∧Below H w wr∧Kept TC (Value.slice tA m tc).ownBlock w wr)
  (fun _ i _=>f-(intOf i).toNat)
 case atStart=>exact⟨0,0,cols,may1,rfl,rfl,Nat.zero_le _,Nat.zero_le _,l.o,av.o,aA.o,ai.o,ao.o⟩
 case round =>
  obtain⟨k,n,cs,mk,rfl,rfl,hk,hn,hl,hm,d,a,j⟩:=hrel;have u:=un hl;have ay:=un hm;have D:=un d;have I:=un a;have L:=un j;have p:=un hn;clear hl hm d a j hn;by_cases aM:k<f
  ·have aL:(k:Int)<(f:Int):=by omega
   have aN:(0:Int)≤(n:Int):=Int.natCast_nonneg _;have F:k<N:=by have:=g.o;omega
   go_wp2_with fail
   refine(Vc.unit N k aG F _).mono ?_;rintro e v2 ⟨U,nU,cU,rfl,hv,a⟩;obtain rfl:nU=N:=by rw[hv.len,zfM]
   have V:=un hv;have aB:=un (D.o.below a);have P:=un (ay.o.below a);have aj:=un (I.o.trans (a.mono D.o.hle));have ap:=un (L.o.below a);clear hv a;have ag:=p.o;have aa:=al.o;go_wp2_with fail
   rw[show(B:Int)-(n:Int)=((B-n:Nat):Int)by omega];refine(Pr.prun aB.o U cU _ (zdL nU k) V.o (zqF Q.o F) M nU s o mk P.o z.o ((B-n:Nat):Int) (by omega)).mono ?_;rintro e v3 ⟨ev,rfl,hev,d,a,j⟩;rw[show(((B-n:Nat):Int)).toNat=B-n from Int.toNat_natCast _]at hev d ⊢;obtain⟨r,hr⟩:∃r,pivs (zBX nU A b (zdL nU k) mk) (B-n) cs=r:=⟨_,rfl⟩
   have R:=un (ytv (f:=f-(k+1)) hr);have v:=un (show r.n≤B-n by rw[←hr];exact zLj _ _ _);rw[hr]at hev d ⊢;rw[show f-k=f-(k+1)+1 by omega]at u;have T:=un d;have aw:=un (P.o.kept j (by decide));have aD:=un (j.vec (by decide) (by decide) V.o);have J:=un (aj.o.trans a);have O:=un (ap.o.trans (j.more (by decide)));clear hr d a j;rcases hev with ⟨y,rfl⟩ | ⟨y,fb,rfl,ad⟩
   ·have ar:=un ((R.o.2 y).symm.trans u.o);have aH:n+r.n≤1000000:=by have:=v.o;have:=p.o;omega
    clear y ag aa;go_wp2_with fail
    refine(keep T.o U cU _ (zdL nU k) aD.o (zqF Q.o F) M s o mk aw.o K.o z.o).mono ?_;rintro e v4 ⟨rfl,hm,d,a,j⟩;have ax:=un hm;have aC:=un d;have ak:=un (J.o.trans a);have aq:=un (O.o.trans j);clear hm d a j;go_wp2;go_roundw
    case rel=>exact⟨k+1,n+r.n,r.cols,_,by go_num,by go_num,by omega,by have:=p.o;have:=v.o;omega,ar.o,ax.o,aC.o,ak.o,aq.o⟩
    case measure=>simp[intOf];omega
   ·have g:=un (((R.o.1 y).symm.trans u.o).symm);have an:=un ad;have aH:n+r.n≤1000000:=by have:=v.o;have:=p.o;omega
    clear y ad ag aa;go_wp2;go_ret2
    exact⟨_,by rw[l.o,g.o];rfl,by rw[l.o,g.o];exact .inr ⟨rfl,fb,r.n,rfl,by have:=v.o;omega,an.o⟩,by rw[l.o,g.o];have:=p.o;have:=v.o;show n+r.n≤B;omega,by rw[l.o,g.o];exact T.o,J.o,O.o⟩
  ·obtain rfl:f=k:=by omega
   rw[Nat.sub_self]at u;have g:=un (show lo=⟨cs,n,false⟩from u.o.symm);go_wp2;go_ret2
   exact⟨_,by rw[l.o,g.o];rfl,by rw[l.o,g.o];exact .inl ⟨rfl,rfl⟩,by rw[l.o,g.o];exact p.o,by rw[l.o,g.o];exact D.o,I.o,L.o⟩
end Ca
end
