/- Contracts and lemmas: CaF. Conditions: as each says. -/
import Derived.Test.YtbhfhkcdfmmmiaaGreatCaAZu
set_option linter.all false
set_option maxHeartbeats 2000000
set_option maxRecDepth 100000
namespace Go.Proofs.YtbhfhkcdfmmmiaaGreat
open Go.RowKit Am
open Lib (hid)
attribute [local go_sem ↓] Go.wp_at_zero Go.wp_at_succ
def yts (N own:Nat) (A:List (List Rat)) (b c:List Rat) (B:Nat) (cols:List Nat):COut :=
  let r:=pivs (zbE N A b c (List.replicate N true)) B cols
  if r.err then .spent r.n
  else match r.at_ with
    | some _=>.none r.n
    | .none=>yth r.n r.cols (ys2 N A b (B-r.n) (ys5 N own 0) (ys7 (zaC N A r.cols c) (List.replicate N true)) r.cols 0)
theorem ytz{N own:Nat}{A:List (List Rat)}{b c:List Rat}{B:Nat}{cols:List Nat}{r:RunOut}{l:LexOut}(hr:pivs (zbE N A b c (List.replicate N true)) B cols=r)(d:ys2 N A b (B-r.n) (ys5 N own 0) (ys7 (zaC N A r.cols c) (List.replicate N true)) r.cols 0=l) :
  (r.err=true→yts N own A b c B cols=.spent r.n)∧(∀k,r.err=false→r.at_=some k→yts N own A b c B cols=.none r.n)∧(r.err=false→r.at_=none→yts N own A b c B cols=yth r.n r.cols l):=by
 unfold yts;simp only[hr,d];exact⟨fun h=>by rw[if_pos h],fun k h a=>by rw[h,a];rfl,fun h a=>by rw[h,a];rfl⟩
namespace Ca
theorem yuw(S:Nat)(C:OA)(nC k:Nat)(R:OA)(m s:Nat)(cost:List Rat)(rows:List PRow)(N B:Nat)(tA:OA)(tc X:Nat)(cols:List Nat)(w:World)(hc:VecS w 0 (C,nC,k) cost)(hr:RowsS w 0 (R,m,s) rows)(hg:GoodS S nC m cost rows)(hN:nC+cnt rows m=N)(hB:B≤1000000)(z:IntsS w X (tA,m,tc) cols)(aB:Basis m N (zc3 rows) cols)(hR:zdi (zaC N (zc3 rows) cols (zjD cost rows)) (List.replicate N true)=none) :
  Calls Tryz.prog 40 #[.agg #[(C,nC,k),(R,m,s)],(tA,m,tc),(B:Int)] w (ytb w nC N (zc3 rows) (zg8 rows) cost B id (yts N nC (zc3 rows) (zg8 rows) (zjD cost rows) B cols)):=by
 have D:=hid hg;have T:=hid hN;have fN:=zgO rows m;have fP:=hg.hr;have fM:=hg.hc;have be:N≤64:=by omega
 have a6:=hid (show Rows nC rows from fun p b=>⟨(hg.rw_ p b).1,fun q Z=>Nat.le_trans ((hg.rw_ p b).2.1 q Z) hg.hS,Nat.le_trans (hg.rw_ p b).2.2 hg.hS⟩);have O:=hid hg.cap;have a7:=hid hg.sb;have a8:=hid (show Sm cost from fun q Z=>Nat.le_trans (hg.sc q Z) hg.hS);have aW:=hid hB;have aV:=hid aB;have a5:=hid hR;obtain⟨r,F⟩:∃r,pivs (zbE N (zc3 rows) (zg8 rows) (zjD cost rows) (List.replicate N true)) B cols=r:=⟨_,rfl⟩
 obtain⟨l,Y⟩:∃l,ys2 N (zc3 rows) (zg8 rows) (B-r.n) (ys5 N nC 0) (ys7 (zaC N (zc3 rows) r.cols (zjD cost rows)) (List.replicate N true)) r.cols 0=l:=⟨_,rfl⟩
 have V:=hid (ytz F Y);have a4:=hid F;have a1:=hid Y;have av:=hid (show r.n≤B by rw[←F];exact zLj _ _ _);generalize hoo:yts N nC (zc3 rows) (zg8 rows) (zjD cost rows) B cols=o at *
 clear hg hN hB F Y hoo aB hR;obtain⟨W,d⟩:∃W,((w.alloc (.cells #[(C,nC,k),(R,m,s)] 31)).alloc (.cells #[.int .i64 0,false,(),(),()] 49))=W:=⟨_,rfl⟩
 have ay:=hid (show W.heap[w.heap.size]? = some (.cells #[(C,nC,k),(R,m,s)] 31 (0,0))by rw[←d];exact zak (zam (by simp)));have az:=hid (show W.heap[w.heap.size+1]? = some (.cells #[.int .i64 0,false,(),(),()] 49 (0,0))by rw[←d];exact zam (by simp));have BB:=hid (show Below w.heap.size w W by rw[←d];exact(zae w _).alloc (by simp) _)
 have HC:=hid (show VecS W 0 (C,nC,k) cost by rw[←d];exact((hc).alloc _).alloc _);have HR:=hid (show RowsS W 0 (R,m,s) rows by rw[←d];exact((hr).alloc _).alloc _);have a0:=hid (show IntsS W X (tA,m,tc) cols by rw[←d];exact((z).alloc _).alloc _);obtain⟨cX,_,cY,_⟩:=bc2 ay.out;clear hc hr z;go_enter Tryz.func40,Tryz.ntmps40;go_wp2_with fail
 clear d;with_reducible refine(Pb.standardN S D.out.h1 C nC k R m s cost rows N T.out _ HC.out HR.out (by omega) (by omega) a6.out D.out.kd D.out.sc (fun p b=>(D.out.rw_ p b).2)).mono ?_
 rintro e w1 ⟨rA,rc,lA,bA,bc_,kA,kc,eA,ec,rfl,hst,hb⟩;have aO:=hid (zad hb ay.out);have aM:=hid (zad hb az.out);have fC:=hid (HC.out.below hb);have fd:=hid (HR.out.below hb);have bp:=hid (a0.out.below hb);have a9:=hid (show StdP w1 rA rc lA bA bc_ kA kc eA ec m N S (zc3 rows) (zg8 rows) (zjD cost rows) (zca nC rows m)from hst);have aN:=hid (BB.out.trans ((hb).mono BB.out.size))
 clear hst hb;have u:=zae w1 (.cells #[(rA,m,rc),(N:Int),(bA,m,bc_),(kA,N,kc),(nC:Int),(eA,m,ec)] 113);have K:=hid (zad u aO.out);have L:=hid (zad u aM.out);have bv:=hid (fC.out.below u);have fw:=hid (fd.out.below u);have bq:=hid (bp.out.below u);have aF:=hid (a9.out.below u);have A:=hid (aN.out.trans ((u).mono aN.out.size))
 have E:=hid (zal w1 #[(rA,m,rc),(N:Int),(bA,m,bc_),(kA,N,kc),(nC:Int),(eA,m,ec)] 113);obtain⟨d0,_,d1,_,el,_,e7,_,fs,_,fu,_⟩:=bc6 E.out;clear cX cY;go_wp2_with fail
 have aX:=hid A.out;have bi:=aX.out.size;generalize hwS:(w1.alloc (.cells #[(rA,m,rc),(N:Int),(bA,m,bc_),(kA,N,kc),(nC:Int),(eA,m,ec)] 113))=wS at *
 clear hwS;with_reducible refine(Tb.new rA rc lA bA bc_ kA kc eA ec m N S nC (zc3 rows) (zg8 rows) (zjD cost rows) (zca nC rows m) tA tc cols X _ aF.out bq.out aV.out O.out).mono ?_
 rintro e G ⟨q,tB,tbc,rfl,hT,hb⟩;have aR:=hid (zad hb E.out);have HT:=hid (show zhi wS G wS.heap.size q rA rc lA bA bc_ kA kc eA ec m N S nC (zc3 rows) (zg8 rows) (zjD cost rows) (zca nC rows m) tB tbc cols from hT);obtain⟨_,_,_,_,_,_,fr,_⟩:=bc6 aR.out;have an:=hid hb;clear hT hb;have aY:=hid (HT.out).hle
 go_wp2_with fail
 with_reducible refine(Du.all N be _).mono ?_
 rintro e w4 ⟨MA,rfl,hm,hb⟩;have eu:=hid (zad hb aR.out);have bs:=hid (HT.out.below hb);have HM:=hid (show BoolsS w4 G.heap.size (MA,N,N) (List.replicate N true)from hm);obtain⟨_,_,_,_,_,_,e8,_⟩:=bc6 eu.out;have aT:=hid (an.out.trans (hb.mono an.out.size));clear hm hb;go_wp2_with fail
 have fL:=aW.out;with_reducible refine(Du.run bs.out MA N G.heap.size HM.out O.out (B:Int) (by omega) a5.out).mono ?_
 rintro e H ⟨ev,rfl,hev,hT5,hb5,hk5⟩;rw[show((B:Int)).toNat=B from Int.toNat_natCast _,a4.out]at hev hT5 ⊢;have ax:=hid hT5;have a2:=hid (HM.out.kept hk5 (by decide));have t:Below wS.heap.size wS H:=aT.out.trans hb5;have M:=hid t;have bb:=hid (show ∀g,(Value.slice tB m tbc).ownBlock=some g→g<H.heap.size by
  intro g hg;obtain⟨_,_,_,hP⟩:=hT5;exact(hP.colsI.own.lt g hg).2)
 clear hT5 hb5 hk5;have J:=hid (zad t L.out);have aI:=hid (zad t E.out);have bo:=hid (aF.out.below t);have aJ:=hid (A.out.trans ((t).mono A.out.size));obtain⟨ag,ac,bF,_,ah,ad,bG,_,ai,ae,bH,_,aj,af,bI,_,ak,ab,bJ,_⟩:=bf5 J.out;clear t
 clear d0 d1 el e7 fs fu fr e8;have fR:=av.out;rcases hev with ⟨a,rfl⟩ | ⟨a,x,rfl,y⟩
 ·cases hat:r.at_ with
  | some j =>
   have b:zbh (some j)=(j:Int):=rfl;rw[b];have i:=hid (V.out.2.1 j a hat);have fO:(0:Int)≤(j:Int):=Int.natCast_nonneg _;clear a hat b;go_wp2;refine bodyPost_ret (v:=.tuple #[.agg #[.int .i64 2,false,(),(),()],.int .i64 (r.n:Int),(),.nilIface]) (by simp[results,Tryz.results40,go_sem,ag,ac,ah,ad,ai,ae,aj,af,ak,ab]) rfl ?_;have f:=zqy J.out (.int .i64 2) false () () ();rw[i.out]
   exact⟨bsc (bsc (bsc (bsc (bsc aJ.out)))),rfl⟩
  | none =>
   have b:zbh none = -1:=rfl;rw[b];have ar:=hid (V.out.2.2 a hat);clear a hat b;go_wp2_with fail
   with_reducible refine(Tb.basis ax.out).mono ?_
   rintro e w6 ⟨Bo,cBo,rfl,z,hb⟩;have cm:=hid (zad hb J.out);have cn:=hid (zad hb aI.out);have aE:=hid (bo.out.below hb);have bn:=hid (ax.out.below hb);have co:=hid (a2.out.below hb);have HI:=hid (show IntsS w6 H.heap.size (Bo,m,cBo) r.cols from z);obtain⟨_,_,_,_,_,_,_,_,cv,_⟩:=bf5 cm.out;obtain⟨_,_,_,_,_,_,ca,_,cb,_⟩:=bc6 cn.out;have aU:=hid (M.out.trans (hb.mono M.out.size))
   clear z hb;go_wp2_with fail
   rw[show(B:Int)-(r.n:Int)=((B-r.n:Nat):Int)by omega];with_reducible refine(least bn.out kA kc 0 (zjD cost rows) aE.out.C aE.out.zc MA N G.heap.size (List.replicate N true) co.out aY.out O.out nC (B-r.n) (by have:=T.out;omega) (by omega)).mono ?_
   rintro e w7 ⟨ev,rfl,hev,hln,hT7,hb7,hk7⟩;rw[a1.out]at hev hln hT7 ⊢;have ba:=hid hT7;have aZ:=hid (hk7.ints (by decide) HI.out fun g hg e=>by have h1:=(HI.out.own.lt g hg).1;have h2:=bb.out g e.symm;omega);have c:Below wS.heap.size wS w7:=aU.out.trans hb7;have fS:r.n+l.n≤1000000:=by omega
   clear hT7 hb7 hk7 hln;have aG:=hid (zad c K.out);have al:=hid (zad c L.out);have bl:=hid (bv.out.below c);have bm:=hid (fw.out.below c);have I:=hid (A.out.trans ((c).mono A.out.size));obtain⟨f6,_,f7,_⟩:=bc2 aG.out;obtain⟨fD,fx,fZ,_,fE,fy,f0,_,fF,fz,f1,_,fG,fA,f4,_,fH,fB,f5,_⟩:=bf5 al.out;clear c
   clear ag ac bF ah ad bG ai ae bH aj af bI ak ab bJ cv ca cb;rcases hev with ⟨a,rfl⟩ | ⟨a,x,num,rfl,bf,y⟩
   ·have i:=hid (show o=.best r.cols l.cols (r.n+l.n)from ar.out.trans (by unfold yth;rw[a];rfl));clear a;go_wp2_with fail
    with_reducible refine(answer ba.out C nC k R m s cost rows bl.out bm.out (by have:=T.out;omega) a8.out a7.out).mono ?_
    rintro e w8 ⟨g2,A2,m2,c2,D2,md2,cd2,P,cP,rfl,hn,hv,hb⟩;have aK:=hid (zad hb al.out);have br:=hid (aZ.out.below hb);have HA:=hid (show RatS w8 g2 (A2,m2,c2) (D2,md2,cd2) (dot cost (ytf nC N (zc3 rows) (zg8 rows) l.cols))from hn);have a3:=hid (show VecS w8 w7.heap.size (P,nC,cP) (ytf nC N (zc3 rows) (zg8 rows) l.cols)from hv);have bW:=hid (I.out.trans ((hb).mono I.out.size))
    obtain⟨bZ,b1,gH,_,b0,b2,gI,_,cp,cs,gJ,_,cq,ct,gK,_,cr,cu,gL,_⟩:=bf5 aK.out;clear hn hv hb;have bh:w.heap.size≤w7.heap.size:=(I).out.size;have bg:w.heap.size≤H.heap.size:=Nat.le_trans bi M.out.size;go_wp2
    refine bodyPost_ret (v:=.tuple #[.agg #[.int .i64 1,g2,(A2,m2,c2),(D2,md2,cd2),(P,nC,cP)],.int .i64 ((r.n+l.n:Nat):Int),(Bo,m,cBo),.nilIface]) (by simp[results,Tryz.results40,go_sem,bZ,b1,b0,b2,cp,cs,cq,ct,cr,cu]) rfl ?_;have f:=zqy aK.out (.int .i64 1) g2 (A2,m2,c2) (D2,md2,cd2) (P,nC,cP);rw[i.out]
    exact⟨bsc (bsc (bsc (bsc (bsc bW.out)))),g2,A2,m2,c2,D2,md2,cd2,P,cP,Bo,m,cBo,rfl,HA.out.tk f (by decide),(a3.out.base bh).tk f (by decide) (by decide),(br.out.base bg).tk f (by decide)⟩
   ·have i:=hid (show o=.spent (r.n+l.n)from ar.out.trans (by unfold yth;rw[if_pos a]));have Q:=hid y;have U:=hid (show num≤B by omega);clear a y bf;go_wp2;refine bodyPost_ret (v:=.tuple #[.agg #[.int .i64 0,false,(),(),()],.int .i64 ((r.n+l.n:Nat):Int),(),.iface 224 (.pointer (some ⟨x,0,none⟩))]) (by simp[results,Tryz.results40,go_sem,fD,fx,fE,fy,fF,fz,fG,fA,fH,fB]) rfl ?_
    have f:=zqy al.out (.int .i64 0) false () () ();rw[i.out];exact⟨bsc (bsc (bsc (bsc (bsc I.out)))),x,num,rfl,U.out,f.blk Q.out (by decide)⟩
 ·have i:=hid (V.out.1 a);have Q:=hid y;have U:=hid av.out;clear a y;go_wp2;refine bodyPost_ret (v:=.tuple #[.agg #[.int .i64 0,false,(),(),()],.int .i64 (r.n:Int),(),.iface 224 (.pointer (some ⟨x,0,none⟩))]) (by simp[results,Tryz.results40,go_sem,ag,ac,ah,ad,ai,ae,aj,af,ak,ab]) rfl ?_;have f:=zqy J.out (.int .i64 0) false () () ();rw[i.out]
  exact⟨bsc (bsc (bsc (bsc (bsc aJ.out)))),x,r.n,rfl,U.out,f.blk Q.out (by decide)⟩
