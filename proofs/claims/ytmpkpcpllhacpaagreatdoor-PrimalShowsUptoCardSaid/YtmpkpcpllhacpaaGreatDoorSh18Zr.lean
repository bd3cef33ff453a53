/- Contracts and lemmas: Sh18. Conditions: as each says. -/
import Derived.Test.YtmpkpcpllhacpaaGreatDoorAw18aZr
import Derived.Test.YtmpkpcpllhacpaaGreatDoorShqZr
set_option linter.all false
set_option maxHeartbeats 2000000
set_option maxRecDepth 100000
namespace Go.Proofs.YtmpkpcpllhacpaaGreatDoor
open Go.RowKit Am
open Lib (hid)
open Err (z4a)
open Pr (z6X)
attribute [local go_sem ↓] Go.wp_at_zero Go.wp_at_succ
namespace Lw
open Pb (zPu)
open Vc (zMp)
theorem shows18(A:OA)(nA cA:Nat)(L:OA)(nL cL:Nat)(cs:List (Int × Int))(ls:List LineV)(w:World)(hf:zcs w A cs)(de:zex w L ls)(j:nA=cs.length)(hm:nL=ls.length)(a:nA≤cA)(db:nL≤cL)(hc:cA≤9223372036854775807)(dc:cL≤9223372036854775807)(hg:w.cell? ⟨0,0,none⟩=some z4a) :
  Calls Tryz.prog 7 #[.agg #[.slice A nA cA,.slice L nL cL]] w fun e w'=>e=.returned (.bool true)∧Below w.heap.size w w':=by
 have HN:=hid j;have HM:=hid hm;have fr:=hid a;have fs:=hid db;have ft:=hid hc;have fu:=hid dc;have fB:=hid hg;clear j hm a db hc dc hg;obtain⟨W,hW⟩:∃W,(w.alloc (.cells #[.slice A nA cA,.slice L nL cL] 40))=W:=⟨_,rfl⟩
 have c8:=hid (show W.heap[w.heap.size]? = some (.cells #[.slice A nA cA,.slice L nL cL] 40 (0,0))by rw[←hW];exact zam (by simp));have BB:=hid (show Below w.heap.size w W by rw[←hW];exact zae w _);have HF:=hid (show zcs W A cs by rw[←hW];exact(hf).alloc _);have HL:=hid (show zex W L ls by rw[←hW];exact(de).alloc _);obtain⟨ja,jg,jb,i4⟩:=bc2 c8.out;have b4:W.cell? ⟨0,0,none⟩=some z4a:=by rw[←hW];exact cell_al fB.out
 have js:=zaa b4;clear hf de;go_enter Tryz.func7,Tryz.ntmps7;go_wp2_with fail
 clear hW;with_reducible refine(z8t _ b4).mono ?_
 rintro e w1 ⟨rfl,a⟩;have fg:=hid (zad a c8.out);have iQ:=hid (HF.out.below a);have iR:=hid (HL.out.below a);have ff:=hid (BB.out.trans ((a).mono BB.out.size));obtain⟨i8,je,i9,jf⟩:=bc2 fg.out;have cT:=zab a b4;have f1:=zaa cT;clear a;go_wp2_with fail
 with_reducible refine(zLD A nA cA L nL cL cs ls _ iQ.out iR.out HN.out HM.out fr.out fs.out ft.out fu.out).mono ?_
 rintro e w2 ⟨C,nC,cC,R,nR,cR,l,cost,rows,rfl,hv,hl,_,_,hgd,a⟩;have i5:=hid (zad a fg.out);have HC:=hid (show VecS w2 0 (.slice C nC cC) cost from(hv.base (Nat.zero_le _)));have HR:=hid (show RowsS w2 0 (.slice R nR cR) rows from(hl.toS.base (Nat.zero_le _)));have fh:=hid (ff.out.trans ((a).mono ff.out.size));obtain⟨jc,i6,jd,i7⟩:=bc2 i5.out;have fj:=zab a cT;have f2:=zaa fj;have v:=hid hgd;clear hv hl hgd a;have ca:=zae w2 (.cells #[.slice C nC cC,.slice R nR cR] 53)
 have cx:=hid (HC.out.below ca);have cw:=hid (HR.out.below ca);have fk:=hid (fh.out.trans ((ca).mono fh.out.size));have KP:=hid (zal w2 #[.slice C nC cC,.slice R nR cR] 53);obtain⟨jn,jh,jo,ji⟩:=bc2 KP.out;have aY:=hid (show cost.length=nC from(cx.out).len.symm);have O:=hid (show rows.length=nR from(cw.out).len.symm);have m:=hid ((z6W v.out aY.out O.out).sh v.out aY.out O.out);have a9:=hid (show nC≤1048576 by have:=v.out.hc;omega);have ba:=hid v.out.hr
 have Y:=hid (show Rows nC rows from fun p t=>⟨(v.out.rw_ p t).1,fun q f=>Nat.le_trans ((v.out.rw_ p t).2.1 q f) (by decide),Nat.le_trans (v.out.rw_ p t).2.2 (by decide)⟩);have fH:=hid (fun(w:World) (h1:VecS w 0 (.slice C nC cC) cost) (h2:RowsS w 0 (.slice R nR cR) rows)=>z6X C nC cC R nR cR cost rows w h1 h2 v.out)
 generalize oO (sol nC nR cost rows)=o,oX nC nR rows (sol nC nR cost rows)=x,oY nC nR cost rows (sol nC nR cost rows)=y,oZ nC nR rows (sol nC nR cost rows)=z,(sol nC nR cost rows).pivots=n at *
 go_wp2_with fail
 with_reducible refine(fH.out _ cx.out cw.out).mono ?_
 rintro e w3 ⟨P,nP,cP,Q,u,cQ,D,nD,cD,rfl,t,f,hd,a⟩;have fi:=hid (zad a KP.out);have iJ:=hid (cx.out.below a);have jr:=hid (cw.out.below a);have HP:=hid (show VecS w3 0 (.slice P nP cP) x from t);have HQ:=hid (show VecS w3 0 (.slice Q u cQ) y from f);have HD:=hid (show VecS w3 0 (.slice D nD cD) z from hd);have fm:=hid (fk.out.trans ((a).mono fk.out.size));obtain⟨jl,jj,jm,jk⟩:=bc2 fi.out;have aZ:=hid f.len;have b5:=hid hd.len;have b6:=hid t.len;have fJ:=hid (show u≤nR by rw[f.len];exact m.out.le)
 clear t f hd a;have aN:=zae w3 (.cells #[.int .i64 o,.slice P nP cP,.slice Q u cQ,.slice D nD cD,.int .i64 (n:Int)] 78);have fl:=hid (zad aN fi.out);have iS:=hid (iJ.out.below aN);have ie:=hid (jr.out.below aN);have iP:=hid (HP.out.below aN);have hj:=hid (HQ.out.below aN);have iM:=hid (HD.out.below aN);have fn:=hid (fm.out.trans ((aN).mono fm.out.size));obtain⟨lj,lh,lk,li⟩:=bc2 fl.out;have KR:=hid (zal w3 #[.int .i64 o,.slice P nP cP,.slice Q u cQ,.slice D nD cD,.int .i64 (n:Int)] 78)
 obtain⟨lw,lm,lx,ln,ly,lp,lE,lq,lG,lr⟩:=bc5 KR.out;clear ja jg jb i4 i8 je i9 jf cT f1 jc i6 jd i7 fj f2 jn jh jo ji jl jj jm jk;go_upto_region 7 with fail
 generalize hwS:(w3.alloc (.cells #[.int .i64 o,.slice P nP cP,.slice Q u cQ,.slice D nD cD,.int .i64 (n:Int)] 78))=wS at *
 clear hwS
 go_wp2_with (at_make;go_must (refine zdv rfl _ _ rfl nC _ rfl rfl rfl a9.out wS.heap.size rfl ?_;intro B ho U;have jB:=U.size;have bZ:=hid (zad U fl.out);have b0:=hid (zad U KR.out);have eQ:=hid (iS.out.below U);have bp:=hid (ie.out.below U);have eR:=hid (iP.out.below U);have cv:=hid (hj.out.below U);have iT:=hid (iM.out.below U);have HO:=hid (show VecS B wS.heap.size (.slice (some ⟨wS.heap.size,0,none⟩) nC nC) (List.replicate nC 0)from ho);have aG:=hid (fn.out.trans ((U).mono fn.out.size));obtain⟨lv,lo,fo,ll⟩:=bc2 bZ.out;obtain⟨lI,lz,lJ,lA,fp,lD,lM,lF,lN,lH⟩:=bc5 b0.out;clear ho U))
 go_loopw [6,8] (fun ov i wr=>∃(k:Nat) (S:OA) (cs:Nat) (I:Bool) (E:OA) (N H:Nat) (F:OA) (M G:Nat),i=.int .i64 k∧ov=.slice S nC cs∧k≤u∧VecS wr wS.heap.size (.slice S nC cs) (zPA nC y rows k)∧wr.heap[B.heap.size]? = some (.cells #[.bool I,.slice E N H,.slice F M G] 35 (0,0))∧RatS wr I (.slice E N H) (.slice F M G) (zPV y rows k)∧Below B.heap.size B wr)
  (fun _ i _=>u-(intOf i).toNat)
 case atStart=>exact⟨0,_,_,_,_,_,_,_,_,_,rfl,rfl,Nat.zero_le _,HO.out.alloc _,zal _ _ _,RatS.zero _,zae B _⟩
 case round =>
  obtain⟨k,S,cs,I,E,N,H,F,M,G,rfl,rfl,hk,hV,J,hP,c⟩:=hrel;have jz:=ba.out;have jA:=fJ.out;by_cases cc:k<u
  ·obtain⟨p,t⟩:∃p,rows[k]? = some p:=⟨rows[k]'(by rw[O.out];omega),List.getElem?_eq_getElem _⟩
   obtain⟨q,f⟩:∃q,y[k]? = some q:=⟨y[k]'(by rw[←aZ.out];exact cc),List.getElem?_eq_getElem _⟩
   obtain⟨b,rfl,jt,U⟩:=bp.out.has (by omega);obtain⟨d,rfl,ju,jv⟩:=cv.out.has (by omega);obtain⟨T,nq,cq,g,A1,m1,c1,D1,bB,bv,k0,k1,k2,k3,k4,cf,dg⟩:=bp.out.at_ t;obtain⟨gb,V,mb,cb,X,ai,ab,l0,l1,l2,b9⟩:=cv.out.at_ f;have a1:=hid (Y.out p (List.mem_of_getElem? t));have b7:=hid (m.out.sy q (List.mem_of_getElem? f));have cX:=hid (show p.kind=1→q≤0 by have:=m.out.s1 k (by rw[←aZ.out];exact cc);rwa [zfC t,znd f]at this)
   have cY:=hid (show p.kind=2→0≤q by have:=m.out.s2 k (by rw[←aZ.out];exact cc);rwa [zfC t,znd f]at this);have cW:=hid (show p.kind=1∨p.kind=2∨p.kind=3 by have h1:=v.out.kd p (List.mem_of_getElem? t);omega);have fQ:=hid (zQg (n:=nC) t f);have fO:=hid (zQd t f);obtain rfl:nC=nq:=by rw[cf.len,a1.out.1]
   generalize hkd:p.kind=kd at k1 cX cY cW;have bt:=hid (And.intro l0 (And.intro l1 (And.intro l2 k1)));have fL:=hid b9;have jw:(0:Int)≤(k:Int):=Int.natCast_nonneg _;have jx:(k:Int)<(nR:Int):=by omega
   have jy:(k:Int)<(u:Int):=by omega
   have Z:=hid (show VecS wr wS.heap.size (.slice S nC cs) (zPA nC y rows k)from hV);have al:=hid (show RatS wr I (.slice E N H) (.slice F M G) (zPV y rows k)from hP);have aJ:=hid (show RatS wr gb (.slice V mb cb) (.slice X ai ab) q from(b9.below c));have fR:=hid (show VecS wr 0 (.slice T nC cq) p.coef from(cf.below c));have fM:=hid (show RatS wr g (.slice A1 m1 c1) (.slice D1 bB bv) p.rhs from(dg.below c));have HW:=hid (show Bel B wr from Bel.mk c);have jp:=zab c fo;have f3:=zaa jp
   have il:=zab c fp;have f6:=zaa il;have im:wr.cell? ⟨d,k*3,none⟩=some (.bool gb):=zab c l0;have f9:=zaa im;have io:wr.cell? ⟨d,k*3+1,none⟩=some (.slice V mb cb):=zab c l1;have gd:=zaa io;have ig:wr.cell? ⟨d,k*3+2,none⟩=some (.slice X ai ab):=zab c l2;have gg:=zaa ig;have ih:wr.cell? ⟨b,k*5,none⟩=some (.slice T nC cq):=zab c k0;have gl:=zaa ih;have ii:wr.cell? ⟨b,k*5+2,none⟩=some (.bool g):=zab c k2;have gm:=zaa ii;have ij:wr.cell? ⟨b,k*5+3,none⟩=some (.slice A1 m1 c1):=zab c k3;have gp:=zaa ij
   have ik:wr.cell? ⟨b,k*5+4,none⟩=some (.slice D1 bB bv):=zab c k4;have gr:=zaa ik;have s:=hid J;obtain⟨lB,lt,lO,lK,lC,lu,lP,lL,kL,lV,kF,j1⟩:=bf3 s.out;have a8:=hid (show(zPA nC y rows k).length=p.coef.length by rw[zPw Y.out k (by rw[O.out];omega),a1.out.1]);have bd:=hid (show ∀q∈zPA nC y rows k,mw q≤100000000 from fun q f=>Nat.le_trans (zPD Y.out m.out.sy k (by rw[O.out];omega) q f) (by omega));have L1:=hid (show 4*(mw q+mw p.rhs)+8≤LIM by have:=b7.out;have:=a1.out.2.2;have:=zaP;omega)
   have L2:=hid (show 4*(mw (zPV y rows k)+mw (q*p.rhs))+8≤LIM by have:=b7.out;have:=a1.out.2.2;have:=zaP;have:=zdI q p.rhs;have:=zQY Y.out m.out.sy k;omega);have fW:B.heap.size<wr.heap.size:=(Array.getElem?_eq_some_iff.1 J).1;clear hV J hP c t f b9 cf dg hkd k0 k1 k2 k3 k4 l0 l1 l2;go_wp2_with fail
   refine zaS (S:=fun w'=>w'.cell? ⟨w2.heap.size,1,none⟩=some (.slice (some ⟨b,0,none⟩) nR cR)∧w'.cell? ⟨w3.heap.size,2,none⟩=some (.slice (some ⟨d,0,none⟩) u cQ)∧w'.cell? ⟨d,k*3,none⟩=some (.bool gb)∧w'.cell? ⟨d,k*3+1,none⟩=some (.slice V mb cb)∧w'.cell? ⟨d,k*3+2,none⟩=some (.slice X ai ab)∧w'.cell? ⟨b,k*5,none⟩=some (.slice T nC cq)) [] (h:=fun hHeld=>?_);refine zaw [0,1,2,3,4,5,6,7,8,9,10,11] ?_;repeat refine tkL (hS:=hHeld) (h:=?_)
   refine zao ?_;refine zaB 12 (h:=fun K r=>?_);go_simp
   (go_at_call 35;(with_reducible refine(zMp S nC cs (zPA nC y rows k) gb V mb cb X ai ab q T nC cq p.coef wS.heap.size 0 _ Z.out.drew aJ.out.drew fR.out.drew a8.out a9.out bd.out (Nat.le_trans b7.out (by decide)) (fun q f=>Nat.le_trans (a1.out.2.1 q f) (by decide))).mono ?_);rintro e v1 ⟨S2,ns2,cs2,rfl,j,a⟩;have fq:=hid (zad a s.out);have iY:=hid (al.out.drew.below a);have iH:=hid (aJ.out.drew.below a);have iZ:=hid (fM.out.drew.below a);have iK:=hid (HW.out.drew.below a);have c0:=hid (show VecS v1 wr.heap.size (.slice S2 ns2 cs2) (zly (zPA nC y rows k) q p.coef)from j);obtain⟨lQ,lR,kS,kM,lS,lT,kU,kO,lU,lW,kG,j2⟩:=bf3 fq.out;have jq:=zab a f3;have f4:=zaa jq;have iq:=zab a f6;have f7:=zaa iq;have iv:=zab a f9;have ga:=zaa iv;have ix:=zab a gd;have ge:=zaa ix;have iz:=zab a gg;have gh:=zaa iz;have iB:=zab a gl;have jT:=zaa iB;have iD:=zab a gm;have gn:=zaa iD;have iF:=zab a gp;have gq:=zaa iF;have iG:=zab a gr;have gt:=zaa iG;clear j a)
   (try go_wp2_with fail)
   refine r.out _ _ kp fun hHeld=>?_
   clear r K;try simp only[Act.put,pu1,pu2,pu3,pu4,pu5,pu6]
   refine zaw [13,14,15,16,17] ?_;repeat refine tkL (hS:=hHeld) (h:=?_)
   refine zao ?_;refine zaM (h:=?_);obtain rfl:nC=ns2:=by rw[c0.out.len,zdt a8.out,a8.out,a1.out.1]
   go_wp2_with fail
   go_cut[6] (fun ov wy=>∃(g5:Bool) (A5:OA) (m5 c5:Nat) (D5:OA) (aR aL:Nat),ov=.slice S2 nC cs2∧VecS wy wS.heap.size (.slice S2 nC cs2) (zPA nC y rows (k+1))∧wy.heap[B.heap.size]? = some (.cells #[.bool g5,.slice A5 m5 c5,.slice D5 aR aL] 35 (0,0))∧RatS wy g5 (.slice A5 m5 c5) (.slice D5 aR aL) (zPV y rows (k+1))∧Below B.heap.size B wy)
   case first =>
    refine za2 (S:=fun w'=>w'.cell? ⟨B.heap.size,0,none⟩=some (.bool I)∧w'.cell? ⟨B.heap.size,1,none⟩=some (.slice E N H)∧w'.cell? ⟨B.heap.size,2,none⟩=some (.slice F M G)∧w'.cell? ⟨w2.heap.size,1,none⟩=some (.slice (some ⟨b,0,none⟩) nR cR)∧w'.cell? ⟨w3.heap.size,2,none⟩=some (.slice (some ⟨d,0,none⟩) u cQ)∧w'.cell? ⟨d,k*3,none⟩=some (.bool gb)∧w'.cell? ⟨d,k*3+1,none⟩=some (.slice V mb cb)∧w'.cell? ⟨d,k*3+2,none⟩=some (.slice X ai ab)∧w'.cell? ⟨b,k*5+2,none⟩=some (.bool g)∧w'.cell? ⟨b,k*5+3,none⟩=some (.slice A1 m1 c1)∧w'.cell? ⟨b,k*5+4,none⟩=some (.slice D1 bB bv)) 16 (h:=fun hHeld=>?_)
    refine zaw [0,1,2,3,4,5,6,7,8,9,10,11,12] ?_;repeat refine tkE (hS:=hHeld) (h:=?_)
    refine zao ?_;refine zaN 13 (h:=fun K r=>?_);go_simp
    (go_at_call 37;(with_reducible refine(Rt.mul gb V mb cb X ai ab q g A1 m1 c1 D1 bB bv p.rhs _ iH.out.drew iZ.out.drew L1.out).mono ?_);rintro e v2 ⟨g3,A3,m3,c3,D3,md3,cd3,rfl,j,a⟩;have eP:=hid (zad a fq.out);have iX:=hid (iY.out.drew.below a);have iL:=hid (iK.out.drew.below a);have i1:=hid (c0.out.drew.below a);have HM:=hid (show RatS v2 g3 (.slice A3 m3 c3) (.slice D3 md3 cd3) (q*p.rhs)from j);obtain⟨kW,kQ,kT,kN,kX,kR,kV,kP,lg,kK,kH,j3⟩:=bf3 eP.out;have eH:=zab a f4;have jE:=zaa eH;have eI:=zab a f7;have jH:=zaa eI;have eJ:=zab a ga;have jK:=zaa eJ;have eK:=zab a ge;have jN:=zaa eK;have eL:=zab a gh;have jQ:=zaa eL;have eM:=zab a gn;have jU:=zaa eM;have eN:=zab a gq;have jX:=zaa eN;have eO:=zab a gt;have jZ:=zaa eO;clear j a)
    (try go_wp2_with fail)
    refine r.out _ _ kp fun hHeld=>?_
    clear r K;try simp only[Act.put,pu1,pu2,pu3,pu4,pu5,pu6]
    refine zaN 14 (h:=fun K r=>?_);go_simp
    (go_at_call 36;(with_reducible refine(Rt.add I E N H F M G (zPV y rows k) g3 A3 m3 c3 D3 md3 cd3 (q*p.rhs) _ iX.out HM.out L2.out).mono ?_);rintro e v3 ⟨g4,A4,m4,c4,D4,md4,cd4,rfl,j,a⟩;have bY:=hid (zad a eP.out);have iI:=hid (iL.out.below a);have i3:=hid (i1.out.below a);have HS:=hid (show RatS v3 g4 (.slice A4 m4 c4) (.slice D4 md4 cd4) (zPV y rows k+q*p.rhs)from j);obtain⟨k7,k9,lb,j4,k8,la,lc,j5,lf,j9,ld,j6⟩:=bf3 bY.out;have ir:=zab a eH;have jC:=zaa ir;have ip:=zab a eI;have jF:=zaa ip;have iu:=zab a eJ;have jI:=zaa iu;have iw:=zab a eK;have jL:=zaa iw;have iy:=zab a eL;have jO:=zaa iy;have iA:=zab a eM;have jR:=zaa iA;have iC:=zab a eN;have jW:=zaa iC;have iE:=zab a eO;have jY:=zaa iE;clear j a)
    (try go_wp2_with fail)
    refine r.out _ _ kp fun hHeld=>?_
    clear r K;try simp only[Act.put,pu1,pu2,pu3,pu4,pu5,pu6]
    refine zaw [15] ?_;repeat refine tkE (hS:=hHeld) (h:=?_)
    refine zao ?_;refine zba (h:=fun K r=>?_);go_simp;refine r.out _ _ ?_;clear r K;try simp only[Act.put,pu1,pu2,pu3,pu4,pu5,pu6]
    refine za1 (h:=?_)
    all_goals
     go_wp2;go_meet
     case rel=>exact⟨g4,A4,m4,c4,D4,md4,cd4,rfl,by rw[fQ.out];exact(VecS.set3 i3.out bY.out (by decide) fW 0 1 2 _ _ _).base (by omega),zar _ (zar _ (zar _ bY.out)),by rw[fO.out];exact HS.out.set3 bY.out (by decide) _ _ _,(Bel.set3 iI.out (Nat.le_refl _) _ _ _).b⟩
   case rest =>
    obtain⟨g5,A5,m5,c5,D5,aR,aL,rfl,hV,J,hP,c⟩:=hcut;rename World=>wy
    have e6:=hid (bp.out.below c);have dn:=hid (cv.out.below c);have Z:=hid (show VecS wy wS.heap.size (.slice S2 nC cs2) (zPA nC y rows (k+1))from hV);have al:=hid (show RatS wy g5 (.slice A5 m5 c5) (.slice D5 aR aL) (zPV y rows (k+1))from hP);have aJ:=hid (show RatS wy gb (.slice V mb cb) (.slice X ai ab) q from(fL.out.below c));have HW:=hid (show Bel B wy from Bel.mk c);have bX:=hid (aG.out.trans ((c).mono aG.out.size));have cI:=zab c fo;have jD:=zaa cI;have cJ:=zab c fp;have jG:=zaa cJ
    have cK:wy.cell? ⟨d,k*3,none⟩=some (.bool gb):=zab c bt.out.1;have jJ:=zaa cK;have cM:wy.cell? ⟨d,k*3+1,none⟩=some (.slice V mb cb):=zab c bt.out.2.1;have jM:=zaa cM;have cO:wy.cell? ⟨d,k*3+2,none⟩=some (.slice X ai ab):=zab c bt.out.2.2.1;have jP:=zaa cO;have cN:wy.cell? ⟨b,k*5+1,none⟩=some (.int .i64 kd):=zab c bt.out.2.2.2;have jS:=zaa cN;have s:=hid J;obtain⟨k5,kY,k6,kZ,kJ,kI⟩:=bc3 s.out;clear J hP c hV;rcases cW.out with rfl | rfl | rfl
    ·have hs:¬0<q:=Rat.not_lt.2 (cX.out rfl);have cd:decide (0<q.num)=false:=decide_eq_false fun h=>hs ((zPs q).1 h)
     have ce:decide (0<q.num.sign)=false:=decide_eq_false fun h=>hs ((zPt q).1 h)
     clear hs;go_wp2_with fail
     with_reducible refine(Rt.sign gb V mb cb X ai ab q _ aJ.out).mono ?_
     rintro e v4 ⟨rfl,a⟩;have bq:=hid (zad a s.out);have i0:=hid (e6.out.below a);have ha:=hid (dn.out.below a);have cF:=hid (Z.out.below a);have cy:=hid (al.out.below a);have i2:=hid (aJ.out.below a);have cG:=hid (HW.out.below a);have iW:=hid (bX.out.trans ((a).mono bX.out.size));obtain⟨iU,iN,iV,iO,h9,hI⟩:=bc3 bq.out;have cH:=zab a cI;have f0:=zaa cH;have cz:=zab a cJ;have f5:=zaa cz;have cB:=zab a cK;have f8:=zaa cB;have cE:=zab a cM;have gc:=zaa cE;have cp:=zab a cO;have gf:=zaa cp
     have cS:=zab a cN;have gj:=zaa cS;clear a;go_wp2;go_roundw
     case rel=>exact⟨k+1,S2,cs2,g5,A5,m5,c5,D5,aR,aL,by go_num,rfl,by omega,cF.out,bq.out,cy.out,cG.out.b⟩
     case measure=>simp[intOf];omega
    ·have hs:¬q<0:=Rat.not_lt.2 (cY.out rfl);have cd:decide (q.num<0)=false:=decide_eq_false fun h=>hs ((zvc q).1 h)
     have ce:decide (q.num.sign<0)=false:=decide_eq_false fun h=>hs ((zQE q).1 h)
     clear hs;go_wp2_with fail
     with_reducible refine(Rt.sign gb V mb cb X ai ab q _ aJ.out).mono ?_
     rintro e v4 ⟨rfl,a⟩;have bq:=hid (zad a s.out);have i0:=hid (e6.out.below a);have ha:=hid (dn.out.below a);have cF:=hid (Z.out.below a);have cy:=hid (al.out.below a);have i2:=hid (aJ.out.below a);have cG:=hid (HW.out.below a);have iW:=hid (bX.out.trans ((a).mono bX.out.size));obtain⟨iU,iN,iV,iO,h9,hI⟩:=bc3 bq.out;have cH:=zab a cI;have f0:=zaa cH;have cz:=zab a cJ;have f5:=zaa cz;have cB:=zab a cK;have f8:=zaa cB;have cE:=zab a cM;have gc:=zaa cE;have cp:=zab a cO;have gf:=zaa cp
     have cS:=zab a cN;have gj:=zaa cS;clear a;go_wp2;go_roundw
     case rel=>exact⟨k+1,S2,cs2,g5,A5,m5,c5,D5,aR,aL,by go_num,rfl,by omega,cF.out,bq.out,cy.out,cG.out.b⟩
     case measure=>simp[intOf];omega
    ·skip
     go_wp2;go_roundw
     case rel=>exact⟨k+1,S2,cs2,g5,A5,m5,c5,D5,aR,aL,by go_num,rfl,by omega,Z.out,s.out,al.out,HW.out.b⟩
     case measure=>simp[intOf];omega
  ·obtain rfl:u=k:=by omega
   rcases m.out.o3 with rfl | rfl | rfl
   ·obtain⟨bf,aP,hf,hd,he,rfl⟩:=m.out.best rfl;obtain rfl:nR=u:=by rw[aZ.out,bf]
    obtain rfl:nC=nP:=by rw[b6.out,aP]
    obtain rfl:0=nD:=b5.out.symm;have aC:=hid (zad c bZ.out);have aD:=hid (zad c b0.out);have bL:=hid (eQ.out.below c);have cl:=hid (bp.out.below c);have cm:=hid (eR.out.below c);have Z:=hid (show VecS wr wS.heap.size (.slice S nC cs) (sv nC y rows)from(show VecS wr wS.heap.size (.slice S nC cs) (sv nC y rows)by unfold sv;rw[O.out];exact hV))
    have al:=hid (show RatS wr I (.slice E N H) (.slice F M G) (sb y rows)from(show RatS wr I (.slice E N H) (.slice F M G) (sb y rows)by unfold sb;rw[O.out];exact hP));have aB:=hid (aG.out.trans ((c).mono aG.out.size));obtain⟨eV,eZ,eW,e0⟩:=bc2 aC.out;obtain⟨eX,e1,eY,e2,e7,fa,e8,fb,e9,fc⟩:=bc5 aD.out;have s:=hid J;obtain⟨eS,e3,eT,e4,e5,eU⟩:=bc3 s.out;have b8:=hid aP;have b3:=hid hf;have b2:=hid hd;have cV:=hid he
    have bd:=hid (show ∀q∈sv nC y rows,mw q≤100000000 from fun q f=>Nat.le_trans (zPD Y.out m.out.sy rows.length (Nat.le_refl _) q f) (by rw[O.out];have:=ba.out;omega));clear hV J hP c aP hf hd he bf;have fw:=hid (show cost.length=x.length by rw[b8.out,aY.out]);have a8:=hid (show cost.length=(sv nC y rows).length by rw[aY.out];exact(zPw Y.out _ (Nat.le_refl _)).symm);have bb:=hid (show Sm cost from fun q f=>Nat.le_trans (v.out.sc q f) (by decide))
    have fP:=hid (show zA9 (dot cost x) (sb y rows)=true from decide_eq_true cV.out);have fD:=hid (show 4*(mw (dot cost x)+mw (sb y rows))+8≤LIM by rw[←cV.out];have:=zDI bb.out m.out.sx (by rw[aY.out];have:=v.out.hc;omega);have:=zaP;omega);have a4:nC≤1000:=by have:=v.out.hc;omega
    have bx:nR≤1000:=by have:=ba.out;omega
    go_wp2_with fail
    with_reducible refine(Vc.sub C nC cC cost S nC cs (sv nC y rows) 0 wS.heap.size _ bL.out Z.out a8.out a9.out (fun q f=>Nat.le_trans (bb.out q f) (by decide)) bd.out).mono ?_
    rintro e x1 ⟨T3,nt3,ct3,rfl,hv,a⟩;have aF:=hid (zad a aC.out);have aE:=hid (zad a aD.out);have aw:=hid (zad a s.out);have bM:=hid (bL.out.below a);have bR:=hid (cl.out.below a);have bo:=hid (cm.out.below a);have dp:=hid (Z.out.below a);have co:=hid (al.out.below a);have a0:=hid (show VecS x1 wr.heap.size (.slice T3 nt3 ct3) (zly cost ((-1:Int):Rat) (sv nC y rows))from hv);have az:=hid (aB.out.trans ((a).mono aB.out.size));obtain⟨fd,dw,fe,dx⟩:=bc2 aF.out
    obtain⟨dy,du,dz,dv,dA,dr,dB,ds,dC,dt⟩:=bc5 aE.out;obtain⟨ev,eh,ez,el,eD,ed⟩:=bc3 aw.out;clear hv a;go_wp2_with fail
    with_reducible refine(zPu C nC cC R nR cR cost rows P nC cP x _ bM.out bR.out bo.out fw.out a4 bb.out m.out.sx).mono ?_
    rintro e x2 ⟨g7,A7,m7,c7,D7,md7,cd7,rfl,j,a⟩;have ap:=hid (zad a aF.out);have au:=hid (zad a aE.out);have ax:=hid (zad a aw.out);have bN:=hid (bM.out.below a);have bS:=hid (bR.out.below a);have ct:=hid (bo.out.below a);have cr:=hid (co.out.below a);have gL:=hid (a0.out.below a);have b1:=hid (show RatS x2 g7 (.slice A7 m7 c7) (.slice D7 md7 cd7) (dot cost x)from j);have aA:=hid (az.out.trans ((a).mono az.out.size));obtain⟨dJ,dD,dK,dE⟩:=bc2 ap.out
    obtain⟨dP,dY,dS,d1,dG,d4,ep,d7,es,ea⟩:=bc5 au.out;obtain⟨ew,ei,eA,em,eE,ee⟩:=bc3 ax.out;clear j a;have af:=zae x2 (.cells #[.bool g7,.slice A7 m7 c7,.slice D7 md7 cd7] 35);have aq:=hid (zad af ap.out);have ar:=hid (zad af au.out);have ay:=hid (zad af ax.out);have bO:=hid (bN.out.below af);have bT:=hid (bS.out.below af);have bE:=hid (ct.out.below af);have bH:=hid (cr.out.below af);have bk:=hid (gL.out.below af);have gK:=hid (b1.out.below af);have av:=hid (aA.out.trans ((af).mono aA.out.size))
    obtain⟨dL,dU,dN,dW⟩:=bc2 aq.out;obtain⟨dQ,dZ,dT,d2,dH,d5,eq,d8,et,eb⟩:=bc5 ar.out;obtain⟨ex,ej,eB,en,eF,ef⟩:=bc3 ay.out;have KV:=hid (zal x2 #[.bool g7,.slice A7 m7 c7,.slice D7 md7 cd7] 35);obtain⟨kz,kj,kB,kl,kD,kn⟩:=bc3 KV.out;go_wp2_with fail
    with_reducible refine(Pb.fits C nC cC R nR cR cost rows P nC cP x _ bO.out bT.out bE.out a4 Y.out m.out.sx bx).mono ?_
    rintro e x3 ⟨rfl,a⟩;have aU:=hid (zad a aq.out);have aV:=hid (zad a ar.out);have aW:=hid (zad a ay.out);have dm:=hid (zad a KV.out);have bP:=hid (bO.out.below a);have bU:=hid (bT.out.below a);have bW:=hid (bE.out.below a);have dl:=hid (bH.out.below a);have bl:=hid (bk.out.below a);have cn:=hid (gK.out.below a);have aX:=hid (av.out.trans ((a).mono av.out.size));obtain⟨dM,dV,dO,dX⟩:=bc2 aU.out;obtain⟨dR,d0,dF,d3,dI,d6,er,d9,eu,ec⟩:=bc5 aV.out;obtain⟨ey,ek,eC,eo,eG,eg⟩:=bc3 aW.out
    obtain⟨gR,gy,gU,gB,gX,gE⟩:=bc3 dm.out;clear a;rw[b3.out];go_wp2_with fail
    with_reducible refine(Vc.below T3 nt3 ct3 _ wr.heap.size _ bl.out).mono ?_
    rintro e x4 ⟨rfl,a⟩;have bh:=hid (zad a aU.out);have bi:=hid (zad a aV.out);have bm:=hid (zad a aW.out);have bn:=hid (zad a dm.out);have bQ:=hid (bP.out.below a);have bV:=hid (bU.out.below a);have cu:=hid (bW.out.below a);have gN:=hid (dl.out.below a);have bG:=hid (bl.out.below a);have bF:=hid (cn.out.below a);have bj:=hid (aX.out.trans ((a).mono aX.out.size));obtain⟨h7,hA,h8,hE⟩:=bc2 bh.out;obtain⟨ia,hJ,ib,ht,ic,hx,hQ,hZ,hR,h4⟩:=bc5 bi.out;obtain⟨gO,gv,gP,gw,gQ,gx⟩:=bc3 bm.out
    obtain⟨gS,gz,gV,gC,gY,gF⟩:=bc3 bn.out;clear a;rw[b2.out];go_wp2_with fail
    with_reducible refine(Rt.same g7 A7 m7 c7 D7 md7 cd7 (dot cost x) I E N H F M G (sb y rows) _ bF.out gN.out fD.out).mono ?_
    rintro e x5 ⟨rfl,a⟩;have bC:=hid (zad a bh.out);have bD:=hid (zad a bi.out);have bI:=hid (zad a bm.out);have bJ:=hid (zad a bn.out);have g1:=hid (bQ.out.below a);have hh:=hid (bV.out.below a);have gu:=hid (cu.out.below a);have gM:=hid (bG.out.below a);have dk:=hid (bF.out.below a);have bK:=hid (bj.out.trans ((a).mono bj.out.size));obtain⟨hC,hD,hG,hH⟩:=bc2 bC.out;obtain⟨hL,hM,hu,hw,hy,hz,h0,h3,h5,h6⟩:=bc5 bD.out;obtain⟨hT,hY,hU,hN,hX,hO⟩:=bc3 bI.out;obtain⟨gT,gA,gW,gD,gZ,gG⟩:=bc3 bJ.out
    clear a;rw[fP.out];go_wp2;go_ret
    exact⟨rfl,bK.out⟩
   ·obtain⟨bf,rfl,hd,he,rfl⟩:=m.out.none rfl;obtain rfl:nR=u:=by rw[aZ.out,bf]
    obtain rfl:0=nP:=b6.out.symm;obtain rfl:0=nD:=b5.out.symm;have aC:=hid (zad c bZ.out);have aD:=hid (zad c b0.out);have Z:=hid (show VecS wr wS.heap.size (.slice S nC cs) (sv nC y rows)from(show VecS wr wS.heap.size (.slice S nC cs) (sv nC y rows)by unfold sv;rw[O.out];exact hV));have al:=hid (show RatS wr I (.slice E N H) (.slice F M G) (sb y rows)from(show RatS wr I (.slice E N H) (.slice F M G) (sb y rows)by unfold sb;rw[O.out];exact hP));have aB:=hid (aG.out.trans ((c).mono aG.out.size))
    obtain⟨eV,eZ,eW,e0⟩:=bc2 aC.out;obtain⟨eX,e1,eY,e2,e7,fa,e8,fb,e9,fc⟩:=bc5 aD.out;have s:=hid J;obtain⟨eS,e3,eT,e4,e5,eU⟩:=bc3 s.out;have b2:=hid hd;have cd:decide (0<(sb y rows).num)=true:=decide_eq_true ((zPs _).2 he);have ce:decide (0<(sb y rows).num.sign)=true:=decide_eq_true ((zPt _).2 he);have bd:=hid (show ∀q∈sv nC y rows,mw q≤100000000 from fun q f=>Nat.le_trans (zPD Y.out m.out.sy rows.length (Nat.le_refl _) q f) (by rw[O.out];have:=ba.out;omega));clear hV J hP c hd he bf
    go_wp2_with fail
    with_reducible refine(Rt.int (-1) (by decide) (by decide) _).mono ?_
    rintro e x1 ⟨g6,A6,m6,c6,D6,md6,cd6,rfl,j,a⟩;have aF:=hid (zad a aC.out);have aE:=hid (zad a aD.out);have aw:=hid (zad a s.out);have dp:=hid (Z.out.below a);have co:=hid (al.out.below a);have HM:=hid (show RatS x1 g6 (.slice A6 m6 c6) (.slice D6 md6 cd6) ((-1:Int):Rat)from j);have az:=hid (aB.out.trans ((a).mono aB.out.size));obtain⟨fd,dw,fe,dx⟩:=bc2 aF.out;obtain⟨dy,du,dz,dv,dA,dr,dB,ds,dC,dt⟩:=bc5 aE.out;obtain⟨ev,eh,ez,el,eD,ed⟩:=bc3 aw.out;clear j a;go_wp2_with fail
    with_reducible refine(Vc.scale g6 A6 m6 c6 D6 md6 cd6 ((-1:Int):Rat) S nC cs (sv nC y rows) wS.heap.size _ dp.out HM.out a9.out bd.out (Nat.le_trans (zu9 _ (by constructor<;>decide)) (by decide))).mono ?_
    rintro e x2 ⟨T3,nt3,ct3,rfl,hv,a⟩;have ap:=hid (zad a aF.out);have au:=hid (zad a aE.out);have ax:=hid (zad a aw.out);have cr:=hid (co.out.below a);have g9:=hid (HM.out.below a);have a0:=hid (show VecS x2 x1.heap.size (.slice T3 nt3 ct3) (scale ((-1:Int):Rat) (sv nC y rows))from hv);have aA:=hid (az.out.trans ((a).mono az.out.size));obtain⟨dJ,dD,dK,dE⟩:=bc2 ap.out;obtain⟨dP,dY,dS,d1,dG,d4,ep,d7,es,ea⟩:=bc5 au.out;obtain⟨ew,ei,eA,em,eE,ee⟩:=bc3 ax.out;clear hv a;go_wp2_with fail
    with_reducible refine(Vc.below T3 nt3 ct3 _ x1.heap.size _ a0.out).mono ?_
    rintro e x3 ⟨rfl,a⟩;have aq:=hid (zad a ap.out);have ar:=hid (zad a au.out);have ay:=hid (zad a ax.out);have bH:=hid (cr.out.below a);have bk:=hid (a0.out.below a);have av:=hid (aA.out.trans ((a).mono aA.out.size));obtain⟨dL,dU,dN,dW⟩:=bc2 aq.out;obtain⟨dQ,dZ,dT,d2,dH,d5,eq,d8,et,eb⟩:=bc5 ar.out;obtain⟨ex,ej,eB,en,eF,ef⟩:=bc3 ay.out;clear a;rw[b2.out];go_wp2_with fail
    with_reducible refine(Rt.sign I E N H F M G (sb y rows) _ bH.out).mono ?_
    rintro e x4 ⟨rfl,a⟩;have aU:=hid (zad a aq.out);have aV:=hid (zad a ar.out);have aW:=hid (zad a ay.out);have dl:=hid (bH.out.below a);have bl:=hid (bk.out.below a);have aX:=hid (av.out.trans ((a).mono av.out.size));obtain⟨dM,dV,dO,dX⟩:=bc2 aU.out;obtain⟨dR,d0,dF,d3,dI,d6,er,d9,eu,ec⟩:=bc5 aV.out;obtain⟨ey,ek,eC,eo,eG,eg⟩:=bc3 aW.out;clear a;go_wp2;go_ret
    exact⟨rfl,aX.out⟩
   ·obtain⟨rfl,aP,cg,hf,dd,he⟩:=m.out.falls rfl;obtain rfl:0=u:=aZ.out.symm;obtain rfl:nC=nP:=by rw[b6.out,aP]
    obtain rfl:nC=nD:=by rw[b5.out,cg]
    have aC:=hid (zad c bZ.out);have aD:=hid (zad c b0.out);have bL:=hid (eQ.out.below c);have cl:=hid (bp.out.below c);have cm:=hid (eR.out.below c);have g2:=hid (iT.out.below c);have aB:=hid (aG.out.trans ((c).mono aG.out.size));obtain⟨eV,eZ,eW,e0⟩:=bc2 aC.out;obtain⟨eX,e1,eY,e2,e7,fa,e8,fb,e9,fc⟩:=bc5 aD.out;have s:=hid J;obtain⟨eS,e3,eT,e4,e5,eU⟩:=bc3 s.out;have b8:=hid aP;have c2:=hid cg;have b3:=hid hf;have fA:=hid dd;have cd:decide ((dot cost z).num<0)=true:=decide_eq_true ((zvc _).2 he)
    have ce:decide ((dot cost z).num.sign<0)=true:=decide_eq_true ((zQE _).2 he);clear hV J hP c aP cg hf dd he;have bb:=hid (show Sm cost from fun q f=>Nat.le_trans (v.out.sc q f) (by decide));have cZ:=hid (show Sm z from fun q f=>Nat.le_trans (m.out.sz q f) (by decide));have fx:=hid (show cost.length=z.length by rw[c2.out,aY.out]);have fS:=hid (show x.length=z.length by rw[c2.out,b8.out]);have a4:nC≤1000:=by have:=v.out.hc;omega
    have bx:nR≤1000:=by have:=ba.out;omega
    go_wp2_with fail
    all_goals
     refine zaS (S:=fun w'=>w'.cell? ⟨w3.heap.size,1,none⟩=some (.slice P nC cP)∧w'.cell? ⟨w3.heap.size,3,none⟩=some (.slice D nC cD)) [] (h:=fun hHeld=>?_);refine zaw [0,1,3,4] ?_;repeat refine tkL (hS:=hHeld) (h:=?_)
     refine zao ?_;refine zaB 2 (h:=fun K r=>?_);go_simp
     (go_at_call 27;(with_reducible refine(Rt.int 1000 (by decide) (by decide) _).mono ?_);rintro e x1 ⟨g6,A6,m6,c6,D6,md6,cd6,rfl,j,a⟩;have aF:=hid (zad a aC.out);have aE:=hid (zad a aD.out);have aw:=hid (zad a s.out);have bM:=hid (bL.out.drew.below a);have bR:=hid (cl.out.drew.below a);have bo:=hid (cm.out.drew.below a);have dq:=hid (g2.out.drew.below a);have HM:=hid (show RatS x1 g6 (.slice A6 m6 c6) (.slice D6 md6 cd6) ((1000:Int):Rat)from j);have az:=hid (aB.out.trans ((It.bdrew0' a).mono aB.out.size));obtain⟨fd,dw,fe,dx⟩:=bc2 aF.out;obtain⟨dy,du,dz,dv,dA,dr,dB,ds,dC,dt⟩:=bc5 aE.out;obtain⟨ev,eh,ez,el,eD,ed⟩:=bc3 aw.out;clear j a)
     (try go_wp2_with fail)
     refine r.out _ _ kp fun hHeld=>?_
     clear r K;try simp only[Act.put,pu1,pu2,pu3,pu4,pu5,pu6]
     refine zaB 5 (h:=fun K r=>?_);go_simp
     (go_at_call 35;(with_reducible refine(zMp P nC cP x g6 A6 m6 c6 D6 md6 cd6 ((1000:Int):Rat) D nC cD z 0 0 _ bo.out HM.out dq.out fS.out a9.out (fun q f=>Nat.le_trans (m.out.sx q f) (by decide)) (Nat.le_trans yaU (by decide)) (fun q f=>Nat.le_trans (cZ.out q f) (by decide))).mono ?_);rintro e x2 ⟨T3,nt3,ct3,rfl,hv,a⟩;have ap:=hid (zad a aF.out);have au:=hid (zad a aE.out);have ax:=hid (zad a aw.out);have bN:=hid (bM.out.below a);have bS:=hid (bR.out.below a);have ct:=hid (bo.out.below a);have g8:=hid (dq.out.below a);have g9:=hid (HM.out.below a);have a0:=hid (show VecS x2 0 (.slice T3 nt3 ct3) (zly x ((1000:Int):Rat) z)from(hv.base (Nat.zero_le _)));have aA:=hid (az.out.trans ((a).mono az.out.size));obtain⟨dJ,dD,dK,dE⟩:=bc2 ap.out;obtain⟨dP,dY,dS,d1,dG,d4,ep,d7,es,ea⟩:=bc5 au.out;obtain⟨ew,ei,eA,em,eE,ee⟩:=bc3 ax.out;clear hv a)
     (try go_wp2_with fail)
     refine r.out _ _ kp fun hHeld=>?_
     clear r K;try simp only[Act.put,pu1,pu2,pu3,pu4,pu5,pu6]
     refine zaw [6,7,8,9,10] ?_;repeat refine tkL (hS:=hHeld) (h:=?_)
     refine zao ?_;refine zaM (h:=?_);go_wp2_with fail
     with_reducible refine(zPu C nC cC R nR cR cost rows D nC cD z _ bN.out bS.out g8.out fx.out a4 bb.out cZ.out).mono ?_
     rintro e x3 ⟨g7,A7,m7,c7,D7,md7,cd7,rfl,j,a⟩;have aq:=hid (zad a ap.out);have ar:=hid (zad a au.out);have ay:=hid (zad a ax.out);have bO:=hid (bN.out.below a);have bT:=hid (bS.out.below a);have bE:=hid (ct.out.below a);have bk:=hid (a0.out.below a);have b1:=hid (show RatS x3 g7 (.slice A7 m7 c7) (.slice D7 md7 cd7) (dot cost z)from j);have av:=hid (aA.out.trans ((a).mono aA.out.size));obtain⟨dL,dU,dN,dW⟩:=bc2 aq.out;obtain⟨dQ,dZ,dT,d2,dH,d5,eq,d8,et,eb⟩:=bc5 ar.out
     obtain⟨ex,ej,eB,en,eF,ef⟩:=bc3 ay.out;clear j a;have am:=zae x3 (.cells #[.bool g7,.slice A7 m7 c7,.slice D7 md7 cd7] 35);have aU:=hid (zad am aq.out);have aV:=hid (zad am ar.out);have aW:=hid (zad am ay.out);have bP:=hid (bO.out.below am);have bU:=hid (bT.out.below am);have bW:=hid (bE.out.below am);have bl:=hid (bk.out.below am);have cn:=hid (b1.out.below am);have aX:=hid (av.out.trans ((am).mono av.out.size));obtain⟨dM,dV,dO,dX⟩:=bc2 aU.out
     obtain⟨dR,d0,dF,d3,dI,d6,er,d9,eu,ec⟩:=bc5 aV.out;obtain⟨ey,ek,eC,eo,eG,eg⟩:=bc3 aW.out;have KV:=hid (zal x3 #[.bool g7,.slice A7 m7 c7,.slice D7 md7 cd7] 35);obtain⟨gR,gy,gU,gB,gX,gE⟩:=bc3 KV.out;go_wp2_with fail
     with_reducible refine(Pb.fits C nC cC R nR cR cost rows P nC cP x _ bP.out bU.out bW.out a4 Y.out m.out.sx bx).mono ?_
     rintro e x4 ⟨rfl,a⟩;have bh:=hid (zad a aU.out);have bi:=hid (zad a aV.out);have bm:=hid (zad a aW.out);have bn:=hid (zad a KV.out);have bQ:=hid (bP.out.below a);have bV:=hid (bU.out.below a);have cu:=hid (bW.out.below a);have bG:=hid (bl.out.below a);have bF:=hid (cn.out.below a);have bj:=hid (aX.out.trans ((a).mono aX.out.size));obtain⟨h7,hA,h8,hE⟩:=bc2 bh.out;obtain⟨ia,hJ,ib,ht,ic,hx,hQ,hZ,hR,h4⟩:=bc5 bi.out;obtain⟨gO,gv,gP,gw,gQ,gx⟩:=bc3 bm.out;obtain⟨gS,gz,gV,gC,gY,gF⟩:=bc3 bn.out
     clear a;rw[b3.out];go_wp2_with fail
     with_reducible refine(Pb.fits C nC cC R nR cR cost rows T3 nt3 ct3 (zly x ((1000:Int):Rat) z) _ bQ.out bV.out bG.out a4 Y.out m.out.sw bx).mono ?_
     rintro e x5 ⟨rfl,a⟩;have bC:=hid (zad a bh.out);have bD:=hid (zad a bi.out);have bI:=hid (zad a bm.out);have bJ:=hid (zad a bn.out);have g1:=hid (bQ.out.below a);have hh:=hid (bV.out.below a);have gu:=hid (cu.out.below a);have gM:=hid (bG.out.below a);have dk:=hid (bF.out.below a);have bK:=hid (bj.out.trans ((a).mono bj.out.size));obtain⟨hC,hD,hG,hH⟩:=bc2 bC.out;obtain⟨hL,hM,hu,hw,hy,hz,h0,h3,h5,h6⟩:=bc5 bD.out;obtain⟨hT,hY,hU,hN,hX,hO⟩:=bc3 bI.out;obtain⟨gT,gA,gW,gD,gZ,gG⟩:=bc3 bJ.out
     clear a;rw[fA.out];go_wp2_with fail
     with_reducible refine(Rt.sign g7 A7 m7 c7 D7 md7 cd7 (dot cost z) _ dk.out).mono ?_
     rintro e x6 ⟨rfl,a⟩;have gH:=hid (zad a bC.out);have gI:=hid (zad a bD.out);have gJ:=hid (zad a bI.out);have hi:=hid (zad a bJ.out);have g0:=hid (bK.out.trans ((a).mono bK.out.size));obtain⟨ko,j7,kq,j8⟩:=bc2 gH.out;obtain⟨kr,ka,ks,kb,kt,kc,ku,ke,kv,kf⟩:=bc5 gI.out;obtain⟨kw,kg,kx,kh,ky,ki⟩:=bc3 gJ.out;obtain⟨kA,kk,kC,km,kE,j0⟩:=bc3 hi.out;clear a;go_wp2;go_ret
     exact⟨rfl,g0.out⟩
