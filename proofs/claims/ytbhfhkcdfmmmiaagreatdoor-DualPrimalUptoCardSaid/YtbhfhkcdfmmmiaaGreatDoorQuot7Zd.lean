/- Contracts and lemmas: Quot7 Quot10 Gcd1 Gcd2 Int1. Conditions: as each says. -/
import Derived.Test.YtbhfhkcdfmmmiaaGreatDoorQuot1Zd
import Derived.Deep.LoopGhost
set_option linter.all false
set_option maxHeartbeats 10000000
set_option maxRecDepth 100000
namespace Go.Proofs.YtbhfhkcdfmmmiaaGreatDoor
open Go.RowKit Am
open Lib (hid)
attribute [local go_sem ↓] Go.wp_at_zero Go.wp_at_succ
variable {b c c' m m' n x y:Nat}{A B:OA}{v:Value}{w w' wr:World}
namespace Qt
theorem zJH(s:Value)(xs:List Nat)(w:World)(a:SW w s xs):Calls Tryz.prog 129 #[.agg #[s]] w fun e w'=>e=.returned (xs.length:Int)∧Below w.heap.size w w' :=
 (Nt.len s xs w a).mono fun e w' h=>⟨h.1,by rw[h.2];exact zae w _⟩
theorem zBr(s:Value)(xs:List Nat)(k x:Nat)(K:Int)(a:K=(k:Int))(w:World)(b:SW w s xs)(c:wd xs k=x):Calls Tryz.prog 145 #[.agg #[s],.int .i64 K] w fun e w'=>e=.returned (.int .u64 (x:Int))∧Below w.heap.size w w':=by
 subst a;exact(Nt.word s xs k (Int.natCast_nonneg _) w b).mono fun e w' h=>⟨by rw[h.1,←c];rfl,by rw[h.2];exact zae w _⟩
theorem zH4(x s:Nat)(c:x<18446744073709551616)(b:64-blen x=s)(w:World):Calls Tryz.prog 153 #[.int .u64 x] w fun e w'=>e=.returned (s:Int)∧Below w.heap.size w w' :=
 (Word.lead x c w).mono fun e w' h=>by
  obtain⟨h1,n,a⟩:=h;exact⟨by rw[h1,b],by rw[a];exact zap w n⟩
theorem zvm(W:World)(g n c k:Nat)(K:Int)(b:K=(k:Int))(h1:k≤c)(a:0<c) :
  (Instr.slice 43 (g,n,c) none (some (.int .i64 K)) none).run Tryz.prog W=.ok (g,k,c) W:=by
 subst b;exact Pr.run_upto W g n c k h1 a
theorem ztS{V a W b:World}{f i:Value}{xs:List Nat}{H:Nat}(o:Below V.heap.size V a)(s:(wcells xs).length=m)(c:b.ownsRow H 184 1 i (n+2) (wcells (xs++[0,0])))(q:W.grownBy b f.ownBlock)
  (l:W.ownsRow H 184 1 f n (wcells xs)) (d:Below a.heap.size a W) (t:n+([0,0]:List Nat).length=n+2) (e:V.heap.size≤a.heap.size) (j:V.heap.size≤H) :
  ∃g p,i=.slice (some ⟨g,0,none⟩) (n+2) p∧n+2≤p∧V.heap.size≤g∧b.ownsRow H 184 1 (.slice (some ⟨g,0,none⟩) (n+2) p) (n+2) (wcells (xs++[0,0]))∧Below V.heap.size V b:=by
 obtain⟨g,p,rfl,r,hg⟩:=zxt c (by omega);refine⟨g,p,rfl,r,by omega,c,?_⟩;exact(o.trans (d.mono e)).grown q (Nat.le_trans e d.size) (fun k hk=>Nat.le_trans j (l.lt k hk).1)
theorem zDD(u2 u1 u0 v1 v0:Nat)(w:World)(a:u2≤v1)(h1:u1<18446744073709551616)(h0:u0<18446744073709551616)(c:9223372036854775808≤v1)(f:v1<18446744073709551616)(d:v0<18446744073709551616) :
  Calls Tryz.prog 155 #[.int .u64 (u2:Int),.int .u64 (u1:Int),.int .u64 (u0:Int),.int .u64 (v1:Int),.int .u64 (v0:Int)] w fun e w'=>∃q:Nat,e=.returned (.int .u64 (q:Int))∧GuessIs u2 u1 u0 v1 v0 q∧Below w.heap.size w w' :=
 (guess u2 u1 u0 v1 v0 w a h1 h0 c f d).mono fun e w' h=>by
  obtain⟨⟨q,h1,a⟩,n,b⟩:=h;exact⟨q,h1,a,by rw[b];exact zap w n⟩
theorem zr4(A B:OA)(m c m' c' a b:Nat)(w:World)(ha:zas w (A,m,c) a)(hb:zas w (B,m',c') b)(R:¬wlen b≤1)(hle:b≤a)(cw:wlen a+1≤LIM) :
    Calls Tryz.prog 150 #[.agg #[(A,m,c)],.agg #[(B,m',c')]] w (zv4 w (a/b) (a%b) true):=by
  obtain⟨ys,hy,cn,cC,cy,hm⟩:=hb.words;subst hm;have HA:=hid ha;have bG:=hid hb;have HY:=hid hy;have eF:¬(ys.length:Int)≤1:=by omega
  have a6:=hid cy;have dh:=hid cC;clear ha hb hy cy cC;have W0:∃W,W=(((w.alloc (.cells #[(A,m,c)] 45)).alloc (.cells #[(B,ys.length,c')] 45)).alloc (.cells #[()] 45)).alloc (.cells #[()] 45):=⟨_,rfl⟩
  obtain⟨W,J⟩:=W0;have hz:W.heap.size=w.heap.size+1+1+1+1:=by rw[J];simp
  have i:W.cell? ⟨w.heap.size,0,none⟩=some (A,m,c):=by rw[J];exact cell_al (cell_al (cell_al (zax rfl rfl)))
  have k1:W.cell? ⟨w.heap.size+1,0,none⟩=some (B,ys.length,c'):=by rw[J];exact cell_al (cell_al (zax (by simp) rfl))
  have r2:W.heap[w.heap.size+1+1]? = some (.cells #[()] 45 (0,0)):=by rw[J];exact zak (zam (by simp))
  have r3:W.heap[w.heap.size+1+1+1]? = some (.cells #[()] 45 (0,0)):=by rw[J];exact zam (by simp)
  have hB:Below w.heap.size w W:=by rw[J];exact(((zae w _).alloc (by simp) _).alloc (by simp;omega) _).alloc (by simp;omega) _
  have F:=hid (HA.out.below hB);have NB:=hid (bG.out.below hB);have I:=hid (HY.out.below hB);have P:=hid r2;have Q:=hid r3;have C:=hid hB;have O:=hid hz;clear r2 r3 hB hz HA bG HY;go_enter Tryz.func150,Tryz.ntmps150;go_wp2_with fail
  rw[←J];clear J;refine(Nt.len (B,ys.length,c') ys _ I.out).mono ?_;rintro e w' ⟨rfl,rfl⟩;have i:=cell_al (ob:=.cells #[(B,ys.length,c')] 45) i;have k1:=cell_al (ob:=.cells #[(B,ys.length,c')] 45) k1;go_wp2_with fail
  refine(Nt.cmp A B m c ys.length c' a b _ (F.out.alloc _) (NB.out.alloc _)).mono ?_;rintro e l ⟨rfl,hb2⟩;have E:Below W.heap.size W l:=((zae W _).trans (hb2.mono (by simp)))
  have i:=zab hb2 i;have k1:=zab hb2 k1;have F:=hid (F.out.below E);have NB:=hid (NB.out.below E);have I:=hid (I.out.below E);have P:=hid (zad E P.out);have Q:=hid (zad E Q.out);have C:=hid (C.out.trans (E.mono (by have:=O.out;omega)));have O:=hid (show w.heap.size+4≤l.heap.size by have:=O.out;have:=E.size;omega);clear hb2 E
  have d2:¬ze9 (a:Int) (b:Int)<0:=by
    rcases Nat.lt_or_ge b a with h | h
    · rw[zea (by omega)];omega
    · rw[zgN (by omega)];omega
  obtain⟨cv,aF⟩:∃cv,cv=ze9 (a:Int) (b:Int):=⟨_,rfl⟩
  rw[←aF]at d2 ⊢;clear aF;go_wp2_with fail
  obtain⟨top,aI⟩:∃top,wd ys (ys.length-1)=top:=⟨_,rfl⟩
  obtain⟨s,hs⟩:∃s,64-blen top=s:=⟨_,rfl⟩
  have bW:=hid aI;have bT:=hid hs;obtain⟨L,bg⟩:∃L,ys.length=L+1:=⟨ys.length-1,by have:=a6.out;omega⟩
  have X:=hid (show(b*2^s<B64^(L+1)∧2^63*B64^L≤b*2^s)∧1≤L∧L+1≤wlen a by
    have h0:0<top:=by
      rw[←aI];exact Nat.pos_of_ne_zero (zoq cn (by omega))
    have h1:=zqo (L:=L) (top:=top) (s:=s) I.out.2 bg (by rw[←aI,bg];rfl) h0 hs;rw[dh.out]at h1;have h2:=a6.out;have h3:=zco hle;exact⟨h1,by omega,by omega⟩)
  clear bg;have dw:=hid (show top<18446744073709551616 by rw[←aI];exact zdM I.out.2 _);have dY:2≤ys.length:=by have:=a6.out;omega
  have db:=hid dY;have eG:ys.length≤9223372036854775807:=I.out.len_le;have ce:IntKind.i64.wrap ((ys.length:Int)-1)=((ys.length-1:Nat):Int):=by rw[IntWalk.i64_in _ (by omega)];omega
  have da:=hid ce;have aO:=hid (show wlen a≤LIM by omega);have bN:=hid cw;have dd:=hid hle;clear aI hs ce cw hle R;have HS:=hid (show ∀w',Below l.heap.size l w'→((w'.cell? ⟨w.heap.size,0,none⟩=some (A,m,c)∧w'.cell? ⟨w.heap.size+1,0,none⟩=some (B,ys.length,c'))∧Below l.heap.size l w')from fun w' h=>⟨⟨zab h i,zab h k1⟩,h⟩);go_cut[10] (fun eo wr=>eo=.int .i64 (s:Int)∧Below l.heap.size l wr)
  case first =>
    go_region_held3 (fun w'=>((w'.cell? ⟨w.heap.size,0,none⟩=some (A,m,c)∧w'.cell? ⟨w.heap.size+1,0,none⟩=some (B,ys.length,c'))∧Below l.heap.size l w'))
      ((refine HS.out _ ?_;repeat(first | exact Below.refl _ _ | exact(by assumption:_∧Below _ _ _).2 | with_reducible refine bdrew ?_ | with_reducible refine al2 ?_ _ | with_reducible refine set2 ?_ (by omega) | with_reducible refine zc1 ?_ (by assumption))))
      (first
        | (go_at_call 129;(with_reducible refine(zJH (B,ys.length,c') ys _ (I.out.below (by assumption:_∧Below _ _ _).2)).mono ?_);rintro e u1 ⟨rfl,R⟩;have ef:=R.size;(try simp at ef);have eH:l.heap.size≤u1.heap.size:=(by omega))
        | (go_at_call 145;(with_reducible refine(zBr (B,ys.length,c') ys (ys.length-1) top (IntKind.i64.wrap ((ys.length:Int)-1)) da.out _ (I.out.below (by assumption:_∧Below _ _ _).2) bW.out).mono ?_);rintro e u2 ⟨rfl,hb2⟩;have eg:=hb2.size;(try simp at eg);have eI:l.heap.size≤u2.heap.size:=(by omega))
        | (go_at_call 153;(with_reducible refine(zH4 top s dw.out bT.out _).mono ?_);rintro e u3 ⟨rfl,hb3⟩;have eh:=hb3.size;(try simp at eh);have eJ:l.heap.size≤u3.heap.size:=(by omega)))
    all_goals
      go_wp2;go_meet
      case rel=>exact⟨rfl,(by assumption:_∧Below l.heap.size l _).2⟩
  case rest =>
    obtain⟨rfl,g⟩:=hcut;rename World=>w3
    have i:=zab g i;have k1:=zab g k1;have F:=hid (F.out.below g);have NB:=hid (NB.out.below g);have I:=hid (I.out.below g);have P:=hid (zad g P.out);have Q:=hid (zad g Q.out);have C:=hid (C.out.trans (g.mono (by have:=O.out;omega)));have O:=hid (show w.heap.size+4≤w3.heap.size by have:=O.out;have:=g.size;omega);clear g HS
    have cJ:s<64:=by
      rw[←bT.out]
      have h0:0<top:=by
        rw[←bW.out];exact Nat.pos_of_ne_zero (zoq cn (by have:=db.out;omega))
      have:=zhl h0;omega
    have aw:=hid cJ;have cx:wlen b≤LIM:=Nat.le_trans (zco dd.out) aO.out;have dc:=hid cx;clear cJ cx;go_wp2_with fail
    refine(Nt.shl B ys.length c' b s _ NB.out aw.out dc.out).mono ?_;rintro e T ⟨Av,mv,cv',rfl,hv4,hb4⟩;have cW:=cell_al (ob:=.cells #[(Av,mv,cv')] 45) (zab hb4 i);have bY:=hid (hv4.alloc (.cells #[(Av,mv,cv')] 45));have E:Below w3.heap.size w3 (T.alloc (.cells #[(Av,mv,cv')] 45)):=hb4.trans (zae T _ |>.mono hb4.size);have b4:=hid (F.out.below E);have b3:=hid hb4.size;have HV:=hid E;clear hv4 hb4 E k1;go_wp2_with fail
    refine(Nt.shl A m c a s _ b4.out aw.out aO.out).mono ?_;rintro e y ⟨As,ms,cs,rfl,hs5,hb5⟩;have aD:Below w3.heap.size w3 (y.alloc (.cells #[(As,ms,cs)] 45)):=(HV.out.trans (hb5.mono HV.out.size)).trans ((zae y _).mono (Nat.le_trans HV.out.size hb5.size));have aY:Below (T.alloc (.cells #[(Av,mv,cv')] 45)).heap.size (T.alloc (.cells #[(Av,mv,cv')] 45)) (y.alloc (.cells #[(As,ms,cs)] 45)):=hb5.trans ((zae y _).mono hb5.size)
    have i:(y.alloc (.cells #[(As,ms,cs)] 45)).cell? ⟨w.heap.size,0,none⟩=some (A,m,c):=zab aY cW;have kv:(y.alloc (.cells #[(As,ms,cs)] 45)).heap[T.heap.size]? = some (.cells #[(Av,mv,cv')] 45 (0,0)):=zad aY (zam rfl);have ks:(y.alloc (.cells #[(As,ms,cs)] 45)).cell? ⟨y.heap.size,0,none⟩=some (As,ms,cs):=zax rfl rfl;have F:=hid (F.out.below aD);have NV:=hid (bY.out.below aY);have NS:=hid (hs5.alloc (.cells #[(As,ms,cs)] 45));have P:=hid (zad aD P.out)
    have Q:=hid (zad aD Q.out);have C:=hid (C.out.trans (aD.mono (by have:=O.out;omega)));have dD:=hid (show w.heap.size+4≤T.heap.size∧T.heap.size<y.heap.size∧(y.alloc (.cells #[(As,ms,cs)] 45)).heap.size=y.heap.size+1 by have:=O.out;have:=b3.out;have:=hb5.size;simp at this;simp;omega);have KV:=hid kv;clear cW aD aY hb5 hs5 kv bY b4 HV NB I O b3;go_wp2_with fail
    generalize hq1:T.heap.size=gv at *
    generalize hq2:y.heap.size=gs at *
    generalize y.alloc (.cells #[(As,ms,cs)] 45)=V at *
    clear hq1 hq2
    have bZ:=hid (show ∀k,(Value.slice Av mv cv').ownBlock=some k→k<V.heap.size by
      obtain⟨zs,hz,_⟩:=NV.out;exact fun k hk=>hz.block hk)
    obtain⟨d,cK,d1,d9,aE,d6⟩:=F.out.words;subst d6;obtain⟨xs,cL,d4,cB,bp,d8⟩:=NS.out.words;subst d8
    have cS:xs.length≤d.length+1:=by
      rw[bp,aE];have h1:=zdy a (2^s);have h2:wlen (2^s)≤1:=zdl (Nat.lt_of_le_of_lt (Nat.pow_le_pow_right (show 0<2 by decide) (Nat.le_of_lt_succ aw.out)) (by decide));omega
    have cT:d.length≤xs.length:=by
      rw[bp,aE];exact zco (Nat.le_mul_of_pos_right a (Nat.pow_pos (by decide)))
    have cl:d.length≤LIM:=by rw[aE];exact aO.out
    have SA:=hid cL;have SN:=hid cK;have aK:=hid aE;have dg:=hid cB;have dC:=hid cS;have bc:=hid cT;have a1:=hid cl;have SL:=hid (show xs.length≤LIM by have:=bN.out;omega);have dZ:d.length≤9223372036854775800:=by have:=zaP;omega
    have cZ:=hid (show IntKind.i64.wrap ((d.length:Int)+1)=((d.length+1:Nat):Int)by rw[IntWalk.i64_in _ (by omega)];omega);clear cK d1 d9 aE cL d4 cB bp cS cT cl;have ek:V.drew.cell? ⟨w.heap.size,0,none⟩=some (A,d.length,c):=i;have ej:(V.alloc (.cells #[.int .u64 0,.int .u64 0] 184)).drew.cell? ⟨w.heap.size,0,none⟩=some (A,d.length,c):=cell_al i;have em:V.drew.cell? ⟨gs,0,none⟩=some (As,xs.length,cs):=ks
    have el:(V.alloc (.cells #[.int .u64 0,.int .u64 0] 184)).drew.cell? ⟨gs,0,none⟩=some (As,xs.length,cs):=cell_al ks;have bh:Below V.heap.size V (V.alloc (.cells #[.int .u64 0,.int .u64 0] 184)).drew:=(zae V _).drew;go_cut[15] (fun ep wr=>∃(H cu:Nat),ep=(H,d.length+1,cu)∧d.length+1≤cu∧V.heap.size≤H∧wr.ownsRow H 184 1 (H,d.length+1,cu) (d.length+1) (wcells ((xs++[0,0]).take (d.length+1)))∧Wds xs∧Below V.heap.size V wr)
    case first =>
      go_region_law (first
        | (refine znT (by rfl) 146 Tryz.func146 (by kernel_rfl) (by rfl) _ _ (by rfl) _ (by rfl) (Nt.wordsF As xs.length cs xs _ (by first | exact SA.out.drew | exact (SA.out.alloc _).drew) SL.out) ?_;rintro e w6 ⟨A6,m6,c6,rfl,hO6,hW6,hb6⟩;refine ⟨_,rfl,?_⟩;
           have av:=hid hO6;have bD:=hid hb6.size;have c0:=hid (show V.heap.size≤w6.heap.size from(by first | exact Nat.le_trans (by simp) hb6.size));have dy:=hid hW6;have bC:=hid (show Below V.heap.size V w6 by first | exact(zap V 1).trans (hb6.mono (by first | exact Nat.le_refl _ | (simp;done))) | exact bh.trans (hb6.mono bh.size));
           have ei:=zab bC.out i;have eO:=cell_al (ob:=.cells #[.int .u64 0,.int .u64 0] 184) ei;try(have L6:∀j u,(wcells [0,0])[j]? = some u→w6.cell? ((⟨V.heap.size,0,none⟩:Addr).add j)=some u:=fun j u hu=>(Below.cell hb6 (World.block_lt_of_cell? (V.alloc (.cells #[.int .u64 0,.int .u64 0] 184)) _ (zH5 V V.heap.size rfl j u hu))).trans (zH5 V V.heap.size rfl j u hu)))
        | ((refine zo4 (by rfl) _ _ (by rfl) (by first | exact av.out.alloc _ | exact av.out) (by rfl) (by rfl) (xs:=[0,0]) (by rfl) (by first | exact zH5 _ _ (by rfl) | exact L6) (by have:=SL.out;have:=zaP;simp;omega) (by first | exact bD.out | exact Nat.le_trans bD.out (by simp)) ?_;rintro v7 w7 ch cq;have hq:=ztS bC.out av.out.1 ch cq (by first | exact av.out.alloc _ | exact av.out) (by first | exact zae _ _ | exact Below.refl _ _) (by rfl) c0.out (by first | exact Nat.le_refl _ | simp);obtain⟨H7,p7,rfl,eD,cb,aB,aZ⟩:=hq;have a7:=hid aB;have bE:=hid aZ;have c9:=hid cb;have eP:=zab aZ i;have dK:=hid (SN.out.below aZ);have cD:d.length+1≤p7:=(by have:=bc.out;omega);have eE:=fun W=>zvm W H7 (xs.length+2) p7 (d.length+1) (IntKind.i64.wrap ((d.length:Int)+1)) cZ.out cD (by omega);clear ch cq aB aZ cb))
        | (refine znT (by rfl) 129 Tryz.func129 (by kernel_rfl) (by rfl) _ _ (by rfl) _ (by rfl) (zJH (A,d.length,c) d _ dK.out) ?_;rintro e w8 ⟨rfl,hb8⟩;refine⟨_,rfl,?_⟩;have bF:=hid hb8;clear hb8))
      all_goals
        go_wp2;go_meet
        case rel=>exact⟨H7,p7,rfl,cD,c9.out,zxv (zfF a7.out bF.out) (by have:=bc.out;omega),dy.out,bE.out.trans (bF.out.mono bE.out.size)⟩
    case rest =>
      obtain⟨H,cu,rfl,d3,cd,hO,ci,g⟩:=hcut;rename World=>Y
      have KV:=hid (zad g KV.out);have i:=zab g i;have F:=hid (SN.out.below g);have NV:=hid (NV.out.below g);have P:=hid (zad g P.out);have Q:=hid (zad g Q.out);have C:=hid (C.out.trans (g.mono C.out.size));have HO:=hid hO;have dB:=hid ci;have dt:=hid (show V.heap.size≤H∧V.heap.size≤Y.heap.size by exact⟨cd,g.size⟩);clear g hO ci cd SA SN NS ek ej em el ks bh;obtain⟨vs,bm,aF,bj,ed,d7⟩:=NV.out.words;subst d7;have cA:=zxq bm.2 aF bj X.out.1.1 X.out.1.2;have SV:=hid bm;have ak:=hid cA
      have aT:=hid bj;have bk:=zA6 bc.out dC.out;rw[dg.out]at bk;have cR:Wds ((xs++[0,0]).take (d.length+1)):=(dB.out.append (by intro z hz;simp at hz;subst hz;decide)).take _;generalize (xs++[0,0]).take (d.length+1)=us at *
      have aQ:=hid bk;have dA:=hid cR;clear bm aF bj ed cA bk cR;have en:=zac KV.out 0;simp only[List.getElem?_toArray,List.getElem?_cons_zero]at en;go_wp2_with fail
      refine(Nt.len (Av,vs.length,cv') vs _ SV.out).mono ?_;rintro e w' ⟨rfl,rfl⟩;have i:=cell_al (ob:=.cells #[(Av,vs.length,cv')] 45) i;go_wp2_with fail
      refine(Nt.len (A,d.length,c) d _ (F.out.alloc _)).mono ?_;rintro e w' ⟨rfl,rfl⟩;have ee:vs.length≤d.length:=by have:=ak.out.1;have:=X.out.2.2;have:=aK.out;omega
      obtain⟨nq,ea⟩:∃nq,nq=d.length-vs.length+1:=⟨_,rfl⟩
      have au:=hid (show nq+vs.length=d.length+1 by omega);have cf:wrap64 (wrap64 ((d.length:Int)-(vs.length:Int))+1)=(nq:Int):=by unfold wrap64;omega
      have de:=hid cf;have eb:nq≤16*LIM:=by have:=a1.out;have:=zaP;omega
      have aP:=hid eb;clear ea cf ee;have cj:Below Y.heap.size Y ((Y.alloc (.cells #[(Av,vs.length,cv')] 45)).alloc (.cells #[(A,d.length,c)] 45)):=(zae Y _).alloc (by simp) _;generalize (Y.alloc (.cells #[(Av,vs.length,cv')] 45)).alloc (.cells #[(A,d.length,c)] 45)=Z at *
      have aa:=hid cj;clear cj i;go_wp2_with (at_make;go_must (refine zdz rfl _ _ rfl nq _ rfl rfl de.out aP.out Z.heap.size rfl ?_))
      intro w1 ho
      have hD:DS w w1 H Z.heap.size gv d.length nq cu us (List.replicate nq 0) vs Av cv' :=
        ⟨zfF (zfF HO.out aa.out) ho.bel,ho.own,zad ho.bel (zad aa.out KV.out),(SV.out.below aa.out).below ho.bel,zad ho.bel (zad aa.out P.out),zad ho.bel (zad aa.out Q.out),(C.out.trans (aa.out.mono C.out.size)).trans (ho.bel.mono (Nat.le_trans C.out.size aa.out.size))⟩
      have hF:DF w H Z.heap.size gv (Av,vs.length,cv'):=by
        have h1:=dt.out;have h2:=(HO.out.lt H rfl).2;have h3:=aa.out.size;have h4:=dD.out;exact⟨by omega,by omega,by omega,fun e=>by have:=bZ.out _ e;omega,fun e=>by have:=bZ.out _ e;omega⟩
      have HD:=hid hD;have U:=hid hF;clear ho hD hF;generalize Z.heap.size=G at *
      have hI:LdInv (a*2^s) (nval vs) us (List.replicate nq 0) nq:=by
        refine⟨dA.out,Wds.replicate nq,by rw[zbK,aQ.out.1];simp,?_,fun j _=>by rw[List.getD_eq_getElem?_getD,List.getElem?_replicate];split<;>rfl⟩;have h1:=zw3 (us:=us) (vs:=vs) (a:=a) (s:=s) (n:=d.length) (L:=L) aQ.out.2 aQ.out.1 (by rw[aK.out];exact zfD a) aw.out (by have:=X.out.2.2;have:=aK.out;omega) (by rw[aT.out];exact X.out.1.2);rw[show nq=d.length-L by have:=au.out;have:=ak.out.1;omega];exact h1
      have o:=hid hI;clear hI;go_wp2_with fail
      go_loopw [18] (fun kv wr=>∃(k:Nat) (f qs:List Nat),kv=.int .i64 ((k:Int)-1)∧k≤nq∧f.length=d.length+1∧qs.length=nq∧LdInv (a*2^s) (nval vs) f qs k∧DS w wr H G gv d.length nq cu f qs vs Av cv')
        (fun kv _=>(intOf kv+1).toNat)
      case atStart =>
        have h1:wrap64 ((nq:Int)-1)=(nq:Int)-1:=by have:=aP.out;have:=zaP;unfold wrap64;omega
        exact⟨nq,us,List.replicate nq 0,by rw[h1],Nat.le_refl _,aQ.out.2,List.length_replicate,o.out,HD.out⟩
      case round =>
        obtain⟨k,f,qs,rfl,hk,cP,cH,hI,hD⟩:=hrel;have o:=hid hI;have HD:=hid hD;have N:=hid cP;have M:=hid cH;clear hI hD cP cH;rcases k with _ | k
        · have co:=unshift (a:=a) (b:=b) (s:=s) (q:=nval qs) (r:=nval f) (by have:=o.out.eq;rw[aT.out]at this;exact this) (by have:=o.out.lt;rw[List.drop_zero,aT.out]at this;exact this);have bK:=hid co
          have cI:wlen (nval f)≤LIM:=by
            have h1:=o.out.lt;rw[List.drop_zero,aT.out]at h1;have h2:wlen (nval f)≤L+1:=zaZ (Nat.lt_trans h1 X.out.1.1);have:=X.out.2.2;have:=aO.out;omega
          have ds:=hid cI;clear co cI;go_wp2_with fail
          refine(Nt.of _ qs _ (HD.out.swQ M.out o.out.wq).reads (by rw[M.out];have:=au.out;have:=ak.out.1;have:=a1.out;omega)).mono ?_;rintro e l ⟨A2,m2,c2,rfl,hq2,hb2⟩;have aL:=hid (HD.out.step hb2);have dm:=hid hq2;clear hq2 hb2;go_wp2_with fail
          refine(Nt.of _ f _ (aL.out.swU N.out o.out.wu).reads (by rw[N.out,aK.out];exact bN.out)).mono ?_;rintro e w3 ⟨A3,m3,c3,rfl,hr3,hb3⟩;have ar:=hid (aL.out.step hb3);have dn:=hid (dm.out.below hb3);have dq:=hid hr3;clear hr3 hb3;go_wp2_with fail
          refine(Nt.shr A3 m3 c3 (nval f) s _ dq.out aw.out ds.out).mono ?_;rintro e T ⟨A4,m4,c4,rfl,aH,hb4⟩;have D:=hid (ar.out.step hb4);have dp:=hid (dn.out.below hb4);have dr:=hid aH;clear aH hb4;have g3:=zac D.out.r2 0;have g4:=zag D.out.r2 0;have g5:=zac D.out.r3 0;have g6:=zag D.out.r3 0;simp only[List.getElem?_toArray,List.getElem?_cons_zero]at g3 g5;go_wp2
          refine bodyPost_ret (v:=.tuple #[.agg #[(A2,m2,c2)],.agg #[(A4,m4,c4)],true]) (by simp[results,Tryz.results150,go_sem,g3,g5]) rfl ?_;have cF:=dp.out;have aH:=dr.out;rw[bK.out.1]at cF;rw[bK.out.2]at aH;exact⟨_,_,_,_,_,_,rfl,zas.setBox (zas.setBox cF (Box.of D.out.r2)) (Box.set (Box.of D.out.r3)),zas.setBox (zas.setBox aH (Box.of D.out.r2)) (Box.set (Box.of D.out.r3)),bsc (bsc D.out.bel)⟩
        · have J:=zvB o.out.wu SV.out.2 o.out.lt (by have:=N.out;have:=au.out;omega);have aV:=hid J;have HK:=hid (show k+vs.length≤d.length by have:=au.out;omega);have e1:((k+1:Nat):Int)-1=(k:Int):=by omega
          simp only[e1];clear J e1;go_wp2_with fail
          have bo:2≤vs.length:=by have:=ak.out.1;have:=X.out.2.1;omega
          have d0:=dZ;obtain⟨x,bn⟩:∃t,t=k+vs.length:=⟨_,rfl⟩
          obtain⟨t1,cN⟩:∃t,t=k+vs.length-1:=⟨_,rfl⟩
          obtain⟨t0,cM⟩:∃t,t=k+vs.length-2:=⟨_,rfl⟩
          obtain⟨S,a0⟩:∃t,t=vs.length-1:=⟨_,rfl⟩
          obtain⟨m0,cz⟩:∃t,t=vs.length-2:=⟨_,rfl⟩
          have d5:=HK.out;have q2:x<d.length+1:=by omega
          have q1:t1<d.length+1:=by omega
          have q0:t0<d.length+1:=by omega
          have qk:k<nq:=by have:=au.out;omega
          have W2:=hid (show IntKind.i64.wrap ((k:Int)+(vs.length:Int))=(x:Int)by rw[IntWalk.i64_in _ (by omega)];omega);have W1:=hid (show IntKind.i64.wrap ((x:Int)-1)=(t1:Int)by rw[IntWalk.i64_in _ (by omega)];omega);have W0:=hid (show IntKind.i64.wrap ((x:Int)-2)=(t0:Int)by rw[IntWalk.i64_in _ (by omega)];omega);have X1:=hid (show IntKind.i64.wrap ((vs.length:Int)-1)=(S:Int)by rw[IntWalk.i64_in _ (by omega)];omega)
          have X0:=hid (show IntKind.i64.wrap ((vs.length:Int)-2)=(m0:Int)by rw[IntWalk.i64_in _ (by omega)];omega);have cp:wd f x≤wd vs S:=by rw[bn,a0];exact aV.out.top o.out.wu SV.out.2 bo
          have ct:9223372036854775808≤wd vs S:=by rw[a0,ak.out.1];exact ak.out.2
          have c8:=hid cp;have bL:=hid ct;have bU:=hid bn;have dv:=hid cN;have du:=hid cM;have bO:=hid a0;have df:=hid cz;have bX:=hid bo;have K:=hid qk;clear cp ct;have D0:DS w wr.drew H G gv d.length nq cu f qs vs Av cv':=HD.out.step (zap wr 1);have bH:=hid D0;have dT:=D0.cellU N.out q2;have dS:=D0.cellU N.out q1;have dR:=D0.cellU N.out q0;have cV:=D0.cellV;have i2:(x:Int)<(d.length:Int)+1:=by omega
          have i1:(t1:Int)<(d.length:Int)+1:=by omega
          have i0:(t0:Int)<(d.length:Int)+1:=by omega
          have ik:(k:Int)<(nq:Int):=by omega
          have dJ:=hid q2;have eu:=hid q1;have et:=hid q0;clear D0 bn cN cM a0 cz bo d5 q2 q1 q0 qk d0;have eT:=W2.out;have eS:=W1.out;have eR:=W0.out;have eX:=X1.out;have eW:=X0.out;have dG:=hid (zdM o.out.wu t1);have dF:=hid (zdM o.out.wu t0);have dI:=hid (zdM SV.out.2 S);have dH:=hid (zdM SV.out.2 m0);go_cut[] (fun es=>∃(q:Nat),GuessIs (wd f x) (wd f t1) (wd f t0) (wd vs S) (wd vs m0) q∧DS w es H G gv d.length nq cu f (qs.set k q) vs Av cv')
          case first =>
            have eB:H<G:=U.out.hg;have eC:gv<G:=Nat.lt_trans U.out.gh U.out.hg
            go_region_held3 (fun w'=>w'.cell? ⟨H,x,none⟩=some (.int .u64 ((wd f x:Nat):Int))∧w'.cell? ⟨H,t1,none⟩=some (.int .u64 ((wd f t1:Nat):Int))∧w'.cell? ⟨H,t0,none⟩=some (.int .u64 ((wd f t0:Nat):Int))∧w'.cell? ⟨gv,0,none⟩=some (Av,vs.length,cv'))
              (((try go_split_ands);(try simp only[World.cell?_drew]);(repeat' apply And.intro)<;>(first | assumption | exact zab R (by assumption) | exact zab hb2 (by assumption) | exact zab hb3 (by assumption) | exact cell_set (by omega) (by assumption))))
              (first
                | (go_at_call 145;(with_reducible refine(zBr (Av,vs.length,cv') vs S (wd vs S) (S:Int) rfl _ bH.out.sv rfl).mono ?_);rintro e y1 ⟨rfl,R⟩;have bI:=hid (bH.out.step R))
                | (go_at_call 145;(with_reducible refine(zBr (Av,vs.length,cv') vs m0 (wd vs m0) (m0:Int) rfl _ bI.out.sv rfl).mono ?_);rintro e y2 ⟨rfl,hb2⟩;have aL:=hid (bI.out.step hb2))
                | (go_at_call 155;(with_reducible refine(zDD (wd f x) (wd f t1) (wd f t0) (wd vs S) (wd vs m0) _ c8.out dG.out dF.out bL.out dI.out dH.out).mono ?_);rintro e y3 ⟨q,rfl,al,hb3⟩;have ar:=hid (aL.out.step hb3);have aN:=hid al;have cQ:=ar.out.cellQ M.out K.out;have fQ:=ar.out.q.frozenAt k;clear al))
            all_goals
              go_wp2;go_meet
              case rel=>exact⟨q,aN.out,ar.out.setQ U.out k q⟩
          case rest =>
            obtain⟨q,al,ca⟩:=hcut;rename World=>y4
            have cr:GuessIs (wd f (k+vs.length)) (wd f (k+vs.length-1)) (wd f (k+vs.length-2)) (wd vs (vs.length-1)) (wd vs (vs.length-2)) q:=by
              have:=al;rw[bU.out,dv.out,du.out,bO.out,df.out]at this;exact this
            have aN:=hid cr;have cG:q<18446744073709551616:=al.lt;have bQ:=hid cG;have D4:DS w y4.drew H G gv d.length nq cu f (qs.set k q) vs Av cv':=ca.step (zap y4 1);have D:=hid D4
            have dP:y4.drew.cell? ⟨G,k,none⟩=some (.int .u64 (q:Int)):=by
              have h:=D4.cellQ (by rw[List.length_set];exact M.out) K.out;have e:wd (qs.set k q) k=q:=by unfold wd;rw[zcU _ _ _ _ (by rw[M.out];exact K.out),if_pos rfl]
              rw[e]at h;exact h
            have dV:=D4.cellV;have dj:=hid (D4.outC N.out);have ap:=hid (show k+vs.length+1≤cu by have:=HK.out;omega);have b1:=hid (show IntKind.i64.wrap ((x:Int)+1)=((k+vs.length+1:Nat):Int)by have:=dJ.out;have:=bU.out;rw[IntWalk.i64_in _ (by omega)];omega);have aG:=fun W=>zvl W H (d.length+1) cu k (k+vs.length+1) (IntKind.i64.wrap ((x:Int)+1)) b1.out (by omega) ap.out (by have:=ap.out;omega)
            rw[show k+vs.length+1-k=vs.length+1 by omega]at aG;have a9:=hid (show k+vs.length<d.length+1 by have:=HK.out;omega);have dx:=hid (show vs.length+1≤cu-k by have:=ap.out;omega);have bV:=hid (show d.length+1≤2*LIM by have:=a1.out;have:=zaP;omega);have b0:=hid U.out.vh;clear al cr ca D4 cG dT dS dR cV d3;go_wp2_with fail
            go_region_with (go_at_call 156;(with_reducible refine(take y4.drew y4.drew H (d.length+1) cu k (cu-k) q f vs Av cv' dj.out D.out.sv b0.out o.out.wu bQ.out a9.out dx.out bV.out).mono ?_);rintro e y5 ⟨bb,us2,rfl,hbb,hO5,hw5,hs5,he5⟩;have di:=hid hO5;have aU:=hid hw5;have aR:=hid hs5;have a2:=hid he5;clear hO5 hw5 hs5 he5)
            all_goals
              have D5:=D.out.ofOut U.out di.out;have aM:=hid D5;have ba:=hid (show us2.length=d.length+1 by rw[aR.out.1];exact N.out);have a4:=hid (show k<qs.length by rw[M.out];exact K.out);have a5:=hid (show k≤f.length by rw[N.out];have:=a9.out;omega);have bM:=hid (show 9223372036854775808≤wd vs (vs.length-1)by rw[←bO.out];exact bL.out);clear D5 dP dV aG;rcases(show bb=0∨bb=1 by omega)with rfl | rfl
              · have cm:((0:Nat) == 1)=false:=rfl;simp only[cm];clear cm;have hR:=zqw (nq:=nq) o.out aV.out SV.out.2 bX.out a4.out a5.out bM.out aN.out aR.out aU.out a2.out;have HR:=hid hR;clear hR;go_wp2_with fail
                have h1:wrap64 ((k:Int)-1)=(k:Int)-1:=by have:=K.out;have:=aP.out;have:=zaP;unfold wrap64;omega
                exact⟨⟨k,us2,qs.set k q,by rw[h1],by have:=K.out;omega,ba.out,by rw[List.length_set];exact M.out,HR.out,aM.out⟩,by rw[h1];simp[intOf]⟩
              · have R:((1:Nat) == 1)=true:=rfl;simp only[R];clear R
                have cE:0<q:=by
                  rcases Nat.eq_zero_or_pos q with h | h
                  · subst h;have:=zo6 aV.out aU.out aR.out a5.out a2.out (Nat.le_refl 1) (by simp);omega
                  · exact h
                have dl:=hid (zdN cE bQ.out)
                have dQ:y5.cell? ⟨G,k,none⟩=some (.int .u64 (q:Int)):=by
                  have h:=aM.out.cellQ (by rw[List.length_set];exact M.out) K.out;have e:wd (qs.set k q) k=q:=by unfold wd;rw[zcU _ _ _ _ a4.out,if_pos rfl]
                  rw[e]at h;exact h
                have dW:=aM.out.q.frozenAt k;clear cE;go_wp2_with fail
                rw[dl.out];have D6:=aM.out.setQ U.out k (q-1);have c1:=hid D6;clear D6 dQ dW;generalize y5.setCell ⟨G,k,none⟩ (.int .u64 ((q-1:Nat):Int))=y6 at *
                have D7:DS w y6.drew H G gv d.length nq cu us2 ((qs.set k q).set k (q-1)) vs Av cv':=c1.out.step (zap y6 1);have bJ:=hid D7;have ew:=D7.cellV;have dk:=hid (D7.outC ba.out);have aG:=fun W=>zvl W H (d.length+1) cu k (k+vs.length+1) (IntKind.i64.wrap ((x:Int)+1)) b1.out (by omega) ap.out (by have:=ap.out;omega)
                rw[show k+vs.length+1-k=vs.length+1 by omega]at aG;clear D7;go_region_with (go_at_call 157;(with_reducible refine(back y6.drew y6.drew H (d.length+1) cu k (cu-k) us2 vs Av cv' dk.out bJ.out.sv b0.out aU.out a9.out bV.out).mono ?_);rintro e y7 ⟨us3,rfl,aB,hw8,hs8,cc,he8⟩;have a7:=hid aB;have dz:=hid hw8;have bS:=hid hs8;have c7:=hid he8;clear aB hw8 hs8 he8)
                all_goals
                  have D8:=bJ.out.ofOut U.out a7.out;have c5:=hid D8;have hR:=zsu (c:=cc) o.out aV.out SV.out.2 bX.out a4.out a5.out bM.out aN.out aR.out aU.out a2.out bS.out dz.out c7.out;have HR:=hid hR;clear hR D8 aG;go_wp2_with fail
                  have h1:wrap64 ((k:Int)-1)=(k:Int)-1:=by have:=K.out;have:=aP.out;have:=zaP;unfold wrap64;omega
                  exact⟨⟨k,us3,(qs.set k q).set k (q-1),by rw[h1],by have:=K.out;omega,by rw[bS.out.1];exact ba.out,by rw[List.length_set,List.length_set];exact M.out,HR.out.1,c5.out⟩,by rw[h1];simp[intOf]⟩
end Qt
namespace Qt
theorem zyj(A B:OA)(m c m' c' a b:Nat)(w:World)(d:zas w (A,m,c) a)(e:zas w (B,m',c') b)(f:0<b)(g:wlen a+1≤LIM) :
  Calls Tryz.prog 150 #[.agg #[(A,m,c)],.agg #[(B,m',c')]] w (zv4 w (a/b) (a%b) true):=by
 by_cases h1:wlen b≤1
 ·exact zr5 A B m c m' c' a b w d e f h1 (by omega)
 ·rcases Nat.lt_or_ge a b with h | h
  ·exact zpY A B m c m' c' a b w d e h1 h
  ·exact zr4 A B m c m' c' a b w d e h1 h g
theorem div(A B:OA)(m c m' c' a b:Nat)(w:World)(i:zas w (A,m,c) a)(d:zas w (B,m',c') b)(j:0<b)(k:wlen a+1≤LIM) :
  Calls Tryz.prog 142 #[.agg #[(A,m,c)],.agg #[(B,m',c')]] w (zjL w (a/b) true):=by
 have n:=hid i;have o:=hid d;have s:=hid k;have q:=hid j;clear i d k j;go_enter Tryz.func142,Tryz.ntmps142;go_wp2_with fail
 refine(zyj A B m c m' c' a b _ (((n.out.alloc _).alloc _).alloc _) (((o.out.alloc _).alloc _).alloc _) q.out s.out).mono ?_;rintro e l ⟨A1,m1,c1,A2,m2,c2,rfl,hq,hr,hb2⟩;have y:=hid ((hb2.block (w.heap.size+1+1) (by simp)).trans (zam (cs:=#[.slice none 0 0]) (t:=45) (by simp)));have x:=hb2.size;simp at x;have u:=hid hq;have r:=hid hb2;clear hq hr hb2
 have f:=hid (show((l.alloc (.cells #[(A1,m1,c1)] 45)).alloc (.cells #[(A2,m2,c2)] 45)).heap[w.heap.size+1+1]? = some (.cells #[()] 45 (0,0))from zak (zak y.out));have g:=zac f.out 0;have z:=zag f.out 0;simp only[List.getElem?_toArray,List.getElem?_cons_zero]at g;go_wp2;refine bodyPost_ret (v:=.tuple #[.agg #[(A1,m1,c1)],true]) (by simp[results,Tryz.results142,go_sem,g]) rfl ?_
 have d:Below w.heap.size w ((l.alloc (.cells #[(A1,m1,c1)] 45)).alloc (.cells #[(A2,m2,c2)] 45)):=(((((zae w _).alloc (by simp) _).alloc (by simp;omega) _).trans (r.out.mono (by simp;omega))).alloc (by omega) _).alloc (by simp;omega) _;exact⟨_,_,_,rfl,zas.setBox ((u.out.alloc _).alloc _) (Box.of f.out),bsc d⟩
theorem mod(A B:OA)(m c m' c' a b:Nat)(w:World)(i:zas w (A,m,c) a)(d:zas w (B,m',c') b)(j:0<b)(k:wlen a+1≤LIM) :
  Calls Tryz.prog 149 #[.agg #[(A,m,c)],.agg #[(B,m',c')]] w (zjL w (a%b) true):=by
 have n:=hid i;have o:=hid d;have s:=hid k;have q:=hid j;clear i d k j;go_enter Tryz.func149,Tryz.ntmps149;go_wp2_with fail
 refine(zyj A B m c m' c' a b _ (((n.out.alloc _).alloc _).alloc _) (((o.out.alloc _).alloc _).alloc _) q.out s.out).mono ?_;rintro e l ⟨A1,m1,c1,A2,m2,c2,rfl,hq,hr,hb2⟩;have y:=hid ((hb2.block (w.heap.size+1+1) (by simp)).trans (zam (cs:=#[.slice none 0 0]) (t:=45) (by simp)));have x:=hb2.size;simp at x;have u:=hid hr;have r:=hid hb2;clear hq hr hb2
 have f:=hid (show((l.alloc (.cells #[(A1,m1,c1)] 45)).alloc (.cells #[(A2,m2,c2)] 45)).heap[w.heap.size+1+1]? = some (.cells #[()] 45 (0,0))from zak (zak y.out));have g:=zac f.out 0;have z:=zag f.out 0;simp only[List.getElem?_toArray,List.getElem?_cons_zero]at g;go_wp2;refine bodyPost_ret (v:=.tuple #[.agg #[(A2,m2,c2)],true]) (by simp[results,Tryz.results149,go_sem,g]) rfl ?_
 have d:Below w.heap.size w ((l.alloc (.cells #[(A1,m1,c1)] 45)).alloc (.cells #[(A2,m2,c2)] 45)):=(((((zae w _).alloc (by simp) _).alloc (by simp;omega) _).trans (r.out.mono (by simp;omega))).alloc (by omega) _).alloc (by simp;omega) _;exact⟨_,_,_,rfl,zas.setBox ((u.out.alloc _).alloc _) (Box.of f.out),bsc d⟩
end Qt
namespace Gc
structure GS (w wr:World) (A:OA) (m c:Nat) (B:OA) (m' c' x y:Nat):Prop where
  ka:wr.heap[w.heap.size]? = some (.cells #[(A,m,c)] 45 (0,0))
  kb:wr.heap[w.heap.size+1]? = some (.cells #[(B,m',c')] 45 (0,0))
  kr:wr.heap[w.heap.size+1+1]? = some (.cells #[()] 45 (0,0))
  x:zas wr (A,m,c) x
  y:zas wr (B,m',c') y
  bel:Below w.heap.size w wr
theorem GS.step(h:GS w wr A m c B m' c' x y)(a:Below wr.heap.size wr w'):GS w w' A m c B m' c' x y :=
 ⟨zad a h.ka,zad a h.kb,zad a h.kr,h.x.below a,h.y.below a,h.bel.trans (a.mono h.bel.size)⟩
theorem GS.turn(h:GS w wr A m c B m' c' x y){C:OA}{a z:Nat}(f:zas wr (C,b,a) z) :
  GS w ((wr.setCell ⟨w.heap.size,0,none⟩ (B,m',c')).setCell ⟨w.heap.size+1,0,none⟩ (C,b,a)) B m' c' C b a y z:=by
 have d:=Box.of h.ka;have e:Box (wr.setCell ⟨w.heap.size,0,none⟩ (B,m',c')) (w.heap.size+1):=Box.set (Box.of h.kb);have k2:=(Below.heap_setCell wr ⟨w.heap.size,0,none⟩ (B,m',c') (w.heap.size+1) (by simp)).trans h.kb;refine⟨?_,one_setCell k2,?_,zas.setBox (zas.setBox h.y d) e,zas.setBox (zas.setBox f d) e,bsc (Below.setCell h.bel (p:=⟨w.heap.size,0,none⟩) (Nat.le_refl _) _)⟩
 ·exact(Below.heap_setCell _ ⟨w.heap.size+1,0,none⟩ _ w.heap.size (by simp)).trans (one_setCell h.ka)
 ·exact(Below.heap_setCell _ ⟨w.heap.size+1,0,none⟩ _ (w.heap.size+1+1) (by simp)).trans ((Below.heap_setCell _ ⟨w.heap.size,0,none⟩ _ (w.heap.size+1+1) (by simp;omega)).trans h.kr)
theorem of(A B:OA)(m c m' c' a b:Nat)(w:World)(D:zas w (A,m,c) a)(E:zas w (B,m',c') b)(G:wlen a+1≤LIM)(H:wlen b+1≤LIM) :
  Calls Tryz.prog 141 #[.agg #[(A,m,c)],.agg #[(B,m',c')]] w (zc0 w (Nat.gcd a b)):=by
 have Q:=hid D;have R:=hid E;have S:=hid G;have T:=hid H;clear D E G H;go_enter Tryz.func141,Tryz.ntmps141;go_wp2_with fail
 have X:=hid (show GS w (((w.alloc (.cells #[(A,m,c)] 45)).alloc (.cells #[(B,m',c')] 45)).alloc (.cells #[()] 45)) A m c B m' c' a b from
  ⟨zak (zak (zam rfl)),zak (zam (by simp)),zam (by simp),((Q.out.alloc _).alloc _).alloc _,((R.out.alloc _).alloc _).alloc _,((zae w _).alloc (by simp) _).alloc (by simp;omega) _⟩)
 generalize ((w.alloc (.cells #[(A,m,c)] 45)).alloc (.cells #[(B,m',c')] 45)).alloc (.cells #[()] 45)=w1 at *
 go_loopg [] b (fun Z wr=>∃(k:OA) (q o:Nat) (f:OA) (i g x y:Nat),GS w wr k q o f i g x y∧Nat.gcd x y=Nat.gcd a b∧wlen x+1≤LIM∧wlen y+1≤LIM∧y≤Z)
 case atStart=>exact⟨A,m,c,B,m',c',a,b,X.out,rfl,S.out,T.out,Nat.le_refl _⟩
 case round =>
  obtain⟨k,q,o,f,i,g,x,y,t,F,I,J,L⟩:=hrel;have r:=hid t;have z:=hid F;have U:=hid I;have C:=hid J;have Y:=hid L;have kb:=zac t.kb 0;simp only[List.getElem?_toArray,List.getElem?_cons_zero]at kb;clear t F I J L;rcases Nat.eq_zero_or_pos y with hy0 | hy0
  ·have M:isZ y=true:=by rw[hy0];rfl
   have n:=hid hy0;have d:=hid (r.out.step (zae wr (.cells #[(f,i,g)] 45)));have s:=zac d.out.ka 0;have P:=zac d.out.kr 0;have af:=zag d.out.kr 0;simp only[List.getElem?_toArray,List.getElem?_cons_zero]at s P;clear hy0;go_wp2_with (go_at_call 97;(with_reducible refine(Nt.zero (f,i,g) y _ r.out.y).mono ?_);rintro e w2 ⟨rfl,rfl⟩)
   refine bodyPost_ret (v:=.agg #[(k,q,o)]) (by simp[results,Tryz.results141,go_sem,P]) rfl ?_;have K:=d.out.x;have hg:=z.out;rw[n.out,Nat.gcd_zero_right]at hg;rw[hg]at K;exact⟨_,_,_,rfl,zas.setBox K (Box.of d.out.kr),bsc d.out.bel⟩
  ·have M:=zk4 hy0;have n:=hid hy0;have d:=hid (r.out.step (zae wr (.cells #[(f,i,g)] 45)));have s:=zac d.out.ka 0;have N:=zac d.out.kb 0;simp only[List.getElem?_toArray,List.getElem?_cons_zero]at s N;clear hy0
   go_wp2_with (first
    | (go_at_call 97;(with_reducible refine(Nt.zero (f,i,g) y _ r.out.y).mono ?_);rintro e w2 ⟨rfl,rfl⟩)
    | (go_at_call 149;(with_reducible refine(Qt.mod k f q o i g x y _ d.out.x d.out.y n.out U.out).mono ?_);rintro e j ⟨A3,m3,c3,rfl,hr,hb3⟩;have u:=hid (d.out.step hb3);have V:=hid hr;clear hr hb3))
   have l:Hid (GS w (j.alloc (.cells #[(A3,m3,c3)] 45)).drew k q o f i g x y):=hid (u.out.step ((zae j _).drew));have W:Hid (zas (j.alloc (.cells #[(A3,m3,c3)] 45)).drew (A3,m3,c3) (x%y)):=hid ((V.out.alloc _).drew);have ai:(j.alloc (.cells #[(A3,m3,c3)] 45)).drew.cell? ⟨j.heap.size,0,none⟩=some (A3,m3,c3):=zax rfl rfl;have ad:w.heap.size+3≤j.heap.size:=by
    have:=(Array.getElem?_eq_some_iff.1 u.out.kr).1;omega
   have aa:=zac l.out.ka 0;have ag:=zag l.out.ka 0;have O:=zac l.out.kb 0;have ab:=zag l.out.kb 0;simp only[List.getElem?_toArray,List.getElem?_cons_zero]at aa O;have aj:((j.alloc (.cells #[(A3,m3,c3)] 45)).setCell ⟨w.heap.size,0,none⟩ (f,i,g)).drew.cell? ⟨j.heap.size,0,none⟩=some (A3,m3,c3):=cell_set (by omega) (zax rfl rfl);have ae:(j.alloc (.cells #[(A3,m3,c3)] 45)).cell? ⟨w.heap.size+1,0,none⟩=some (f,i,g):=O
   have ah:(j.alloc (.cells #[(A3,m3,c3)] 45)).frozen? ⟨w.heap.size+1,0,none⟩=false:=ab;clear s N kb M;go_region
   all_goals
    go_wp2;go_roundg (x%y)
    case measure=>have:=Nat.mod_lt x n.out;have:=Y.out;omega
    case rel =>
     refine⟨f,i,g,A3,m3,c3,y,x%y,l.out.turn W.out,?_,C.out,?_,Nat.le_refl _⟩
     ·rw[←z.out,Nat.gcd_comm y,←Nat.gcd_rec,Nat.gcd_comm]
     ·have:=zco (Nat.le_of_lt (Nat.mod_lt x n.out));have:=C.out;omega
end Gc
namespace Gc
structure RS (w wr:World) (A:OA) (m c:Nat) (B:OA) (m' c' x y:Nat):Prop where
  ka:wr.heap[w.heap.size]? = some (.cells #[(A,m,c)] 45 (0,0))
  kb:wr.heap[w.heap.size+1]? = some (.cells #[(B,m',c')] 45 (0,0))
  k2:wr.heap[w.heap.size+1+1]? = some (.cells #[()] 45 (0,0))
  k3:wr.heap[w.heap.size+1+1+1]? = some (.cells #[()] 45 (0,0))
  x:zas wr (A,m,c) x
  y:zas wr (B,m',c') y
  bel:Below w.heap.size w wr
theorem RS.step(h:RS w wr A m c B m' c' x y)(a:Below wr.heap.size wr w'):RS w w' A m c B m' c' x y :=
 ⟨zad a h.ka,zad a h.kb,zad a h.k2,zad a h.k3,h.x.below a,h.y.below a,h.bel.trans (a.mono h.bel.size)⟩
theorem zx8(h:w.heap[b]? = some (.cells #[v] 45 (0,0))):w.cell? ⟨b,0,none⟩=some v:=zac h 0
theorem reduce(A B:OA)(m c m' c' a b:Nat)(w:World)(C:zas w (A,m,c) a)(D:zas w (B,m',c') b)(E:0<b)(F:wlen a+1≤LIM)(G:wlen b+1≤LIM) :
  Calls Tryz.prog 126 #[.agg #[(A,m,c)],.agg #[(B,m',c')]] w (zpo w (a/Nat.gcd a b) (b/Nat.gcd a b)):=by
 have J:=hid C;have K:=hid D;have o:=hid F;have q:=hid G;have j:=hid (Nat.gcd_pos_of_pos_right a E);clear C D F G E;go_enter Tryz.func126,Tryz.ntmps126;go_wp2_with fail
 have k:=hid (show RS w ((((w.alloc (.cells #[(A,m,c)] 45)).alloc (.cells #[(B,m',c')] 45)).alloc (.cells #[()] 45)).alloc (.cells #[()] 45)) A m c B m' c' a b from
  ⟨zak (zak (zak (zam rfl))),zak (zak (zam (by simp))),zak (zam (by simp)),zam (by simp),(((J.out.alloc _).alloc _).alloc _).alloc _,(((K.out.alloc _).alloc _).alloc _).alloc _,(((zae w _).alloc (by simp) _).alloc (by simp;omega) _).alloc (by simp;omega) _⟩)
 generalize (((w.alloc (.cells #[(A,m,c)] 45)).alloc (.cells #[(B,m',c')] 45)).alloc (.cells #[()] 45)).alloc (.cells #[()] 45)=W0 at *
 refine(of A B m c m' c' a b _ k.out.x k.out.y o.out q.out).mono ?_;rintro e w1 ⟨G1,mg,cg,rfl,hg1,hb1⟩;have M:=hid ((k.out.step hb1).step (zae w1 (.cells #[(G1,mg,cg)] 45)));have r:=hid (hg1.alloc (.cells #[(G1,mg,cg)] 45));have n:(w1.alloc (.cells #[(G1,mg,cg)] 45)).heap[w1.heap.size]? = some (.cells #[(G1,mg,cg)] 45 (0,0)):=zam rfl;have Q:=hid n;have aa:=zx8 n;clear hg1 hb1 n;have H:=zk4 j.out;go_wp2_with fail
 generalize w1.alloc (.cells #[(G1,mg,cg)] 45)=W1 at *
 generalize w1.heap.size=gb at *
 refine(Nt.zero (G1,mg,cg) (Nat.gcd a b) _ r.out).mono ?_;rintro e w' ⟨rfl,rfl⟩;rw[H];have l:=hid (M.out.step (zae W1 (.cells #[(G1,mg,cg)] 45)));have s:=hid (r.out.alloc (.cells #[(G1,mg,cg)] 45));have t:=hid (zad (zae W1 (.cells #[(G1,mg,cg)] 45)) Q.out);have Y:=zx8 t.out;have W:=zx8 l.out.ka;clear aa H;generalize W1.alloc (.cells #[(G1,mg,cg)] 45)=W2 at *
 go_wp2_with fail
 refine(Qt.div A G1 m c mg cg a (Nat.gcd a b) _ l.out.x s.out j.out o.out).mono ?_;rintro e g ⟨X3,m3,c3,rfl,hx3,hb3⟩;have i:=hid ((l.out.step hb3).step (zae g (.cells #[(X3,m3,c3)] 45)));have L:=hid ((s.out.below hb3).alloc (.cells #[(X3,m3,c3)] 45));have N:=hid (hx3.alloc (.cells #[(X3,m3,c3)] 45));have R:=hid (zad (zae g (.cells #[(X3,m3,c3)] 45)) (zad hb3 t.out))
 have I:(g.alloc (.cells #[(X3,m3,c3)] 45)).heap[g.heap.size]? = some (.cells #[(X3,m3,c3)] 45 (0,0)):=zam rfl;have S:=hid I;have Z:=zx8 R.out;have X:=zx8 i.out.kb;clear Y W I hx3 hb3;go_wp2_with fail
 generalize g.alloc (.cells #[(X3,m3,c3)] 45)=W3 at *
 generalize g.heap.size=xb at *
 refine(Qt.div B G1 m' c' mg cg b (Nat.gcd a b) _ i.out.y L.out j.out q.out).mono ?_;rintro e d ⟨Y4,m4,c4,rfl,hy4,hb4⟩;have f:Hid (RS w (d.alloc (.cells #[(Y4,m4,c4)] 45)).drew A m c B m' c' a b):=hid ((i.out.step hb4).step ((zae d _).drew));have O:Hid (zas (d.alloc (.cells #[(Y4,m4,c4)] 45)).drew (X3,m3,c3) (a/Nat.gcd a b)):=hid (((N.out.below hb4).alloc _).drew)
 have P:Hid (zas (d.alloc (.cells #[(Y4,m4,c4)] 45)).drew (Y4,m4,c4) (b/Nat.gcd a b)):=hid ((hy4.alloc _).drew);have ae:(d.alloc (.cells #[(Y4,m4,c4)] 45)).drew.cell? ⟨xb,0,none⟩=some (X3,m3,c3):=cell_al (zx8 (zad hb4 S.out));have af:(d.alloc (.cells #[(Y4,m4,c4)] 45)).drew.cell? ⟨d.heap.size,0,none⟩=some (Y4,m4,c4):=zax rfl rfl;have ad:w.heap.size+4≤d.heap.size:=by have:=(Array.getElem?_eq_some_iff.1 (zad hb4 i.out.k3)).1;omega
 have u:=zx8 f.out.k2;have g4:=zag f.out.k2 0;have z:=zx8 f.out.k3;have V:=zag f.out.k3 0;have T:(d.alloc (.cells #[(Y4,m4,c4)] 45)).cell? ⟨w.heap.size+1+1,0,none⟩=some ():=u;have U:(d.alloc (.cells #[(Y4,m4,c4)] 45)).cell? ⟨w.heap.size+1+1+1,0,none⟩=some ():=z;have ac:(d.alloc (.cells #[(Y4,m4,c4)] 45)).frozen? ⟨w.heap.size+1+1+1,0,none⟩=false:=V
 have ag:((d.alloc (.cells #[(Y4,m4,c4)] 45)).setCell ⟨w.heap.size+1+1,0,none⟩ (X3,m3,c3)).drew.cell? ⟨d.heap.size,0,none⟩=some (Y4,m4,c4):=cell_set (by omega) (zax rfl rfl);clear Z X hy4 hb4;go_wp2_with fail
 go_region
 all_goals
  go_wp2;refine bodyPost_ret (v:=.tuple #[.agg #[(X3,m3,c3)],.agg #[(Y4,m4,c4)]]) (by simp[results,Tryz.results126,go_sem,u,z,T,U]) rfl ?_;exact⟨_,_,_,_,_,_,rfl,zas.setBox (zas.setBox O.out (Box.of f.out.k2)) (Box.set (Box.of f.out.k3)),zas.setBox (zas.setBox P.out (Box.of f.out.k2)) (Box.set (Box.of f.out.k3)),bsc (bsc f.out.bel)⟩
end Gc
structure IntS (w:World) (g:Bool) (s:Value) (z:Int):Prop where
  abs:zas w s z.natAbs
  neg:g=decide (z<0)
theorem IntS.below{w w':World}{g:Bool}{s:Value}{z:Int}(h:IntS w g s z)(a:Below w.heap.size w w'):IntS w' g s z:=⟨h.abs.below a,h.neg⟩
theorem IntS.alloc{w:World}{g:Bool}{s:Value}{z:Int}(h:IntS w g s z)(o:Obj):IntS (w.alloc o) g s z:=⟨h.abs.alloc o,h.neg⟩
def zfg (w:World) (z:Int) (e:Ending) (w':World):Prop:=∃(g:Bool) (A:OA) (m c:Nat),e=.returned (.agg #[g,(A,m,c)])∧IntS w' g (A,m,c) z∧Below w.heap.size w w'
namespace It
theorem zBc(g:Bool)(n:Nat):(g && !isZ n)=decide ((if g then -(n:Int)else (n:Int))<0):=by
 unfold isZ;cases g
 ·simp
 ·by_cases h:n=0
  ·simp[h]
  ·simp[h];omega
theorem zlh{u:Value}{s:Value}(h:zas w s n)(a:w.heap[b]? = some (.cells #[false,()] 47 (0,0))):zas ((w.setCell ⟨b,0,none⟩ u).setCell ⟨b,1,none⟩ v) s n:=by
 have h1:=heap_setCell_same w b 0 _ 47 u a;exact(h.setCell (p:=⟨b,0,none⟩) a (by decide) u).setCell (p:=⟨b,1,none⟩) h1 (by decide) v
theorem new(g:Bool)(A:OA)(m c n:Nat)(w:World)(k:zas w (A,m,c) n) :
  Calls Tryz.prog 52 #[g,.agg #[(A,m,c)]] w (zfg w (if g then -(n:Int)else (n:Int))):=by
 have q:=hid (zBc g n);obtain⟨W,a⟩:∃W,W=(w.alloc (.cells #[(A,m,c)] 45)).alloc (.cells #[false,()] 47):=⟨_,rfl⟩
 have i:=hid (show zas W (A,m,c) n by rw[a];exact(k.alloc _).alloc _);have o:=hid i.out.drew;have j:=hid (show W.heap[w.heap.size]? = some (.cells #[(A,m,c)] 45 (0,0))by rw[a];exact zak (zam rfl));have b:=hid (show W.heap[w.heap.size+1]? = some (.cells #[false,()] 47 (0,0))by rw[a];exact zam (by simp));have f:=hid (show Below w.heap.size w W by rw[a];exact(zae w _).alloc (by simp) _)
 have x:W.drew.cell? ⟨w.heap.size,0,none⟩=some (A,m,c):=zac j.out 0;have y:(W.alloc (.cells #[(A,m,c)] 45)).drew.cell? ⟨w.heap.size,0,none⟩=some (A,m,c):=cell_al (zac j.out 0);have d:Hid ((W.alloc (.cells #[(A,m,c)] 45)).heap[w.heap.size+1]? = some (.cells #[false,()] 47 (0,0))):=hid (zak b.out);have t:W.cell? ⟨w.heap.size+1,0,none⟩=some (.bool false):=zac b.out 0;have u:W.cell? ⟨w.heap.size+1,1,none⟩=some ():=zac b.out 1
 have C:=zag b.out 0;have D:=zag b.out 1;have r:(W.alloc (.cells #[(A,m,c)] 45)).cell? ⟨w.heap.size+1,0,none⟩=some (.bool false):=zac d.out 0;have s:(W.alloc (.cells #[(A,m,c)] 45)).cell? ⟨w.heap.size+1,1,none⟩=some ():=zac d.out 1;have z:=zag d.out 0;have B:=zag d.out 1;clear k;have l:Hid (zas (W.alloc (.cells #[(A,m,c)] 45)) (A,m,c) n):=hid (i.out.alloc _);cases g
 case false =>
  go_enter Tryz.func52,Tryz.ntmps52;go_wp2_with fail
  rw[←a];clear a;go_region_with fail
  all_goals
   go_wp2;refine bodyPost_ret (v:=.agg #[false,(A,m,c)]) (by simp[results,Tryz.results52,go_sem,t,u]) rfl ?_;exact⟨false,A,m,c,rfl,⟨by simpa using(zlh i.out b.out).drew,by simp⟩,(bsc (bsc f.out)).drew⟩
 case true =>
  go_enter Tryz.func52,Tryz.ntmps52;go_wp2_with fail
  rw[←a];clear a;go_region_with (go_at_call 97;(with_reducible refine(Nt.zero (A,m,c) n _ o.out).mono ?_);rintro e E ⟨rfl,rfl⟩)
  all_goals
   go_wp2;refine bodyPost_ret (v:=.agg #[.bool (!isZ n),(A,m,c)]) (by simp[results,Tryz.results52,go_sem,r,s]) rfl ?_;exact⟨!isZ n,A,m,c,rfl,⟨by simpa using(zlh l.out d.out).drew,by have:=q.out;simpa using this⟩,(bsc (bsc (f.out.alloc f.out.size _))).drew⟩
