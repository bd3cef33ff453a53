/- Contracts and lemmas: Tb4 DuR PrR DuS PrN. Conditions: as each says. -/
import Derived.Test.YtbhfhkcdfmmmiaaGreatBasRZj
import Derived.Test.YtbhfhkcdfmmmiaaGreatDuBZj
import Derived.Test.YtbhfhkcdfmmmiaaGreatStdWZj
import Derived.Test.YtbhfhkcdfmmmiaaGreatBasNZj
set_option linter.all false
set_option maxHeartbeats 4000000
set_option maxRecDepth 100000
namespace Go.Proofs.YtbhfhkcdfmmmiaaGreat
open Go.RowKit Am Go.Proofs.Tryz
attribute [local go_sem ↓] Go.wp_at_zero Go.wp_at_succ
variable {A:List (List Rat)}{may:List Bool}{cols cs:List Nat}{b c:List Rat}{B N S f j k m n own:Nat}{w:World}
theorem zqq(h:j ∉ cols):(j:Int) ∉ cols.map fun(x:Nat)=>(x:Int):=by grind
theorem zhf.tkT{w':World}{H q:Nat}{C:List (List Rat)}{tb:Option Nat}(h:zhf w H q n S C tb)(hk:TKeep 200 w w'):zhf w' H q n S C tb:=h.tk hk (by decide) (by decide) (by decide) (by decide) (by decide) (by decide) (by decide)
section
variable {W0 w:World} {H q:Nat} {rA:OA} {rc:Nat} {lA:List Value} {bA:OA} {bc_:Nat} {kA:OA} {kc:Nat} {eA:OA} {ec m N S own:Nat} {A:List (List Rat)} {b c:List Rat} {left:List Int}
  {tA:OA} {tc:Nat} {cols:List Nat}
namespace Tb
theorem swap(h:zhi W0 w H q rA rc lA bA bc_ kA kc eA ec m N S own A b c left tA tc cols)(k j:Nat)(hk:k<m)(hj:j<N)(G:el (zav A cols j) k≠0)(aa:j ∉ cols)(W:zor m S≤LIM) :
  Calls prog 116 #[.pointer (some ⟨q,0,none⟩),(k:Int),(j:Int)] w fun e w'=>e=.returned .nilIface∧zhi W0 w' H q rA rc lA bA bc_ kA kc eA ec m N S own A b c left tA tc (cols.set k j)∧Below H w w'∧Kept TT (Value.slice tA m tc).ownBlock w w':=by
 obtain⟨qb,xA,xc,n⟩:=h;have a:=un n;have aH:=n.std.hm;have aE:=n.std.hN;have L:=un (Zg w.heap.size w);obtain⟨k0,_,f,_,_,_,_,_,_,_,_,_,k6,aJ,k7,_⟩:=bc9 n.blk;clear n;have O:=un hj;have HK:=un hk;have an:=un (show el (zes m (bc A cols) (zb4 A j)) k≠0 by have h:=G;unfold zav at h;rw[a.o.basis.len]at h;exact h);have s:=un (a.o.basis.swap hk hj G);have M:=un W;have ai:=un a.o.hle;have X:=Zu (zqq aa)
 have HD:=un X;have aF:(0:Int)≤(k:Int):=Zf _;have aG:(k:Int)<(m:Int):=by omega
 have h1:decide ((k:Int)<0)=false:=by simp
 have h2:decide (m≤k)=false:=by simp;omega
 obtain⟨d,ap,aq,ar⟩:=a.o.colsI.has (by omega);subst ap;have D:cols[k]? = some (cols[k]'(by rw[a.o.basis.len];exact hk)):=Ze _;generalize cols[k]'(by rw[a.o.basis.len];exact hk)=x0 at D;have ag:=un D;clear hj hk G aa W X D;go_enter func116,ntmps116;go_wp2_with fail
 with_reducible refine(Mt.col N m rc rA lA A 0 j _ a.o.stdN.rows a.o.std.rl O.o (by omega) (by omega)).mono ?_
 rintro e w1 ⟨B,n1,c1,rfl,hv1,hb⟩;have ac:=un (a.o.below hb);have P:=un (hv1);have ab:=un (L.o.trans ((hb).mono L.o.size));have aS:=zab hb k6;have aC:=zab hb k7;clear hv1 hb;obtain rfl:m=n1:=by rw[P.o.len,zbH,←a.o.std.rows.nlen]
 go_wp2_with fail
 with_reducible refine(Sl.has (some ⟨d,0,none⟩) m tc (cols.map fun(x:Nat)=>(x:Int)) (j:Int) H _ (ac.o.colsI.toZ)).mono ?_
 rintro e w2 ⟨rfl,hb⟩;have J:=un (ac.o.below hb);have aA:=un (P.o.below hb);have aB:=un (ab.o.trans ((hb).mono ab.o.size));have aT:=zab hb aC;clear hb;rw[HD.o];have v:=un (aB.o);go_wp2_with fail
 refine(Bs.replace H qb m S k (bc A cols) B c1 (zb4 A j) w.heap.size _ (some d) (fun g hg=>by injection hg with hg;subst hg;exact XL ar v.o.size) J.o.basO aA.o (by omega) HK.o (a.o.std.zcol O.o) a.o.std.hS an.o (ziY M.o)).mono ?_;rintro e I ⟨rfl,hs,hb,hkp⟩;have af:=un (show zhf I H qb m S (bc A (cols.set k j)) (some d)by rw[zq6];exact hs);have ad:=un ((v.o.mono ai.o).trans hb);have al:=un ((Kept.of_below v.o).trans hkp)
 have T:=un (hkp.blk J.o.blk (by decide) (by decide));have t:=un (hkp.ints (by decide) J.o.colsI (fun g _=>by simp));have z0:=t.o.at_ ag.o;have zf:=t.o.fro k;obtain⟨_,_,_,_,_,_,_,_,_,_,_,_,q6,_⟩:=bc9 T.o;clear hs hb hkp;go_upto_region 7 with fail
 go_cut[] (fun wy=>wy.heap[q]? = some (.cells #[(rA,m,rc),(N:Int),(bA,m,bc_),(kA,N,kc),(own:Int),(eA,m,ec),(d,m,tc),.pointer (some ⟨qb,0,none⟩),(xA,m,xc)] 200 (0,0))∧IntsS wy H (d,m,tc) (cols.set k j)∧zhf wy H qb m S (bc A (cols.set k j)) (some d)∧Below H w wy∧Kept TT (some d) w wy)
 case first=>as_aux_lemma =>
  go_wp2;go_meet;obtain⟨cs,E⟩:=t.o.blk;have f:TKeep 3 I (I.setCell ⟨d,k,none⟩ (j:Int)):=TKeep.set E _
  case rel=>exact⟨f.blk T.o (by decide),t.o.store k j,af.o.setI E _,ad.o.setCell (p:=⟨d,k,none⟩) aq _,(al.o.any (by decide)).trans (Kept.setInt E _)⟩
 case rest =>
  rename World=>wy
  obtain⟨F,Y,V,C,Z⟩:=hcut;have KQ:=un F;have aj:=un Y;have y:=un V;have ae:=un C;have am:=un Z;have z:=un (a.o.std.below (a.o.bel.trans (C.mono a.o.base)));obtain⟨_,_,_,_,_,_,_,_,p2,aw,_,_,_,_,_,_,_,_,_,_,_,_,_,_,_,_,_,_,p7,ax,_,_,_,ay,_⟩:=bf9 F;clear F Y V C Z;have R:=un y.o.hle;go_wp2_with fail
  refine zaS (S:=fun w'=>w'.cell? ⟨q,2,none⟩=some (bA,m,bc_)∧w'.cell? ⟨q,7,none⟩=some (.pointer (some ⟨qb,0,none⟩))) [16] (h:=fun hHeld=>?_);refine zaw [0,1,2,3,4,5,6,7,8,9] ?_;repeat refine tkL (hS:=hHeld) (h:=?_)
  refine zao ?_;refine zaB 10 (h:=fun K l=>?_);go_simp
  (go_at_call 125;(with_reducible refine(Bs.solve H qb m S S (bc A (cols.set k j)) bA bc_ b 0 _ (y.o.toS.drew) (z.o.B.drew) (by omega) z.o.zb z.o.hS (ziY M.o)).mono ?_);rintro e r ⟨X6,n6,c6,rfl,hv6,hb⟩;have Q:=un (show VecS r wy.heap.size (X6,n6,c6) (zes m (bc A (cols.set k j)) b)from hv6);have i:=un (It.bdrew0' hb);have u:=un (zad i.o KQ.o);have r2:=zab hb aw;have r7:=zab hb ax;have r8:=zab hb ay;have aP:=zag u.o 8;clear hv6 hb)
  (try go_wp2_with fail)
  refine shutOn l fun hHeld=>?_
  clear l K
  refine zaw [11,12] ?_;repeat refine tkL (hS:=hHeld) (h:=?_)
  refine zao ?_;refine zaw [13,14] ?_;repeat refine tkX (h:=?_)
  refine zao ?_;refine zaw [15] ?_;repeat refine tkL (hS:=hHeld) (h:=?_)
  refine zao ?_;refine zay 16 (h:=fun K l=>?_);go_simp;refine shutOff l ?_;clear l K
  refine zaM (h:=?_);obtain rfl:m=n6:=by rw[Q.o.len,(zci s.o.sq s.o.reg b).2]
  go_wp2;go_ret
  have f:TKeep 200 r (r.setCell ⟨q,8,none⟩ (X6,m,c6)):=TKeep.set u.o _;have U:Below H w (r.setCell ⟨q,8,none⟩ (X6,m,c6)):=(ae.o.trans (i.o.mono R.o)).setCell (p:=⟨q,8,none⟩) a.o.own_ _;refine⟨rfl,⟨qb,X6,c6,?_,a.o.std,a.o.bel.trans (U.mono a.o.base),a.o.base,(aj.o.below i.o).tk f (by decide),(y.o.below i.o).tkT f,?_,s.o,a.o.own_⟩,U,(am.o.below i.o).trans (Kept.set u.o (by decide) _)⟩
  ·have:=zar (o:=8) (X6,m,c6) u.o;simpa using this
  ·unfold za5;rw[s.o.len];exact(Q.o.base R.o).tk f (by decide) (by decide)
end Tb
end
def upN (i:Nat) (r:RunOut):RunOut:={ r with n:=r.n+i }
theorem zvf{next:List Nat→Am.Next}(h:next cols=.stop):pivs next f cols=⟨cols,none,0,false⟩:=by cases f<;>simp only[pivs,h]
theorem zxw{next:List Nat→Am.Next}(h:next cols=.bad k):pivs next f cols=⟨cols,some k,0,false⟩:=by cases f<;>simp only[pivs,h]
theorem zsr{next:List Nat→Am.Next}(h:next cols=.piv k j):pivs next 0 cols=⟨cols,none,0,true⟩:=by simp only[pivs,h]
theorem zxx{next:List Nat→Am.Next}(h:next cols=.piv k j):pivs next (f+1) cols=upN 1 (pivs next f (cols.set k j)):=by simp only[pivs,h];rfl
theorem zDR(i:Nat)(r:RunOut):upN i (upN 1 r)=upN (i+1) r:=by simp only[upN,Nat.add_assoc,Nat.add_comm 1 i]
abbrev zve:ByteArray:={ data:=#[112,105,118,111,116] }
theorem zvh(d:Basis m N A cols)(hm:m≤64)(f:zhg mw m S (bc A cols))(zA:∀r∈A,∀q∈r,mw q≤S)(hS:1≤S)(hc:c.length=N)(zc:∀x∈c,mw x≤S):∀q∈zaC N A cols c,mw q≤2*pB m S+2:=fun q e=>by
 unfold zaC at e;obtain⟨k,hk⟩:=Z0.1 e;unfold zly at hk;rw[List.getElem?_zipWith]at hk;cases ha:c[k]? with
 | none=>rw[ha]at hk;cases hk
 | some a =>
  cases hb:(byL N A (zcl A cols c))[k]? with
  | none=>rw[ha,hb]at hk;cases hk
  | some b =>
   rw[ha,hb]at hk;injection hk with hk;subst hk;have h1:=zc a (Zh ha);have g:=zt3 d.rect.len hm zA (znb d f hc zc) (zma m S S) hS b (Zh hb);have i:=zrI a (-1*b);have j:=zdI (-1) b;have l:mw (-1)≤1:=by rw[zhY];exact mw1
   unfold pB;omega
theorem zAX{r:Nat}(a:Basis m N A cols)(hm:m≤64)(e:zhg mw m S (bc A cols))(zA:∀r∈A,∀q∈r,mw q≤S)(hS:1≤S)(hr:r<m):∀q∈zk8 N A cols r,mw q≤2*pB m S+2:=fun q d=>by
 have:=zt3 a.rect.len hm zA (ziO a e hS hr) (zma m S S) hS q d;unfold pB;omega
theorem DPiv.o(a:Basis m N A cols)(p:DPiv m N A b c cols k j):j ∉ cols:=fun h=>by
 obtain⟨l,e⟩:=Z0.1 h;have f:l<m:=by rw[←a.len];grind
 have u:=(a.dic b).uni k l p.hk f
 rw[getD_some (d:=0) e]at u;have t:=p.t;rw[u]at t;split at t<;>grind
section
variable {W0 w:World} {H q:Nat} {rA:OA} {rc:Nat} {lA:List Value} {bA:OA} {bc_:Nat} {kA:OA} {kc:Nat} {eA:OA} {ec m N S own:Nat} {A:List (List Rat)} {b c:List Rat} {left:List Int}
  {tA:OA} {tc:Nat} {cols:List Nat}
namespace Du
theorem right(h:zhi W0 w H q rA rc lA bA bc_ kA kc eA ec m N S own A b c left tA tc cols)(M:OA)(f k:Nat)(may:List Bool)(hm:BoolsS w k (M,N,f) may)(n:zor m S≤LIM) :
  Calls prog 126 #[.pointer (some ⟨q,0,none⟩),(kA,N,kc),(M,N,f)] w fun e w'=>e=.returned (.bool (zdi (zaC N A cols c) may).isNone)∧Below w w w':=by
 have s:=un h;have r:=un hm;have p:=un n;obtain⟨qb,xA,xc,g⟩:=h;have o:=un g.stdN.C;have u:=un g.std.zc;clear g hm n;go_enter func126,ntmps126;go_wp2_with fail
 refine(Tb.prices s.o kA kc c 0 o.o u.o p.o).mono ?_;rintro e w1 ⟨A1,n1,c1,rfl,hv,hb⟩;have t:=un hv;have a:=un hb;clear hv hb;go_wp2_with fail
 refine(Pr.enter A1 n1 c1 (zaC N A cols c) w.heap.size M N f may k _ t.o (r.o.below a.o)).mono ?_;rintro e v ⟨rfl,hb⟩;have l:=un (a.o.trans (hb.mono a.o.size));clear hb;cases he:zdi (zaC N A cols c) may with
 | none =>
  have i:zbh none = -1:=rfl;rw[i];have d:=un (show(zdi (zaC N A cols c) may).isNone=true by rw[he];rfl);clear he;go_wp2;go_ret
  exact⟨by rw[d.o];rfl,l.o⟩
 | some j =>
  have i:zbh (some j)=(j:Int):=rfl;rw[i];have d:=un (show(zdi (zaC N A cols c) may).isNone=false by rw[he];rfl);clear he;go_wp2;go_ret
  exact⟨by rw[d.o];rfl,l.o⟩
def zCr (W0 w:World) (H q:Nat) (rA:OA) (rc:Nat) (lA:List Value) (bA:OA) (bc_:Nat) (kA:OA) (kc:Nat) (eA:OA) (ec m N S own:Nat) (A:List (List Rat)) (b c:List Rat) (left:List Int) (tA:OA) (tc:Nat) (r:RunOut) (e:Ending) (w':World):Prop :=
  ∃ ev,e = .returned (.tuple #[.int .i64 (zbh r.at_), .int .i64 (r.n:Int),ev]) ∧
    ((r.err=false∧ev=.nilIface)∨(r.err=true∧∃fb,ev=.iface 224 (.pointer (some ⟨fb,0,none⟩))∧w'.heap[fb]? = some (.cells #[.string zve,(r.n:Int),.iface 73 (.int .i64 180)] 226 (0,0)))) ∧
    zhi W0 w' H q rA rc lA bA bc_ kA kc eA ec m N S own A b c left tA tc r.cols∧Below H w w'∧Kept TT (Value.slice tA m tc).ownBlock w w'
theorem run(h:zhi W0 w H q rA rc lA bA bc_ kA kc eA ec m N S own A b c left tA tc cols)(M:OA)(B V:Nat)(hm:BoolsS w V (M,N,B) (List.replicate N true))(Q:zor m S≤LIM)(a:Int)(L:a≤9223372036854775807)(hr:zdi (zaC N A cols c) (List.replicate N true)=none) :
  Calls prog 85 #[.pointer (some ⟨q,0,none⟩),(kA,N,kc),(M,N,B),.int .i64 a] w (zCr W0 w H q rA rc lA bA bc_ kA kc eA ec m N S own A b c left tA tc (pivs (zbE N A b c (List.replicate N true)) a.toNat cols)):=by
 have HP:=un h;have HM:=un hm;have v:=un Q;have X:=un h.std.clen;have HR:=un (show(zdi (zaC N A cols c) (List.replicate N true)).isNone=true by rw[hr];rfl);have ax:=un h.hle;have aL:=zos Q;have aG:=un (show 16*(2*pB m S+2)+8≤LIM by omega);have ap:=un L;clear h hm Q hr aL L;obtain⟨l,T⟩:∃l,l=zbE N A b c (List.replicate N true):=⟨_,rfl⟩
 have x:=un T;rw[←T];clear T;go_enter func85,ntmps85;go_wp2_with fail
 refine(right HP.o M B V _ HM.o v.o).mono ?_;rintro e w1 ⟨rfl,hb⟩;have D:=un hb;clear hb;rw[HR.o];go_wp2
 go_loopw [11] (fun U wr=>∃(i:Nat) (cs:List Nat),U=.int .i64 i∧i≤a.toNat∧pivs l a.toNat cols=upN i (pivs l (a.toNat-i) cs)∧zhi W0 wr H q rA rc lA bA bc_ kA kc eA ec m N S own A b c left tA tc cs∧Below H w wr∧Kept TT (Value.slice tA m tc).ownBlock w wr)
  (fun U _=>a.toNat-(intOf U).toNat)
 case atStart=>exact⟨0,cols,rfl,Zb _,rfl,HP.o.below D.o,D.o.mono ax.o,Kept.of_below D.o⟩
 case round =>
  obtain⟨i,cs,rfl,hi,n,K,hB,hK⟩:=hrel;have I:=un K;have av:=un hB;have HK:=un hK;have y:=un n;have HI:=un hi;have p:=un K.basis;clear K hB hK n hi;go_wp2_with fail
  refine(leave I.o).mono ?_;rintro e v1 ⟨rfl,hb⟩;have r:=un (I.o.below hb);have W:=un (av.o.trans (hb.mono I.o.hle));have Z:=un (HK.o.below hb);clear hb;cases hlv:zi5 cs (za5 A b cs)with
  | none =>
   have d:=un (show pivs l a.toNat cols=⟨cs,none,i,false⟩by rw[y.o,zvf (by rw[x.o];unfold zbE;rw[hlv])];simp only[upN,Z2]);have f:zbh none = -1:=rfl;rw[f];clear hlv;go_wp2;go_ret3
   exact⟨_,by rw[d.o];rfl,by rw[d.o];exact .inl ⟨rfl,rfl⟩,by rw[d.o];exact r.o,W.o,Z.o⟩
  | some k =>
   have f:zbh (some k)=(k:Int):=rfl;rw[f];go_upto_region 5 with fail
   go_cut[28] (fun c u=>c=false∧u=v1)
   case first =>
    go_wp2;go_meet;exact⟨by simp,rfl⟩
   obtain⟨rfl,rfl⟩:=hcut;clear f;rename World=>v1
   have ao:k<m:=by
    have s:=zdk cs (za5 A b cs) (za5 A b cs).length;unfold zi5 at hlv;rw[hlv,(p.o.vals_ok b).2]at s;exact s.1
   have ab:=un ao;have ac:=un hlv;clear hlv ao;obtain⟨aR,aT,aU,g⟩:=r.o;have aw:=un g.stdN.C;have ak:=un g.std.zc;have ai:=un g.std.zA;have aj:=un g.bas.good.2.2;have Y:=un g.std.hS;have ae:=un g.std.hm;have aD:=un g.std.hN;clear g;go_wp2_with fail
   refine(Tb.prices r.o kA kc c 0 aw.o ak.o v.o).mono ?_;rintro e v2 ⟨A2,n2,c2,rfl,hv2,hb⟩;have aI:=un hv2;have J:=un (r.o.below hb);have aq:=un (W.o.trans (hb.mono r.o.hle));have aA:=un (Z.o.below hb);clear hv2 hb;go_wp2_with fail
   refine(Tb.line J.o k ab.o v.o).mono ?_;rintro e v3 ⟨A3,n3,c3,rfl,hv3,hb⟩;have aK:=un hv3;have aJ:=un (aI.o.below hb);have ah:=un (J.o.below hb);have ar:=un (aq.o.trans (hb.mono J.o.hle));have aa:=un (aA.o.below hb);clear hv3 hb;have aC:=un (HM.o.kept aa.o (by decide));go_wp2_with fail
   with_reducible refine(enter (2*pB m S+2) aG.o A2 n2 c2 (zaC N A cs c) v1.heap.size A3 n3 c3 (zk8 N A cs k) v2.heap.size M N B (List.replicate N true) _ aJ.o aK.o (by rw[Zr]) (by have:=aD.o;omega) aC.o.reads (zvh p.o ae.o aj.o ai.o Y.o X.o ak.o) (zAX p.o ae.o aj.o ai.o Y.o ab.o)).mono ?_
   rintro e o ⟨rfl,hb⟩;have z:=un (ah.o.below hb);have E:=un (ar.o.trans (hb.mono ah.o.hle));have F:=un (aa.o.below hb);clear hb;cases hen:zhy (zaC N A cs c) (zk8 N A cs k) (List.replicate N true)with
   | none =>
    have d:=un (show pivs l a.toNat cols=⟨cs,some k,i,false⟩by rw[y.o,zxw (k:=k) (by rw[x.o];unfold zbE;rw[ac.o];simp only[hen])];simp only[upN,Z2]);have f:zbh none = -1:=rfl;rw[f];clear hen;go_wp2;go_ret3
    exact⟨_,by rw[d.o];rfl,by rw[d.o];exact .inl ⟨rfl,rfl⟩,by rw[d.o];exact z.o,E.o,F.o⟩
   | some j =>
    have f:zbh (some j)=(j:Int):=rfl;rw[f];have R:l cs=.piv k j:=by rw[x.o];unfold zbE;rw[ac.o];simp only[hen]
    have n:=zwH p.o X.o (b:=b) (by rw[←x.o];exact R);have G:=un n;have af:=un R;have aE:=un (DPiv.o p.o n);have aP:(0:Int)≤(i:Int):=Zf _;clear hen R n;go_upto_region 10 with fail
    go_cut[47] (fun c u=>c=false∧u=o)
    case first =>
     go_wp2;go_meet;exact⟨by simp,rfl⟩
    obtain⟨rfl,rfl⟩:=hcut;clear f;rename World=>o
    go_upto_region 12 with fail
    go_cut[52] (fun c u=>c=.bool (decide (a≤(i:Int)))∧u=o)
    case first =>
     go_wp2;go_meet;exact⟨by simp,rfl⟩
    obtain⟨rfl,rfl⟩:=hcut;rename World=>o
    have hi:=HI.o;have L:=ap.o;by_cases aO:i<a.toNat
    ·have an:¬(i:Int)≥a:=by omega
     have O:¬a≤(i:Int):=by omega
     have P:=Zu O;rw[P];have aQ:(i:Int)<9223372036854775807:=by omega
     go_wp2_with fail
     refine(Tb.swap z.o k j G.o.hk G.o.hj (by have:=G.o.t;grind) aE.o v.o).mono ?_;rintro e v5 ⟨rfl,hT5,hb5,hk5⟩;have aH:=un hT5;have au:=un (E.o.trans hb5);have aB:=un (F.o.trans hk5);clear hT5 hb5 hk5;go_wp2;go_roundw
     case rel=>exact⟨i+1,cs.set k j,by go_num,by omega,by rw[y.o,show a.toNat-i=(a.toNat-(i+1))+1 by omega,zxx af.o,zDR],aH.o,au.o,aB.o⟩
     case measure=>simp[intOf];omega
    ·have an:(i:Int)≥a:=by omega
     have O:a≤(i:Int):=an;have P:=Zs O;rw[P];have d:=un (show pivs l a.toNat cols=⟨cs,none,i,true⟩by rw[y.o,show a.toNat-i=0 by omega,zsr af.o];simp only[upN,Z2]);go_wp2_with fail
     refine(Err.wrap 180 zve (i:Int) _).mono ?_;rintro e v5 ⟨rfl,rfl⟩;go_wp2;go_ret3
     exact⟨_,by rw[d.o];rfl,by rw[d.o];exact .inr ⟨rfl,_,rfl,zal _ _ _⟩,by rw[d.o];exact z.o.alloc _,E.o.trans (zae o _ |>.mono z.o.hle),F.o.below (zae o _)⟩
end Du
end
theorem z0n(a:Basis m N A cols)(f:zhg mw m S (bc A cols))(d:b.length=m)(zb:∀x∈b,mw x≤S):∀x∈za5 A b cols,mw x≤sB m S S:=by
 have e:=a.len;unfold za5;rw[e];exact zrD (zci a.sq a.reg _).2 (zo0 zo5 a.sq a.reg f fun i hi=>zrz zb (by rw[d];exact hi))
theorem zVc(a:Basis m N A cols)(e:zhg mw m S (bc A cols))(zc:∀q∈zb4 A j,mw q≤S):∀x∈zav A cols j,mw x≤sB m S S:=by
 have d:=a.len;unfold zav;rw[d];exact zrD (zci a.sq a.reg _).2 (zo0 zo5 a.sq a.reg e fun i hi=>zrz zc (by unfold zb4;rw[Zl,a.rect.len];exact hi))
theorem zVf{p:List Rat}(h:zdi p may=some j):j<p.length:=by
 have s:=zKj p may p.length 0;unfold zdi at h;rw[h]at s;have:=s.2.1;omega
theorem PPiv.o(a:Basis m N A cols)(hc:c.length=N)(p:PPiv m N A b c may cols k j):j ∉ cols:=fun h=>by
 obtain⟨l,e⟩:=Z0.1 h;have f:l<m:=by rw[←a.len];exact(Zm.1 e).1
 have z:=(a.pri hc).zero l f;rw[getD_some (d:=0) e]at z;have d:=p.d;rw[z]at d;grind
section
variable {W0 w:World} {H q:Nat} {rA:OA} {rc:Nat} {lA:List Value} {bA:OA} {bc_:Nat} {kA:OA} {kc:Nat} {eA:OA} {ec m N S own:Nat} {A:List (List Rat)} {b c:List Rat} {left:List Int}
  {tA:OA} {tc:Nat} {cols:List Nat}
namespace Pr
open Du (zCr)
theorem prun(h:zhi W0 w H q rA rc lA bA bc_ kA kc eA ec m N S own A b c left tA tc cols)(C:OA)(L Hc:Nat)(g:List Rat)(P:VecS w Hc (C,N,L) g)(zC:∀x∈g,mw x≤S)(M:OA)(Y O H':Nat)(may:List Bool)(hm:BoolsS w H' (M,Y,O) may)(V:zor m S≤LIM)(a:Int)(R:a≤9223372036854775807) :
  Calls prog 56 #[.pointer (some ⟨q,0,none⟩),(C,N,L),(M,Y,O),.int .i64 a] w (zCr W0 w H q rA rc lA bA bc_ kA kc eA ec m N S own A b c left tA tc (pivs (zBX N A b g may) a.toNat cols)):=by
 have HP:=un h;have HC:=un P;have aL:=un zC;have HM:=un hm;have E:=un V;have F:=un (P.len.symm);have am:=zos V;have aH:=un (show 16*sB m S S+8≤LIM by unfold pB at am;omega);have ap:=un R;clear h P zC hm V am R;obtain⟨l,X⟩:∃l,l=zBX N A b g may:=⟨_,rfl⟩
 have s:=un X;rw[←X];clear X;go_enter func56,ntmps56;go_wp2
 go_loopw [11] (fun Z wr=>∃(i:Nat) (cs:List Nat),Z=.int .i64 i∧i≤a.toNat∧pivs l a.toNat cols=upN i (pivs l (a.toNat-i) cs)∧zhi W0 wr H q rA rc lA bA bc_ kA kc eA ec m N S own A b c left tA tc cs∧Below H w wr∧Kept TT (Value.slice tA m tc).ownBlock w wr)
  (fun Z _=>a.toNat-(intOf Z).toNat)
 case atStart=>exact⟨0,cols,rfl,Zb _,rfl,HP.o,Zg _ _,Kept.refl _⟩
 case round =>
  obtain⟨i,cs,rfl,hi,n,Q,hB,hK⟩:=hrel;have K:=un Q;have av:=un hB;have G:=un hK;have u:=un n;have HI:=un hi;have p:=un Q.basis;have ax:=un (G.o.vec (by decide) (by decide) HC.o);have aE:=un (HM.o.kept G.o (by decide));clear Q hB hK n hi;go_wp2_with fail
  refine(Tb.prices K.o C L g Hc ax.o aL.o E.o).mono ?_;rintro e v1 ⟨A1,n1,c1,rfl,hv,hb⟩;have aJ:=un hv;have ah:=un (K.o.below hb);have aq:=un (av.o.trans (hb.mono K.o.hle));have az:=un (G.o.below hb);have aD:=un (aE.o.below hb);clear hv hb;go_wp2_with fail
  refine(Pr.enter A1 n1 c1 (zaC N A cs g) wr.heap.size M Y O may H' _ aJ.o aD.o).mono ?_;rintro e v2 ⟨rfl,hb⟩;have v:=un (ah.o.below hb);have ac:=un (aq.o.trans (hb.mono ah.o.hle));have af:=un (az.o.below hb);clear hb;cases hen:zdi (zaC N A cs g) may with
  | none =>
   have d:=un (show pivs l a.toNat cols=⟨cs,none,i,false⟩by rw[u.o,zvf (by rw[s.o];unfold zBX;rw[hen])];simp only[upN,Z2]);have f:zbh none = -1:=rfl;rw[f];clear hen;go_wp2;go_ret3
   exact⟨_,by rw[d.o];rfl,by rw[d.o];exact .inl ⟨rfl,rfl⟩,by rw[d.o];exact v.o,ac.o,af.o⟩
  | some j =>
   have f:zbh (some j)=(j:Int):=rfl;rw[f]
   have ad:=un hen;have ae:=un (show j<N by have:=zVf hen;rwa [zKp F.o]at this);clear hen;go_upto_region 6 with fail
   go_cut[33] (fun c r=>c=false∧r=v2)
   case first =>
    go_wp2;go_meet;exact⟨by simp,rfl⟩
   obtain⟨rfl,rfl⟩:=hcut;clear f;rename World=>v2
   go_wp2_with fail
   refine(Tb.column v.o j ae.o E.o).mono ?_;rintro e v3 ⟨A3,n3,c3,rfl,hv3,hb⟩;obtain rfl:n3=m:=by rw[hv3.len,(p.o.column_ok j).2]
   have aK:=un hv3;have y:=un (v.o.below hb);have ar:=un (ac.o.trans (hb.mono v.o.hle));have aA:=un (af.o.below hb);clear hv3 hb;go_wp2_with fail
   have ai:=un (show(∀x∈za5 A b cs,mw x≤sB n3 S S)∧(∀x∈zav A cs j,mw x≤sB n3 S S)by
    obtain⟨_,_,_,B⟩:=y.o;have hz:=B.bas.good.2.2;exact⟨z0n p.o hz B.std.blen B.std.zb,zVc p.o hz (B.std.zcol ae.o)⟩)
   refine(Tb.leave y.o (sB n3 S S) aH.o A3 c3 (zav A cs j) v2.heap.size aK.o ai.o.1 ai.o.2).mono ?_;rintro e o ⟨rfl,hb⟩;have z:=un (y.o.below hb);have D:=un (ar.o.trans (hb.mono y.o.hle));have I:=un (aA.o.below hb);clear hb;cases hlv:zDG cs (za5 A b cs) (zav A cs j)with
   | none =>
    have d:=un (show pivs l a.toNat cols=⟨cs,some j,i,false⟩by rw[u.o,zxw (k:=j) (by rw[s.o];unfold zBX;rw[ad.o];simp only[hlv])];simp only[upN,Z2]);have f:zbh none = -1:=rfl;rw[f];clear hlv;go_wp2;go_ret3
    exact⟨_,by rw[d.o];rfl,by rw[d.o];exact .inl ⟨rfl,rfl⟩,by rw[d.o];exact z.o,D.o,I.o⟩
   | some k =>
    have f:zbh (some k)=(k:Int):=rfl;rw[f]
    have W:l cs=.piv k j:=by rw[s.o];unfold zBX;rw[ad.o];simp only[hlv]
    have n:=zK6 p.o F.o (b:=b) (may:=may) (by rw[←s.o];exact W);have J:=un n;have ag:=un W;have aF:=un (PPiv.o p.o F.o n);have aR:(0:Int)≤(i:Int):=Zf _;clear hlv W n;go_upto_region 10 with fail
    go_cut[45] (fun c r=>c=false∧r=o)
    case first =>
     go_wp2;go_meet;exact⟨by simp,rfl⟩
    obtain⟨rfl,rfl⟩:=hcut;clear f;rename World=>o
    go_upto_region 12 with fail
    go_cut[50] (fun c r=>c=.bool (decide (a≤(i:Int)))∧r=o)
    case first =>
     go_wp2;go_meet;exact⟨by simp,rfl⟩
    obtain⟨rfl,rfl⟩:=hcut;rename World=>o
    have hi:=HI.o;have R:=ap.o;by_cases aQ:i<a.toNat
    ·have T:¬a≤(i:Int):=by omega
     have U:=Zu T;rw[U];have aS:(i:Int)<9223372036854775807:=by omega
     go_wp2_with fail
     refine(Tb.swap z.o k j J.o.hk J.o.hj (by have:=J.o.t;grind) aF.o E.o).mono ?_;rintro e v5 ⟨rfl,hT5,hb5,hk5⟩;have aI:=un hT5;have au:=un (D.o.trans hb5);have aB:=un (I.o.trans hk5);clear hT5 hb5 hk5;go_wp2;go_roundw
     case rel=>exact⟨i+1,cs.set k j,by go_num,by omega,by rw[u.o,show a.toNat-i=(a.toNat-(i+1))+1 by omega,zxx ag.o,zDR],aI.o,au.o,aB.o⟩
     case measure=>simp[intOf];omega
    ·have T:a≤(i:Int):=by omega
     have U:=Zs T;rw[U];have d:=un (show pivs l a.toNat cols=⟨cs,none,i,true⟩by rw[u.o,show a.toNat-i=0 by omega,zsr ag.o];simp only[upN,Z2]);go_wp2_with fail
     refine(Err.wrap 180 zve (i:Int) _).mono ?_;rintro e v5 ⟨rfl,rfl⟩;go_wp2;go_ret3
     exact⟨_,by rw[d.o];rfl,by rw[d.o];exact .inr ⟨rfl,_,rfl,zal _ _ _⟩,by rw[d.o];exact z.o.alloc _,D.o.trans (zae o _ |>.mono z.o.hle),I.o.below (zae o _)⟩
end Pr
end
theorem Pb.standardN(S:Nat)(hS:1≤S)(C:OA)(nc cc:Nat)(R:OA)(nr a:Nat)(cost:List Rat)(rows:List PRow)(N:Nat)(hN:nc+cnt rows nr=N)(w:World)(hc:VecS w 0 (C,nc,cc) cost)(hr:RowsS w 0 (R,nr,a) rows)(d:nc≤24)(g:nr≤20)(i:Rows nc rows)(f:Kinds rows)(zc:∀q∈cost,mw q≤S)(zr:∀p∈rows,(∀q∈p.coef,mw q≤S)∧mw p.rhs≤S) :
  Calls prog 52 #[.agg #[(C,nc,cc),(R,nr,a)]] w fun e w'=>∃(rA:OA) (rc:Nat) (lA:List Value) (bA:OA) (bc_:Nat) (kA:OA) (kc:Nat) (eA:OA) (ec:Nat),
   e=.returned (.tuple #[.agg #[(rA,nr,rc),(N:Int),(bA,nr,bc_),(kA,N,kc),(nc:Int),(eA,nr,ec)],.nilIface]) ∧
   StdP w' rA rc lA bA bc_ kA kc eA ec nr N S (zc3 rows) (zg8 rows) (zjD cost rows) (zca nc rows nr)∧Below w w w':=by
 subst hN;exact Pb.standard S hS C nc cc R nr a cost rows w hc hr d g i f zc zr
theorem zqy{b:Nat}{cs:Array Value}{t:TypeId}(d:w.heap[b]? = some (.cells cs t (0,0)))(v0 v1 g i j:Value):TKeep t w (((((w.setCell ⟨b,0,none⟩ v0).setCell ⟨b,1,none⟩ v1).setCell ⟨b,2,none⟩ g).setCell ⟨b,3,none⟩ i).setCell ⟨b,4,none⟩ j):=fun k _ f=>by
 have a:k≠b:=fun e=>f cs (by rw[e];exact d)
 rw[Zk _ _ _ _ (by exact a),Zk _ _ _ _ (by exact a),Zk _ _ _ _ (by exact a),Zk _ _ _ _ (by exact a),Zk _ _ _ _ (by exact a)]
theorem zT7{xs:List Rat}(h:j<n):el (xs.take n) j=el xs j:=by
 unfold el;rw[Zi,Zi,Yj,if_pos h]
theorem zTa(xs:List Rat)(n:Nat):∀f s,s+f≤n→zkZ (xs.take n) f s=zkZ xs f s
 | 0,_,_=>rfl
 | f+1,s,h=>by
  unfold zkZ;rw[zT7 (by omega),zTa xs n f (s+1) (by omega)]
theorem zTn(h:¬own≤cs.getD k 0):zSz own N A B (f+1) k (cs,n)=zSz own N A B f (k+1) (cs,n):=by
 conv=>lhs;unfold zSz
 grind
theorem zS6(h:own≤cs.getD k 0)(e:zkZ (zk8 N A cs k) own 0=none):zSz own N A B (f+1) k (cs,n)=zSz own N A B f (k+1) (cs,n):=by
 conv=>lhs;unfold zSz
 grind
theorem zS7(h:own≤cs.getD k 0)(e:zkZ (zk8 N A cs k) own 0=some j)(a:B≤n):zSz own N A B (f+1) k (cs,n)=((cs,n),true):=by
 conv=>lhs;unfold zSz
 grind
theorem zTo(h:own≤cs.getD k 0)(e:zkZ (zk8 N A cs k) own 0=some j)(a:¬B≤n):zSz own N A B (f+1) k (cs,n)=zSz own N A B f (k+1) (cs.set k j,n+1):=by
 conv=>lhs;unfold zSz
 grind
theorem zWd(a:Basis m N A cols)(hk:k<m)(o:own≤cols.getD k 0)(p:own≤N)(e:zkZ (zk8 N A cols k) own 0=some j):j<own∧el (zav A cols j) k≠0∧j ∉ cols:=by
 have s:=zSM (zk8 N A cols k) own 0;rw[e]at s;obtain⟨_,s2,g⟩:=s;have hj:j<own:=by omega
 rw[a.line_el hk (by omega)]at g;refine⟨hj,g,fun h=>?_⟩;obtain⟨l,f⟩:=Z0.1 h;have n:l<m:=by rw[←a.len];exact(Zm.1 f).1
 have u:=(a.dic []).uni k l hk n
 rw[getD_some (d:=0) f]at u;grind
section
variable {W0 w:World} {H q:Nat} {rA:OA} {rc:Nat} {lA:List Value} {bA:OA} {bc_:Nat} {kA:OA} {kc:Nat} {eA:OA} {ec m NN S own:Nat} {A:List (List Rat)} {b c:List Rat} {left:List Int}
  {tA:OA} {tc:Nat} {cols:List Nat}
def zVL (W0 w:World) (H q:Nat) (rA:OA) (rc:Nat) (lA:List Value) (bA:OA) (bc_:Nat) (kA:OA) (kc:Nat) (eA:OA) (ec m NN S own:Nat) (A:List (List Rat)) (b c:List Rat) (left:List Int) (tA:OA) (tc:Nat) (r:(List Nat × Nat) × Bool) (e:Ending) (w':World):Prop :=
  ∃ ev,e = .returned (.tuple #[(r.1.2:Int),ev]) ∧
    ((r.2=false∧ev=.nilIface)∨(r.2=true∧∃fb,ev=.iface 224 (.pointer (some ⟨fb,0,none⟩))∧w'.heap[fb]? = some (.cells #[.string zve,(r.1.2:Int),.iface 73 (.int .i64 180)] 226 (0,0)))) ∧
    zhi W0 w' H q rA rc lA bA bc_ kA kc eA ec m NN S own A b c left tA tc r.1.1∧Below H w w'∧Kept TT (Value.slice tA m tc).ownBlock w w'
namespace Pr
theorem pdrive(h:zhi W0 w H q rA rc lA bA bc_ kA kc eA ec m NN S own A b c left tA tc cols)(M:OA)(O N:Nat)(hN:N≤NN)(al:zor m S≤LIM)(a:Int)(P:a≤9223372036854775807) :
  Calls prog 110 #[.agg #[(rA,m,rc),(NN:Int),(bA,m,bc_),(kA,NN,kc),(own:Int),(eA,m,ec),(M,m,O),(N:Int)],.pointer (some ⟨q,0,none⟩),.int .i64 a] w (zVL W0 w H q rA rc lA bA bc_ kA kc eA ec m NN S own A b c left tA tc (zSz N NN A a.toNat m 0 (cols,0))):=by
 have HP:=un h;have ay:=un h.hle;have X:=un al;have J:=un hN;have au:=un P;have bc:=h.std.hm;have aF:=un (show ∀g,(Value.slice tA m tc).ownBlock=some g→g<w.heap.size by
  intro g hg;obtain⟨_,_,_,hP⟩:=h;exact(hP.colsI.own.lt g hg).2)
 clear h al hN P;obtain⟨W,x⟩:∃W,(w.alloc (.cells #[(rA,m,rc),(NN:Int),(bA,m,bc_),(kA,NN,kc),(own:Int),(eA,m,ec),(M,m,O),(N:Int)] 117))=W:=⟨_,rfl⟩
 have af:=un (show W.heap[w.heap.size]? = some (.cells #[(rA,m,rc),(NN:Int),(bA,m,bc_),(kA,NN,kc),(own:Int),(eA,m,ec),(M,m,O),(N:Int)] 117 (0,0))by rw[←x];exact zam (by simp));have BB:=un (show Below w w W by rw[←x];exact zae w _);have HZ:=un (show w.heap.size+1≤W.heap.size by rw[←x];simp);go_enter func110,ntmps110;go_wp2_with fail
 clear x;have B:=un (BB.o);have ae:=un (HP.o.below B.o);have bk:=HZ.o;refine(Tb.basis ae.o).mono ?_;rintro e w1 ⟨B0,cB,rfl,hi,hb⟩;have Z:=un hi;have aD:=un (ae.o.below hb);have U:=un (B.o.trans (hb.mono B.o.size));have aI:=un (zad hb af.o);have ax:=un (HP.o.basis.len);clear hi hb;go_wp2
 go_loopw [8,18] (fun nv i wr=>∃(k n:Nat) (cs:List Nat),i=.int .i64 k∧nv=.int .i64 n∧k≤m∧n≤k∧(zSz N NN A a.toNat m 0 (cols,0)=zSz N NN A a.toNat (m-k) k (cs,n))∧(∀l,k≤l→cs.getD l 0=cols.getD l 0)∧zhi W0 wr H q rA rc lA bA bc_ kA kc eA ec m NN S own A b c left tA tc cs∧Below H w wr∧Kept TT (Value.slice tA m tc).ownBlock w wr∧Kept TT (Value.slice tA m tc).ownBlock w1 wr)
  (fun _ i _=>m-(intOf i).toNat)
 case atStart=>exact⟨0,0,cols,rfl,rfl,Zb _,Zb _,rfl,fun _ _=>rfl,aD.o,U.o.mono ay.o,Kept.of_below U.o,Kept.refl _⟩
 case round =>
  obtain⟨k,n,cs,rfl,rfl,hk,bg,hd,am,hT,hB,hK,aj⟩:=hrel;have E:=un hd;have s:=un am;have o:=un hT;have C:=un hB;have G:=un hK;have t:=un aj;clear hd am hT hB hK aj;have ag:=un (t.o.blk aI.o (by decide) (by decide));have aa:=un (t.o.ints (by decide) Z.o fun g hg e=>by have h1:=(Z.o.own.lt g hg).1;have h2:=aF.o g e.symm;omega);obtain⟨_,_,_,_,_,_,_,_,_,_,_,_,_,_,s7,_⟩:=bc8 ag.o;by_cases r:k<m
  ·have a9:(0:Int)≤(k:Int):=Zf _;have ba:(k:Int)<(m:Int):=by omega
   obtain⟨bi,rfl,_,_⟩:=aa.o.has (by omega);have m0:=aa.o.at_ (zaO (L:=cols) (i:=k) (d:=0) (by rw[ax.o];exact r));have D:=un (s.o k (Za _));have V:=un o.o.basis;by_cases ho:N≤cols.getD k 0
   ·have aq:¬((cols.getD k 0:Nat):Int)<(N:Int):=by omega
    have u:=un (show N≤cs.getD k 0 by rw[D.o];exact ho);generalize cols.getD k 0=ck at m0 D ho aq;have bj:=J.o;go_wp2_with fail
    refine(Tb.line o.o k r X.o).mono ?_;rintro e v1 ⟨A1,n1,c1,rfl,hv,hb⟩;obtain rfl:NN=n1:=by rw[hv.len];exact(zkb _ _ _).symm
    have aG:=un (hv.cut N J.o);have a6:=hv.form.2.1;have a8:N≤c1:=by omega
    have ad:=un (o.o.below hb);have av:=un (C.o.trans (hb.mono o.o.hle));have az:=un (G.o.below hb);have aA:=un (t.o.below hb);have aJ:=un (zad hb ag.o);obtain⟨_,_,_,_,_,_,_,_,_,_,_,_,_,_,t7,_⟩:=bc8 aJ.o;clear hv hb s7;go_wp2_with fail
    refine(Vc.first A1 N c1 ((zk8 NN A cs k).take N) wr.heap.size _ aG.o).mono ?_;rintro e p ⟨rfl,hb⟩;rw[zTa (zk8 NN A cs k) N N 0 (by omega)];have v:=un (ad.o.below hb);have z:=un (av.o.trans (hb.mono ad.o.hle));have I:=un (az.o.below hb);have ab:=un (aA.o.below hb);clear hb;have F:=un (show zSz N NN A a.toNat m 0 (cols,0)=zSz N NN A a.toNat (m-(k+1)+1) k (cs,n)by rw[E.o,show m-k=(m-(k+1))+1 by omega]);cases hfz:zkZ (zk8 NN A cs k) N 0 with
    | none =>
     have y:zbh none = -1:=rfl;rw[y];have f:=un (F.o.trans (zS6 u.o hfz));clear hfz;go_wp2;go_roundw
     case rel=>exact⟨k+1,n,cs,by go_num,rfl,by omega,by omega,f.o,fun l hl=>s.o l (by omega),v.o,z.o,I.o,ab.o⟩
     case measure=>simp[intOf];omega
    | some j =>
     have y:zbh (some j)=(j:Int):=rfl;rw[y];have K:=un (zWd V.o r u.o J.o hfz);have Y:=un hfz
     clear hfz;go_upto_region 8 with fail
     go_cut[39] (fun c T=>c=false∧T=p)
     case first =>
      go_wp2;go_meet;exact⟨by simp,rfl⟩
     obtain⟨rfl,rfl⟩:=hcut;clear y;rename World=>p
     go_upto_region 9 with fail
     go_cut[42] (fun c T=>c=.bool (decide (a≤(n:Int)))∧T=p)
     case first =>
      go_wp2;go_meet;exact⟨by simp,rfl⟩
     obtain⟨rfl,rfl⟩:=hcut;rename World=>p
     have P:=au.o;by_cases a5:n<a.toNat
     ·have Q:¬a≤(n:Int):=by omega
      have R:=Zu Q;rw[R];have f:=un (F.o.trans (zTo u.o Y.o (by omega)));have bh:(n:Int)<9223372036854775807:=by omega
      go_wp2_with fail
      refine(Tb.swap v.o k j r (by have:=K.o.1;omega) K.o.2.1 K.o.2.2 X.o).mono ?_;rintro e v3 ⟨rfl,hT3,hb3,hk3⟩;have aE:=un hT3;have aw:=un (z.o.trans hb3);have aB:=un (I.o.trans hk3);have aC:=un (ab.o.trans hk3);clear hT3 hb3 hk3;go_wp2;go_roundw
      case rel=>exact⟨k+1,n+1,cs.set k j,by go_num,by go_num,by omega,by omega,f.o,fun l hl=>by rw[gset (by rw[V.o.len];exact r),if_neg (by omega)];exact s.o l (by omega),aE.o,aw.o,aB.o,aC.o⟩
      case measure=>simp[intOf];omega
     ·have Q:a≤(n:Int):=by omega
      have R:=Zs Q;rw[R];have f:=un (F.o.trans (zS7 u.o Y.o (by omega)));go_wp2_with fail
      refine(Err.wrap 180 zve (n:Int) _).mono ?_;rintro e v3 ⟨rfl,rfl⟩;go_wp2;go_ret2
      exact⟨_,by rw[f.o];rfl,by rw[f.o];exact .inr ⟨rfl,_,rfl,zal _ _ _⟩,by rw[f.o];exact v.o.alloc _,z.o.trans (zae p _ |>.mono v.o.hle),I.o.below (zae p _)⟩
   ·have aq:((cols.getD k 0:Nat):Int)<(N:Int):=by omega
    have f:=un (show zSz N NN A a.toNat m 0 (cols,0)=zSz N NN A a.toNat (m-(k+1)) (k+1) (cs,n)by rw[E.o,show m-k=(m-(k+1))+1 by omega];exact zTn (by rw[D.o];omega));generalize cols.getD k 0=ck at *
    go_wp2;go_roundw
    case rel=>exact⟨k+1,n,cs,by go_num,rfl,by omega,by omega,f.o,fun l hl=>s.o l (by omega),o.o,C.o,G.o,t.o⟩
    case measure=>simp[intOf];omega
  ·obtain rfl:m=k:=by omega
   have f:=un (show zSz N NN A a.toNat m 0 (cols,0)=((cs,n),false)by rw[E.o,ZZ];rfl);go_wp2;go_ret2
   exact⟨_,by rw[f.o];rfl,by rw[f.o];exact .inl ⟨rfl,rfl⟩,by rw[f.o];exact o.o,C.o,G.o⟩
end Pr
end
