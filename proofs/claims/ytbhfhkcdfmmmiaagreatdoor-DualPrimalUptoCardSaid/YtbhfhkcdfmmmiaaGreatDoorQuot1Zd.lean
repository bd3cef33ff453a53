/- Contracts and lemmas: Quot1 Quot2 Quot3 Quot4 Quot5 Quot6 Quot8 Quot9. Conditions: as each says. -/
import Derived.Test.YtbhfhkcdfmmmiaaGreatDoorProd2Zd
set_option linter.all false
set_option maxHeartbeats 1000000
set_option maxRecDepth 100000
namespace Go.Proofs.YtbhfhkcdfmmmiaaGreatDoor
open Go.RowKit Am
open Lib (hid)
attribute [local go_sem ↓] Go.wp_at_zero Go.wp_at_succ
variable {qs us vs xs ys:List Nat}{H L N a b c cap g k n q s size x y:Nat}{r:Option Nat}{e:TypeId}{v:Value}{w:World}
namespace Qt
def zsP (w:World) (q r:Nat) (b:Bool) (e:Ending) (w':World):Prop:=∃(A:OA) (m c:Nat),e=.returned (.tuple #[.agg #[(A,m,c)],.int .u64 (r:Int),b])∧zas w' (A,m,c) q∧Below w.heap.size w w'
theorem zCw(A:OA)(m c a x:Nat)(w:World)(D:zas w (A,m,c) a)(M:0<x)(hx:x<18446744073709551616)(r:wlen a≤LIM) :
  Calls Tryz.prog 152 #[.agg #[(A,m,c)],.int .u64 (x:Int)] w (zsP w (a/x) (a%x) true):=by
 obtain⟨xs,O,af,rfl,E,rfl⟩:=D.words;rw[←E]at r;have f:=hid O;have V:=hid r;have ar:((x:Int) == 0)=false:=by rw[beq_eq_false_iff_ne];omega
 have aq:xs.length≤9223372036854775806:=by have:=zaP;omega
 have g1:=hid (show xs.length≤16*LIM by have:=zaP;omega);clear D O af E r;go_enter Tryz.func152,Tryz.ntmps152;go_wp2_with fail
 refine(Nt.len (A,xs.length,c) xs _ ((f.out.alloc _).alloc _)).mono ?_;rintro e w' ⟨rfl,rfl⟩;have B:(((w.alloc (.cells #[(A,xs.length,c)] 45)).alloc (.cells #[()] 45)).alloc (.cells #[(A,xs.length,c)] 45)).cell? ⟨w.heap.size,0,none⟩=some (A,xs.length,c):=cell_al (cell_al (zax rfl rfl))
 have P:(((w.alloc (.cells #[(A,xs.length,c)] 45)).alloc (.cells #[()] 45)).alloc (.cells #[(A,xs.length,c)] 45)).heap[w.heap.size+1]? = some (.cells #[()] 45 (0,0)):=zak (zam (by simp));have kb:Below w.heap.size w (((w.alloc (.cells #[(A,xs.length,c)] 45)).alloc (.cells #[()] 45)).alloc (.cells #[(A,xs.length,c)] 45)):=al2 (al2 (zae w _) _) _
 have Q:(((w.alloc (.cells #[(A,xs.length,c)] 45)).alloc (.cells #[()] 45)).alloc (.cells #[(A,xs.length,c)] 45)).heap.size=w.heap.size+1+1+1:=by simp
 have N:=f.out.below kb;generalize ((w.alloc (.cells #[(A,xs.length,c)] 45)).alloc (.cells #[()] 45)).alloc (.cells #[(A,xs.length,c)] 45)=W at *
 have z:=hid N;have R:=hid P;have T:=hid kb;have d:=hid Q;clear N P kb Q;go_wp2_with (at_make;go_must (refine zdz rfl _ _ rfl xs.length _ rfl rfl rfl g1.out W.heap.size rfl ?_))
 intro w1 s;have y:=hid s;have c1:=s.old (by have:=d.out;omega) B;clear s;go_wp2_with (go_at_call 129;(with_reducible refine(Nt.len (A,xs.length,c) xs _ (y.out.keep z.out (Nat.le_refl _))).mono ?_);rintro e w' ⟨rfl,rfl⟩)
 have C:=y.out.alloc (.cells #[(A,xs.length,c)] 45);have X:=hid C;clear C c1
 go_loopw [8,9] (fun lv t wr=>∃(K:Int) (j L:Nat) (os:List Nat),t=.int .i64 K∧lv=.int .u64 L∧K+1=j∧j≤xs.length∧DivWInv xs os x j L∧OutAt W wr W.heap.size xs.length os)
  (fun _ t _=>(intOf t+1).toNat)
 case atStart=>exact⟨_,xs.length,0,List.replicate xs.length 0,rfl,rfl,by omega,Nat.le_refl _,DivWInv.start xs x xs.length xs.length M (Nat.le_refl _) (Nat.le_refl _),X.out⟩
 case round =>
  obtain⟨K,j,L,os,rfl,rfl,hK,hj,o,b⟩:=hrel;have i:=hid o;have q:=o.lft;clear o;rcases j with _ | p
  ·obtain rfl:K = -1:=by omega
   have g:=i.out.eq;rw[List.drop_zero,List.drop_zero]at g;have F:nval os=nval xs/x:=by rw[g,Nat.mul_add_div M,Nat.div_eq_of_lt q,Nat.add_zero]
   have hr:L=nval xs%x:=by rw[g,Nat.mul_add_mod,Nat.mod_eq_of_lt q]
   have Y:=hid F;have Z:=hid hr;have I:=b.sw i.out.wds;have HS:=hid I;have u:=hid b.bel;have U:=hid b.len;have J:=b.lt;clear g F hr I b;go_wp2_with fail
   refine(Nt.of _ os _ HS.out.reads (by rw[U.out];exact V.out)).mono ?_;rintro e w3 ⟨A2,m2,c2,rfl,hs2,hb2⟩;have hk:=zad hb2 ((u.out.block (w.heap.size+1) (by have:=d.out;omega)).trans R.out);have hc:w3.cell? ⟨w.heap.size+1,0,none⟩=some ():=zac hk 0;have hf:=zag hk 0;have S:=hid hk;clear hk;go_wp2;refine bodyPost_ret (v:=.tuple #[.agg #[(A2,m2,c2)],.int .u64 (L:Int),true]) (by simp[results,Tryz.results152,go_sem,hc]) rfl ?_;rw[Y.out]at hs2;rw[Z.out]
   refine⟨_,_,_,rfl,hs2.setCell (p:=⟨w.heap.size+1,0,none⟩) S.out (by decide) _,Below.setCell ?_ (by simp) _⟩;exact bstep (T.out.trans (u.out.mono (by have:=d.out;omega))) hb2 (by have:=d.out;omega)
  ·obtain rfl:K=(p:Int):=by omega
   have ad:=hid (b.keep z.out (Nat.le_refl _));have an:=b.old (by have:=d.out;omega) B;have ae:=b.cell (k:=p) (by omega);have ag:=b.fro p;have ai:=zdM f.out.2 p;have J:=b.lt;have q1:=cell_al (ob:=.cells #[(A,xs.length,c)] 45) ae;have q2:=zd1 (ob:=.cells #[(A,xs.length,c)] 45) J ag;have l:=hid b;have ah:(0:Int)≤(p:Int):=Int.natCast_nonneg _;have ap:(p:Int)<(xs.length:Int):=by omega
   clear b
   go_wp2_with (first
    | (go_at_call 145;(with_reducible refine(Nt.word (A,xs.length,c) xs _ ah _ ad.out).mono ?_);rintro e w' ⟨rfl,rfl⟩)
    | (go_at_call 159;(refine(Word.div_ok L (wd xs p) x q ai hx _).mono ?_);rintro e w' ⟨rfl,nd,rfl⟩))
   refine⟨⟨_,p,_,_,rfl,rfl,by omega,by omega,i.out.next (by rw[l.out.len];omega) f.out.2,?_⟩,by simp[intOf]⟩
   first
    | exact((l.out.alloc _).drewN _).store p _
    | exact((l.out.alloc _).store p _).drewN _
end Qt
namespace Qt
theorem zhR(q v0 r u0:Nat)(h0:u0<18446744073709551616):(zdw q v0 0 0<r∨zdw q v0 0 0=r∧zdo q v0 0 0≤u0)↔q*v0≤r*B64+u0:=by
 unfold zdw zdo;simp only[Nat.add_zero];generalize q*v0=P;have:=Nat.div_add_mod P B64;have a:B64=18446744073709551616:=rfl;have b:=Nat.mod_lt P (show 0<B64 by decide);rw[a]at *
 omega
theorem zmQ(h:(((zlD x y 0:Nat):Int) == 1)=true):B64≤x+y:=by
 have h1:zlD x y 0=1:=by have:=eq_of_beq h;omega
 unfold zlD at h1;have a:B64=18446744073709551616:=rfl;rw[a]at h1 ⊢;omega
theorem zpz(c:x<18446744073709551616)(d:y<18446744073709551616)(h:(((zlD x y 0:Nat):Int) == 1)=false):zjj x y 0=x+y∧x+y<18446744073709551616:=by
 have h1:¬zlD x y 0=1:=by have:=ne_of_beq_false h;omega
 unfold zlD at h1;unfold zjj;have a:B64=18446744073709551616:=rfl;rw[a]at h1 ⊢;have b:(x+y+0)/18446744073709551616=0:=by omega
 omega
theorem zdN(h:0<q)(a:q<18446744073709551616):IntKind.u64.wrap ((q:Int)-1)=((q-1:Nat):Int):=by
 rw[IntKind.wrap_u64];omega
theorem guess(u2 u1 u0 v1 v0:Nat)(w:World)(x:u2≤v1)(h1:u1<18446744073709551616)(h0:u0<18446744073709551616)(y:9223372036854775808≤v1)(i:v1<18446744073709551616)(c:v0<18446744073709551616) :
    Calls Tryz.prog 155 #[.int .u64 (u2:Int),.int .u64 (u1:Int),.int .u64 (u0:Int),.int .u64 (v1:Int),.int .u64 (v0:Int)] w fun e w'=>(∃q:Nat,e=.returned (.int .u64 (q:Int))∧GuessIs u2 u1 u0 v1 v0 q)∧∃n,w'=w.drewN n:=by
  rcases Nat.lt_or_ge u2 v1 with hlt | hge
  · have k:=hid (GuessInv.start u2 u1 u0 v1 v0 hlt h1 h0);go_enter Tryz.func155,Tryz.ntmps155
    go_wp2_with (first
      | (go_at_call 159;(refine(Word.div_ok u2 u1 v1 hlt h1 i _).mono ?_);rintro e w' ⟨rfl,nd,rfl⟩))
    go_loopw [11,12] (fun j t wr=>∃(q r n:Nat),j=.int .u64 (q:Int)∧t=.int .u64 (r:Int)∧GuessInv u2 u1 u0 v1 v0 q r∧r<18446744073709551616∧wr=w.drewN n) (fun j _ _=>(intOf j).toNat)
    case atStart=>exact⟨_,_,nd,rfl,rfl,k.out,by unfold zBV;exact Nat.lt_of_lt_of_le (Nat.mod_lt _ (by omega)) (by omega),rfl⟩
    case round =>
      obtain⟨q,r,n,rfl,rfl,d,hr,rfl⟩:=hrel;have b:=d.lt;have m:=hid d;clear d k;by_cases hc:q*v0≤r*B64+u0
      · have s:=hid (m.out.done c (.inl hc));have p:=(zhR q v0 r u0 h0).2 hc;clear hc
        go_wp2_with (first
          | (go_at_call 151;(refine(Word.mul q v0 b c _).mono ?_);rintro e w' ⟨rfl,rfl⟩))
        all_goals first
          | exact bodyPost_ret (v:=.int .u64 (q:Int)) (by simp[results,Tryz.results155,go_sem]) rfl ⟨⟨q,rfl,s.out⟩,n,rfl⟩
          | (exfalso;omega)
      · have f:=m.out.down (by omega);have g:=f.2;have l:=hid f.1;have p:¬(zdw q v0 0 0<r∨zdw q v0 0 0=r∧zdo q v0 0 0≤u0):=fun h=>hc ((zhR q v0 r u0 h0).1 h)
        clear hc f
        go_wp2_with (first
          | (go_at_call 151;(refine(Word.mul q v0 b c _).mono ?_);rintro e w' ⟨rfl,rfl⟩)
          | (go_at_call 147;(refine(Word.add r v1 0 hr i (by decide) _).mono ?_);rintro e w' ⟨rfl,rfl⟩))
        all_goals first
          | (have a:=zmQ (by assumption)
             exact bodyPost_ret (v:=.int .u64 (IntKind.u64.wrap ((q:Int)-1))) (by simp[results,Tryz.results155,go_sem]) rfl ⟨⟨q-1,by rw[zdN g b],l.out.done c (.inr a)⟩,n,rfl⟩)
          | (have a:=zpz hr i (by assumption)
             refine⟨⟨q-1,r+v1,n,by rw[zdN g b],by rw[a.1],l.out,a.2,rfl⟩,?_⟩;rw[zdN g b];simp only[intOf];omega)
  · have u:u2=v1:=by omega
    have k:=hid (show GuessInv u2 u1 u0 v1 v0 (B64-1) (u1+v1)by rw[u];exact GuessInv.start' u1 u0 v1 v0);clear u;go_enter Tryz.func155,Tryz.ntmps155
    go_wp2_with (first
      | (go_at_call 159;(refine(Word.div_no u2 u1 v1 hge _).mono ?_);rintro e w' ⟨rfl,rfl⟩)
      | (go_at_call 147;(refine(Word.add u1 v1 0 h1 i (by decide) _).mono ?_);rintro e w' ⟨rfl,rfl⟩))
    · have a:=zmQ (by assumption);exact bodyPost_ret (v:=.int .u64 18446744073709551615) (by simp[results,Tryz.results155,go_sem]) rfl ⟨⟨B64-1,rfl,k.out.done c (.inr a)⟩,0,rfl⟩
    · have o:=by assumption
      have a:=hid (zpz h1 i o);simp only[o];clear o;go_loopw [11,12] (fun j t wr=>∃(q r n:Nat),j=.int .u64 (q:Int)∧t=.int .u64 (r:Int)∧GuessInv u2 u1 u0 v1 v0 q r∧r<18446744073709551616∧wr=w.drewN n) (fun j _ _=>(intOf j).toNat)
      case atStart=>exact⟨B64-1,u1+v1,0,rfl,by rw[a.out.1],k.out,a.out.2,rfl⟩
      case round =>
        obtain⟨q,r,n,rfl,rfl,d,hr,rfl⟩:=hrel;have b:=d.lt;have m:=hid d;clear d k;by_cases hc:q*v0≤r*B64+u0
        · have s:=hid (m.out.done c (.inl hc));have p:=(zhR q v0 r u0 h0).2 hc;clear hc
          go_wp2_with (first
            | (go_at_call 151;(refine(Word.mul q v0 b c _).mono ?_);rintro e w' ⟨rfl,rfl⟩))
          all_goals first
            | exact bodyPost_ret (v:=.int .u64 (q:Int)) (by simp[results,Tryz.results155,go_sem]) rfl ⟨⟨q,rfl,s.out⟩,n,rfl⟩
            | (exfalso;omega)
        · have f:=m.out.down (by omega);have g:=f.2;have l:=hid f.1;have p:¬(zdw q v0 0 0<r∨zdw q v0 0 0=r∧zdo q v0 0 0≤u0):=fun h=>hc ((zhR q v0 r u0 h0).1 h)
          clear hc f
          go_wp2_with (first
            | (go_at_call 151;(refine(Word.mul q v0 b c _).mono ?_);rintro e w' ⟨rfl,rfl⟩)
            | (go_at_call 147;(refine(Word.add r v1 0 hr i (by decide) _).mono ?_);rintro e w' ⟨rfl,rfl⟩))
          all_goals first
            | (have a:=zmQ (by assumption)
               exact bodyPost_ret (v:=.int .u64 (IntKind.u64.wrap ((q:Int)-1))) (by simp[results,Tryz.results155,go_sem]) rfl ⟨⟨q-1,by rw[zdN g b],l.out.done c (.inr a)⟩,n,rfl⟩)
            | (have a:=zpz hr i (by assumption)
               refine⟨⟨q-1,r+v1,n,by rw[zdN g b],by rw[a.1],l.out,a.2,rfl⟩,?_⟩;rw[zdN g b];simp only[intOf];omega)
end Qt
structure OutC (w w1:World) (H n cp:Nat) (os:List Nat):Prop where
  own:w1.ownsRow H 184 1 (H,n,cp) n (wcells os)
  bel:w.grownBy w1 (some H)
  len:os.length=n
theorem zse{w1 w2:World}(h:w.grownBy w1 r)(a:Below w1.heap.size w1 w2):w.grownBy w2 r :=
 ⟨a.os.trans h.os,a.tape.trans h.tape,a.output.trans h.output,Nat.le_trans h.size a.size,fun k hk hr=>(a.block k (Nat.lt_of_lt_of_le hk h.size)).trans (h.block k hk hr)⟩
theorem zqf{a b c:World}(h:a.grownBy b r)(k:b.grownBy c r):a.grownBy c r :=
 ⟨k.os.trans h.os,k.tape.trans h.tape,k.output.trans h.output,Nat.le_trans h.size k.size,fun i d hr=>(k.block i (Nat.lt_of_lt_of_le d h.size) hr).trans (h.block i d hr)⟩
namespace OutC
variable {w w1 w2:World} {H n cp:Nat} {os:List Nat}
theorem lt(h:OutC w w1 H n cp os):H<w1.heap.size:=(h.own.lt H rfl).2
theorem step(h:OutC w w1 H n cp os)(a:Below w1.heap.size w1 w2):OutC w w2 H n cp os :=
 ⟨⟨h.own.1,by
   rcases h.own.2 with h2 | ⟨g,cap,cur,hv,hg,hh,r⟩
   ·exact .inl h2
   ·exact .inr ⟨g,cap,cur,hv,hg,by rw[a.block g (Array.getElem?_eq_some_iff.1 hh).1];exact hh,r⟩⟩,zse h.bel a,h.len⟩
theorem alloc(h:OutC w w1 H n cp os)(o:Obj):OutC w (w1.alloc o) H n cp os:=h.step (zae w1 o)
theorem drewN(h:OutC w w1 H n cp os)(k:Nat):OutC w (w1.drewN k) H n cp os:=h.step (zap w1 k)
theorem drew(h:OutC w w1 H n cp os):OutC w w1.drew H n cp os:=h.drewN 1
theorem store(h:OutC w w1 H n cp os)(k v:Nat):OutC w (w1.setCell ⟨H,k,none⟩ (.int .u64 (v:Int))) H n cp (os.set k v) :=
 ⟨by rw[ziN];exact(h.own.stored k _).1,zqf h.bel (h.own.stored k _).2,by rw[List.length_set];exact h.len⟩
theorem cell(h:OutC w w1 H n cp os){k:Nat}(hk:k<n):w1.cell? ⟨H,k,none⟩=some (.int .u64 ((wd os k:Nat):Int)):=by
 rw[h.own.cellAt k (by omega),zeu (by rw[h.len];exact hk)]
theorem fro(h:OutC w w1 H n cp os)(k:Nat):w1.frozen? ⟨H,k,none⟩=false:=h.own.frozenAt k
theorem keep(h:OutC w w1 H n cp os){s:Value}{xs:List Nat}(a:SW w s xs)(b:s.ownBlock≠some H):SW w1 s xs :=
 a.keep fun k hk=>h.bel.block k (a.block hk) (fun e=>b (by rw[hk,e]))
theorem sw(h:OutC w w1 H n cp os)(hw:Wds os):SW w1 (H,n,cp) os:=by
 have:=h.own;have a:=h.len;subst a;exact SW.of_own this hw
end OutC
theorem zH8(b:Nat):((b:Int) == 1)=(b == 1):=by
 by_cases h:b=1
 ·subst h;rfl
 ·rw[beq_eq_false_iff_ne.2 h,beq_eq_false_iff_ne.2 (by omega)]
namespace Qt
theorem take(W w:World)(H n cap k cp q:Nat)(os vs:List Nat)(A:OA)(c:Nat)(a:OutC W w H n cap os)(F:SW W (A,vs.length,c) vs)(m:(Value.slice A vs.length c).ownBlock≠some H)(D:Wds os)(E:q<18446744073709551616)(hk:k+vs.length<n)(_:vs.length+1≤cp)(Y:n≤2*LIM) :
    Calls Tryz.prog 156 #[.slice (some ⟨H,k,none⟩) (vs.length+1) cp,.agg #[(A,vs.length,c)],.int .u64 (q:Int)] w fun e w'=>∃(b:Nat) (d:List Nat),e=.returned (.bool (b == 1))∧b≤1∧OutC W w' H n cap d ∧
      Wds d∧za8 os d k (k+vs.length+1)∧nval d+B64^k*(q*nval vs)=nval os+B64^(k+vs.length+1)*b:=by
  have x:=hid a;have i:=hid F;have I:=hid D;have Z:vs.length≤9223372036854775806:=by have:=zaP;omega
  clear a F D;have p:OutC W (w.alloc (.cells #[(A,vs.length,c)] 45)) H n cap os:=x.out.alloc _;have r:(w.alloc (.cells #[(A,vs.length,c)] 45)).cell? ⟨w.heap.size,0,none⟩=some (A,vs.length,c):=zax rfl rfl;have X:=x.out.lt;go_enter Tryz.func156,Tryz.ntmps156;go_wp2_with fail
  generalize hw1:w.alloc (.cells #[(A,vs.length,c)] 45)=w1 at *
  clear hw1;have P:w.heap.size≠H:=by omega
  generalize w.heap.size=B at *
  refine(Nt.len (A,vs.length,c) vs _ (p.keep i.out m)).mono ?_;rintro e w' ⟨rfl,rfl⟩;have K:=hid (p.alloc (.cells #[(A,vs.length,c)] 45));have L:=hid (cell_al (ob:=.cells #[(A,vs.length,c)] 45) r);clear p r;generalize w1.alloc (.cells #[(A,vs.length,c)] 45)=w2 at *
  go_wp2_with fail
  go_loopw [7,8,14] (fun S J v wr=>∃(j V f:Nat) (d:List Nat),v=.int .i64 j∧S=.int .u64 V∧J=.int .u64 f∧j≤vs.length∧TakeInv os d vs k q j V f∧OutC W wr H n cap d∧wr.cell? ⟨B,0,none⟩=some (A,vs.length,c))
    (fun _ _ v _=>vs.length-(intOf v).toNat)
  case atStart=>exact⟨0,0,0,os,rfl,rfl,rfl,Nat.zero_le _,TakeInv.start os vs k q I.out,K.out,L.out⟩
  case round =>
    obtain⟨j,V,f,d,rfl,rfl,rfl,hj,o,a,hc⟩:=hrel;have z:V<18446744073709551616:=o.ovr;have y:=o.one;have g:=hid o;clear o;by_cases U:j<vs.length
    · have u:=hid (a.keep i.out m);have Q:=zdM i.out.2 j;have t:=zdM g.out.wds (k+j)

      have M:=cell_al (ob:=.cells #[(A,vs.length,c)] 45) (a.cell (k:=k+j) (by omega));have N:=zd1 (ob:=.cells #[(A,vs.length,c)] 45) a.lt (a.fro (k+j));have C:(0:Int)≤(j:Int):=Int.natCast_nonneg _;have O:(j:Int)<(vs.length:Int)+1:=by omega
      have l:=hid a;clear a
      go_wp2_with (first
        | (go_at_call 145;(with_reducible refine(Nt.word (A,vs.length,c) vs _ C _ u.out).mono ?_);rintro e w' ⟨rfl,rfl⟩)
        | (go_at_call 144;(refine(Word.mulAdd (wd vs j) q V 0 Q E z (by decide) _).mono ?_);rintro e w' ⟨rfl,rfl⟩)
        | (go_at_call 148;(refine(Word.sub (wd d (k+j)) (zdo (wd vs j) q V 0) f t (zrG _ _ _ _) y _).mono ?_);rintro e w' ⟨rfl,rfl⟩))
      exact⟨⟨j+1,_,_,_,by go_num,rfl,rfl,by omega,g.out.next E i.out.2 (by rw[←g.out.out.1,l.out.len];omega),(l.out.alloc _).store (k+j) _,cell_set P (cell_al hc)⟩,by simp[intOf];omega⟩
    · obtain rfl:j=vs.length:=by omega
      have u:=hid (a.drew.keep i.out m);have R:Hid (SW (wr.alloc (.cells #[(A,vs.length,c)] 45)).drew (A,vs.length,c) vs):=hid ((a.alloc (.cells #[(A,vs.length,c)] 45)).drew.keep i.out m);have t:=zdM g.out.wds (k+vs.length)
      have M:((wr.alloc (.cells #[(A,vs.length,c)] 45)).alloc (.cells #[(A,vs.length,c)] 45)).drew.cell? ⟨H,k+vs.length,none⟩=some (.int .u64 ((wd d (k+vs.length):Nat):Int)):=cell_al (cell_al (a.cell (k:=k+vs.length) (by omega)));have N:((wr.alloc (.cells #[(A,vs.length,c)] 45)).alloc (.cells #[(A,vs.length,c)] 45)).drew.frozen? ⟨H,k+vs.length,none⟩=false:=zd1 (zxk a.lt) (zd1 a.lt (a.fro (k+vs.length)));have r:wr.drew.cell? ⟨B,0,none⟩=some (A,vs.length,c):=hc
      have T:(wr.alloc (.cells #[(A,vs.length,c)] 45)).drew.cell? ⟨B,0,none⟩=some (A,vs.length,c):=cell_al hc;have C:(0:Int)≤(vs.length:Int):=Int.natCast_nonneg _;have O:(vs.length:Int)<(vs.length:Int)+1:=by omega
      have l:=hid a;clear a;go_wp2_with fail
      go_region_with (first
        | (go_at_call 129;(first | with_reducible refine(Nt.len (A,vs.length,c) vs _ u.out).mono ?_ | with_reducible refine(Nt.len (A,vs.length,c) vs _ R.out).mono ?_);rintro e w' ⟨rfl,rfl⟩)
        | (go_at_call 148;(refine(Word.sub (wd d (k+vs.length)) V f t z y _).mono ?_);rintro e w' ⟨rfl,rfl⟩))
      all_goals
        (go_wp2
         go_ret
         have s:=g.out.fin (by rw[←g.out.out.1,l.out.len];omega);exact⟨_,_,by rw[←zH8];rfl,zBo _ _ _,(((l.out.alloc _).alloc _).store (k+vs.length) _).drew,s.1,s.2.1,s.2.2⟩)
end Qt
namespace Qt
theorem back(W w:World)(H n cap k cp:Nat)(os vs:List Nat)(A:OA)(c:Nat)(a:OutC W w H n cap os)(C:SW W (A,vs.length,c) vs)(m:(Value.slice A vs.length c).ownBlock≠some H)(y:Wds os)(hk:k+vs.length<n)(V:n≤2*LIM) :
    Calls Tryz.prog 157 #[.slice (some ⟨H,k,none⟩) (vs.length+1) cp,.agg #[(A,vs.length,c)]] w fun e w'=>∃d:List Nat,e=.returned (.tuple #[])∧OutC W w' H n cap d ∧
      Wds d∧za8 os d k (k+vs.length+1)∧∃b,nval d+B64^(k+vs.length+1)*b=nval os+B64^k*nval vs:=by
  have u:=hid a;have l:=hid C;have E:=hid y;have X:vs.length≤9223372036854775806:=by have:=zaP;omega
  clear a C y;have p:OutC W (w.alloc (.cells #[(A,vs.length,c)] 45)) H n cap os:=u.out.alloc _;have q:(w.alloc (.cells #[(A,vs.length,c)] 45)).cell? ⟨w.heap.size,0,none⟩=some (A,vs.length,c):=zax rfl rfl;have U:=u.out.lt;go_enter Tryz.func157,Tryz.ntmps157;go_wp2_with fail
  generalize hw1:w.alloc (.cells #[(A,vs.length,c)] 45)=w1 at *
  clear hw1;have P:w.heap.size≠H:=by omega
  generalize w.heap.size=B at *
  refine(Nt.len (A,vs.length,c) vs _ (p.keep l.out m)).mono ?_;rintro e w' ⟨rfl,rfl⟩;have K:=hid (p.alloc (.cells #[(A,vs.length,c)] 45));have L:=hid (cell_al (ob:=.cells #[(A,vs.length,c)] 45) q);clear p q;generalize w1.alloc (.cells #[(A,vs.length,c)] 45)=w2 at *
  go_wp2_with fail
  go_loopw [4,8] (fun I t wr=>∃(j f:Nat) (d:List Nat),t=.int .i64 j∧I=.int .u64 f∧j≤vs.length∧BackInv os d vs k j f∧OutC W wr H n cap d∧wr.cell? ⟨B,0,none⟩=some (A,vs.length,c))
    (fun _ t _=>vs.length-(intOf t).toNat)
  case atStart=>exact⟨0,0,os,rfl,rfl,Nat.zero_le _,BackInv.start os vs k E.out,K.out,L.out⟩
  case round =>
    obtain⟨j,f,d,rfl,rfl,hj,o,a,hc⟩:=hrel;have J:f≤1:=o.one;have g:=hid o;clear o;by_cases T:j<vs.length
    · have s:=hid (a.drew.keep l.out m);have Q:=zdM l.out.2 j;have z:=zdM g.out.wds (k+j);have R:wr.drew.cell? ⟨H,k+j,none⟩=some (.int .u64 ((wd d (k+j):Nat):Int)):=a.cell (k:=k+j) (by omega);have M:(wr.alloc (.cells #[(A,vs.length,c)] 45)).drew.cell? ⟨H,k+j,none⟩=some (.int .u64 ((wd d (k+j):Nat):Int)):=cell_al (a.cell (k:=k+j) (by omega));have N:(wr.alloc (.cells #[(A,vs.length,c)] 45)).drew.frozen? ⟨H,k+j,none⟩=false:=zd1 a.lt (a.fro (k+j))
      have q:wr.drew.cell? ⟨B,0,none⟩=some (A,vs.length,c):=hc;have x:(0:Int)≤(j:Int):=Int.natCast_nonneg _;have O:(j:Int)<(vs.length:Int)+1:=by omega
      have S:(j:Int)<(vs.length:Int):=by omega
      have i:=hid a;have D:=hid hc;clear a hc;go_wp2_with fail
      go_region_with (first
        | (go_at_call 145;(with_reducible refine(Nt.word (A,vs.length,c) vs _ x _ s.out).mono ?_);rintro e w' ⟨rfl,rfl⟩)
        | (go_at_call 147;(refine(Word.add (wd d (k+j)) (wd vs j) f z Q J _).mono ?_);rintro e w' ⟨rfl,rfl⟩))
      all_goals
        (go_wp2
         exact⟨⟨j+1,_,_,by go_num,rfl,by omega,g.out.next l.out.2 (by rw[←g.out.out.1,i.out.len];omega),((i.out.alloc _).store (k+j) _).drew,cell_set P (cell_al D.out)⟩,by simp[intOf];omega⟩)
    · obtain rfl:j=vs.length:=by omega
      have s:=hid (a.keep l.out m);have z:=zdM g.out.wds (k+vs.length);have M:=cell_al (ob:=.cells #[(A,vs.length,c)] 45) (a.cell (k:=k+vs.length) (by omega));have N:=zd1 (ob:=.cells #[(A,vs.length,c)] 45) a.lt (a.fro (k+vs.length));have x:(0:Int)≤(vs.length:Int):=Int.natCast_nonneg _;have O:(vs.length:Int)<(vs.length:Int)+1:=by omega
      have i:=hid a;clear a;have hw:IntKind.u64.wrap (((wd d (k+vs.length):Nat):Int)+((f:Nat):Int))=((zjj (wd d (k+vs.length)) f 0:Nat):Int):=by rw[IntKind.wrap_u64];unfold zjj B64;omega
      have F:=hid hw;clear hw;go_wp2_with fail
      refine(Nt.len (A,vs.length,c) vs _ s.out).mono ?_;rintro e w' ⟨rfl,rfl⟩;go_wp2;rw[F.out];have r:=g.out.fin (by rw[←g.out.out.1,i.out.len];omega);exact bodyPost_end (v:=.tuple #[]) (by simp[results,Tryz.results157,go_sem]) rfl ⟨_,rfl,(i.out.alloc _).store (k+vs.length) _,r.1,r.2.1,r.2.2⟩
end Qt
def zv4 (w:World) (q r:Nat) (b:Bool) (e:Ending) (w':World):Prop:=∃(A:OA) (m c:Nat) (A':OA) (m' c':Nat),e=.returned (.tuple #[.agg #[(A,m,c)],.agg #[(A',m',c')],b])∧zas w' (A,m,c) q∧zas w' (A',m',c') r∧Below w.heap.size w w'
namespace Qt
theorem zIg(s:Value)(ys:List Nat)(b:Nat)(w:World)(a:SW w s ys)(h:wd ys 0=b):Calls Tryz.prog 145 #[.agg #[s],.int .i64 0] w fun e w'=>e=.returned (.int .u64 (b:Int))∧Below w.heap.size w w' :=
 (Nt.word s ys 0 (by decide) w a).mono fun e w' h1=>⟨by rw[h1.1,←h];rfl,by rw[h1.2];exact zae w _⟩
theorem zIa(g r:Nat)(w:World)(hr:r<18446744073709551616)(hc:w.cell? ⟨g,0,none⟩=some (.int .u64 (r:Int))):Calls Tryz.prog 112 #[.slice (some ⟨g,0,none⟩) 1 1] w (zc0 w r):=by
 have h:SR w (.slice (some ⟨g,0,none⟩) 1 1) [r]:=⟨some ⟨g,0,none⟩,1,rfl,Nat.le_refl _,by omega,by intro z b;simp at b;subst b;exact hr,by simp,fun d c j u a=>by
  cases c
  match j,a with
  | 0,a=>simp[wcells]at a;subst a;simpa[Addr.add]using hc
  | j+1,a=>simp[wcells]at a⟩
 have:=Nt.of _ [r] w h (by have:=zaP;simp;omega);simpa[nval]using this
theorem zr5(A B:OA)(m c m' c' a b:Nat)(w:World)(ha:zas w (A,m,c) a)(C:zas w (B,m',c') b)(ae:0<b)(D:wlen b≤1)(af:wlen a≤LIM) :
  Calls Tryz.prog 150 #[.agg #[(A,m,c)],.agg #[(B,m',c')]] w (zv4 w (a/b) (a%b) true):=by
 obtain⟨ys,hy,av,ah,ag,hm⟩:=C.words;subst hm;have O:=hid ha;have X:=hid hy;have aw:(ys.length:Int)≤1:=by omega

 have am:=hid ag;have an:=hid ah;clear ha C hy ag ah;have W0:∃W,W=(((w.alloc (.cells #[(A,m,c)] 45)).alloc (.cells #[(B,ys.length,c')] 45)).alloc (.cells #[()] 45)).alloc (.cells #[()] 45):=⟨_,rfl⟩
 obtain⟨W,j⟩:=W0;have M:W.heap.size=w.heap.size+1+1+1+1:=by rw[j];simp
 have E:W.cell? ⟨w.heap.size,0,none⟩=some (A,m,c):=by rw[j];exact cell_al (cell_al (cell_al (zax rfl rfl)))
 have F:W.cell? ⟨w.heap.size+1,0,none⟩=some (B,ys.length,c'):=by rw[j];exact cell_al (cell_al (zax (by simp) rfl))
 have r2:W.heap[w.heap.size+1+1]? = some (.cells #[()] 45 (0,0)):=by rw[j];exact zak (zam (by simp))
 have r3:W.heap[w.heap.size+1+1+1]? = some (.cells #[()] 45 (0,0)):=by rw[j];exact zam (by simp)
 have x:Below w.heap.size w W:=by rw[j];exact(((zae w _).alloc (by simp) _).alloc (by simp;omega) _).alloc (by simp;omega) _
 have P:=hid (O.out.below x);have K:=hid (X.out.below x);have o:=hid r2;have p:=hid r3;have i:=hid x;have l:=hid M;clear r2 r3 x M

 go_enter Tryz.func150,Tryz.ntmps150;go_wp2_with fail
 rw[←j];clear j;refine(Nt.len (B,ys.length,c') ys _ K.out).mono ?_;rintro e w' ⟨rfl,rfl⟩;have E:=cell_al (ob:=.cells #[(B,ys.length,c')] 45) E;have F:=cell_al (ob:=.cells #[(B,ys.length,c')] 45) F;go_wp2_with fail
 have ai:wd ys 0=b:=by
  have h1:=am.out;have h2:=an.out
  match ys,h1 with
  | [],_=>simp[nval]at h2;omega
  | [y],_=>simpa[nval,wd]using h2
  | y::z::r,h1=>simp at h1;omega
 have aq:=hid ai;have Y:=hid (P.out.alloc (.cells #[(B,ys.length,c')] 45));have L:=hid (K.out.alloc (.cells #[(B,ys.length,c')] 45));have o:=hid (show(W.alloc (.cells #[(B,ys.length,c')] 45)).heap[w.heap.size+1+1]? = some (.cells #[()] 45 (0,0))from zak o.out);have p:=hid (show(W.alloc (.cells #[(B,ys.length,c')] 45)).heap[w.heap.size+1+1+1]? = some (.cells #[()] 45 (0,0))from zak p.out)
 have i:=hid (i.out.alloc i.out.size (.cells #[(B,ys.length,c')] 45));have l:=hid (show w.heap.size+4≤(W.alloc (.cells #[(B,ys.length,c')] 45)).heap.size by have:=l.out;simp;omega);have T:=hid (ae);have U:=hid (show b<18446744073709551616 by have:=zdM L.out.2 0;omega);have al:=hid af;clear P K O X ai af D aw av ae;generalize W.alloc (.cells #[(B,ys.length,c')] 45)=V at *
 have S:=hid (show ∀w',Below V.heap.size V w'→((w'.cell? ⟨w.heap.size,0,none⟩=some (A,m,c)∧w'.cell? ⟨w.heap.size+1,0,none⟩=some (B,ys.length,c'))∧Below V.heap.size V w')from fun w' h=>⟨⟨zab h E,zab h F⟩,h⟩)
 go_cut[7,8,9] (fun s7 s8 s9 wr=>∃(g:Nat) (Q:OA) (f d:Nat),s7=.pointer (some ⟨g,0,none⟩)∧s8=.int .u64 ((a%b:Nat):Int)∧s9=true∧Below V.heap.size V wr ∧
  wr.cell? ⟨g,0,none⟩=some (Q,f,d)∧zas wr (Q,f,d) (a/b)∧V.heap.size≤g)
 case first =>
  go_region_held3 (fun w'=>((w'.cell? ⟨w.heap.size,0,none⟩=some (A,m,c)∧w'.cell? ⟨w.heap.size+1,0,none⟩=some (B,ys.length,c'))∧Below V.heap.size V w'))
   ((refine S.out _ ?_;repeat(first | exact Below.refl _ _ | exact(by assumption:_∧Below _ _ _).2 | with_reducible refine bdrew ?_ | with_reducible refine al2 ?_ _ | with_reducible refine set2 ?_ (by omega) | with_reducible refine zc1 ?_ (by assumption))))
   (first
    | (go_at_call 145;(with_reducible refine(zIg (B,ys.length,c') ys b _ (L.out.below (by assumption:_∧Below _ _ _).2) aq.out).mono ?_);rintro e u1 ⟨rfl,D⟩;have ax:=D.size;(try simp at ax);have aQ:V.heap.size≤u1.heap.size:=(by omega);(try((first | (have k:=zan (b:=V.heap.size) (v:=.slice none 0 0) (t:=45) D (zal _ _ _);obtain⟨I,⟨a2,a5⟩,⟨a3,a6⟩,⟨a4,a7⟩,⟨a8,a9⟩,ba,bb⟩:=k));have I:=hid I)))
    | (go_at_call 152;(with_reducible refine(zCw A m c a b _ (Y.out.below (by assumption:_∧Below _ _ _).2) T.out U.out al.out).mono ?_);rintro e u2 ⟨Q,f,d,rfl,hq,hb2⟩;have ay:=hb2.size;(try simp at ay);have aR:=(by omega);(try((first | (have k:=zan (b:=V.heap.size) (v:=.slice none 0 0) (t:=45) hb2 (I.out);obtain⟨J,⟨aD,aG⟩,⟨aE,aH⟩,⟨aF,aI⟩,⟨aJ,aK⟩,aL,aM⟩:=k) | (have k:=zan (b:=V.heap.size) (v:=.slice none 0 0) (t:=45) hb2 (zak I.out);obtain⟨J,⟨aD,aG⟩,⟨aE,aH⟩,⟨aF,aI⟩,⟨aJ,aK⟩,aL,aM⟩:=k));have J:=hid J));(try((first | (have k:=zan (b:=u1.heap.size) (v:=.slice none 0 0) (t:=45) hb2 (zal _ _ _);obtain⟨N,⟨bc,aV⟩,⟨bd,aW⟩,⟨aU,aX⟩,⟨aY,aZ⟩,a0,a1⟩:=k));have N:=hid N));have HQ:=hid hq;clear hq))
  all_goals
   go_wp2;go_meet
   case rel =>
    refine⟨_,Q,f,d,rfl,rfl,rfl,(by assumption:_∧Below V.heap.size V _).2,?_,?_,?_⟩
    all_goals
     repeat' (first
      | with_reducible exact HQ.out
      | with_reducible assumption
      | with_reducible exact zeo _ _ _
      | with_reducible exact zfx _ _ _ _
      | with_reducible refine cell_al ?_
      | with_reducible refine Box.cell ?_
      | with_reducible refine cell_set ?_ ?_
      | with_reducible exact Box.new _ _
      | with_reducible exact Box.new1 _ _ _
      | with_reducible refine Box.alloc ?_
      | with_reducible refine Box.set ?_
      | exact Box.of J.out
      | exact Box.of N.out
      | with_reducible refine zas.alloc ?_ _
      | with_reducible refine zas.setBox ?_ ?_
      | with_reducible refine zas.drew ?_
      | omega)
 case rest =>
  obtain⟨g,Q,f,d,rfl,rfl,rfl,q,kq,hQ,hg⟩:=hcut;rename World=>wa
  have NQ:=hid hQ;have o:=hid (zad q o.out);have p:=hid (zad q p.out);have aN:=l;have i:=hid (i.out.trans (q.mono i.out.size));have l:=hid (show w.heap.size+4≤wa.heap.size by have:=l.out;have:=q.size;omega);have hr:=hid (show a%b<18446744073709551616 by have:=Nat.mod_lt a T.out;have:=U.out;omega);clear q hQ hg S Y L E F;generalize a%b=r at *
  generalize a/b=qq at *
  have au:Hid ((wa.alloc (.cells #[.int .u64 (r:Int)] 184)).drew.cell? ⟨wa.heap.size,0,none⟩=some (.int .u64 (r:Int))):=hid (zeo wa _ _);have aS:wa.drew.cell? ⟨g,0,none⟩=some (Q,f,d):=kq;have az:(wa.alloc (.cells #[.int .u64 (r:Int)] 184)).drew.cell? ⟨g,0,none⟩=some (Q,f,d):=cell_al kq;go_wp2_with fail
  go_region_with (go_at_call 112;go_loud (refine(zIa wa.heap.size r _ hr.out au.out).mono ?_;rintro e w2 ⟨A2,m2,c2,rfl,hs2,hb2⟩;have s:=hid (zad hb2 (show(wa.alloc (.cells #[.int .u64 (r:Int)] 184)).drew.heap[w.heap.size+1+1]? = some (.cells #[()] 45 (0,0))from zak o.out));have u:=hid (zad hb2 (show(wa.alloc (.cells #[.int .u64 (r:Int)] 184)).drew.heap[w.heap.size+1+1+1]? = some (.cells #[()] 45 (0,0))from zak p.out));have aT:=zab hb2 az;have Z:=zac s.out 0;have g4:=zag s.out 0;have g5:=zac u.out 0;have g6:=zag u.out 0;simp only[List.getElem?_toArray,List.getElem?_cons_zero]at Z g5;have ap:=hid hs2;have R:=hid hb2;clear hs2 hb2))
  all_goals
   go_wp2;refine bodyPost_ret (v:=.tuple #[.agg #[(Q,f,d)],.agg #[(A2,m2,c2)],true]) (by simp[results,Tryz.results150,go_sem,Z,g5]) rfl ?_;have M:=l.out;have nq:=((NQ.out.alloc (.cells #[.int .u64 (r:Int)] 184)).drew).below R.out;have C:=bstep (zhk (i.out.alloc i.out.size _) 1) R.out (by simp;omega)
   exact⟨_,_,_,_,_,_,rfl,zas.setBox (zas.setBox nq (Box.of s.out)) (Box.set (Box.of u.out)),zas.setBox (zas.setBox ap.out (Box.of s.out)) (Box.set (Box.of u.out)),Below.setCell (Below.setCell C (by simp;omega) _) (by simp;omega) _⟩
end Qt
namespace Qt

theorem zpY(A B:OA)(m c m' c' a b:Nat)(w:World)(J:zas w (A,m,c) a)(u:zas w (B,m',c') b)(P:¬wlen b≤1)(x:a<b) :
  Calls Tryz.prog 150 #[.agg #[(A,m,c)],.agg #[(B,m',c')]] w (zv4 w (a/b) (a%b) true):=by
 obtain⟨ys,L,_,_,M,hm⟩:=u.words;subst hm;have z:=hid J;have C:=hid u;have E:=hid L;have Q:¬(ys.length:Int)≤1:=by omega
 clear J u L M;have W0:∃W,W=(((w.alloc (.cells #[(A,m,c)] 45)).alloc (.cells #[(B,ys.length,c')] 45)).alloc (.cells #[()] 45)).alloc (.cells #[()] 45):=⟨_,rfl⟩
 obtain⟨W,f⟩:=W0;have y:W.heap.size=w.heap.size+1+1+1+1:=by rw[f];simp
 have o:W.cell? ⟨w.heap.size,0,none⟩=some (A,m,c):=by rw[f];exact cell_al (cell_al (cell_al (zax rfl rfl)))
 have q:W.cell? ⟨w.heap.size+1,0,none⟩=some (B,ys.length,c'):=by rw[f];exact cell_al (cell_al (zax (by simp) rfl))
 have r2:W.heap[w.heap.size+1+1]? = some (.cells #[()] 45 (0,0)):=by rw[f];exact zak (zam (by simp))
 have r3:W.heap[w.heap.size+1+1+1]? = some (.cells #[()] 45 (0,0)):=by rw[f];exact zam (by simp)
 have j:Below w.heap.size w W:=by rw[f];exact(((zae w _).alloc (by simp) _).alloc (by simp;omega) _).alloc (by simp;omega) _
 have l:=hid (z.out.below j);have s:=hid (C.out.below j);have t:=hid (E.out.below j);have g:=hid r2;have i:=hid r3;have r:=hid j;have k:=hid y;clear r2 r3 j y z C E;go_enter Tryz.func150,Tryz.ntmps150;go_wp2_with fail
 rw[←f];clear f;refine(Nt.len (B,ys.length,c') ys _ t.out).mono ?_;rintro e w' ⟨rfl,rfl⟩;have o:=cell_al (ob:=.cells #[(B,ys.length,c')] 45) o;have q:=cell_al (ob:=.cells #[(B,ys.length,c')] 45) q;go_wp2_with fail
 refine(Nt.cmp A B m c ys.length c' a b _ (l.out.alloc _) (s.out.alloc _)).mono ?_;rintro e w2 ⟨rfl,hb2⟩;have d:Below W.heap.size W w2:=((zae W _).trans (hb2.mono (by simp)))
 have o:=zab hb2 o;have q:=zab hb2 q;have l:=hid (l.out.below d);have s:=hid (s.out.below d);have t:=hid (t.out.below d);have g:=hid (zad d g.out);have i:=hid (zad d i.out);have r:=hid (r.out.trans (d.mono (by have:=k.out;omega)));have k:=hid (show w.heap.size+4≤w2.heap.size by have:=k.out;have:=d.size;omega);clear hb2 d;rw[zeb (show(a:Int)<(b:Int)by omega)];go_wp2_with fail
 have F:=zac g.out 0;have N:=zag g.out 0;have I:=zac i.out 0;have O:=zag i.out 0;simp only[List.getElem?_toArray,List.getElem?_cons_zero]at F I;have K:=Nat.div_eq_of_lt x;have hr:=Nat.mod_eq_of_lt x;have D:=hid (And.intro K hr);clear K hr x;go_region
 all_goals
  go_wp2;refine bodyPost_ret (v:=.tuple #[.agg #[()],.agg #[(A,m,c)],true]) (by simp[results,Tryz.results150,go_sem,F,I]) rfl ?_;have y:=k.out;rw[D.out.1,D.out.2];exact⟨_,_,_,_,_,_,rfl,zas.zero _,(zas.setBox (zas.setBox l.out (Box.of g.out)) (Box.set (Box.of i.out))).drew,(bsc (bsc r.out)).drew⟩
end Qt
def zq4 (w:World) (xs:List Nat) (e:Ending) (w':World):Prop:=∃(A:OA) (m c:Nat),e=.returned (A,m,c)∧w'.ownsRow w.heap.size 184 1 (A,m,c) xs.length (wcells xs)∧Wds xs∧Below w.heap.size w w'
theorem zoq(h:Canon xs)(a:0<xs.length):wd xs (xs.length-1)≠0:=by
 have h1:=h (by intro e;subst e;simp at a);rw[List.getLast_eq_getElem]at h1;unfold wd;rw[List.getD_eq_getElem?_getD,List.getElem?_eq_getElem (by omega)];exact h1
theorem zA5{xs:List Value}(h:w.ownsRow H e size (g,n,cap) n xs)(i:Nat)(d:i≤n) :
  w.ownsRow g e size (g,i,cap) i (xs.take (i*size)):=by
 have f:i*size≤n*size:=Nat.mul_le_mul_right _ d;refine⟨by rw[List.length_take,h.1];omega,?_⟩;rcases h.2 with ⟨a,_⟩ | ⟨g',k,cur,a,l,hg,m,b,c,j⟩
 ·simp at a
 ·simp only[Value.slice.injEq,Option.some.injEq,Addr.mk.injEq,and_true,true_and]at a;obtain⟨rfl,rfl⟩:=a;refine .inr ⟨g,cap,cur,rfl,Nat.le_refl _,hg,by omega,b,c,?_⟩;rw[←j,List.take_take,Nat.min_eq_left f]
theorem zxt{base:Nat}{xs:List Value}(h:w.ownsRow base e size v n xs)(b:0<n):∃g cp,v=.slice (some ⟨g,0,none⟩) n cp∧n≤cp∧base≤g:=by
 rcases h.2 with ⟨_,h0⟩ | ⟨g,cap,cur,rfl,a,_,hc,_⟩
 ·omega
 ·exact⟨g,cap,rfl,hc,a⟩
theorem zfF{B:Nat}{xs:List Value}{w':World}(h:w.ownsRow B e k v n xs)(a:Below w.heap.size w w'):w'.ownsRow B e k v n xs:=by
 refine⟨h.1,?_⟩;rcases h.2 with hn | ⟨g,cap,cur,hv,hB,hg,r⟩
 ·exact .inl hn
 ·exact .inr ⟨g,cap,cur,hv,hB,by rw[a.block g (Array.getElem?_eq_some_iff.1 hg).1];exact hg,r⟩
theorem zxv(h:w.ownsRow H 184 1 (g,n,cap) n (wcells ys))(hk:k≤n) :
  w.ownsRow g 184 1 (g,k,cap) k (wcells (ys.take k)):=by
 have:=zA5 h k hk;rw[Nat.mul_one,←zg7]at this;exact this
namespace Nt
theorem zC7(s:Value)(xs:List Nat)(w:World)(h:SR w s xs)(y:xs.length≤LIM):Calls Tryz.prog 136 #[s] w (zq4 w xs):=by
 obtain⟨A,c,rfl,D,z,hw,b,a⟩:=h;have l:=hid hw;clear hw;rcases A with _ | ad
 ·obtain⟨rfl,rfl⟩:=b rfl;clear a b;have E:=fun(w:World)=>Lib.run_eql_slice_nil (P:=Tryz.prog) w 43 184 none 0 0 0 0 Tryz.underlying43
  go_enter Tryz.func136,Tryz.ntmps136;go_wp2;go_ret
  exact⟨_,_,_,rfl,World.ownsRow_nil _ _ _ _,Wds.nil,Below.refl _ _⟩
 ·have f:=hid (a ad rfl);clear a b;have E:=fun(w:World)=>Lib.run_eql_slice_nil (P:=Tryz.prog) w 43 184 (some ad) xs.length c 0 0 Tryz.underlying43
  obtain⟨L,C,I,J,K⟩:=info_parts zf7;have o:=World.ownsRow_made (e:=184) (size:=1) (base:=w.heap.size) w #[] 0 (Nat.le_refl _) (by unfold maxLen;omega) rfl
  have m:∀j u,(wcells xs)[j]? = some u→(w.alloc (.cells #[] 184)).cell? (ad.add j)=some u:=fun j u p =>
   (World.cell?_alloc_lt w _ _ (World.block_lt_of_cell? w _ (f.out j u p))).trans (f.out j u p)
  have x:=hid o;have v:=hid m;have g:0+xs.length≤maxLen:=by unfold maxLen;omega
  have i:(0+xs.length)*8≤140737488355328:=by have:=zaP;omega
  have r:=hid g;have t:=hid i;clear o m g i y D z;go_enter Tryz.func136,Tryz.ntmps136;go_wp2_with (at_builtin;refine wpList_append_own _ rfl _ _ 43 rfl w.heap.size 184 L (.int .u64 0) 1 8 Tryz.underlying43 C I J K rfl (by decide) _ _ _ rfl x.out ad xs.length c (wcells xs) rfl (by rw[zdA];omega) v.out (zgf xs) r.out t.out (by simp) ?_;intro N w1 d B M)
  go_ret
  rw[Nat.zero_add,List.nil_append]at d;have F:=SW.of_own d l.out;obtain⟨q,m',c',rfl⟩:=F.slice;exact⟨q,m',c',rfl,d,l.out,(zae w _).trans ((Below.refl _ _).grown B (by simp) (fun k hk=>by cases hk;exact Nat.le_refl _))⟩
theorem wordsF(A:OA)(m c:Nat)(xs:List Nat)(w:World)(h:SW w (A,m,c) xs)(b:xs.length≤LIM):Calls Tryz.prog 146 #[.agg #[(A,m,c)]] w (zq4 w xs):=by
 have a:=(h.alloc (.cells #[(A,m,c)] 45)).reads;have d:=hid a;have f:=hid b;clear h a b;go_enter Tryz.func146,Tryz.ntmps146;go_wp2_with fail
 refine(zC7 _ xs _ d.out f.out).mono ?_;rintro e w1 ⟨A1,m1,c1,rfl,hs1,hw1,hb1⟩;go_wp2;go_ret
 exact⟨_,_,_,rfl,zbu hs1 (by simp),hw1,bstep (zae w _) hb1 (by simp)⟩
end Nt
theorem zH5(w:World)(n:Nat)(a:w.heap.size=n)(j:Nat)(u:Value)(h:(wcells [0,0])[j]? = some u):(w.alloc (.cells #[.int .u64 0,.int .u64 0] 184)).cell? ((⟨n,0,none⟩:Addr).add j)=some u:=by
 subst a;rw[show(⟨w.heap.size,0,none⟩:Addr).add j=⟨w.heap.size,j,none⟩by unfold Addr.add;split<;>simp_all];exact(zac (zal w _ _) j).trans (by match j,h with | 0,h=>simpa[wcells]using h | 1,h=>simpa[wcells]using h | j+2,h=>simp[wcells]at h)
theorem zo4{ops:Array Oper}{o:Oper}{a:Act}{K:Act→World→Prop}{Q:Exit→Act→World→Prop}{E:Prop}(hg:o.guard=none)
  (s x:Operand) (q:o.op=.call { callee:=.builtin .append,args:=#[s,x],argTypes:=#[43,43] })
     (i:w.ownsRow H 184 1 v n (wcells ys)) (r:a.eval s=v) {d:Addr} {m:Nat} (t:a.eval x=.slice (some d) m c) (hm:m=xs.length)
  (p:∀j u,(wcells xs)[j]? = some u→w.cell? (d.add j)=some u) (C:n+xs.length≤2*LIM) (f:H≤w.heap.size)
  (g:∀b w',w'.ownsRow H 184 1 b (n+xs.length) (wcells (ys++xs))→w.grownBy w' v.ownBlock→K (a.put o.dst b) w') :
  if Region.wanted o (yielded ops a.tmps)=true then Oper.wp Tryz.prog o a w K Q else E:=by
 have hw:Region.wanted o (yielded ops a.tmps)=true:=by simp[Region.wanted,hg]
 rw[if_pos hw];subst hm;obtain⟨B,l,y,z,A⟩:=info_parts zf7
 refine wp_append_own w s x 43 q H 184 B (.int .u64 0) 1 8 Tryz.underlying43 l y z A rfl (by decide) v n _ r i d xs.length c (wcells xs) t (by rw[zdA];omega) p (zgf xs)
  (by unfold maxLen;have:=zaP;omega) (by have:=zaP;omega) f fun b w' e k _=>?_
 rw[←zia]at e;exact g b w' e k
namespace Qt
theorem zrL(b:ys.length=L+1):nval ys=nval (ys.take L)+B64^L*wd ys L:=by
 have h:=zaY ys L (by omega);have a:ys.drop L=[wd ys L]:=by
  rw[List.drop_eq_getElem_cons (by omega),List.drop_of_length_le (by omega)];unfold wd;rw[List.getD_eq_getElem?_getD,List.getElem?_eq_getElem (by omega)];rfl
 rw[a]at h;simpa[nval]using h
theorem zqo{top:Nat}(hw:Wds ys)(i:ys.length=L+1)(c:wd ys L=top)(h0:0<top)(p:64-blen top=s) :
  nval ys*2^s<B64^(L+1)∧2^63*B64^L≤nval ys*2^s:=by
 have e:=zrL i;rw[c]at e;have o:=zlm ys L hw;have k:top<18446744073709551616:=by rw[←c];exact zdM hw L
 have l:=zmT k;have m:=zhl h0;have h1:top<2^blen top:=zil.1 (Nat.le_refl _);have g:2^(blen top-1)≤top:=znL.1 (by omega);have f:2^blen top*2^s=B64:=by rw[←Nat.pow_add,show blen top+s=64 by omega]
 have d:2^(blen top-1)*2^s=2^63:=by rw[←Nat.pow_add,show blen top-1+s=63 by omega]
 have j:0<2^s:=Nat.pow_pos (by decide);constructor
 ·have b:nval ys<B64^L*2^blen top:=by
   have:B64^L*(top+1)≤B64^L*2^blen top:=Nat.mul_le_mul_left _ h1;rw[Nat.mul_add,Nat.mul_one]at this;omega
  have a:=Nat.mul_lt_mul_of_pos_right b j;rw[Nat.mul_assoc,f]at a;rw[Nat.pow_succ];exact a
 ·have b:B64^L*2^(blen top-1)≤nval ys:=by
   have:B64^L*2^(blen top-1)≤B64^L*top:=Nat.mul_le_mul_left _ g;omega
  have a:=Nat.mul_le_mul_right (2^s) b;rw[Nat.mul_assoc,d]at a;rw[Nat.mul_comm];exact a
theorem zxq(hw:Wds vs)(hc:Canon vs)(b:nval vs=N)(h1:N<B64^(L+1))(c:2^63*B64^L≤N):vs.length=L+1∧9223372036854775808≤wd vs L:=by
 have f:=zk7 vs hw hc;have k:0<B64^L:=Nat.pow_pos (by decide);have a:vs.length=L+1:=by
  rw[f,b];have g:=zaZ h1;have i:¬wlen N≤L:=by
   rw[zfP];have:1*B64^L≤2^63*B64^L:=Nat.mul_le_mul_right _ (by decide);omega
  omega
 refine⟨a,?_⟩;have e:=zrL a;have j:=zlm vs L hw;rw[b]at e;rcases Nat.lt_or_ge (wd vs L) 9223372036854775808 with h | h
 ·exfalso
  have d:B64^L*(wd vs L+1)≤B64^L*2^63:=Nat.mul_le_mul_left _ h;rw[Nat.mul_add,Nat.mul_one]at d;rw[Nat.mul_comm (2^63)]at c;omega
 ·exact h
theorem zw3(m:us.length=n+1)(k:nval us=a*2^s)(d:a<B64^n)(l:s<64)(j:L+1≤n)(f:2^63*B64^L≤nval vs):nval (us.drop (n-L))<nval vs:=by
 have e:=zaY us (n-L) (by omega);have h1:a*2^s<B64^n*2^s:=Nat.mul_lt_mul_of_pos_right d (Nat.pow_pos (by decide));have b:B64^n=B64^(n-L)*B64^L:=by rw[←Nat.pow_add];congr 1;omega
 have c:B64^(n-L)*nval (us.drop (n-L))<B64^(n-L)*(B64^L*2^s):=by
  rw[←Nat.mul_assoc,←b];omega
 have g:=Nat.lt_of_mul_lt_mul_left c;have i:B64^L*2^s≤B64^L*2^63:=Nat.mul_le_mul_left _ (Nat.pow_le_pow_right (by decide) (by omega));rw[Nat.mul_comm (2^63)]at f;omega
theorem zA6(h1:n≤xs.length)(b:xs.length≤n+1):nval ((xs++[0,0]).take (n+1))=nval xs∧((xs++[0,0]).take (n+1)).length=n+1:=by
 have a:((xs++[0,0]).take (n+1)).length=n+1:=by rw[List.length_take,List.length_append];simp;omega
 refine⟨?_,a⟩;rw[List.take_append,zc7];rw[List.take_of_length_le (show xs.length≤n+1 by omega)];have:nval (([0,0]:List Nat).take (n+1-xs.length))=0:=by
  rcases(show n+1-xs.length=0∨n+1-xs.length=1 by omega)with h | h<;>rw[h]<;>rfl
 rw[this];simp
theorem unshift{r:Nat}(h:r+b*2^s*q=a*2^s)(e:r<b*2^s):q=a/b∧r/2^s=a%b:=by
 have f:0<2^s:=Nat.pow_pos (by decide);have k:2^s∣r:=by
  have h1:2^s∣a*2^s:=Nat.dvd_mul_left _ _;have g:2^s∣b*2^s*q:=Nat.dvd_trans (Nat.dvd_mul_left _ _) (Nat.dvd_mul_right _ _);rw[←h]at h1;exact(Nat.dvd_add_left g).1 h1
 obtain⟨t,rfl⟩:=k;have i:2^s*(t+b*q)=2^s*a:=by
  rw[Nat.mul_comm _ a,←h];grind
 have c:=Nat.eq_of_mul_eq_mul_left f i;have d:t<b:=by
  rw[Nat.mul_comm b]at e;exact Nat.lt_of_mul_lt_mul_left e
 rw[Nat.mul_div_cancel_left _ f];have j:0<b:=by omega
 constructor
 ·rw[←c,Nat.add_mul_div_left _ _ j,Nat.div_eq_of_lt d];simp
 ·rw[←c,Nat.add_mul_mod_self_left,Nat.mod_eq_of_lt d]
structure DS (w wr:World) (H G gv n nq cu:Nat) (us qs vs:List Nat) (Av:OA) (cv:Nat):Prop where
  u:wr.ownsRow H 184 1 (H,n+1,cu) (n+1) (wcells us)
  q:wr.ownsRow G 184 1 (G,nq,nq) nq (wcells qs)
  v:wr.heap[gv]? = some (.cells #[(Av,vs.length,cv)] 45 (0,0))
  sv:SW wr (Av,vs.length,cv) vs
  r2:wr.heap[w.heap.size+1+1]? = some (.cells #[()] 45 (0,0))
  r3:wr.heap[w.heap.size+1+1+1]? = some (.cells #[()] 45 (0,0))
  bel:Below w.heap.size w wr
structure DF (w:World) (H G gv:Nat) (v:Value):Prop where
  hg:H<G
  gh:gv<H
  hw:w.heap.size+4≤gv
  vh:v.ownBlock≠some H
  vg:v.ownBlock≠some G
namespace DS
variable {w wr w':World} {H G gv n nq cu:Nat} {us qs us' qs' vs:List Nat} {Av:OA} {cv:Nat}
theorem step(h:DS w wr H G gv n nq cu us qs vs Av cv)(a:Below wr.heap.size wr w'):DS w w' H G gv n nq cu us qs vs Av cv :=
 ⟨zfF h.u a,zfF h.q a,zad a h.v,h.sv.below a,zad a h.r2,zad a h.r3,h.bel.trans (a.mono h.bel.size)⟩
theorem blk{o:Obj}(h:wr.heap[x]? = some o)(hg:wr.grownBy w' (some H))(a:x≠H):w'.heap[x]? = some o :=
 (hg.block x (Array.getElem?_eq_some_iff.1 h).1 (fun e=>a (Option.some.inj e))).trans h
theorem turnU(h:DS w wr H G gv n nq cu us qs vs Av cv)(f:DF w H G gv (Av,vs.length,cv))(hg:wr.grownBy w' (some H))(a:w'.ownsRow H 184 1 (H,n+1,cu) (n+1) (wcells us')):DS w w' H G gv n nq cu us' qs vs Av cv :=
 ⟨a,h.q.kept hg (.inr (by have:=f.hg;simp[Value.ownBlock];omega)),blk h.v hg (by have:=f.gh;omega),
  h.sv.keep fun k hk=>hg.block k (h.sv.block hk) (fun e=>f.vh (by rw[hk,e])),
  blk h.r2 hg (by have:=f.gh;have:=f.hw;omega),blk h.r3 hg (by have:=f.gh;have:=f.hw;omega),
  h.bel.grown hg h.bel.size (fun k hk=>by cases hk;have:=f.gh;have:=f.hw;omega)⟩
theorem turnQ(h:DS w wr H G gv n nq cu us qs vs Av cv)(f:DF w H G gv (Av,vs.length,cv))(hg:wr.grownBy w' (some G))(a:w'.ownsRow G 184 1 (G,nq,nq) nq (wcells qs')):DS w w' H G gv n nq cu us qs' vs Av cv :=
 ⟨h.u.kept hg (.inr (by have:=f.hg;simp[Value.ownBlock];omega)),a,blk h.v hg (by have:=f.gh;have:=f.hg;omega),
  h.sv.keep fun k hk=>hg.block k (h.sv.block hk) (fun e=>f.vg (by rw[hk,e])),
  blk h.r2 hg (by have:=f.gh;have:=f.hg;have:=f.hw;omega),blk h.r3 hg (by have:=f.gh;have:=f.hg;have:=f.hw;omega),
  h.bel.grown hg h.bel.size (fun k hk=>by cases hk;have:=f.gh;have:=f.hg;have:=f.hw;omega)⟩
theorem setQ(h:DS w wr H G gv n nq cu us qs vs Av cv)(f:DF w H G gv (Av,vs.length,cv))(k x:Nat):DS w (wr.setCell ⟨G,k,none⟩ (.int .u64 (x:Int))) H G gv n nq cu us (qs.set k x) vs Av cv :=
 h.turnQ f (h.q.stored k _).2 (by rw[ziN];exact(h.q.stored k _).1)
theorem cellU(h:DS w wr H G gv n nq cu us qs vs Av cv)(a:us.length=n+1)(hk:k<n+1):wr.cell? ⟨H,k,none⟩=some (.int .u64 ((wd us k:Nat):Int)):=by
 rw[h.u.cellAt k (by omega),zeu (by omega)]
theorem cellQ(h:DS w wr H G gv n nq cu us qs vs Av cv)(a:qs.length=nq)(hk:k<nq):wr.cell? ⟨G,k,none⟩=some (.int .u64 ((wd qs k:Nat):Int)):=by
 rw[h.q.cellAt k (by omega),zeu (by omega)]
theorem cellV(h:DS w wr H G gv n nq cu us qs vs Av cv):wr.cell? ⟨gv,0,none⟩=some (Av,vs.length,cv):=zac h.v 0
theorem swQ(h:DS w wr H G gv n nq cu us qs vs Av cv)(a:qs.length=nq)(hw:Wds qs):SW wr (G,nq,nq) qs:=by
 subst a;exact SW.of_own h.q hw
theorem swU(h:DS w wr H G gv n nq cu us qs vs Av cv)(b:us.length=n+1)(hw:Wds us):SW wr (H,n+1,cu) us:=by
 have a:=h.u;rw[←b]at a ⊢;exact SW.of_own a hw
theorem outC(h:DS w wr H G gv n nq cu us qs vs Av cv)(a:us.length=n+1):OutC wr wr H (n+1) cu us:=⟨h.u,⟨rfl,rfl,rfl,Nat.le_refl _,fun _ _ _=>rfl⟩,a⟩
theorem ofOut(h:DS w wr H G gv n nq cu us qs vs Av cv)(f:DF w H G gv (Av,vs.length,cv))(o:OutC wr w' H (n+1) cu us'):DS w w' H G gv n nq cu us' qs vs Av cv:=h.turnU f o.bel o.own
end DS
theorem zvl(W:World)(g n c k j:Nat)(K:Int)(b:K=(j:Int))(h1:k≤j)(f:j≤c)(i:k<c) :
  (Instr.slice 43 (g,n,c) (some (.int .i64 (k:Int))) (some (.int .i64 K)) none).run Tryz.prog W=.ok (.slice (some ⟨g,k,none⟩) (j-k) (c-k)) W:=by
 subst b;have e:Tryz.prog.underlying 43=some (.slice (Tryz.prog.elem 43)):=by simp[Program.elem,Tryz.underlying43]
 have d:Tryz.prog.elem 43=184:=by simp[Program.elem,Tryz.underlying43]
 rw[run_slice_lh W 43 _ _ _ e .i64 .i64 _ _ (by omega) (by omega) (by omega),d];have h0:c≠k:=by omega
 by_cases a:k=0
 ·subst a;simp[Result.andThen,sliced,Addr.add,h0]
 ·simp[Result.andThen,sliced,Addr.add,h0,a]
theorem zmb{os zs:List Nat}(h:za8 us os a b)(k:za8 os zs a b):za8 us zs a b:=⟨k.1.trans h.1,fun j hj=>(k.2 j hj).trans (h.2 j hj)⟩
theorem zqw{nq:Nat}{a:List Nat}(b:LdInv N (nval vs) us qs (k+1))(d:Window us vs k)(j:Wds vs)(hm:2≤vs.length)(hk:k<qs.length)(f:k≤us.length)(l:9223372036854775808≤wd vs (vs.length-1))
  (hg:GuessIs (wd us (k+vs.length)) (wd us (k+vs.length-1)) (wd us (k+vs.length-2)) (wd vs (vs.length-1)) (wd vs (vs.length-2)) q)
  (i:za8 us a k (k+vs.length+1)) (g:Wds a) (c:nval a+B64^k*(q*nval vs)=nval us+B64^(k+vs.length+1)*0):LdInv N (nval vs) a (qs.set k q) k:=by
 have _:=nq;have e:=d.guess b.wu j hm (by unfold wd at l;omega) hg;rw[Nat.mul_zero,Nat.add_zero]at c;exact b.step hk f i g c e.1 hg.lt
theorem zsu{a d:List Nat}(e:LdInv N (nval vs) us qs (k+1))(b:Window us vs k)(v:Wds vs)(hm:2≤vs.length)(hk:k<qs.length)(f:k≤us.length)(x:9223372036854775808≤wd vs (vs.length-1))
  (hg:GuessIs (wd us (k+vs.length)) (wd us (k+vs.length-1)) (wd us (k+vs.length-2)) (wd vs (vs.length-1)) (wd vs (vs.length-2)) q)
  (i:za8 us a k (k+vs.length+1)) (t:Wds a) (j:nval a+B64^k*(q*nval vs)=nval us+B64^(k+vs.length+1)*1)
  (m:za8 a d k (k+vs.length+1)) (l:Wds d) (p:nval d+B64^(k+vs.length+1)*c=nval a+B64^k*nval vs):LdInv N (nval vs) d ((qs.set k q).set k (q-1)) k∧0<q:=by
 have r:=b.guess e.wu v hm (by unfold wd at x;omega) hg;have s:¬q*nval vs≤nval (us.drop k):=fun h=>by
  have:=zo6 b t i f j (Nat.le_refl 1) h;omega
 have g:0<q:=by
  rcases Nat.eq_zero_or_pos q with h | h
  ·subst h;simp at s
  ·exact h
 have u:=(b.z.lt e.wu).2;have o:=ztX b l (zmb i m) f j p g r.2 u;refine⟨?_,g⟩;rw[List.set_set];exact e.step hk f (zmb i m) l o (by rw[Nat.sub_add_cancel g];omega) (by have:=hg.lt;omega)
