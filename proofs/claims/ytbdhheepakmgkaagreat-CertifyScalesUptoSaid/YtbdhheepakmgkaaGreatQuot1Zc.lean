/- Contracts and lemmas: Quot1 Quot2 Quot3 Quot4 Quot5. Conditions: as each says. -/
import Derived.Test.YtbdhheepakmgkaaGreatProd2Zc
set_option linter.all false
set_option maxHeartbeats 1000000
set_option maxRecDepth 100000
namespace Go.Proofs.YtbdhheepakmgkaaGreat
open Go.RowKit Am
open Lib (hid)
attribute [local go_sem ↓] Go.wp_at_zero Go.wp_at_succ
namespace Qt
def zsP (w:World) (q r:Nat) (b:Bool) (e:Ending) (w':World):Prop:=∃(A:OA) (m c:Nat),e=.returned (.tuple #[.agg #[.slice A m c],.int .u64 (r:Int),.bool b])∧zas w' (.slice A m c) q∧Below w.heap.size w w'
theorem zCw(A:OA)(m c a x:Nat)(w:World)(D:zas w (.slice A m c) a)(J:0<x)(hx:x<18446744073709551616)(r:wlen a≤LIM) :
  Calls Tryz.prog 127 #[.agg #[.slice A m c],.int .u64 (x:Int)] w (zsP w (a/x) (a%x) true):=by
 obtain⟨xs,N,ae,rfl,E,rfl⟩:=D.words;rw[←E]at r;have f:=hid N;have U:=hid r;have aq:((x:Int) == 0)=false:=by rw[beq_eq_false_iff_ne];omega
 have ap:xs.length≤9223372036854775806:=by have:=zaP;omega
 have g1:=hid (show xs.length≤16*LIM by have:=zaP;omega);clear D N ae E r;go_enter Tryz.func127,Tryz.ntmps127;go_wp2_with fail
 refine(Nt.len (.slice A xs.length c) xs _ ((f.out.alloc _).alloc _)).mono ?_;rintro e w' ⟨rfl,rfl⟩;have B:(((w.alloc (.cells #[.slice A xs.length c] 43)).alloc (.cells #[.slice none 0 0] 43)).alloc (.cells #[.slice A xs.length c] 43)).cell? ⟨w.heap.size,0,none⟩=some (.slice A xs.length c):=cell_al (cell_al (zax rfl rfl))
 have O:(((w.alloc (.cells #[.slice A xs.length c] 43)).alloc (.cells #[.slice none 0 0] 43)).alloc (.cells #[.slice A xs.length c] 43)).heap[w.heap.size+1]? = some (.cells #[.slice none 0 0] 43 (0,0)):=zak (zam (by simp));have kb:Below w.heap.size w (((w.alloc (.cells #[.slice A xs.length c] 43)).alloc (.cells #[.slice none 0 0] 43)).alloc (.cells #[.slice A xs.length c] 43)):=al2 (al2 (zae w _) _) _
 have P:(((w.alloc (.cells #[.slice A xs.length c] 43)).alloc (.cells #[.slice none 0 0] 43)).alloc (.cells #[.slice A xs.length c] 43)).heap.size=w.heap.size+1+1+1:=by simp
 have M:=f.out.below kb;generalize ((w.alloc (.cells #[.slice A xs.length c] 43)).alloc (.cells #[.slice none 0 0] 43)).alloc (.cells #[.slice A xs.length c] 43)=W at *
 have z:=hid M;have Q:=hid O;have S:=hid kb;have d:=hid P;clear M O kb P;go_wp2_with (at_make;go_must (refine zdz rfl _ _ rfl xs.length _ rfl rfl rfl g1.out W.heap.size rfl ?_))
 intro w1 s;have y:=hid s;have c1:=s.old (by have:=d.out;omega) B;clear s;go_wp2_with (go_at_call 81;(with_reducible refine(Nt.len (.slice A xs.length c) xs _ (y.out.keep z.out (Nat.le_refl _))).mono ?_);rintro e w' ⟨rfl,rfl⟩)
 have C:=y.out.alloc (.cells #[.slice A xs.length c] 43);have V:=hid C;clear C c1
 go_loopw [8,9] (fun lv t wr=>∃(K:Int) (j L:Nat) (os:List Nat),t=.int .i64 K∧lv=.int .u64 L∧K+1=j∧j≤xs.length∧DivWInv xs os x j L∧OutAt W wr W.heap.size xs.length os)
  (fun _ t _=>(intOf t+1).toNat)
 case atStart=>exact⟨_,xs.length,0,List.replicate xs.length 0,rfl,rfl,by omega,Nat.le_refl _,DivWInv.start xs x xs.length xs.length J (Nat.le_refl _) (Nat.le_refl _),V.out⟩
 case round =>
  obtain⟨K,j,L,os,rfl,rfl,hK,hj,o,b⟩:=hrel;have i:=hid o;have q:=o.lft;clear o;rcases j with _ | p
  ·obtain rfl:K = -1:=by omega
   have g:=i.out.eq;rw[List.drop_zero,List.drop_zero]at g;have F:nval os=nval xs/x:=by rw[g,Nat.mul_add_div J,Nat.div_eq_of_lt q,Nat.add_zero]
   have hr:L=nval xs%x:=by rw[g,Nat.mul_add_mod,Nat.mod_eq_of_lt q]
   have X:=hid F;have Y:=hid hr;have G:=b.sw i.out.wds;have Z:=hid G;have u:=hid b.bel;have T:=hid b.len;have I:=b.lt;clear g F hr G b;go_wp2_with fail
   refine(Nt.of _ os _ Z.out.reads (by rw[T.out];exact U.out)).mono ?_;rintro e w3 ⟨A2,m2,c2,rfl,hs2,hb2⟩;have hk:=zad hb2 ((u.out.block (w.heap.size+1) (by have:=d.out;omega)).trans Q.out);have hc:w3.cell? ⟨w.heap.size+1,0,none⟩=some (.slice none 0 0):=zac hk 0;have hf:=zag hk 0;have R:=hid hk;clear hk;go_wp2;refine bodyPost_ret (v:=.tuple #[.agg #[.slice A2 m2 c2],.int .u64 (L:Int),.bool true]) (by simp[results,Tryz.results127,go_sem,hc]) rfl ?_;rw[X.out]at hs2;rw[Y.out]
   refine⟨_,_,_,rfl,hs2.setCell (p:=⟨w.heap.size+1,0,none⟩) R.out (by decide) _,Below.setCell ?_ (by simp) _⟩;exact bstep (S.out.trans (u.out.mono (by have:=d.out;omega))) hb2 (by have:=d.out;omega)
  ·obtain rfl:K=(p:Int):=by omega
   have ac:=hid (b.keep z.out (Nat.le_refl _));have am:=b.old (by have:=d.out;omega) B;have ad:=b.cell (k:=p) (by omega);have af:=b.fro p;have ah:=zdM f.out.2 p;have I:=b.lt;have q1:=cell_al (ob:=.cells #[.slice A xs.length c] 43) ad;have q2:=zd1 (ob:=.cells #[.slice A xs.length c] 43) I af;have l:=hid b;have ag:(0:Int)≤(p:Int):=Int.natCast_nonneg _;have ao:(p:Int)<(xs.length:Int):=by omega
   clear b
   go_wp2_with (first
    | (go_at_call 110;(with_reducible refine(Nt.word (.slice A xs.length c) xs _ ag _ ac.out).mono ?_);rintro e w' ⟨rfl,rfl⟩)
    | (go_at_call 136;(refine(Word.div_ok L (wd xs p) x q ah hx _).mono ?_);rintro e w' ⟨rfl,nd,rfl⟩))
   refine⟨⟨_,p,_,_,rfl,rfl,by omega,by omega,i.out.next (by rw[l.out.len];omega) f.out.2,?_⟩,by simp[intOf]⟩
   first
    | exact((l.out.alloc _).drewN _).store p _
    | exact((l.out.alloc _).store p _).drewN _
end Qt
namespace Qt
theorem zhR(q v0 r u0:Nat)(h0:u0<18446744073709551616):(zdw q v0 0 0<r∨zdw q v0 0 0=r∧zdo q v0 0 0≤u0)↔q*v0≤r*B64+u0:=by
 unfold zdw zdo;simp only[Nat.add_zero];generalize q*v0=P;have:=Nat.div_add_mod P B64;have a:B64=18446744073709551616:=rfl;have b:=Nat.mod_lt P (show 0<B64 by decide);rw[a]at *
 omega
theorem zmQ{x y:Nat}(h:(((zlD x y 0:Nat):Int) == 1)=true):B64≤x+y:=by
 have h1:zlD x y 0=1:=by have:=eq_of_beq h;omega
 unfold zlD at h1;have a:B64=18446744073709551616:=rfl;rw[a]at h1 ⊢;omega
theorem zpz{x y:Nat}(c:x<18446744073709551616)(d:y<18446744073709551616)(h:(((zlD x y 0:Nat):Int) == 1)=false):zjj x y 0=x+y∧x+y<18446744073709551616:=by
 have h1:¬zlD x y 0=1:=by have:=ne_of_beq_false h;omega
 unfold zlD at h1;unfold zjj;have a:B64=18446744073709551616:=rfl;rw[a]at h1 ⊢;have b:(x+y+0)/18446744073709551616=0:=by omega
 omega
theorem zdN{q:Nat}(h:0<q)(a:q<18446744073709551616):IntKind.u64.wrap ((q:Int)-1)=((q-1:Nat):Int):=by
 rw[IntKind.wrap_u64];omega
theorem guess(u2 u1 u0 v1 v0:Nat)(w:World)(x:u2≤v1)(h1:u1<18446744073709551616)(h0:u0<18446744073709551616)(y:9223372036854775808≤v1)(i:v1<18446744073709551616)(c:v0<18446744073709551616) :
    Calls Tryz.prog 130 #[.int .u64 (u2:Int),.int .u64 (u1:Int),.int .u64 (u0:Int),.int .u64 (v1:Int),.int .u64 (v0:Int)] w fun e w'=>(∃q:Nat,e=.returned (.int .u64 (q:Int))∧GuessIs u2 u1 u0 v1 v0 q)∧∃n,w'=w.drewN n:=by
  rcases Nat.lt_or_ge u2 v1 with hlt | hge
  · have k:=hid (GuessInv.start u2 u1 u0 v1 v0 hlt h1 h0);go_enter Tryz.func130,Tryz.ntmps130
    go_wp2_with (first
      | (go_at_call 136;(refine(Word.div_ok u2 u1 v1 hlt h1 i _).mono ?_);rintro e w' ⟨rfl,nd,rfl⟩))
    go_loopw [11,12] (fun j t wr=>∃(q r n:Nat),j=.int .u64 (q:Int)∧t=.int .u64 (r:Int)∧GuessInv u2 u1 u0 v1 v0 q r∧r<18446744073709551616∧wr=w.drewN n) (fun j _ _=>(intOf j).toNat)
    case atStart=>exact⟨_,_,nd,rfl,rfl,k.out,by unfold zBV;exact Nat.lt_of_lt_of_le (Nat.mod_lt _ (by omega)) (by omega),rfl⟩
    case round =>
      obtain⟨q,r,n,rfl,rfl,d,hr,rfl⟩:=hrel;have b:=d.lt;have m:=hid d;clear d k;by_cases hc:q*v0≤r*B64+u0
      · have s:=hid (m.out.done c (.inl hc));have p:=(zhR q v0 r u0 h0).2 hc;clear hc
        go_wp2_with (first
          | (go_at_call 124;(refine(Word.mul q v0 b c _).mono ?_);rintro e w' ⟨rfl,rfl⟩))
        all_goals first
          | exact bodyPost_ret (v:=.int .u64 (q:Int)) (by simp[results,Tryz.results130,go_sem]) rfl ⟨⟨q,rfl,s.out⟩,n,rfl⟩
          | (exfalso;omega)
      · have f:=m.out.down (by omega);have g:=f.2;have l:=hid f.1;have p:¬(zdw q v0 0 0<r∨zdw q v0 0 0=r∧zdo q v0 0 0≤u0):=fun h=>hc ((zhR q v0 r u0 h0).1 h)
        clear hc f
        go_wp2_with (first
          | (go_at_call 124;(refine(Word.mul q v0 b c _).mono ?_);rintro e w' ⟨rfl,rfl⟩)
          | (go_at_call 112;(refine(Word.add r v1 0 hr i (by decide) _).mono ?_);rintro e w' ⟨rfl,rfl⟩))
        all_goals first
          | (have a:=zmQ (by assumption)
             exact bodyPost_ret (v:=.int .u64 (IntKind.u64.wrap ((q:Int)-1))) (by simp[results,Tryz.results130,go_sem]) rfl ⟨⟨q-1,by rw[zdN g b],l.out.done c (.inr a)⟩,n,rfl⟩)
          | (have a:=zpz hr i (by assumption)
             refine⟨⟨q-1,r+v1,n,by rw[zdN g b],by rw[a.1],l.out,a.2,rfl⟩,?_⟩;rw[zdN g b];simp only[intOf];omega)
  · have u:u2=v1:=by omega
    have k:=hid (show GuessInv u2 u1 u0 v1 v0 (B64-1) (u1+v1)by rw[u];exact GuessInv.start' u1 u0 v1 v0);clear u;go_enter Tryz.func130,Tryz.ntmps130
    go_wp2_with (first
      | (go_at_call 136;(refine(Word.div_no u2 u1 v1 hge _).mono ?_);rintro e w' ⟨rfl,rfl⟩)
      | (go_at_call 112;(refine(Word.add u1 v1 0 h1 i (by decide) _).mono ?_);rintro e w' ⟨rfl,rfl⟩))
    · have a:=zmQ (by assumption);exact bodyPost_ret (v:=.int .u64 18446744073709551615) (by simp[results,Tryz.results130,go_sem]) rfl ⟨⟨B64-1,rfl,k.out.done c (.inr a)⟩,0,rfl⟩
    · have o:(((zlD u1 v1 0:Nat):Int) == 1)=false:=by assumption
      have a:=hid (zpz h1 i o);simp only[o];clear o;go_loopw [11,12] (fun j t wr=>∃(q r n:Nat),j=.int .u64 (q:Int)∧t=.int .u64 (r:Int)∧GuessInv u2 u1 u0 v1 v0 q r∧r<18446744073709551616∧wr=w.drewN n) (fun j _ _=>(intOf j).toNat)
      case atStart=>exact⟨B64-1,u1+v1,0,rfl,by rw[a.out.1],k.out,a.out.2,rfl⟩
      case round =>
        obtain⟨q,r,n,rfl,rfl,d,hr,rfl⟩:=hrel;have b:=d.lt;have m:=hid d;clear d k;by_cases hc:q*v0≤r*B64+u0
        · have s:=hid (m.out.done c (.inl hc));have p:=(zhR q v0 r u0 h0).2 hc;clear hc
          go_wp2_with (first
            | (go_at_call 124;(refine(Word.mul q v0 b c _).mono ?_);rintro e w' ⟨rfl,rfl⟩))
          all_goals first
            | exact bodyPost_ret (v:=.int .u64 (q:Int)) (by simp[results,Tryz.results130,go_sem]) rfl ⟨⟨q,rfl,s.out⟩,n,rfl⟩
            | (exfalso;omega)
        · have f:=m.out.down (by omega);have g:=f.2;have l:=hid f.1;have p:¬(zdw q v0 0 0<r∨zdw q v0 0 0=r∧zdo q v0 0 0≤u0):=fun h=>hc ((zhR q v0 r u0 h0).1 h)
          clear hc f
          go_wp2_with (first
            | (go_at_call 124;(refine(Word.mul q v0 b c _).mono ?_);rintro e w' ⟨rfl,rfl⟩)
            | (go_at_call 112;(refine(Word.add r v1 0 hr i (by decide) _).mono ?_);rintro e w' ⟨rfl,rfl⟩))
          all_goals first
            | (have a:=zmQ (by assumption)
               exact bodyPost_ret (v:=.int .u64 (IntKind.u64.wrap ((q:Int)-1))) (by simp[results,Tryz.results130,go_sem]) rfl ⟨⟨q-1,by rw[zdN g b],l.out.done c (.inr a)⟩,n,rfl⟩)
            | (have a:=zpz hr i (by assumption)
               refine⟨⟨q-1,r+v1,n,by rw[zdN g b],by rw[a.1],l.out,a.2,rfl⟩,?_⟩;rw[zdN g b];simp only[intOf];omega)
end Qt
structure OutC (w w1:World) (H n cp:Nat) (os:List Nat):Prop where
  own:w1.ownsRow H 131 1 (.slice (some ⟨H,0,none⟩) n cp) n (wcells os)
  bel:w.grownBy w1 (some H)
  len:os.length=n
theorem zse{w w1 w2:World}{r:Option Nat}(h:w.grownBy w1 r)(a:Below w1.heap.size w1 w2):w.grownBy w2 r :=
 ⟨a.os.trans h.os,a.tape.trans h.tape,a.output.trans h.output,Nat.le_trans h.size a.size,fun k hk hr=>(a.block k (Nat.lt_of_lt_of_le hk h.size)).trans (h.block k hk hr)⟩
theorem zqf{a b c:World}{r:Option Nat}(h:a.grownBy b r)(k:b.grownBy c r):a.grownBy c r :=
 ⟨k.os.trans h.os,k.tape.trans h.tape,k.output.trans h.output,Nat.le_trans h.size k.size,fun i d hr=>(k.block i (Nat.lt_of_lt_of_le d h.size) hr).trans (h.block i d hr)⟩
namespace OutC
variable {w w1 w2:World} {H n cp:Nat} {os:List Nat}
theorem lt(h:OutC w w1 H n cp os):H<w1.heap.size:=(h.own.lt H rfl).2
theorem step(h:OutC w w1 H n cp os)(a:Below w1.heap.size w1 w2):OutC w w2 H n cp os :=
 ⟨⟨h.own.1,by
   rcases h.own.2 with h2 | ⟨g,cap,cur,hv,hg,hh,r⟩
   ·exact .inl h2
   ·exact .inr ⟨g,cap,cur,hv,hg,by rw[a.block g (Array.getElem?_eq_some_iff.1 hh).1];exact hh,r⟩⟩,zse h.bel a,h.len⟩
theorem alloc(h:OutC w w1 H n cp os)(o:Obj):OutC w (w1.alloc o) H n cp os:=h.step (zae w1 o)
theorem drewN(h:OutC w w1 H n cp os)(k:Nat):OutC w (w1.drewN k) H n cp os:=h.step (zap w1 k)
theorem drew(h:OutC w w1 H n cp os):OutC w w1.drew H n cp os:=h.drewN 1
theorem store(h:OutC w w1 H n cp os)(k v:Nat):OutC w (w1.setCell ⟨H,k,none⟩ (.int .u64 (v:Int))) H n cp (os.set k v) :=
 ⟨by rw[ziN];exact(h.own.stored k _).1,zqf h.bel (h.own.stored k _).2,by rw[List.length_set];exact h.len⟩
theorem cell(h:OutC w w1 H n cp os){k:Nat}(hk:k<n):w1.cell? ⟨H,k,none⟩=some (.int .u64 ((wd os k:Nat):Int)):=by
 rw[h.own.cellAt k (by omega),zeu (by rw[h.len];exact hk)]
theorem fro(h:OutC w w1 H n cp os)(k:Nat):w1.frozen? ⟨H,k,none⟩=false:=h.own.frozenAt k
theorem keep(h:OutC w w1 H n cp os){s:Value}{xs:List Nat}(a:SW w s xs)(b:s.ownBlock≠some H):SW w1 s xs :=
 a.keep fun k hk=>h.bel.block k (a.block hk) (fun e=>b (by rw[hk,e]))
theorem sw(h:OutC w w1 H n cp os)(hw:Wds os):SW w1 (.slice (some ⟨H,0,none⟩) n cp) os:=by
 have:=h.own;have a:=h.len;subst a;exact SW.of_own this hw
end OutC
theorem zH8(b:Nat):((b:Int) == 1)=(b == 1):=by
 by_cases h:b=1
 ·subst h;rfl
 ·rw[beq_eq_false_iff_ne.2 h,beq_eq_false_iff_ne.2 (by omega)]
namespace Qt
theorem take(W w:World)(H n m k cp q:Nat)(os vs:List Nat)(A:OA)(c:Nat)(a:OutC W w H n m os)(G:SW W (.slice A vs.length c) vs)(o:(Value.slice A vs.length c).ownBlock≠some H)(E:Wds os)(F:q<18446744073709551616)(hk:k+vs.length<n)(_:vs.length+1≤cp)(Y:n≤2*LIM) :
    Calls Tryz.prog 131 #[.slice (some ⟨H,k,none⟩) (vs.length+1) cp,.agg #[.slice A vs.length c],.int .u64 (q:Int)] w fun e w'=>∃(b:Nat) (d:List Nat),e=.returned (.bool (b == 1))∧b≤1∧OutC W w' H n m d ∧
      Wds d∧za8 os d k (k+vs.length+1)∧nval d+B64^k*(q*nval vs)=nval os+B64^(k+vs.length+1)*b:=by
  have y:=hid a;have i:=hid G;have I:=hid E;have Z:vs.length≤9223372036854775806:=by have:=zaP;omega
  clear a G E;have r:OutC W (w.alloc (.cells #[.slice A vs.length c] 43)) H n m os:=y.out.alloc _;have s:(w.alloc (.cells #[.slice A vs.length c] 43)).cell? ⟨w.heap.size,0,none⟩=some (.slice A vs.length c):=zax rfl rfl;have X:=y.out.lt;go_enter Tryz.func131,Tryz.ntmps131;go_wp2_with fail
  generalize hw1:w.alloc (.cells #[.slice A vs.length c] 43)=w1 at *
  clear hw1;have P:w.heap.size≠H:=by omega
  generalize w.heap.size=B at *
  refine(Nt.len (.slice A vs.length c) vs _ (r.keep i.out o)).mono ?_;rintro e w' ⟨rfl,rfl⟩;have K:=hid (r.alloc (.cells #[.slice A vs.length c] 43));have L:=hid (cell_al (ob:=.cells #[.slice A vs.length c] 43) s);clear r s;generalize w1.alloc (.cells #[.slice A vs.length c] 43)=w2 at *
  go_wp2_with fail
  go_loopw [7,8,14] (fun S J x wr=>∃(j V f:Nat) (d:List Nat),x=.int .i64 j∧S=.int .u64 V∧J=.int .u64 f∧j≤vs.length∧TakeInv os d vs k q j V f∧OutC W wr H n m d∧wr.cell? ⟨B,0,none⟩=some (.slice A vs.length c))
    (fun _ _ x _=>vs.length-(intOf x).toNat)
  case atStart=>exact⟨0,0,0,os,rfl,rfl,rfl,Nat.zero_le _,TakeInv.start os vs k q I.out,K.out,L.out⟩
  case round =>
    obtain⟨j,V,f,d,rfl,rfl,rfl,hj,p,a,hc⟩:=hrel;have C:V<18446744073709551616:=p.ovr;have z:f≤1:=p.one;have g:=hid p;clear p;by_cases U:j<vs.length
    · have v:=hid (a.keep i.out o);have Q:=zdM i.out.2 j;have u:=zdM g.out.wds (k+j)

      have M:=cell_al (ob:=.cells #[.slice A vs.length c] 43) (a.cell (k:=k+j) (by omega));have N:=zd1 (ob:=.cells #[.slice A vs.length c] 43) a.lt (a.fro (k+j));have D:(0:Int)≤(j:Int):=Int.natCast_nonneg _;have O:(j:Int)<(vs.length:Int)+1:=by omega
      have l:=hid a;clear a
      go_wp2_with (first
        | (go_at_call 110;(with_reducible refine(Nt.word (.slice A vs.length c) vs _ D _ v.out).mono ?_);rintro e w' ⟨rfl,rfl⟩)
        | (go_at_call 109;(refine(Word.mulAdd (wd vs j) q V 0 Q F C (by decide) _).mono ?_);rintro e w' ⟨rfl,rfl⟩)
        | (go_at_call 113;(refine(Word.sub (wd d (k+j)) (zdo (wd vs j) q V 0) f u (zrG _ _ _ _) z _).mono ?_);rintro e w' ⟨rfl,rfl⟩))
      exact⟨⟨j+1,_,_,_,by go_num,rfl,rfl,by omega,g.out.next F i.out.2 (by rw[←g.out.out.1,l.out.len];omega),(l.out.alloc _).store (k+j) _,cell_set P (cell_al hc)⟩,by simp[intOf];omega⟩
    · obtain rfl:j=vs.length:=by omega
      have v:Hid (SW wr.drew (.slice A vs.length c) vs):=hid (a.drew.keep i.out o);have R:Hid (SW (wr.alloc (.cells #[.slice A vs.length c] 43)).drew (.slice A vs.length c) vs):=hid ((a.alloc (.cells #[.slice A vs.length c] 43)).drew.keep i.out o);have u:=zdM g.out.wds (k+vs.length)
      have M:((wr.alloc (.cells #[.slice A vs.length c] 43)).alloc (.cells #[.slice A vs.length c] 43)).drew.cell? ⟨H,k+vs.length,none⟩=some (.int .u64 ((wd d (k+vs.length):Nat):Int)):=cell_al (cell_al (a.cell (k:=k+vs.length) (by omega)));have N:((wr.alloc (.cells #[.slice A vs.length c] 43)).alloc (.cells #[.slice A vs.length c] 43)).drew.frozen? ⟨H,k+vs.length,none⟩=false:=zd1 (zxk a.lt) (zd1 a.lt (a.fro (k+vs.length)));have s:wr.drew.cell? ⟨B,0,none⟩=some (.slice A vs.length c):=hc
      have T:(wr.alloc (.cells #[.slice A vs.length c] 43)).drew.cell? ⟨B,0,none⟩=some (.slice A vs.length c):=cell_al hc;have D:(0:Int)≤(vs.length:Int):=Int.natCast_nonneg _;have O:(vs.length:Int)<(vs.length:Int)+1:=by omega
      have l:=hid a;clear a;go_wp2_with fail
      go_region_with (first
        | (go_at_call 81;(first | with_reducible refine(Nt.len (.slice A vs.length c) vs _ v.out).mono ?_ | with_reducible refine(Nt.len (.slice A vs.length c) vs _ R.out).mono ?_);rintro e w' ⟨rfl,rfl⟩)
        | (go_at_call 113;(refine(Word.sub (wd d (k+vs.length)) V f u C z _).mono ?_);rintro e w' ⟨rfl,rfl⟩))
      all_goals
        (go_wp2
         go_ret
         have t:=g.out.fin (by rw[←g.out.out.1,l.out.len];omega);exact⟨_,_,by rw[←zH8];rfl,zBo _ _ _,(((l.out.alloc _).alloc _).store (k+vs.length) _).drew,t.1,t.2.1,t.2.2⟩)
end Qt
namespace Qt
theorem back(W w:World)(H n m k cp:Nat)(os vs:List Nat)(A:OA)(c:Nat)(a:OutC W w H n m os)(D:SW W (.slice A vs.length c) vs)(o:(Value.slice A vs.length c).ownBlock≠some H)(z:Wds os)(hk:k+vs.length<n)(V:n≤2*LIM) :
    Calls Tryz.prog 132 #[.slice (some ⟨H,k,none⟩) (vs.length+1) cp,.agg #[.slice A vs.length c]] w fun e w'=>∃d:List Nat,e=.returned (.tuple #[])∧OutC W w' H n m d ∧
      Wds d∧za8 os d k (k+vs.length+1)∧∃b,nval d+B64^(k+vs.length+1)*b=nval os+B64^k*nval vs:=by
  have x:=hid a;have l:=hid D;have F:=hid z;have X:vs.length≤9223372036854775806:=by have:=zaP;omega
  clear a D z;have q:OutC W (w.alloc (.cells #[.slice A vs.length c] 43)) H n m os:=x.out.alloc _;have r:(w.alloc (.cells #[.slice A vs.length c] 43)).cell? ⟨w.heap.size,0,none⟩=some (.slice A vs.length c):=zax rfl rfl;have U:=x.out.lt;go_enter Tryz.func132,Tryz.ntmps132;go_wp2_with fail
  generalize hw1:w.alloc (.cells #[.slice A vs.length c] 43)=w1 at *
  clear hw1;have P:w.heap.size≠H:=by omega
  generalize w.heap.size=B at *
  refine(Nt.len (.slice A vs.length c) vs _ (q.keep l.out o)).mono ?_;rintro e w' ⟨rfl,rfl⟩;have K:=hid (q.alloc (.cells #[.slice A vs.length c] 43));have L:=hid (cell_al (ob:=.cells #[.slice A vs.length c] 43) r);clear q r;generalize w1.alloc (.cells #[.slice A vs.length c] 43)=w2 at *
  go_wp2_with fail
  go_loopw [4,8] (fun I u wr=>∃(j f:Nat) (d:List Nat),u=.int .i64 j∧I=.int .u64 f∧j≤vs.length∧BackInv os d vs k j f∧OutC W wr H n m d∧wr.cell? ⟨B,0,none⟩=some (.slice A vs.length c))
    (fun _ u _=>vs.length-(intOf u).toNat)
  case atStart=>exact⟨0,0,os,rfl,rfl,Nat.zero_le _,BackInv.start os vs k F.out,K.out,L.out⟩
  case round =>
    obtain⟨j,f,d,rfl,rfl,hj,p,a,hc⟩:=hrel;have J:f≤1:=p.one;have g:=hid p;clear p;by_cases T:j<vs.length
    · have t:Hid (SW wr.drew (.slice A vs.length c) vs):=hid (a.drew.keep l.out o);have Q:=zdM l.out.2 j;have C:=zdM g.out.wds (k+j);have R:wr.drew.cell? ⟨H,k+j,none⟩=some (.int .u64 ((wd d (k+j):Nat):Int)):=a.cell (k:=k+j) (by omega);have M:(wr.alloc (.cells #[.slice A vs.length c] 43)).drew.cell? ⟨H,k+j,none⟩=some (.int .u64 ((wd d (k+j):Nat):Int)):=cell_al (a.cell (k:=k+j) (by omega));have N:(wr.alloc (.cells #[.slice A vs.length c] 43)).drew.frozen? ⟨H,k+j,none⟩=false:=zd1 a.lt (a.fro (k+j))
      have r:wr.drew.cell? ⟨B,0,none⟩=some (.slice A vs.length c):=hc;have y:(0:Int)≤(j:Int):=Int.natCast_nonneg _;have O:(j:Int)<(vs.length:Int)+1:=by omega
      have S:(j:Int)<(vs.length:Int):=by omega
      have i:=hid a;have E:=hid hc;clear a hc;go_wp2_with fail
      go_region_with (first
        | (go_at_call 110;(with_reducible refine(Nt.word (.slice A vs.length c) vs _ y _ t.out).mono ?_);rintro e w' ⟨rfl,rfl⟩)
        | (go_at_call 112;(refine(Word.add (wd d (k+j)) (wd vs j) f C Q J _).mono ?_);rintro e w' ⟨rfl,rfl⟩))
      all_goals
        (go_wp2
         exact⟨⟨j+1,_,_,by go_num,rfl,by omega,g.out.next l.out.2 (by rw[←g.out.out.1,i.out.len];omega),((i.out.alloc _).store (k+j) _).drew,cell_set P (cell_al E.out)⟩,by simp[intOf];omega⟩)
    · obtain rfl:j=vs.length:=by omega
      have t:Hid (SW wr (.slice A vs.length c) vs):=hid (a.keep l.out o);have C:=zdM g.out.wds (k+vs.length);have M:=cell_al (ob:=.cells #[.slice A vs.length c] 43) (a.cell (k:=k+vs.length) (by omega));have N:=zd1 (ob:=.cells #[.slice A vs.length c] 43) a.lt (a.fro (k+vs.length));have y:(0:Int)≤(vs.length:Int):=Int.natCast_nonneg _;have O:(vs.length:Int)<(vs.length:Int)+1:=by omega
      have i:=hid a;clear a;have hw:IntKind.u64.wrap (((wd d (k+vs.length):Nat):Int)+((f:Nat):Int))=((zjj (wd d (k+vs.length)) f 0:Nat):Int):=by rw[IntKind.wrap_u64];unfold zjj B64;omega
      have G:=hid hw;clear hw;go_wp2_with fail
      refine(Nt.len (.slice A vs.length c) vs _ t.out).mono ?_;rintro e w' ⟨rfl,rfl⟩;go_wp2;rw[G.out];have s:=g.out.fin (by rw[←g.out.out.1,i.out.len];omega);exact bodyPost_end (v:=.tuple #[]) (by simp[results,Tryz.results132,go_sem]) rfl ⟨_,rfl,(i.out.alloc _).store (k+vs.length) _,s.1,s.2.1,s.2.2⟩
end Qt
def zv4 (w:World) (q r:Nat) (b:Bool) (e:Ending) (w':World):Prop:=∃(A:OA) (m c:Nat) (A':OA) (m' c':Nat),e=.returned (.tuple #[.agg #[.slice A m c],.agg #[.slice A' m' c'],.bool b])∧zas w' (.slice A m c) q∧zas w' (.slice A' m' c') r∧Below w.heap.size w w'
namespace Qt
theorem zIg(s:Value)(ys:List Nat)(b:Nat)(w:World)(a:SW w s ys)(h:wd ys 0=b):Calls Tryz.prog 110 #[.agg #[s],.int .i64 0] w fun e w'=>e=.returned (.int .u64 (b:Int))∧Below w.heap.size w w' :=
 (Nt.word s ys 0 (by decide) w a).mono fun e w' h1=>⟨by rw[h1.1,←h];rfl,by rw[h1.2];exact zae w _⟩
theorem zIa(g r:Nat)(w:World)(hr:r<18446744073709551616)(hc:w.cell? ⟨g,0,none⟩=some (.int .u64 (r:Int))):Calls Tryz.prog 71 #[.slice (some ⟨g,0,none⟩) 1 1] w (zc0 w r):=by
 have h:SR w (.slice (some ⟨g,0,none⟩) 1 1) [r]:=⟨some ⟨g,0,none⟩,1,rfl,Nat.le_refl _,by omega,by intro z b;simp at b;subst b;exact hr,by simp,fun d c j u a=>by
  cases c
  match j,a with
  | 0,a=>simp[wcells]at a;subst a;simpa[Addr.add]using hc
  | j+1,a=>simp[wcells]at a⟩
 have:=Nt.of _ [r] w h (by have:=zaP;simp;omega);simpa[nval]using this
theorem zr5(A B:OA)(m c m' c' a b:Nat)(w:World)(ha:zas w (.slice A m c) a)(C:zas w (.slice B m' c') b)(ad:0<b)(D:wlen b≤1)(ae:wlen a≤LIM) :
  Calls Tryz.prog 123 #[.agg #[.slice A m c],.agg #[.slice B m' c']] w (zv4 w (a/b) (a%b) true):=by
 obtain⟨ys,hy,au,ag,af,hm⟩:=C.words;subst hm;have N:=hid ha;have U:=hid hy;have av:(ys.length:Int)≤1:=by omega

 have al:=hid af;have am:=hid ag;clear ha C hy af ag;have W0:∃W,W=(((w.alloc (.cells #[.slice A m c] 43)).alloc (.cells #[.slice B ys.length c'] 43)).alloc (.cells #[.slice none 0 0] 43)).alloc (.cells #[.slice none 0 0] 43):=⟨_,rfl⟩
 obtain⟨W,j⟩:=W0;have L:W.heap.size=w.heap.size+1+1+1+1:=by rw[j];simp
 have E:W.cell? ⟨w.heap.size,0,none⟩=some (.slice A m c):=by rw[j];exact cell_al (cell_al (cell_al (zax rfl rfl)))
 have F:W.cell? ⟨w.heap.size+1,0,none⟩=some (.slice B ys.length c'):=by rw[j];exact cell_al (cell_al (zax (by simp) rfl))
 have r2:W.heap[w.heap.size+1+1]? = some (.cells #[.slice none 0 0] 43 (0,0)):=by rw[j];exact zak (zam (by simp))
 have r3:W.heap[w.heap.size+1+1+1]? = some (.cells #[.slice none 0 0] 43 (0,0)):=by rw[j];exact zam (by simp)
 have x:Below w.heap.size w W:=by rw[j];exact(((zae w _).alloc (by simp) _).alloc (by simp;omega) _).alloc (by simp;omega) _
 have O:=hid (N.out.below x);have J:=hid (U.out.below x);have o:=hid r2;have p:=hid r3;have i:=hid x;have l:=hid L;clear r2 r3 x L

 go_enter Tryz.func123,Tryz.ntmps123;go_wp2_with fail
 rw[←j];clear j;refine(Nt.len (.slice B ys.length c') ys _ J.out).mono ?_;rintro e w' ⟨rfl,rfl⟩;have E:=cell_al (ob:=.cells #[.slice B ys.length c'] 43) E;have F:=cell_al (ob:=.cells #[.slice B ys.length c'] 43) F;go_wp2_with fail
 have ah:wd ys 0=b:=by
  have h1:=al.out;have h2:=am.out
  match ys,h1 with
  | [],_=>simp[nval]at h2;omega
  | [y],_=>simpa[nval,wd]using h2
  | y::z::r,h1=>simp at h1;omega
 have ap:=hid ah;have X:=hid (O.out.alloc (.cells #[.slice B ys.length c'] 43));have K:=hid (J.out.alloc (.cells #[.slice B ys.length c'] 43));have o:=hid (show(W.alloc (.cells #[.slice B ys.length c'] 43)).heap[w.heap.size+1+1]? = some (.cells #[.slice none 0 0] 43 (0,0))from zak o.out);have p:=hid (show(W.alloc (.cells #[.slice B ys.length c'] 43)).heap[w.heap.size+1+1+1]? = some (.cells #[.slice none 0 0] 43 (0,0))from zak p.out)
 have i:=hid (i.out.alloc i.out.size (.cells #[.slice B ys.length c'] 43));have l:=hid (show w.heap.size+4≤(W.alloc (.cells #[.slice B ys.length c'] 43)).heap.size by have:=l.out;simp;omega);have S:=hid (show 0<b from ad);have T:=hid (show b<18446744073709551616 by have:=zdM K.out.2 0;omega);have ak:=hid ae;clear O J N U ah ae D av au ad;generalize W.alloc (.cells #[.slice B ys.length c'] 43)=V at *
 have R:=hid (show ∀w',Below V.heap.size V w'→((w'.cell? ⟨w.heap.size,0,none⟩=some (.slice A m c)∧w'.cell? ⟨w.heap.size+1,0,none⟩=some (.slice B ys.length c'))∧Below V.heap.size V w')from fun w' h=>⟨⟨zab h E,zab h F⟩,h⟩)
 go_cut[7,8,9] (fun s7 s8 s9 wr=>∃(g:Nat) (Q:OA) (f d:Nat),s7=.pointer (some ⟨g,0,none⟩)∧s8=.int .u64 ((a%b:Nat):Int)∧s9=.bool true∧Below V.heap.size V wr ∧
  wr.cell? ⟨g,0,none⟩=some (.slice Q f d)∧zas wr (.slice Q f d) (a/b)∧V.heap.size≤g)
 case first =>
  go_region_held3 (fun w'=>((w'.cell? ⟨w.heap.size,0,none⟩=some (.slice A m c)∧w'.cell? ⟨w.heap.size+1,0,none⟩=some (.slice B ys.length c'))∧Below V.heap.size V w'))
   ((refine R.out _ ?_;repeat(first | exact Below.refl _ _ | exact(by assumption:_∧Below _ _ _).2 | with_reducible refine bdrew ?_ | with_reducible refine al2 ?_ _ | with_reducible refine set2 ?_ (by omega) | with_reducible refine zc1 ?_ (by assumption))))
   (first
    | (go_at_call 110;(with_reducible refine(zIg (.slice B ys.length c') ys b _ (K.out.below (by assumption:_∧Below _ _ _).2) ap.out).mono ?_);rintro e u1 ⟨rfl,D⟩;have aw:=D.size;(try simp at aw);have aP:V.heap.size≤u1.heap.size:=(by omega);(try((first | (have k:=zan (b:=V.heap.size) (v:=.slice none 0 0) (t:=43) D (zal _ _ _);obtain⟨G,⟨a1,a4⟩,⟨a2,a5⟩,⟨a3,a6⟩,⟨a7,a8⟩,a9,ba⟩:=k));have G:=hid G)))
    | (go_at_call 127;(with_reducible refine(zCw A m c a b _ (X.out.below (by assumption:_∧Below _ _ _).2) S.out T.out ak.out).mono ?_);rintro e u2 ⟨Q,f,d,rfl,hq,hb2⟩;have ax:=hb2.size;(try simp at ax);have aQ:V.heap.size≤u2.heap.size:=(by omega);(try((first | (have k:=zan (b:=V.heap.size) (v:=.slice none 0 0) (t:=43) hb2 (G.out);obtain⟨I,⟨aC,aF⟩,⟨aD,aG⟩,⟨aE,aH⟩,⟨aI,aJ⟩,aK,aL⟩:=k) | (have k:=zan (b:=V.heap.size) (v:=.slice none 0 0) (t:=43) hb2 (zak G.out);obtain⟨I,⟨aC,aF⟩,⟨aD,aG⟩,⟨aE,aH⟩,⟨aI,aJ⟩,aK,aL⟩:=k));have I:=hid I));(try((first | (have k:=zan (b:=u1.heap.size) (v:=.slice none 0 0) (t:=43) hb2 (zal _ _ _);obtain⟨M,⟨bb,aU⟩,⟨bc,aV⟩,⟨aT,aW⟩,⟨aX,aY⟩,aZ,a0⟩:=k));have M:=hid M));have HQ:=hid hq;clear hq))
  all_goals
   go_wp2;go_meet
   case rel =>
    refine⟨_,Q,f,d,rfl,rfl,rfl,(by assumption:_∧Below V.heap.size V _).2,?_,?_,?_⟩
    all_goals
     repeat' (first
      | with_reducible exact HQ.out
      | with_reducible assumption
      | with_reducible exact zeo _ _ _
      | with_reducible exact zfx _ _ _ _
      | with_reducible refine cell_al ?_
      | with_reducible refine Box.cell ?_
      | with_reducible refine cell_set ?_ ?_
      | with_reducible exact Box.new _ _
      | with_reducible exact Box.new1 _ _ _
      | with_reducible refine Box.alloc ?_
      | with_reducible refine Box.set ?_
      | exact Box.of I.out
      | exact Box.of M.out
      | with_reducible refine zas.alloc ?_ _
      | with_reducible refine zas.setBox ?_ ?_
      | with_reducible refine zas.drew ?_
      | omega)
 case rest =>
  obtain⟨g,Q,f,d,rfl,rfl,rfl,q,kq,hQ,hg⟩:=hcut;rename World=>wa
  have NQ:=hid hQ;have o:=hid (zad q o.out);have p:=hid (zad q p.out);have aM:=l;have i:=hid (i.out.trans (q.mono i.out.size));have l:=hid (show w.heap.size+4≤wa.heap.size by have:=l.out;have:=q.size;omega);have hr:=hid (show a%b<18446744073709551616 by have:=Nat.mod_lt a S.out;have:=T.out;omega);clear q hQ hg R X K E F;generalize a%b=r at *
  generalize a/b=qq at *
  have ar:Hid ((wa.alloc (.cells #[.int .u64 (r:Int)] 131)).drew.cell? ⟨wa.heap.size,0,none⟩=some (.int .u64 (r:Int))):=hid (zeo wa _ _);have aR:wa.drew.cell? ⟨g,0,none⟩=some (.slice Q f d):=kq;have ay:(wa.alloc (.cells #[.int .u64 (r:Int)] 131)).drew.cell? ⟨g,0,none⟩=some (.slice Q f d):=cell_al kq;go_wp2_with fail
  go_region_with (go_at_call 71;go_loud (refine(zIa wa.heap.size r _ hr.out ar.out).mono ?_;rintro e w2 ⟨A2,m2,c2,rfl,hs2,hb2⟩;have s:=hid (zad hb2 (show(wa.alloc (.cells #[.int .u64 (r:Int)] 131)).drew.heap[w.heap.size+1+1]? = some (.cells #[.slice none 0 0] 43 (0,0))from zak o.out));have u:=hid (zad hb2 (show(wa.alloc (.cells #[.int .u64 (r:Int)] 131)).drew.heap[w.heap.size+1+1+1]? = some (.cells #[.slice none 0 0] 43 (0,0))from zak p.out));have aS:=zab hb2 ay;have Y:=zac s.out 0;have g4:=zag s.out 0;have Z:=zac u.out 0;have g6:=zag u.out 0;simp only[List.getElem?_toArray,List.getElem?_cons_zero]at Y Z;have ao:=hid hs2;have P:=hid hb2;clear hs2 hb2))
  all_goals
   go_wp2;refine bodyPost_ret (v:=.tuple #[.agg #[.slice Q f d],.agg #[.slice A2 m2 c2],.bool true]) (by simp[results,Tryz.results123,go_sem,Y,Z]) rfl ?_;have L:=l.out;have nq:zas w2 (.slice Q f d) qq:=((NQ.out.alloc (.cells #[.int .u64 (r:Int)] 131)).drew).below P.out;have C:Below w.heap.size w w2:=bstep (zhk (i.out.alloc i.out.size _) 1) P.out (by simp;omega)
   exact⟨_,_,_,_,_,_,rfl,zas.setBox (zas.setBox nq (Box.of s.out)) (Box.set (Box.of u.out)),zas.setBox (zas.setBox ao.out (Box.of s.out)) (Box.set (Box.of u.out)),Below.setCell (Below.setCell C (by simp;omega) _) (by simp;omega) _⟩
