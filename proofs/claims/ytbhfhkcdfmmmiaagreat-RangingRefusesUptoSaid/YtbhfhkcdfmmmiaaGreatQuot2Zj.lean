/- Contracts and lemmas: Quot2 Quot3 Quot4. Conditions: as each says. -/
import Derived.Test.YtbhfhkcdfmmmiaaGreatProd2Zj
set_option linter.all false
set_option maxHeartbeats 1000000
set_option maxRecDepth 100000
namespace Go.Proofs.YtbhfhkcdfmmmiaaGreat
open Go.RowKit Am Tryz
attribute [local go_sem ↓] Go.wp_at_zero Go.wp_at_succ
variable {x y:Nat}{r:Option Nat}
namespace Qt
theorem zhR(q v0 r u0:Nat)(h0:u0<18446744073709551616):(zdw q v0 0 0<r∨zdw q v0 0 0=r∧zdo q v0 0 0≤u0)↔q*v0≤r*B64+u0:=by
 unfold zdw zdo;grind
theorem zmQ(h:(((zlD x y 0:Nat):Int) == 1)=true):B64≤x+y:=by
 have h1:zlD x y 0=1:=by have:=eq_of_beq h;omega
 unfold zlD at h1;have a:B64=18446744073709551616:=rfl;rw[a]at h1 ⊢;omega
theorem zpz(c:x<18446744073709551616)(d:y<18446744073709551616)(h:(((zlD x y 0:Nat):Int) == 1)=false):zjj x y 0=x+y∧x+y<18446744073709551616:=by
 have h1:¬zlD x y 0=1:=by have:=ne_of_beq_false h;omega
 unfold zlD at h1;unfold zjj;have a:B64=18446744073709551616:=rfl;rw[a]at h1 ⊢;omega
theorem zdN{q:Nat}(h:0<q)(a:q<18446744073709551616):IntKind.u64.wrap ((q:Int)-1)=((q-1:Nat):Int):=by
 rw[Z7];omega
theorem guess(u2 u1 u0 v1 v0:Nat)(w:World)(x:u2≤v1)(h1:u1<18446744073709551616)(h0:u0<18446744073709551616)(y:9223372036854775808≤v1)(i:v1<18446744073709551616)(c:v0<18446744073709551616) :
    Calls prog 165 #[.int .u64 (u2:Int),.int .u64 (u1:Int),.int .u64 (u0:Int),.int .u64 (v1:Int),.int .u64 (v0:Int)] w fun e w'=>(∃q:Nat,e=.returned (.int .u64 (q:Int))∧GuessIs u2 u1 u0 v1 v0 q)∧∃n,w'=w.drewN n:=by
  rcases ZV u2 v1 with hlt | hge
  · have k:=un (GuessInv.start u2 u1 u0 v1 v0 hlt h1 h0);go_enter func165,ntmps165
    go_wp2_with (first
      | (go_at_call 171;(refine(Word.div_ok u2 u1 v1 hlt h1 i _).mono ?_);rintro e w' ⟨rfl,nd,rfl⟩))
    go_loopw [11,12] (fun j t wr=>∃(q r n:Nat),j=.int .u64 (q:Int)∧t=.int .u64 (r:Int)∧GuessInv u2 u1 u0 v1 v0 q r∧r<18446744073709551616∧wr=w.drewN n) (fun j _ _=>(intOf j).toNat)
    case atStart=>exact⟨_,_,nd,rfl,rfl,k.o,by unfold zBV;exact XL (Zv _ (by omega)) (by omega),rfl⟩
    case round =>
      obtain⟨q,r,n,rfl,rfl,d,hr,rfl⟩:=hrel;have b:=d.lt;have m:=un d;clear d k;by_cases hc:q*v0≤r*B64+u0
      · have s:=un (m.o.done c (.inl hc));have p:=(zhR q v0 r u0 h0).2 hc;clear hc
        go_wp2_with (first
          | (go_at_call 158;(refine(Word.mul q v0 b c _).mono ?_);rintro e w' ⟨rfl,rfl⟩))
        all_goals first
          | exact Zd (v:=.int .u64 (q:Int)) (by simp[results,results165,go_sem]) rfl ⟨⟨q,rfl,s.o⟩,n,rfl⟩
          | (exfalso;omega)
      · have f:=m.o.down (by omega);have g:=f.2;have l:=un f.1;have p:¬(zdw q v0 0 0<r∨zdw q v0 0 0=r∧zdo q v0 0 0≤u0):=fun h=>hc ((zhR q v0 r u0 h0).1 h)
        clear hc f
        go_wp2_with (first
          | (go_at_call 158;(refine(Word.mul q v0 b c _).mono ?_);rintro e w' ⟨rfl,rfl⟩)
          | (go_at_call 140;(refine(Word.add r v1 0 hr i (by decide) _).mono ?_);rintro e w' ⟨rfl,rfl⟩))
        all_goals first
          | (have a:=zmQ (by assumption)
             exact Zd (v:=.int .u64 (IntKind.u64.wrap ((q:Int)-1))) (by simp[results,results165,go_sem]) rfl ⟨⟨q-1,by rw[zdN g b],l.o.done c (.inr a)⟩,n,rfl⟩)
          | (have a:=zpz hr i (by assumption)
             refine⟨⟨q-1,r+v1,n,by rw[zdN g b],by rw[a.1],l.o,a.2,rfl⟩,?_⟩;rw[zdN g b];simp only[intOf];omega)
  · have u:u2=v1:=by omega
    have k:=un (show GuessInv u2 u1 u0 v1 v0 (B64-1) (u1+v1)by rw[u];exact GuessInv.start' u1 u0 v1 v0);clear u;go_enter func165,ntmps165
    go_wp2_with (first
      | (go_at_call 171;(refine(Word.div_no u2 u1 v1 hge _).mono ?_);rintro e w' ⟨rfl,rfl⟩)
      | (go_at_call 140;(refine(Word.add u1 v1 0 h1 i (by decide) _).mono ?_);rintro e w' ⟨rfl,rfl⟩))
    · have a:=zmQ (by assumption);exact Zd (v:=.int .u64 18446744073709551615) (by simp[results,results165,go_sem]) rfl ⟨⟨B64-1,rfl,k.o.done c (.inr a)⟩,0,rfl⟩
    · have o:=by assumption
      have a:=un (zpz h1 i o);simp only[o];clear o;go_loopw [11,12] (fun j t wr=>∃(q r n:Nat),j=.int .u64 (q:Int)∧t=.int .u64 (r:Int)∧GuessInv u2 u1 u0 v1 v0 q r∧r<18446744073709551616∧wr=w.drewN n) (fun j _ _=>(intOf j).toNat)
      case atStart=>exact⟨B64-1,u1+v1,0,rfl,by rw[a.o.1],k.o,a.o.2,rfl⟩
      case round =>
        obtain⟨q,r,n,rfl,rfl,d,hr,rfl⟩:=hrel;have b:=d.lt;have m:=un d;clear d k;by_cases hc:q*v0≤r*B64+u0
        · have s:=un (m.o.done c (.inl hc));have p:=(zhR q v0 r u0 h0).2 hc;clear hc
          go_wp2_with (first
            | (go_at_call 158;(refine(Word.mul q v0 b c _).mono ?_);rintro e w' ⟨rfl,rfl⟩))
          all_goals first
            | exact Zd (v:=.int .u64 (q:Int)) (by simp[results,results165,go_sem]) rfl ⟨⟨q,rfl,s.o⟩,n,rfl⟩
            | (exfalso;omega)
        · have f:=m.o.down (by omega);have g:=f.2;have l:=un f.1;have p:¬(zdw q v0 0 0<r∨zdw q v0 0 0=r∧zdo q v0 0 0≤u0):=fun h=>hc ((zhR q v0 r u0 h0).1 h)
          clear hc f
          go_wp2_with (first
            | (go_at_call 158;(refine(Word.mul q v0 b c _).mono ?_);rintro e w' ⟨rfl,rfl⟩)
            | (go_at_call 140;(refine(Word.add r v1 0 hr i (by decide) _).mono ?_);rintro e w' ⟨rfl,rfl⟩))
          all_goals first
            | (have a:=zmQ (by assumption)
               exact Zd (v:=.int .u64 (IntKind.u64.wrap ((q:Int)-1))) (by simp[results,results165,go_sem]) rfl ⟨⟨q-1,by rw[zdN g b],l.o.done c (.inr a)⟩,n,rfl⟩)
            | (have a:=zpz hr i (by assumption)
               refine⟨⟨q-1,r+v1,n,by rw[zdN g b],by rw[a.1],l.o,a.2,rfl⟩,?_⟩;rw[zdN g b];simp only[intOf];omega)
end Qt
structure OutC (w w1:World) (H n cp:Nat) (os:List Nat):Prop where
  own:w1.ownsRow H 165 1 (H,n,cp) n (wcells os)
  bel:w.grownBy w1 (some H)
  len:os.length=n
theorem zse{w w1 w2:World}(h:w.grownBy w1 r)(a:Below w1 w1 w2):w.grownBy w2 r :=
 ⟨a.os.trans h.os,a.tape.trans h.tape,a.output.trans h.output,Zc h.size a.size,fun k hk hr=>(a.block k (XL hk h.size)).trans (h.block k hk hr)⟩
theorem zqf{a b c:World}(h:a.grownBy b r)(k:b.grownBy c r):a.grownBy c r :=
 ⟨k.os.trans h.os,k.tape.trans h.tape,k.output.trans h.output,Zc h.size k.size,fun i hi hr=>(k.block i (XL hi h.size) hr).trans (h.block i hi hr)⟩
namespace OutC
variable {w w1 w2:World} {H n cp:Nat} {os:List Nat}
theorem lt(h:OutC w w1 H n cp os):H<w1.heap.size:=(h.own.lt H rfl).2
theorem step(h:OutC w w1 H n cp os)(a:Below w1 w1 w2):OutC w w2 H n cp os :=
 ⟨⟨h.own.1,by
   rcases h.own.2 with h2 | ⟨g,cap,cur,hv,hg,hh,r⟩
   ·grind
   ·exact .inr ⟨g,cap,cur,hv,hg,by rw[a.block g (ZI.1 hh).1];exact hh,r⟩⟩,zse h.bel a,h.len⟩
theorem alloc(h:OutC w w1 H n cp os)(o:Obj):OutC w (w1.alloc o) H n cp os:=h.step (zae w1 o)
theorem drewN(h:OutC w w1 H n cp os)(k:Nat):OutC w (w1.drewN k) H n cp os:=h.step (zap w1 k)
theorem drew(h:OutC w w1 H n cp os):OutC w w1.drew H n cp os:=h.drewN 1
theorem store(h:OutC w w1 H n cp os)(k v:Nat):OutC w (w1.setCell ⟨H,k,none⟩ (.int .u64 (v:Int))) H n cp (os.set k v) :=
 ⟨by rw[ziN];exact(h.own.stored k _).1,zqf h.bel (h.own.stored k _).2,by rw[ZE];exact h.len⟩
theorem cell(h:OutC w w1 H n cp os){k:Nat}(hk:k<n):w1.cell? ⟨H,k,none⟩=some (.int .u64 ((wd os k:Nat):Int)):=by
 rw[h.own.cellAt k (by omega),zeu (by rw[h.len];exact hk)]
theorem fro(h:OutC w w1 H n cp os)(k:Nat):w1.frozen? ⟨H,k,none⟩=false:=h.own.frozenAt k
theorem keep(h:OutC w w1 H n cp os){s:Value}{xs:List Nat}(a:SW w s xs)(b:s.ownBlock≠some H):SW w1 s xs :=
 a.keep fun k hk=>h.bel.block k (a.block hk) (fun e=>b (by rw[hk,e]))
theorem sw(h:OutC w w1 H n cp os)(hw:Wds os):SW w1 (H,n,cp) os:=by
 have:=h.own;have a:=h.len;grind[SW.of_own]
end OutC
theorem zH8(b:Nat):((b:Int) == 1)=(b == 1):=by grind
namespace Qt
theorem take(W w:World)(H n cap k cp q:Nat)(os vs:List Nat)(A:OA)(c:Nat)(a:OutC W w H n cap os)(F:SW W (A,vs.length,c) vs)(m:(Value.slice A vs.length c).ownBlock≠some H)(D:Wds os)(E:q<18446744073709551616)(hk:k+vs.length<n)(_:vs.length+1≤cp)(X:n≤2*LIM) :
    Calls prog 166 #[.slice (some ⟨H,k,none⟩) (vs.length+1) cp,.agg #[(A,vs.length,c)],.int .u64 (q:Int)] w fun e w'=>∃(b:Nat) (d:List Nat),e=.returned (.bool (b == 1))∧b≤1∧OutC W w' H n cap d ∧
      Wds d∧za8 os d k (k+vs.length+1)∧nval d+B64^k*(q*nval vs)=nval os+B64^(k+vs.length+1)*b:=by
  have x:=un a;have i:=un F;have G:=un D;have Y:vs.length≤9223372036854775806:=by have:=zaP;omega
  clear a F D;have p:OutC W (w.alloc (.cells #[(A,vs.length,c)] 37)) H n cap os:=x.o.alloc _;have r:(w.alloc (.cells #[(A,vs.length,c)] 37)).cell? ⟨w,0,none⟩=some (A,vs.length,c):=zax rfl rfl;have U:=x.o.lt;go_enter func166,ntmps166;go_wp2_with fail
  generalize hw1:w.alloc (.cells #[(A,vs.length,c)] 37)=w1 at *
  clear hw1;have O:w.heap.size≠H:=by omega
  generalize w.heap.size=B at *
  refine(Nt.len (A,vs.length,c) vs _ (p.keep i.o m)).mono ?_;rintro e w' ⟨rfl,rfl⟩;have J:=un (p.alloc (.cells #[(A,vs.length,c)] 37));have K:=un (cell_al (ob:=.cells #[(A,vs.length,c)] 37) r);clear p r;generalize w1.alloc (.cells #[(A,vs.length,c)] 37)=w2 at *
  go_wp2_with fail
  go_loopw [7,8,14] (fun R I v wr=>∃(j V f:Nat) (d:List Nat),v=.int .i64 j∧R=.int .u64 V∧I=.int .u64 f∧j≤vs.length∧TakeInv os d vs k q j V f∧OutC W wr H n cap d∧wr.cell? ⟨B,0,none⟩=some (A,vs.length,c))
    (fun _ _ v _=>vs.length-(intOf v).toNat)
  case atStart=>exact⟨0,0,0,os,rfl,rfl,rfl,Zb _,TakeInv.start os vs k q G.o,J.o,K.o⟩
  case round =>
    obtain⟨j,V,f,d,rfl,rfl,rfl,hj,o,a,hc⟩:=hrel;have z:V<18446744073709551616:=o.ovr;have y:=o.one;have g:=un o;clear o;by_cases T:j<vs.length
    · have u:=un (a.keep i.o m);have P:=zdM i.o.2 j;have t:=zdM g.o.wds (k+j)

      have L:=cell_al (ob:=.cells #[(A,vs.length,c)] 37) (a.cell (k:=k+j) (by omega));have M:=zd1 (ob:=.cells #[(A,vs.length,c)] 37) a.lt (a.fro (k+j));have C:(0:Int)≤(j:Int):=Zf _;have N:(j:Int)<(vs.length:Int)+1:=by omega
      have l:=un a;clear a
      go_wp2_with (first
        | (go_at_call 138;(with_reducible refine(Nt.word (A,vs.length,c) vs _ C _ u.o).mono ?_);rintro e w' ⟨rfl,rfl⟩)
        | (go_at_call 137;(refine(Word.mulAdd (wd vs j) q V 0 P E z (by decide) _).mono ?_);rintro e w' ⟨rfl,rfl⟩)
        | (go_at_call 141;(refine(Word.sub (wd d (k+j)) (zdo (wd vs j) q V 0) f t (zrG _ _ _ _) y _).mono ?_);rintro e w' ⟨rfl,rfl⟩))
      exact⟨⟨j+1,_,_,_,by go_num,rfl,rfl,by omega,g.o.next E i.o.2 (by rw[←g.o.out.1,l.o.len];omega),(l.o.alloc _).store (k+j) _,cell_set O (cell_al hc)⟩,by simp[intOf];omega⟩
    · obtain rfl:j=vs.length:=by omega
      have u:=un (a.drew.keep i.o m);have Q:=un ((a.alloc (.cells #[(A,vs.length,c)] 37)).drew.keep i.o m);have t:=zdM g.o.wds (k+vs.length)
      have L:((wr.alloc (.cells #[(A,vs.length,c)] 37)).alloc (.cells #[(A,vs.length,c)] 37)).drew.cell? ⟨H,k+vs.length,none⟩=some (.int .u64 ((wd d (k+vs.length):Nat):Int)):=cell_al (cell_al (a.cell (k:=k+vs.length) (by omega)));have M:((wr.alloc (.cells #[(A,vs.length,c)] 37)).alloc (.cells #[(A,vs.length,c)] 37)).drew.frozen? ⟨H,k+vs.length,none⟩=false:=zd1 (zxk a.lt) (zd1 a.lt (a.fro (k+vs.length)));have r:wr.drew.cell? ⟨B,0,none⟩=some (A,vs.length,c):=hc
      have S:(wr.alloc (.cells #[(A,vs.length,c)] 37)).drew.cell? ⟨B,0,none⟩=some (A,vs.length,c):=cell_al hc;have C:(0:Int)≤(vs.length:Int):=Zf _;have N:(vs.length:Int)<(vs.length:Int)+1:=by omega
      have l:=un a;clear a;go_wp2_with fail
      go_region_with (first
        | (go_at_call 95;(first | with_reducible refine(Nt.len (A,vs.length,c) vs _ u.o).mono ?_ | with_reducible refine(Nt.len (A,vs.length,c) vs _ Q.o).mono ?_);rintro e w' ⟨rfl,rfl⟩)
        | (go_at_call 141;(refine(Word.sub (wd d (k+vs.length)) V f t z y _).mono ?_);rintro e w' ⟨rfl,rfl⟩))
      all_goals
        (go_wp2
         go_ret
         have s:=g.o.fin (by rw[←g.o.out.1,l.o.len];omega);exact⟨_,_,by rw[←zH8];rfl,zBo _ _ _,(((l.o.alloc _).alloc _).store (k+vs.length) _).drew,s.1,s.2.1,s.2.2⟩)
end Qt
namespace Qt
theorem back(W w:World)(H n cap k cp:Nat)(os vs:List Nat)(A:OA)(c:Nat)(a:OutC W w H n cap os)(C:SW W (A,vs.length,c) vs)(m:(Value.slice A vs.length c).ownBlock≠some H)(y:Wds os)(hk:k+vs.length<n)(U:n≤2*LIM) :
    Calls prog 167 #[.slice (some ⟨H,k,none⟩) (vs.length+1) cp,.agg #[(A,vs.length,c)]] w fun e w'=>∃d:List Nat,e=.returned (.tuple #[])∧OutC W w' H n cap d ∧
      Wds d∧za8 os d k (k+vs.length+1)∧∃b,nval d+B64^(k+vs.length+1)*b=nval os+B64^k*nval vs:=by
  have u:=un a;have l:=un C;have E:=un y;have V:vs.length≤9223372036854775806:=by have:=zaP;omega
  clear a C y;have p:OutC W (w.alloc (.cells #[(A,vs.length,c)] 37)) H n cap os:=u.o.alloc _;have q:(w.alloc (.cells #[(A,vs.length,c)] 37)).cell? ⟨w,0,none⟩=some (A,vs.length,c):=zax rfl rfl;have T:=u.o.lt;go_enter func167,ntmps167;go_wp2_with fail
  generalize hw1:w.alloc (.cells #[(A,vs.length,c)] 37)=w1 at *
  clear hw1;have O:w.heap.size≠H:=by omega
  generalize w.heap.size=B at *
  refine(Nt.len (A,vs.length,c) vs _ (p.keep l.o m)).mono ?_;rintro e w' ⟨rfl,rfl⟩;have J:=un (p.alloc (.cells #[(A,vs.length,c)] 37));have K:=un (cell_al (ob:=.cells #[(A,vs.length,c)] 37) q);clear p q;generalize w1.alloc (.cells #[(A,vs.length,c)] 37)=w2 at *
  go_wp2_with fail
  go_loopw [4,8] (fun G t wr=>∃(j f:Nat) (d:List Nat),t=.int .i64 j∧G=.int .u64 f∧j≤vs.length∧BackInv os d vs k j f∧OutC W wr H n cap d∧wr.cell? ⟨B,0,none⟩=some (A,vs.length,c))
    (fun _ t _=>vs.length-(intOf t).toNat)
  case atStart=>exact⟨0,0,os,rfl,rfl,Zb _,BackInv.start os vs k E.o,J.o,K.o⟩
  case round =>
    obtain⟨j,f,d,rfl,rfl,hj,o,a,hc⟩:=hrel;have I:=o.one;have g:=un o;clear o;by_cases S:j<vs.length
    · have s:=un (a.drew.keep l.o m);have P:=zdM l.o.2 j;have z:=zdM g.o.wds (k+j);have Q:wr.drew.cell? ⟨H,k+j,none⟩=some (.int .u64 ((wd d (k+j):Nat):Int)):=a.cell (k:=k+j) (by omega);have L:(wr.alloc (.cells #[(A,vs.length,c)] 37)).drew.cell? ⟨H,k+j,none⟩=some (.int .u64 ((wd d (k+j):Nat):Int)):=cell_al (a.cell (k:=k+j) (by omega));have M:(wr.alloc (.cells #[(A,vs.length,c)] 37)).drew.frozen? ⟨H,k+j,none⟩=false:=zd1 a.lt (a.fro (k+j))
      have q:wr.drew.cell? ⟨B,0,none⟩=some (A,vs.length,c):=hc;have x:(0:Int)≤(j:Int):=Zf _;have N:(j:Int)<(vs.length:Int)+1:=by omega
      have R:(j:Int)<(vs.length:Int):=by omega
      have i:=un a;have D:=un hc;clear a hc;go_wp2_with fail
      go_region_with (first
        | (go_at_call 138;(with_reducible refine(Nt.word (A,vs.length,c) vs _ x _ s.o).mono ?_);rintro e w' ⟨rfl,rfl⟩)
        | (go_at_call 140;(refine(Word.add (wd d (k+j)) (wd vs j) f z P I _).mono ?_);rintro e w' ⟨rfl,rfl⟩))
      all_goals
        (go_wp2
         exact⟨⟨j+1,_,_,by go_num,rfl,by omega,g.o.next l.o.2 (by rw[←g.o.out.1,i.o.len];omega),((i.o.alloc _).store (k+j) _).drew,cell_set O (cell_al D.o)⟩,by simp[intOf];omega⟩)
    · obtain rfl:j=vs.length:=by omega
      have s:=un (a.keep l.o m);have z:=zdM g.o.wds (k+vs.length);have L:=cell_al (ob:=.cells #[(A,vs.length,c)] 37) (a.cell (k:=k+vs.length) (by omega));have M:=zd1 (ob:=.cells #[(A,vs.length,c)] 37) a.lt (a.fro (k+vs.length));have x:(0:Int)≤(vs.length:Int):=Zf _;have N:(vs.length:Int)<(vs.length:Int)+1:=by omega
      have i:=un a;clear a;have hw:IntKind.u64.wrap (((wd d (k+vs.length):Nat):Int)+((f:Nat):Int))=((zjj (wd d (k+vs.length)) f 0:Nat):Int):=by rw[Z7];unfold zjj B64;omega
      have F:=un hw;clear hw;go_wp2_with fail
      refine(Nt.len (A,vs.length,c) vs _ s.o).mono ?_;rintro e w' ⟨rfl,rfl⟩;go_wp2;rw[F.o];have r:=g.o.fin (by rw[←g.o.out.1,i.o.len];omega);exact bodyPost_end (v:=.tuple #[]) (by simp[results,results167,go_sem]) rfl ⟨_,rfl,(i.o.alloc _).store (k+vs.length) _,r.1,r.2.1,r.2.2⟩
