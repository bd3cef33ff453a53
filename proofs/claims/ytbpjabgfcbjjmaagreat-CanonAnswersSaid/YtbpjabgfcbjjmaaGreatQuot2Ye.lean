/- Contracts and lemmas: Quot2 Quot3 Quot4 Quot5 Quot6 Quot8 Quot9. Conditions: as each says. -/
import Derived.Test.YtbpjabgfcbjjmaaGreatProd2Ye
set_option linter.all false
set_option maxHeartbeats 1000000
set_option maxRecDepth 100000
namespace Go.Proofs.YtbpjabgfcbjjmaaGreat
open Go.RowKit Am Tryz
attribute [local go_sem ↓] Go.wp_at_zero Go.wp_at_succ
variable {x y:Nat}{r:Option Nat}
namespace Qt
theorem zhR(q v0 r u0:Nat)(h0:u0<18446744073709551616):(zdw q v0 0 0<r\/zdw q v0 0 0=r/\zdo q v0 0 0<=u0)↔q*v0<=r*B64+u0:=by unfold zdw zdo;grind
theorem zmQ(h:(((zlD x y 0:Nat):Int) == 1)=true):B64<=x+y:=by
 have h1:zlD x y 0=1:=by have:=eq_of_beq h;omega
 unfold zlD at h1;have a:B64=18446744073709551616:=rfl;rw[a]at h1 ⊢;omega
theorem zpz(c:x<18446744073709551616)(d:y<18446744073709551616)(h:(((zlD x y 0:Nat):Int) == 1)=false):zjj x y 0=x+y/\x+y<18446744073709551616:=by
 have h1:¬zlD x y 0=1:=by have:=ne_of_beq_false h;omega
 unfold zlD at h1;unfold zjj;have a:B64=18446744073709551616:=rfl;rw[a]at h1 ⊢;omega
theorem zdN{q:Nat}(h:0<q)(a:q<18446744073709551616):IntKind.u64.wrap ((q:Int)-1)=((q-1:Nat):Int):=by rw[Xt];omega
theorem guess(u2 u1 u0 v1 v0:Nat)(w:World)(x:u2<=v1)(h1:u1<18446744073709551616)(h0:u0<18446744073709551616)(y:9223372036854775808<=v1)(i:v1<18446744073709551616)(c:v0<18446744073709551616) :
    Calls prog 189 #[.int .u64 (u2:Int),.int .u64 (u1:Int),.int .u64 (u0:Int),.int .u64 (v1:Int),.int .u64 (v0:Int)] w λe w'=>(∃q:Nat,e=.returned (.int .u64 (q:Int))/\GuessIs u2 u1 u0 v1 v0 q)/\∃n,w'=w.drewN n:=by
  rcases ZI u2 v1 with hlt | hge
  · have k:=un (GuessInv.start u2 u1 u0 v1 v0 hlt h1 h0);go_enter func189,ntmps189
    go_wp2_with (first
      | (go_at_call 195;(refine(Word.div_ok u2 u1 v1 hlt h1 i _).mono ?_);rintro e w' ⟨rfl,nd,rfl⟩))
    go_loopw [11,12] (λj t wr=>∃(q r n:Nat),j=.int .u64 (q:Int)/\t=.int .u64 (r:Int)/\GuessInv u2 u1 u0 v1 v0 q r/\r<18446744073709551616/\wr=w.drewN n) (λj _ _=>(intOf j).toNat)
    case atStart=>exact⟨_,_,nd,rfl,rfl,k.o,by unfold zBV;exact X5 (ZW _ ω) ω,rfl⟩
    obtain⟨q,r,n,rfl,rfl,d,hr,rfl⟩:=hrel;have b:=d.lt;have m:=un d;clear d k;by_cases hc:q*v0<=r*B64+u0
    · have s:=un (m.o.done c (.inl hc));have p:=(zhR q v0 r u0 h0).2 hc;clear hc
      go_wp2_with (first
        | (go_at_call 183;(refine(Word.mul q v0 b c _).mono ?_);rintro e w' ⟨rfl,rfl⟩))
      all_goals first
        | exact Zh (v:=.int .u64 (q:Int)) (by simp[results,results189,go_sem]) rfl ⟨⟨q,rfl,s.o⟩,n,rfl⟩
        | (exfalso;omega)
    have f:=m.o.down ω;have g:=f.2;have l:=un f.1;have p:¬(zdw q v0 0 0<r\/zdw q v0 0 0=r/\zdo q v0 0 0<=u0):=λh=>hc ((zhR q v0 r u0 h0).1 h)
    clear hc f
    go_wp2_with (first
      | (go_at_call 183;(refine(Word.mul q v0 b c _).mono ?_);rintro e w' ⟨rfl,rfl⟩)
      | (go_at_call 169;(refine(Word.add r v1 0 hr i δ _).mono ?_);rintro e w' ⟨rfl,rfl⟩))
    all_goals first
      | (have a:=zmQ (by assumption)
         exact Zh (v:=.int .u64 (IntKind.u64.wrap ((q:Int)-1))) (by simp[results,results189,go_sem]) rfl ⟨⟨q-1,by rw[zdN g b],l.o.done c (.inr a)⟩,n,rfl⟩)
      | (have a:=zpz hr i (by assumption)
         refine⟨⟨q-1,r+v1,n,by rw[zdN g b],by rw[a.1],l.o,a.2,rfl⟩,?_⟩;rw[zdN g b];simp only[intOf];omega)
  have u:u2=v1:=ω;have k:=un (show GuessInv u2 u1 u0 v1 v0 (B64-1) (u1+v1)by rw[u];exact GuessInv.start' u1 u0 v1 v0);clear u;go_enter func189,ntmps189
  go_wp2_with (first
    | (go_at_call 195;(refine(Word.div_no u2 u1 v1 hge _).mono ?_);rintro e w' ⟨rfl,rfl⟩)
    | (go_at_call 169;(refine(Word.add u1 v1 0 h1 i δ _).mono ?_);rintro e w' ⟨rfl,rfl⟩))
  · have a:=zmQ (by assumption);exact Zh (v:=.int .u64 18446744073709551615) (by simp[results,results189,go_sem]) rfl ⟨⟨B64-1,rfl,k.o.done c (.inr a)⟩,0,rfl⟩
  have o:=by assumption
  have a:=un (zpz h1 i o);simp only[o];clear o;go_loopw [11,12] (λj t wr=>∃(q r n:Nat),j=.int .u64 (q:Int)/\t=.int .u64 (r:Int)/\GuessInv u2 u1 u0 v1 v0 q r/\r<18446744073709551616/\wr=w.drewN n) (λj _ _=>(intOf j).toNat)
  case atStart=>exact⟨B64-1,u1+v1,0,rfl,by rw[a.o.1],k.o,a.o.2,rfl⟩
  obtain⟨q,r,n,rfl,rfl,d,hr,rfl⟩:=hrel;have b:=d.lt;have m:=un d;clear d k;by_cases hc:q*v0<=r*B64+u0
  · have s:=un (m.o.done c (.inl hc));have p:=(zhR q v0 r u0 h0).2 hc;clear hc
    go_wp2_with (first
      | (go_at_call 183;(refine(Word.mul q v0 b c _).mono ?_);rintro e w' ⟨rfl,rfl⟩))
    all_goals first
      | exact Zh (v:=.int .u64 (q:Int)) (by simp[results,results189,go_sem]) rfl ⟨⟨q,rfl,s.o⟩,n,rfl⟩
      | (exfalso;omega)
  have f:=m.o.down ω;have g:=f.2;have l:=un f.1;have p:¬(zdw q v0 0 0<r\/zdw q v0 0 0=r/\zdo q v0 0 0<=u0):=λh=>hc ((zhR q v0 r u0 h0).1 h)
  clear hc f
  go_wp2_with (first
    | (go_at_call 183;(refine(Word.mul q v0 b c _).mono ?_);rintro e w' ⟨rfl,rfl⟩)
    | (go_at_call 169;(refine(Word.add r v1 0 hr i δ _).mono ?_);rintro e w' ⟨rfl,rfl⟩))
  all_goals first
    | (have a:=zmQ (by assumption)
       exact Zh (v:=.int .u64 (IntKind.u64.wrap ((q:Int)-1))) (by simp[results,results189,go_sem]) rfl ⟨⟨q-1,by rw[zdN g b],l.o.done c (.inr a)⟩,n,rfl⟩)
    | (have a:=zpz hr i (by assumption)
       refine⟨⟨q-1,r+v1,n,by rw[zdN g b],by rw[a.1],l.o,a.2,rfl⟩,?_⟩;rw[zdN g b];simp only[intOf];omega)
end Qt
structure OutC (w w1:World) (H n cp:Nat) (os:List Nat):Prop where
  own:w1.ownsRow H 206 1 (H,n,cp) n (wcells os)
  bel:w.grownBy w1 (some H)
  len:os.length=n
theorem zse{w w1 w2:World}(h:w.grownBy w1 r)(a:Below w1 w1 w2):w.grownBy w2 r :=
 ⟨a.os.trans h.os,a.tape.trans h.tape,a.output.trans h.output,Zl h.size a.size,λk hk hr=>(a.block k (X5 hk h.size)).trans (h.block k hk hr)⟩
theorem zqf{a b c:World}(h:a.grownBy b r)(k:b.grownBy c r):a.grownBy c r :=
 ⟨k.os.trans h.os,k.tape.trans h.tape,k.output.trans h.output,Zl h.size k.size,λi hi hr=>(k.block i (X5 hi h.size) hr).trans (h.block i hi hr)⟩
namespace OutC
variable {w w1 w2:World} {H n cp:Nat} {os:List Nat}
theorem lt(h:OutC w w1 H n cp os):H<w1.heap.size:=(h.own.lt H rfl).2
theorem step(h:OutC w w1 H n cp os)(a:Below w1 w1 w2):OutC w w2 H n cp os :=
 ⟨⟨h.own.1,by
   rcases h.own.2 with h2 | ⟨g,cap,cur,hv,hg,hh,r⟩
   grind;exact .inr ⟨g,cap,cur,hv,hg,by rw[a.block g (ZS.1 hh).1];exact hh,r⟩⟩,zse h.bel a,h.len⟩
theorem alloc(h:OutC w w1 H n cp os)(o:Obj):OutC w (w1.alloc o) H n cp os:=h.step (zae w1 o)
theorem drewN(h:OutC w w1 H n cp os)(k:Nat):OutC w (w1.drewN k) H n cp os:=h.step (zap w1 k)
theorem drew(h:OutC w w1 H n cp os):OutC w w1.drew H n cp os:=h.drewN 1
theorem store(h:OutC w w1 H n cp os)(k v:Nat):OutC w (w1.setCell ⟨H,k,none⟩ (.int .u64 (v:Int))) H n cp (os.set k v) :=
 ⟨by rw[ziN];exact(h.own.stored k _).1,zqf h.bel (h.own.stored k _).2,by rw[ZQ];exact h.len⟩
theorem cell(h:OutC w w1 H n cp os){k:Nat}(hk:k<n):χ w1 H k (.int .u64 ((wd os k:Nat):Int)):=by rw[h.own.cellAt k ω,zeu (by rw[h.len];exact hk)]
theorem fro(h:OutC w w1 H n cp os)(k:Nat):w1.frozen? ⟨H,k,none⟩=false:=h.own.frozenAt k
theorem keep(h:OutC w w1 H n cp os){s:Value}{xs:List Nat}(a:SW w s xs)(b:s.ownBlock≠some H):SW w1 s xs :=
 a.keep λk hk=>h.bel.block k (a.block hk) (λe=>b (by rw[hk,e]))
theorem sw(h:OutC w w1 H n cp os)(hw:Wds os):SW w1 (H,n,cp) os:=by have:=h.own;have a:=h.len;grind[SW.of_own]
end OutC
theorem zH8(b:Nat):((b:Int) == 1)=(b == 1):=ψ
namespace Qt
theorem take(W w:World)(H n cap k cp q:Nat)(os vs:List Nat)(A:OA)(c:Nat)(a:OutC W w H n cap os)(E:SW W (A,vs.length,c) vs)(m:(Value.slice A vs.length c).ownBlock≠some H)(C:Wds os)(D:q<18446744073709551616)(hk:k+vs.length<n)(_:vs.length+1<=cp)(U:n<=2*LIM) :
    Calls prog 190 #[.slice (some ⟨H,k,none⟩) (vs.length+1) cp,.agg #[(A,vs.length,c)],.int .u64 (q:Int)] w λe w'=>∃(b:Nat) (d:List Nat),e=.returned (.bool (b == 1))/\b<=1/\OutC W w' H n cap d /\
      Wds d/\za8 os d k (k+vs.length+1)/\nval d+B64^k*(q*nval vs)=nval os+B64^(k+vs.length+1)*b:=by
  refine μ3 a E C λv i F=>?_;have X:vs.length<=9223372036854775806:=by have:=zaP;omega
  clear a E C;have p:OutC W (w.alloc (.cells #[(A,vs.length,c)] 58)) H n cap os:=v.o.alloc _;have r:χ (w.alloc (.cells #[(A,vs.length,c)] 58)) w 0 (A,vs.length,c):=zax rfl rfl;have T:=v.o.lt;go_enter func190,ntmps190;go_wp2_with fail
  generalize hw1:w.alloc (.cells #[(A,vs.length,c)] 58)=w1 at *
  clear hw1;have N:w.heap.size≠H:=ω;generalize w.heap.size=B at *
  refine(Nt.len (A,vs.length,c) vs _ (p.keep i.o m)).mono ?_;rintro e w' ⟨rfl,rfl⟩;have I:=un (p.alloc (.cells #[(A,vs.length,c)] 58));have J:=un (cell_al (ob:=.cells #[(A,vs.length,c)] 58) r);clear p r;generalize w1.alloc (.cells #[(A,vs.length,c)] 58)=w2 at *
  go_wp2_with fail
  go_loopw [7,8,14] (λQ G u wr=>∃(j V f:Nat) (d:List Nat),u=.int .i64 j/\Q=.int .u64 V/\G=.int .u64 f/\j<=vs.length/\TakeInv os d vs k q j V f/\OutC W wr H n cap d/\χ wr B 0 (A,vs.length,c))
    (λ_ _ u _=>vs.length-(intOf u).toNat)
  case atStart=>exact⟨0,0,0,os,rfl,rfl,rfl,Zb _,TakeInv.start os vs k q F.o,I.o,J.o⟩
  obtain⟨j,V,f,d,rfl,rfl,rfl,hj,o,a,hc⟩:=hrel;have y:V<18446744073709551616:=o.ovr;have x:f<=1:=o.one;have g:=un o;clear o;by_cases S:j<vs.length
  · have t:=un (a.keep i.o m);have O:=zdM i.o.2 j;have s:=zdM g.o.wds (k+j)

    have K:=cell_al (ob:=.cells #[(A,vs.length,c)] 58) (a.cell (k:=k+j) ω);have L:=zd1 (ob:=.cells #[(A,vs.length,c)] 58) a.lt (a.fro (k+j));have z:(0:Int)<=(j:Int):=Zf _;have M:(j:Int)<(vs.length:Int)+1:=ω;have l:=un a;clear a
    go_wp2_with (first
      | (go_at_call 170;(with_reducible refine(Nt.word (A,vs.length,c) vs _ z _ t.o).mono ?_);rintro e w' ⟨rfl,rfl⟩)
      | (go_at_call 172;(refine(Word.mulAdd (wd vs j) q V 0 O D y δ _).mono ?_);rintro e w' ⟨rfl,rfl⟩)
      | (go_at_call 171;(refine(Word.sub (wd d (k+j)) (zdo (wd vs j) q V 0) f s (zrG _ _ _ _) x _).mono ?_);rintro e w' ⟨rfl,rfl⟩))
    exact⟨⟨j+1,_,_,_,by go_num,rfl,rfl,ω,g.o.next D i.o.2 (by rw[<-g.o.out.1,l.o.len];omega),(l.o.alloc _).store (k+j) _,cell_set N (cell_al hc)⟩,by simp[intOf];omega⟩
  obtain rfl:j=vs.length:=ω;have t:Hid (SW wr.drew (A,vs.length,c) vs):=un (a.drew.keep i.o m);have P:Hid (SW (wr.alloc (.cells #[(A,vs.length,c)] 58)).drew (A,vs.length,c) vs):=un ((a.alloc (.cells #[(A,vs.length,c)] 58)).drew.keep i.o m);have s:=zdM g.o.wds (k+vs.length);have K:χ ((wr.alloc (.cells #[(A,vs.length,c)] 58)).alloc (.cells #[(A,vs.length,c)] 58)).drew H (k+vs.length) (.int .u64 ((wd d (k+vs.length):Nat):Int)):=cell_al (cell_al (a.cell (k:=k+vs.length) ω));have L:((wr.alloc (.cells #[(A,vs.length,c)] 58)).alloc (.cells #[(A,vs.length,c)] 58)).drew.frozen? ⟨H,k+vs.length,none⟩=false:=zd1 (zxk a.lt) (zd1 a.lt (a.fro (k+vs.length)));have r:χ wr.drew B 0 (A,vs.length,c):=hc;have R:χ (wr.alloc (.cells #[(A,vs.length,c)] 58)).drew B 0 (A,vs.length,c):=cell_al hc;have z:(0:Int)<=(vs.length:Int):=Zf _;have M:(vs.length:Int)<(vs.length:Int)+1:=ω;have l:=un a;clear a;go_wp2_with fail
  go_region_with (first
    | (go_at_call 139;(first | with_reducible refine(Nt.len (A,vs.length,c) vs _ t.o).mono ?_ | with_reducible refine(Nt.len (A,vs.length,c) vs _ P.o).mono ?_);rintro e w' ⟨rfl,rfl⟩)
    | (go_at_call 171;(refine(Word.sub (wd d (k+vs.length)) V f s y x _).mono ?_);rintro e w' ⟨rfl,rfl⟩))
  all_goals
    (go_wp2
     go_ret;have hf:=g.o.fin (by rw[<-g.o.out.1,l.o.len];omega);exact⟨_,_,by rw[<-zH8];rfl,zBo _ _ _,(((l.o.alloc _).alloc _).store (k+vs.length) _).drew,hf.1,hf.2.1,hf.2.2⟩)
end Qt
namespace Qt
theorem back(W w:World)(H n cap k cp:Nat)(os vs:List Nat)(A:OA)(c:Nat)(a:OutC W w H n cap os)(z:SW W (A,vs.length,c) vs)(m:(Value.slice A vs.length c).ownBlock≠some H)(x:Wds os)(hk:k+vs.length<n)(T:n<=2*LIM) :
    Calls prog 191 #[.slice (some ⟨H,k,none⟩) (vs.length+1) cp,.agg #[(A,vs.length,c)]] w λe w'=>∃d:List Nat,e=.returned (.tuple #[])/\OutC W w' H n cap d /\
      Wds d/\za8 os d k (k+vs.length+1)/\∃b,nval d+B64^(k+vs.length+1)*b=nval os+B64^k*nval vs:=by
  refine μ3 a z x λt l D=>?_;have U:vs.length<=9223372036854775806:=by have:=zaP;omega
  clear a z x;have p:OutC W (w.alloc (.cells #[(A,vs.length,c)] 58)) H n cap os:=t.o.alloc _;have q:χ (w.alloc (.cells #[(A,vs.length,c)] 58)) w 0 (A,vs.length,c):=zax rfl rfl;have S:=t.o.lt;go_enter func191,ntmps191;go_wp2_with fail
  generalize hw1:w.alloc (.cells #[(A,vs.length,c)] 58)=w1 at *
  clear hw1;have N:w.heap.size≠H:=ω;generalize w.heap.size=B at *
  refine(Nt.len (A,vs.length,c) vs _ (p.keep l.o m)).mono ?_;rintro e w' ⟨rfl,rfl⟩;have I:=un (p.alloc (.cells #[(A,vs.length,c)] 58));have J:=un (cell_al (ob:=.cells #[(A,vs.length,c)] 58) q);clear p q;generalize w1.alloc (.cells #[(A,vs.length,c)] 58)=w2 at *
  go_wp2_with fail
  go_loopw [4,8] (λF s wr=>∃(j f:Nat) (d:List Nat),s=.int .i64 j/\F=.int .u64 f/\j<=vs.length/\BackInv os d vs k j f/\OutC W wr H n cap d/\χ wr B 0 (A,vs.length,c))
    (λ_ s _=>vs.length-(intOf s).toNat)
  case atStart=>exact⟨0,0,os,rfl,rfl,Zb _,BackInv.start os vs k D.o,I.o,J.o⟩
  obtain⟨j,f,d,rfl,rfl,hj,o,a,hc⟩:=hrel;have G:f<=1:=o.one;have g:=un o;clear o;by_cases R:j<vs.length
  · have r:Hid (SW wr.drew (A,vs.length,c) vs):=un (a.drew.keep l.o m);have O:=zdM l.o.2 j;have y:=zdM g.o.wds (k+j);have P:χ wr.drew H (k+j) (.int .u64 ((wd d (k+j):Nat):Int)):=a.cell (k:=k+j) ω;have K:χ (wr.alloc (.cells #[(A,vs.length,c)] 58)).drew H (k+j) (.int .u64 ((wd d (k+j):Nat):Int)):=cell_al (a.cell (k:=k+j) ω);have L:(wr.alloc (.cells #[(A,vs.length,c)] 58)).drew.frozen? ⟨H,k+j,none⟩=false:=zd1 a.lt (a.fro (k+j))
    have q:χ wr.drew B 0 (A,vs.length,c):=hc;have u:(0:Int)<=(j:Int):=Zf _;have M:(j:Int)<(vs.length:Int)+1:=ω;have Q:(j:Int)<(vs.length:Int):=ω;have i:=un a;have C:=un hc;clear a hc;go_wp2_with fail
    go_region_with (first
      | (go_at_call 170;(with_reducible refine(Nt.word (A,vs.length,c) vs _ u _ r.o).mono ?_);rintro e w' ⟨rfl,rfl⟩)
      | (go_at_call 169;(refine(Word.add (wd d (k+j)) (wd vs j) f y O G _).mono ?_);rintro e w' ⟨rfl,rfl⟩))
    all_goals
      (go_wp2
       exact⟨⟨j+1,_,_,by go_num,rfl,ω,g.o.next l.o.2 (by rw[<-g.o.out.1,i.o.len];omega),((i.o.alloc _).store (k+j) _).drew,cell_set N (cell_al C.o)⟩,by simp[intOf];omega⟩)
  obtain rfl:j=vs.length:=ω;have r:Hid (SW wr (A,vs.length,c) vs):=un (a.keep l.o m);have y:=zdM g.o.wds (k+vs.length);have K:=cell_al (ob:=.cells #[(A,vs.length,c)] 58) (a.cell (k:=k+vs.length) ω);have L:=zd1 (ob:=.cells #[(A,vs.length,c)] 58) a.lt (a.fro (k+vs.length));have u:(0:Int)<=(vs.length:Int):=Zf _;have M:(vs.length:Int)<(vs.length:Int)+1:=ω;have i:=un a;clear a;have hw:IntKind.u64.wrap (((wd d (k+vs.length):Nat):Int)+((f:Nat):Int))=((zjj (wd d (k+vs.length)) f 0:Nat):Int):=by rw[Xt];unfold zjj B64;omega
  have E:=un hw;clear hw;go_wp2_with fail
  refine(Nt.len (A,vs.length,c) vs _ r.o).mono ?_;rintro e w' ⟨rfl,rfl⟩;go_wp2;rw[E.o];have hf:=g.o.fin (by rw[<-g.o.out.1,i.o.len];omega);exact bodyPost_end (v:=.tuple #[]) (by simp[results,results191,go_sem]) rfl ⟨_,rfl,(i.o.alloc _).store (k+vs.length) _,hf.1,hf.2.1,hf.2.2⟩
end Qt
end Go.Proofs.YtbpjabgfcbjjmaaGreat
namespace Go.Proofs.YtbpjabgfcbjjmaaGreat
open Go.RowKit Am Tryz
attribute [local go_sem ↓] Go.wp_at_zero Go.wp_at_succ
variable {qs us vs xs ys:List Nat}{H L N a b c cap g k n q s size:Nat}{e:TypeId}{v:Value}{w:World}
def zv4 (w:World) (q r:Nat) (b:Bool) (e:Ending) (w':World):Prop:=∃(A:OA) (m c:Nat) (A':OA) (m' c':Nat),e=.returned (.tuple #[.agg #[(A,m,c)],.agg #[(A',m',c')],b])/\zas w' (A,m,c) q/\zas w' (A',m',c') r/\Below w w w'
namespace Qt
theorem zIg(s:Value)(ys:List Nat)(b:Nat)(w:World)(a:SW w s ys)(h:wd ys 0=b):Calls prog 170 #[.agg #[s],.int .i64 0] w λe w'=>e=.returned (.int .u64 (b:Int))/\Below w w w' :=
 (Nt.word s ys 0 δ w a).mono λe w' h1=>⟨by rw[h1.1,<-h];rfl,by rw[h1.2];simp[zae]⟩
theorem zIa(g r:Nat)(w:World)(hr:r<18446744073709551616)(hc:χ w g 0 (.int .u64 (r:Int))):Calls prog 130 #[.slice (some ⟨g,0,none⟩) 1 1] w (zc0 w r):=by
 have h:SR w (.slice (some ⟨g,0,none⟩) 1 1) [r]:=⟨some ⟨g,0,none⟩,1,rfl,Za _,ω,by intro z b;grind,σ,λd c j u a=>by
  cases c
  match j,a with
  | 0,a=>simp[wcells]at a;subst a;simpa[Addr.add]using hc
  | j+1,a=>simp[wcells]at a⟩
 have:=Nt.of _ [r] w h (by have:=zaP;simp;omega);simpa[nval]using this
theorem zr5(A B:OA)(m c m' c' a b:Nat)(w:World)(ha:zas w (A,m,c) a)(C:zas w (B,m',c') b)(ae:0<b)(D:wlen b<=1)(af:wlen a<=LIM) :
  Calls prog 182 #[.agg #[(A,m,c)],.agg #[(B,m',c')]] w (zv4 w (a/b) (a%b) true):=by
 obtain⟨ys,hy,aw,ah,ag,hm⟩:=C.words;subst hm;have O:=un ha;have X:=un hy;have ax:(ys.length:Int)<=1:=ω

 have an:=un ag;have ao:=un ah;clear ha C hy ag ah;have W0:∃W,W=(((w.alloc (.cells #[(A,m,c)] 58)).alloc (.cells #[(B,ys.length,c')] 58)).alloc (.cells #[()] 58)).alloc (.cells #[()] 58):=⟨_,rfl⟩
 obtain⟨W,j⟩:=W0;have M:W.heap.size=w.heap.size+1+1+1+1:=by rw[j];simp
 have E:χ W w 0 (A,m,c):=by rw[j];exact cell_al (cell_al (cell_al (zax rfl rfl)))
 have F:χ W (w.heap.size+1) 0 (B,ys.length,c'):=by rw[j];exact cell_al (cell_al (zax σ rfl))
 have r2:θ W (w.heap.size+1+1) #[()] 58:=by rw[j];exact zak (zam σ)
 have r3:θ W (w.heap.size+1+1+1) #[()] 58:=by rw[j];exact zam σ
 have x:Below w w W:=by rw[j];exact(((zae w _).alloc σ _).alloc (by simp;omega) _).alloc (by simp;omega) _
 refine μ6 (O.o.below x) (X.o.below x) r2 r3 x M λP K o p i l=>?_;clear r2 r3 x M

 go_enter func182,ntmps182;go_wp2_with fail
 rw[<-j];clear j;refine(Nt.len (B,ys.length,c') ys _ K.o).mono ?_;rintro e w' ⟨rfl,rfl⟩;have E:=cell_al (ob:=.cells #[(B,ys.length,c')] 58) E;have F:=cell_al (ob:=.cells #[(B,ys.length,c')] 58) F;go_wp2_with fail
 have ai:wd ys 0=b:=by
  have h1:=an.o;have h2:=ao.o
  match ys,h1 with
  | [],_=>simp[nval]at h2;omega
  | [y],_=>simpa[nval,wd]using h2
  | y::z::r,h1=>simp at h1;omega
 refine μ8 ai (P.o.alloc (.cells #[(B,ys.length,c')] 58)) (K.o.alloc (.cells #[(B,ys.length,c')] 58)) (show θ (W.alloc (.cells #[(B,ys.length,c')] 58)) (w.heap.size+1+1) #[()] 58from zak o.o) (show θ (W.alloc (.cells #[(B,ys.length,c')] 58)) (w.heap.size+1+1+1) #[()] 58from zak p.o) (i.o.alloc i.o.size (.cells #[(B,ys.length,c')] 58)) (show w.heap.size+4<=(W.alloc (.cells #[(B,ys.length,c')] 58)).heap.size by have:=l.o;simp;omega) (ae) λar Y L o p i l T=>?_;have U:=un (show b<18446744073709551616 by have:=zdM L.o.2 0;omega);have am:=un af;clear P K O X ai af D ax aw ae;generalize W.alloc (.cells #[(B,ys.length,c')] 58)=V at *
 have S:=un (show ∀w',Below V V w'->((χ w' w 0 (A,m,c)/\χ w' (w.heap.size+1) 0 (B,ys.length,c'))/\Below V V w')from λw' h=>⟨⟨zab h E,zab h F⟩,h⟩)
 go_cut[7,8,9] (λs7 s8 s9 wr=>∃(g:Nat) (Q:OA) (f d:Nat),s7=.pointer (some ⟨g,0,none⟩)/\s8=.int .u64 ((a%b:Nat):Int)/\s9=true/\Below V V wr /\
  χ wr g 0 (Q,f,d)/\zas wr (Q,f,d) (a/b)/\V.heap.size<=g)
 case first =>
  go_region_held3 (λw'=>((χ w' w 0 (A,m,c)/\χ w' (w.heap.size+1) 0 (B,ys.length,c'))/\Below V V w'))
   ((refine S.o _ ?_;repeat(first | exact Zj _ _ | exact(by assumption:_/\Below _ _ _).2 | with_reducible refine bdrew ?_ | with_reducible refine al2 ?_ _ | with_reducible refine set2 ?_ ω | with_reducible refine zc1 ?_ (by assumption))))
   (first
    | (go_at_call 170;(with_reducible refine(zIg (B,ys.length,c') ys b _ (L.o.below (by assumption:_/\Below _ _ _).2) ar.o).mono ?_);rintro e u1 ⟨rfl,D⟩;have ay:=D.size;(try simp at ay);have aR:=ω;(try((first | (have k:=zan (b:=V.heap.size) (v:=.slice none 0 0) (t:=58) D (zal _ _ _);obtain⟨I,⟨a3,a6⟩,⟨a4,a7⟩,⟨a5,a8⟩,⟨a9,ba⟩,bb,bc⟩:=k));have I:=un I)))
    | (go_at_call 186;(with_reducible refine(zCw A m c a b _ (Y.o.below (by assumption:_/\Below _ _ _).2) T.o U.o am.o).mono ?_);rintro e u2 ⟨Q,f,d,rfl,hq,hb2⟩;have az:=hb2.size;(try simp at az);have aS:V.heap.size<=u2.heap.size:=ω;(try((first | (have k:=zan (b:=V.heap.size) (v:=.slice none 0 0) (t:=58) hb2 (I.o);obtain⟨J,⟨aE,aH⟩,⟨aF,aI⟩,⟨aG,aJ⟩,⟨aK,aL⟩,aM,aN⟩:=k) | (have k:=zan (b:=V.heap.size) (v:=.slice none 0 0) (t:=58) hb2 (zak I.o);obtain⟨J,⟨aE,aH⟩,⟨aF,aI⟩,⟨aG,aJ⟩,⟨aK,aL⟩,aM,aN⟩:=k));have J:=un J));(try((first | (have k:=zan (b:=u1.heap.size) (v:=.slice none 0 0) (t:=58) hb2 (zal _ _ _);obtain⟨N,⟨bd,aW⟩,⟨be,aX⟩,⟨aV,aY⟩,⟨aZ,a0⟩,a1,a2⟩:=k));have N:=un N));have HQ:=un hq;clear hq))
  all_goals
   go_wp2;go_meet;refine⟨_,Q,f,d,rfl,rfl,rfl,(by assumption:_/\Below V V _).2,?_,?_,?_⟩
   all_goals
    repeat' (first
     | with_reducible exact HQ.o
     | with_reducible assumption
     | with_reducible exact zeo _ _ _
     | with_reducible exact zfx _ _ _ _
     | with_reducible refine cell_al ?_
     | with_reducible refine Box.cell ?_
     | with_reducible refine cell_set ?_ ?_
     | with_reducible exact Box.new _ _
     | with_reducible exact Box.new1 _ _ _
     | with_reducible refine Box.alloc ?_
     | with_reducible refine Box.set ?_
     | exact Box.of J.o
     | exact Box.of N.o
     | with_reducible refine zas.alloc ?_ _
     | with_reducible refine zas.setBox ?_ ?_
     | with_reducible refine zas.drew ?_
     | omega)
 obtain⟨g,Q,f,d,rfl,rfl,rfl,q,kq,hQ,hg⟩:=hcut;rename World=>wa
 refine μ6 hQ (zad q o.o) (zad q p.o) (i.o.trans (q.mono i.o.size)) (show w.heap.size+4<=wa.heap.size by have:=l.o;have:=q.size;omega) (show a%b<18446744073709551616 by have:=ZW a T.o;have:=U.o;omega) λNQ o p i l hr=>?_;clear q hQ hg S Y L E F;generalize a%b=r at *
 generalize a/b=qq at *
 have av:Hid (χ (wa.alloc (.cells #[.int .u64 (r:Int)] 206)).drew wa 0 (.int .u64 (r:Int))):=un (zeo wa _ _);have aT:χ wa.drew g 0 (Q,f,d):=kq;have aA:χ (wa.alloc (.cells #[.int .u64 (r:Int)] 206)).drew g 0 (Q,f,d):=cell_al kq;go_wp2_with fail
 go_region_with (go_at_call 130;go_loud (refine(zIa wa.heap.size r _ hr.o av.o).mono ?_;rintro e w2 ⟨A2,m2,c2,rfl,hs2,hb2⟩;have s:=un (zad hb2 (show θ (wa.alloc (.cells #[.int .u64 (r:Int)] 206)).drew (w.heap.size+1+1) #[()] 58from zak o.o));have u:=un (zad hb2 (show θ (wa.alloc (.cells #[.int .u64 (r:Int)] 206)).drew (w.heap.size+1+1+1) #[()] 58from zak p.o));have aU:=zab hb2 aA;have Z:=zac s.o 0;have g4:=zag s.o 0;have g5:=zac u.o 0;have g6:=zag u.o 0;simp only[Xa,Z9]at Z g5;have aq:=un hs2;have R:=un hb2;clear hs2 hb2))
 all_goals
  go_wp2;refine Zh (v:=.tuple #[.agg #[(Q,f,d)],.agg #[(A2,m2,c2)],true]) (by simp[results,results182,go_sem,Z,g5]) rfl ?_;have M:=l.o;have nq:=((NQ.o.alloc (.cells #[.int .u64 (r:Int)] 206)).drew).below R.o;have C:=bstep (zhk (i.o.alloc i.o.size _) 1) R.o (by simp;omega);exact⟨_,_,_,_,_,_,rfl,zas.setBox (zas.setBox nq (Box.of s.o)) (Box.set (Box.of u.o)),zas.setBox (zas.setBox aq.o (Box.of s.o)) (Box.set (Box.of u.o)),Xf (Xf C (by simp;omega) _) (by simp;omega) _⟩
end Qt
namespace Qt

theorem zpY(A B:OA)(m c m' c' a b:Nat)(w:World)(J:zas w (A,m,c) a)(u:zas w (B,m',c') b)(Q:¬wlen b<=1)(x:a<b) :
  Calls prog 182 #[.agg #[(A,m,c)],.agg #[(B,m',c')]] w (zv4 w (a/b) (a%b) true):=by
 obtain⟨ys,L,_,_,N,hm⟩:=u.words;subst hm;refine μ3 J u L λz C E=>?_;have R:¬(ys.length:Int)<=1:=ω;clear J u L N;have W0:∃W,W=(((w.alloc (.cells #[(A,m,c)] 58)).alloc (.cells #[(B,ys.length,c')] 58)).alloc (.cells #[()] 58)).alloc (.cells #[()] 58):=⟨_,rfl⟩
 obtain⟨W,f⟩:=W0;have y:W.heap.size=w.heap.size+1+1+1+1:=by rw[f];simp
 have o:χ W w 0 (A,m,c):=by rw[f];exact cell_al (cell_al (cell_al (zax rfl rfl)))
 have q:χ W (w.heap.size+1) 0 (B,ys.length,c'):=by rw[f];exact cell_al (cell_al (zax σ rfl))
 have r2:θ W (w.heap.size+1+1) #[()] 58:=by rw[f];exact zak (zam σ)
 have r3:θ W (w.heap.size+1+1+1) #[()] 58:=by rw[f];exact zam σ
 have j:Below w w W:=by rw[f];exact(((zae w _).alloc σ _).alloc (by simp;omega) _).alloc (by simp;omega) _
 refine μ7 (z.o.below j) (C.o.below j) (E.o.below j) r2 r3 j y λl s t g i r k=>?_;clear r2 r3 j y z C E;go_enter func182,ntmps182;go_wp2_with fail
 rw[<-f];clear f;refine(Nt.len (B,ys.length,c') ys _ t.o).mono ?_;rintro e w' ⟨rfl,rfl⟩;have o:=cell_al (ob:=.cells #[(B,ys.length,c')] 58) o;have q:=cell_al (ob:=.cells #[(B,ys.length,c')] 58) q;go_wp2_with fail
 refine(Nt.cmp A B m c ys.length c' a b _ (l.o.alloc _) (s.o.alloc _)).mono ?_;rintro e M ⟨rfl,hb2⟩;have d:=((zae W _).trans (hb2.mono σ))
 have o:=zab hb2 o;have q:=zab hb2 q;refine μ7 (l.o.below d) (s.o.below d) (t.o.below d) (zad d g.o) (zad d i.o) (r.o.trans (d.mono (by have:=k.o;omega))) (show w.heap.size+4<=M.heap.size by have:=k.o;have:=d.size;omega) λl s t g i r k=>?_;clear hb2 d;rw[zeb (show(a:Int)<(b:Int)by omega)];go_wp2_with fail
 have F:=zac g.o 0;have O:=zag g.o 0;have I:=zac i.o 0;have P:=zag i.o 0;simp only[Xa,Z9]at F I;have K:=Yt x;have hr:=Yl x;have D:=un (And.intro K hr);clear K hr x;go_region
 all_goals
  go_wp2;refine Zh (v:=.tuple #[.agg #[()],.agg #[(A,m,c)],true]) (by simp[results,results182,go_sem,F,I]) rfl ?_;have y:=k.o;rw[D.o.1,D.o.2];exact⟨_,_,_,_,_,_,rfl,zas.zero _,(zas.setBox (zas.setBox l.o (Box.of g.o)) (Box.set (Box.of i.o))).drew,(bsc (bsc r.o)).drew⟩
end Qt
def zq4 (w:World) (xs:List Nat) (e:Ending) (w':World):Prop:=∃(A:OA) (m c:Nat),e=.returned (A,m,c)/\w'.ownsRow w.heap.size 206 1 (A,m,c) xs.length (wcells xs)/\Wds xs/\Below w w w'
theorem zoq(h:Canon xs)(a:0<xs.length):wd xs (xs.length-1)≠0:=by have h1:=h ψ;rw[List.getLast_eq_getElem]at h1;unfold wd;rw[Zg,Ze ω];exact h1
theorem zA5{xs:List Value}(h:w.ownsRow H e size (g,n,cap) n xs)(i:Nat)(hi:i<=n) :
  w.ownsRow g e size (g,i,cap) i (xs.take (i*size)):=by
 have d:i*size<=n*size:=ZV _ hi;refine⟨by rw[ZG,h.1];omega,?_⟩;rcases h.2 with ⟨a,_⟩ | ⟨g',j,cur,a,k,hg,l,b,c,f⟩
 simp at a;simp only[Value.slice.injEq,Option.some.injEq,Addr.mk.injEq,and_true,true_and]at a;obtain⟨rfl,rfl⟩:=a;refine .inr ⟨g,cap,cur,rfl,Za _,hg,ω,b,c,?_⟩;rw[<-f,YX,Xx d]
theorem zxt{base:Nat}{xs:List Value}(h:w.ownsRow base e size v n xs)(b:0<n):∃g cp,v=.slice (some ⟨g,0,none⟩) n cp/\n<=cp/\base<=g:=by
 rcases h.2 with ⟨_,h0⟩ | ⟨g,cap,cur,rfl,a,_,hc,_⟩
 omega;grind
theorem zfF{B:Nat}{xs:List Value}{w':World}(h:w.ownsRow B e k v n xs)(a:Below w w w'):w'.ownsRow B e k v n xs:=by
 refine⟨h.1,?_⟩;rcases h.2 with hn | ⟨g,cap,cur,hv,hB,hg,r⟩
 grind;exact .inr ⟨g,cap,cur,hv,hB,by rw[a.block g (ZS.1 hg).1];exact hg,r⟩
theorem zxv(h:w.ownsRow H 206 1 (g,n,cap) n (wcells ys))(hk:k<=n) :
  w.ownsRow g 206 1 (g,k,cap) k (wcells (ys.take k)):=by
 have:=zA5 h k hk;rw[Xy,<-zg7]at this;exact this
namespace Nt
theorem zC7(s:Value)(xs:List Nat)(w:World)(h:SR w s xs)(y:xs.length<=LIM):Calls prog 165 #[s] w (zq4 w xs):=by
 obtain⟨A,c,rfl,C,z,hw,b,a⟩:=h;have l:=un hw;clear hw;rcases A with _ | ad
 ·obtain⟨rfl,rfl⟩:=b rfl;clear a b;have D:=fun(w:World)=>Yw (P:=prog) w 56 206 none 0 0 0 0 underlying56
  go_enter func165,ntmps165;go_wp2;go_ret;exact⟨_,_,_,rfl,Xo _ _ _ _,Wds.nil,Zj _ _⟩
 have f:=un (a ad rfl);clear a b;have D:=fun(w:World)=>Yw (P:=prog) w 56 206 (some ad) xs.length c 0 0 underlying56
 obtain⟨K,hi,F,I,J⟩:=info_parts zf7;have o:=Vs (e:=206) (size:=1) (base:=w.heap.size) w #[] 0 (Za _) (by unfold maxLen;omega) rfl
 have m:∀j u,(wcells xs)[j]? = some u->(w.alloc (.cells #[] 206)).cell? (ad.add j)=some u:=λj u p =>
  (YE w _ _ (Yb w _ (f.o j u p))).trans (f.o j u p)
 have x:=un o;have v:=un m;have g:0+xs.length<=maxLen:=by unfold maxLen;omega
 have i:(0+xs.length)*8<=140737488355328:=by have:=zaP;omega
 have r:=un g;have t:=un i;clear o m g i y C z;go_enter func165,ntmps165;go_wp2_with (at_builtin;refine wpList_append_own _ rfl _ _ 56 rfl w.heap.size 206 K (.int .u64 0) 1 8 underlying56 hi F I J rfl δ _ _ _ rfl x.o ad xs.length c (wcells xs) rfl (by rw[zdA];omega) v.o (zgf xs) r.o t.o σ ?_;intro M w1 d B L)
 go_ret;rw[Z6,XV]at d;have E:=SW.of_own d l.o;obtain⟨q,m',c',rfl⟩:=E.slice;exact⟨q,m',c',rfl,d,l.o,(zae w _).trans ((Zj _ _).grown B σ (λk hk=>by cases hk;exact Za _))⟩
theorem wordsF(A:OA)(m c:Nat)(xs:List Nat)(w:World)(h:SW w (A,m,c) xs)(b:xs.length<=LIM):Calls prog 173 #[.agg #[(A,m,c)]] w (zq4 w xs):=by
 have a:=(h.alloc (.cells #[(A,m,c)] 58)).reads;have d:=un a;have f:=un b;clear h a b;go_enter func173,ntmps173;go_wp2_with fail
 refine(zC7 _ xs _ d.o f.o).mono ?_;rintro e w1 ⟨A1,m1,c1,rfl,hs1,hw1,hb1⟩;go_wp2;go_ret;exact⟨_,_,_,rfl,zbu hs1 σ,hw1,bstep (zae w _) hb1 σ⟩
end Nt
theorem zH5(w:World)(n:Nat)(a:w.heap.size=n)(j:Nat)(u:Value)(h:(wcells [0,0])[j]? = some u):(w.alloc (.cells #[.int .u64 0,.int .u64 0] 206)).cell? ((⟨n,0,none⟩:Addr).add j)=some u:=by subst a;rw[show(⟨w,0,none⟩:Addr).add j=⟨w,j,none⟩by unfold Addr.add;split<;>simp_all];exact(zac (zal w _ _) j).trans (by match j,h with | 0,h=>simpa[wcells]using h | 1,h=>simpa[wcells]using h | j+2,h=>simp[wcells]at h)
theorem zo4{ops:Array Oper}{o:Oper}{a:Act}{K:Act->World->Prop}{Q:Exit->Act->World->Prop}{E:Prop}(hg:o.guard=none)
  (s x:Operand) (p:o.op=.call { callee:=.builtin .append,args:=#[s,x],argTypes:=#[56,56] })
     (i:w.ownsRow H 206 1 v n (wcells ys)) (q:a.eval s=v) {d:Addr} {m:Nat} (r:a.eval x=.slice (some d) m c) (hm:m=xs.length)
  (l:∀j u,(wcells xs)[j]? = some u->w.cell? (d.add j)=some u) (B:n+xs.length<=2*LIM) (f:H<=w.heap.size)
  (g:∀b w',w'.ownsRow H 206 1 b (n+xs.length) (wcells (ys++xs))->w.grownBy w' v.ownBlock->K (a.put o.dst b) w') :
  if Region.wanted o (yielded ops a.tmps)=true then Oper.wp prog o a w K Q else E:=by
 have hw:Region.wanted o (yielded ops a.tmps)=true:=by simp[Region.wanted,hg]
 rw[if_pos hw];subst hm;obtain⟨A,hi,t,y,z⟩:=info_parts zf7
 refine wp_append_own w s x 56 p H 206 A (.int .u64 0) 1 8 underlying56 hi t y z rfl δ v n _ q i d xs.length c (wcells xs) r (by rw[zdA];omega) l (zgf xs)
  (by unfold maxLen;have:=zaP;omega) (by have:=zaP;omega) f λb w' e k _=>?_
 rw[<-zia]at e;grind
namespace Qt
theorem zrL(b:ys.length=L+1):nval ys=nval (ys.take L)+B64^L*wd ys L:=by
 have h:=zaY ys L ω;have a:ys.drop L=[wd ys L]:=by rw[X8 ω,List.drop_of_length_le ω];unfold wd;rw[Zg,Ze ω];rfl
 rw[a]at h;simpa[nval]using h
theorem zqo{top:Nat}(hw:Wds ys)(i:ys.length=L+1)(c:wd ys L=top)(h0:0<top)(p:64-blen top=s) :
  nval ys*2^s<B64^(L+1)/\2^63*B64^L<=nval ys*2^s:=by
 have e:=zrL i;rw[c]at e;have o:=zlm ys L hw;have k:top<18446744073709551616:=by rw[<-c];grind[zdM]
 have l:=zmT k;have m:=zhl h0;have h1:top<2^blen top:=zil.1 (Za _);have g:2^(blen top-1)<=top:=znL.1 ω;have f:2^blen top*2^s=B64:=by rw[<-Xw,show blen top+s=64 by omega]
 have d:2^(blen top-1)*2^s=2^63:=by rw[<-Xw,show blen top-1+s=63 by omega]
 have j:0<2^s:=Z0 δ;constructor;have b:nval ys<B64^L*2^blen top:=by have:B64^L*(top+1)<=B64^L*2^blen top:=Xl _ h1;rw[XN,Xy]at this;omega
 have a:=Vq b j;rw[XX,f]at a;rw[Xd];exact a;have b:B64^L*2^(blen top-1)<=nval ys:=by have:B64^L*2^(blen top-1)<=B64^L*top:=Xl _ g;omega
 have a:=ZV (2^s) b;rw[XX,d]at a;rw[ZN];exact a
theorem zxq(hw:Wds vs)(hc:Canon vs)(b:nval vs=N)(h1:N<B64^(L+1))(c:2^63*B64^L<=N):vs.length=L+1/\9223372036854775808<=wd vs L:=by
 have f:=zk7 vs hw hc;have k:0<B64^L:=Z0 δ;have a:vs.length=L+1:=by
  rw[f,b];have g:=zaZ h1;have i:¬wlen N<=L:=by rw[zfP];have:1*B64^L<=2^63*B64^L:=ZV _ δ;omega
  omega
 refine⟨a,?_⟩;have e:=zrL a;have j:=zlm vs L hw;rw[b]at e;rcases ZI (wd vs L) 9223372036854775808 with h | h;exfalso;have d:B64^L*(wd vs L+1)<=B64^L*2^63:=Xl _ h;rw[XN,Xy]at d;rw[ZN (2^63)]at c;omega;exact h
theorem zw3(m:us.length=n+1)(k:nval us=a*2^s)(d:a<B64^n)(l:s<64)(j:L+1<=n)(f:2^63*B64^L<=nval vs):nval (us.drop (n-L))<nval vs:=by
 have e:=zaY us (n-L) ω;have h1:a*2^s<B64^n*2^s:=Vq d (Z0 δ);have b:B64^n=B64^(n-L)*B64^L:=by rw[<-Xw];grind
 have c:B64^(n-L)*nval (us.drop (n-L))<B64^(n-L)*(B64^L*2^s):=by rw[<-XX,<-b];omega
 have g:=VC c;have i:B64^L*2^s<=B64^L*2^63:=Xl _ (Xm δ ω);rw[ZN (2^63)]at f;omega
theorem zA6(h1:n<=xs.length)(b:xs.length<=n+1):nval ((xs++[0,0]).take (n+1))=nval xs/\((xs++[0,0]).take (n+1)).length=n+1:=by
 have a:((xs++[0,0]).take (n+1)).length=n+1:=by rw[ZG,ZD];simp;omega
 refine⟨?_,a⟩;rw[List.take_append,zc7];rw[ZZ (show xs.length<=n+1 by omega)];have:nval (([0,0]:List Nat).take (n+1-xs.length))=0:=by rcases(show n+1-xs.length=0\/n+1-xs.length=1 by omega)with h | h<;>rw[h]<;>rfl
 rw[this];simp
theorem unshift{r:Nat}(h:r+b*2^s*q=a*2^s)(e:r<b*2^s):q=a/b/\r/2^s=a%b:=by
 have f:0<2^s:=Z0 δ;have k:2^s∣r:=by have h1:2^s∣a*2^s:=Vt _ _;have g:2^s∣b*2^s*q:=Nat.dvd_trans (Vt _ _) (Nat.dvd_mul_right _ _);rw[<-h]at h1;exact(Nat.dvd_add_left g).1 h1
 obtain⟨t,rfl⟩:=k;have i:2^s*(t+b*q)=2^s*a:=by rw[ZN _ a,<-h];grind
 have c:=VB f i;have d:t<b:=by rw[ZN b]at e;exact VC e
 rw[Nat.mul_div_cancel_left _ f];grind[Nat.add_mul_div_left,Nat.div_eq_of_lt,Nat.add_mul_mod_self_left,Nat.mod_eq_of_lt]
structure DS (w wr:World) (H G gv n nq cu:Nat) (us qs vs:List Nat) (Av:OA) (cv:Nat):Prop where
  u:wr.ownsRow H 206 1 (H,n+1,cu) (n+1) (wcells us)
  q:wr.ownsRow G 206 1 (G,nq,nq) nq (wcells qs)
  v:θ wr gv #[(Av,vs.length,cv)] 58
  sv:SW wr (Av,vs.length,cv) vs
  r2:θ wr (w.heap.size+1+1) #[()] 58
  r3:θ wr (w.heap.size+1+1+1) #[()] 58
  bel:Below w w wr
structure DF (w:World) (H G gv:Nat) (v:Value):Prop where
  hg:H<G
  gh:gv<H
  hw:w.heap.size+4<=gv
  vh:v.ownBlock≠some H
  vg:v.ownBlock≠some G
namespace DS
variable {w wr w':World} {H G gv n nq cu:Nat} {us qs us' qs' vs:List Nat} {Av:OA} {cv:Nat}
theorem step(h:DS w wr H G gv n nq cu us qs vs Av cv)(a:Below wr wr w'):DS w w' H G gv n nq cu us qs vs Av cv :=
 ⟨zfF h.u a,zfF h.q a,zad a h.v,h.sv.below a,zad a h.r2,zad a h.r3,h.bel.trans (a.mono h.bel.size)⟩
theorem blk{x:Nat}{o:Obj}(h:wr.heap[x]? = some o)(hg:wr.grownBy w' (some H))(a:x≠H):w'.heap[x]? = some o :=
 (hg.block x (ZS.1 h).1 (λe=>a (Option.some.inj e))).trans h
theorem turnU(h:DS w wr H G gv n nq cu us qs vs Av cv)(f:DF w H G gv (Av,vs.length,cv))(hg:wr.grownBy w' (some H))(a:w'.ownsRow H 206 1 (H,n+1,cu) (n+1) (wcells us')):DS w w' H G gv n nq cu us' qs vs Av cv :=
 ⟨a,h.q.kept hg (.inr (by have:=f.hg;simp[Value.ownBlock];omega)),blk h.v hg (by have:=f.gh;omega),
  h.sv.keep λk hk=>hg.block k (h.sv.block hk) (λe=>f.vh (by rw[hk,e])),
  blk h.r2 hg (by have:=f.gh;have:=f.hw;omega),blk h.r3 hg (by have:=f.gh;have:=f.hw;omega),
  h.bel.grown hg h.bel.size (λk hk=>by cases hk;have:=f.gh;have:=f.hw;omega)⟩
theorem turnQ(h:DS w wr H G gv n nq cu us qs vs Av cv)(f:DF w H G gv (Av,vs.length,cv))(hg:wr.grownBy w' (some G))(a:w'.ownsRow G 206 1 (G,nq,nq) nq (wcells qs')):DS w w' H G gv n nq cu us qs' vs Av cv :=
 ⟨h.u.kept hg (.inr (by have:=f.hg;simp[Value.ownBlock];omega)),a,blk h.v hg (by have:=f.gh;have:=f.hg;omega),
  h.sv.keep λk hk=>hg.block k (h.sv.block hk) (λe=>f.vg (by rw[hk,e])),
  blk h.r2 hg (by have:=f.gh;have:=f.hg;have:=f.hw;omega),blk h.r3 hg (by have:=f.gh;have:=f.hg;have:=f.hw;omega),
  h.bel.grown hg h.bel.size (λk hk=>by cases hk;have:=f.gh;have:=f.hg;have:=f.hw;omega)⟩
theorem setQ(h:DS w wr H G gv n nq cu us qs vs Av cv)(f:DF w H G gv (Av,vs.length,cv))(k x:Nat):DS w (wr.setCell ⟨G,k,none⟩ (.int .u64 (x:Int))) H G gv n nq cu us (qs.set k x) vs Av cv :=
 h.turnQ f (h.q.stored k _).2 (by rw[ziN];exact(h.q.stored k _).1)
theorem cellU(h:DS w wr H G gv n nq cu us qs vs Av cv)(a:us.length=n+1)(hk:k<n+1):χ wr H k (.int .u64 ((wd us k:Nat):Int)):=by rw[h.u.cellAt k ω,zeu ω]
theorem cellQ(h:DS w wr H G gv n nq cu us qs vs Av cv)(a:qs.length=nq)(hk:k<nq):χ wr G k (.int .u64 ((wd qs k:Nat):Int)):=by rw[h.q.cellAt k ω,zeu ω]
theorem cellV(h:DS w wr H G gv n nq cu us qs vs Av cv):χ wr gv 0 (Av,vs.length,cv):=zac h.v 0
theorem swQ(h:DS w wr H G gv n nq cu us qs vs Av cv)(a:qs.length=nq)(hw:Wds qs):SW wr (G,nq,nq) qs:=by subst a;exact SW.of_own h.q hw
theorem swU(h:DS w wr H G gv n nq cu us qs vs Av cv)(b:us.length=n+1)(hw:Wds us):SW wr (H,n+1,cu) us:=by have a:=h.u;rw[<-b]at a ⊢;grind[SW.of_own]
theorem outC(h:DS w wr H G gv n nq cu us qs vs Av cv)(a:us.length=n+1):OutC wr wr H (n+1) cu us:=⟨h.u,⟨rfl,rfl,rfl,Za _,λ_ _ _=>rfl⟩,a⟩
theorem ofOut(h:DS w wr H G gv n nq cu us qs vs Av cv)(f:DF w H G gv (Av,vs.length,cv))(o:OutC wr w' H (n+1) cu us'):DS w w' H G gv n nq cu us' qs vs Av cv:=h.turnU f o.bel o.own
end DS
theorem zvl(W:World)(g n c k j:Nat)(K:Int)(b:K=(j:Int))(h1:k<=j)(f:j<=c)(i:k<c) :
  (Instr.slice 56 (g,n,c) (some (.int .i64 (k:Int))) (some (.int .i64 K)) none).run prog W=.ok (.slice (some ⟨g,k,none⟩) (j-k) (c-k)) W:=by
 subst b;have e:prog.underlying 56=some (.slice (prog.elem 56)):=by simp[Program.elem,underlying56]
 have d:prog.elem 56=206:=by simp[Program.elem,underlying56]
 rw[run_slice_lh W 56 _ _ _ e .i64 .i64 _ _ ω ω ω,d];have h0:c≠k:=ω;by_cases a:k=0;subst a;simp[Result.andThen,sliced,Addr.add,h0];simp[Result.andThen,sliced,Addr.add,h0,a]
theorem zmb{os zs:List Nat}(h:za8 us os a b)(k:za8 os zs a b):za8 us zs a b:=⟨k.1.trans h.1,λj hj=>(k.2 j hj).trans (h.2 j hj)⟩
theorem zqw{nq:Nat}{a:List Nat}(b:LdInv N (nval vs) us qs (k+1))(d:Window us vs k)(j:Wds vs)(hm:2<=vs.length)(hk:k<qs.length)(f:k<=us.length)(l:9223372036854775808<=wd vs (vs.length-1))
  (hg:GuessIs (wd us (k+vs.length)) (wd us (k+vs.length-1)) (wd us (k+vs.length-2)) (wd vs (vs.length-1)) (wd vs (vs.length-2)) q)
  (i:za8 us a k (k+vs.length+1)) (g:Wds a) (c:nval a+B64^k*(q*nval vs)=nval us+B64^(k+vs.length+1)*0):LdInv N (nval vs) a (qs.set k q) k:=by
 have _:=nq;have e:=d.guess b.wu j hm (by unfold wd at l;omega) hg;rw[Nat.mul_zero,Yj]at c;exact b.step hk f i g c e.1 hg.lt
theorem zsu{a d:List Nat}(e:LdInv N (nval vs) us qs (k+1))(b:Window us vs k)(v:Wds vs)(hm:2<=vs.length)(hk:k<qs.length)(f:k<=us.length)(x:9223372036854775808<=wd vs (vs.length-1))
  (hg:GuessIs (wd us (k+vs.length)) (wd us (k+vs.length-1)) (wd us (k+vs.length-2)) (wd vs (vs.length-1)) (wd vs (vs.length-2)) q)
  (i:za8 us a k (k+vs.length+1)) (t:Wds a) (j:nval a+B64^k*(q*nval vs)=nval us+B64^(k+vs.length+1)*1)
  (m:za8 a d k (k+vs.length+1)) (l:Wds d) (p:nval d+B64^(k+vs.length+1)*c=nval a+B64^k*nval vs):LdInv N (nval vs) d ((qs.set k q).set k (q-1)) k/\0<q:=by
 have r:=b.guess e.wu v hm (by unfold wd at x;omega) hg;have s:¬q*nval vs<=nval (us.drop k):=λh=>by have:=zo6 b t i f j (Za 1) h;omega
 have g:0<q:=ψ;have u:=(b.z.lt e.wu).2;have o:=ztX b l (zmb i m) f j p g r.2 u;refine⟨?_,g⟩;rw[List.set_set];exact e.step hk f (zmb i m) l o (by rw[Nat.sub_add_cancel g];omega) (by have:=hg.lt;omega)
