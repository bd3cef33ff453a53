/- Contracts and lemmas: Word Word2. Conditions: as each says. -/
import Derived.Test.YtbpjabgfcbjjmaaGreatProg
import Derived.Test.YtbpjabgfcbjjmaaGreatMathYn
import Derived.WalkKit
import Derived.WalkSpells
import Derived.Deep.QuietTactic
import Derived.BigQuiet
import Derived.Lib.Hide
set_option linter.all false
set_option maxHeartbeats 1000000
def Zi:=@Go.bodyPost_ret
def Zl:=@Go.RowKit.Below.refl
def ZE:=@Go.RowKit.Below.heap_setCell
def Xi:=@Go.World.cell?_drew
def Xj:=@Go.RowKit.Below.setCell
def Xn:=@Go.RowKit.Below.alloc
def Xs:=@Go.World.ownsRow_nil
def Xw:=@Go.IntKind.wrap_u64
def XC:=@Go.IntWalk.i64_in
def XW:=@Go.DataW.trod_int
def Yg:=@Go.World.block_lt_of_cell?
def Yz:=@Go.Lib.run_eql_slice_nil
def YI:=@Go.World.cell?_alloc_lt
def YJ:=@Go.World.ownsRow_lit
def Vb:=@Go.Region.noSelect_spec
def Vd:=@Go.Region.free_spec
def Vj:=@Go.IntKind.wrap_i64
def Vn:=@Go.World.cells?_some
def VA:=@Go.World.ownsRow_made
namespace Go.Proofs.YtbpjabgfcbjjmaaGreat
open Go.RowKit Am
open Lib (hid)
variable {a:Int}{K N X b:Nat}
abbrev OA:Type:=Option Addr
instance (A:OA)(n c:Nat):CoeDep (OA × Nat × Nat) (A,n,c) Go.Value:=⟨.slice A n c⟩
instance (b n c:Nat):CoeDep (Nat × Nat × Nat) (b,n,c) Go.Value:=⟨.slice (some ⟨b,0,none⟩) n c⟩
instance:CoeDep Unit () Go.Value:=⟨.slice none 0 0⟩
instance:Coe Bool Go.Value:=⟨.bool⟩
instance:Coe Int Go.Value:=⟨.int .i64⟩
instance (A:OA)(n c:Nat):CoeDep (Option (OA × Nat × Nat)) (some (A,n,c)) (Option Go.Value):=⟨some (.slice A n c)⟩
instance (b n c:Nat):CoeDep (Option (Nat × Nat × Nat)) (some (b,n,c)) (Option Go.Value):=⟨some (.slice (some ⟨b,0,none⟩) n c)⟩
def un{p:Prop}(h:p):Go.RowKit.Hid p:=h
instance:Coe Go.World Nat:=⟨λw=>w.heap.size⟩
def _root_.Go.RowKit.Hid.o{p:Prop}(h:Go.RowKit.Hid p):p:=h
instance:CoeDep (Option Unit) (some ()) (Option Go.Value):=⟨some (.slice none 0 0)⟩
def _root_.ξ{P:Prop}(h:P:=by kernel_rfl):P:=h
structure _root_.Χ1(w:Go.World)(k o:Nat)(v:Go.Value) where
def _root_.χ(w:Go.World)(k o:Nat)(v:Go.Value):Χ1 w k o v:=⟨⟩
instance{w:Go.World}{k o:Nat}{v:Go.Value}:CoeSort (Χ1 w k o v) Prop:=⟨λ_=>w.cell? ⟨k,o,none⟩=some v⟩
instance{w:Go.World}{k o:Nat}{v:Go.Value}:CoeOut (Χ1 w k o v) Prop:=⟨λ_=>w.cell? ⟨k,o,none⟩=some v⟩
structure _root_.Χ2(w:Go.World)(k:Nat)(a:Array Go.Value)(t:Nat) where
def _root_.η(w:Go.World)(k:Nat)(a:Array Go.Value)(t:Nat):Χ2 w k a t:=⟨⟩
instance{w:Go.World}{k:Nat}{a:Array Go.Value}{t:Nat}:CoeSort (Χ2 w k a t) Prop:=⟨λ_=>w.heap[k]? = some (.cells a t)⟩
instance{w:Go.World}{k:Nat}{a:Array Go.Value}{t:Nat}:CoeOut (Χ2 w k a t) Prop:=⟨λ_=>w.heap[k]? = some (.cells a t)⟩
structure _root_.Χ3(w:Go.World)(k:Nat)(a:Array Go.Value)(t:Nat) where
def _root_.θ(w:Go.World)(k:Nat)(a:Array Go.Value)(t:Nat):Χ3 w k a t:=⟨⟩
instance{w:Go.World}{k:Nat}{a:Array Go.Value}{t:Nat}:CoeSort (Χ3 w k a t) Prop:=⟨λ_=>w.heap[k]? = some (.cells a t (0,0))⟩
instance{w:Go.World}{k:Nat}{a:Array Go.Value}{t:Nat}:CoeOut (Χ3 w k a t) Prop:=⟨λ_=>w.heap[k]? = some (.cells a t (0,0))⟩
def _root_.μ3{p0 p1 p2 G:Prop}(xp0:p0)(xp1:p1)(xp2:p2)(h:Go.RowKit.Hid p0->Go.RowKit.Hid p1->Go.RowKit.Hid p2->G):G:=h (un xp0) (un xp1) (un xp2)
def _root_.μ4{p0 p1 p2 p3 G:Prop}(xp0:p0)(xp1:p1)(xp2:p2)(xp3:p3)(h:Go.RowKit.Hid p0->Go.RowKit.Hid p1->Go.RowKit.Hid p2->Go.RowKit.Hid p3->G):G:=h (un xp0) (un xp1) (un xp2) (un xp3)
def _root_.μ5{p0 p1 p2 p3 p4 G:Prop}(xp0:p0)(xp1:p1)(xp2:p2)(xp3:p3)(xp4:p4)(h:Go.RowKit.Hid p0->Go.RowKit.Hid p1->Go.RowKit.Hid p2->Go.RowKit.Hid p3->Go.RowKit.Hid p4->G):G:=h (un xp0) (un xp1) (un xp2) (un xp3) (un xp4)
def _root_.μ6{p0 p1 p2 p3 p4 p5 G:Prop}(xp0:p0)(xp1:p1)(xp2:p2)(xp3:p3)(xp4:p4)(xp5:p5)(h:Go.RowKit.Hid p0->Go.RowKit.Hid p1->Go.RowKit.Hid p2->Go.RowKit.Hid p3->Go.RowKit.Hid p4->Go.RowKit.Hid p5->G):G:=h (un xp0) (un xp1) (un xp2) (un xp3) (un xp4) (un xp5)
def _root_.μ7{p0 p1 p2 p3 p4 p5 p6 G:Prop}(xp0:p0)(xp1:p1)(xp2:p2)(xp3:p3)(xp4:p4)(xp5:p5)(xp6:p6)(h:Go.RowKit.Hid p0->Go.RowKit.Hid p1->Go.RowKit.Hid p2->Go.RowKit.Hid p3->Go.RowKit.Hid p4->Go.RowKit.Hid p5->Go.RowKit.Hid p6->G):G:=h (un xp0) (un xp1) (un xp2) (un xp3) (un xp4) (un xp5) (un xp6)
def _root_.μ8{p0 p1 p2 p3 p4 p5 p6 p7 G:Prop}(xp0:p0)(xp1:p1)(xp2:p2)(xp3:p3)(xp4:p4)(xp5:p5)(xp6:p6)(xp7:p7)(h:Go.RowKit.Hid p0->Go.RowKit.Hid p1->Go.RowKit.Hid p2->Go.RowKit.Hid p3->Go.RowKit.Hid p4->Go.RowKit.Hid p5->Go.RowKit.Hid p6->Go.RowKit.Hid p7->G):G:=h (un xp0) (un xp1) (un xp2) (un xp3) (un xp4) (un xp5) (un xp6) (un xp7)
def _root_.μ9{p0 p1 p2 p3 p4 p5 p6 p7 p8 G:Prop}(xp0:p0)(xp1:p1)(xp2:p2)(xp3:p3)(xp4:p4)(xp5:p5)(xp6:p6)(xp7:p7)(xp8:p8)(h:Go.RowKit.Hid p0->Go.RowKit.Hid p1->Go.RowKit.Hid p2->Go.RowKit.Hid p3->Go.RowKit.Hid p4->Go.RowKit.Hid p5->Go.RowKit.Hid p6->Go.RowKit.Hid p7->Go.RowKit.Hid p8->G):G:=h (un xp0) (un xp1) (un xp2) (un xp3) (un xp4) (un xp5) (un xp6) (un xp7) (un xp8)
def _root_.μ10{p0 p1 p2 p3 p4 p5 p6 p7 p8 p9 G:Prop}(xp0:p0)(xp1:p1)(xp2:p2)(xp3:p3)(xp4:p4)(xp5:p5)(xp6:p6)(xp7:p7)(xp8:p8)(xp9:p9)(h:Go.RowKit.Hid p0->Go.RowKit.Hid p1->Go.RowKit.Hid p2->Go.RowKit.Hid p3->Go.RowKit.Hid p4->Go.RowKit.Hid p5->Go.RowKit.Hid p6->Go.RowKit.Hid p7->Go.RowKit.Hid p8->Go.RowKit.Hid p9->G):G:=h (un xp0) (un xp1) (un xp2) (un xp3) (un xp4) (un xp5) (un xp6) (un xp7) (un xp8) (un xp9)
def _root_.μ11{p0 p1 p2 p3 p4 p5 p6 p7 p8 p9 p10 G:Prop}(xp0:p0)(xp1:p1)(xp2:p2)(xp3:p3)(xp4:p4)(xp5:p5)(xp6:p6)(xp7:p7)(xp8:p8)(xp9:p9)(xp10:p10)(h:Go.RowKit.Hid p0->Go.RowKit.Hid p1->Go.RowKit.Hid p2->Go.RowKit.Hid p3->Go.RowKit.Hid p4->Go.RowKit.Hid p5->Go.RowKit.Hid p6->Go.RowKit.Hid p7->Go.RowKit.Hid p8->Go.RowKit.Hid p9->Go.RowKit.Hid p10->G):G:=h (un xp0) (un xp1) (un xp2) (un xp3) (un xp4) (un xp5) (un xp6) (un xp7) (un xp8) (un xp9) (un xp10)
def _root_.μ12{p0 p1 p2 p3 p4 p5 p6 p7 p8 p9 p10 p11 G:Prop}(xp0:p0)(xp1:p1)(xp2:p2)(xp3:p3)(xp4:p4)(xp5:p5)(xp6:p6)(xp7:p7)(xp8:p8)(xp9:p9)(xp10:p10)(xp11:p11)(h:Go.RowKit.Hid p0->Go.RowKit.Hid p1->Go.RowKit.Hid p2->Go.RowKit.Hid p3->Go.RowKit.Hid p4->Go.RowKit.Hid p5->Go.RowKit.Hid p6->Go.RowKit.Hid p7->Go.RowKit.Hid p8->Go.RowKit.Hid p9->Go.RowKit.Hid p10->Go.RowKit.Hid p11->G):G:=h (un xp0) (un xp1) (un xp2) (un xp3) (un xp4) (un xp5) (un xp6) (un xp7) (un xp8) (un xp9) (un xp10) (un xp11)
def bsc{B:Nat}{a w:World}{p:Addr}{u:Value}(h:Below B a w)(b:B<=p.block:=by first | (dsimp only;omega) | omega):Below B a (w.setCell p u):=h.setCell b u
def zqv{b c d:Int}(h1:a=c)(e:b=d):Ending.returned (.tuple #[.int .u64 a,.int .u64 b])=Ending.returned (.tuple #[.int .u64 c,.int .u64 d]):=by rw[h1,e]
def zst{k:IntKind}{b:Int}(h1:a=b):Ending.returned (.int k a)=Ending.returned (.int k b):=by rw[h1]
def zb7(a:Nat)(h:a<18446744073709551616):IntKind.u64.wrap (a:Int)=(a:Int):=by rw[Xw];omega
namespace Word
def zHz(x y c:Nat)(hc:c<=1) :
  IntKind.u64.wrap (IntKind.u64.wrap (↑x + ↑y)+bits BinOp.and IntKind.u64 (↑c) 1)=((zjj x y c:Nat):Int):=by
 rw[show(1:Int)=((1:Nat):Int)from rfl,u64_and_nat c 1 ω δ,ztU,Xw,Xw];unfold zjj B64;omega
def zDc(x y c:Nat)(a:x<18446744073709551616)(b:y<18446744073709551616)(hc:c<=1) :
  bits BinOp.or IntKind.u64 (bits BinOp.and IntKind.u64 ↑x ↑y) (bits BinOp.andNot IntKind.u64 (bits BinOp.or IntKind.u64 ↑x ↑y) ((zjj x y c:Nat):Int))/9223372036854775808=((zlD x y c:Nat):Int):=by
 have h1:=ztQ x y c;have d:x&&&y<18446744073709551616:=XR Nat.and_le_left a;have f:x|||y<2^64:=Nat.or_lt_two_pow ω ω;have e:(x|||y)&&&(18446744073709551615-zjj x y c)<18446744073709551616:=XR Nat.and_le_left ω;rw[u64_and_nat x y a b,u64_or_nat x y a b,u64_andNot_nat _ _ ω h1,u64_or_nat _ _ d e];have:=zwy x y c a b hc;unfold zjj zlD B64;rw[<-this];rfl
def zHA(x y c:Nat)(a:y<18446744073709551616)(hc:c<=1) :
  IntKind.u64.wrap (IntKind.u64.wrap (↑x - ↑y)-bits BinOp.and IntKind.u64 (↑c) 1)=((zqC x y c:Nat):Int):=by
 rw[show(1:Int)=((1:Nat):Int)from rfl,u64_and_nat c 1 ω δ,ztU,Xw,Xw];unfold zqC B64;omega
def zDe(x y c:Nat)(a:x<18446744073709551616)(b:y<18446744073709551616)(hc:c<=1) :
  bits BinOp.or IntKind.u64 (bits BinOp.and IntKind.u64 (bits BinOp.xor IntKind.u64 IntKind.u64.max ↑x) ↑y)
    (bits BinOp.and IntKind.u64 (bits BinOp.xor IntKind.u64 IntKind.u64.max (bits BinOp.xor IntKind.u64 ↑x ↑y)) ((zqC x y c:Nat):Int))/9223372036854775808=((zvv x y c:Nat):Int):=by
 have h1:=zBp x y c;have hm:IntKind.u64.max=((18446744073709551615:Nat):Int):=δ
 have j:x^^^y<2^64:=Nat.xor_lt_two_pow ω ω;have d:∀z:Nat,z<18446744073709551616->18446744073709551615^^^z=18446744073709551615-z:=by
  intro z k;have e:(18446744073709551615:Nat)=2^64-1:=δ;rw[e];have i:z<2^64:=ω;have h1:(BitVec.allOnes 64^^^BitVec.ofNat 64 z).toNat=(~~~ BitVec.ofNat 64 z).toNat:=by rw[BitVec.allOnes_xor]
  rw[BitVec.toNat_xor,BitVec.toNat_allOnes,BitVec.toNat_not,BitVec.toNat_ofNat,Yn i]at h1;exact h1
 rw[hm,u64_xor_nat _ _ δ a,u64_xor_nat _ _ a b,u64_xor_nat _ _ δ ω,d x a,d _ ω];have f:(18446744073709551615-x)&&&y<18446744073709551616:=XR Nat.and_le_right b;have g:(18446744073709551615-(x^^^y))&&&zqC x y c<18446744073709551616:=XR Nat.and_le_right h1;rw[u64_and_nat _ _ ω b,u64_and_nat _ _ ω h1,u64_or_nat _ _ f g];have:=zt1 x y c a b hc;unfold zqC zvv B64;rw[<-this];rfl
def add(x y c:Nat)(a:x<18446744073709551616)(b:y<18446744073709551616)(hc:c<=1)(w:World):Calls Tryz.prog 169 #[.int .u64 x,.int .u64 y,.int .u64 c] w λe w'=>e=.returned (.tuple #[.int .u64 (zjj x y c:Nat),.int .u64 (zlD x y c:Nat)])/\w=w':=by
 have d:=zHz x y c hc;have f:=zDc x y c a b hc;go_enter Tryz.func169,Tryz.ntmps169;go_wp2;go_ret2
 exact⟨zqv rfl rfl,rfl⟩
def sub(x y c:Nat)(b:x<18446744073709551616)(a:y<18446744073709551616)(hc:c<=1)(w:World):Calls Tryz.prog 171 #[.int .u64 x,.int .u64 y,.int .u64 c] w λe w'=>e=.returned (.tuple #[.int .u64 (zqC x y c:Nat),.int .u64 (zvv x y c:Nat)])/\w=w':=by
 have d:=zHA x y c a hc;have f:=zDe x y c b a hc;have g:IntKind.u64.signed=false:=rfl;go_enter Tryz.func171,Tryz.ntmps171;go_wp2;go_ret2
 exact⟨zqv rfl rfl,rfl⟩
def zhS{a:Nat}(d:a<4294967296)(e:b<4294967296):a*b<=18446744065119617025:=by have h1:a<=4294967295:=ω;have c:b<=4294967295:=ω;exact Xr h1 c
def zAi(x y:Nat)(a:x<18446744073709551616)(d:y<18446744073709551616) :
  IntKind.u64.wrap (IntKind.u64.wrap (IntKind.u64.wrap (↑x/4294967296*(↑y/4294967296)) +
    IntKind.u64.wrap (IntKind.u64.wrap (↑x/4294967296*bits BinOp.and IntKind.u64 (↑y) 4294967295) +
     IntKind.u64.wrap (bits BinOp.and IntKind.u64 (↑x) 4294967295*bits BinOp.and IntKind.u64 (↑y) 4294967295)/4294967296)/4294967296) +
   IntKind.u64.wrap (bits BinOp.and IntKind.u64 (IntKind.u64.wrap (IntKind.u64.wrap (↑x/4294967296*bits BinOp.and IntKind.u64 (↑y) 4294967295) +
     IntKind.u64.wrap (bits BinOp.and IntKind.u64 (↑x) 4294967295*bits BinOp.and IntKind.u64 (↑y) 4294967295)/4294967296)) 4294967295 +
    IntKind.u64.wrap (bits BinOp.and IntKind.u64 (↑x) 4294967295*(↑y/4294967296)))/4294967296)=((zdw x y 0 0:Nat):Int):=by
 have e:(4294967295:Int)=((4294967295:Nat):Int):=rfl;have f:(4294967296:Int)=((4294967296:Nat):Int):=rfl;have j:=zDH x y a d;have c:x/4294967296<4294967296:=ω;have i:y/4294967296<4294967296:=ω;have b:x%4294967296<4294967296:=Z0 _ δ;have g:y%4294967296<4294967296:=Z0 _ δ;have n:=zhS c i;have m:=zhS c g;have k:=zhS b g;have l:=zhS b i;rw[e,f,u64_and_nat x _ a δ,u64_and_nat y _ d δ,zj9,zj9];simp only[<-XS,<-XQ];generalize x/4294967296*(y/4294967296)=p11 at *
 generalize x/4294967296*(y%4294967296)=p10 at *
 generalize x%4294967296*(y%4294967296)=p00 at *
 generalize x%4294967296*(y/4294967296)=p01 at *
 rw[zb7 p11 ω,zb7 p10 ω,zb7 p00 ω,zb7 p01 ω];simp only[<-XS,<-Yy];rw[zb7 (p10+p00/4294967296) ω,u64_and_nat _ _ ω δ,zj9];simp only[<-XS,<-Yy];rw[zb7 _ ω,zb7 _ ω];simp only[<-XS,<-Yy];rw[zb7 _ ω];unfold zdw;rw[show x*y+0+0=x*y from rfl,<-j]
def zAj(x y:Nat):IntKind.u64.wrap (↑x * ↑y)=((zdo x y 0 0:Nat):Int):=by rw[<-XQ,Xw];rfl
def mul(x y:Nat)(a:x<18446744073709551616)(b:y<18446744073709551616)(w:World):Calls Tryz.prog 183 #[.int .u64 x,.int .u64 y] w λe w'=>e=.returned (.tuple #[.int .u64 (zdw x y 0 0:Nat),.int .u64 (zdo x y 0 0:Nat)])/\w=w':=by
 have c:=zAi x y a b;have d:=zAj x y;go_enter Tryz.func183,Tryz.ntmps183;go_wp2;go_ret2
 refine⟨zqv ?_ ?_,rfl⟩;rfl;rfl
def zxl(x y a b:Nat) :
  zjj (zjj (zdo x y 0 0) a 0) b 0=zdo x y a b/\zdw x y 0 0+zlD (zdo x y 0 0) a 0+zlD (zjj (zdo x y 0 0) a 0) b 0=zdw x y a b:=by
 unfold zjj zlD zdo zdw B64;omega
def mulAdd(x y a b:Nat)(i:x<18446744073709551616)(j:y<18446744073709551616)(f:a<18446744073709551616)(g:b<18446744073709551616)(w:World) :
  Calls Tryz.prog 172 #[.int .u64 x,.int .u64 y,.int .u64 a,.int .u64 b] w λe w'=>e=.returned (.tuple #[.int .u64 (zdw x y a b:Nat),.int .u64 (zdo x y a b:Nat)])/\w=w':=by
 have h1:=zrG x y 0 0;have m:=ztQ (zdo x y 0 0) a 0;have h:=zxl x y a b;have n:=zxp i j f g;have c:IntKind.u64.wrap ((zdw x y 0 0:Nat)+(zlD (zdo x y 0 0) a 0:Nat):Int)=((zdw x y 0 0+zlD (zdo x y 0 0) a 0:Nat):Int):=by rw[<-Yy];exact zb7 _ ω
 have d:IntKind.u64.wrap (((zdw x y 0 0+zlD (zdo x y 0 0) a 0:Nat):Int)+(zlD (zjj (zdo x y 0 0) a 0) b 0:Nat))=((zdw x y a b:Nat):Int):=by rw[<-Yy,h.2];exact zb7 _ n
 have H:=hid h;have k:=hid c;have l:=hid d;clear h c d;go_enter Tryz.func172,Tryz.ntmps172;go_wp2_with fail
 refine(mul x y i j _).mono ?_;rintro e w' ⟨rfl,rfl⟩;go_wp2_with fail
 refine(add _ a 0 h1 f ω _).mono ?_;rintro e w' ⟨rfl,rfl⟩;go_wp2_with fail
 refine(add _ b 0 m g ω _).mono ?_;rintro e w' ⟨rfl,rfl⟩;go_wp2;go_ret2
 refine⟨zqv ?_ ?_,rfl⟩;exact(congrArg (λz=>IntKind.u64.wrap (z+_)) k.out).trans l.out;exact congrArg Int.ofNat H.out.1
end Word
namespace Word
def zpm (K:Int) (X:Nat):Prop:=((K=32/\X<2^64)\/(K=16/\X<2^32)\/(K=8/\X<2^16)\/(K=4/\X<2^8)\/(K=2/\X<2^4)\/(K=1/\X<2^2)\/(K=0/\X<2))
def zfe (x0:Nat) (x n k:Value):Prop:=∃(N:Nat) (K:Int) (X:Nat),n=.int .i64 N/\k=.int .i64 K/\x=.int .u64 X/\N<=64/\X<18446744073709551616/\blen x0=N+blen X/\zpm K X
def zfe.hit(a:Int)(j:blen b=N+blen X)(g:b<18446744073709551616)(c:X<2^(K+K))(f:X/2^K≠0)
  (e:∀Y,Y<2^K->zpm a Y) (d:X<18446744073709551616) :
  zfe b (.int .u64 ((X/2^K:Nat):Int)) (.int .i64 ((N:Int)+(K:Int))) (.int .i64 a):=by
 have k:=zr2 f;have i:=zmT g;refine⟨N+K,a,X/2^K,σ,rfl,rfl,ω,?_,ω,e _ ?_⟩;exact XR (Yf _ _) d
 simp_all[Xv,Z3,XA]
def zfe.miss(a:Int)(d:blen b=N+blen X)(hN:N<=64)(g:X/2^K=0)
  (e:∀Y,Y<2^K->zpm a Y) (c:X<18446744073709551616) :
  zfe b (.int .u64 (X:Int)) (.int .i64 (N:Int)) (.int .i64 a):=by
 refine⟨N,a,X,rfl,rfl,rfl,hN,c,d,e _ ?_⟩;have f:0<2^K:=Z3 δ;simp_all
def len(x:Nat)(f:x<18446744073709551616)(w:World):Calls Tryz.prog 196 #[.int .u64 x] w λe w'=>e=.returned (.int .i64 (blen x:Nat))/\∃n,w'=w.drewN n:=by
 go_enter Tryz.func196,Tryz.ntmps196;go_wp2;go_loopw [0,3,4] (λl n k wr=>zfe x l n k/\∃q,wr=w.drewN q) (λ_ _ k _=>(intOf k).toNat)
 case atStart=>exact⟨⟨0,32,x,rfl,rfl,rfl,ω,f,ω,.inl ⟨rfl,by simpa using f⟩⟩,0,rfl⟩
 obtain⟨⟨N,K,X,rfl,rfl,rfl,hN,c,i,hc⟩,q,rfl⟩:=hrel;have b:=hid i;have m:=hid hc;rcases hc with ⟨rfl,g⟩ | ⟨rfl,g⟩ | ⟨rfl,g⟩ | ⟨rfl,g⟩ | ⟨rfl,g⟩ | ⟨rfl,g⟩ | ⟨rfl,g⟩
 ·by_cases h0:X/2^32=0
  ·have a:=hid (zfe.miss (K:=32) 16 b.out hN h0 (λY h=>by unfold zpm;omega) c);have d:((X:Int)/4294967296 != 0)=false:=by rw[bne_eq_false_iff_eq];omega
   go_wp2;go_roundw
   case rel=>exact⟨a.out,q,rfl⟩
   case measure=>simp[intOf]
  have a:=hid (zfe.hit (K:=32) 16 b.out f ω h0 (λY h=>by unfold zpm;omega) c);have d:((X:Int)/4294967296 != 0)=true:=by rw[bne_iff_ne];omega
  go_wp2;go_quiet (fail)
  go_wp2;go_roundw
  case rel=>exact⟨a.out,_,rfl⟩
  case measure=>simp[intOf]
 ·by_cases h0:X/2^16=0
  ·have a:=hid (zfe.miss (K:=16) 8 b.out hN h0 (λY h=>by unfold zpm;omega) c);have d:((X:Int)/65536 != 0)=false:=by rw[bne_eq_false_iff_eq];omega
   go_wp2;go_roundw
   case rel=>exact⟨a.out,q,rfl⟩
   case measure=>simp[intOf]
  have a:=hid (zfe.hit (K:=16) 8 b.out f ω h0 (λY h=>by unfold zpm;omega) c);have d:((X:Int)/65536 != 0)=true:=by rw[bne_iff_ne];omega
  go_wp2;go_quiet (fail)
  go_wp2;go_roundw
  case rel=>exact⟨a.out,_,rfl⟩
  case measure=>simp[intOf]
 ·by_cases h0:X/2^8=0
  ·have a:=hid (zfe.miss (K:=8) 4 b.out hN h0 (λY h=>by unfold zpm;omega) c);have d:((X:Int)/256 != 0)=false:=by rw[bne_eq_false_iff_eq];omega
   go_wp2;go_roundw
   case rel=>exact⟨a.out,q,rfl⟩
   case measure=>simp[intOf]
  have a:=hid (zfe.hit (K:=8) 4 b.out f ω h0 (λY h=>by unfold zpm;omega) c);have d:((X:Int)/256 != 0)=true:=by rw[bne_iff_ne];omega
  go_wp2;go_quiet (fail)
  go_wp2;go_roundw
  case rel=>exact⟨a.out,_,rfl⟩
  case measure=>simp[intOf]
 ·by_cases h0:X/2^4=0
  ·have a:=hid (zfe.miss (K:=4) 2 b.out hN h0 (λY h=>by unfold zpm;omega) c);have d:((X:Int)/16 != 0)=false:=by rw[bne_eq_false_iff_eq];omega
   go_wp2;go_roundw
   case rel=>exact⟨a.out,q,rfl⟩
   case measure=>simp[intOf]
  have a:=hid (zfe.hit (K:=4) 2 b.out f ω h0 (λY h=>by unfold zpm;omega) c);have d:((X:Int)/16 != 0)=true:=by rw[bne_iff_ne];omega
  go_wp2;go_quiet (fail)
  go_wp2;go_roundw
  case rel=>exact⟨a.out,_,rfl⟩
  case measure=>simp[intOf]
 ·by_cases h0:X/2^2=0
  ·have a:=hid (zfe.miss (K:=2) 1 b.out hN h0 (λY h=>by unfold zpm;omega) c);have d:((X:Int)/4 != 0)=false:=by rw[bne_eq_false_iff_eq];omega
   go_wp2;go_roundw
   case rel=>exact⟨a.out,q,rfl⟩
   case measure=>simp[intOf]
  have a:=hid (zfe.hit (K:=2) 1 b.out f ω h0 (λY h=>by unfold zpm;omega) c);have d:((X:Int)/4 != 0)=true:=by rw[bne_iff_ne];omega
  go_wp2;go_quiet (fail)
  go_wp2;go_roundw
  case rel=>exact⟨a.out,_,rfl⟩
  case measure=>simp[intOf]
 ·by_cases h0:X/2^1=0
  ·have a:=hid (zfe.miss (K:=1) 0 b.out hN h0 (λY h=>by unfold zpm;omega) c);have d:((X:Int)/2 != 0)=false:=by rw[bne_eq_false_iff_eq];omega
   go_wp2;go_roundw
   case rel=>exact⟨a.out,q,rfl⟩
   case measure=>simp[intOf]
  have a:=hid (zfe.hit (K:=1) 0 b.out f ω h0 (λY h=>by unfold zpm;omega) c);have d:((X:Int)/2 != 0)=true:=by rw[bne_iff_ne];omega
  go_wp2;go_quiet (fail)
  go_wp2;go_roundw
  case rel=>exact⟨a.out,_,rfl⟩
  case measure=>simp[intOf]
 have i:=b.out;rw[zr3 (x:=X) ω]at i;have j:=hid i;go_wp2;go_ret;exact⟨zst (by have:=j.out;omega),q,rfl⟩
def lead(x:Nat)(a:x<18446744073709551616)(w:World):Calls Tryz.prog 187 #[.int .u64 x] w λe w'=>e=.returned (.int .i64 ((64-blen x:Nat):Int))/\∃n,w'=w.drewN n:=by
 have b:=zmT a;go_enter Tryz.func187,Tryz.ntmps187;go_wp2_with fail
 refine(len x a _).mono ?_;rintro e w' ⟨rfl,n,rfl⟩;go_wp2;go_ret;exact⟨zst ω,n,rfl⟩
def zFR (u next y1 y0:Nat) (q r:Value):Prop:=∃Q R:Nat,q=.int .u64 Q/\r=.int .u64 R/\R<4294967296/\DigInv u next y1 y0 Q R
def zz8 (u next y:Nat):Nat:=(u*4294967296+next)/y
def zpW (u next y:Nat):Nat:=(u*4294967296+next)%y
def zpX{u next y Q:Nat}(d:9223372036854775808<=y)(f:y<18446744073709551616)(b:Q=zz8 u next y)(hle:Q*y<=u*4294967296+next) :
  IntKind.u64.wrap (IntKind.u64.wrap (IntKind.u64.wrap (↑u*4294967296) + ↑next)-IntKind.u64.wrap (↑Q * ↑y))=((zpW u next y:Nat):Int):=by
 have hr:zpW u next y<y:=Z0 _ ω;have c:=Xu (u*4294967296+next) y;have e:Q*y+zpW u next y=u*4294967296+next:=by rw[b];unfold zz8 zpW;rw[ZO];exact c
 have a:=(XQ Q y).symm;rw[a,Xw,Xw,Xw,Xw];omega
def digit(u next y:Nat)(v:9223372036854775808<=y)(l:y<18446744073709551616)(O:u<y)(D:next<4294967296)(w:World) :
  Calls Tryz.prog 197 #[.int .u64 u,.int .u64 next,.int .u64 y] w λe w'=>e=.returned (.tuple #[.int .u64 (zz8 u next y:Nat),.int .u64 (zpW u next y:Nat)])/\∃n,w'=w.drewN n:=by
 obtain⟨y1,J⟩:∃y1,y1=y/4294967296:=⟨_,rfl⟩
 obtain⟨y0,C⟩:∃y0,y0=y%4294967296:=⟨_,rfl⟩
 have h1:2147483648<=y1:=ω;have S:y1<4294967296:=ω;have h0:y0<4294967296:=ω;have E:y1*4294967296+y0=y:=ω;have Y:u<18446744073709551616:=ω;obtain⟨j,m⟩:∃j,j=u/y1:=⟨_,rfl⟩
 obtain⟨g,o⟩:∃g,g=u%y1:=⟨_,rfl⟩
 have t:DigInv u next y1 y0 j g:=by rw[m,o];exact DigInv.start u next y1 y0 h1 h0 D ω
 have N:g<4294967296:=by have:u%y1<y1:=Z0 _ ω;omega
 have X:=t.le;have H:(y:Int)/4294967296=(y1:Int):=ω;have G:bits BinOp.and IntKind.u64 (↑y) 4294967295=(y0:Int):=by rw[show(4294967295:Int)=((4294967295:Nat):Int)from rfl,u64_and_nat y _ l δ,zj9,C]
 have c:IntKind.u64.wrap ((u:Int)/(y1:Int))=(j:Int):=by rw[<-XS,<-m];exact zb7 _ ω
 have x:(u:Int)%(y1:Int)=(g:Int):=by rw[<-Vz,<-o]
 have k:=hid E;have I:=hid x;have B:=hid t;clear E t J C m o;go_enter Tryz.func197,Tryz.ntmps197;go_wp2;go_quiet (fail)
 go_wp2;clear H G c x;go_loopw [10,11] (λq r wr=>zFR u next y1 y0 q r/\∃n,wr=w.drewN n) (λq _ _=>(intOf q).toNat)
 case atStart=>exact⟨⟨j,g,rfl,congrArg _ I.out,N,B.out⟩,_,rfl⟩
 obtain⟨⟨Q,R,rfl,rfl,V,s⟩,n,rfl⟩:=hrel;have T:=s.le;have z:=hid s;clear s B;have F:(4294967295<Q\/R*4294967296+next<Q*y0)->DigInv u next y1 y0 (Q-1) (R+y1) :=
  λhc=>(z.out.down (by rw[k.out];exact O) D hc).1
 have A:=hid F;clear F;by_cases K:4294967295<Q
 ·have d:=hid (A.out (.inl K));have b:((Q-1:Nat):Int)=(Q:Int)-1:=ω
  have c:=hid b;by_cases L:4294967295<R+y1
  ·have a:=d.out.done h0 (.inr ⟨ω,by have:=d.out.le;omega⟩);rw[k.out]at a;have hF:=zpX (next:=next) v l a.1 a.2;rw[b]at hF;have i:=hid a.1;clear a b;go_wp2;go_ret2
   exact⟨zqv (c.out.symm.trans (congrArg Int.ofNat i.out)) rfl,n,rfl⟩
  clear b;go_wp2;go_roundw
  case rel=>exact⟨⟨Q-1,R+y1,congrArg _ c.out.symm,σ,ω,d.out⟩,n,rfl⟩
  case measure=>simp[intOf];omega
 obtain⟨p,f⟩:∃p,p=Q*y0:=⟨_,rfl⟩
 have W:p<=18446744065119617025:=by rw[f];exact zhS ω h0
 have P:(Q:Int)*(y0:Int)=(p:Int):=by rw[f];exact(XQ _ _).symm
 by_cases M:R*4294967296+next<p
 ·have U:0<Q:=by rcases X2 Q with rfl | h;simp at f;omega;exact h
  have d:=hid (A.out (.inr (by rw[<-f];exact M)));have b:((Q-1:Nat):Int)=(Q:Int)-1:=ω;have c:=hid b;clear f;by_cases L:4294967295<R+y1
  ·have a:=d.out.done h0 (.inr ⟨ω,by have:=d.out.le;omega⟩);rw[k.out]at a;have hF:=zpX (next:=next) v l a.1 a.2;rw[b]at hF;have i:=hid a.1;clear a b;go_wp2;go_ret2
   exact⟨zqv (c.out.symm.trans (congrArg Int.ofNat i.out)) rfl,n,rfl⟩
  clear b;go_wp2;go_roundw
  case rel=>exact⟨⟨Q-1,R+y1,congrArg _ c.out.symm,σ,ω,d.out⟩,n,rfl⟩
  case measure=>simp[intOf];omega
 have a:=z.out.done h0 (.inl (by rw[<-f];omega));rw[k.out]at a;have hF:=zpX (next:=next) v l a.1 a.2;have i:=hid a.1;clear a f;go_wp2;go_ret2
 exact⟨zqv (congrArg Int.ofNat i.out) rfl,n,rfl⟩
