import Derived.Test.YtdfckdifmjeieaaGreatDoorC12
set_option linter.all false
open Go.IntKind (i64 u64 u32)
open Go.IntKind renaming i64→Ŵ
open Go.Value renaming slice→yG,bool→dB,tuple→å,int→Ô
namespace Go.Proofs.Tryz
open Go.Eng Go.Big
variable{V:Ó}{p:OA}{c n r:Nat}{ds:List Nat}
def VS (a b:Nat)(u:a<4294967296)(z:b<4294967296):b_ .or .u64 (b:Int) ((a:Int)*4294967296)=(b:Int)+(a:Int)*4294967296:=by have h:b_ .or .u64 (b:Int) ((a:Int)*4294967296)=b_ .or .u64 ((a:Int)*4294967296) (b:Int):=by{simp only [b_,BitVec.or_comm]};rw [h,Lv a b u z];omega
def or64z (b:Nat)(u:b<4294967296):b_ .or .u64 0 (b:Int)=b:=by have:=Lv 0 b ω u;simpa using this
def pI (h:RD V p n c ds)(hm:ds.length<=2^40:=by omega):À 219 #[yG p n c] V λr W=>r=å #[Ô .u64 ((if val ds<18446744073709551616 then val ds else 0:Nat):Int),dB (decide (val ds<18446744073709551616))]:=by refine MD V _ λv w=>(bE ra).s ?_;rintro r V2 y ⟨n,rfl,e⟩;rw [bg h.gi] at e;generalize val ds=x at *;have A:=e.len;have B:(ai x).length<=2↔x<18446744073709551616:=aT (k:=2);refine ⟨_,_,_,rfl,λa C D=>?_,λa=>?_⟩;{have a:¬x<18446744073709551616:=by{simp at a;omega};rw [Ã a,È a];rfl};have l:x<18446744073709551616:=by{simp at a;omega};rw [Ä l,Ç l];have E:n<=2:=ω;refine ⟨λz V'=>0<=z.2/\z.2<=n/\z.1=(val ((ai x).take z.2.toNat):Int),λz=>n-z.2.toNat,⟨(0,0),by (try dsimp only);and_intros<;>trivial,ω,ω,ψ⟩,?_⟩;rintro ⟨u,i⟩ F o ⟨d,f,hu⟩;dsimp only at d f hu ⊢;subst hu;obtain ⟨i,rfl⟩:=ď d;simp only [Ý];refine ⟨θ,λb=>?_,λb G H=>?_⟩;{have b:i<n:=by{simpa using b};refine (e.le o).rd i rfl ω ?_;have m:=(aS x).get (i:=i) ω;simp (disch:=omega) only [ay];refine ⟨ω,(_,_),?_,by (try dsimp only);and_intros<;>trivial,?_⟩;{(try dsimp only);omega};(try dsimp only);refine ⟨ω,ω,?_⟩;have g:((i:Int)+1).toNat=i+1:=ω;rw [g,aG _ _];have q:i=0\/i=1:=ω;rcases q with rfl|rfl;{simp (disch:=omega) only [bw];have j:(min ((32:Int)*((0:Nat):Int)).toNat IntKind.u64.bits)=0:=φ;rw [j];simp (disch:=omega) only [bw,Int.pow_zero,Int.mul_one,Qf6,gN,Nat.pow_zero,Ō,ĉ];exact or64z _ m};have j:(min ((32:Int)*((1:Nat):Int)).toNat IntKind.u64.bits)=32:=φ;have a:0<(ai x).length:=ω;have s:(ai x).take 1=[(ai x)[0]]:=by{rw [Qz3 a];rfl};have t:((2:Int)^32)=4294967296:=φ;rw [j,s,t];simp (disch:=omega) only [bw];simp only [bT,gN,Ĭ,ġ];rw [VS _ _ m ((aS x).get (i:=0) a)];omega};have b:i=n:=by{simp at b;omega};subst b;rw [ax,ag]
def ju (h:RD V p n c ds)(hm:ds.length<=2^40):À 215 #[yG p n c] V λr W=>r=Ô Ŵ (dL (val ds):Int):=by have k:=bz h.gi;refine MB V _ λo q=>(bE ra).s ?_;rintro r V2 s ⟨n,rfl,g⟩;rw [bg h.gi] at g;generalize val ds=x at *;have l:=g.len;refine ⟨_,_,_,rfl,λf t u=>?_,λf=>?_⟩;{have:ai x=[]:=ĕ.1 (by simp at f;omega);have:=bG.1 this;subst this;rfl};have f:0<n:=by{simp at f;omega};simp (disch:=omega) only [ay];refine g.rd (n-1) ω ω λv w=>(js _ ((aS x).get ω)).s λr y z rfl=>⟨_,rfl,λA B=>?_⟩;have C:=(aS x).get (i:=n-1) ω;have a:(ai x)[n-1]≠0:=by{have:=(kg x).last ω;simpa [l] using this};have D:dL (ai x)[n-1]<=32:=jJ.2 ω;simp (disch:=omega) only [ay];have key:dL x=32*(n-1)+dL (ai x)[n-1]:=by{have e:=jF (ai x) (n-1) ω;rw [ag,ľ ω] at e;simp only [gN,Ĭ,ġ] at e;have b:=je ((aS x).take (n-1));rw [ë,Ħ ω] at b;have j:(4294967296:Nat)^(n-1)=2^(32*(n-1)):=by{rw [Wx1]};rw [j] at e b;generalize (ai x)[n-1]=d at *;have m:0<dL d:=by{unfold dL;rw [Ã a];omega};refine Kg ?_ (.inr ?_);{rw [Ė];have:2^(32*(n-1))*(d+1)<=2^(32*(n-1))*2^dL d:=Ň _ (wO d);rw [İ,Ģ] at this;omega};rw [show 32*(n-1)+dL d-1=32*(n-1)+(dL d-1) from by omega,Ė];have:2^(32*(n-1))*2^(dL d-1)<=2^(32*(n-1))*d:=Ň _ (Bq a);omega};rw [key];congr 1;omega
theorem Lj {E S t x y e Y B D:Nat}(h:E+B*D*c=S+B*x*Y)(u:t=c+x*y+e):E+B*D*(t%4294967296)+B*D*4294967296*(t/4294967296)=S+B*D*e+B*x*(Y+D*y):=by have a:B*D*(t%4294967296)+B*D*4294967296*(t/4294967296)=B*D*t:=by{rw [ņ (B*D),<-İ,Qh2]};rw [Ŋ,a,u];grind
theorem jv {q:OA}{m e:Nat}{xa xb:zA Nat}(ha:RD V p n c xa)(hb:RD V q m e xb)(hm:xa.length+xb.length<=2^40:=by omega):À 225 #[yG p n c,yG q m e] V λr W=>∃p' n' c',r=yG p' n' c'/\RN W p' n' c' (val xa*val xb):=by
 have la:=bz ha.gi;have lb:=bz hb.gi;refine Pl V _ λV1 l1=>(bE ra).s ?_;rintro r V2 l2 ⟨n,rfl,o⟩;rw [bg ha.gi] at o;refine ⟨_,_,_,rfl,λV3 R=>(bE ra).s ?_⟩;rintro r V4 S ⟨m,rfl,F⟩;rw [bg hb.gi] at F
 replace o:=o.le (R.m S)
 have T:=o.len;have Nf:=F.len;have u:val xa=val (ai (val xa)):=(ag _).symm;have v:val xb=val (ai (val xb)):=(ag _).symm;rw [u,v];clear u v;generalize ai (val xa)=xs at *;generalize ai (val xb)=ys at *;refine ⟨_,_,_,rfl,?_⟩;simp (disch:=omega) only [ay,dZ];have H:((n:Int)+m).toNat=n+m:=ω
 rw [H]
 refine ⟨ω,ω,ω,λz V'=>0<=z.1/\z.1<=n/\∃es:zA Nat,z.2=aQ es/\es.length=n+m/\cP es /\
  val (es.take (z.1.toNat+m))=val (xs.take z.1.toNat)*val ys,λz=>n-z.1.toNat,⟨(0,aQ (List.replicate (n+m) 0)),η,by (try dsimp only);omega,by (try dsimp only);omega,_,rfl,ψ,cP.rep _,by simp [BC,Qs0]⟩,?_⟩
 rintro ⟨i,U⟩ V5 W ⟨w,I,es,rfl,J,g,y⟩;dsimp only at w I y ⊢;obtain ⟨i,rfl⟩:=ď w;simp only [Ý] at y;refine ⟨θ,λs=>?_,λs=>?_⟩
 ·have s:i<n:=by simpa using s
  refine (o.le W).rd i rfl ω ?_;have Ap:=o.gi.get (i:=i) ω
  refine ⟨λz V'=>0<=z.1/\z.1<=4294967295/\0<=z.2.1/\z.2.1<=m/\∃a:zA Nat,z.2.2=aQ a/\a.length=n+m/\cP a/\a.drop (i+z.2.1.toNat)=es.drop (i+z.2.1.toNat) /\
   val (a.take (i+z.2.1.toNat))+4294967296^(i+z.2.1.toNat)*z.1.toNat=val (es.take (i+z.2.1.toNat))+4294967296^i*xs[i]*val (ys.take z.2.1.toNat),λz=>m-z.2.1.toNat,
   ⟨(0,0,aQ es),η,by (try dsimp only);omega,by (try dsimp only);omega,by (try dsimp only);omega,by (try dsimp only);omega,es,rfl,J,g,rfl,ψ⟩,?_⟩
  rintro ⟨G,k,U⟩ X Y ⟨A,K,B,L,a,rfl,C,h,d,hw⟩;dsimp only at A K B L d hw ⊢;obtain ⟨k,rfl⟩:=ď B;obtain ⟨G,rfl⟩:=ď A;simp only [Ý] at d hw;refine ⟨θ,λf=>?_,λf=>?_⟩
  ·have f:k<m:=by{simpa using f};refine (F.le aA).rd k rfl ω ?_;have Z:=F.gi.get (i:=k) ω;have P:=h.get (i:=i+k) ω;have M:a[i+k]'ω=es[i+k]'ω:=by{have Q:a[i+k]?=es[i+k]?:=by{have:=Æ (λl=>l[0]?) d;simpa [Qn9] using this};rw [ñ ω,ñ ω] at Q;exact ő Q};simp (disch:=omega) only [ay];have j:((i:Int)+k).toNat=i+k:=ω;rw [j];refine ⟨ų,((a[i+k]'ω:Nat):Int),by rw [ĉ,Ģ];exact ja ω,ų,by simp;omega,ω,?_⟩;have a0:xs[i]*ys[k]<=4294967295*4294967295:=Qg7 ω ω;have D:(xs[i]:Int)*(ys[k]:Int)=((xs[i]*ys[k]:Nat):Int):=ψ;obtain ⟨t,ht⟩:∃t:Nat,t=G+xs[i]*ys[k]+a[i+k]'ω:=⟨_,rfl⟩;rw [Ė] at hw;have b:=Lj hw ht;have e1:u64.wrap ((G:Int)+u64.wrap (u64.wrap (u64.wrap (xs[i]:Int)*u64.wrap (ys[k]:Int))+u64.wrap ((a[i+k]'ω:Nat):Int)))=(t:Int):=by{clear b;generalize xs[i]*ys[k]=pq at *;rw [bw (x:=(xs[i]:Int)) ω,bw (x:=(ys[k]:Int)) ω,D,bw (x:=((pq:Nat):Int)) ω];simp (disch:=omega) only [bw];omega};rw [e1,k_,xz];refine ⟨(_,_,_),?_,η,?_⟩;{(try dsimp only);omega};(try dsimp only);have E:((k:Int)+1).toNat=k+1:=ω;refine ⟨ω,ω,ω,ω,a.set (i+k) (t%4294967296),?_,by simpa using C,h.set _ _ ω,?_,?_⟩;{rw [<-bV];simp};{rw [E,Qn1 ω];have:=Æ (List.drop 1) d;simpa [Qp1,Wy5,Ŋ,Nat.add_left_comm] using this};rw [E,show i+(k+1)=i+k+1 from by omega,aX _ _ _,aG es (i+k),aG ys k,<-M,Ĩ];have e2:((t:Int)/4294967296).toNat=t/4294967296:=ω;rw [e2,Ė,b]
  ·have f:k=m:=by{simp at f;omega};subst f;simp (disch:=omega) only [ay];have j:((i:Int)+k).toNat=i+k:=ω;rw [j];refine ⟨ų,by simp;omega,(_,_),?_,η,?_⟩;{(try dsimp only);omega};(try dsimp only);have N:((i:Int)+1).toNat=i+1:=ω;refine ⟨ω,ω,a.set (i+k) G,?_,by simpa using C,h.set _ _ ω,?_⟩;{rw [<-bV,xF ω];simp};rw [N,show i+1+k=i+k+1 from by omega,aX _ _ _,hw,y,aG xs i,ax (ds:=ys)];grind
 ·have s:i=n:=by{simp at s;omega};subst s;intro X Y bk O;refine (bE (RD.bo O g (n:=i+m) (c:=i+m) ω (Ù _))).s ?_;rintro r V7 l7 ⟨k,rfl,f⟩;refine ⟨_,_,_,rfl,λ_ V8 l8=>⟨_,_,_,rfl,?_⟩⟩;rw [bg g] at f;rw [ax,ax] at y;rw [y] at f;exact ra
theorem Dv {x A d q rest B W:Nat}(u:A=d*B+rest)(h:d*q+r=rest*W+x):x+W*A=d*(q+W*B)+r:=by subst u;grind
def Ku {xs:zA Nat}(O:RD V p n c xs)(hm:xs.length<=2^40)(d:Nat)(hd0:d≠0)(hd:d<4294967296):À 271 #[yG p n c,Ô .u32 (d:Int)] V λr W=>∃Z n' c',r=å #[yG Z n' c',Ô .u32 ((val xs%d:Nat):Int)]/\RN W Z n' c' (val xs/d):=by
 have v:=O.len;refine JB V _ ⟨ω,ω,ω,?_⟩;simp (disch:=omega) only [ay,bw,Ý,dZ]
 refine ⟨λz V'=>0<=z.1/\z.1<d/\-1<=z.2.1/\z.2.1<n/\∃es:zA Nat,z.2.2=aQ es/\es.length=n/\cP es /\
   val (xs.drop (z.2.1+1).toNat)=d*val (es.drop (z.2.1+1).toNat)+z.1.toNat,λz=>(z.2.1+1).toNat,
   ⟨(0,(n:Int)-1,aQ (List.replicate n 0)),η,by (try dsimp only);omega,by (try dsimp only);omega,by (try dsimp only);omega,by (try dsimp only);omega,_,rfl,ψ,cP.rep _,?_⟩,?_⟩
 ·(try dsimp only);rw [ľ ω,ľ ψ];rfl
 rintro ⟨rest,i,E⟩ V2 w ⟨f,g,h,j,es,rfl,m,b,a⟩;dsimp only at f g h j a ⊢;obtain ⟨rest,rfl⟩:=ď f;refine ⟨θ,λe=>?_,λe=>?_⟩
 ·have e:0<=i:=by{simpa using e};obtain ⟨i,rfl⟩:=ď e;have o:((i:Int)+1).toNat=i+1:=ω;rw [o] at a;simp only [Ý] at a;refine ⟨ω,(O.le w).rd i rfl ω ?_⟩;have x:=O.gi.get (i:=i) ω;have s:b_ .or .u64 (u64.wrap ((rest:Int)*2^32)) (u64.wrap ((xs[i]:Nat):Int))=((rest*4294967296+xs[i]:Nat):Int):=by{have y:((2:Int)^32)=4294967296:=φ;rw [y,bw ω,bw ω,Lv _ _ ω x];omega};rw [s];have t:((rest*4294967296+xs[i]:Nat):Int).tdiv (d:Int)=(((rest*4294967296+xs[i])/d:Nat):Int):=by{rw [Qj4 ω];omega};have A:((rest*4294967296+xs[i]:Nat):Int).tmod (d:Int)=(((rest*4294967296+xs[i])%d:Nat):Int):=by{rw [Qk9 ω];omega};rw [t,A];have F:(rest*4294967296+xs[i])/d<4294967296:=by{rw [Qb9 ω];have:rest+1<=d:=ω;have:=Ă 4294967296 this;rw [ļ 4294967296 d];omega};have G:(rest*4294967296+xs[i])%d<d:=ę _ ω;have B:=Qd5 (rest*4294967296+xs[i]) d;generalize (rest*4294967296+xs[i])/d=q at *;generalize (rest*4294967296+xs[i])%d=r at *;simp (disch:=omega) only [bw,xF,ay];refine ⟨ω,ų,by simp;omega,ω,?_⟩;refine ⟨((r:Int),(i:Int)-1,aQ (es.set i q)),?_,?_,?_⟩;{(try dsimp only);omega};{(try dsimp only);(and_intros<;>first|trivial|(rw [<-bV];simp))};(try dsimp only);refine ⟨ω,ω,ω,ω,_,rfl,by simpa using m,b.set _ _ ω,?_⟩;have u:((i:Int)-1+1).toNat=i:=ω;rw [u,ī ω,ī (l:=es.set i q) (by simp;omega),Qg4,Qn1 ω];rw [bT,bT,Ý];exact (Dv a B)
 ·have e:i=-1:=by{simp at e;omega};subst e;simp only [Ý] at a;have a:val xs=d*val es+rest:=by{simpa using a};intro H I J C;refine (bE (RD.bo C b (n:=n) (c:=n) ω (Ù _))).s ?_;rintro r K L ⟨k,rfl,D⟩;refine ⟨_,_,_,rfl,λ_ M N=>?_⟩;have s:val xs/d=val es:=by{rw [a,Wj6 ω,ŗ ω,ġ]};have t:val xs%d=rest:=by{rw [a,Wj7,ė ω]};rw [xF ω,s,t];rw [bg b] at D;exact ⟨_,_,_,rfl,ra⟩
def OC (a b:Nat)(u:a<4294967296)(z:b<4294967296:=by omega):b_ .or .u32 (a:Int) (b:Int)=((a ||| b:Nat):Int):=by rw [b_,k_];have c:(BitVec.ofInt IntKind.u32.bits ((a:Nat):Int) ||| BitVec.ofInt IntKind.u32.bits (b:Int)).toNat=a ||| b:=by{show (BitVec.ofInt 32 ((a:Nat):Int) ||| BitVec.ofInt 32 (b:Int)).toNat=_;rw [Ŝ,Ŝ,Wj4,Š,Š,ė ω,ė ω]};have d:a ||| b<2^32:=Wz8 ω ω;rw [c];omega
def or_low {m:Nat}(h:c<2^r):c ||| m*2^r=c+m*2^r:=by rw [Nat.or_comm,<-Wk8,<-Wq6 h,Wy5]
def L_ {d:Nat}(u:d<4294967296)(E:r<32)(z:c<2^r):c ||| (d*2^r%4294967296)=c+d*2^r%4294967296/\c+d*2^r%4294967296<4294967296/\d*2^r/4294967296<2^r/\d*2^r<18446744073709551616:=by have e:4294967296=2^(32-r)*2^r:=by{rw [<-Ė,Qm6 ω]};have a:d*2^r%4294967296=(d%2^(32-r))*2^r:=by{rw [e,Nat.mul_mod_mul_right]};have f:d%2^(32-r)+1<=2^(32-r):=ę _ (ĵ _);have b:=Ă (2^r) f;have h:2^r<=2^31:=ķ ω ω;have g:d*2^r<4294967296*2^r:=Qc7 u (ĵ _);refine ⟨by rw [a,or_low z],?_,?_,ω⟩;{rw [a];rw [Đ,Ō] at b;rw [<-e] at b;omega};rw [Qb9 ω,ļ (2^r)];exact g
theorem Gw (h:RD V p n c ds)(hm:ds.length<=2^40)(k:Nat)(hk:k<=1048576:=by omega):À 294 #[yG p n c,Ô .u64 (k:Int)] V λr W=>∃p' n' c',r=yG p' n' c'/\RN W p' n' c' (val ds*2^k)/\(val ds=0\/c'=(ai (val ds)).length+k/32+1):=by
 have H:=bz h.gi;refine Pm V _ λW X=>(bE ra).s ?_;rintro r V2 Y ⟨n,rfl,s⟩;rw [bg h.gi] at s;generalize hxv:val ds=x at *;have Z:=s.len;refine ⟨_,_,_,rfl,λq V3 l3=>?_,λq=>?_⟩
 ·have:ai x=[]:=ĕ.1 (by simp at q;omega);have:=bG.1 this;subst this;rw [ŝ];exact ⟨_,_,_,rfl,RD.nil,.inl rfl⟩
 ·have q:0<n:=by simp at q;omega
  have E:cM (k:Int) 1048576=k:=by unfold cM;rw [Ã ω]
  have F:(k:Int).tdiv 32=((k/32:Nat):Int):=by rw [Qj4 ω];omega
  have G:(k:Int).tmod 32=((k%32:Nat):Int):=by rw [Qk9 ω];omega
  rw [E,F,G]
  have t:x*2^k=4294967296^(k/32)*x*2^(k%32):=by have:2^k=4294967296^(k/32)*2^(k%32):=by{rw [show (4294967296:Nat)=2^32 from rfl,<-Wx1,<-Ė,Qd5]};rw [this];grind
  rw [t];generalize hw:k/32=w at *;have u:k%32<32:=ę _ ω;have I:w<=32768:=ω
  generalize k%32=r at *;clear E F G;simp (disch:=omega) only [ay,bw,dZ];have v:((n:Int)+w+1).toNat=n+w+1:=ω
  rw [v]
  refine ⟨ω,ω,ω,ω,ω,λz V'=>0<=z.1/\z.1<=n/\∃es:zA Nat,z.2=aQ es/\es.length=n+w+1/\cP es/\(∀c,es[z.1.toNat+w]?=some c->c<2^r) /\
   val (es.take (z.1.toNat+w+1))=4294967296^w*val ((ai x).take z.1.toNat)*2^r,λz=>n-z.1.toNat,
   ⟨(0,aQ (List.replicate (n+w+1) 0)),η,ω,ω,_,rfl,ψ,cP.rep _,?_,?_⟩,?_⟩
  ·intro c a;rw [Qs7] at a;split at a;{cases a;exact ĵ r};cases a
  ·simp [Qs0,BC]
  rintro ⟨i,vs⟩ V4 J ⟨f,y,es,rfl,A,b,a,d⟩;dsimp only at f y a d ⊢;obtain ⟨i,rfl⟩:=ď f;simp only [Ý] at a d;refine ⟨θ,λe=>?_,λe=>?_⟩
  ·have e:i<n:=by{simpa using e};refine (s.le J).rd i rfl ω ?_;have K:=(aS x).get (i:=i) ω;have B:=a (es[i+w]'ω) (ñ _);have ⟨L,g2,M,g4⟩:=L_ K u B;have g:(min ((r:Nat):Int).toNat IntKind.u64.bits)=r:=by{show min _ 64=r;omega};have N:((2:Int)^r)=((2^r:Nat):Int):=ψ;rw [g,N];have hmul:(((ai x)[i]:Nat):Int)*((2^r:Nat):Int)=(((ai x)[i]*2^r:Nat):Int):=ψ;simp (disch:=omega) only [ay];rw [bw (x:=(((ai x)[i]:Nat):Int)) ω,hmul,bw ω,k_,xz];have C:((i:Int)+w).toNat=i+w:=ω;have j:((i:Int)+w+1).toNat=i+w+1:=ω;rw [C,j];refine ⟨ω,ų,((es[i+w]'ω:Nat):Int),by rw [ĉ,Ģ];exact ja ω,ų,by simp;omega,ω,ų,by simp;omega,?_⟩;have O:(((ai x)[i]*2^r:Nat):Int)%4294967296=(((ai x)[i]*2^r%4294967296:Nat):Int):=ω;have P:(((ai x)[i]*2^r:Nat):Int)/4294967296=(((ai x)[i]*2^r/4294967296:Nat):Int):=ω;rw [O,P,OC _ _ ω,L];have Q:=Qh2 ((ai x)[i]*2^r) 4294967296;have R:(ai x)[i]*2^r/4294967296<4294967296:=ω;have D:val (List.take (i+1) (ai x))=val (List.take i (ai x))+4294967296^i*(ai x)[i]:=aG _ _;have l:val (es.take (i+w+1))=val (es.take (i+w))+4294967296^(i+w)*es[i+w]'ω:=aG _ _;generalize (ai x)[i]*2^r%4294967296=lo at *;generalize hhi:(ai x)[i]*2^r/4294967296=hi at *;rw [xF ω];refine ⟨((i:Int)+1,aQ ((es.set (i+w) (es[i+w]'ω+lo)).set (i+w+1) hi)),?_,?_,?_⟩;{(try dsimp only);omega};{(try dsimp only);(and_intros<;>first|trivial|(rw [<-bV,<-bV];simp))};(try dsimp only);have m:((i:Int)+1).toNat=i+1:=ω;refine ⟨ω,ω,_,rfl,by simpa using A,(b.set _ _ ω).set _ _ ω,?_,?_⟩;{intro c o;rw [m,show i+1+w=i+w+1 from by omega,Qt5 (by simp;omega)] at o;cases o;exact M};rw [m,show i+1+w+1=i+w+1+1 from by omega,aX _ _ _ (by simp;omega),aX _ _ _,D];rw [l] at d;have S:4294967296^(i+w+1)*hi=4294967296^(i+w)*(4294967296*hi):=by{rw [Ĩ];grind};rw [S,İ,<-Ŋ,d,Ŋ,<-İ,Q,Ė];grind
  ·have e:i=n:=by{simp at e;omega};subst e;intro V5 l5 bk T;refine (bE (RD.bo T b (n:=i+w+1) (c:=i+w+1) ω (Ù _))).s ?_;rintro r' V6 l6 ⟨k',rfl,U⟩;refine ⟨_,_,_,rfl,λ_ V7 l7=>⟨_,_,_,rfl,?_,.inr ω⟩⟩;rw [ax,ax,ag] at d;rw [bg b,d] at U;exact ra
def Ma {d Y r:Nat}(u:d<4294967296)(z:r<32):(d+4294967296*Y)/2^r=(d+4294967296*(Y%4294967296))/2^r%4294967296+4294967296*(Y/2^r):=by
 have e:4294967296=2^r*2^(32-r):=by rw [<-Ė,Nat.add_sub_cancel' ω]
 have c:=ĵ r;have k:=ĵ (32-r);generalize E:2^r=a at *;generalize F:2^(32-r)=b at *
 have f:∀Z,(d+4294967296*Z)/a=d/a+b*Z:=by intro Z;rw [e,ņ,Qh0 _ _ c]
 rw [f,f]
 have g:d/a<b:=by rw [Qb9 c,ļ,<-e];exact u
 have h:b*(Y%4294967296)%4294967296=b*(Y%a):=by rw [e,ļ a b,Nat.mul_mod_mul_left,Nat.mod_mul_left_mod]
 have l:b*(Y%a)+b<=4294967296:=by have:Y%a+1<=a:=ę _ c;have:=Ň b this;rw [İ,Ģ,ļ b a,<-e] at this;exact this
 have i:(d/a+b*(Y%4294967296))%4294967296=d/a+b*(Y%a):=by rw [Nat.add_mod,h,ė (a:=d/a) ω,ė ω]
 rw [i]
 have j:b*Y=b*(Y%a)+4294967296*(Y/a):=by
  conv=>lhs;rw [<-(Qh2 Y a)]
  rw [İ,<-ņ,ļ b a,<-e]
 rw [j];omega
def xG {xs:zA Nat}(h:cP xs)(i:Nat):val (xs.drop i)%4294967296=(xs[i]?).getD 0:=by rcases ē i xs.length with a|a;{rw [ī a,bT,ñ a,Qp0,Wz0,ė (h.get a)]};rw [ľ a,Ŧ a];rfl
def RZ (h:RD V p n c ds)(hm:ds.length<=2^40)(k:Nat)(hk:k<18446744073709551616:=by omega):À 295 #[yG p n c,Ô .u64 (k:Int)] V λr W=>∃p' n' c',r=yG p' n' c'/\RN W p' n' c' (val ds/2^k):=by
 have S:=bz h.gi;refine Pn V _ λZ l1=>(bE ra).s ?_;rintro r V2 l2 ⟨n,rfl,B⟩;rw [bg h.gi] at B;generalize val ds=x at *;have hl:=B.len;have P:(k:Int).tdiv 32=((k/32:Nat):Int):=by rw [Qj4 ω];omega
 have C:(k:Int).tmod 32=((k%32:Nat):Int):=by rw [Qk9 ω];omega
 refine ⟨_,_,_,rfl,?_⟩;rw [P,C]
 have q:x/2^k=x/4294967296^(k/32)/2^(k%32):=by rw [Nat.div_div_eq_div_mul,show (4294967296:Nat)=2^32 from rfl,<-Wx1,<-Ė,Qd5]
 rw [q];have T:k/32<576460752303423488:=ω
 generalize k/32=w at *;have E:k%32<32:=ę _ ω;generalize k%32=r at *;clear P C q;refine ⟨ω,λf V3 l3=>?_,λf=>?_⟩
 ·have f:n<=w:=by{rw [bw ω,bw ω] at f;simp at f;omega};have:x/4294967296^w=0:=ŗ (Ľ (aT.1 (Ù _)) (ķ ω ω));rw [this,Wj8];exact ⟨_,_,_,rfl,RD.nil⟩
 ·have f:w<n:=by
   rw [bw ω,bw ω] at f;simp at f;omega
  simp (disch:=omega) only [ay,bw,dZ];have F:((n:Int)-w).toNat=n-w:=ω
  rw [F]
  have G:x/4294967296^w=val ((ai x).drop w):=by have e:val (ai x)=val ((ai x).take w++(ai x).drop w):=by{rw [Qj8]};have s:=je ((aS x).take w);rw [fo,ag] at e;rw [ë,Ħ ω] at e s;have g:∀y,y=val ((ai x).take w)+4294967296^w*val ((ai x).drop w)->y/4294967296^w=val ((ai x).drop w):=by{intro y U;rw [U,Qh0 _ _ (Wx2 ω),ŗ s,ĉ]};exact g x e
  rw [G]
  refine ⟨ω,ω,ω,ω,ω,λz V'=>0<=z.1/\z.1<=(n-w:Nat)/\∃es:zA Nat,z.2=aQ es/\es.length=n-w/\cP es /\
   val (es.take z.1.toNat)+4294967296^z.1.toNat*(val ((ai x).drop (w+z.1.toNat))/2^r)=val ((ai x).drop w)/2^r,λz=>(n-w)-z.1.toNat,
   ⟨(0,aQ (List.replicate (n-w) 0)),η,ω,ω,_,rfl,ψ,cP.rep _,ψ⟩,?_⟩
  rintro ⟨i,vs⟩ V4 Q ⟨t,H,es,rfl,I,j,b⟩;dsimp only at t H b ⊢;obtain ⟨i,rfl⟩:=ď t;simp only [Ý] at b;refine ⟨θ,λu=>?_,λu=>?_⟩
  ·have u:i<n-w:=by simpa using u
   simp (disch:=omega) only [ay];refine (B.le Q).rd (w+i) ω ω ?_;have R:=(aS x).get (i:=w+i) ω;have v:=Ma (Y:=val ((ai x).drop (w+i+1))) R E;rw [xG (aS x)] at v
   have d:(min ((r:Nat):Int).toNat IntKind.u64.bits)=r:=by show min _ 64=r;omega
   have m:val ((ai x).drop (w+i))=(ai x)[w+i]+4294967296*val ((ai x).drop (w+i+1)):=by rw [ī ω,bT]
   rw [m] at b;rw [v] at b
   have nxt:∀D:Nat,D=((ai x)[w+i]+4294967296*((ai x)[w+i+1]?).getD 0)/2^r%4294967296 ->
     ∃a:zA Nat,(aQ es).set (0+i*1) (Ô .u32 (D:Int))=aQ a/\a.length=n-w/\cP a /\
     val (a.take (i+1))+4294967296^(i+1)*(val ((ai x).drop (w+(i+1)))/2^r)=val ((ai x).drop w)/2^r:=by
    intro D W;refine ⟨es.set i D,by rw [<-bV];simp,by simpa using I,j.set _ _ ω,?_⟩;rw [aX _ _ _,<-b,W,Ĩ,İ,Ŋ,ņ,Ŋ w i 1]
   have A:((i:Int)+1).toNat=i+1:=ω
   refine ⟨λo=>?_,λo=>?_⟩
   ·have o:w+i+1<n:=by{simp at o;omega};refine (B.le Q).rd (w+i+1) ω ω ?_;have J:=(aS x).get (i:=w+i+1) ω;have K:b_ .or .u64 (u64.wrap (((ai x)[w+i]:Nat):Int)) (u64.wrap (u64.wrap (((ai x)[w+i+1]:Nat):Int)*2^32))=(((ai x)[w+i]+4294967296*((ai x)[w+i+1]?).getD 0:Nat):Int):=by{have C:((2:Int)^32)=4294967296:=φ;rw [C,bw ω,bw (x:=(((ai x)[w+i+1]:Nat):Int)) ω,bw ω,VS _ _ J R,ñ ω,Qp0];omega};rw [K,d,kd,k_];refine ⟨ω,ω,ų,by simp;omega,?_⟩;have ⟨a,L,M,N,O⟩:=nxt _ rfl;refine ⟨((i:Int)+1,aQ a),?_,?_,?_⟩;{(try dsimp only);omega};{(try dsimp only);(and_intros<;>first|trivial|(rw [<-L];simp))};(try dsimp only);exact ⟨ω,ω,a,rfl,M,N,by rw [A];exact O⟩
   ·have o:n<=w+i+1:=by{simp at o;omega};have K:u64.wrap (((ai x)[w+i]:Nat):Int)=(((ai x)[w+i]+4294967296*((ai x)[w+i+1]?).getD 0:Nat):Int):=by{rw [bw ω,Ŧ ω];simp};rw [K,d,kd,k_];refine ⟨ω,ų,by simp;omega,?_⟩;have ⟨a,L,M,N,O⟩:=nxt _ rfl;refine ⟨((i:Int)+1,aQ a),?_,?_,?_⟩;{(try dsimp only);omega};{(try dsimp only);(and_intros<;>first|trivial|(rw [<-L];simp))};(try dsimp only);exact ⟨ω,ω,a,rfl,M,N,by rw [A];exact O⟩
  ·have u:i=n-w:=by{simp at u;omega};intro V5 l5 bk X;refine (bE (RD.bo X j (n:=n-w) (c:=n-w) ω (Ù _))).s ?_;rintro r' V6 l6 ⟨k',rfl,o⟩;refine ⟨_,_,_,rfl,λ_ V7 l7=>⟨_,_,_,rfl,?_⟩⟩;rw [ax,ľ (l:=ai x) (i:=w+i) ω] at b;have b:val es=val ((ai x).drop w)/2^r:=by{rw [<-b,gN,Wj8,Ĭ,ġ]};rw [bg j,b] at o;exact ra
end Go.Proofs.Tryz
namespace Go.Big
variable{B G T W Y t' u0 u1 u2 v' v1 v2 ρ:Nat}
theorem Sr (hY:Y=(v1*W+v2)*B+v')(hT:T=((u0*W+u1)*W+u2)*B+t')(u:t'<B)(z:G*v1+ρ=u0*W+u1)(E:ρ*W+u2<G*v2):T<G*Y:=by have a:(u0*W+u1)*W+u2+1<=G*(v1*W+v2):=by{grind [Nat.add_mul]};have b:=Ă B a;have c:G*(v1*W+v2)*B<=G*Y:=by{rw [hY,ņ];exact Ň _ (Qr8 _ _)};rw [Đ,Ō] at b;omega
theorem G5 (hY:Y=(v1*W+v2)*B+v')(hT:T=((u0*W+u1)*W+u2)*B+t')(z:v'<B)(u:1<=v1)(E:0<W)(M:G*v1+ρ=u0*W+u1)(N:G*v2<=ρ*W+u2)(F:G<=W:=by omega):G*Y<T+Y:=by have a:G*(v1*W+v2)<=(u0*W+u1)*W+u2:=by{grind [Nat.add_mul]};have b:=Ă B a;have c:G*v'<=W*v':=Ă _ F;have d:=Nat.mul_lt_mul_of_pos_left z E;have e:W*B<=v1*W*B:=by{have:=Ă (W*B) u;grind};have f:(v1*W+v2)*B=v1*W*B+v2*B:=Đ _ _ _;have g:G*Y=G*(v1*W+v2)*B+G*v':=by{rw [hY,İ,ņ]};omega
theorem G6 (hY:Y=(v1*W+v2)*B+v')(hT:T=((u0*W+u1)*W+u2)*B+t')(u:v'<B)(h:T<W*Y):u0*W+u1<=v1*W+v2:=by rcases ē (v1*W+v2) (u0*W+u1) with a|a;{exfalso;have b:(v1*W+v2+1)*W<=(u0*W+u1)*W:=Ă _ a;have c:=Ă B b;have d:W*Y<=W*((v1*W+v2+1)*B):=by{rw [hY,Đ (v1*W+v2) 1 B,Ō];exact Ň _ ω};grind};exact a
theorem UT (hY:Y=(v1*W+v2)*B+v')(hT:T=((u0*W+u1)*W+u2)*B+t')(u:t'<B)(hu:u2<W)(z:G*v1+ρ=u0*W+u1)(E:ρ<v1):T<(G+1)*Y:=by have a:u0*W+u1+1<=(G+1)*v1:=by{rw [Đ,Ō];omega};have b:=Ă (W*B) a;have c:(G+1)*v1*(W*B)<=(G+1)*Y:=by{rw [hY,ņ];grind};have d:((u0*W+u1)*W+u2)*B+t'<(u0*W+u1+1)*(W*B):=by{have e:(u2+1)*B<=W*B:=Ă _ hu;grind};omega
theorem Hy {F U c b g d u Y W S:Nat}{x:Int}(h:F+W*(g*Y)=U+W*S*(c+b))(z:c<4294967296)(E:b<=1)(hu:u<4294967296)(M:x=((u:Int)-((c+g*d)%4294967296:Nat)-b)%18446744073709551616):0<=x/\0<=x/9223372036854775808/\x/9223372036854775808<=1 /\ F+W*S*(x%4294967296).toNat+W*(g*(Y+S*d))=U+W*S*u+W*(S*4294967296)*((c+g*d)/4294967296+(x/9223372036854775808).toNat):=by have k:=Qh2 (c+g*d) 4294967296;have hm:(c+g*d)%4294967296<4294967296:=ę _ ω;generalize (c+g*d)/4294967296=q at *;generalize (c+g*d)%4294967296=m at *;have key:∃o B:Nat,(x%4294967296).toNat=o/\(x/9223372036854775808).toNat=B/\u+4294967296*B=o+m+b/\0<=x/\0<=x/9223372036854775808/\x/9223372036854775808<=1:=χ;obtain ⟨o,B,a,e,l,f,i,j⟩:=key;refine ⟨f,i,j,?_⟩;rw [a,e];have n:u+4294967296*(B+q)=o+b+(c+g*d):=ω;have p:W*S*u+W*(S*4294967296)*(q+B)=W*S*(u+4294967296*(B+q)):=χ;grind
theorem Gb {F U c d u Y W S t:Nat}(h:F+W*S*c=U+W*Y)(z:t=c+u+d:=by omega):F+W*S*(t%4294967296)+W*(S*4294967296)*(t/4294967296)=U+W*S*u+W*(Y+S*d):=by have a:W*S*(t%4294967296)+W*(S*4294967296)*(t/4294967296)=W*S*t:=by{grind [Nat.mod_add_div]};grind
end Go.Big
namespace Go.Proofs.Tryz
open Go.Eng Go.Big
section
variable{G b c i j k:Nat}{fs gs ks us vs:List Nat}{rest:List Value}
theorem _root_.Go.Eng.RD.rd0 {V:un}{p:OA}{n:Nat}{ds:zA Nat}(h:RD V p n c ds){i:Int}{K:Int->Prop}(j:Nat)(u:i=j)(z:j<ds.length)(E:K ((ds[j]:Nat):Int)):(p.isSome=true)/\(0<=i/\i<(n:Int))/\∃x:Int,(∃a,af p j=some a/\V.at a (Ô .u32 x))/\K x:=by have:=h.rd (K:=K) j u z E;subst u;simpa only [Ý,Ģ] using this
theorem ZB (h:k<us.length):(aQ us++rest)[0+k*1]?=some (Ô .u32 (us[k]:Int)):=by grind [List.getElem?_append_left,ja]
def Bv {x:Nat}(h:k<us.length:=by omega):(aQ us++rest).set (0+k*1) (Ô .u32 (x:Int))=aQ (us.set k x)++rest:=by rw [ĉ,Ģ,List.set_append_left _ _ (by simpa using h),bV]
theorem L9 {y m t s:Nat}(hm:(ai y).length=m)(E:0<m)(u:t=(ai y)[m-1]'ω)(z:s=32-dL t):s<32/\(ai (y*2^s)).length=m/\2147483648*4294967296^(m-1)<=y*2^s:=by have d:t<4294967296:=by{rw [u];exact (aS y).get _};have a:t≠0:=by{rw [u];have:=(kg y).last ω;simpa [hm] using this};have b:dL t<=32:=jJ.2 ω;have f:0<dL t:=by{unfold dL;rw [Ã a];omega};have e:=jF (ai y) (m-1) ω;rw [ag,ľ ω,<-u] at e;simp only [gN,Ĭ,ġ] at e;have c:=je ((aS y).take (m-1));rw [ë,Ħ ω] at c;have k:2^dL t*2^s=4294967296:=by{rw [<-Ė,z,Nat.add_sub_cancel' b]};have g:2^(dL t-1)*2^s=2147483648:=by{rw [<-Ė,show dL t-1+s=31 from by omega]};have h:2147483648*4294967296^(m-1)<=y*2^s:=by{have:2^(dL t-1)*2^s*4294967296^(m-1)<=t*2^s*4294967296^(m-1):=Ă _ (Ă _ (Bq a));rw [g] at this;have l:t*2^s*4294967296^(m-1)=4294967296^(m-1)*t*2^s:=χ;have n:4294967296^(m-1)*t*2^s<=y*2^s:=Ă _ ω;omega};refine ⟨ω,?_,h⟩;have i:y*2^s<4294967296^m:=by{have j:y<4294967296^(m-1)*(t+1):=by{rw [İ,Ģ];omega};have o:4294967296^(m-1)*(t+1)*2^s<=4294967296^(m-1)*2^dL t*2^s:=Ă _ (Ň _ (wO t));have p:4294967296^(m-1)*2^dL t*2^s=4294967296^m:=by{grind [Nat.pow_succ,Nat.sub_add_cancel]};have q:=Qc7 j (ĵ s);omega};have b1:=aT.2 i;have b2:m-1<(ai (y*2^s)).length:=by{rw [zK];omega};omega
theorem top3 {us:zA Nat}{k:Nat}(h:k+2<us.length)(u:val (us.drop (k+3))=0):val us=((us[k+2]*4294967296+us[k+1])*4294967296+us[k])*4294967296^k+val (us.take k):=by have a:=jF us k ω;rw [ī (i:=k+1) ω,ī (i:=k+1+1) ω,bT,bT] at a;grind
theorem top2 {us:zA Nat}{k:Nat}(h:us.length=k+2:=by omega):val us=(us[k+1]*4294967296+us[k])*4294967296^k+val (us.take k):=by grind [jF,List.drop_eq_getElem_cons,bT,gN]
theorem bS (us:zA Nat)(k:Nat)(h:k<=us.length:=by omega):val us=val (us.take k)+4294967296^k*val (us.drop k):=by grind [List.take_append_drop,fo]
def kG {us:zA Nat}{k:Nat}(h:val us<4294967296^k)(u:k<=us.length:=by omega):val (us.drop k)=0:=by have:=bS us k u;rcases ĺ (val (us.drop k)) with e|e;{exact e};{have:4294967296^k*1<=4294967296^k*val (us.drop k):=Ň _ e;omega}
theorem _root_.Go.Eng.RD.rdq {V:un}{p:OA}{n:Nat}{ds:zA Nat}(h:RD V p n c ds){i:Int}{K:Int->Prop}(j:Nat)(u:i=j){d:Nat}(z:ds[j]?=some d)(E:K (d:Int)):(p.isSome=true)/\(0<=i/\i<(n:Int))/\∃x:Int,(∃a,af p (i.toNat*1)=some a/\V.at a (Ô .u32 x))/\K x:=by have ⟨b,e⟩:=đ.1 z;exact h.rd j u b (by rw [e];exact E)
theorem mj {d:Nat}(h:us[k]?=some d):(aQ us++rest)[0+k*1]?=some (Ô .u32 (d:Int)):=by grind [ZB]
structure Kb (us vs:List Nat) (j G i b c:Nat) (fs:List Nat):Prop where
 b1:b<=1
 c1:c<4294967296
 hi:i<=vs.length
 len:fs.length=us.length
 gi:cP fs
 dr:fs.drop (j+i)=us.drop (j+i)
 tk:fs.take j=us.take j
 eq:val (fs.take (j+i))+4294967296^j*(G*val (vs.take i))=val (us.take (j+i))+4294967296^j*4294967296^i*(c+b)
theorem Kb.read (h:Kb us vs j G i b c fs)(z:j+i<us.length):∃u,fs[j+i]?=some u/\us[j+i]?=some u:=by have:=Æ (λl=>l[0]?) h.dr;grind
def Kb.step (h:Kb us vs j G i b c fs)(hG:G<4294967296)(hdv:cP vs)(Sw:cP us)(hi:i<vs.length)(Z:j+i<us.length):∃u d N M cn cb:Nat,vs[i]?=some d/\fs[j+i]?=some u/\u64.wrap ((c:Int)+u64.wrap ((G:Int)*u64.wrap (d:Int)))=(cn:Int)/\(cn:Int).fdiv (2^32)=(cb:Int) /\ (u64.wrap (u64.wrap (u64.wrap (u:Int)-b_ .and .u64 (cn:Int) 4294967295)-(b:Int))).fdiv (2^63)=(N:Int) /\ u32.wrap (u64.wrap (u64.wrap (u64.wrap (u:Int)-b_ .and .u64 (cn:Int) 4294967295)-(b:Int)))=(M:Int)/\M<4294967296 /\ Kb us vs j G (i+1) N cb (fs.set (j+i) M):=by have ⟨u,l,a⟩:=h.read Z;obtain ⟨m,n,-,o,p,q,r,s⟩:=h;have C:=hdv.get (i:=i) hi;have t:=Sw u (Ď a);have D:G*vs[i]<=4294967295*4294967295:=Qg7 ω ω;refine ⟨u,vs[i],?_⟩;have v:u64.wrap ((c:Int)+u64.wrap ((G:Int)*u64.wrap ((vs[i]:Nat):Int)))=((c+G*vs[i]:Nat):Int):=by{rw [bw (x:=((vs[i]:Nat):Int)) ω,<-Ś];generalize G*vs[i]=gd at *;rw [bw (x:=((gd:Nat):Int)) ω,bw ω];omega};have w:=Hy (x:=((u:Int)-((c+G*vs[i])%4294967296:Nat)-b)%18446744073709551616) s n m t rfl;have hand:b_ .and .u64 ((c+G*vs[i]:Nat):Int) 4294967295=(((c+G*vs[i])%4294967296:Nat):Int):=and64 _;have e:u64.wrap (u64.wrap (u64.wrap (u:Int)-(((c+G*vs[i])%4294967296:Nat):Int))-(b:Int))=((u:Int)-((c+G*vs[i])%4294967296:Nat)-b)%18446744073709551616:=by{rw [bw (x:=(u:Int)) ω,Aw,Aw];omega};have y:(c+G*vs[i])/4294967296<4294967296:=by{generalize G*vs[i]=gd at *;omega};generalize ((u:Int)-((c+G*vs[i])%4294967296:Nat)-b)%18446744073709551616=O at *;obtain ⟨E,F,H,A⟩:=w;obtain ⟨N,f⟩:∃N:Nat,O/9223372036854775808=N:=⟨(O/9223372036854775808).toNat,ω⟩;obtain ⟨M,g⟩:∃M:Nat,O%4294967296=M:=⟨(O%4294967296).toNat,ω⟩;rw [f,g] at A;have B:M<4294967296:=ω;have k:N<=1:=ω;refine ⟨N,M,c+G*vs[i],(c+G*vs[i])/4294967296,ñ hi,l,v,?_,?_,?_,B,k,y,hi,by simpa using o,p.set _ _ B,?_,?_,?_⟩;{rw [kd]};{rw [hand,e,WH,f]};{rw [hand,e,k_,g]};{rw [Qn1 ω];have:=Æ (List.drop 1) q;simpa [Ŋ] using this};{rw [Qp9,Qd8 (by simp;omega)];exact r};have z:us[j+i]=u:=by{rw [ñ Z] at a;exact ő a};rw [show j+(i+1)=j+i+1 from by omega,aX _ _ _,aG us (j+i),aG vs i hi,Ĩ,Ė,z];exact A
theorem Ux {t a:Nat}(u:ks.take j=us.take j)(z:j<=ks.length)(hu:j<=us.length)(h:val ks+4294967296^j*a=val us+4294967296^j*t):val (ks.drop j)+a=val (us.drop j)+t:=by have b:=bS ks j z;have c:=bS us j hu;rw [u] at b;have:4294967296^j*(val (ks.drop j)+a)=4294967296^j*(val (us.drop j)+t):=by{rw [İ,İ];omega};grind [Nat.eq_of_mul_eq_mul_left]
theorem Kb.fin (h:Kb us vs j G vs.length b c fs)(Sw:cP us)(hj:j+vs.length<us.length)(hz:val (us.drop (j+vs.length+1))=0):∃u ob Z:Nat,fs[j+vs.length]?=some u /\ (u64.wrap (u64.wrap (u64.wrap (u:Int)-(c:Int))-(b:Int))).fdiv (2^63)=(ob:Int) /\ u32.wrap (u64.wrap (u64.wrap (u64.wrap (u:Int)-(c:Int))-(b:Int)))=(Z:Int)/\Z<4294967296/\ob<=1 /\ cP (fs.set (j+vs.length) Z)/\(fs.set (j+vs.length) Z).length=us.length/\(fs.set (j+vs.length) Z).take j=us.take j/\val ((fs.set (j+vs.length) Z).drop (j+vs.length+1))=0 /\ val ((fs.set (j+vs.length) Z).drop j)+G*val vs=val (us.drop j)+4294967296^(vs.length+1)*ob:=by have ⟨u,s,f⟩:=h.read hj;obtain ⟨t,i,-,v,w,y,z,l⟩:=h;have A:=Sw u (Ď f);have B:us[j+vs.length]=u:=by{rw [ñ hj] at f;exact ő f};rw [Ī] at l;have k:=Hy (g:=G) (d:=0) (Y:=val vs) (x:=((u:Int)-((c+G*0)%4294967296:Nat)-b)%18446744073709551616) l i t A rfl;simp only [Ĭ,ġ] at k;rw [ė i,ŗ i,ĉ] at k;have m:u64.wrap (u64.wrap (u64.wrap (u:Int)-(c:Int))-(b:Int))=((u:Int)-(c:Int)-b)%18446744073709551616:=by{rw [bw (x:=(u:Int)) ω,Aw,Aw];omega};generalize ((u:Int)-(c:Int)-b)%18446744073709551616=xx at *;obtain ⟨J,K,L,E⟩:=k;obtain ⟨ob,n⟩:∃ob:Nat,xx/9223372036854775808=ob:=⟨(xx/9223372036854775808).toNat,ω⟩;obtain ⟨Z,o⟩:∃Z:Nat,xx%4294967296=Z:=⟨(xx%4294967296).toNat,ω⟩;rw [n,o] at E;simp only [Ý] at E;have F:Z<4294967296:=ω;have p:ob<=1:=ω;obtain ⟨e,a⟩:∃e,e=fs.set (j+vs.length) Z:=⟨_,rfl⟩;refine ⟨u,ob,Z,s,by rw [m,WH,n],by rw [m,k_,o],F,p,?_⟩;rw [<-a];have C:e.length=us.length:=by{rw [a];simpa using v};have D:cP e:=by{rw [a];exact w.set _ _ F};have q:e.take j=us.take j:=by{rw [a,Qp9,Qd8 (by simp;omega)];exact z};have r:e.drop (j+vs.length+1)=us.drop (j+vs.length+1):=by{rw [a,Qn1 ω];have:=Æ (List.drop 1) y;simpa using this};refine ⟨D,C,q,by rw [r];exact hz,Ux q ω ω ?_⟩;have H:=bS e (j+vs.length+1);have I:=bS us (j+vs.length+1);have M:val (e.take (j+vs.length+1))=val (fs.take (j+vs.length))+4294967296^j*4294967296^vs.length*Z:=by{rw [a,aX _ _ _,Ė]};have N:val (us.take (j+vs.length+1))=val (us.take (j+vs.length))+4294967296^j*4294967296^vs.length*u:=by{rw [aG us (j+vs.length),Ė,B]};rw [r,hz,Ĭ,ġ] at H;rw [hz,Ĭ,ġ] at I;have O:4294967296^j*(4294967296^vs.length*4294967296)*ob=4294967296^j*(4294967296^(vs.length+1)*ob):=by{rw [Ĩ];grind};omega
structure J0 (ks vs:List Nat) (j i c:Nat) (gs:List Nat):Prop where
 c1:c<=1
 hi:i<=vs.length
 len:gs.length=ks.length
 gi:cP gs
 dr:gs.drop (j+i)=ks.drop (j+i)
 tk:gs.take j=ks.take j
 eq:val (gs.take (j+i))+4294967296^j*4294967296^i*c=val (ks.take (j+i))+4294967296^j*val (vs.take i)
theorem J0.read (h:J0 ks vs j i c gs)(z:j+i<ks.length):∃u,gs[j+i]?=some u/\ks[j+i]?=some u:=by have:=Æ (λl=>l[0]?) h.dr;grind
def J0.step (h:J0 ks vs j i c gs)(hdv:cP vs)(hdk:cP ks)(hi:i<vs.length)(z:j+i<ks.length):∃u d E cn F:Nat,vs[i]?=some d/\gs[j+i]?=some u/\u64.wrap ((c:Int)+u64.wrap (u64.wrap (u:Int)+u64.wrap (d:Int)))=(cn:Int)/\(cn:Int).fdiv (2^32)=(F:Int) /\ u32.wrap (cn:Int)=(E:Int)/\J0 ks vs j (i+1) F (gs.set (j+i) E):=by have ⟨u,b,a⟩:=h.read z;obtain ⟨p,-,e,f,g,k,l⟩:=h;have q:=hdv.get (i:=i) hi;have r:=hdk u (Ď a);have m:ks[j+i]=u:=by{rw [ñ z] at a;exact ő a};obtain ⟨t5,n⟩:∃t5,t5=c+u+vs[i]:=⟨_,rfl⟩;have o:u64.wrap ((c:Int)+u64.wrap (u64.wrap (u:Int)+u64.wrap ((vs[i]:Nat):Int)))=(t5:Int):=by{rw [bw (x:=((vs[i]:Nat):Int)) ω,bw (x:=(u:Int)) ω,bw (x:=(u:Int)+_) ω,bw ω];omega};refine ⟨u,vs[i],t5%4294967296,t5,t5/4294967296,ñ hi,b,o,by rw [kd],by rw [k_];omega,ω,hi,by simpa using e,f.set _ _ ω,?_,?_,?_⟩;{rw [Qn1 ω];have:=Æ (List.drop 1) g;simpa [Ŋ] using this};{rw [Qp9,Qd8 (by simp;omega)];exact k};rw [show j+(i+1)=j+i+1 from by omega,aX _ _ _,aG ks (j+i),aG vs i hi,Ĩ,Ė,m];exact (Gb l n)
theorem J0.fin (h:J0 ks vs j vs.length c gs)(hdk:cP ks)(O:j+vs.length<ks.length)(N:val (ks.drop (j+vs.length+1))=0):∃u F M:Nat,gs[j+vs.length]?=some u/\u32.wrap ((u:Int)+u32.wrap (c:Int))=(F:Int)/\M<=1 /\ cP (gs.set (j+vs.length) F)/\(gs.set (j+vs.length) F).length=ks.length/\(gs.set (j+vs.length) F).take j=ks.take j/\val ((gs.set (j+vs.length) F).drop (j+vs.length+1))=0 /\ val ((gs.set (j+vs.length) F).drop j)+4294967296^(vs.length+1)*M=val (ks.drop j)+val vs:=by have ⟨u,k,e⟩:=h.read O;obtain ⟨w,-,l,m,n,o,f⟩:=h;have y:=hdk u (Ď e);have p:ks[j+vs.length]=u:=by{rw [ñ O] at e;exact ő e};rw [Ī] at f;have q:=Gb (d:=0) (u:=u) (Y:=val vs) (t:=c+u) f;simp only [Ĭ,ġ] at q;have z:(c+u)%4294967296<4294967296:=ω;have r:(c+u)/4294967296<=1:=ω;have hw:u32.wrap ((u:Int)+u32.wrap (c:Int))=(((c+u)%4294967296:Nat):Int):=by{rw [xF (x:=(c:Int)) ω,k_];omega};generalize (c+u)%4294967296=F at *;generalize (c+u)/4294967296=M at *;obtain ⟨b,a⟩:∃b,b=gs.set (j+vs.length) F:=⟨_,rfl⟩;refine ⟨u,F,M,k,hw,r,?_⟩;rw [<-a];have s:b.length=ks.length:=by{rw [a];simpa using l};have v:cP b:=by{rw [a];exact m.set _ _ z};have g:b.take j=ks.take j:=by{rw [a,Qp9,Qd8 (by simp;omega)];exact o};have i:b.drop (j+vs.length+1)=ks.drop (j+vs.length+1):=by{rw [a,Qn1 ω];have:=Æ (List.drop 1) n;simpa using this};refine ⟨v,s,g,by rw [i];exact N,Ux g ω ω ?_⟩;have A:=bS b (j+vs.length+1);have B:=bS ks (j+vs.length+1);have C:val (b.take (j+vs.length+1))=val (gs.take (j+vs.length))+4294967296^j*4294967296^vs.length*F:=by{rw [a,aX _ _ _,Ė]};have D:val (ks.take (j+vs.length+1))=val (ks.take (j+vs.length))+4294967296^j*4294967296^vs.length*u:=by{rw [aG ks (j+vs.length),Ė,p]};rw [i,N,Ĭ,ġ] at A;rw [N,Ĭ,ġ] at B;have E:4294967296^j*(4294967296^vs.length*4294967296)*M=4294967296^j*(4294967296^(vs.length+1)*M):=by{rw [Ĩ];grind};omega
structure GK (v1 v2 v' u0 u1 u2 t' B T Y:Nat):Prop where
 hY:Y=(v1*4294967296+v2)*B+v'
 hT:T=((u0*4294967296+u1)*4294967296+u2)*B+t'
 CF:v'<B
 K1:t'<B
 v1l:2147483648<=v1
 v1u:v1<4294967296
 v2u:v2<4294967296
 u0u:u0<4294967296
 u1u:u1<4294967296
 u2u:u2<4294967296
 lt:T<4294967296*Y
structure GI (v1 f T Y G ρ:Nat):Prop where
 r:ρ<4294967296
 g:G<=4294967297
 eq:G*v1+ρ=f
 lt:T<(G+1)*Y
structure GF (T Y G:Nat):Prop where
 g:G<4294967296
 lt:T<(G+1)*Y
 gt:G*Y<T+Y
section
variable{v1 v2 v' u0 u1 u2 t' B T Y G ρ:Nat}
def GK.start (h:GK v1 v2 v' u0 u1 u2 t' B T Y):GI v1 (u0*4294967296+u1) T Y ((u0*4294967296+u1)/v1) ((u0*4294967296+u1)%v1):=by have c:=G6 h.hY h.hT h.CF h.lt;have d:=h.v1l;have e:=h.v1u;have f:=h.v2u;have a:=Qd5 (u0*4294967296+u1) v1;have b:=ę (u0*4294967296+u1) (show 0<v1 by omega);refine ⟨ω,?_,by rw [ļ];exact a,?_⟩;{have:(u0*4294967296+u1)/v1<4294967298:=by{rw [Qb9 ω];omega};omega};rw [ļ] at a;exact UT h.hY h.hT h.K1 h.u2u a b
def GK.big (h:GK v1 v2 v' u0 u1 u2 t' B T Y)(u:4294967296<=G):T<G*Y:=Ľ h.lt (Ă _ u)
def GK.dec (h:GK v1 v2 v' u0 u1 u2 t' B T Y)(hi:GI v1 (u0*4294967296+u1) T Y G ρ)(u:ρ*4294967296+u2<G*v2):T<G*Y:=Sr h.hY h.hT h.K1 hi.eq u
def GK.last (h:GK v1 v2 v' u0 u1 u2 t' B T Y)(hi:GI v1 (u0*4294967296+u1) T Y G ρ)(u:G<4294967296)(z:G*v2<=ρ*4294967296+u2):GF T Y G:=
 ⟨u,hi.lt,G5 h.hY h.hT h.CF (by have:=h.v1l;omega) ω hi.eq z⟩
theorem GK.down (h:GK v1 v2 v' u0 u1 u2 t' B T Y)(hi:GI v1 (u0*4294967296+u1) T Y G ρ)(u:T<G*Y):1<=G/\(G-1)*v1+(ρ+v1)=u0*4294967296+u1/\T<(G-1+1)*Y:=by grind [hi.eq,Nat.add_mul]
def GK.downA (h:GK v1 v2 v' u0 u1 u2 t' B T Y)(hi:GI v1 (u0*4294967296+u1) T Y G ρ)(u:T<G*Y)(z:4294967296<=ρ+v1):1<=G/\GF T Y (G-1):=by have ⟨b,a,c⟩:=h.down hi u;have e:=G6 h.hY h.hT h.CF h.lt;have g:=h.v2u;have f:G-1<4294967296:=by{rcases ē (G-1) 4294967296 with d|d;{exact d};{have:=Ă v1 d;omega}};refine ⟨b,f,c,G5 h.hY h.hT h.CF ω ω a ?_⟩;have i:(G-1)*v2<=4294967295*4294967295:=Qg7 ω ω;omega
def GK.downB (h:GK v1 v2 v' u0 u1 u2 t' B T Y)(hi:GI v1 (u0*4294967296+u1) T Y G ρ)(u:T<G*Y)(z:ρ+v1<4294967296):1<=G/\GI v1 (u0*4294967296+u1) T Y (G-1) (ρ+v1):=by have ⟨b,a,c⟩:=h.down hi u;have d:=hi.g;exact ⟨b,z,ω,a,c⟩
def GK.words (h:GK v1 v2 v' u0 u1 u2 t' B T Y):b_ .or .u64 (u64.wrap (u64.wrap (u0:Int)*2^32)) (u64.wrap (u1:Int))=((u0*4294967296+u1:Nat):Int) /\ u64.wrap (((u0*4294967296+u1:Nat):Int).tdiv (v1:Int))=(((u0*4294967296+u1)/v1:Nat):Int) /\ ((u0*4294967296+u1:Nat):Int).tmod (v1:Int)=(((u0*4294967296+u1)%v1:Nat):Int):=by have a:=h.u0u;have b:=h.u1u;have c:((2:Int)^32)=4294967296:=φ;refine ⟨?_,?_,?_⟩;{rw [c,bw (x:=(u0:Int)) ω,bw (x:=(u1:Int)) ω,bw ω,Lv _ _ a b];omega};{rw [Qj4 ω,<-Int.natCast_ediv];have d:(u0*4294967296+u1)/v1<=u0*4294967296+u1:=Qc8 _ _;generalize (u0*4294967296+u1)/v1=qq at *;rw [bw ω]};rw [Qk9 ω,<-Wk9]
def GK.words2 (h:GK v1 v2 v' u0 u1 u2 t' B T Y)(hi:GI v1 (u0*4294967296+u1) T Y G ρ):u64.wrap ((G:Int)*(v2:Int))=((G*v2:Nat):Int)/\b_ .or .u64 (u64.wrap ((ρ:Int)*2^32)) (u64.wrap (u2:Int))=((ρ*4294967296+u2:Nat):Int) /\ u64.wrap ((ρ:Int)+v1)=((ρ+v1:Nat):Int)/\(1<=G->u64.wrap ((G:Int)-1)=((G-1:Nat):Int)):=by have a:=h.u2u;have b:=hi.r;have c:=hi.g;have f:=h.v2u;have d:=h.v1u;have e:((2:Int)^32)=4294967296:=φ;refine ⟨?_,?_,?_,?_⟩;{have d:G*v2<=4294967297*4294967295:=Qg7 c ω;rw [<-Ś,bw ω]};{rw [e,bw (x:=(ρ:Int)*4294967296) ω,bw ω,Lv _ _ b a];omega};{rw [bw ω];omega};intro h;rw [bw ω];omega
end
end
section
variable{X Y c e m n n8 x y:Nat}{qs us:List Nat}{V:Ó}{p q:OA}
structure OI (X Y n n8:Nat) (j:Int) (us qs:List Nat):Prop where
 j0:-1<=j
 j1:j<(n+1-n8:Nat)
 ul:us.length=n+1
 ud:cP us
 ql:qs.length=n+1-n8
 qd:cP qs
 eq:X=val us+Y*(4294967296^(j+1).toNat*val (qs.drop (j+1).toNat))
 lt:val (us.drop (j+1).toNat)<Y
structure DK (Y n8 k v1 v2:Nat):Prop where
 hn8:n8=k+2
 len:(ai Y).length=n8
 g1:(ai Y)[k+1]?=some v1
 g2:(ai Y)[k]?=some v2
 l1:2147483648<=v1
 u1:v1<4294967296
 u2:v2<4294967296
 eq:Y=(v1*4294967296+v2)*4294967296^k+val ((ai Y).take k)
 lt:val ((ai Y).take k)<4294967296^k
 top:Y<4294967296^n8
theorem DK.of (u:(ai Y).length=n8)(E:2<=n8)(z:2147483648*4294967296^(n8-1)<=Y):∃k v1 v2,DK Y n8 k v1 v2:=by obtain ⟨k,g⟩:∃k,n8=k+2:=⟨n8-2,ω⟩;have a:=top2 (us:=ai Y) (k:=k);rw [ag] at a;have e:=je ((aS Y).take k);rw [ë,Ħ ω] at e;have b:=(aS Y).get (i:=k+1) ω;have c:=(aS Y).get (i:=k) ω;have d:2147483648<=(ai Y)[k+1]:=by{rcases ē (ai Y)[k+1] 2147483648 with f|f;{exfalso;have h:((ai Y)[k+1]*4294967296+(ai Y)[k])+1<=2147483648*4294967296:=ω;have j:=Ă (4294967296^k) h;rw [Đ,Ō] at j;have l:2147483648*4294967296^(k+1)=2147483648*4294967296*4294967296^k:=by{rw [Ĩ];grind};rw [show n8-1=k+1 from by omega,l] at z;omega};exact f};exact ⟨k,_,_,g,u,ñ _,ñ _,d,b,c,a,e,by rw [<-u,<-aT];exact Ù _⟩
def OI.start {x X Y n n8 s:Nat}(hX:X=x*2^s)(u:(ai x).length=n)(z:s<32)(hn8:2<=n8)(E:n8<=n)(hY:2147483648*4294967296^(n8-1)<=Y)(hXl:(ai X).length<=n+1:=by omega):OI X Y n n8 (((n+1-n8:Nat):Int)-1) ((ai X++[0,0]).take (n+1)) (List.replicate (n+1-n8) 0):=by have g:n<=(ai X).length:=by{rw [<-u,hX];exact aL (Nat.le_mul_of_pos_right _ (ĵ s))};have h:((ai X++[0,0]).take (n+1)).length=n+1:=by{simp;omega};have a:val ((ai X++[0,0]).take (n+1))=X:=by{have b:val (ai X++[0,0])=X:=by{rw [fo,ag];simp};have c:=bS (ai X++[0,0]) (n+1) (by simp;omega);have d:val ((ai X++[0,0]).drop (n+1))=0:=by{refine kG ?_ (by simp;omega);rw [b];exact aT.1 ω};rw [d,Ĭ,ġ,b] at c;exact c.symm};have e:(((n+1-n8:Nat):Int)-1+1).toNat=n+1-n8:=ω;refine ⟨ω,ω,h,(cP.append.2 ⟨aS X,by simp [cP]⟩).take _,ψ,cP.rep _,?_,?_⟩;{rw [e,ľ ψ,gN,Ĭ,Ĭ,ġ,a]};rw [e];have b:=bS ((ai X++[0,0]).take (n+1)) (n+1-n8);rw [a] at b;have f:X<4294967296^n*2^s:=by{rw [hX];exact Qc7 (by rw [<-u];exact aT.1 (Ù _)) (ĵ s)};have i:2^s<=2^31:=ķ ω ω;have c:4294967296^n*2^s<=4294967296^(n+1-n8)*Y:=by{have b1:4294967296^n=4294967296^(n+1-n8)*4294967296^(n8-1):=by{rw [<-Ė];congr 1;omega};rw [b1,ņ];refine Ň _ ?_;have b2:2^s*4294967296^(n8-1)<=2147483648*4294967296^(n8-1):=Ă _ ω;rw [ļ];omega};have d:4294967296^(n+1-n8)*val (((ai X++[0,0]).take (n+1)).drop (n+1-n8))<4294967296^(n+1-n8)*Y:=ω;exact Nat.lt_of_mul_lt_mul_left d
def OI.body {k v1 v2 j:Nat}(h:OI X Y n n8 (j:Int) us qs)(u:DK Y n8 k v1 v2)(hjn:j+n8<=n):val (us.drop (j+n8+1))=0/\∃u0 u1 u2 t',us[j+n8]?=some u0/\us[j+n8-1]?=some u1/\us[j+n8-2]?=some u2/\GK v1 v2 (val ((ai Y).take k)) u0 u1 u2 t' (4294967296^k) (val (us.drop j)) Y:=by
 obtain ⟨-,-,f,a,g,l,m,o⟩:=h;have b:((j:Int)+1).toNat=j+1:=ω
 rw [b] at m o;have r:=u.hn8;have c:=u.top;have p:val (us.drop j)=us[j]+4294967296*val (us.drop (j+1)):=by rw [ī ω,bT]
 have q:=a.get (i:=j) ω
 have d:val (us.drop (j+n8+1))=0:=by have:=kG (us:=us.drop (j+1)) (k:=n8) ω (by simp;omega);rw [Qp1] at this;rw [show j+n8+1=j+1+n8 from by omega];exact this
 have e:=je ((a.drop j).take k);rw [ë,Ĵ,Ħ ω] at e
 refine ⟨d,us[j+n8],us[j+n8-1],us[j+n8-2],val ((us.drop j).take k),ñ _,ñ _,ñ _,
  u.eq,?_,u.lt,e,u.l1,u.u1,u.u2,a.get _,a.get _,a.get _,ω⟩
 have:=top3 (us:=us.drop j) (k:=k) (by simp;omega) (by rw [Qp1,show j+(k+3)=j+n8+1 from by omega];exact d);simp only [Qr1] at this;rw [this];congr<;>omega
theorem OI.next {j H:Nat}{u:zA Nat}(h:OI X Y n n8 (j:Int) us qs)(hjn:j+n8<=n)(M:u.length=us.length)(hdh:cP u)(z:u.take j=us.take j)(E:val (u.drop j)+H*Y=val (us.drop j))(F:val (u.drop j)<Y)(hH:H<4294967296):OI X Y n n8 ((j:Int)-1) u (qs.set j H):=by obtain ⟨-,i,k,m,b,c,e,o⟩:=h;have d:((j:Int)+1).toNat=j+1:=ω;have a:((j:Int)-1+1).toNat=j:=ω;rw [d] at e;refine ⟨ω,ω,ω,hdh,by simpa using b,c.set _ _ hH,?_,by rw [a];exact F⟩;have f:=bS u j;have g:=bS us j;rw [z] at f;rw [<-E] at g;rw [a,ī (l:=qs.set j H) (by simp;omega),Qg4,Qn1 ω,bT,e,f,g,Ĩ];grind
def OI.done {s:Nat}(h:OI X Y n n8 (-1) us qs)(hX:X=x*2^s)(hY:Y=y*2^s)(u:n8<=n+1)(hYl:Y<4294967296^n8):val qs=x/y/\val (us.take n8)/2^s=x%y:=by obtain ⟨-,-,f,j,g,i,a,b⟩:=h;have a:X=val us+Y*val qs:=by{simpa using a};have b:val us<Y:=by{simpa using b};have c:0<Y:=ω;have d:=kG (us:=us) (k:=n8) ω;have e:val (us.take n8)=val us:=by{have:=bS us n8;rw [d,Ĭ,ġ] at this;exact this.symm};constructor;{rw [<-Nat.mul_div_mul_right x y (ĵ s),<-hX,<-hY,a,Qh0 _ _ c,ŗ b,ĉ]};{have:x*2^s%(y*2^s)=val us:=by{rw [<-hX,<-hY,a,Wz0,ė b]};rw [Nat.mul_mod_mul_right] at this;rw [e,<-this,Qg3 _ (ĵ s)]}
set_option maxHeartbeats 8000000 in
def NK (ha:RN V p n c x)(hb:RN V q m e y)(hn:n<=2^40)(hm2:2<=m)(hle:y<=x):À 272 #[yG p n c,yG q m e] V λr W=>∃p1 n1 c1 p2 n2 c2,r=å #[yG p1 n1 c1,yG p2 n2 c2]/\RN W p1 n1 c1 (x/y)/\RN W p2 n2 c2 (x%y):=by
 have o:=ha.len;have a3:=hb.len;have c6:m<=n:=by rw [o,a3];exact aL hle
 refine MF V _ ?_;simp (disch:=omega) only [ay];refine hb.rd (m-1) ω ω λV1 l1=>(js _ ((aS y).get ω)).s ?_;rintro r V2 l2 rfl;refine ⟨_,rfl,?_⟩;obtain ⟨t,K⟩:∃t,t=(ai y)[m-1]'ω:=⟨_,rfl⟩;rw [<-K];have c9:dL t<=32:=jJ.2 (by rw [K];exact (aS y).get _);obtain ⟨s,hs⟩:∃s,s=32-dL t:=⟨_,rfl⟩;have es:(32-(dL t:Int))=(s:Int):=ω
 have ⟨YD,w,T⟩:=L9 a3.symm ω K hs;rw [es,bw ω];clear es c9;intro V3 l3;refine (Gw ra ω s).s ?_;rintro r V4 l4 ⟨p4,n4,c4,rfl,h4,L⟩;rw [ag] at h4 L
 have d0:x≠0:=by intro B;subst B;rw [GN] at o;simp at o;omega
 have L:c4=n+1:=by rcases L with B|B;{exact Å B d0};rw [B,<-o,ŗ YD]
 have a4:=h4.len;have a5:x*2^s<4294967296^n*2^s:=Qc7 (by rw [o];exact aT.1 (Ù _)) (ĵ s);have d1:2^s<=2^31:=ķ ω ω
 have f5:n<=n4/\n4<=n+1:=by constructor;{rw [a4,o];exact aL (Nat.le_mul_of_pos_right _ (ĵ s))};rw [a4,aT,Ĩ];have:4294967296^n*2^s<=4294967296^n*4294967296:=Ň _ ω;omega
 refine ⟨_,_,_,rfl,aQ (ai (x*2^s)),h4.sl,by simp;omega,h4.cap,h4.Ll,ω,ω,rfl,by simp [Value.oneCell'],?_⟩;intro sp c7 f0 f1;refine ⟨ų,λV5 l5=>(Gw ra ω s).s ?_⟩;rintro r V6 l6 ⟨p8,f,c8,rfl,h8,-⟩;rw [ag] at h8;have a6:=h8.len;rw [w] at a6;subst a6;refine ⟨_,_,_,rfl,?_⟩;have ⟨k,v1,v2,M⟩:=DK.of w hm2 T;have hk:=M.hn8;have f6:=M.l1;have f2:=M.u1;have f3:=M.u2;have d2:=OI.start (Y:=y*2^s) rfl o.symm YD hm2 c6 T;have w6:Ŵ.wrap ((f:Int)-1)=(f:Int)-1:=ay ω;have w7:Ŵ.wrap ((f:Int)-2)=(f:Int)-2:=ay ω;simp only [w6,w7];refine h8.rdq (k+1) ω M.g1 (h8.rdq k ω M.g2 ?_);have d3:((n:Int)+1).toNat=n+1:=ω
 have d4:(((n+1:Nat):Int)-(f:Int)).toNat=n+1-f:=ω
 have w1:Ŵ.wrap ((n:Int)+1)=(n:Int)+1:=ay ω;have w2:u64.wrap (v1:Int)=v1:=bw ω;have w3:u64.wrap (v2:Int)=v2:=bw ω;have w4:Ŵ.wrap (((n+1:Nat):Int)-(f:Int))=((n+1:Nat):Int)-(f:Int):=ay ω;have w5:Ŵ.wrap (((n+1-f:Nat):Int)-1)=((n+1-f:Nat):Int)-1:=ay ω;simp only [d3,w2,w3,w4,d4,w5,dZ];obtain ⟨D,a7⟩:∃D,D=aQ ((ai (x*2^s)++[0,0]).drop (n+1))++sp:=⟨_,rfl⟩
 have Q:aQ (ai (x*2^s))++([Ô .u32 0,Ô .u32 0]:zA um)++sp=aQ ((ai (x*2^s)++[0,0]).take (n+1))++D:=by rw [a7,<-Ĝ,<-Aa,Qj8,Aa];rfl
 rw [Q];clear a7 Q T a5 d1 L hs K;generalize hX:x*2^s=X at *;generalize hY:y*2^s=Y at *
 refine ⟨ω,ω,ω,λz V'=>∃us F:zA Nat,z.2.1=aQ us++D/\z.2.2=aQ F/\OI X Y n f z.1 us F,λz=>(z.1+1).toNat,
  ⟨(((n+1-f:Nat):Int)-1,aQ ((ai X++[0,0]).take (n+1))++D,aQ (List.replicate (n+1-f) 0)),?_,_,_,rfl,rfl,d2⟩,?_⟩
 ·(try dsimp only);and_intros<;>first|exact True.intro|rfl
 rintro ⟨j,row,f4⟩ V7 l7 ⟨us,F,rfl,rfl,C⟩;dsimp only at C ⊢;have f7:=C.j0;have f8:=C.j1;have f9:=C.ul;have g0:=C.ql;refine ⟨θ,λN=>?_,λN=>?_⟩
 ·have N:0<=j:=by simpa using N
  obtain ⟨j,rfl⟩:=ď N;have U:j+f<=n:=ω
  have ⟨hz,u0,u1,u2,t',a8,a9,b0,E⟩:=C.body M U;obtain ⟨eb,b5,b6⟩:=E.words;have w8:Ŵ.wrap ((j:Int)+f)=((j+f:Nat):Int):=by rw [ay ω];omega
  have w9:Ŵ.wrap (((j+f:Nat):Int)-1)=((j+f-1:Nat):Int):=by rw [ay ω];omega
  have d5:Ŵ.wrap (((j+f:Nat):Int)-2)=((j+f-2:Nat):Int):=by rw [ay ω];omega
  have d6:Ŵ.wrap ((j:Int)-1)=(j:Int)-1:=ay ω;simp only [w8,w9,d5,d6,Ý];refine ⟨ų,_,mj a8,ω,ų,_,mj a9,ω,ω,?_⟩;rw [eb,b5,b6];clear eb b5 b6
  refine ⟨λg V'=>∃G:Nat,g=(G:Int)/\GF (val (us.drop j)) Y G,
   ⟨λz V'=>∃G ρ:Nat,z=((G:Int),(ρ:Int))/\GI v1 (u0*4294967296+u1) (val (us.drop j)) Y G ρ,λz=>z.1.toNat,
    ⟨((((u0*4294967296+u1)/v1:Nat):Int),(((u0*4294967296+u1)%v1:Nat):Int)),Ų,_,_,rfl,E.start⟩,?_⟩,?_⟩
  ·rintro _ V8 l8 ⟨G,ρ,rfl,l⟩;have ⟨U0,W,d7,O⟩:=E.words2 l;dsimp only;have t1:∀a:Nat,((((a/2^32:Nat):Int) != 0)=true↔4294967296<=a)/\((((a/2^32:Nat):Int) != 0)=false↔a<4294967296):=by{intro a;constructor;{rw [bne_iff_ne];omega};rw [bne_eq_false_iff_eq];omega};simp only [d7,kd];refine ⟨θ,ω,λh=>have h:=(t1 _).1.1 h;⟨ω,λA=>have A:=(t1 _).1.1 A;?_,λA=>have A:=(t1 _).2.1 A;?_⟩,λh=>have h:=(t1 _).2.1 h;⟨ω,ų,_,mj b0,λK=>⟨ω,λA=>have A:=(t1 _).1.1 A;?_,λA=>have A:=(t1 _).2.1 A;?_⟩,λK=>?_⟩⟩;{have ⟨g1,g2⟩:=E.downA l (E.big h) A;(exact ⟨((G-1:Nat):Int),by rw [O g1];(try dsimp only);and_intros<;>first|exact True.intro|rfl,G-1,rfl,g2⟩)};{have ⟨g1,g2⟩:=E.downB l (E.big h) A;(exact ⟨(((G-1:Nat):Int),((ρ+v1:Nat):Int)),by (try dsimp only);omega,by rw [O g1];(try dsimp only);and_intros<;>first|exact True.intro|rfl,G-1,ρ+v1,rfl,g2⟩)};{have h1:=E.dec l (by rw [U0,W,Ñ] at K;omega);have ⟨g1,g2⟩:=E.downA l h1 A;(exact ⟨((G-1:Nat):Int),by rw [O g1];(try dsimp only);and_intros<;>first|exact True.intro|rfl,G-1,rfl,g2⟩)};{have h1:=E.dec l (by rw [U0,W,Ñ] at K;omega);have ⟨g1,g2⟩:=E.downB l h1 A;(exact ⟨(((G-1:Nat):Int),((ρ+v1:Nat):Int)),by (try dsimp only);omega,by rw [O g1];(try dsimp only);and_intros<;>first|exact True.intro|rfl,G-1,ρ+v1,rfl,g2⟩)};have h1:G*v2<=ρ*4294967296+u2:=by{rw [U0,W,Ò] at K;omega};(exact ⟨(G:Int),Ų,G,rfl,E.last l h h1⟩)
  ·rintro _ V9 l9 ⟨G,rfl,Z⟩;have b7:=Z.g;clear E a8 a9 b0;have w:=M.len;have b8:=ag Y
   refine ⟨θ,λz V'=>∃(b c i:Nat)(fs:zA Nat),z=((b:Int),(c:Int),(i:Int),aQ fs++D)/\Kb us (ai Y) j G i b c fs,λz=>f-z.2.2.1.toNat,
     ⟨(0,0,0,aQ us++D),Ų,0,0,0,us,rfl,ω,ω,ω,rfl,C.ud,rfl,rfl,ψ⟩,?_⟩
   rintro _ fD d8 ⟨b,c,i,fs,rfl,hS⟩;dsimp only;simp only [Ý];have hi:=hS.hi;have g3:=hS.len;refine ⟨θ,λh=>?_,λh=>?_⟩
   ·have h:i<f:=by{simpa using h};have ⟨u,d,ob,od,cn,cb,q1,q2,q3,q4,q5,R,q7,d9⟩:=hS.step b7 (aS Y) C.ud ω ω;refine (h8.le aA).rdq i rfl q1 ?_;have e1:Ŵ.wrap ((j:Int)+i)=((j+i:Nat):Int):=ŵ;have e2:Ŵ.wrap ((i:Int)+1)=((i+1:Nat):Int):=ŵ;rw [q3,e1,e2,Ý];refine ⟨ų,_,mj q2,ų,by simp;omega,ω,ω,?_⟩;rw [q4,q5,R];refine ⟨((ob:Int),(cb:Int),((i+1:Nat):Int),aQ (fs.set (j+i) od)++D),by (try dsimp only);omega,?_,_,_,_,_,rfl,d9⟩;(try dsimp only);(and_intros<;>first|exact True.intro|rfl|exact Bv)
   ·have h:i=(ai Y).length:=by simp at h;omega
    subst h;have ⟨u,ob,od,q1,q2,q3,q4,q5,R,q7,q8,q9,I⟩:=hS.fin C.ud ω (by rw [w];exact hz);rw [w] at q1 R q7 q8 q9 I;rw [b8] at I;refine ⟨ų,_,mj q1,ų,by simp;omega,ų,by simp;omega,ω,?_⟩;rw [q2,q3,Bv,xF (x:=(G:Int)) ω];generalize fs.set (j+f) od=ks at *;have a0:∀H:Nat,(aQ F).set (0+j*1) (Ô .u32 (H:Int))=aQ (F.set j H):=by intro H;rw [ĉ,Ģ,bV]
    rw [a0];refine ⟨λh0=>?_,λh0=>?_⟩
    ·have h0:ob=0:=by{simpa using h0};rw [h0,Ĭ,ġ] at I;have b9:=Z.lt;rw [Đ,Ō] at b9;(refine ⟨((j:Int)-1,aQ ks++D,aQ (F.set j G)),by (try dsimp only);omega,Ų,ks,F.set j G,rfl,rfl,?_⟩;exact C.next U q7 R q8 I ω b7)
    ·have h0:ob=1:=by
      have:ob≠0:=by simpa using h0
      omega
     rw [h0,Ģ] at I
     have S:∀ls:zA Nat,ls.length=n+1->cP ls->val (ls.drop (j+f+1))=0->val (ls.drop j)<4294967296^(f+1):=by intro ls h1 h2 N;have a1:=bS (ls.drop j) (f+1) (by simp;omega);rw [Qp1,show j+(f+1)=j+f+1 from by omega,N,Ĭ,ġ] at a1;have a2:=je ((h2.drop j).take (f+1));rw [ë,Ĵ,Ħ ω] at a2;omega
     have g4:=S ks ω R q9
     have e3:1<=G:=by rcases ĺ G with B|B;{subst B;omega};exact B
     have g5:G*Y=(G-1)*Y+Y:=by conv=>lhs;rw [<-Qm6 e3,Đ,Ō]
     have g6:=Z.gt;have c0:u32.wrap ((G:Int)-1)=((G-1:Nat):Int):=by rw [xF ω];omega
     refine ⟨ų,(G:Int),by rw [ĉ,Ģ,ja (by simp;omega),Qg4],ų,by simp;omega,?_⟩;have P:(aQ (F.set j G)).set (0+j*1) (Ô .u32 ((G-1:Nat):Int))=aQ (F.set j (G-1)):=by rw [ĉ,Ģ,bV,List.set_set]
     rw [c0,P]
     refine ⟨λz V'=>∃(c' i2:Nat)(gs:zA Nat),z=((c':Int),(i2:Int),aQ gs++D)/\J0 ks (ai Y) j i2 c' gs,λz=>f-z.2.1.toNat,
      ⟨(0,0,aQ ks++D),Ų,0,0,ks,rfl,ω,ω,rfl,R,rfl,rfl,ψ⟩,?_⟩
     rintro _ eX dq ⟨c',i2,gs,rfl,hA⟩;dsimp only;simp only [Ý];have g7:=hA.hi;have g8:=hA.len;refine ⟨θ,λh=>?_,λh=>?_⟩
     ·have h:i2<f:=by{simpa using h};have ⟨u,d,od,cn,cb,r1,r2,r3,r4,r5,e4⟩:=hA.step (aS Y) R ω ω;refine (h8.le aA).rdq i2 rfl r1 ?_;have e5:Ŵ.wrap ((j:Int)+i2)=((j+i2:Nat):Int):=ŵ;have e6:Ŵ.wrap ((i2:Int)+1)=((i2+1:Nat):Int):=ŵ;rw [e5,e6,Ý];refine ⟨ų,_,mj r2,ų,by simp;omega,ω,?_⟩;rw [r3,r4,r5];refine ⟨((cb:Int),((i2+1:Nat):Int),aQ (gs.set (j+i2) od)++D),by (try dsimp only);omega,?_,_,_,_,rfl,e4⟩;(try dsimp only);(and_intros<;>first|exact True.intro|rfl|exact Bv)
     ·have h:i2=(ai Y).length:=by{simp at h;omega};subst h;have ⟨u,od,kp,r1,r2,r3,r4,r5,r6,r7,r8⟩:=hA.fin R ω (by rw [w];exact q9);rw [w] at r1 r4 r5 r6 r7 r8;rw [b8] at r8;refine ⟨ų,_,mj r1,ų,by simp;omega,?_⟩;rw [r2,Bv];have g9:=S _ ω r4 r7;generalize gs.set (j+f) od=hs at *;have c3:kp=1:=by{rcases ĺ kp with B|B;{rw [B,Ĭ] at r8;omega};omega};rw [c3,Ģ] at r8;(refine ⟨((j:Int)-1,aQ hs++D,aQ (F.set j (G-1))),by (try dsimp only);omega,Ų,hs,F.set j (G-1),rfl,rfl,?_⟩;exact C.next U ω r4 (by rw [r6,q8]) ω ω ω)
 ·have N:j=-1:=by{simp at N;omega};subst N;have ⟨hq,hr⟩:=C.done hX.symm hY.symm ω M.top;have c5:=C.qd;have Sw:=C.ud;intro V8 l8 h5 e7 e8 e9 J;have h6:RD V8 (some ⟨e7,0,none⟩) f c7 (us.take f):=by{refine ⟨by simp;omega,ω,λi v hv=>⟨_,rfl,?_⟩,Sw.take f,λB=>nomatch B⟩;rw [add_zero'];refine dM e9 ?_;rw [HD,Ĳ] at hv;split at hv;{rename_i b9;rw [ĳ (by simp;omega)];exact hv};cases hv};refine ⟨ų,λV9 l9=>?_⟩;refine (bE (RD.bo (ds:=F) e8 c5 (n:=n+1-f) (c:=n+1-f) ω (Ù _) |>.le l9)).s ?_;rintro r fD d8 ⟨k1,rfl,g1⟩;refine ⟨_,_,_,rfl,λeX dq=>?_⟩;rw [Ý];refine (RZ ra (by simp;omega) s).s ?_;rintro r gQ eJ ⟨p2,n2,c2,rfl,g2⟩;refine ⟨_,_,_,rfl,λji fk=>⟨_,_,_,_,_,_,rfl,?_,?_⟩⟩;{rw [bg c5] at g1;unfold RN;rw [<-hq];exact g1.le aA};rw [hr] at g2;exact ra
def pH {xa Z:zA Nat}(ha:RD V p n c xa)(hb:RD V q m e Z)(hm:xa.length<=2^40)(hn:Z.length<=2^40)(h0:val Z≠0):À 217 #[yG p n c,yG q m e] V λr W=>∃p1 n1 c1 p2 n2 c2,r=å #[yG p1 n1 c1,yG p2 n2 c2,dB true]/\RN W p1 n1 c1 (val xa/val Z)/\RN W p2 n2 c2 (val xa%val Z):=by have la:=bz ha.gi;have lb:=bz hb.gi;refine FG V _ λN O=>(bE ra).s ?_;rintro r V2 P ⟨n,rfl,d⟩;rw [bg ha.gi] at d;refine ⟨_,_,_,rfl,λQ G=>(bE ra).s ?_⟩;rintro r R H ⟨m,rfl,f⟩;rw [bg hb.gi] at f;replace d:=d.le (G.m H);generalize val xa=x at *;generalize val Z=y at *;have I:=d.len;have S:=f.len;refine ⟨_,_,_,rfl,λl=>?_,λl T o=>(Gv ra ra ω).s ?_⟩;{exfalso;have:ai y=[]:=ĕ.1 (by simp at l;omega);exact h0 (bG.1 this)};rintro r U s rfl;rw [ag,ag];replace d:=d.le (o.m s);replace f:=f.le (o.m s);refine ⟨_,rfl,λa t u=>(rj ra).s ?_,λa=>⟨λg=>?_,λg t u=>?_⟩⟩;{rintro r v w ⟨z,A,B,rfl,h⟩;have a:x<y:=by{simpa [iV] using a};refine ⟨_,_,_,rfl,λC b=>⟨_,_,_,_,_,_,rfl,?_,?_⟩⟩;{rw [ŗ a];exact RD.nil};rw [ė a];exact h.le b};{have g:m=1:=by{simp at g;omega};subst g;refine f.rd0 0 rfl ω λt u=>?_;have D:=(aS y).get (i:=0) ω;have j:y=(ai y)[0]'ω:=by{have e:=jF (ai y) 0 ω;rw [ag,ľ ω] at e;simpa using e};rw [<-j] at D ⊢;refine (Ku ra ω y h0 D).s ?_;rintro r v w ⟨z,A,B,rfl,h⟩;rw [ag] at h ⊢;have E:x%y<y:=ę _ ω;refine qyK ⟨rfl,λC b=>?_⟩;rw [bw ω];refine (fN _ ω).s ?_;rintro r W X ⟨J,K,L,rfl,F⟩;exact ⟨_,_,_,rfl,λY M=>⟨_,_,_,_,_,_,rfl,ra,F.le M⟩⟩};have a:y<=x:=by{simpa [<-Ww6,iV] using a};have k:2<=m:=by{have:¬(m:Int)=1:=by{simpa using g};have:ai y≠[]:=λe=>h0 (bG.1 e);have:(ai y).length≠0:=λe=>this (ĕ.1 e);omega};refine (NK ra ra ω k a).s ?_;rintro r v w ⟨z,A,B,J,K,L,rfl,h,F⟩;exact qyJ ⟨rfl,λC b=>⟨_,_,_,_,_,_,rfl,ra,ra⟩⟩
def CC (x y:Nat):Nat.gcd y (x%y)=Nat.gcd x y:=by rw [ŧ x y,Nat.gcd_rec y x,ŧ]
def yk {xa xb:zA Nat}(ha:RD V p n c xa)(hb:RD V q m e xb)(hm:xa.length<=2^40)(hn:xb.length<=2^40:=by omega):À 216 #[yG p n c,yG q m e] V λr W=>∃p1 n1 c1,r=yG p1 n1 c1/\RN W p1 n1 c1 (Nat.gcd (val xa) (val xb)):=by
 have la:=bz ha.gi;have lb:=bz hb.gi;refine Pk V _ λV1 l1=>(lN ra hm).s ?_;rintro r V2 l2 ⟨p1,n1,c1,rfl,s⟩;refine ⟨_,_,_,rfl,λV3 S=>(lN ra hn).s ?_⟩;rintro r V4 T ⟨U,W,X,rfl,t⟩
 replace s:=s.le (S.m T)
 refine ⟨_,_,_,rfl,λz k V'=>∃x y:Nat,RN V' z.1 z.2.1 z.2.2.1 x/\RN V' z.2.2.2.1 z.2.2.2.2.1 z.2.2.2.2.2 y/\Nat.gcd x y=Nat.gcd (val xa) (val xb)/\k=y/\(ai x).length<=2^40/\(ai y).length<=2^40,
  ⟨(p1,n1,c1,U,W,X),val xb,σ,val xa,val xb,s,t,rfl,rfl,ω,ω⟩,?_⟩
 rintro ⟨p,n,c,q,m,e⟩ k Y l5 ⟨x,y,s,t,w,hk,J,f⟩;dsimp only at s t ⊢;have Z:=s.len;have P:=t.len;rw [<-w];have stop:m=0->y=0:=λh=>bG.1 (ĕ.1 ω)
 have more:∀g:un,Y.Le g->m≠0->À 217 #[yG p n c,yG q m e] g λr A=>∃p1 n1 c1 p2 n2 c2,r=å #[yG p1 n1 c1,yG p2 n2 c2,dB true]/\RN A p2 n2 c2 (x%y)/\x%y<y/\Nat.gcd y (x%y)=Nat.gcd (val xa) (val xb)/\(ai (x%y)).length<=2^40/\g.Le A:=by intro g F h;have K:y≠0:=by{intro e0;subst e0;rw [GN] at P;simp at P;omega};have d:x%y<y:=ę _ ω;refine (pH ra ra J f (by rw [ag];exact K)).s ?_;rintro r A L ⟨M,N,O,G,H,I,rfl,Q,u⟩;rw [ag,ag] at u;exact qyJ ⟨rfl,u,d,by rw [CC,w],ÿ (aL) f,L⟩
 refine ⟨θ,λR=>⟨λi V6 l6=>?_,λi g F=>(more g F ?_).s ?_⟩,λR=>⟨λB=>⟨λi V6 l6=>?_,λi g F=>(more g F ?_).s ?_⟩,λB gQ eJ=>?_⟩⟩
 ·rw [stop (by simp at i;omega),Qg5];rw [stop (by simp at i;omega)] at w;exact ⟨_,_,_,rfl,ra⟩
 ·simp at i;omega
 ·rintro r A L ⟨M,N,O,G,H,I,rfl,u,d,j,l,l9⟩;exact qxQ ⟨rfl,(q,m,e,G,H,I),x%y,ω,σ,y,x%y,t.le aA,u,j.m w.symm,rfl,f,l⟩
 ·rw [stop (by simp at i;omega),Qg5];exact ⟨_,_,_,rfl,ra⟩
 ·simp at i;omega
 ·rintro r A L ⟨M,N,O,G,H,I,rfl,u,d,j,l,l9⟩;exact qxQ ⟨rfl,(q,m,e,G,H,I),x%y,ω,σ,y,x%y,t.le aA,u,j.m w.symm,rfl,f,l⟩
 ·have a0:n<=2:=by simp at R;omega
  have a1:m<=2:=by simp at B;omega
  have C:x<18446744073709551616:=(aT (k:=2)).1 ω;have D:y<18446744073709551616:=(aT (k:=2)).1 ω;refine (pI ra).s ?_;rintro r ji fk rfl;rw [ag,Ä C];refine ⟨_,_,rfl,λlH iL=>(pI ra).s ?_⟩;rintro r mJ iE rfl;rw [ag,Ä D]
  refine ⟨_,_,rfl,λz V'=>∃a b:Nat,z=((a:Int),(b:Int))/\Nat.gcd a b=Nat.gcd x y/\a<18446744073709551616/\b<18446744073709551616,λz=>z.2.toNat,
   ⟨((x:Int),(y:Int)),σ,x,y,rfl,rfl,C,D⟩,?_⟩
  rintro _ ko gV ⟨a,b,rfl,o,a2,E⟩;dsimp only;refine ⟨θ,λv=>?_,λv nk kf=>?_⟩
  ·have v:b≠0:=by{rw [bne_iff_ne] at v;omega};have d:a%b<b:=ę _ ω;have e4:(a:Int).tmod (b:Int)=((a%b:Nat):Int):=by{rw [Qk9 ω,<-Wk9]};rw [e4];exact ⟨ω,((b:Int),((a%b:Nat):Int)),by (try dsimp only);rw [Ý,Ý];exact d,σ,b,a%b,rfl,by rw [CC,o],E,Nat.lt_trans d E⟩
  ·have v:b=0:=by{rw [bne_eq_false_iff_eq] at v;omega};subst v;rw [Qg5] at o;refine (fN _ ω).s ?_;rintro r nq iF ⟨M,N,O,rfl,Q⟩;refine ⟨_,_,_,rfl,λqM lD=>⟨_,_,_,rfl,?_⟩⟩;rw [<-o];exact Q.le lD
def eG {ds:zA Nat}(h:RD V p n c ds)(hm:ds.length<=4611686018427387904:=by omega):À 154 #[yG p n c] V λr W=>∃k,r=yG p k c/\RD W p k c (cZ ds):=by have j:=h.len;have l:=h.cap;refine MQ V _ ?_;(refine ⟨λz V'=>0<=z/\z<=n/\cZ (ds.take z.toNat)=cZ ds,λz=>z.toNat,⟨n,Ų,ω,ω,?_⟩,?_⟩);{simp [j]};rintro k o e ⟨f,m,d⟩;obtain ⟨k,rfl⟩:=ď f;dsimp only at m d ⊢;simp only [Ý] at d;refine ⟨rfl,λa=>?_,λa=>?_⟩;{have a:0<k:=by{simpa using a};have w:Ŵ.wrap ((k:Int)-1)=((k-1:Nat):Int):=ŵ;simp only [w];have g:ds.take k=ds.take (k-1)++[ds[k-1]]:=by{rw [<-Qz3 ω,Qm6 a]};refine (h.le e).rd (k-1) rfl ω ⟨λb=>?_,λb=>?_⟩;{have b:ds[k-1]=0:=by{simpa using b};(refine ⟨_,?_,Ų,?_,?_,?_⟩);{(try dsimp only);omega};{(try dsimp only);omega};{(try dsimp only);omega};(try dsimp only);rw [<-d,g,b,kJ];rfl};have b:ds[k-1]≠0:=by{simpa using b};refine ⟨ų,λV2 i=>⟨k,rfl,?_⟩⟩;rw [<-d,g,vF _ _ b,<-g];exact ((h.le e).le i).take ω};have a:k=0:=by{simpa using a};subst a;refine ⟨ų,λV2 i=>⟨0,rfl,?_⟩⟩;rw [<-d];exact ((h.le e).le i).take ω
def fg (u:Nat)(E:u<18446744073709551616:=by omega):À 148 #[Ô .u64 (u:Int)] V λr W=>∃q k z,r=yG q k z/\RN W q k z u:=by refine MR V _ ⟨ω,λe g f a=>?_⟩;rw [xz,k_,xF ω] at a;have a:e.bo f (.cells (aQ [u%4294967296,u/4294967296]).toArray 245 (0,0)):=by{simpa [aQ] using a};have b:cP [u%4294967296,u/4294967296]:=by{simp [cP];omega};refine (eG (RD.bo a b (n:=2) (c:=2) rfl (Ù _)) ψ).s ?_;rintro r V2 h ⟨k,rfl,d⟩;refine ⟨_,_,_,rfl,λ_ i j=>⟨_,_,_,rfl,?_⟩⟩;rw [bg b] at d;have:val [u%4294967296,u/4294967296]=u:=by{simp;omega};rw [this] at d;exact ra
def oo:À 86 #[] V λr W=>∃q k u,r=yG q k u/\RN W q k u 1:=by refine Pv V _ λb e c a=>⟨_,_,_,rfl,?_⟩;have d:ai 1=[1]:=Yk ω;unfold RN;rw [d];have a:b.bo c (.cells (aQ [1]).toArray 245 (0,0)):=by{simpa [aQ] using a};exact RD.bo a (by simp [cP]) rfl (Ù _)
def Ta (x:Int):Int:=if 0<x then 1 else if x<0 then -1 else 0
theorem NN (x:Int):À 150 #[Ô Ŵ x] V λr W=>r=Ô Ŵ (Ta x):=by refine MT V _ ⟨λh a b=>?_,λh=>⟨λc a b=>?_,λc a b=>?_⟩⟩;{grind [Ta]};{grind [Ta]};grind [Ta]
def jw {x y:Nat}(M:RN V p n c x)(N:RN V q m e y)(hm:(ai x).length<=2^40)(O:(ai y).length<=2^40:=by omega):À 85 #[yG p n c,yG q m e] V λr W=>r=Ô Ŵ (nE x y):=by have v:=M.len;have A:=N.len;refine Pq V _ ⟨λg D E=>?_,λg=>?_⟩;{have w:Ŵ.wrap ((n:Int)-m)=(n:Int)-m:=ay ω;simp only [w];refine (NN _).s λr V2 F rfl=>⟨_,rfl,λG H=>?_⟩;have g:n≠m:=by{simp at g;omega};congr 1;rcases ē n m with h|h;{have:=oI (a:=x) (b:=y);rw [nE,Ä this,Ta,Ã ω,Ä ω]};{have:=oI (a:=y) (b:=x);rw [nE,Ã ω,Ä this,Ta,Ä ω]}};have g:n=m:=by{simp at g;omega};subst g;have w:Ŵ.wrap ((n:Int)-1)=(n:Int)-1:=ay ω;simp only;(refine ⟨λz V'=>-1<=z/\z<n/\(ai x).drop (z+1).toNat=(ai y).drop (z+1).toNat,λz=>(z+1).toNat,⟨_,Ų,ω,ω,?_⟩,?_⟩);{(try dsimp only);rw [ľ ω,ľ ω]};rintro i I j ⟨k,o,s⟩;dsimp only at k o s ⊢;refine ⟨θ,λd=>?_,λd J K=>?_⟩;{have d:0<=i:=by{simpa using d};obtain ⟨i,rfl⟩:=ď d;have w:Ŵ.wrap ((i:Int)-1)=(i:Int)-1:=ay ω;simp only [w];have f:(ai x).drop (i+1)=(ai y).drop (i+1):=s;refine (M.le j).rd i rfl ω ((N.le j).rd i rfl ω ⟨λt B C=>?_,λt=>?_⟩);{have:=mV (aS y) ω ω f.symm (by simpa using t);rw [ag,ag] at this;rw [nE,Ã ω,Ä this]};refine (M.le j).rd i rfl ω ((N.le j).rd i rfl ω ⟨λu B C=>?_,λu=>?_⟩);{have:=mV (aS x) ω ω f (by simpa using u);rw [ag,ag] at this;rw [nE,Ä this]};(refine ⟨_,?_,Ų,?_,?_,?_⟩);{(try dsimp only);omega};{(try dsimp only);omega};{(try dsimp only);omega};(try dsimp only);have:((i:Int)-1+1).toNat=i:=ω;rw [this,ī ω,ī (l:=ai y) ω,f];congr 1;simp at t u;omega};have d:i=-1:=by{simp at d;omega};subst d;have:ai x=ai y:=by{simpa using s};have:=wz this;subst this;simp [nE]
def Vn (a b:Nat):ct (a:Int) (b:Int)=((max a b:Nat):Int):=by unfold ct;split<;>omega
theorem R0 {xs ys:zA Nat}(Z:RD V p n c xs)(hy:RD V q m e ys)(hm:xs.length<=2^40)(hn:ys.length<=2^40):À 152 #[yG p n c,yG q m e] V λr W=>∃p' n' c',r=yG p' n' c'/\RN W p' n' c' (val xs+val ys):=by
 have G:=Z.len;have N:=hy.len;have vc:=Py p n c q m e V;have w:Ŵ.wrap (((max n m:Nat):Int)+1)=((max n m+1:Nat):Int):=by rw [ay ω];omega
 simp only [Vn,w] at vc;obtain ⟨k,H⟩:∃k,k=max n m:=⟨_,rfl⟩;rw [<-H] at vc
 refine vc _ ⟨ω,ω,ω,λz V'=>0<=z.1/\z.1<=1/\0<=z.2.1/\z.2.1<=k/\∃es:zA Nat,z.2.2=aQ es/\es.length=k+1/\cP es /\
   val (es.take z.2.1.toNat)+4294967296^z.2.1.toNat*z.1.toNat=val (xs.take z.2.1.toNat)+val (ys.take z.2.1.toNat),λz=>k-z.2.1.toNat,⟨(0,0,aQ (List.replicate (k+1) 0)),by and_intros<;>first|exact True.intro|rfl|exact dZ _,by (try dsimp only);omega,by (try dsimp only);omega,by (try dsimp only);omega,by (try dsimp only);omega,_,rfl,ψ,cP.rep _,ψ⟩,?_⟩
 rintro ⟨b,i,O⟩ V2 D ⟨f,o,g,s,es,rfl,t,h,l⟩;dsimp only at f o g s l ⊢;obtain ⟨i,rfl⟩:=ď g;obtain ⟨b,rfl⟩:=ď f;simp only [Ý] at l;refine ⟨θ,λd=>?_,λd=>?_⟩
 ·have d:i<k:=by{simpa using d};refine ⟨λz V'=>∃x:Nat,z=x/\x<4294967296/\val (xs.take (i+1))=val (xs.take i)+4294967296^i*x,⟨λa=>?_,λa=>?_⟩,?_⟩;{have a:i<n:=by{simpa using a};refine (Z.le D).rd i rfl ω ?_;(exact ⟨_,Ų,xs[i],rfl,Z.gi.get ω,aG _ _⟩)};{have a:n<=i:=by{simpa using a};(exact ⟨_,Ų,0,rfl,ω,by rw [ax,ax];simp⟩)};rintro _ I E ⟨x,rfl,u,v⟩;refine ⟨θ,λz V'=>∃y:Nat,z=y/\y<4294967296/\val (ys.take (i+1))=val (ys.take i)+4294967296^i*y,⟨λa=>?_,λa=>?_⟩,?_⟩;{have a:i<m:=by{simpa using a};refine ((hy.le D).le E).rd i rfl ω ?_;(exact ⟨_,Ų,ys[i],rfl,hy.gi.get ω,aG _ _⟩)};{have a:m<=i:=by{simpa using a};(exact ⟨_,Ų,0,rfl,ω,by rw [ax,ax];simp⟩)};rintro _ J K ⟨y,rfl,A,B⟩;refine ⟨θ,λL M=>(XZ x y b u A).s ?_⟩;rintro r P Q rfl;have w:Ŵ.wrap ((i:Int)+1)=((i+1:Nat):Int):=ŵ;simp only [w];(refine ⟨_,_,rfl,ų,by simp;omega,(((x+y+b)/4294967296:Nat),((i+1:Nat):Int),aQ (es.set i ((x+y+b)%4294967296))),?_,by and_intros<;>first|exact True.intro|rfl|(rw [<-bV];simp),?_⟩);{(try dsimp only);omega};(try dsimp only);refine ⟨ω,ω,ω,ω,_,rfl,by simpa using t,h.set _ _ ω,?_⟩;simp only [Ý];rw [aX _ _ _,Ĩ,v,B];exact BJ l
 ·have d:i=k:=by{simp at d;omega};subst d;refine ⟨ų,by simp;omega,λI E R C=>?_⟩;have F:(aQ es).set (0+((i:Int).toNat)*1) (Ô .u32 (b:Int))=aQ (es.set i b):=by{rw [<-bV];simp};simp only [Ý] at F;(try simp only [Ý] at C);rw [F] at C;have j:=h.set i b ω;refine (eG (RD.bo C j (n:=i+1) (c:=i+1) (by simp;omega) (Ù _)) (by simp;omega)).s ?_;rintro r J K ⟨k,rfl,a⟩;refine ⟨_,_,_,rfl,λ_ L M=>⟨_,_,_,rfl,?_⟩⟩;rw [bg j] at a;have S:val (es.set i b)=val xs+val ys:=by{have:=aX es i b;rw [ax (by simp;omega)] at this;rw [this,l,ax,ax]};grind [a.le]
def O6 {E A B W d b:Nat}(h:E+B=A+W*c)(u:d+(y+c)=x+4294967296*b):E+W*d+(B+W*y)=A+W*x+W*4294967296*b:=by have:=Æ (W*·) u;simp only [İ,<-ņ] at this;omega
theorem uU {xs ys:zA Nat}(Z:RD V p n c xs)(hy:RD V q m e ys)(hm:xs.length<=2^40)(hl:ys.length<=xs.length)(hle:val ys<=val xs):À 153 #[yG p n c,yG q m e] V λr W=>∃p' n' c',r=yG p' n' c'/\RN W p' n' c' (val xs-val ys):=by
 have F:=Z.len;have M:=hy.len
 refine MK V _ ⟨ω,ω,ω,λz V'=>0<=z.1/\z.1<=1/\0<=z.2.1/\z.2.1<=n/\∃es:zA Nat,z.2.2=aQ es/\es.length=n/\cP es /\
   val (es.take z.2.1.toNat)+val (ys.take z.2.1.toNat)=val (xs.take z.2.1.toNat)+4294967296^z.2.1.toNat*z.1.toNat,λz=>n-z.2.1.toNat,
   ⟨(0,0,List.replicate n (Ô .u32 0)),Ų,by (try dsimp only);omega,by (try dsimp only);omega,by (try dsimp only);omega,by (try dsimp only);omega,List.replicate n 0,dZ n,ψ,cP.rep _,ψ⟩,?_⟩
 rintro ⟨l,i,N⟩ V2 C ⟨o,u,s,v,es,rfl,g,a,t⟩;dsimp only at o u s v t ⊢;obtain ⟨i,rfl⟩:=ď s;obtain ⟨l,rfl⟩:=ď o;simp only [Ý] at t;refine ⟨θ,λj=>?_,λj=>?_⟩
 ·have j:i<n:=by{simpa using j};refine ⟨λz V'=>∃y:Nat,z=y/\y<4294967296/\val (ys.take (i+1))=val (ys.take i)+4294967296^i*y,⟨λf=>?_,λf=>?_⟩,?_⟩;{have f:i<m:=by{simpa using f};refine (hy.le C).rd i rfl ω ?_;(exact ⟨_,Ų,ys[i],rfl,hy.gi.get ω,aG _ _⟩)};{have f:m<=i:=by{simpa using f};(exact ⟨_,Ų,0,rfl,ω,by rw [ax,ax];simp⟩)};rintro _ G D ⟨y,rfl,x,A⟩;refine ⟨θ,?_⟩;refine ((Z.le C).le D).rd i rfl ω λH I=>(X6 _ y l (Z.gi.get ω) x).s ?_;rintro r J K ⟨d,b,rfl,O,E,B⟩;have w:Ŵ.wrap ((i:Int)+1)=((i+1:Nat):Int):=ŵ;simp only [w];(refine ⟨_,_,rfl,ų,by simp;omega,((b:Int),((i+1:Nat):Int),aQ (es.set i d)),?_,by and_intros<;>first|exact True.intro|rfl|(rw [<-bV];simp),?_⟩);{(try dsimp only);omega};(try dsimp only);refine ⟨ω,ω,ω,ω,_,rfl,by simpa using g,a.set _ _ ω,?_⟩;simp only [Ý];rw [aX _ _ _,Ĩ,aG xs i,A];exact O6 t B
 ·have j:i=n:=by{simp at j;omega};subst j;simp only [Ý];intro G D P E;refine (eG (RD.bo E a (n:=i) (c:=i) g.symm (Ù _))).s ?_;rintro r H I ⟨k,rfl,f⟩;refine ⟨_,_,_,rfl,λ_ J K=>⟨_,_,_,rfl,?_⟩⟩;rw [bg a] at f;rw [ax,ax,ax] at t;have L:=je a;rw [g] at L;have Q:l=0:=by{rcases ĺ l with h|h;{exact h};{have:4294967296^i*1<=4294967296^i*l:=Ň _ h;omega}};grind [f.le]
end
end Go.Proofs.Tryz
