import Derived.Test.YtapnijmlbakblaaGreatDoorZJ14
import Derived.Test.YtapnijmlbakblaaGreatDoorZJ8
import Derived.Test.YtapnijmlbakblaaGreatDoorZJ13
import Derived.Test.YtapnijmlbakblaaGreatDoorZJ9
set_option linter.unusedVariables false
open Go.IntKind (i64 u64 u32)
namespace Go.Proofs.Tryz
open Go.Eng Go.Big
theorem IE {a b c:Int}:An (decide (a<0)) (ai a.natAbs) (decide (b<0)) (ai b.natAbs) (decide (c<0)) (ai c.natAbs)=vm (a,b,c):=by
 have d:∀z:Int,lq (decide (z<0)) (ai z.natAbs)=true:=by
  intro z;unfold lq;rw [af];simp only [decide_true,Bool.true_and];by_cases h:z<0
  ·simp only [h,decide_true,Bool.not_true,Bool.false_or,decide_eq_true_eq];intro e;have:=bz.1 e;omega
  ·simp [h]
 have j:cT (cT (a:Rat) (b:Rat)) (c:Rat)=((bF a b c:Nat):Int):=by
  have g:∀x y:Int,cT (x:Rat) (y:Rat)=((Nat.gcd x.natAbs y.natAbs:Nat):Int):=by
   intro x y;unfold cT;have k:((x:Rat)).num=x:=rfl;have l:((y:Rat)).num=y:=rfl;have m:((x:Rat)).den=1:=rfl;have n:((y:Rat)).den=1:=rfl;rw [k,l,m,n];simp only [Qk8];exact Qf7 _
  rw [g,g];rfl
 unfold An vm;rw [d,d,d,aO,aO,aO,j];have o:∀z:Int,((z:Rat)=0)↔z=0:=fun z=>by exact Rat.intCast_eq_zero_iff
 simp only [Bool.true_and,o];rw [Qz3];simp only [Qx5,Qy7,Bool.and_eq_false_iff,decide_eq_false_iff_not,decide_eq_true_eq]
 have p:(((bF a b c:Nat):Int):Rat)=((1:Int):Rat)↔bF a b c=1:=by
  rw [Wq2];omega
 rw [p];constructor
 ·rintro ⟨h,f⟩;exact ⟨fun e=>by rcases h with h|h;exact h e.1;exact h e.2,f⟩
 ·rintro ⟨h,f⟩;refine ⟨?_,f⟩;by_cases i:a=0
  ·exact .inr fun q=>h ⟨i,q⟩
  ·exact .inl i
theorem qP {z:Int}{k:Nat}(h:z.natAbs<2^k)(hk:0<k:=by omega):Sz k (z:Rat):=⟨h,Qf6 (by omega)⟩
theorem Bd.sz {x:L3}(h:Bd x):Sz 1000 (x.1:Rat)/\Sz 1000 (x.2.1:Rat)/\Sz 1000 (x.2.2:Rat):=⟨qP h.1,qP h.2.1,qP h.2.2⟩
theorem K3 (x y u w:Int):mh (x:Rat) (y:Rat) ((x:Rat)+((1:Int):Rat)*(u:Rat)) ((y:Rat)+((1:Int):Rat)*(w:Rat))=(((-w:Int):Rat),((u:Int):Rat),((w*x-u*y:Int):Rat)):=by
 have a:(x:Rat)+((1:Int):Rat)*(u:Rat)=((x+u:Int):Rat):=by rw [←Qm2,←Qg9,Qs7]
 have b:(y:Rat)+((1:Int):Rat)*(w:Rat)=((y+w:Int):Rat):=by rw [←Qm2,←Qg9,Qs7]
 rw [a,b];have c:-(((y+w:Int):Rat)-(y:Rat))=((-w:Int):Rat):=by rw [←Wy6,←Wy7];congr 1;omega
 have d:((x+u:Int):Rat)-(x:Rat)=((u:Int):Rat):=by rw [←Wy6];congr 1;omega
 have e:-(((-w:Int):Rat)*(x:Rat)+((u:Int):Rat)*(y:Rat))=((w*x-u*y:Int):Rat):=by
  rw [←Qm2,←Qm2,←Qg9,←Wy7];congr 1;rw [Qt9];omega
 have f:(((((-w:Int):Rat).den*((u:Int):Rat).den*((w*x-u*y:Int):Rat).den:Nat):Int):Rat)=1:=rfl;unfold mh;dsimp only;rw [c,d,e,f,Wz4,Wz4,Wz4]
def u_ (a b c:Int):L3:=(a / (bF a b c:Int),b / (bF a b c:Int),c / (bF a b c:Int))
def small (z:Int)(k:Nat):Bool:=decide (z.natAbs<=k)
theorem Ig:∀i:Fin 9,∀j:Fin 9,∀k:Fin 65,(i.1=4/\j.1=4)\/(vm (u_ ((i.1:Int)-4) ((j.1:Int)-4) ((k.1:Int)-32))&&small (u_ ((i.1:Int)-4) ((j.1:Int)-4) ((k.1:Int)-32)).1 32&&small (u_ ((i.1:Int)-4) ((j.1:Int)-4) ((k.1:Int)-32)).2.1 32&&small (u_ ((i.1:Int)-4) ((j.1:Int)-4) ((k.1:Int)-32)).2.2 32)=true:=by decide +kernel
theorem Me (k:Nat)(hk:6<=k){z:Int}(h:z.natAbs<=32):z.natAbs<2^k:=Qn2 h (Qx7 (by decide:32<2^6) (Qx3 (by decide) hk))
theorem N9 (k:Nat)(hk:6<=k){x:L3}(h1:x.1.natAbs<=32)(h2:x.2.1.natAbs<=32)(h3:x.2.2.natAbs<=32):x.1.natAbs<2^k/\x.2.1.natAbs<2^k/\x.2.2.natAbs<2^k:=⟨Me k hk h1,Me k hk h2,Me k hk h3⟩
theorem Kr {a b c:Int}(h1:-4<=a/\a<=4)(h2:-4<=b/\b<=4)(h3:-32<=c/\c<=32)(h:¬(a=0/\b=0):=by omega):vm (u_ a b c)=true/\Bd (u_ a b c):=by
 have:=Ig ⟨(a+4).toNat,by omega⟩ ⟨(b+4).toNat,by omega⟩ ⟨(c+32).toNat,by omega⟩;dsimp only at this;rw [show (((a+4).toNat:Nat):Int)-4=a from by omega,show (((b+4).toNat:Nat):Int)-4=b from by omega,show (((c+32).toNat:Nat):Int)-32=c from by omega] at this;rcases this with d|d
 ·omega
 ·simp only [Qx5,small,decide_eq_true_eq] at d;exact ⟨d.1.1.1,N9 1000 (by decide) d.1.1.2 d.1.2 d.2⟩
theorem Io {x y:Int}(h1:-4<=x/\x<=4)(h2:-4<=y/\y<=4):-16<=x*y/\x*y<=16:=by
 have:(x*y).natAbs<=4*4:=by rw [Qm1];exact Qm7 (by omega) (by omega)
 omega
theorem num_mul {r:Rat}{f:Nat}{a:Int}(hf:f≠0)(h:r*((f:Nat):Int)=(a:Rat)):r.num*f=a*r.den:=by
 have b:=r.den_nz;rw [←Qp5 r,←Qf7 f,←Qf7 a,Wq3,Wx6 (by simpa using b) (by omega)] at h;simpa using h
theorem uM {r s:Rat}{f:Nat}{a b:Int}(hf:f≠0)(hr:r*((f:Nat):Int)=(a:Rat))(hs:s*((f:Nat):Int)=(b:Rat)):cT r s*((f:Nat):Int)=(((Nat.gcd a.natAbs b.natAbs:Nat):Int):Rat):=by
 have c:=num_mul hf hr;have d:=num_mul hf hs;have d1:=r.den_nz;have d2:=s.den_nz;have e:r.num.natAbs*f=a.natAbs*r.den:=by have:=congrArg Int.natAbs c;rwa [Qm1,Qm1,Qx4,Qx4] at this
 have g:s.num.natAbs*f=b.natAbs*s.den:=by have:=congrArg Int.natAbs d;rwa [Qm1,Qm1,Qx4,Qx4] at this
 have h:Nat.gcd (r.num.natAbs*s.den) (s.num.natAbs*r.den)*f=Nat.gcd a.natAbs b.natAbs*(r.den*s.den):=by
  rw [←Nat.gcd_mul_right,←Nat.gcd_mul_right];congr 1
  ·rw [Nat.mul_right_comm,e,Qk3]
  ·rw [Nat.mul_right_comm,g,Qk3,Qn7 s.den]
 unfold cT;rw [←Qf7 ((f:Nat):Int),Wq3,←Qf7 (((Nat.gcd a.natAbs b.natAbs:Nat):Int)),Wx6 (by simpa using Qv4 d1 d2) (by omega)];simp only [Qk8];have:=congrArg (Nat.cast (R:=Int)) h;simpa using this
theorem lS (q:Rat)(m:Nat):q*(((q.den*m:Nat):Int):Rat)=((q.num*m:Int):Rat):=by
 have e:q*(((q.den:Nat):Int):Rat)=((q.num:Int):Rat):=by
  have h:=q.den_nz
  have a:mkRat q.num q.den*mkRat ((q.den:Nat):Int) 1=mkRat q.num 1:=by
   rw [Wq3,Wx6 (by simpa using h) (by omega)];simp
  rwa [Qp5,Qf7,Qf7] at a
 rw [Qn5,Qm2,←Rat.mul_assoc,e,←Qm2]
theorem Ai {a:Int}{g:Nat}(hg:g≠0)(h:(g:Int)∣a):((a / (g:Int):Int):Rat)=(a:Rat) / ((g:Int):Rat):=by
 obtain ⟨k,rfl⟩:=h;have b:((g:Int):Rat)≠0:=by exact_mod_cast hg
 rw [Qg8 _ (by omega),Qm2,Rat.div_def,Rat.mul_comm ((g:Int):Rat),Rat.mul_assoc,Qr7 _ b,Wz4]
def qL (a b c:Rat):L3:=
 let f:Nat:=a.den*b.den*c.den
 u_ (a*((f:Int):Rat)).num (b*((f:Int):Rat)).num (c*((f:Int):Rat)).num
theorem ke {a b c:Rat}(h:¬(a=0/\b=0)):let g:=cT (cT a b) c
  g≠0/\a*g⁻¹=((qL a b c).1:Rat)/\b*g⁻¹=((qL a b c).2.1:Rat)/\c*g⁻¹=((qL a b c).2.2:Rat):=by
 intro g;have i:a.den*b.den*c.den≠0:=Qv4 (Qv4 a.den_nz b.den_nz) c.den_nz;have j:a*(((a.den*b.den*c.den:Nat):Int):Rat)=((a.num*(b.den*c.den:Nat):Int):Rat):=by rw [Qk3,lS]
 have k:b*(((a.den*b.den*c.den:Nat):Int):Rat)=((b.num*(a.den*c.den:Nat):Int):Rat):=by rw [Qn7 a.den,Qk3,lS]
 have l:c*(((a.den*b.den*c.den:Nat):Int):Rat)=((c.num*(a.den*b.den:Nat):Int):Rat):=by rw [Qn7 (a.den*b.den),lS]
 have hm:qL a b c=u_ (a.num*(b.den*c.den:Nat)) (b.num*(a.den*c.den:Nat)) (c.num*(a.den*b.den:Nat)):=by
  unfold qL;dsimp only;rw [j,k,l,Qr8,Qr8,Qr8]
 have o:=uM i j k;have d:=uM i o l;rw [hm]
 have p:a.num*(b.den*c.den:Nat)=0↔a=0:=by
  rw [Wq4,Qc2];have:=Qv4 b.den_nz c.den_nz;constructor
  ·rintro (h|h)
   ·exact h
   ·omega
  ·exact .inl
 have q:b.num*(a.den*c.den:Nat)=0↔b=0:=by
  rw [Wq4,Qc2];have:=Qv4 a.den_nz c.den_nz;constructor
  ·rintro (h|h)
   ·exact h
   ·omega
  ·exact .inl
 generalize a.num*(b.den*c.den:Nat)=A at *;generalize b.num*(a.den*c.den:Nat)=B at *;generalize c.num*(a.den*b.den:Nat)=C at *;generalize a.den*b.den*c.den=f at *;have r:Nat.gcd (((Nat.gcd A.natAbs B.natAbs:Nat):Int)).natAbs C.natAbs=bF A B C:=by unfold bF;rw [Qx4]
 rw [r] at d;change g*((f:Int):Rat)=_ at d
 have n:bF A B C≠0:=by
  intro e;have:=Qh3.1 e;have:=Qh3.1 this.1;exact h ⟨p.1 (by omega),q.1 (by omega)⟩
 have s:((f:Int):Rat)≠0:=by exact_mod_cast i
 have m:((bF A B C:Int):Rat)≠0:=by exact_mod_cast n
 have t:g≠0:=by intro e;rw [e,Rat.zero_mul] at d;exact m d.symm
 have u:((bF A B C:Nat):Int)∣A:=Qp0.1 (by rw [Qx4];exact Qr6 (Qj6 _ _) (Qj6 _ _));have v:((bF A B C:Nat):Int)∣B:=Qp0.1 (by rw [Qx4];exact Qr6 (Qj6 _ _) (Qb4 _ _));have dC:((bF A B C:Nat):Int)∣C:=Qp0.1 (by rw [Qx4];exact Qb4 _ _)
 have key:∀{x:Rat} {X:Int},x*((f:Int):Rat)=(X:Rat)->((bF A B C:Nat):Int)∣X->x*g⁻¹=((X / (bF A B C:Int):Int):Rat):=by
  intro x X w y;rw [Ai n y,←w,←d];grind
 exact ⟨t,key j u,key k v,key l dC⟩
theorem Kt {a b c:Rat}(h:¬(a=0/\b=0)):¬((qL a b c).1=0/\(qL a b c).2.1=0):=by
 obtain ⟨j,d,f,-⟩:=ke (c:=c) h;rintro ⟨k,l⟩;rw [k] at d;rw [l] at f
 have g:(cT (cT a b) c)⁻¹≠0:=fun e=>by
  have i:=Qr7 _ j;rw [e,Rat.mul_zero] at i;exact absurd i (by decide)
 apply h;constructor
 ·rcases Qp1.1 (by simpa using d) with e|e
  ·exact e
  ·exact absurd e g
 ·rcases Qp1.1 (by simpa using f) with e|e
  ·exact e
  ·exact absurd e g
theorem FN {V:View}{v:Value}{a b c:Int}(h:RL V v a b c):∃(b1:Bool)(p1:OA)(n1 c1:Nat)(b2:Bool)(p2:OA)(n2 c2:Nat)(b3:Bool)(p3:OA)(n3 c3:Nat),v=.agg #[.bool b1,.slice p1 n1 c1,.bool b2,.slice p2 n2 c2,.bool b3,.slice p3 n3 c3]:=by
 obtain ⟨p,n,s,d,f,g,q,m,e,rfl,-⟩:=h;exact ⟨_,_,_,_,_,_,_,_,_,_,_,_,rfl⟩
def ES (V:View)(p:OA)(n:Nat):Prop:=∀i,i<n->∃(a:Addr)(x:Int),ah p (i*1)=some a/\V.at a (.int .i64 x)
theorem ES.le {V V':View}{p:OA}{n:Nat}(h:ES V p n)(l:V.Le V'):ES V' p n:=fun i b=>by
 obtain ⟨a,x,e,c⟩:=h i b;exact ⟨a,x,e,l.at c⟩
def jR (V:View)(tb:Nat)(p:OA)(n c:Nat)(at_:Int):Prop:=V.w.heap[tb]?=some (.cells #[.slice p n c,.int .i64 at_] 88 (0,0))
theorem jy {V:View}{tb:Nat}{p:OA}{n c:Nat}{at_:Int}(k:Int)(hr:ES V p n)(hn:n<=400)(hw:jR V tb p n c at_)(hx:V.X tb)(h0:0<=at_)(hk:0<k)(hk2:k<=1000:=by omega) :
  aa prog 10 #[.pointer (some ⟨tb,0,none⟩),.int .i64 k] V fun r V'=>∃x at',r=.int .i64 x/\0<=x/\x<k/\0<=at'/\jR V' tb p n c at':=by
 refine ow tb p n c at_ k V _ hw hx ⟨fun g m o e=>⟨0,at_,rfl,by omega,hk,h0,e⟩,fun g=>?_⟩;have g:at_<n:=by have:=of_decide_eq_false g;omega
 obtain ⟨i,rfl⟩:∃i:Nat,at_=i:=⟨at_.toNat,by omega⟩;obtain ⟨a,x,d,f⟩:=hr i (by omega)
 have h:p.isSome=true:=by
  cases p with
  | none=>simp [ah] at d
  | some a=>rfl
 have q:(x.tmod k).natAbs<k.natAbs:=by rw [Int.natAbs_tmod];exact Qb2 _ (by omega)
 have j:i64.wrap ((i:Int)+1)=((i+1:Nat):Int):=by rw [ar (by omega)];omega
 rw [Qq0,j];have l:i64.wrap (x.tmod k+k)=x.tmod k+k:=ar (by omega);refine ⟨h,⟨by omega,by omega⟩,x,⟨a,d,f⟩,by omega,fun b s t e=>⟨x.tmod k+k,_,by rw [l],?_,?_,?_,e⟩,fun b u v e=>⟨_,_,rfl,?_,?_,?_,e⟩⟩
 ·omega
 ·have:=of_decide_eq_true b;omega
 ·omega
 ·have:=of_decide_eq_false b;omega
 ·omega
 ·omega
theorem Re {V:View}{tb:Nat}{p:OA}{n c:Nat}{at_:Int}(hr:ES V p n)(hn:n<=400)(hw:jR V tb p n c at_)(hx:V.X tb)(h0:0<=at_) :
  aa prog 16 #[.pointer (some ⟨tb,0,none⟩)] V fun r V'=>∃(x y at':Int),RP V' r (x:Rat) (y:Rat)/\(-4<=x/\x<=4)/\(-4<=y/\y<=4)/\0<=at'/\jR V' tb p n c at':=by
 refine tv tb p n c at_ V _ hw hx fun k i a l m=>(jy (V:=k.ay [a]) 9 (hr.le fun b o h=>i b o h) hn l ⟨by simp,m⟩ h0 (by omega)).mono ?_;rintro r B q ⟨x,C,rfl,D,E,t1,d⟩;refine ⟨_,rfl,_,_,_,_,d,fun s t u v w=>(jy (V:=s.ay [u]) 9 (hr.le fun b o h=>t b o (q b o (i b o h))) hn v ⟨by simp,w⟩ t1 (by omega)).mono ?_⟩;rintro r F G ⟨y,e,rfl,H,I,t2,f⟩;refine ⟨_,rfl,_,_,_,_,f,fun J K=>?_⟩;rw [ar (x:=x-4) (by omega),ar (x:=y-4) (by omega)];refine (uj (x-4) (y-4) (by omega) (by omega) (by omega)).mono ?_;rintro r L M j;have g:=j;obtain ⟨N,O,P,Q,R,S,T,U,W,Y,Z,c4,rfl,-⟩:=j;exact ⟨_,_,_,_,_,_,_,_,_,_,_,_,_,_,rfl,fun V7 z A=>⟨x-4,y-4,e,g.le z,⟨by omega,by omega⟩,⟨by omega,by omega⟩,t2,A⟩⟩
theorem RQ.zero {V:View}:RQ V (.agg #[.bool false,.slice none 0 0,.slice none 0 0]) ((0:Int):Rat):=⟨none,0,0,none,0,0,rfl,RD.nil,RD.nil⟩
theorem RP.zero {V:View}:RP V (.agg #[.bool false,.slice none 0 0,.slice none 0 0,.bool false,.slice none 0 0,.slice none 0 0]) ((0:Int):Rat) ((0:Int):Rat):=
 ⟨none,0,0,none,0,0,none,0,0,none,0,0,rfl,RQ.zero,RQ.zero⟩
theorem sM {z:Int}(h:-40<=z/\z<=40:=by omega):Sz 10 (z:Rat):=qP (by omega)
theorem Uq {V:View}{tb:Nat}{p:OA}{n c:Nat}{at_:Int}(hr:ES V p n)(hn:n<=400)(hw:jR V tb p n c at_)(hx:V.X tb)(h0:0<=at_) :
  aa prog 36 #[.pointer (some ⟨tb,0,none⟩)] V fun r V'=>∃(x y at':Int),RP V' r (x:Rat) (y:Rat)/\(-4<=x/\x<=4)/\(-4<=y/\y<=4)/\¬(x=0/\y=0)/\0<=at'/\jR V' tb p n c at':=by
 refine tA tb p n c at_ V _ hw hx fun s t d u v=>(Re (V:=s.ay [d]) (hr.le fun b o h=>t b o h) hn u ⟨by simp,v⟩ h0).mono ?_;rintro r P Q ⟨x,y,k,l,e,f,t1,i⟩;have a:=l;obtain ⟨w,z,A,B,C,D,E,F,G,H,I,J,rfl,-⟩:=l;refine ⟨_,_,_,_,_,_,_,_,_,_,_,_,_,_,rfl,_,_,_,_,i,fun R m=>(zR (a.le fun b o h=>m b o h) RP.zero (sM) (sM) (sM) (sM)).mono ?_⟩;rintro r S K rfl;refine ⟨_,rfl,fun g T U=>(uj 1 0 (by omega) (by omega) (by omega)).mono ?_,fun g W L M=>⟨x,y,k,a.le fun b o h=>L b o (K b o (m b o h)),e,f,?_,t1,M⟩⟩
 ·rintro r Y Z q;have j:=q;obtain ⟨w,z,A,B,C,D,E,F,G,H,I,J,rfl,-⟩:=q;exact ⟨_,_,_,_,_,_,_,_,_,_,_,_,_,_,rfl,fun V7 N O=>⟨1,0,k,j.le N,⟨by omega,by omega⟩,⟨by omega,by omega⟩,by omega,t1,O⟩⟩
 ·rintro ⟨rfl,rfl⟩;simp at g
theorem Wx {V:View}{tb:Nat}{p:OA}{n c:Nat}{at_:Int}(hr:ES V p n)(hn:n<=400)(hw:jR V tb p n c at_)(hx:V.X tb)(h0:0<=at_) :
  aa prog 9 #[.pointer (some ⟨tb,0,none⟩)] V fun r V'=>∃(x:L3)(at':Int),RL V' r x.1 x.2.1 x.2.2/\vm x=true/\Bd x/\0<=at'/\jR V' tb p n c at':=by
 refine tu tb p n c at_ V _ hw hx fun T F e U W=>(Re (V:=T.ay [e]) (hr.le fun b o h=>F b o h) hn U ⟨by simp,W⟩ h0).mono ?_;rintro r Y Z ⟨x,y,G4,G,f,g,t1,i⟩;have d:=G;obtain ⟨p1,H,c1,p2,I,c2,p3,J,c3,p4,n4,c4,rfl,-⟩:=G;refine ⟨_,_,_,_,_,_,_,_,_,_,_,_,_,_,rfl,_,_,_,_,i,fun V3 K=>(fl 1 (by omega)).mono ?_⟩;rintro r V4 L M;have j:=M;obtain ⟨p5,n5,c5,p6,n6,c6,rfl⟩:=M.shape;refine ⟨_,_,_,_,_,_,_,rfl,fun V5 q Q5 e5 h5=>(Uq (V:=V5.ay [Q5]) (hr.le fun b o h=>q b o (L b o (K b o (Z b o (F b o h))))) hn e5 ⟨by simp,h5⟩ t1).mono ?_⟩;rintro r V6 N ⟨u,w,s,O,t,O1,a0,t2,v⟩;have z:=O;obtain ⟨q1,m1,d1,q2,m2,d2,q3,m3,d3,q4,m4,d4,rfl,-⟩:=O;refine ⟨_,_,_,_,_,_,_,_,_,_,_,_,_,_,rfl,_,_,_,_,v,fun A B=>?_⟩;have P:Y.Le A:=fun b o h=>B b o (N b o (q b o (L b o (K b o h))));have Xz:V4.Le A:=fun b o h=>B b o (N b o (q b o h));have XB:V6.Le A:=fun b o h=>B b o h;refine (lE (d.le P) (j.le Xz) (z.le XB) (k:=10) (m:=10) (sM) (sM) (sM) (sM) (sM)).mono ?_;rintro r V8 l8 Q;have C:=Q;obtain ⟨s1,i1,j1,s2,i2,j2,s3,i3,j3,s4,i4,j4,rfl,-⟩:=Q;have f1:(x:Rat)+((1:Int):Rat)*(u:Rat)=((x+u:Int):Rat):=by rw [←Qm2,←Qg9,Qs7]
 have f2:(y:Rat)+((1:Int):Rat)*(w:Rat)=((y+w:Int):Rat):=by rw [←Qm2,←Qg9,Qs7]
 refine ⟨_,_,_,_,_,_,_,_,_,_,_,_,_,_,rfl,fun V9 R=>(lf (d.le (P.trans (l8.trans R))) (C.le R) (k:=10) (sM) (sM) (by rw [f1];exact sM) (by rw [f2];exact sM) (by omega)).mono ?_⟩;rintro r fK a1 ⟨-,h⟩;rw [K3] at h;have H:((-w:Int):Rat).num=-w:=rfl;have I:((u:Int):Rat).num=u:=rfl;have J:((w*x-u*y:Int):Rat).num=w*x-u*y:=rfl;dsimp only at h;rw [H,I,J] at h;obtain ⟨l,rfl,S⟩:=h (by omega);have m1:=Io O1 f;have m2:=Io t g;obtain ⟨k1,k2⟩:=Kr (a:=-w) (b:=u) (c:=w*x-u*y) (by omega) (by omega) (by omega);have D:=S;obtain ⟨b1,u1,v1,w1,b2,u2,v2,w2,b3,u3,v3,w3,rfl⟩:=(FN S);exact ⟨_,_,_,_,_,_,_,_,_,_,_,_,_,rfl,fun eO bA E=>⟨u_ (-w) u (w*x-u*y),s,D.le bA,k1,k2,t2,E⟩⟩
theorem nG {V:View}(n:Int)(d:Nat)(h0:-1000<=n)(h1:n<=1000)(hd0:d≠0)(hd:d<=1000:=by omega) :
  aa prog 50 #[.int .i64 n,.int .i64 (d:Int)] V fun r V'=>RQ V' r (mkRat n d):=by
 refine C_ n d V _ fun l o=>(yE n (by omega)).mono ?_;rintro r q s ⟨p,m,c,rfl,g⟩;rw [aM (by omega)];refine ⟨_,_,_,_,rfl,fun t b=>(cP d).mono ?_⟩;rintro r u e ⟨v,w,x,rfl,f⟩;refine ⟨_,_,_,rfl,fun y a=>(kF n (g.le (b.trans (e.trans a))) (f.le a) (Qx6 (ag (k:=10)) (by omega)) (Qx6 (ag (k:=10)) (by omega)) hd0).mono ?_⟩;rintro r z A h;have i:=h;obtain ⟨_,_,_,_,_,_,rfl⟩:=h.shape;exact ⟨_,_,_,_,_,_,_,rfl,fun B j=>i.le j⟩
theorem KY:∀x:Fin 9,Sz 10 (mkRat (2*((x.1:Int)-4)+1) 2)/\Sz 10 (mkRat (3*((x.1:Int)-4)+1) 3):=by unfold Sz;decide +kernel
theorem Wy {V:View}{tb:Nat}{p:OA}{n c:Nat}{at_:Int}(hr:ES V p n)(hn:n<=400)(hw:jR V tb p n c at_)(hx:V.X tb)(h0:0<=at_) :
  aa prog 18 #[.pointer (some ⟨tb,0,none⟩)] V fun r V'=>∃(q:Rat)(at':Int),RQ V' r q/\Sz 10 q/\0<=at'/\jR V' tb p n c at':=by
 refine tw tb p n c at_ V _ hw hx fun w l g z A=>(jy (V:=w.ay [g]) 9 (hr.le fun b o h=>l b o h) hn z ⟨by simp,A⟩ h0 (by omega)).mono ?_;rintro r K B ⟨x,L,rfl,M,N,t1,j⟩;refine ⟨_,rfl,_,_,_,_,j,fun C D E F G=>(jy (V:=C.ay [E]) 6 (hr.le fun b o h=>D b o (B b o (l b o h))) hn F ⟨by simp,G⟩ t1 (by omega)).mono ?_⟩;rintro r O P ⟨y,a,rfl,Q,R,t2,k⟩;obtain ⟨i,rfl⟩:∃i:Nat,x=i:=⟨x.toNat,by omega⟩;obtain ⟨m,s⟩:=KY ⟨i,by omega⟩;dsimp only at m s;have H:i64.wrap ((i:Int)-4)=(i:Int)-4:=ar (by omega);have I:i64.wrap (i64.wrap (2*((i:Int)-4))+1)=2*((i:Int)-4)+1:=by rw [ar (x:=2*((i:Int)-4)) (by omega),ar (by omega)]
 have J:i64.wrap (i64.wrap (3*((i:Int)-4))+1)=3*((i:Int)-4)+1:=by rw [ar (x:=3*((i:Int)-4)) (by omega),ar (by omega)]
 rw [H,I,J];refine ⟨_,rfl,_,_,_,_,k,fun _ S T=>(nG (2*((i:Int)-4)+1) 2 (by omega) (by omega) (by omega)).mono ?_,fun _=>⟨fun _ U W=>(nG (3*((i:Int)-4)+1) 3 (by omega) (by omega) (by omega)).mono ?_,fun _ Y Z=>(fl ((i:Int)-4) (by omega)).mono ?_⟩⟩
 ·rintro r t u h;have d:=h;obtain ⟨_,_,_,_,_,_,rfl⟩:=h.shape;exact ⟨_,_,_,_,_,_,_,rfl,fun v e f=>⟨_,a,d.le e,m,t2,f⟩⟩
 ·rintro r t u h;have d:=h;obtain ⟨_,_,_,_,_,_,rfl⟩:=h.shape;exact ⟨_,_,_,_,_,_,_,rfl,fun v e f=>⟨_,a,d.le e,s,t2,f⟩⟩
 ·rintro r t u h;have d:=h;obtain ⟨_,_,_,_,_,_,rfl⟩:=h.shape;exact ⟨_,_,_,_,_,_,_,rfl,fun v e f=>⟨_,a,d.le e,sM,t2,f⟩⟩
theorem jg {V:View}{l:Value}{a b c:Int}(hl:RL V l a b c):aa prog 11 #[l] V fun r V'=>RL V' r (-a) (-b) (-c):=by
 obtain ⟨k,m,n,o,p,q,s,t,u,rfl,v,w,x⟩:=hl;refine A3 _ k m n _ o p q _ s t u V _ fun B d=>(gi a (v.le d)).mono ?_;rintro r C h ⟨D,E,F,rfl,y⟩;refine ⟨_,_,_,_,rfl,fun G e=>(gi b (w.le (d.trans (h.trans e)))).mono ?_⟩;rintro r H i ⟨I,J,K,rfl,z⟩;refine ⟨_,_,_,_,rfl,fun L f=>(gi c (x.le (d.trans (h.trans (e.trans (i.trans f)))))).mono ?_⟩;rintro r M j ⟨N,O,P,rfl,A⟩;exact ⟨_,_,_,_,rfl,fun Q g=>⟨_,_,_,_,_,_,_,_,_,rfl,y.le (e.trans (i.trans (f.trans (j.trans g)))),z.le (f.trans (j.trans g)),A.le g⟩⟩
end Go.Proofs.Tryz
namespace Go.Eng
open Go.Big
theorem RR.zero (V:View):RR V (.agg #[.int .i64 0,.int .i64 0,.pointer none]) 0:=.inl ⟨rfl,by unfold Wd;decide⟩
end Go.Eng
namespace Go.Proofs.Tryz
open Go.Eng Go.Big
structure Sp where
 lo:Rat
 hi:Rat
 a:Bool
 b:Bool
def Sp.can (s:Sp):Prop:=(s.a=true->s.lo=0)/\(s.b=true->s.hi=0)
def Sp.sz (k:Nat)(s:Sp):Prop:=Sz k s.lo/\Sz k s.hi
def Sp.zero:Sp:=⟨0,0,false,false⟩
def gN (k:Nat)(l:L3):Prop:=Sz k (l.1:Rat)/\Sz k (l.2.1:Rat)/\Sz k (l.2.2:Rat)
def pV (V:View)(v:Value)(s:Sp):Prop:=∃(x1 x2:Int)(p:OA)(y1 y2:Int)(q:OA),v=.agg #[.int .i64 x1,.int .i64 x2,.pointer p,.int .i64 y1,.int .i64 y2,.pointer q,.bool s.a,.bool s.b] /\
 RR V (.agg #[.int .i64 x1,.int .i64 x2,.pointer p]) s.lo/\RR V (.agg #[.int .i64 y1,.int .i64 y2,.pointer q]) s.hi
theorem pV.le {V V':View}{v:Value}{s:Sp}(h:pV V v s)(l:V.Le V'):pV V' v s:=by
 obtain ⟨a,b,p,c,d,q,e,f,g⟩:=h;exact ⟨a,b,p,c,d,q,e,f.le l,g.le l⟩
def wR (V:View)(v:Value)(l:L3):Prop:=Bg V v (l.1:Rat) (l.2.1:Rat) (l.2.2:Rat)
theorem wR.le {V V':View}{v:Value}{l:L3}(h:wR V v l)(e:V.Le V'):wR V' v l:=Bg.le h e
def pU (V:View)(v:Value)(l:L3)(s:Sp):Prop:=∃(x1 x2:Int)(p:OA)(y1 y2:Int)(q:OA)(z1 z2:Int)(r:OA)(u1 u2:Int)(t:OA)(w1 w2:Int)(o:OA),
 v=.agg #[.int .i64 x1,.int .i64 x2,.pointer p,.int .i64 y1,.int .i64 y2,.pointer q,.int .i64 z1,.int .i64 z2,.pointer r,.int .i64 u1,.int .i64 u2,.pointer t,.int .i64 w1,.int .i64 w2,.pointer o,.bool s.a,.bool s.b] /\
 wR V (.agg #[.int .i64 x1,.int .i64 x2,.pointer p,.int .i64 y1,.int .i64 y2,.pointer q,.int .i64 z1,.int .i64 z2,.pointer r]) l /\
 pV V (.agg #[.int .i64 u1,.int .i64 u2,.pointer t,.int .i64 w1,.int .i64 w2,.pointer o,.bool s.a,.bool s.b]) s
theorem pU.le {V V':View}{v:Value}{l:L3}{s:Sp}(h:pU V v l s)(e:V.Le V'):pU V' v l s:=by
 obtain ⟨a,b,p,c,d,q,f,g,r,i,j,t,k,m,o,rfl,n,u⟩:=h;exact ⟨a,b,p,c,d,q,f,g,r,i,j,t,k,m,o,rfl,n.le e,u.le e⟩
def FO (V:View)(v:Value)(b:Bool)(xs ys:List Nat):Prop:=∃p n c p' n' c',v=.agg #[.bool b,.slice p n c,.slice p' n' c']/\RD V p n c xs/\RD V p' n' c' ys
theorem FO.le {V V':View}{v:Value}{b:Bool}{xs ys:List Nat}(h:FO V v b xs ys)(l:V.Le V'):FO V' v b xs ys:=by
 obtain ⟨p,n,c,a,d,f,e,g,i⟩:=h;exact ⟨p,n,c,a,d,f,e,g.le l,i.le l⟩
theorem FO.nil {V:View}:FO V (.agg #[.bool false,.slice none 0 0,.slice none 0 0]) false [] []:=⟨_,_,_,_,_,_,rfl,RD.nil,RD.nil⟩
def RE (V:View)(v:Value)(q:Rat)(no:Bool):Prop:=(no=true->FO V v false [] [])/\(no=false->RA V v q)
theorem RE.le {V V':View}{v:Value}{q:Rat}{no:Bool}(h:RE V v q no)(l:V.Le V'):RE V' v q no:=⟨fun e=>(h.1 e).le l,fun e=>(h.2 e).le l⟩
def JI (V:View)(v:Value)(s:Sp):Prop:=∃b p n c p' n' c' d q m e q' m' e',v=.agg #[.bool b,.slice p n c,.slice p' n' c',.bool d,.slice q m e,.slice q' m' e',.bool s.a,.bool s.b] /\
 RE V (.agg #[.bool b,.slice p n c,.slice p' n' c']) s.lo s.a/\RE V (.agg #[.bool d,.slice q m e,.slice q' m' e']) s.hi s.b
theorem JI.le {V V':View}{v:Value}{s:Sp}(h:JI V v s)(l:V.Le V'):JI V' v s:=by
 obtain ⟨b,p,n,c,g,i,j,d,q,m,e,k,o,r,rfl,a,f⟩:=h;exact ⟨_,_,_,_,_,_,_,_,_,_,_,_,_,_,rfl,a.le l,f.le l⟩
def zB (V:View)(v:Value)(l:L3)(s:Sp):Prop:=∃b1 p1 n1 c1 b2 p2 n2 c2 b3 p3 n3 c3 b p n c p' n' c' d q m e q' m' e',
 v=.agg #[.bool b1,.slice p1 n1 c1,.bool b2,.slice p2 n2 c2,.bool b3,.slice p3 n3 c3,.bool b,.slice p n c,.slice p' n' c',.bool d,.slice q m e,.slice q' m' e',.bool s.a,.bool s.b] /\
 RL V (.agg #[.bool b1,.slice p1 n1 c1,.bool b2,.slice p2 n2 c2,.bool b3,.slice p3 n3 c3]) l.1 l.2.1 l.2.2/\JI V (.agg #[.bool b,.slice p n c,.slice p' n' c',.bool d,.slice q m e,.slice q' m' e',.bool s.a,.bool s.b]) s
theorem zB.le {V V':View}{v:Value}{l:L3}{s:Sp}(h:zB V v l s)(e:V.Le V'):zB V' v l s:=by
 obtain ⟨i,j,k,o,r,t,u,w,x,y,z,A,b,p,n,c,B,C,D,d,q,m,f,E,F,G,rfl,a,g⟩:=h;exact ⟨_,_,_,_,_,_,_,_,_,_,_,_,_,_,_,_,_,_,_,_,_,_,_,_,_,_,rfl,a.le e,g.le e⟩
def oB (V:View)(v:Value)(s:Sp):Prop:=∃b p n c p' n' c' d q m e q' m' e',v=.agg #[.bool b,.slice p n c,.slice p' n' c',.bool d,.slice q m e,.slice q' m' e',.bool s.a,.bool s.b] /\
 RQ V (.agg #[.bool b,.slice p n c,.slice p' n' c']) s.lo/\RQ V (.agg #[.bool d,.slice q m e,.slice q' m' e']) s.hi
theorem oB.le {V V':View}{v:Value}{s:Sp}(h:oB V v s)(l:V.Le V'):oB V' v s:=by
 obtain ⟨b,p,n,c,g,i,j,d,q,m,e,k,o,r,rfl,a,f⟩:=h;exact ⟨_,_,_,_,_,_,_,_,_,_,_,_,_,_,rfl,a.le l,f.le l⟩
def RF (V:View)(v:Value)(l:L3)(s:Sp):Prop:=∃b1 p1 n1 c1 b2 p2 n2 c2 b3 p3 n3 c3 b p n c p' n' c' d q m e q' m' e',
 v=.agg #[.bool b1,.slice p1 n1 c1,.bool b2,.slice p2 n2 c2,.bool b3,.slice p3 n3 c3,.bool b,.slice p n c,.slice p' n' c',.bool d,.slice q m e,.slice q' m' e',.bool s.a,.bool s.b] /\
 RL V (.agg #[.bool b1,.slice p1 n1 c1,.bool b2,.slice p2 n2 c2,.bool b3,.slice p3 n3 c3]) l.1 l.2.1 l.2.2/\oB V (.agg #[.bool b,.slice p n c,.slice p' n' c',.bool d,.slice q m e,.slice q' m' e',.bool s.a,.bool s.b]) s
theorem RF.le {V V':View}{v:Value}{l:L3}{s:Sp}(h:RF V v l s)(e:V.Le V'):RF V' v l s:=by
 obtain ⟨i,j,k,o,r,t,u,w,x,y,z,A,b,p,n,c,B,C,D,d,q,m,f,E,F,G,rfl,a,g⟩:=h;exact ⟨_,_,_,_,_,_,_,_,_,_,_,_,_,_,_,_,_,_,_,_,_,_,_,_,_,_,rfl,a.le e,g.le e⟩
theorem fA {V:View}{v:Value}{a b c:Int}(h:RL V v a b c):∃b1 p1 n1 c1 b2 p2 n2 c2 b3 p3 n3 c3,v=.agg #[.bool b1,.slice p1 n1 c1,.bool b2,.slice p2 n2 c2,.bool b3,.slice p3 n3 c3]:=by
 obtain ⟨_,_,_,_,_,_,_,_,_,e,-⟩:=h;exact ⟨_,_,_,_,_,_,_,_,_,_,_,_,e⟩
theorem mc {V:View}{v:Value}{x y:Rat}(h:RP V v x y):∃b1 p1 n1 c1 p2 n2 c2 b3 p3 n3 c3 p4 n4 c4,v=.agg #[.bool b1,.slice p1 n1 c1,.slice p2 n2 c2,.bool b3,.slice p3 n3 c3,.slice p4 n4 c4]:=by
 obtain ⟨_,_,_,_,_,_,_,_,_,_,_,_,e,-⟩:=h;exact ⟨_,_,_,_,_,_,_,_,_,_,_,_,_,_,e⟩
def fJ (l:L3):Rat:=(l.1:Rat)*(l.1:Rat)+(l.2.1:Rat)*(l.2.1:Rat)
def mQ (l:L3)(x y:Rat):Rat:=((l.2.1:Rat)*x-(l.1:Rat)*y)*(fJ l)⁻¹
def Jz (l:L3)(t:Rat):Rat:=(l.2.1:Rat)*t-(l.1:Rat)*(l.2.2:Rat)*(fJ l)⁻¹
def JA (l:L3)(t:Rat):Rat:=-((l.1:Rat)*t)-(l.2.1:Rat)*(l.2.2:Rat)*(fJ l)⁻¹
def revL (l:L3):L3:=(-l.1,-l.2.1,-l.2.2)
def Sp.neg (s:Sp):Sp:=⟨if s.b then 0 else -s.hi,if s.a then 0 else -s.lo,s.b,s.a⟩
def Sp.emp (s:Sp):Bool:=!s.a&&!s.b&&decide (cmpQ s.lo s.hi≥0)
def Nz (l:L3):Prop:=¬(l.1=0/\l.2.1=0)
theorem sq_nonneg (x:Int):0<=x*x:=by
 rw [←Int.natAbs_mul_self];exact Wq8 _
theorem Ix (l:L3):fJ l=((l.1*l.1+l.2.1*l.2.1:Int):Rat):=by unfold fJ;simp
theorem Nz.norm {l:L3}(h:Nz l):fJ l≠0:=by
 rw [Ix];have d:=sq_nonneg l.1;have f:=sq_nonneg l.2.1
 have a:l.1*l.1+l.2.1*l.2.1≠0:=by
  intro e;have b:l.1*l.1=0:=by omega
  have c:l.2.1*l.2.1=0:=by omega
  exact h ⟨(Wq4.1 b).elim id id,(Wq4.1 c).elim id id⟩
 exact_mod_cast a
theorem Ch {q:Rat}(h:q≠0):q.num≠0:=fun e=>h (Qc2.1 e)
theorem Fa {V:View}{l p:Value}{L:L3}{x y:Rat}(hl:wR V l L)(hp:mU V p x y){k:Nat}(sl:gN k L)(s1:Sz k x)(s2:Sz k y)(hk:8*k+7<274877906944:=by omega) :
  aa prog 107 #[l,p] V fun r V'=>RR V' r (mQ L x y):=by
 refine (ue hl hp sl.1 sl.2.1 sl.2.2 s1 s2 hk).mono ?_;rintro r a b g
 have e:mQ L x y=((((L.2.1:Rat))*x+(-(L.1:Rat))*y)*(((L.2.1:Rat))*((L.2.1:Rat))+(-(L.1:Rat))*(-(L.1:Rat)))⁻¹):=by
  unfold mQ fJ;grind
 rw [e];exact g
theorem FD {L:L3}{x y:Rat}{k:Nat}(sl:gN k L)(s1:Sz k x)(s2:Sz k y):Sz (8*k+7) (mQ L x y):=by
 have e:mQ L x y=((((L.2.1:Rat))*x+(-(L.1:Rat))*y)*(((L.2.1:Rat))*((L.2.1:Rat))+(-(L.1:Rat))*(-(L.1:Rat)))⁻¹):=by
  unfold mQ fJ;grind
 rw [e];exact ru sl.1 sl.2.1 sl.2.2 s1 s2
theorem Sf {V:View}{l t:Value}{L:L3}{x:Rat}(hl:wR V l L)(ht:RR V t x){k:Nat}(sl:gN k L)(s1:Sz k x)(hk:20*k+19<274877906944) :
  aa prog 172 #[l,t] V fun r V'=>mU V' r (Jz L x) (JA L x):=by
 refine (Bw hl ht sl.1 sl.2.1 sl.2.2 s1 hk).mono ?_;rintro r c d g;have a:Jz L x=((L.1:Rat)*((-(L.2.2:Rat))*((L.1:Rat)*(L.1:Rat)+(L.2.1:Rat)*(L.2.1:Rat))⁻¹))+((L.2.1:Rat)*x):=by unfold Jz fJ;grind
 have b:JA L x=((L.2.1:Rat)*((-(L.2.2:Rat))*((L.1:Rat)*(L.1:Rat)+(L.2.1:Rat)*(L.2.1:Rat))⁻¹))+((-(L.1:Rat))*x):=by unfold JA fJ;grind
 rw [a,b];exact g
theorem Nf {L:L3}{x:Rat}{k:Nat}(sl:gN k L)(s1:Sz k x):Sz (20*k+19) (Jz L x):=by
 have a:Jz L x=((L.1:Rat)*((-(L.2.2:Rat))*((L.1:Rat)*(L.1:Rat)+(L.2.1:Rat)*(L.2.1:Rat))⁻¹))+((L.2.1:Rat)*x):=by unfold Jz fJ;grind
 rw [a];exact yh sl.1 sl.2.1 sl.2.2 s1
theorem Ng {L:L3}{x:Rat}{k:Nat}(sl:gN k L)(s1:Sz k x):Sz (20*k+19) (JA L x):=by
 have a:JA L x=((L.2.1:Rat)*((-(L.2.2:Rat))*((L.1:Rat)*(L.1:Rat)+(L.2.1:Rat)*(L.2.1:Rat))⁻¹))+((-(L.1:Rat))*x):=by unfold JA fJ;grind
 rw [a];exact yi sl.1 sl.2.1 sl.2.2 s1
theorem gN.rev {k:Nat}{L:L3}(h:gN k L):gN k (revL L):=by
 unfold gN revL;simp only [Wy7];exact ⟨h.1.neg,h.2.1.neg,h.2.2.neg⟩
theorem M5 {L:L3}(h:Nz L):((((((L.2.1:Int):Rat)))*((((L.2.1:Int):Rat))))+(((-(((L.1:Int):Rat))))*((-(((L.1:Int):Rat)))))).num≠0:=by
 have:(((((L.2.1:Int):Rat)))*((((L.2.1:Int):Rat))))+(((-(((L.1:Int):Rat))))*((-(((L.1:Int):Rat)))))=fJ L:=by unfold fJ;grind
 rw [this];exact Ch h.norm
theorem Fp {V:View}{l p:Value}{L:L3}{x y:Rat}(hl:RL V l L.1 L.2.1 L.2.2)(hp:RP V p x y)(hz:Nz L){k:Nat}(sl:gN k L)(s1:Sz k x)(s2:Sz k y)(hk:8*k+7<274877906944:=by omega) :
  aa prog 61 #[l,p] V fun r V'=>RQ V' r (mQ L x y):=by
 refine (xh hl hp (M5 hz) sl.1 sl.2.1 sl.2.2 s1 s2 hk).mono ?_;rintro r a b g
 have e:mQ L x y=((((x)*((((L.2.1:Int):Rat))))+((y)*((-(((L.1:Int):Rat))))))*((((((L.2.1:Int):Rat)))*((((L.2.1:Int):Rat))))+(((-(((L.1:Int):Rat))))*((-(((L.1:Int):Rat))))))⁻¹):=by
  unfold mQ fJ;grind
 rw [e];exact g
structure Nu (V:View) (vs:List Value) (i:Int) (f a b c:Rat):Prop where
 h0:0<=i
 h3:i<=3
 row:∃(x1 x2:Int)(p:OA)(y1 y2:Int)(q:OA)(z1 z2:Int)(r:OA),vs=[.int .i64 x1,.int .i64 x2,.pointer p,.int .i64 y1,.int .i64 y2,.pointer q,.int .i64 z1,.int .i64 z2,.pointer r] /\
  RR V (.agg #[.int .i64 x1,.int .i64 x2,.pointer p]) (if 0<i then a*f else a)/\RR V (.agg #[.int .i64 y1,.int .i64 y2,.pointer q]) (if 1<i then b*f else b)/\RR V (.agg #[.int .i64 z1,.int .i64 z2,.pointer r]) (if 2<i then c*f else c)
theorem Nu.le {V V':View}{vs:List Value}{i:Int}{f a b c:Rat}(h:Nu V vs i f a b c)(l:V.Le V'):Nu V' vs i f a b c:=by
 obtain ⟨d,g,j,k,p,m,n,q,o,s,r,e,t,u,v⟩:=h;exact ⟨d,g,j,k,p,m,n,q,o,s,r,e,t.le l,u.le l,v.le l⟩
theorem zO {V:View}{u:Value}{f a b c:Rat}{lb:Nat}{vs:List Value}(hf:RR V u f)(hv:Nu V vs 0 f a b c)(hw:V.w.heap[lb]?=some (.cells vs.toArray 98 (0,0)))(hx:V.X lb)
  {k:Nat}(sf:Sz k f)(sa:Sz k a)(sb:Sz k b)(sc:Sz k c)(hk:2*k<1099511627776) :
  aa prog 243 #[u,.slice (some ⟨lb,0,none⟩) 3 3] V fun r V'=>∃(bk:Nat)(ws:List Value),r=.slice (some ⟨bk,0,none⟩) 3 3/\V'.w.heap[bk]?=some (.cells ws.toArray 98 (0,0))/\(V.w.heap.size<=bk\/bk=lb)/\Nu (V'.cp (ws≠[]) bk) ws 3 f a b c:=by
 have I:=hf;obtain ⟨f0,f1,f2,rfl⟩:=hf.shape;have L:vs≠[]:=by obtain ⟨_,_,t,v,p,x,y,q,A,B,r,rfl,-⟩:=hv;exact fun h=>nomatch h
 refine xQ f0 f1 f2 lb 3 3 vs V _ (fun _=>hw) (fun _=>hx) ⟨fun z V'=>Nu V' z.2 z.1 f a b c/\RR V' (.agg #[.int .i64 f0,.int .i64 f1,.pointer f2]) f,fun z=>(3-z.1).toNat,⟨(0,vs),by (try dsimp only);and_intros<;>trivial,hv,I⟩,?_⟩;rintro ⟨i,ws⟩ Q R ⟨H,e⟩;refine ⟨rfl,fun C=>?_,fun C=>?_⟩
 ·have C:i<3:=of_decide_eq_true C;dsimp only;obtain ⟨S,h3,t,v,p,x,y,q,A,B,r,rfl,m,n,s⟩:=H;have w:i64.wrap (i+1)=i+1:=ar (by omega);rw [w];have M:i=0\/i=1\/i=2:=by omega
  rcases M with rfl|rfl|rfl
  ·rw [if_neg (by (try dsimp only);decide)] at m;rw [if_neg (by (try dsimp only);decide)] at n;rw [if_neg (by (try dsimp only);decide)] at s;refine ⟨⟨by decide,by decide⟩,by decide,t,v,p,⟨by simp,rfl⟩,fun J d=>(jd (m.le d) (e.le d) sa sf).mono ?_⟩;rintro o K j g;have D:=g;obtain ⟨E,F,G,rfl⟩:=g.shape;exact ⟨_,_,_,rfl,⟨by decide,by decide⟩,by decide,by simp,(1,[.int .i64 E,.int .i64 F,.pointer G,.int .i64 x,.int .i64 y,.pointer q,.int .i64 A,.int .i64 B,.pointer r]),by dsimp only;decide,by and_intros<;>rfl,⟨by dsimp only;decide,by dsimp only;decide,_,_,_,_,_,_,_,_,_,rfl,by rw [if_pos (by (try dsimp only);decide)];exact D,by rw [if_neg (by (try dsimp only);decide)];exact n.le (d.trans j),by rw [if_neg (by (try dsimp only);decide)];exact s.le (d.trans j)⟩,e.le (d.trans j)⟩
  ·rw [if_pos (by (try dsimp only);decide)] at m;rw [if_neg (by (try dsimp only);decide)] at n;rw [if_neg (by (try dsimp only);decide)] at s;refine ⟨⟨by decide,by decide⟩,by decide,x,y,q,⟨by simp,rfl⟩,fun J d=>(jd (n.le d) (e.le d) sb sf).mono ?_⟩;rintro o K j g;have D:=g;obtain ⟨E,F,G,rfl⟩:=g.shape;exact ⟨_,_,_,rfl,⟨by decide,by decide⟩,by decide,by simp,(2,[.int .i64 t,.int .i64 v,.pointer p,.int .i64 E,.int .i64 F,.pointer G,.int .i64 A,.int .i64 B,.pointer r]),by dsimp only;decide,by and_intros<;>rfl,⟨by dsimp only;decide,by dsimp only;decide,_,_,_,_,_,_,_,_,_,rfl,by rw [if_pos (by (try dsimp only);decide)];exact m.le (d.trans j),by rw [if_pos (by (try dsimp only);decide)];exact D,by rw [if_neg (by (try dsimp only);decide)];exact s.le (d.trans j)⟩,e.le (d.trans j)⟩
  ·rw [if_pos (by (try dsimp only);decide)] at m;rw [if_pos (by (try dsimp only);decide)] at n;rw [if_neg (by (try dsimp only);decide)] at s;refine ⟨⟨by decide,by decide⟩,by decide,A,B,r,⟨by simp,rfl⟩,fun J d=>(jd (s.le d) (e.le d) sc sf).mono ?_⟩;rintro o K j g;have D:=g;obtain ⟨E,F,G,rfl⟩:=g.shape;exact ⟨_,_,_,rfl,⟨by decide,by decide⟩,by decide,by simp,(3,[.int .i64 t,.int .i64 v,.pointer p,.int .i64 x,.int .i64 y,.pointer q,.int .i64 E,.int .i64 F,.pointer G]),by dsimp only;decide,by and_intros<;>rfl,⟨by dsimp only;decide,by dsimp only;decide,_,_,_,_,_,_,_,_,_,rfl,by rw [if_pos (by (try dsimp only);decide)];exact m.le (d.trans j),by rw [if_pos (by (try dsimp only);decide)];exact n.le (d.trans j),by rw [if_pos (by (try dsimp only);decide)];exact D⟩,e.le (d.trans j)⟩
 ·have C:¬i<3:=of_decide_eq_false C;obtain rfl:i=3:=by have:=H.h3;omega
  dsimp only;intro T bk N O P;have l:ws≠[]:=by obtain ⟨_,_,t,v,p,x,y,q,A,B,r,rfl,-⟩:=H;exact fun h=>nomatch h
  refine ⟨bk,ws,rfl,O l,?_,H.le N⟩;rcases P l with h|⟨-,h⟩|h
  ·exact .inl h
  ·exact .inr h
  ·exact h.elim
theorem LO {a b c:Rat}{k:Nat}(sa:Sz k a)(sb:Sz k b)(sc:Sz k c):Sz (3*k+2) (cT (cT a b) c)⁻¹:=
 nU (Sz.mono (fg (fg sa sb) sc))
theorem KZ {a b c:Rat}{k:Nat}(sa:Sz k a)(sb:Sz k b)(sc:Sz k c)(h:¬(a=0/\b=0)):gN (4*k+3) (qL a b c):=by
 obtain ⟨-,e,f,g⟩:=ke (c:=c) h;have d:=LO sa sb sc;unfold gN;rw [←e,←f,←g];exact ⟨Sz.mono (Sz.mul sa d),Sz.mono (Sz.mul sb d),Sz.mono (Sz.mul sc d)⟩
theorem DF {V:View}{u v w:Value}{a b c:Rat}(ha:RR V u a)(hb:RR V v b)(hc:RR V w c){k:Nat}(sa:Sz k a)(sb:Sz k b)(sc:Sz k c)(hk:8*k+8<274877906944:=by omega) :
  aa prog 218 #[u,v,w] V fun r V'=>(a=0/\b=0->∃l,r=.tuple #[l,.bool false]/\wR V' l (0,0,0))/\(¬(a=0/\b=0)->∃l,r=.tuple #[l,.bool true]/\wR V' l (qL a b c)):=by
 have e:=ha;have f:=hb;have g:=hc;obtain ⟨s,t,x,rfl⟩:=ha.shape;obtain ⟨y,z,A,rfl⟩:=hb.shape;obtain ⟨B,C,D,rfl⟩:=hc.shape;have sg:=LO sa sb sc
 have gen:∀L:View,V.Le L->¬(a=0/\b=0)->(∀M:View,L.Le M->aa prog 89 #[.agg #[.int .i64 s,.int .i64 t,.pointer x],.agg #[.int .i64 y,.int .i64 z,.pointer A]] M fun XW V7=>∃Vx:Int,∃Qf:Int,∃Va:OA,XW=.agg #[.int .i64 Vx,.int .i64 Qf,.pointer Va]/\(∀N:View,V7.Le N->aa prog 89 #[.agg #[.int .i64 Vx,.int .i64 Qf,.pointer Va],.agg #[.int .i64 B,.int .i64 C,.pointer D]] N fun XX V9=>∃Vz:Int,∃VA:Int,∃Vc:OA,XX=.agg #[.int .i64 Vz,.int .i64 VA,.pointer Vc]/\(∀O:View,V9.Le O->aa prog 203 #[.agg #[.int .i64 Vz,.int .i64 VA,.pointer Vc]] O fun SJ P=>∃Qk:Int,∃Jw:Int,∃IL:OA,SJ=.agg #[.int .i64 Qk,.int .i64 Jw,.pointer IL]/\(∀d:View,P.Le d->∀Bo:Nat,(d.w.heap[Bo]?=some (.cells #[.int .i64 s,.int .i64 t,.pointer x,.int .i64 y,.int .i64 z,.pointer A,.int .i64 B,.int .i64 C,.pointer D] 98 (0,0)))->(d.H Bo)->aa prog 243 #[.agg #[.int .i64 Qk,.int .i64 Jw,.pointer IL],.slice (some ⟨Bo,0,none⟩) 3 3] (d.ay [Bo]) fun SK E=>∃(Bp:Nat)(nu:List Value),(nu≠[]->E.w.heap[Bp]?=some (.cells nu.toArray 98 (0,0)))/\(nu≠[]->d.w.heap.size<=Bp\/Bp=Bo)/\∃(XM:OA)(D9 Hs:Nat),SK=.slice (mA Bp Hs) D9 Hs/\((0<=(0:Int)/\(0:Int)<((D9:Nat):Int))/\(D9<=Hs)/\(∃P_:Int,∃Qa:Int,∃PC:OA,(3<=nu.length/\(nu.drop 0).take 3=[.int .i64 P_,.int .i64 Qa,.pointer PC])/\((0<=(1:Int)/\(1:Int)<((D9:Nat):Int))/\(D9<=Hs)/\(∃Qb:Int,∃Qc:Int,∃PD:OA,(6<=nu.length/\(nu.drop 3).take 3=[.int .i64 Qb,.int .i64 Qc,.pointer PD])/\((0<=(2:Int)/\(2:Int)<((D9:Nat):Int))/\(D9<=Hs)/\(∃Qd:Int,∃Qe:Int,∃PE:OA,(9<=nu.length/\(nu.drop 6).take 3=[.int .i64 Qd,.int .i64 Qe,.pointer PE])/\(∀F:View,(E.shut.cp (nu≠[]) Bp).Le F->(fun (r:Value) (V':View)=>(a=0/\b=0->∃l,r=.tuple #[l,.bool false]/\wR V' l (0,0,0))/\(¬(a=0/\b=0)->∃l,r=.tuple #[l,.bool true]/\wR V' l (qL a b c))) (.tuple #[.agg #[.int .i64 P_,.int .i64 Qa,.pointer PC,.int .i64 Qb,.int .i64 Qc,.pointer PD,.int .i64 Qd,.int .i64 Qe,.pointer PE],.bool true]) F))))))))))):=by
  intro L G i M I;refine (fM (e.le (G.trans I)) (f.le (G.trans I)) sa sb).mono ?_;rintro r V7 l7 g1;have Q:=g1;obtain ⟨_,_,_,rfl⟩:=g1.shape;refine ⟨_,_,_,rfl,fun N R=>(fM (Q.le R) (g.le (G.trans (I.trans (l7.trans R)))) (fg sa sb) sc).mono ?_⟩;rintro r V9 l9 g2;have S:=g2;obtain ⟨_,_,_,rfl⟩:=g2.shape;refine ⟨_,_,_,rfl,fun O j=>(EZ (S.le j) (fg (fg sa sb) sc)).mono ?_⟩;rintro r P bA g3;have wN:=g3;obtain ⟨_,_,_,rfl⟩:=g3.shape;refine ⟨_,_,_,rfl,fun d cu J T U=>?_⟩;have W:V.Le (d.ay [J]):=fun b o h=>cu b o (bA b o (j b o (l9 b o (R b o (l7 b o (I b o (G b o h)))))));have O_:P.Le (d.ay [J]):=fun b o h=>cu b o h
  refine (zO (V:=d.ay [J]) (a:=a) (b:=b) (c:=c) (lb:=J) (vs:=[.int .i64 s,.int .i64 t,.pointer x,.int .i64 y,.int .i64 z,.pointer A,.int .i64 B,.int .i64 C,.pointer D]) (wN.le O_)
   ⟨by decide,by decide,_,_,_,_,_,_,_,_,_,rfl,by rw [if_neg (by (try dsimp only);decide)];exact e.le W,by rw [if_neg (by (try dsimp only);decide)];exact f.le W,by rw [if_neg (by (try dsimp only);decide)];exact g.le W⟩ T ⟨by simp,U⟩ (Sz.mono sg:Sz (3*k+2) _) (Sz.mono sa) (Sz.mono sb) (Sz.mono sc) (by omega)).mono ?_
  rintro r E cD ⟨bm,ws,rfl,X,Y,hs⟩;obtain ⟨-,-,x1,x2,p,y1,y2,q,z1,z2,r,rfl,s1,s2,s3⟩:=hs;rw [if_pos (by (try dsimp only);decide)] at s1 s2 s3;refine ⟨bm,_,fun _=>X,fun _=>Y,none,3,3,rfl,⟨by decide,by decide⟩,by decide,x1,x2,p,⟨by simp,rfl⟩,⟨by decide,by decide⟩,by decide,y1,y2,q,⟨by simp,rfl⟩,⟨by decide,by decide⟩,by decide,z1,z2,r,⟨by simp,rfl⟩,fun F eB=>⟨fun h=>absurd h i,fun _=>⟨_,rfl,?_⟩⟩⟩;obtain ⟨-,e1,e2,e3⟩:=ke (c:=c) i;have Z:(E.cp ([Value.int .i64 x1,.int .i64 x2,.pointer p,.int .i64 y1,.int .i64 y2,.pointer q,.int .i64 z1,.int .i64 z2,.pointer r]≠[]) bm).Le F:=fun b o h=>eB b o h;refine ⟨_,_,_,_,_,_,_,_,_,rfl,?_,?_,?_⟩
  ·rw [←e1];exact s1.le Z
  ·rw [←e2];exact s2.le Z
  ·rw [←e3];exact s3.le Z
 refine CW s t x y z A B C D V _ fun V1 K=>(oJ (e.le K)).mono ?_;rintro r V2 l2 rfl;refine ⟨_,rfl,fun m V3 l3=>(oJ (f.le (K.trans (l2.trans l3)))).mono ?_,fun m=>?_⟩
 ·rintro r V4 l4 rfl;refine ⟨_,rfl,fun n V5 l5=>?_,fun n=>gen V4 (K.trans (l2.trans (l3.trans l4))) (fun h=>of_decide_eq_false n h.2)⟩;have m:=of_decide_eq_true m;have n:=of_decide_eq_true n;refine ⟨fun _=>⟨_,rfl,_,_,_,_,_,_,_,_,_,rfl,RR.zero _,RR.zero _,RR.zero _⟩,fun h=>absurd ⟨m,n⟩ h⟩
 ·exact gen V2 (K.trans l2) (fun h=>of_decide_eq_false m h.1)
def gx (px py qx qy:Rat):L3:=qL (-(qy-py)) (qx-px) (-(-(qy-py)*px+(qx-px)*py))
theorem mM {px py qx qy:Rat}(h:¬(px=qx/\py=qy)):¬(-(qy-py)=0/\qx-px=0):=by
 rintro ⟨a,b⟩;exact h ⟨by grind,by grind⟩
theorem FG {px py qx qy:Rat}:(px=qx/\py=qy)↔(-(qy-py)=0/\qx-px=0):=⟨fun ⟨a,b⟩=>⟨by grind,by grind⟩,fun ⟨a,b⟩=>⟨by grind,by grind⟩⟩
theorem FH {px py qx qy:Rat}(h:¬(px=qx/\py=qy)):Nz (gx px py qx qy):=Kt (mM h)
theorem mL {px py qx qy:Rat}{k:Nat}(s1:Sz k px)(s2:Sz k py)(s3:Sz k qx)(s4:Sz k qy)(h:¬(px=qx/\py=qy)):gN (40*k+40) (gx px py qx qy):=by
 have a:Sz (2*k+1) (-(qy-py)):=Sz.mono (s4.sub s2).neg;have b:Sz (2*k+1) (qx-px):=Sz.mono (s3.sub s1);have c:Sz (8*k+8) (-(-(qy-py)*px+(qx-px)*py)):=Sz.mono ((a.mul s1).add (b.mul s2)).neg;have:=KZ (k:=8*k+8) (Sz.mono a) (Sz.mono b) c (mM h);exact ⟨Sz.mono this.1,Sz.mono this.2.1,Sz.mono this.2.2⟩
theorem wZ {V:View}{u v:Value}{px py qx qy:Rat}(hp:mU V u px py)(hq:mU V v qx qy){k:Nat}(s1:Sz k px)(s2:Sz k py)(s3:Sz k qx)(s4:Sz k qy)(hk:100*k+100<274877906944:=by omega) :
  aa prog 170 #[u,v] V fun r V'=>(px=qx/\py=qy->∃l,r=.tuple #[l,.bool false]/\wR V' l (0,0,0))/\(¬(px=qx/\py=qy)->∃l,r=.tuple #[l,.bool true]/\wR V' l (gx px py qx qy)):=by
 have a:=hp;have e:=hq;obtain ⟨E,F,G,H,I,J,rfl,-,-⟩:=hp;obtain ⟨K,L,M,N,O,P,rfl,-,-⟩:=hq;have f:Sz (2*k+1) (-(qy-py)):=Sz.mono (s4.sub s2).neg;have c:Sz (2*k+1) (qx-px):=Sz.mono (s3.sub s1);have Q:Sz (2*k+1) (qy-py):=Sz.mono (s4.sub s2);have w:Sz (8*k+8) (-(qy-py)*px+(qx-px)*py):=Sz.mono ((f.mul s1).add (c.mul s2));refine vX E F G H I J K L M N O P V _ fun V1 g=>(zN (e.le g) (a.le g) s3 s4 s1 s2).mono ?_;rintro r V2 R x;have i:=x;obtain ⟨_,_,_,_,_,_,rfl,-,-⟩:=x;refine ⟨_,_,_,_,_,_,rfl,fun V3 y=>(wX (i.le y) c Q).mono ?_⟩;rintro r V4 S z;have j:=z;obtain ⟨_,_,_,_,_,_,rfl,m,n⟩:=z;refine ⟨_,_,_,_,_,_,rfl,fun V5 d=>(gX (j.le d) (a.le (g.trans (R.trans (y.trans (S.trans d))))) (k:=2*k+1) f c (Sz.mono s1) (Sz.mono s2)).mono ?_⟩;rintro r V6 A B;have T:=B;obtain ⟨_,_,_,rfl⟩:=B.shape;refine ⟨_,_,_,rfl,fun V7 o=>(oI (T.le o) w).mono ?_⟩;rintro r V8 C D;have U:=D;obtain ⟨_,_,_,rfl⟩:=D.shape;refine ⟨_,_,_,rfl,fun V9 p=>(DF (m.le (d.trans (A.trans (o.trans (C.trans p))))) (n.le (d.trans (A.trans (o.trans (C.trans p))))) (U.le p) (k:=8*k+8) (Sz.mono f) (Sz.mono c) w.neg).mono ?_⟩;rintro r fK W ⟨X,Y⟩;by_cases h:px=qx/\py=qy
 ·obtain ⟨l,rfl,b⟩:=X (FG.1 h);have q:=b;obtain ⟨_,_,_,_,_,_,_,_,_,rfl,-,-,-⟩:=b;exact ⟨_,_,_,_,_,_,_,_,_,_,rfl,fun Z s=>⟨fun _=>⟨_,rfl,q.le s⟩,fun t=>absurd h t⟩⟩
 ·obtain ⟨l,rfl,b⟩:=Y (mM h);have q:=b;obtain ⟨_,_,_,_,_,_,_,_,_,rfl,-,-,-⟩:=b;exact ⟨_,_,_,_,_,_,_,_,_,_,rfl,fun Z s=>⟨fun t=>absurd t h,fun _=>⟨_,rfl,q.le s⟩⟩⟩
def xu (px py qx qy:Rat):Sp:=⟨mQ (gx px py qx qy) px py,mQ (gx px py qx qy) qx qy,false,false⟩
theorem wY {V:View}{u v:Value}{px py qx qy:Rat}(hp:mU V u px py)(hq:mU V v qx qy){k:Nat}(s1:Sz k px)(s2:Sz k py)(s3:Sz k qx)(s4:Sz k qy)(hk:400*k+400<274877906944:=by omega) :
  aa prog 113 #[u,v] V fun r V'=>(px=qx/\py=qy->∃l,r=.tuple #[l,.bool false]/\pU V' l (0,0,0) Sp.zero)/\(¬(px=qx/\py=qy)->∃l,r=.tuple #[l,.bool true]/\pU V' l (gx px py qx qy) (xu px py qx qy)):=by
 have a:=hp;have b:=hq;obtain ⟨w,x,y,z,A,B,rfl,-,-⟩:=hp;obtain ⟨C,D,E,F,G,H,rfl,-,-⟩:=hq;refine vW w x y z A B C D E F G H V _ fun K d=>(wZ (a.le d) (b.le d) s1 s2 s3 s4).mono ?_;rintro r L p ⟨I,J⟩;by_cases h:px=qx/\py=qy
 ·obtain ⟨l,rfl,e⟩:=I h;obtain ⟨_,_,_,_,_,_,_,_,_,rfl,-,-,-⟩:=e;refine ⟨_,_,_,_,_,_,_,_,_,_,rfl,fun _ M N=>⟨fun _=>⟨_,rfl,?_⟩,fun g=>absurd h g⟩,fun h=>nomatch h⟩;exact ⟨_,_,_,_,_,_,_,_,_,_,_,_,_,_,_,rfl,⟨_,_,_,_,_,_,_,_,_,rfl,RR.zero _,RR.zero _,RR.zero _⟩,_,_,_,_,_,_,rfl,RR.zero _,RR.zero _⟩
 ·obtain ⟨l,rfl,e⟩:=J h;have i:=e;have sl:=mL s1 s2 s3 s4 h;obtain ⟨_,_,_,_,_,_,_,_,_,rfl,-,-,-⟩:=e;refine ⟨_,_,_,_,_,_,_,_,_,_,rfl,(fun h=>nomatch h),fun _ O c=>(Fa (i.le c) (a.le (d.trans (p.trans c))) sl (Sz.mono s1) (Sz.mono s2)).mono ?_⟩;rintro r P j q;have m:=q;obtain ⟨_,_,_,rfl⟩:=q.shape;refine ⟨_,_,_,rfl,fun Q f=>(Fa (i.le (c.trans (j.trans f))) (b.le (d.trans (p.trans (c.trans (j.trans f))))) sl (Sz.mono s3) (Sz.mono s4)).mono ?_⟩;rintro r R s t;have n:=t;obtain ⟨_,_,_,rfl⟩:=t.shape;refine ⟨_,_,_,rfl,fun S o=>⟨fun g=>absurd g h,fun _=>⟨_,rfl,?_⟩⟩⟩;exact ⟨_,_,_,_,_,_,_,_,_,_,_,_,_,_,_,rfl,i.le (c.trans (j.trans (f.trans (s.trans o)))),_,_,_,_,_,_,rfl,m.le (f.trans (s.trans o)),n.le o⟩
def M6 (b:Bool)(xs ys:List Nat):Rat:=mkRat (bo b xs) (val ys)
def Cf (b:Bool)(xs ys:List Nat):Bool:=lq b xs&&decide (ai (val ys)=ys)&&!decide (ys=[])&&decide (Nat.gcd (val xs) (val ys)=1)
def K6 (b:Bool)(xs ys:List Nat):Bool:=!b&&decide (xs=[])&&decide (ys=[])
def HL (b:Bool)(xs ys:List Nat)(no:Bool):Rat:=if no then 0 else M6 b xs ys
def uB (b:Bool)(xs ys:List Nat)(no:Bool):Bool:=if no then K6 b xs ys else Cf b xs ys
theorem Fj {q:Rat}:Cf (decide (q.num<0)) (ai q.num.natAbs) (ai q.den)=true/\M6 (decide (q.num<0)) (ai q.num.natAbs) (ai q.den)=q:=by
 constructor
 ·unfold Cf
  have a:lq (decide (q.num<0)) (ai q.num.natAbs)=true:=by
   unfold lq;rw [af];by_cases h:q.num<0
   ·have:ai q.num.natAbs≠[]:=fun e=>by have:=bz.1 e;omega
    simp [h,this]
   ·simp [h]
  have b:ai q.den≠[]:=fun e=>q.den_nz (bz.1 e);rw [a,af,af];simp [b,q.reduced]
 ·unfold M6;rw [aO,af,Qp5]
theorem wV {V:View}(b:Bool){p q:OA}{n c m e:Nat}{xs ys:List Nat}(hx:RD V p n c xs)(hy:RD V q m e ys)(hm:xs.length<=1099511627776)(hn:ys.length<=1099511627776) :
  aa prog 188 #[.agg #[.bool b,.slice p n c,.slice q m e]] V fun r V'=>r=.bool (Cf b xs ys):=by
 refine vQ b p n c q m e V _ fun z a=>(dE b (hx.le a) hm).mono ?_;rintro r A l rfl;refine ⟨_,rfl,fun h B C=>by rw [Qy7] at h;simp [Cf,h],fun d D o=>(oN (hy.le (a.trans (l.trans o))) hn).mono ?_⟩;rw [Qv8] at d;rintro r E t rfl;refine ⟨_,rfl,fun h F G=>by rw [Qy7] at h;simp [Cf,h],fun f=>⟨fun h H I=>?_,fun u J v=>?_⟩⟩
 ·have i:=hy.len
  have:ys=[]:=by
   have h:((m:Nat):Int)=0:=by simpa using h
   exact Qw4.1 (by omega)
  simp [Cf,this]
 ·rw [Qv8] at f;have i:=hy.len
  have j:ys≠[]:=fun e=>by
   have h:¬((m:Nat):Int)=0:=by simpa using u
   rw [e] at i;exact h (by simp at i;omega)
  have s:=a.trans (l.trans (o.trans (t.trans v)));refine (qi (hx.le s) (hy.le s) hm hn).mono ?_;rintro r K L ⟨M,N,O,rfl,g⟩
  have w:(ai (Nat.gcd (val xs) (val ys))).length<=1099511627776:=by
   have d:=bd hx.ew;have f:=bd hy.ew;by_cases x:val xs=0
   ·rw [x,Qs6];omega
   ·have:Nat.gcd (val xs) (val ys)<=val xs:=Wy5 _ (by omega);have:=aF this;omega
  refine ⟨_,_,_,rfl,fun P k=>(fN (g.le k) w).mono ?_⟩;rintro r Q R rfl;refine ⟨_,rfl,fun S T=>?_⟩
  have y:(((bf (val (ai (Nat.gcd (val xs) (val ys)))):Nat):Int)==1)=decide (Nat.gcd (val xs) (val ys)=1):=by
   rw [af,Qz3,beq_iff_eq,decide_eq_true_eq]
   have gen:∀g:Nat,((bf g:Nat):Int)=1↔g=1:=fun g=>by
    have U:bf g<=1↔g<2:=@eh g 1;have W:bf g<=0↔g<1:=@eh g 0;omega
   exact gen _
  rw [y];simp [Cf,d,f,j]
theorem yA {V:View}{v:Value}{b:Bool}{xs ys:List Nat}(no:Bool)(h:FO V v b xs ys)(hm:xs.length<=1099511627776)(hn:ys.length<=1099511627776) :
  aa prog 144 #[v,.bool no] V fun r V'=>∃w,r=.tuple #[w,.bool (uB b xs ys no)]/\RR V' w (HL b xs ys no):=by
 obtain ⟨p,n,c,q,m,e,rfl,d,f⟩:=h;have l:=d.len;have s:=f.len;refine Ex b p n c q m e no V _ ⟨?_,?_⟩
 ·rintro rfl;have z:∀V':View,RR V' (.agg #[.int .i64 0,.int .i64 0,.pointer none]) (HL b xs ys true):=fun V'=>RR.zero V';refine ⟨fun h=>⟨fun i A B=>⟨_,?_,z _⟩,fun i C D=>⟨_,?_,z _⟩⟩,fun h E F=>⟨_,?_,z _⟩⟩
  ·have j:xs=[]:=by
    have h:((n:Nat):Int)=0:=by simpa using i
    exact Qw4.1 (by omega)
   have t:(((m:Nat):Int)==0)=decide (ys=[]):=by
    rw [Qz3,beq_iff_eq,decide_eq_true_eq,←Qw4];omega
   rw [Qy7] at h;simp [uB,K6,h,j,←t]
  ·have j:xs≠[]:=fun e=>by
    have h:¬((n:Nat):Int)=0:=by simpa using i
    rw [e] at l;exact h (by simp at l;omega)
   simp [uB,K6,j]
  ·rw [Qv8] at h;simp [uB,K6,h]
 ·rintro rfl G a;refine (t_ b (d.le a) (f.le a) hm hn).mono ?_;rintro r H o g;have u:=g;obtain ⟨_,_,_,rfl⟩:=g.shape;refine ⟨_,_,_,rfl,fun I k=>(wV b (d.le (a.trans (o.trans k))) (f.le (a.trans (o.trans k))) hm hn).mono ?_⟩;rintro r J x rfl;exact ⟨_,rfl,fun K y=>⟨_,rfl,u.le (k.trans (x.trans y))⟩⟩
theorem Dy {V:View}{v:Value}{s:Sp}(h:pV V v s){k:Nat}(hs:s.sz k)(hk:2*k<1099511627776) :
  aa prog 145 #[v] V fun r V'=>r=.bool s.emp:=by
 obtain ⟨f,g,p,i,j,q,rfl,l,m⟩:=h;refine sR f g p i j q s.a s.b V _ ⟨fun c=>⟨fun d n e=>(mw (l.le e) (m.le e) hs.1 hs.2).mono ?_,fun d o t=>?_⟩,fun c u w=>?_⟩
 ·rintro r x y rfl;exact ⟨_,rfl,fun z A=>by rw [Qy7] at c d;simp [Sp.emp,c,d]⟩
 ·rw [Qv8] at d;simp [Sp.emp,d]
 ·rw [Qv8] at c;simp [Sp.emp,c]
def VB (V:View)(v:Value)(b1:Bool)(xs1 ys1:List Nat)(b2:Bool)(xs2 ys2:List Nat)(na nb:Bool):Prop:=∃p n c p' n' c' q m e q' m' e',v=.agg #[.bool b1,.slice p n c,.slice p' n' c',.bool b2,.slice q m e,.slice q' m' e',.bool na,.bool nb] /\
 FO V (.agg #[.bool b1,.slice p n c,.slice p' n' c']) b1 xs1 ys1/\FO V (.agg #[.bool b2,.slice q m e,.slice q' m' e']) b2 xs2 ys2
def NT (b1:Bool)(xs1 ys1:List Nat)(b2:Bool)(xs2 ys2:List Nat)(na nb:Bool):Sp:=⟨HL b1 xs1 ys1 na,HL b2 xs2 ys2 nb,na,nb⟩
def okW (b1:Bool)(xs1 ys1:List Nat)(b2:Bool)(xs2 ys2:List Nat)(na nb:Bool):Bool:=uB b1 xs1 ys1 na&&uB b2 xs2 ys2 nb&&!(NT b1 xs1 ys1 b2 xs2 ys2 na nb).emp
theorem DC {V:View}{v:Value}{b1:Bool}{xs1 ys1:List Nat}{b2:Bool}{xs2 ys2:List Nat}{na nb:Bool}(h:VB V v b1 xs1 ys1 b2 xs2 ys2 na nb)(m1:xs1.length<=1099511627776)(m2:ys1.length<=1099511627776)(m3:xs2.length<=1099511627776)(m4:ys2.length<=1099511627776)
  {k:Nat}(hs:(NT b1 xs1 ys1 b2 xs2 ys2 na nb).sz k)(hk:2*k<1099511627776) :
  aa prog 85 #[v] V fun r V'=>∃w,r=.tuple #[w,.bool (okW b1 xs1 ys1 b2 xs2 ys2 na nb)]/\pV V' w (NT b1 xs1 ys1 b2 xs2 ys2 na nb):=by
 obtain ⟨p,n,c,u,x,y,q,m,e,z,A,B,rfl,C,D⟩:=h;refine CT b1 p n c u x y b2 q m e z A B na nb V _ fun U l=>(yA na (C.le l) m1 m2).mono ?_;rintro r W E ⟨w,rfl,o⟩;have f:=o;obtain ⟨F,G,H,rfl⟩:=o.shape;refine ⟨_,_,_,_,rfl,fun X s=>(yA nb (D.le (l.trans (E.trans s))) m3 m4).mono ?_⟩;rintro r I J ⟨w,rfl,t⟩;have g:=t;obtain ⟨K,L,M,rfl⟩:=t.shape;have d:∀a:View,I.Le a->pV a (.agg #[.int .i64 F,.int .i64 G,.pointer H,.int .i64 K,.int .i64 L,.pointer M,.bool na,.bool nb]) (NT b1 xs1 ys1 b2 xs2 ys2 na nb):=fun a b=>⟨_,_,_,_,_,_,rfl,f.le (s.trans (J.trans b)),g.le b⟩;refine ⟨_,_,_,_,rfl,fun i=>⟨fun j a b=>(Dy (d a b) hs hk).mono ?_,fun j N O=>⟨_,?_,d N O⟩⟩,fun i P Q=>⟨_,?_,d P Q⟩⟩
 ·rintro r Y R rfl;exact ⟨_,rfl,fun S T=>⟨_,by simp [okW,i,j],d S (b.trans (R.trans T))⟩⟩
 ·simp [okW,j]
 ·simp [okW,i]
def Dp (l:L3)(s:Sp):Prop:=vm l=true/\s.can/\s.emp=false
theorem RE.raw {V:View}{v:Value}{q:Rat}{no:Bool}(h:RE V v q no)(hc:no=true->q=0):∃b xs ys,FO V v b xs ys/\uB b xs ys no=true/\HL b xs ys no=q/\(∀k,Sz k q->xs.length<=k/\ys.length<=k):=by
 cases no with
 | true=>
  exact ⟨false,[],[],h.1 rfl,rfl,by rw [hc rfl];rfl,fun k _=>⟨Qq9 _,Qq9 _⟩⟩
 | false=>
  obtain ⟨p,n,c,f,g,i,rfl,d,e⟩:=h.2 rfl;exact ⟨_,_,_,⟨_,_,_,_,_,_,rfl,d,e⟩,Fj.1,Fj.2,fun k a=>⟨ag a.1,ag a.2⟩⟩
theorem FY {V:View}{v:Value}{s:Sp}(h:JI V v s)(hc:s.can)(hne:s.emp=false){k:Nat}(hs:s.sz k)(hk:2*k<1099511627776:=by omega) :
  aa prog 85 #[v] V fun r V'=>∃w,r=.tuple #[w,.bool true]/\pV V' w s:=by
 obtain ⟨b,p,n,c,C,D,E,d,q,m,e,F,G,H,rfl,o,t⟩:=h;obtain ⟨b1,xs1,ys1,f,u,x,i⟩:=o.raw hc.1;obtain ⟨b2,xs2,ys2,j,y,z,l⟩:=t.raw hc.2;have A:b=b1:=by obtain ⟨_,_,_,_,_,_,e,-⟩:=f;injection e with e;simp at e;exact e.1
 have B:d=b2:=by obtain ⟨_,_,_,_,_,_,e,-⟩:=j;injection e with e;simp at e;exact e.1
 subst A B;have i:=i k hs.1;have l:=l k hs.2;have es:NT b xs1 ys1 d xs2 ys2 s.a s.b=s:=by unfold NT;rw [x,z]
 refine (DC (V:=V) (b1:=b) (xs1:=xs1) (ys1:=ys1) (b2:=d) (xs2:=xs2) (ys2:=ys2) (na:=s.a) (nb:=s.b) ⟨_,_,_,_,_,_,_,_,_,_,_,_,rfl,f,j⟩ (by omega) (by omega) (by omega) (by omega) (k:=k) (by rw [es];exact hs) hk).mono ?_;rintro r I J ⟨w,rfl,g⟩;rw [es] at g;exact ⟨w,by unfold okW;rw [es,u,y,hne];rfl,g⟩
theorem HA {V:View}{v:Value}{s:Sp}(h:pV V v s){k:Nat}(hs:s.sz k)(hk:k<=1099511627776):aa prog 165 #[v] V fun r V'=>JI V' r s:=by
 obtain ⟨w,y,p,z,A,q,rfl,B,l⟩:=h
 have t:∀{V:View} {v:Value} {x:Rat} {no:Bool},RA V v x->(!no)=true->RE V v x no:=fun h e=>by
  rw [Qy7] at e;subst e;exact ⟨(fun h=>nomatch h),fun _=>h⟩
 have f:∀{V:View} {x:Rat} {no:Bool},(!no)=false->RE V (.agg #[.bool false,.slice none 0 0,.slice none 0 0]) x no:=fun e=>by
  rw [Qv8] at e;subst e;exact ⟨fun _=>FO.nil,(fun h=>nomatch h)⟩
 refine xH w y p z A q s.a s.b V _ ⟨fun g I m=>(oH (B.le m) hs.1 hk).mono ?_,fun g=>⟨fun c J C=>(oH (l.le C) hs.2 hk).mono ?_,fun c K D=>?_⟩⟩
 ·rintro r L E n;have i:=n;obtain ⟨_,_,_,_,_,_,_,rfl⟩:=n.shape;refine ⟨_,_,_,_,_,_,_,rfl,fun c M o=>(oH (l.le (m.trans (E.trans o))) hs.2 hk).mono ?_,fun c N F=>?_⟩
  ·rintro r O G j;have d:=j;obtain ⟨_,_,_,_,_,_,_,rfl⟩:=j.shape;exact ⟨_,_,_,_,_,_,_,rfl,fun P u=>⟨_,_,_,_,_,_,_,_,_,_,_,_,_,_,rfl,t (i.le (o.trans (G.trans u))) g,t (d.le u) c⟩⟩
  ·exact ⟨_,_,_,_,_,_,_,_,_,_,_,_,_,_,rfl,t (i.le F) g,f c⟩
 ·rintro r Q R j;have d:=j;obtain ⟨_,_,_,_,_,_,_,rfl⟩:=j.shape;exact ⟨_,_,_,_,_,_,_,rfl,fun S H=>⟨_,_,_,_,_,_,_,_,_,_,_,_,_,_,rfl,f g,t (d.le H) c⟩⟩
 ·exact ⟨_,_,_,_,_,_,_,_,_,_,_,_,_,_,rfl,f g,f c⟩
theorem wR.Wq {V:View}{r:Value}{l:L3}(h:RL V r ((l.1:Rat)).num ((l.2.1:Rat)).num ((l.2.2:Rat)).num):RL V r l.1 l.2.1 l.2.2:=by
 simpa [Qr8] using h
theorem Bt {V:View}{v:Value}{l:L3}{s:Sp}(h:pU V v l s){k:Nat}(sl:gN k l)(hs:s.sz k)(hk:k<=1099511627776:=by omega):aa prog 94 #[v] V fun r V'=>zB V' r l s:=by
 obtain ⟨u,w,p,x,y,q,z,A,r,B,C,t,D,E,o,rfl,i,j⟩:=h;refine xF _ _ _ _ _ _ _ _ _ _ _ _ _ _ _ _ _ V _ fun F c=>(F3 (i.le c) sl.1 sl.2.1 sl.2.2 hk).mono ?_;rintro r G m d;have a:=wR.Wq d;obtain ⟨_,_,_,_,_,_,_,_,_,_,_,_,rfl⟩:=fA d;refine ⟨_,_,_,_,_,_,_,_,_,_,_,_,rfl,fun H e=>(HA (j.le (c.trans (m.trans e))) hs hk).mono ?_⟩;rintro r I n f;have b:=f;obtain ⟨_,_,_,_,_,_,_,_,_,_,_,_,_,_,rfl,-,-⟩:=f;exact ⟨_,_,_,_,_,_,_,_,_,_,_,_,_,_,_,_,rfl,fun J g=>⟨_,_,_,_,_,_,_,_,_,_,_,_,_,_,_,_,_,_,_,_,_,_,_,_,_,_,rfl,a.le (e.trans (n.trans g)),b.le g⟩⟩
theorem IB {a b c:Int}(h:¬(a=0/\b=0)):vm (u_ a b c)=true:=by
 have q:0<bF a b c:=by
  apply Wq7;intro e;have d:=Qh3.1 e;have j:=Qh3.1 d.1;exact h ⟨by omega,by omega⟩
 have f:bF a b c∣a.natAbs:=Qr6 (Qj6 _ _) (Qj6 _ _);have g:bF a b c∣b.natAbs:=Qr6 (Qj6 _ _) (Qb4 _ _);have l:bF a b c∣c.natAbs:=Qb4 _ _;have m:∀{x:Int},bF a b c∣x.natAbs->((bF a b c:Nat):Int)∣x:=fun h=>Qp0.1 (by rw [Qx4];exact h);have i:∀{x:Int},bF a b c∣x.natAbs->(x / (bF a b c:Int)).natAbs=x.natAbs / bF a b c:=fun h=>by rw [Qs1 (m h),Qx4]
 have o:∀{x:Int},bF a b c∣x.natAbs->x / (bF a b c:Int)=0->x=0:=fun r e=>by
  obtain ⟨k,p⟩:=m r;rw [p,Qg8 _ (by omega)] at e;rw [p,e,Int.mul_zero]
 have e:bF (a / (bF a b c:Int)) (b / (bF a b c:Int)) (c / (bF a b c:Int))=1:=by
  show Nat.gcd (Nat.gcd (a / (bF a b c:Int)).natAbs (b / (bF a b c:Int)).natAbs) (c / (bF a b c:Int)).natAbs=1;rw [i f,i g,i l,Nat.gcd_div f g,Nat.gcd_div (show bF a b c∣Nat.gcd a.natAbs b.natAbs from Qj6 _ _) l];exact Nat.div_self q
 have n:¬(a / (bF a b c:Int)=0/\b / (bF a b c:Int)=0):=fun ⟨d,j⟩=>h ⟨o f d,o g j⟩;show (decide (¬(a / (bF a b c:Int)=0/\b / (bF a b c:Int)=0))&&decide (bF (a / (bF a b c:Int)) (b / (bF a b c:Int)) (c / (bF a b c:Int))=1))=true;rw [decide_eq_true n,decide_eq_true e];rfl
theorem IC {a b c:Rat}(h:¬(a=0/\b=0)):vm (qL a b c)=true:=by
 refine IB ?_;have i:a.den*b.den*c.den≠0:=Qv4 (Qv4 a.den_nz b.den_nz) c.den_nz;have d:(((a.den*b.den*c.den:Nat):Int):Rat)≠0:=by exact_mod_cast i
 rintro ⟨f,g⟩;rw [Qc2] at f g;exact h ⟨(Qp1.1 f).elim id fun e=>absurd e d,(Qp1.1 g).elim id fun e=>absurd e d⟩
theorem ID {px py qx qy:Rat}(h:¬(px=qx/\py=qy)):vm (gx px py qx qy)=true:=IC (mM h)
theorem F0 {V:View}{v:Value}{x:L3}(h:RL V v x.1 x.2.1 x.2.2)(ho:vm x=true){k:Nat}(sl:gN k x)(hk:4*k+4<1099511627776:=by omega) :
  aa prog 40 #[v] V fun r V'=>∃w,r=.tuple #[w,.bool true]/\wR V' w x:=by
 obtain ⟨p,n,s,i,j,l,q,m,e,rfl,c,d,f⟩:=h;have d1:=ag (show x.1.natAbs<2^k from sl.1.1);have d2:=ag (show x.2.1.natAbs<2^k from sl.2.1.1);have d3:=ag (show x.2.2.natAbs<2^k from sl.2.2.1);have b:=DE (V:=V) (decide (x.1<0)) (decide (x.2.1<0)) (decide (x.2.2<0)) c d f (by omega) (by omega) (by omega) (k:=k) (by rw [aO];exact sl.1) (by rw [aO];exact sl.2.1) (by rw [aO];exact sl.2.2) hk;rw [IE,aO,aO,aO] at b;refine b.mono ?_;rintro r o t ⟨w,rfl,-,g⟩;have a:vm (x.1,x.2.1,x.2.2)=true:=ho;exact ⟨w,by rw [a],g a⟩
theorem mu {V:View}{v:Value}{l:L3}{s:Sp}(h:zB V v l s)(ho:Dp l s){k:Nat}(sl:gN k l)(hs:s.sz k)(hk:4*k+4<1099511627776:=by omega) :
  aa prog 39 #[v] V fun r V'=>∃w,r=.tuple #[w,.bool true]/\pU V' w l s:=by
 obtain ⟨ho,y,f⟩:=ho;obtain ⟨z,A,B,C,D,E,F,G,H,I,J,K,b,p,n,c,L,M,N,d,q,m,e,O,P,Q,rfl,R,S⟩:=h;refine CS z A B C D E F G H I J K b p n c L M N d q m e O P Q s.a s.b V _ fun W j=>(F0 (R.le j) ho sl).mono ?_;rintro r X T ⟨w,rfl,o⟩;have g:=o;obtain ⟨_,_,_,_,_,_,_,_,_,rfl,-,-,-⟩:=o;refine ⟨_,_,_,_,_,_,_,_,_,_,rfl,fun Y t=>(FY (S.le (j.trans (T.trans t))) y f hs).mono ?_⟩;rintro r Z U ⟨w,rfl,u⟩;have i:=u;obtain ⟨_,_,_,_,_,_,rfl,-,-⟩:=u;refine ⟨_,_,_,_,_,_,_,_,_,rfl,fun _ V5 x=>⟨_,rfl,_,_,_,_,_,_,_,_,_,_,_,_,_,_,_,rfl,g.le (t.trans (U.trans x)),i.le x⟩,(fun h=>nomatch h)⟩
theorem Sp.MY {s:Sp}{k:Nat}(h:s.sz k):s.neg.sz k:=by
 unfold Sp.neg Sp.sz
 have z:Sz k (0:Rat):=by
  have:=h.1.2;refine ⟨Qn2 (Qq9 _) this,?_⟩;exact Qn2 (Wq7 s.lo.den_nz) this
 constructor
 ·dsimp only;split
  ·exact z
  ·exact h.2.neg
 ·dsimp only;split
  ·exact z
  ·exact h.1.neg
theorem Hz {V:View}{v:Value}{l:L3}{s:Sp}(h:pU V v l s){k:Nat}(sl:gN k l)(hs:s.sz k)(hk:20*k+19<274877906944:=by omega) :
  aa prog 116 #[v] V fun r V'=>∃w,r=.tuple #[w,.bool (!s.b)]/\mU V' w (if s.b then 0 else Jz l s.hi) (if s.b then 0 else JA l s.hi):=by
 obtain ⟨n,u,p,x,y,q,z,A,r,B,C,t,D,E,o,rfl,d,f⟩:=h;obtain ⟨_,_,_,_,_,_,e,F,i⟩:=f;simp only [Value.agg.injEq,Qb5,Qk7,Value.int.injEq,Value.pointer.injEq,true_and,and_true] at e;obtain ⟨rfl,rfl,rfl,rfl,rfl,rfl⟩:=e;refine xG _ _ _ _ _ _ _ _ _ _ _ _ _ _ _ _ _ V _ ⟨fun a G H=>⟨_,by rw [a];rfl,by rw [a];exact ⟨_,_,_,_,_,_,rfl,RR.zero _,RR.zero _⟩⟩,fun a I c=>(Sf (d.le c) (i.le c) sl hs.2 hk).mono ?_⟩;rintro r J K g;have j:=g;obtain ⟨_,_,_,_,_,_,rfl,-,-⟩:=g;exact ⟨_,_,_,_,_,_,rfl,fun L m=>⟨_,by rw [a];rfl,by rw [a];exact j.le m⟩⟩
theorem jh {V:View}{v:Value}(h:FO V v false [] []):aa prog 130 #[v] V fun r V'=>r=.bool true:=by
 obtain ⟨p,n,c,q,m,e,rfl,a,b⟩:=h;obtain rfl:=a.len;obtain rfl:=b.len;exact yg false p _ c q _ e V _ ⟨fun _=>⟨fun _ d f=>rfl,(fun h=>nomatch h)⟩,(fun h=>nomatch h)⟩
theorem zV {V:View}{v w:Value}{s:Sp}(h:JI V v s)(h':JI V w s){k:Nat}(hs:s.sz k)(hk:k<=1099511627776) :
  aa prog 69 #[v,w] V fun r V'=>r=.bool true:=by
 obtain ⟨lo,hi,a,b⟩:=s;obtain ⟨b1,p,n,c,p',n',c',d,q,m,e,N,O,P,rfl,H,I⟩:=h;obtain ⟨b2,i,j,t,i',j',t',f,o,u,g,Q,R,S,rfl,J,K⟩:=h';dsimp only at H I J K ⊢;refine ya _ _ _ _ _ _ _ _ _ _ _ _ _ _ _ _ _ _ _ _ _ _ _ _ _ _ _ _ _ _ _ _ V _ ⟨fun _=>⟨fun _=>?_,(by intro h;simp at h)⟩,(by intro h;simp at h)⟩;have T:∀x:View,V.Le x->b=true->aa prog 130 #[.agg #[.bool d,.slice q m e,.slice N O P]] x fun r V'=>r=.bool true:=fun x z l=>jh ((I.1 l).le z);have D:∀x:View,V.Le x->b=true->aa prog 130 #[.agg #[.bool f,.slice o u g,.slice Q R S]] x fun r V'=>r=.bool true:=fun x z l=>jh ((K.1 l).le z);have U:∀x:View,V.Le x->b=false->aa prog 131 #[.agg #[.bool d,.slice q m e,.slice N O P],.agg #[.bool f,.slice o u g,.slice Q R S]] x fun r V'=>r=.bool true:=fun x z l=>(m_ ((I.2 l).le z) ((K.2 l).le z) hs.2 hk).mono fun r B _ h=>by rw [h];simp
 cases a with
 | true=>
  refine ⟨fun _ Y C=>(jh ((H.1 rfl).le C)).mono ?_,(fun h=>nomatch h)⟩;rintro r V2 W rfl;refine ⟨_,rfl,fun _ V3 X=>(jh ((J.1 rfl).le (C.trans (W.trans X)))).mono ?_,(fun h=>nomatch h)⟩;rintro r x z rfl;have L:=C.trans (W.trans (X.trans z));refine ⟨_,rfl,fun _=>⟨fun l B A=>(T B (L.trans A) l).mono ?_,fun l=>⟨fun _ B A=>(U B (L.trans A) l).mono ?_,fun y=>by rw [l] at y;cases y⟩⟩,(fun h=>nomatch h)⟩
  ·rintro r M E rfl;refine ⟨_,rfl,fun _ F G=>(D F (L.trans (A.trans (E.trans G))) l).mono ?_,(fun h=>nomatch h)⟩;rintro r Z l8 rfl;exact ⟨_,rfl,fun _ V9 l9=>rfl,(fun h=>nomatch h)⟩
  ·rintro r M E rfl;exact ⟨_,rfl,fun F G=>rfl⟩
 | false=>
  refine ⟨(fun h=>nomatch h),fun _=>⟨fun _ Y C=>(m_ ((H.2 rfl).le C) ((J.2 rfl).le C) hs.1 hk).mono ?_,(fun h=>nomatch h)⟩⟩;rintro r x z rfl;have L:=C.trans z;refine ⟨_,rfl,fun _=>⟨fun l B A=>(T B (L.trans A) l).mono ?_,fun l=>⟨fun _ B A=>(U B (L.trans A) l).mono ?_,fun y=>by rw [l] at y;cases y⟩⟩,(by intro h;simp at h)⟩
  ·rintro r M E rfl;refine ⟨_,rfl,fun _ F G=>(D F (L.trans (A.trans (E.trans G))) l).mono ?_,(fun h=>nomatch h)⟩;rintro r Z l8 rfl;exact ⟨_,rfl,fun _ V9 l9=>rfl,(fun h=>nomatch h)⟩
  ·rintro r M E rfl;exact ⟨_,rfl,fun F G=>rfl⟩
theorem xk {V:View}{v:Value}{s:Sp}(h:oB V v s){k:Nat}(hs:s.sz k)(hk:k<=1099511627776):aa prog 43 #[v] V fun r V'=>JI V' r s:=by
 obtain ⟨G,p,n,c,H,I,J,d,q,m,e,K,L,M,rfl,z,l⟩:=h
 have t:∀{V:View} {v:Value} {x:Rat} {no:Bool},RA V v x->(!no)=true->RE V v x no:=fun h e=>by
  rw [Qy7] at e;subst e;exact ⟨(fun h=>nomatch h),fun _=>h⟩
 have f:∀{V:View} {x:Rat} {no:Bool},(!no)=false->RE V (.agg #[.bool false,.slice none 0 0,.slice none 0 0]) x no:=fun e=>by
  rw [Qv8] at e;subst e;exact ⟨fun _=>FO.nil,(fun h=>nomatch h)⟩
 refine wE _ _ _ _ _ _ _ _ _ _ _ _ _ _ _ _ V _ ⟨fun g N o=>(lD (z.le o) hs.1 hk).mono ?_,fun g=>⟨fun a O A=>(lD (l.le A) hs.2 hk).mono ?_,fun a P B=>?_⟩⟩
 ·rintro r Q C u;have i:=u;obtain ⟨_,_,_,_,_,_,_,rfl⟩:=u.shape;refine ⟨_,_,_,_,_,_,_,rfl,fun a R w=>(lD (l.le (o.trans (C.trans w))) hs.2 hk).mono ?_,fun a S D=>?_⟩
  ·rintro r T E j;have b:=j;obtain ⟨_,_,_,_,_,_,_,rfl⟩:=j.shape;exact ⟨_,_,_,_,_,_,_,rfl,fun U y=>⟨_,_,_,_,_,_,_,_,_,_,_,_,_,_,rfl,t (i.le (w.trans (E.trans y))) g,t (b.le y) a⟩⟩
  ·exact ⟨_,_,_,_,_,_,_,_,_,_,_,_,_,_,rfl,t (i.le D) g,f a⟩
 ·rintro r W X j;have b:=j;obtain ⟨_,_,_,_,_,_,_,rfl⟩:=j.shape;exact ⟨_,_,_,_,_,_,_,rfl,fun Y F=>⟨_,_,_,_,_,_,_,_,_,_,_,_,_,_,rfl,f g,t (b.le F) a⟩⟩
 ·exact ⟨_,_,_,_,_,_,_,_,_,_,_,_,_,_,rfl,f g,f a⟩
theorem gN.ai {k:Nat}{l:L3}(h:gN k l)(hk:k<=1099511627776):(ai l.1.natAbs).length<=1099511627776/\(ai l.2.1.natAbs).length<=1099511627776/\(ai l.2.2.natAbs).length<=1099511627776:=by
 have d1:=ag (show l.1.natAbs<2^k from h.1.1);have d2:=ag (show l.2.1.natAbs<2^k from h.2.1.1);have d3:=ag (show l.2.2.natAbs<2^k from h.2.2.1);exact ⟨by omega,by omega,by omega⟩
theorem uo {V:View}{v:Value}{l:L3}{s:Sp}(h:RF V v l s){k:Nat}(sl:gN k l)(hs:s.sz k)(hk:k<=1099511627776):aa prog 13 #[v] V fun r V'=>zB V' r l s:=by
 obtain ⟨d1,d2,d3⟩:=sl.ai hk;obtain ⟨z,A,B,C,D,E,F,G,H,I,J,K,b,p,n,c,L,M,N,d,q,m,e,O,P,Q,rfl,u,w⟩:=h;refine tj _ _ _ _ _ _ _ _ _ _ _ _ _ _ _ _ _ _ _ _ _ _ _ _ _ _ _ _ V _ fun R g=>(BD (u.le g) d1 d2 d3).mono ?_;rintro r S x i;have a:=i;obtain ⟨_,_,_,_,_,_,_,_,_,_,_,_,rfl⟩:=fA i;refine ⟨_,_,_,_,_,_,_,_,_,_,_,_,rfl,fun T j=>(xk (w.le (g.trans (x.trans j))) hs hk).mono ?_⟩;rintro r U y o;have f:=o;obtain ⟨_,_,_,_,_,_,_,_,_,_,_,_,_,_,rfl,-,-⟩:=o;exact ⟨_,_,_,_,_,_,_,_,_,_,_,_,_,_,_,_,rfl,fun W t=>⟨_,_,_,_,_,_,_,_,_,_,_,_,_,_,_,_,_,_,_,_,_,_,_,_,_,_,rfl,a.le (j.trans (y.trans t)),f.le t⟩⟩
def Ql (V:View)(ad:Addr)(l:L3)(s:Sp):Prop:=∃xs:List Value,zB V (.agg xs.toArray) l s/\∀i x,xs[i]?=some x->V.at (ad.add i) x
theorem Ql.le {V V':View}{ad:Addr}{l:L3}{s:Sp}(h:Ql V ad l s)(e:V.Le V'):Ql V' ad l s:=by
 obtain ⟨xs,a,b⟩:=h;exact ⟨xs,a.le e,fun i x c=>e.at (b i x c)⟩
structure oD (V:View) (p:OA) (n:Nat) (fs:List (L3×Sp)):Prop where
 len:n=fs.length
 at_:∀(i:Nat)(h:i<fs.length),∃ad,ah p (i*14)=some ad/\Ql V ad fs[i].1 fs[i].2
theorem oD.le {V V':View}{p:OA}{n:Nat}{fs:List (L3×Sp)}(h:oD V p n fs)(e:V.Le V'):oD V' p n fs:=⟨h.len,fun i a=>by obtain ⟨b,c,d⟩:=h.at_ i a;exact ⟨b,c,d.le e⟩⟩
theorem aQ {p:OA}{j:Nat}{ad:Addr}(h:ah p j=some ad):p.isSome=true:=by
 cases p with
 | none=>cases h
 | some a=>rfl
theorem mX {V:View}{p q:OA}{n c m e:Nat}{fs:List (L3×Sp)}(hp:oD V p n fs)(hq:oD V q m fs){k:Nat}(sz:∀f∈fs,gN k f.1/\f.2.sz k)(hk:k<=1099511627776)(hn:fs.length<4611686018427387904:=by omega) :
  aa prog 28 #[.slice p n c,.slice q m e] V fun r V'=>r=.bool true:=by
 obtain rfl:=hp.len;obtain rfl:=hq.len;refine th p _ c q _ e V _ ⟨(by intro h;simp at h),fun _=>⟨fun z V'=>0<=z/\z<=fs.length,fun z=>(fs.length-z).toNat,⟨0,by and_intros<;>rfl,by omega,by omega⟩,?_⟩⟩;rintro z W D ⟨X,Y⟩;refine ⟨rfl,fun g=>?_,fun g Z l9=>rfl⟩;have g:z<fs.length:=of_decide_eq_true g;obtain ⟨i,rfl⟩:∃i:Nat,z=i:=⟨z.toNat,by omega⟩;have u:i<fs.length:=by omega
 rw [Qq0];have w:i64.wrap ((i:Int)+1)=(i:Int)+1:=ar (by omega);rw [w];obtain ⟨s1,s2⟩:=sz _ (Qw7 u);obtain ⟨v,y,xs,⟨b1,p1,n1,c1,b2,p2,n2,c2,b3,p3,n3,c3,bb,pp,nn,cc,XO,XI,G,dd,qq,mm,ee,XR,XF,WE,ex,H,I⟩,l⟩:=(hp.le D).at_ i u;obtain ⟨A,o,ys,⟨J,Zp,K,M,N,Zu,Su,O,P,Zv,Zk,Q,R,Zw,Zl,Y4,XP,XJ,Wz,Y6,Zx,Zj,Y7,XS,XG,WG,t,S,T⟩,s⟩:=(hq.le D).at_ i u;have ex:=congrArg Array.toList (Value.agg.inj ex);have t:=congrArg Array.toList (Value.agg.inj t);dsimp only at ex t;subst ex t;have d:=s1.ai hk;rw [y,o];refine ⟨aQ y,⟨by omega,g⟩,rfl,_,_,_,_,_,_,_,_,_,_,_,_,v.add 0,rfl,l 0 _ rfl,l 1 _ rfl,l 2 _ rfl,l 3 _ rfl,l 4 _ rfl,l 5 _ rfl,aQ o,⟨by omega,g⟩,rfl,_,_,_,_,_,_,_,_,_,_,_,_,A.add 0,rfl,s 0 _ rfl,s 1 _ rfl,s 2 _ rfl,s 3 _ rfl,s 4 _ rfl,s 5 _ rfl,fun V3 B=>(xi (H.le B) (S.le B) d.1 d.2.1 d.2.2).mono ?_⟩;rintro r E U rfl;have L:=B.trans U;have a:∀j x,_->E.at ((v.add 6).add j) x:=fun j x C=>by rw [gU];exact L.at (l (6+j) x C)
 have b:∀j x,_->E.at ((A.add 6).add j) x:=fun j x C=>by rw [gU];exact L.at (s (6+j) x C)
 refine ⟨_,rfl,(by intro h;simp at h),fun _=>⟨aQ y,⟨by omega,g⟩,rfl,_,_,_,_,_,_,_,_,_,_,_,_,_,_,_,_,v.add 6,rfl,a 0 _ rfl,a 1 _ rfl,a 2 _ rfl,a 3 _ rfl,a 4 _ rfl,a 5 _ rfl,a 6 _ rfl,a 7 _ rfl,aQ o,⟨by omega,g⟩,rfl,_,_,_,_,_,_,_,_,_,_,_,_,_,_,_,_,A.add 6,rfl,b 0 _ rfl,b 1 _ rfl,b 2 _ rfl,b 3 _ rfl,b 4 _ rfl,b 5 _ rfl,b 6 _ rfl,b 7 _ rfl,fun V6 F=>(zV (I.le (L.trans F)) (T.le (L.trans F)) s2 hk).mono ?_⟩⟩;rintro r V7 l7 rfl;exact ⟨_,rfl,(fun h=>nomatch h),fun _=>⟨(i:Int)+1,by dsimp only;omega,by and_intros<;>rfl,by omega,by omega⟩⟩
def Qm (V:View)(ad:Addr)(s:Sp):Prop:=∃xs:List Value,oB V (.agg xs.toArray) s/\∀i x,xs[i]?=some x->V.at (ad.add i) x
theorem Qm.le {V V':View}{ad:Addr}{s:Sp}(h:Qm V ad s)(e:V.Le V'):Qm V' ad s:=by
 obtain ⟨xs,a,b⟩:=h;exact ⟨xs,a.le e,fun i x c=>e.at (b i x c)⟩
structure FP (V:View) (p:OA) (n:Nat) (ss:List Sp):Prop where
 len:n=ss.length
 at_:∀(i:Nat)(h:i<ss.length),∃ad,ah p (i*8)=some ad/\Qm V ad ss[i]
theorem FP.le {V V':View}{p:OA}{n:Nat}{ss:List Sp}(h:FP V p n ss)(e:V.Le V'):FP V' p n ss:=⟨h.len,fun i a=>by obtain ⟨b,c,d⟩:=h.at_ i a;exact ⟨b,c,d.le e⟩⟩
def sG (a b:Int):Int:=if 0<a/\b<0 then 2 else if (a=0/\b<=0)\/(b=0/\0<=a) then 1 else 0
def Sp.la (s:Sp)(t:Rat):Int:=if s.a then 1 else cmpQ t s.lo
def Sp.lb (s:Sp)(t:Rat):Int:=if s.b then -1 else cmpQ t s.hi
def mN:List Sp->Rat->Int
 | [],_=>0
 | s::r,t=>if sG (s.la t) (s.lb t)≠0 then sG (s.la t) (s.lb t) else mN r t
theorem xj {V:View}{p:OA}{n c:Nat}{v:Value}{ss:List Sp}{t:Rat}(hl:FP V p n ss)(ht:RQ V v t){k:Nat}(hs:∀s∈ss,s.sz k)(st:Sz k t)(hk:2*k<274877906944)(hn:ss.length<4611686018427387904) :
  aa prog 60 #[.slice p n c,v] V fun r V'=>r=.int .i64 (mN ss t):=by
 obtain rfl:=hl.len;have m:=ht;obtain ⟨_,_,_,_,_,_,rfl⟩:=ht.shape;refine wD p _ c _ _ _ _ _ _ _ V _ ⟨fun z V'=>0<=z/\z<=ss.length/\mN ss t=mN (ss.drop z.toNat) t,fun z=>(ss.length-z).toNat,⟨0,by and_intros<;>rfl,by omega,by omega,rfl⟩,?_⟩;rintro z H q ⟨I,J,g⟩;refine ⟨rfl,fun l=>?_,fun l K L=>?_⟩
 ·have l:z<ss.length:=of_decide_eq_true l;obtain ⟨i,rfl⟩:∃i:Nat,z=i:=⟨z.toNat,by omega⟩;have u:i<ss.length:=by omega
  rw [Qq0] at g ⊢;have w:i64.wrap ((i:Int)+1)=(i:Int)+1:=ar (by omega);rw [w];have x:=hs _ (Qw7 u);obtain ⟨C,d,xs,⟨M,pp,N,O,P,Q,D,R,S,T,U,W,X,Y,ex,E,F⟩,f⟩:=(hl.le q).at_ i u;have ex:=congrArg Array.toList (Value.agg.inj ex);dsimp only at ex;subst ex;rw [Qw1 u] at g;generalize ss[i]=s at *;simp only [mN] at g;refine ⟨aQ d,⟨by omega,l⟩,_,_,_,_,_,_,_,_,_,_,_,_,_,_,s.a,s.b,C,by rw [d],f 0 _ rfl,f 1 _ rfl,f 2 _ rfl,f 3 _ rfl,f 4 _ rfl,f 5 _ rfl,f 6 _ rfl,f 7 _ rfl,fun z _=>z=s.la t,⟨fun h Z y=>(my (m.le (q.trans y)) (E.le y) st x.1).mono ?_,fun h=>⟨1,by and_intros<;>rfl,?_⟩⟩,?_⟩
  ·rintro r V3 l3 rfl;exact ⟨_,rfl,_,by and_intros<;>rfl,by unfold Sp.la;rw [Qy7] at h;rw [h];rfl⟩
  ·unfold Sp.la;rw [Qv8] at h;rw [h];rfl
  rintro za V4 A rfl;refine ⟨rfl,fun z _=>z=s.lb t,⟨fun h V5 B=>(my (m.le (q.trans (A.trans B))) (F.le (A.trans B)) st x.2).mono ?_,fun h=>⟨-1,by and_intros<;>rfl,?_⟩⟩,?_⟩
  ·rintro r V6 l6 rfl;exact ⟨_,rfl,_,by and_intros<;>rfl,by unfold Sp.lb;rw [Qy7] at h;rw [h];rfl⟩
  ·unfold Sp.lb;rw [Qv8] at h;rw [h];rfl
  rintro zb V7 l7 rfl;generalize s.la t=a at *;generalize s.lb t=b at *;refine ⟨rfl,fun z _=>z=decide (0<a/\b<0),⟨fun h=>⟨_,by and_intros<;>rfl,?_⟩,fun h=>⟨_,by and_intros<;>rfl,?_⟩⟩,?_⟩
  ·have h:0<a:=of_decide_eq_true h;simp [h]
  ·have h:¬0<a:=of_decide_eq_false h;simp [h]
  rintro z9 V8 l8 rfl;refine ⟨rfl,fun h V9 l9=>?_,fun h=>⟨fun z _=>z=decide ((a=0/\b<=0)\/(b=0/\0<=a)),⟨fun d=>⟨fun o=>⟨_,by and_intros<;>rfl,?_⟩,fun o=>⟨fun e=>⟨_,by and_intros<;>rfl,?_⟩,fun e=>⟨_,by and_intros<;>rfl,?_⟩⟩⟩,fun d=>⟨fun e=>⟨_,by and_intros<;>rfl,?_⟩,fun e=>⟨_,by and_intros<;>rfl,?_⟩⟩⟩,?_⟩⟩
  ·have h:=of_decide_eq_true h;rw [g];simp [sG,h]
  ·simp at d o;simp [d,o]
  ·simp at d o e;simp [d,e]
  ·simp at d o e;simp [d,e];omega
  ·simp at d e;simp [d,e]
  ·simp at d e;simp [d,e]
  rintro ZJ fK G rfl;have h:=of_decide_eq_false h;refine ⟨rfl,fun j eO bA=>?_,fun j=>⟨(i:Int)+1,by dsimp only;omega,by and_intros<;>rfl,by omega,by omega,?_⟩⟩
  ·have j:=of_decide_eq_true j;rw [g];have:sG a b=1:=by unfold sG;rw [if_neg h,if_pos j]
   rw [this];rfl
  ·have j:=of_decide_eq_false j;have:sG a b=0:=by unfold sG;rw [if_neg h,if_neg j]
   rw [g,this];show _=mN (ss.drop ((i:Int)+1).toNat) t;rw [show ((i:Int)+1).toNat=i+1 from by omega];rfl
 ·have l:¬z<ss.length:=of_decide_eq_false l;rw [g,show z.toNat=ss.length from by omega,List.drop_length];rfl
theorem cmpQ_swap (x y:Rat):cmpQ y x=- cmpQ x y:=by
 unfold cmpQ;rw [show y-x=-(x-y) from by grind];exact Int.sign_neg _
theorem Fq {V:View}{r:Value}{l:L3}(h:RL V r (-l.1) (-l.2.1) (-l.2.2)):RL V r (revL l).1 (revL l).2.1 (revL l).2.2:=h
theorem nF {V:View}{v:Value}{q:Rat}(h:RQ V v q):aa prog 80 #[v] V fun r V'=>RQ V' r (-q):=by
 obtain ⟨p,n,c,d,e,f,rfl,a,b⟩:=h;exact jX q a b
theorem BE {V:View}{v:Value}{l:L3}{s:Sp}(h:RF V v l s):aa prog 64 #[v] V fun r V'=>RF V' r (revL l) s.neg:=by
 obtain ⟨W,X,Y,Z,b2,p2,n2,c2,b3,p3,n3,c3,b,p,n,c,p',n',c',d,q,m,e,q',m',e',rfl,y,O⟩:=h;obtain ⟨_,_,_,_,_,_,_,_,_,_,_,_,_,_,F,G,P⟩:=O;simp only [Value.agg.injEq,Qb5,Qk7,Value.bool.injEq,Value.slice.injEq,true_and,and_true] at F;obtain ⟨rfl,⟨rfl,rfl,rfl⟩,⟨rfl,rfl,rfl⟩,rfl,⟨rfl,rfl,rfl⟩,⟨rfl,rfl,rfl⟩⟩:=F;have z:∀V:View,RQ V (.agg #[.bool false,.slice none 0 0,.slice none 0 0]) 0:=fun V=>by have:=RQ.zero (V:=V);simpa using this
 have t:∀{V:View} {v:Value} {x:Rat} {no:Bool},RQ V v (-x)->(!no)=true->RQ V v (if no=true then 0 else -x):=fun h e=>by
  rw [Qy7] at e;rw [e];exact h
 have f:∀{V:View} {x:Rat} {no:Bool},(!no)=false->RQ V (.agg #[.bool false,.slice none 0 0,.slice none 0 0]) (if no=true then 0 else -x):=fun e=>by
  rw [Qv8] at e;rw [e];exact z _
 refine A6 _ _ _ _ _ _ _ _ _ _ _ _ _ _ _ _ _ _ _ _ _ _ _ _ _ _ _ _ V _ ⟨fun k V1 A=>(nF (P.le A)).mono ?_,fun k=>⟨fun g eO H=>(nF (G.le H)).mono ?_,fun g rz Q=>(jg (y.le Q)).mono ?_⟩⟩
 ·rintro r V2 B I;have o:=I;obtain ⟨_,_,_,_,_,_,rfl⟩:=I.shape;refine ⟨_,_,_,_,_,_,_,rfl,fun g V3 C=>(nF (G.le (A.trans (B.trans C)))).mono ?_,fun g V8 J=>(jg (y.le (A.trans (B.trans J)))).mono ?_⟩
  ·rintro r V4 K u;have i:=u;obtain ⟨_,_,_,_,_,_,rfl⟩:=u.shape;refine ⟨_,_,_,_,_,_,_,rfl,fun V5 D=>(jg (y.le (A.trans (B.trans (C.trans (K.trans D)))))).mono ?_⟩;rintro r V6 L a;have j:=Fq a;obtain ⟨_,_,_,_,_,_,_,_,_,_,_,_,rfl⟩:=fA a;exact ⟨_,_,_,_,_,_,_,_,_,_,_,_,rfl,fun V7 E=>⟨_,_,_,_,_,_,_,_,_,_,_,_,_,_,_,_,_,_,_,_,_,_,_,_,_,_,rfl,j.le E,_,_,_,_,_,_,_,_,_,_,_,_,_,_,rfl,t (o.le (C.trans (K.trans (D.trans (L.trans E))))) k,t (i.le (D.trans (L.trans E))) g⟩⟩
  ·rintro r V9 R a;have j:=Fq a;obtain ⟨_,_,_,_,_,_,_,_,_,_,_,_,rfl⟩:=fA a;exact ⟨_,_,_,_,_,_,_,_,_,_,_,_,rfl,fun fK w=>⟨_,_,_,_,_,_,_,_,_,_,_,_,_,_,_,_,_,_,_,_,_,_,_,_,_,_,rfl,j.le w,_,_,_,_,_,_,_,_,_,_,_,_,_,_,rfl,t (o.le (J.trans (R.trans w))) k,f g⟩⟩
 ·rintro r gW S u;have i:=u;obtain ⟨_,_,_,_,_,_,rfl⟩:=u.shape;refine ⟨_,_,_,_,_,_,_,rfl,fun lx M=>(jg (y.le (H.trans (S.trans M)))).mono ?_⟩;rintro r mr T a;have j:=Fq a;obtain ⟨_,_,_,_,_,_,_,_,_,_,_,_,rfl⟩:=fA a;exact ⟨_,_,_,_,_,_,_,_,_,_,_,_,rfl,fun mV N=>⟨_,_,_,_,_,_,_,_,_,_,_,_,_,_,_,_,_,_,_,_,_,_,_,_,_,_,rfl,j.le N,_,_,_,_,_,_,_,_,_,_,_,_,_,_,rfl,f k,t (i.le (M.trans (T.trans N))) g⟩⟩
 ·rintro r pR dR a;have j:=Fq a;obtain ⟨_,_,_,_,_,_,_,_,_,_,_,_,rfl⟩:=fA a;exact ⟨_,_,_,_,_,_,_,_,_,_,_,_,rfl,fun wS U=>⟨_,_,_,_,_,_,_,_,_,_,_,_,_,_,_,_,_,_,_,_,_,_,_,_,_,_,rfl,j.le U,_,_,_,_,_,_,_,_,_,_,_,_,_,_,rfl,f k,f g⟩⟩
theorem Jp {px py qx qy:Rat}:((mh px py qx qy).1.num / (bF (mh px py qx qy).1.num (mh px py qx qy).2.1.num (mh px py qx qy).2.2.num:Int),(mh px py qx qy).2.1.num / (bF (mh px py qx qy).1.num (mh px py qx qy).2.1.num (mh px py qx qy).2.2.num:Int),(mh px py qx qy).2.2.num / (bF (mh px py qx qy).1.num (mh px py qx qy).2.1.num (mh px py qx qy).2.2.num:Int))=gx px py qx qy:=by
 unfold mh gx qL u_;have e:∀x:Rat,(-x).den=x.den:=fun x=>rfl;rw [e (-(qy-py)*px+(qx-px)*py)];rfl
theorem Jq {px py qx qy:Rat}:((mh px py qx qy).1.num=0/\(mh px py qx qy).2.1.num=0)↔(px=qx/\py=qy):=by
 unfold mh;dsimp only;generalize hf:(-(qy-py)).den*(qx-px).den*(-(-(qy-py)*px+(qx-px)*py)).den=f;have b:f≠0:=by rw [←hf];exact Qv4 (Qv4 (Rat.den_nz _) (Rat.den_nz _)) (Rat.den_nz _)
 have a:((f:Int):Rat)≠0:=by exact_mod_cast b
 rw [Qc2,Qc2,Qp1,Qp1,or_iff_left a,or_iff_left a];exact FG.symm
theorem GM {V:View}{u w:Value}{px py qx qy:Rat}(hp:RP V u px py)(hq:RP V w qx qy){k:Nat}(s1:Sz k px)(s2:Sz k py)(s3:Sz k qx)(s4:Sz k qy)(hk1:1<=k)(hk:64*k+64<274877906944:=by omega) :
  aa prog 37 #[u,w] V fun r V'=>(px=qx/\py=qy->∃l,r=.tuple #[l,.bool false]/\RL V' l 0 0 0)/\(¬(px=qx/\py=qy)->∃l,r=.tuple #[l,.bool true]/\RL V' l (gx px py qx qy).1 (gx px py qx qy).2.1 (gx px py qx qy).2.2):=by
 refine (lf hp hq s1 s2 s3 s4 hk1 hk).mono ?_;rintro r d f ⟨a,b⟩;have e:=Jp (px:=px) (py:=py) (qx:=qx) (qy:=qy);rw [Jq] at a b;refine ⟨a,fun h=>?_⟩;obtain ⟨l,c,g⟩:=b h;rw [←e];exact ⟨l,c,g⟩
theorem sF {V:View}{u v:Value}{px py qx qy:Rat}(hp:RP V u px py)(hq:RP V v qx qy){k:Nat}(s1:Sz k px)(s2:Sz k py)(s3:Sz k qx)(s4:Sz k qy)(hk1:1<=k)(hk:400*k+400<274877906944:=by omega) :
  aa prog 33 #[u,v] V fun r V'=>(px=qx/\py=qy->∃l,r=.tuple #[l,.bool false]/\RF V' l (0,0,0) Sp.zero)/\(¬(px=qx/\py=qy)->∃l,r=.tuple #[l,.bool true]/\RF V' l (gx px py qx qy) (xu px py qx qy)):=by
 have a:=hp;have b:=hq;obtain ⟨_,_,_,_,_,_,_,_,_,_,_,_,_,_,rfl⟩:=mc hp;obtain ⟨_,_,_,_,_,_,_,_,_,_,_,_,_,_,rfl⟩:=mc hq;refine q_ _ _ _ _ _ _ _ _ _ _ _ _ _ _ _ _ _ _ _ _ _ _ _ _ _ _ _ _ V _ fun A d=>(GM (a.le d) (b.le d) s1 s2 s3 s4 hk1).mono ?_;rintro r B p ⟨x,y⟩;by_cases h:px=qx/\py=qy
 ·obtain ⟨l,rfl,e⟩:=x h;obtain ⟨_,_,_,_,_,_,_,_,_,_,_,_,rfl⟩:=fA e;have z:∀V:View,RQ V (.agg #[.bool false,.slice none 0 0,.slice none 0 0]) 0:=fun V=>by have:=RQ.zero (V:=V);simpa using this
  refine ⟨_,_,_,_,_,_,_,_,_,_,_,_,_,rfl,fun _ C D=>⟨fun _=>⟨_,rfl,?_⟩,fun g=>absurd h g⟩,fun h=>nomatch h⟩;exact ⟨_,_,_,_,_,_,_,_,_,_,_,_,_,_,_,_,_,_,_,_,_,_,_,_,_,_,rfl,⟨_,_,_,_,_,_,_,_,_,rfl,RD.nil,RD.nil,RD.nil⟩,_,_,_,_,_,_,_,_,_,_,_,_,_,_,rfl,z _,z _⟩
 ·obtain ⟨l,rfl,e⟩:=y h;have i:=e;have sl:=mL s1 s2 s3 s4 h;have q:=FH h;obtain ⟨_,_,_,_,_,_,_,_,_,_,_,_,rfl⟩:=fA e;refine ⟨_,_,_,_,_,_,_,_,_,_,_,_,_,rfl,(fun h=>nomatch h),fun _ E c=>(Fp (i.le c) (a.le (d.trans (p.trans c))) q sl (Sz.mono s1) (Sz.mono s2)).mono ?_⟩;rintro r F j s;have m:=s;obtain ⟨_,_,_,_,_,_,rfl⟩:=s.shape;refine ⟨_,_,_,_,_,_,_,rfl,fun G f=>(Fp (i.le (c.trans (j.trans f))) (b.le (d.trans (p.trans (c.trans (j.trans f))))) q sl (Sz.mono s3) (Sz.mono s4)).mono ?_⟩;rintro r H t w;have n:=w;obtain ⟨_,_,_,_,_,_,rfl⟩:=w.shape;refine ⟨_,_,_,_,_,_,_,rfl,fun I o=>⟨fun g=>absurd g h,fun _=>⟨_,rfl,?_⟩⟩⟩;exact ⟨_,_,_,_,_,_,_,_,_,_,_,_,_,_,_,_,_,_,_,_,_,_,_,_,_,_,rfl,i.le (c.trans (j.trans (f.trans (t.trans o)))),_,_,_,_,_,_,_,_,_,_,_,_,_,_,rfl,m.le (f.trans (t.trans o)),n.le o⟩
end Go.Proofs.Tryz
