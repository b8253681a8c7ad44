import Derived.Test.YtlhmddanbgcbjaaGreatDoorL18
import Derived.Test.YtlhmddanbgcbjaaGreatDoorL16
import Derived.Test.YtlhmddanbgcbjaaGreatDoorL17
import Derived.Test.YtlhmddanbgcbjaaGreatDoorL9
import Derived.Test.YtlhmddanbgcbjaaGreatDoorL5
import Derived.Test.YtlhmddanbgcbjaaGreatDoorL19
import Derived.Test.YtlhmddanbgcbjaaGreatDoorL15
import Derived.Test.YtlhmddanbgcbjaaGreatDoorL11
import Derived.Test.YtlhmddanbgcbjaaGreatDoorL13
import Derived.Test.YtlhmddanbgcbjaaGreatDoorL7
import Derived.Test.YtlhmddanbgcbjaaGreatDoorL14
set_option linter.all false
open Go.IntKind (i64 u64 u32)
namespace Go.Proofs.Tryz
open Go.Eng Go.Big
open Go.Value renaming slice→qD,agg→hF,bool→dQ,pointer→dZ,tuple→dB,int→qvZ
variable{V:View}{v:Value}{k:Nat}{p:OA}
theorem kT {q:Rat}(h:RQ V v q):aa prog 107 #[v] V λr V'=>r=qvZ .i64 q.num.sign:=by obtain ⟨_,_,_,_,_,_,rfl,a,-⟩:=h;exact qH q a
theorem tS {p:Rat×Rat}(h:RP V v p.1 p.2):aa prog 213 #[v] V λr V'=>r=qvZ .i64 (au.half p):=by obtain ⟨_,_,_,_,_,_,_,_,_,_,_,_,rfl,g,i⟩:=h;refine DJ V _ λw f=>(kT (g.le f)).s ?_;rintro r V2 j rfl;refine ⟨_,rfl,λx k=>(kT (i.le (f.m (j.m k)))).s ?_⟩;rintro r y A rfl;have key:∀z:Int,(z=if p.2.num.sign>0\/p.2.num.sign=0/\p.1.num.sign>0 then 1 else if p.2.num.sign<0\/p.1.num.sign<0 then 2 else 0)->Value.int .i64 z=qvZ .i64 (au.half p):=λz e=>by{rw [e];rfl};refine ⟨_,rfl,λa=>?_,λa=>?_⟩;{have a:p.1.num.sign=0:=by{simpa using a};refine ⟨λb B C=>key _ ?_,λb=>⟨λc l m=>key _ ?_,λc=>⟨λd=>⟨λe n o=>key _ ?_,λe q s=>key _ ?_⟩,λd t u=>key _ ?_⟩⟩⟩;{have b:p.2.num.sign=0:=by{simpa using b};rw [if_neg (by omega),if_neg (by omega)]};{have c:p.2.num.sign>0:=of_decide_eq_true c;rw [if_pos (.inl c)]};{have b:¬p.2.num.sign=0:=by{simpa using b};have d:p.2.num.sign=0:=by{simpa using d};exact absurd d b};{have b:¬p.2.num.sign=0:=by{simpa using b};have d:p.2.num.sign=0:=by{simpa using d};exact absurd d b};{have b:¬p.2.num.sign=0:=by{simpa using b};have c:¬p.2.num.sign>0:=of_decide_eq_false c;rw [if_neg (by omega),if_pos (by omega)]}};{have a:¬p.1.num.sign=0:=by{simpa using a};refine ⟨λc l m=>key _ ?_,λc=>⟨λd=>⟨λe n o=>key _ ?_,λe q s=>key _ ?_⟩,λd t u=>key _ ?_⟩⟩;{have c:p.2.num.sign>0:=of_decide_eq_true c;rw [if_pos (.inl c)]};{have d:p.2.num.sign=0:=by{simpa using d};have e:p.1.num.sign>0:=of_decide_eq_true e;rw [if_pos (.inr ⟨d,e⟩)]};{have d:p.2.num.sign=0:=by{simpa using d};have e:¬p.1.num.sign>0:=of_decide_eq_false e;rw [if_neg (by omega),if_pos (by omega)]};{have d:¬p.2.num.sign=0:=by{simpa using d};have c:¬p.2.num.sign>0:=of_decide_eq_false c;rw [if_neg (by omega),if_pos (by omega)]}}
theorem YY (q:Rat):-1<=q.num.sign/\q.num.sign<=1:=by rcases Qg4 q.num 0 with h|h|h;{rw [Qc0 h];omega};{rw [h];decide};{rw [Qf0 h];omega}
theorem CT {w:un}{a b:Rat×Rat}(h:RP V v a.1 a.2)(h':RP V w b.1 b.2)(s1:Sz k a.1)(s2:Sz k a.2)(s3:Sz k b.1)(s4:Sz k b.2)(hk:4*k+4<274877906944:=by omega) :
  aa prog 176 #[v,w] V λr V'=>r=qvZ .i64 (au.kt a b):=by have f:=h;have c:=h';obtain ⟨_,_,_,_,_,_,_,_,_,_,_,_,rfl,-⟩:=h;obtain ⟨_,_,_,_,_,_,_,_,_,_,_,_,rfl,-⟩:=h';refine Ch V _ λs e=>(tS (f.le e)).s ?_;rintro r V2 i rfl;refine ⟨_,rfl,λt j=>(tS (c.le (e.m (i.m j)))).s ?_⟩;rintro r u n rfl;have l:=e.m (i.m (j.m n));refine ⟨_,rfl,λg=>⟨λd x y=>?_,λd z A=>?_⟩,λg B m=>(gK (f.le (l.m m)) (c.le (l.m m)) s1 s2 s3 s4 hk).s ?_⟩;{unfold au.kt;rw [if_pos (of_decide_eq_true d)]};{have g:au.half a≠au.half b:=by{simpa using g};have d:¬au.half a<au.half b:=of_decide_eq_false d;unfold au.kt;rw [if_neg d,if_pos (by omega)]};{have g:au.half a=au.half b:=by{simpa using g};rintro r C D gc;have o:=gc;obtain ⟨_,_,_,_,_,_,rfl⟩:=gc.shape;refine qyW ⟨rfl,λE p=>(kT (o.le p)).s ?_⟩;rintro r F q rfl;refine ⟨_,rfl,λG H=>?_⟩;have I:=YY (a.1*b.2-a.2*b.1);rw [aw (by omega)];unfold au.kt;rw [if_neg (by omega),if_neg (by omega)];show _=Value.int .i64 (-(a.1*b.2-a.2*b.1).num.sign);congr 1;omega}
theorem HF {p:Rat×Rat}(h:RP V v p.1 p.2)(s1:Sz k p.1)(s2:Sz k p.2)(hk:k<=1099511627776:=by omega):aa prog 53 #[v] V λr V'=>RP V' r (-p.1) (-p.2):=by obtain ⟨_,_,_,_,_,_,_,_,_,_,_,_,rfl,f,i⟩:=h;refine GX V _ λn b=>(kS (f.le b) s1 hk).s ?_;rintro r V2 j g;have l:=g;obtain ⟨_,_,_,_,_,_,rfl⟩:=g.shape;refine qyW ⟨rfl,λo c=>(kS (i.le (b.m (j.m c))) s2 hk).s ?_⟩;rintro r q m d;have a:=d;obtain ⟨_,_,_,_,_,_,rfl⟩:=d.shape;exact qyW ⟨rfl,λs e=>⟨_,_,_,_,_,_,_,_,_,_,_,_,rfl,l.le (c.m (m.m e)),a.le e⟩⟩
theorem Ah {pv vv:un}{p v:Rat×Rat}{k:Nat}(hk1:1000<=k)(hk:16*k+16<274877906944)(s1:Sz k p.1)(s2:Sz k p.2)(s3:Sz k v.1)(s4:Sz k v.2){t:Tr}{q:OA}(h:RW V q t)(ha:t.dT Bd)(hp:RP V pv p.1 p.2)(hv:RP V vv v.1 v.2) :
  aa prog 52 #[dZ q,pv,vv] V λr V'=>r=dB #[dQ (au.qn t p v).1,dQ (au.qn t p v).2]:=by
 have w:=hp;have x:=hv;obtain ⟨_,_,_,_,_,_,_,_,_,_,_,_,rfl,-⟩:=hp;obtain ⟨_,_,_,_,_,_,_,_,_,_,_,_,rfl,-⟩:=hv;refine yQ V _ ⟨λz k V'=>∃n,RW V' z n/\n.dT Bd/\k=n.size/\au.qn n p v=au.qn t p v,⟨q,t.size,by and_intros<;>rfl,t,h,ha,rfl,rfl⟩,?_⟩;rintro z m X Y ⟨n,Z,y,rfl,e⟩;rw [←e];clear e h ha t
 cases n with
 | leaf i=>
  have ⟨is,g0,g1⟩:=kh Z;exact ⟨rfl,is,is,_,g0,(λh=>by cases h),λ_=>⟨is,is,_,g1,λV5 l5=>rfl⟩⟩
 | node ln a b=>
  obtain ⟨A,i,B,C,D,E,F,G,H,I,J,K,L,M,pl,pr,rfl,s,hl,N,O⟩:=Z;obtain ⟨P,Q,R⟩:=y;have sl:=P.fF
  have c:∀{W:ut},X.Le W->∀j v,([dQ B,qD C D E,dQ F,qD G H I,dQ J,qD K L M]:pz un)[j]?=some v->W.at (((⟨A,0,none⟩:Addr).add 2).add j) v:=by
   intro W hW j v hv;rw [zM,add_zero'];refine dH (xs:=[_,_,_,_,_,_,_,_,_,_]) (hW _ _ s) ?_;have hj:j<6:=(Qw9.1 hv).1
   match j,hj,hv with
   | 0,_,h=>exact h
   | 1,_,h=>exact h
   | 2,_,h=>exact h
   | 3,_,h=>exact h
   | 4,_,h=>exact h
   | 5,_,h=>exact h
  have o:=View.Le.refl X;refine ⟨rfl,rfl,rfl,false,yk s 0 rfl,λ_=>⟨rfl,rfl,B,C,D,E,F,G,H,I,J,K,L,M,(⟨A,0,none⟩:Addr).add 2,rfl,c o 0 _ rfl,c o 1 _ rfl,c o 2 _ rfl,c o 3 _ rfl,c o 4 _ rfl,c o 5 _ rfl,λV2 S=>(Bu (hl.le S) (w.le (Y.m S)) (k:=k) ⟨sl.1.s hk1,sl.2.1.s hk1,sl.2.2.s hk1⟩ s1 s2 hk).s ?_⟩,(λh=>by cases h)⟩;rintro r V3 l3 rfl;have d:=S.m l3;refine ⟨_,rfl,λz _=>z=au.Li ln p v,⟨λg=>?_,λg=>?_⟩,?_⟩
  ·have g:(aq ln p.1 p.2).num.sign=0:=by{simpa using g};refine ⟨rfl,rfl,B,C,D,E,F,G,H,I,J,K,L,M,(⟨A,0,none⟩:Addr).add 2,rfl,c d 0 _ rfl,c d 1 _ rfl,c d 2 _ rfl,c d 3 _ rfl,c d 4 _ rfl,c d 5 _ rfl,λV4 l4=>(dw (hl.le (d.m l4)) sl.1 sl.2.1 sl.2.2).s ?_⟩;rintro r V5 l5 gd;have T:RP V5 r (au.aM ln).1 (au.aM ln).2:=gd;obtain ⟨_,_,_,_,_,_,_,_,_,_,_,_,rfl,-⟩:=gd;refine qyZ ⟨rfl,λV6 l6=>(gK (T.le l6) (x.le (Y.m (d.m (l4.m (l5.m l6))))) (k:=k) (sl.2.1.s hk1) (sl.1.neg.s hk1) s3 s4).s ?_⟩;rintro r V7 l7 gc;have Wh:=gc;obtain ⟨_,_,_,_,_,_,rfl⟩:=gc.shape;refine qyW ⟨rfl,λV8 l8=>(kT (Wh.le l8)).s ?_⟩;rintro r V9 l9 rfl;refine ⟨_,rfl,_,by and_intros<;>rfl,?_⟩;unfold au.Li;rw [if_pos g,au.MM];rfl
  ·have g:¬(aq ln p.1 p.2).num.sign=0:=λh=>by{rw [h] at g;cases g};refine ⟨_,by and_intros<;>rfl,?_⟩;unfold au.Li;rw [if_neg g]
  ·rintro z fy U rfl;have u:=d.m U;refine ⟨rfl,λf=>⟨rfl,rfl,pl,yk (u _ _ s) 8 rfl,pl,a.size,by simp only [Tr.size];omega,by and_intros<;>rfl,a,N.le u,Q,rfl,?_⟩,λf=>⟨λl=>⟨rfl,rfl,pr,yk (u _ _ s) 9 rfl,pr,b.size,by simp only [Tr.size];omega,by and_intros<;>rfl,b,O.le u,R,rfl,?_⟩,λl iT d=>?_⟩⟩;{have f:au.Li ln p v=1:=by{simpa using f};simp only [au.qn];rw [if_pos f]};{have f:¬au.Li ln p v=1:=by{simpa using f};have l:au.Li ln p v=-1:=by{simpa using l};simp only [au.qn];rw [if_neg f,if_pos l]};{have f:¬au.Li ln p v=1:=by{simpa using f};have l:¬au.Li ln p v=-1:=by{simpa using l};simp only [au.qn];rw [if_neg f,if_neg l]}
theorem qP {n:Nat}{al:pz L3}(h:bE 6 bM V p n al){i:Nat}(hi:i<al.length) :
  p.isSome=true/\∃(b1:md)(p1:OA)(n1 c1:Nat)(b2:md)(p2:OA)(n2 c2:Nat)(b3:md)(p3:OA)(n3 c3:Nat)(a:Addr),ae p (i*6)=some a/\V.at (a.add 0) (dQ b1)/\V.at (a.add 1) (qD p1 n1 c1)/\V.at (a.add 2) (dQ b2)/\V.at (a.add 3) (qD p2 n2 c2)/\V.at (a.add 4) (dQ b3)/\V.at (a.add 5) (qD p3 n3 c3) /\
   bM V (hF #[dQ b1,qD p1 n1 c1,dQ b2,qD p2 n2 c2,dQ b3,qD p3 n3 c3]) al[i]:=by have ⟨g,d,xs,j,f,b⟩:=h.at_ i hi;have c:=f;have ⟨_,_,_,_,_,_,_,_,_,_,_,_,e⟩:=bD f;have e:=congrArg Array.toList (Value.agg.inj e);subst e;refine ⟨?_,_,_,_,_,_,_,_,_,_,_,_,_,g,d,b 0 _ rfl,b 1 _ rfl,b 2 _ rfl,b 3 _ rfl,b 4 _ rfl,b 5 _ rfl,c⟩;(cases p with|none=>{cases d}|some a=>rfl)
theorem Gy {l m:L3}(sl:kH k l)(sm:kH k m):Sz (20*k+20) (Ow l m)/\Sz (20*k+20) (Ox l m):=by obtain ⟨a,b,e⟩:=sl;obtain ⟨c,d,f⟩:=sm;exact ⟨(Sz.mul ((b.mul f).sub (e.mul d)) (fw ((a.mul d).sub (b.mul c)))).s (by omega),(Sz.mul ((e.mul c).sub (a.mul f)) (fw ((a.mul d).sub (b.mul c)))).s (by omega)⟩
theorem H2 {q:L3->Prop}(hq:∀l,q l->q (cJ l)){ls:pz L3}(h:∀l∈ls,q l):∀l∈bV ls,q l:=λl a=>by grind [nY]
def LL:L3:=(0,1,0)
theorem Zw:cW LL=true:=by decide
theorem BG {z:Int}(k:Nat)(hk:k≠0)(h:z.natAbs<=1):z.natAbs<2^k:=Qm0 h (Qc8 hk)
theorem W_ (k:Nat)(hk:k≠0):LL.1.natAbs<2^k/\LL.2.1.natAbs<2^k/\LL.2.2.natAbs<2^k:=⟨BG k hk (by decide),BG k hk (by decide),BG k hk (by decide)⟩
theorem Pt:Bd LL:=W_ 1000 (by decide)
theorem tN {a b c:Int}(h:RL V v a b c):∃(b1:md)(p1:OA)(n1 c1:Nat)(b2:md)(p2:OA)(n2 c2:Nat)(b3:md)(p3:OA)(n3 c3:Nat),v=hF #[dQ b1,qD p1 n1 c1,dQ b2,qD p2 n2 c2,dQ b3,qD p3 n3 c3]:=by obtain ⟨p,n,s,d,f,g,q,m,e,rfl,-⟩:=h;grind
theorem Fz {u w:un}(hp:RP V u ((0:Int):Rat) ((0:Int):Rat))(hq:RP V w ((1:Int):Rat) ((0:Int):Rat)) :
  aa prog 30 #[u,w] V λr V'=>∃l,r=dB #[l,dQ true]/\RL V' l LL.1 LL.2.1 LL.2.2:=by have a:Sz 1 ((0:Int):Rat):=by{unfold Sz;decide};have s1:Sz 1 ((1:Int):Rat):=Lq;refine (jM hp hq a a s1 a (by omega)).s ?_;have b:(oS ((0:Int):Rat) ((0:Int):Rat) ((1:Int):Rat) ((0:Int):Rat)).1.num=0:=by{decide +kernel};have c:(oS ((0:Int):Rat) ((0:Int):Rat) ((1:Int):Rat) ((0:Int):Rat)).2.1.num=1:=by{decide +kernel};have d:(oS ((0:Int):Rat) ((0:Int):Rat) ((1:Int):Rat) ((0:Int):Rat)).2.2.num=0:=by{decide +kernel};rw [b,c,d];rintro r V' _ ⟨-,h⟩;exact h (by omega)
theorem uA {p:L3->Prop}:∀{t:Tr} {k:Nat},t.dT p->∀x∈wr k t,p x.ln
 | .leaf _,_,_,x,h=>by simp [wr] at h
 | .node l a b,k,⟨h1,h2,h3⟩,x,h=>by
  simp only [wr,Qq5,Qw3] at h;rcases h with rfl|h|h
  ·exact h1
  ·exact uA h2 x h
  ·exact uA h3 x h
theorem SC {t:Tr}(h:RW V p t):p.isSome=true:=by (cases t with|leaf i=>{obtain ⟨b,a,c,d,e,f,g,j,k,rfl,m⟩:=h;rfl}|node l x y=>{obtain ⟨b,i,n,o,q,r,s,u,v,a,w,z,A,c,pl,B,rfl,-⟩:=h;rfl})
theorem TQ:∀(t:Tr) {V:ut} {p:OA} {lb:Nat} {n c:Nat} {vs:pz un} {l:pz Nd},RW V p t->t.dT kF->n=l.length ->
  (vs≠[]->V.w.heap[lb]?=some (.cells vs.toArray 179 (0,0)))->(vs≠[]->V.X lb)->n<=c->c*8<=vs.length->NR V vs l->n+t.size<=1000000 ->
  aa prog 41 #[dZ p,qD (mA lb c) n c] V λr V'=>∃(bm:Nat)(vm:pz un)(c':Nat),(vm≠[]->V'.w.heap[bm]?=some (.cells vm.toArray 179 (0,0)))/\(vm≠[]->V.w.heap.size<=bm\/(vs≠[]/\bm=lb)) /\
   r=dB #[qD (mA bm c') (n+t.size) c',qvZ .i64 (rt n t)]/\n+t.size<=c'/\c'*8<=vm.length/\NR (V'.bu (vm≠[]) bm) vm (l++wr n t)/\(t.size=0->c'=c):=by
 intro t
 induction t with
 | leaf i=>
  intro V p lb n c vs l F _ G a s z A B H;have f:=SC F;obtain ⟨b,U,W,c4,c5,c6,c7,c8,c9,rfl,C⟩:=F
  have fin:∀(D:ut)(k:Nat)(x:Int),V.Le (D.bu (vs≠[]) k)->(vs≠[]->D.w.heap[k]?=some (.cells vs.toArray 179 (0,0))) ->
    (vs≠[]->V.w.heap.size<=k\/(vs≠[]/\k=lb)\/False)->x=rt n (.leaf i)->∃(bm:Nat)(vm:pz un)(c':Nat),(vm≠[]->D.w.heap[bm]?=some (.cells vm.toArray 179 (0,0)))/\(vm≠[]->V.w.heap.size<=bm\/(vs≠[]/\bm=lb)) /\
   Value.tuple #[qD (mA k c) n c,qvZ .i64 x]=dB #[qD (mA bm c') (n+(Tr.leaf i).size) c',qvZ .i64 (rt n (.leaf i))]/\n+(Tr.leaf i).size<=c'/\c'*8<=vm.length/\NR (D.bu (vm≠[]) bm) vm (l++wr n (.leaf i))/\((Tr.leaf i).size=0->c'=c):=by
   intro D k x hle e3 e4 Y;refine ⟨k,vs,c,e3,λh=>?_,by rw [Y];rfl,z,A,?_,λ_=>rfl⟩
   ·rcases e4 h with h|h|h;{exact .inl h};{exact .inr h};{exact h.elim}
   ·simp only [wr,Qx2];exact B.le hle
  refine qB _ lb n c vs V _ a s ⟨f,f,true,yk C 0 rfl,λ_=>⟨f,f,i,yk C 1 rfl,λZ V1 k I E a3=>fin V1 k _ I E a3 (by subst Z;rfl),λZ V2 k I E a3=>fin V2 k _ I E a3 (by subst Z;rfl)⟩,λh=>by cases h⟩
 | node ln x y Wr ihy=>
  intro V p lb n c vs l F J G a s z A B H;have f:=SC F;simp only [Tr.size] at H;obtain ⟨⟨-,a0⟩,a4,a8⟩:=J;obtain ⟨b,i,b1,p1,n1,c1,b2,p2,n2,U,b3,p3,n3,W,pl,pr,rfl,C,hl,Y,hy⟩:=F
  have g:∀j v,([dQ b1,qD p1 n1 c1,dQ b2,qD p2 n2 U,dQ b3,qD p3 n3 W]:pz un)[j]?=some v->V.at (((⟨b,2,none⟩:Addr)).add j) v:=by
   intro j v a
   have K:j<6:=by rcases Qz3 j 6 with K|K;{exact K};{rw [Qz7 (by simpa using K)] at a;cases a}
   have h2:(⟨b,2,none⟩:Addr)=(⟨b,0,none⟩:Addr).add 2:=by rw [add_zero']
   rw [h2,zM,add_zero'];refine dH (xs:=[_,_,_,_,_,_,_,_,_,_]) C ?_
   match j,K,a with
   | 0,_,a=>exact a
   | 1,_,a=>exact a
   | 2,_,a=>exact a
   | 3,_,a=>exact a
   | 4,_,a=>exact a
   | 5,_,a=>exact a
  obtain ⟨t1,t2,t3⟩:=a0.ah;refine qB _ lb n c vs V _ a s ⟨f,f,false,yk C 0 rfl,(λh=>by cases h),λ_=>⟨f,f,b1,p1,n1,c1,b2,p2,n2,U,b3,p3,n3,W,⟨b,2,none⟩,by simp [ae,add_zero'],g 0 _ rfl,g 1 _ rfl,g 2 _ rfl,g 3 _ rfl,g 4 _ rfl,g 5 _ rfl,λD l3=>(pH (hl.le l3) (by omega) (by omega)).s ?_⟩⟩;rintro r V4 l4 L;have M:=L;obtain ⟨d1,q1,m1,e1,d2,q2,m2,e2,d3,q3,m3,e3,rfl⟩:=vM L;have AJ:=l3.m l4;refine qxQ ⟨rfl,by omega,z,A,rfl,by intro v a;simp at a;rcases a with rfl|rfl|rfl|rfl|rfl|rfl|rfl|rfl<;>rfl,λsp c' g1 g2=>?_⟩;have a9:=AJ _ _ C;refine ⟨f,f,pl,yk a9 8 rfl,λm l5 N f1 f2=>?_⟩;have d:=NR.push (sp:=sp) (x:=0) (y:=0) (B.le AJ) (by omega) (ln:=ln) M;rw [←G] at d;generalize hrow:vs.take (n*8)++([_,_,_,_,_,_,_,_]:pz un)++sp=row at f1 f2 d ⊢
  have O:row.length=n*8+8+sp.length:=by rw [←hrow];simp only [Qq3,Qq7,Qw6,Qk9];omega
  have P:row≠[]:=λe=>by rw [e] at O;simp only [Qk9] at O;omega
  have Uv:=AJ.m l5;have i1:=Wr (V:=m.ar [vb row m.w.heap.size N]) (p:=pl) (lb:=N) (n:=n+1) (c:=c') (vs:=row) (l:=l++[⟨ln,0,0⟩]) (RW.le (V:=V) (V':=m.ar _) (λb o h=>Uv b o h) Y) a4 (by simp [G]) f1 (λh=>⟨by simp [rR h],f2 h⟩) g1 (by omega) (NR.le (V:=V4) (V':=m.ar _) d λb o h=>l5 b o h) (by omega);refine i1.s ?_;rintro r V6 l6 ⟨bm,vm,b0,I,E,rfl,a5,a6,a7,-⟩;have Oq:m.Le V6:=λb o h=>l6 b o h;have Q:m.Le (V6.shut.bu (vm≠[]) bm):=AQ (V':=m) Oq (View.Le.refl m) λh=>(E h).imp id λh'=>by rw [h'.2];exact f2 P
  refine ⟨bm,vm,I,E,none,_,_,_,rfl,f,f,pr,yk ((Uv.m Q) _ _ C) 9 rfl,λR l7 S d1 d2=>?_⟩;have b4:vm≠[]:=λe=>by rw [e] at a6;simp at a6;omega
  have Pm:V.Le R:=(Uv.m Q).m l7;have i2:=ihy (V:=R.ar [vb vm R.w.heap.size S]) (p:=pr) (lb:=S) (n:=n+1+x.size) (c:=b0) (vs:=vm) (l:=l++[⟨ln,0,0⟩]++wr (n+1) x) (RW.le (V:=V) (V':=R.ar _) (λb o h=>Pm b o h) hy) a8 (by simp [G,jj];omega) d1 (λh=>⟨by simp [rR h],d2 h⟩) a5 a6 (NR.le (V:=V6.bu (vm≠[]) bm) (V':=R.ar _) a7 λb o h=>l7 b o h) (by omega);refine i2.s ?_;rintro r V8 l8 ⟨bn,T,b8,b9,c0,rfl,b5,b6,b7,-⟩;have hlen:n*8+8<=T.length:=by omega
  simp only [Qq0];refine ⟨bn,T,b9,c0,none,_,_,_,rfl,⟨by omega,by omega⟩,b5,by omega,⟨by omega,by omega⟩,b5,by rw [Wz9];omega,λV9 TE u1 u4 u5=>?_⟩;have q:=NR.kids (V:=V8.bu (T≠[]) bn) (l:=l) (r:=wr (n+1) x++wr (n+1+x.size) y) (ln:=ln) (u:=0) (v:=0) (x:=rt (n+1) x) (y:=rt (n+1+x.size) y) (by simpa using b7);rw [←G] at q;refine ⟨TE,_,b8,u4,λh=>?_,by rw [show n+(Tr.node ln x y).size=n+1+x.size+y.size from by simp only [Tr.size];omega];rfl,by simp only [Tr.size];omega,by simp only [Wz9];omega,?_,λh=>by simp only [Tr.size] at h;omega⟩
  ·rcases u5 h with h|h|h;{exact .inl h};{exact .inr h};{exact h.elim}
  ·simp only [wr];exact NR.le (V:=V8.bu (T≠[]) bn) q λb o h=>u1 b o h
theorem Ai {t:Tr}(h:RW V p t)(ha:t.dT kF)(hs:t.size<=1000000) :
  aa prog 12 #[dZ p] V λr V'=>AT V' r (rt 0 t) (wr 0 t)/\(t.size=0->r=hF #[qvZ .i64 (rt 0 t),qD none 0 0]):=by refine Cx V _ λg j=>?_;refine aa.monoH (TQ t (V:=g) (lb:=0) (vs:=[]) (l:=[]) (n:=0) (c:=0) (h.le j) ha rfl (λh=>absurd rfl h) (λh=>absurd rfl h) (Qq2 _) (Qq2 _) (λi d k=>by simp at k) (by omega)) ?_;rintro r V2 B C ⟨m,vm,q,s,u,rfl,a,D,e,v⟩;refine ⟨m,vm,s,λh=>(u h).imp id λw=>absurd rfl w.1,none,_,_,_,rfl,λx y z A=>?_⟩;simp only [Qm1,Qz2] at e a ⊢;have:=NS.ofRow (V:=x) (b:=z) (c:=q) (vm:=vm) (l:=wr 0 t) (ty:=179) A (by rw [jj];exact a) (e.le λb o h=>y b o h);rw [jj] at this;refine ⟨⟨_,_,_,rfl,this⟩,λf=>?_⟩;rw [v f,f];rfl
theorem rH {V:ut}{p:OA}{t:Tr}(h:RW V p t)(ha:t.dT kF)(hs:t.size<=1000000:=by omega) :
  aa prog 12 #[dZ p] V λr V'=>AT V' r (rt 0 t) (wr 0 t):=(Ai h ha hs).s λ_ _ _ h=>h.1
def Mu (V:View):View:=⟨V.w,λb=>b<V.w.heap.size,λ_=>False,λ_ h=>h,λ_ h=>h.elim⟩
theorem Kb {f:FuncId}{args:Array un}{o:Obj}(h:aa prog f args (Mu V) λr V'=>∃bk,r=dZ (some ⟨bk,0,none⟩)/\V'.bg bk o) :
  aa prog f args V λr V'=>∃bk,r=dZ (some ⟨bk,0,none⟩)/\V.w.heap.size<=bk/\V'.bg bk o:=
 ⟨h.1,h.2.s λ_ _ ⟨_,he,a,bk,d,c⟩=>⟨_,he,⟨a.size,λb c _=>a.bg b c (λh=>h),a.os,a.tape,a.out,a.dr⟩,bk,d,Nat.le_of_not_lt c.1,λe=>c.1 (V.hH bk e),c.2⟩⟩
theorem HJ {lp:OA}{ln lc:Nat}(hc:ln<=lc) :
  aa prog 5 #[qD lp ln lc] V λr V'=>∃bk,r=dZ (some ⟨bk,0,none⟩)/\V.w.heap.size<=bk/\V'.bg bk (.cells #[qD lp (min ln 400) lc,qvZ .i64 0] 77 (0,0)):=by refine Kb (G5 (Mu V) _ ?_);have e:cK (ln:Int) 400=((min ln 400:Nat):Int):=by{unfold cK;simp only [Nat.min_def];split<;>split<;>omega};rw [e,Qq0];have:=Nat.min_le_left ln 400;exact ⟨⟨by omega,by omega⟩,λb c bk a=>⟨bk,rfl,a⟩⟩
theorem UI {t:Tr}(h:t.dT kF):t.dT λx=>cW x=true:=Tr.dT.imp (λ_ h=>h.1) h
theorem F4 {t:Tr}(h:t.dT kF):t.dT Bd:=Tr.dT.imp (λ_ h=>h.2) h
end Go.Proofs.Tryz
namespace Go.Eng
open Go.Value renaming int→qvZ
def View.bare (V:View)(b:Nat):View:=⟨V.w,λx=>V.H x/\x≠b,λx=>V.X x/\x≠b,λx h=>V.hH x h.1,λx h=>⟨V.hX x h.1,h.2⟩⟩
def View.TA (V:ut)(b:Nat):V.Le (V.bare b):=λ_ _ h=>⟨λa=>h.1 a.1,h.2⟩
def aa.bare {P:Program}{f:FuncId}{args:Array un}{V:ut}{b:Nat}{R:un->ut->Prop}(hs:b<V.w.heap.size)(h:aa P f args (V.bare b) R) :
  aa P f args V λr V'=>V'.w.heap[b]?=V.w.heap[b]?/\R r (V'.bare b):=by refine ⟨h.1,h.2.s λ_ g ⟨r,he,a,c⟩=>⟨r,he,⟨a.size,λx d e=>a.bg x d λh=>e h.1,a.os,a.tape,a.out,a.dr⟩,a.bg b hs (λh=>h.2 rfl),c⟩⟩
theorem View.jx {V:ut}{b:Nat}{a:Addr}{v:un}(h:(V.bare b).at a v)(hb:a.block≠b):V.at a v:=⟨λc=>h.1 ⟨c,hb⟩,h.2⟩
def He (V:View)(b:Nat):Prop:=∃(cs:Array Value)(ty:TypeId)(m:Nat×Nat),V.w.heap[b]?=some (.cells cs ty m)/\∀v∈cs,∀k z,v≠.int k z
theorem He.ne {V:ut}{b:Nat}(h:He V b){a:Addr}{k:IntKind}{z:Int}(ha:(V.bare b).at a (qvZ k z)):a.block≠b:=by obtain ⟨cs,ty,m,d,g⟩:=h;intro e;have c:=ha.2;unfold World.cell? at c;rw [e] at c;have f:(V.bare b).w.heap[b]?=some (.cells cs ty m):=d;grind
end Go.Eng
namespace Go.Proofs.Tryz
open Go.Eng Go.Big
open Go.Value renaming slice→qD,agg→hF,bool→dQ,pointer→dZ,tuple→dB,int→qvZ
variable{V:View}{b c cc cn n:Nat}{cp p:OA}{v:Value}{l m:L3}{ls:List L3}{s:Sp}
theorem RD.jx (hn:He V b){ds:pz Nat}(h:RD (V.bare b) p n c ds):RD V p n c ds:=by refine ⟨h.len,h.cap,λi v a=>?_,h.gC,h.ID⟩;have ⟨f,e,g⟩:=h.sl i v a;have:∃d:Int,v=qvZ .u32 d:=by{unfold aK at a;grind};grind [View.jx,hn.ne]
theorem RL.jx (hn:He V b){x y z:Int}(h:RL (V.bare b) v x y z):RL V v x y z:=by obtain ⟨_,_,_,_,_,_,_,_,_,e,a,c,d⟩:=h;exact ⟨_,_,_,_,_,_,_,_,_,e,RD.jx hn a,RD.jx hn c,RD.jx hn d⟩
theorem D2 (a:Addr)(i:Nat):(a.add i).block=a.block:=by unfold Addr.add;split<;>rfl
theorem AT.jx (hn:He V b){root:Int}{l:pz Nd}(h:AT (V.bare b) v root l)(hk:∀x∈l,cW x.ln=true):AT V v root l:=by obtain ⟨q,n,c,rfl,f⟩:=h;refine ⟨q,n,c,rfl,f.len,f.cap,?_,f.ID⟩;obtain ⟨D,a,k⟩:=f.row;(cases l with|nil=>{exact ⟨[],λi v h=>by simp at h,λi d h=>by simp at h⟩}|cons d l=>{have E:∀g,q=some g->g.block≠b:=by{intro g e;obtain ⟨m,o,p,r,s,t,u,w,y,z,A,B,j,-⟩:=k 0 d rfl;have ⟨I,J,F⟩:=a _ _ (j 6 _ rfl);grind [hn.ne,D2]};refine ⟨D,λi v G=>?_,λi x C=>?_⟩;{have ⟨g,e,F⟩:=a i v G;grind [View.jx,D2]};{have ⟨m,o,p,r,s,t,u,w,y,z,A,B,j,H⟩:=k i x C;exact ⟨m,o,p,r,s,t,u,w,y,z,A,B,j,.inl (RL.jx hn (H.ok (hk x (Qv6 C))))⟩}})
theorem S_:∀{t:Tr} {k:Nat},t.dT kF->∀x∈wr k t,cW x.ln=true
 | .leaf _,_,_,x,h=>by cases h
 | .node l a b,k,⟨h1,h2,h3⟩,x,h=>by
  rcases Qq5.1 h with rfl|h
  ·exact h1.1
  ·rcases Qw3.1 h with h|h
   ·exact S_ h2 x h
   ·exact S_ h3 x h
theorem sE {V:ut}{rb:Nat}{i:md}{b1:md}{p1:OA}{n1 c1:Nat}{b2:md}{p2:OA}{n2 c2:Nat}{b3:md}{p3:OA}{n3 c3:Nat}{pl pr:OA}{ln:L3}{x y:Tr}
  (hw:V.w.heap[rb]?=some (.cells #[dQ false,dQ i,dQ b1,qD p1 n1 c1,dQ b2,qD p2 n2 c2,dQ b3,qD p3 n3 c3,dZ pl,dZ pr] 60 (0,0)))
  (hl:RL V (hF #[dQ b1,qD p1 n1 c1,dQ b2,qD p2 n2 c2,dQ b3,qD p3 n3 c3]) ln.1 ln.2.1 ln.2.2)(hx:RW V pl x)(hy:RW V pr y)(ha:(Tr.node ln x y).dT kF)(hs:(Tr.node ln x y).size<=1000000) :
  aa prog 12 #[dZ (some ⟨rb,0,none⟩)] V λr V'=>V'.w.heap[rb]?=some (.cells #[dQ false,dQ i,dQ b1,qD p1 n1 c1,dQ b2,qD p2 n2 c2,dQ b3,qD p3 n3 c3,dZ pl,dZ pr] 60 (0,0))/\AT V' r (rt 0 (.node ln x y)) (wr 0 (.node ln x y)):=by have a:rb<V.w.heap.size:=(Qp2.1 hw).1;have b:=V.TA rb;refine (aa.bare a (rH (V:=V.bare rb) (p:=some ⟨rb,0,none⟩) (t:=.node ln x y) ⟨rb,i,b1,p1,n1,c1,b2,p2,n2,c2,b3,p3,n3,c3,pl,pr,rfl,⟨λh=>h.2 rfl,hw⟩,hl.le b,hx.le b,hy.le b⟩ ha hs)).s ?_;rintro r V' g ⟨c,d⟩;rw [hw] at c;refine ⟨c,AT.jx ⟨_,_,_,c,?_⟩ d (S_ ha)⟩;intro v f k z e;subst e;simp at f
theorem qI {a b:Rat}:dK a b<0↔a<b:=by grind [g_.1,yW.1,FC.1]
theorem zz:Sz 10 ((1:Int):Rat):=E4 (z:=1)
theorem sz_v (h:Bd l){k:Nat}{p:Rat×Rat}(s1:Sz k p.1)(s2:Sz k p.2):Sz (2*k+3010) (aq l p.1 p.2):=by have:=h.fF;exact (((this.1.mul s1).add (this.2.1.mul s2)).add this.2.2).s (by omega)
theorem RM {p v:Rat×Rat}{i:Nat}(h:i<ls.length)(s:Rat):(ls.take (i+1)).foldl (au.F2 p v) s=au.F2 p v ((ls.take i).foldl (au.F2 p v) s) ls[i]:=by grind [List.take_append_getElem]
theorem Mm {a b:Rat}:dK a b>0↔b<a:=by constructor;{intro h;(rcases cU a b with ⟨g,e⟩|⟨g,e⟩|⟨g,e⟩<;>first|omega|exact g)};{intro h;have:=yW.1 h;omega}
abbrev S16:=Bool×OA×Nat×Nat×OA×Nat×Nat×Bool×OA×Nat×Nat×OA×Nat×Nat×Bool×Bool
def agS (z:S16):Value:=.agg #[.bool z.1,.slice z.2.1 z.2.2.1 z.2.2.2.1,.slice z.2.2.2.2.1 z.2.2.2.2.2.1 z.2.2.2.2.2.2.1,.bool z.2.2.2.2.2.2.2.1,.slice z.2.2.2.2.2.2.2.2.1 z.2.2.2.2.2.2.2.2.2.1 z.2.2.2.2.2.2.2.2.2.2.1,.slice z.2.2.2.2.2.2.2.2.2.2.2.1 z.2.2.2.2.2.2.2.2.2.2.2.2.1 z.2.2.2.2.2.2.2.2.2.2.2.2.2.1,.bool z.2.2.2.2.2.2.2.2.2.2.2.2.2.2.1,.bool z.2.2.2.2.2.2.2.2.2.2.2.2.2.2.2]
theorem rsS {xb:md}{xp:OA}{xn xc:Nat}{xq:OA}{xm xe:Nat}{yb:md}{yp:OA}{yn yc:Nat}{yq:OA}{ym ye:Nat}{xa ya:md}(h:mO V (hF #[dQ xb,qD xp xn xc,qD xq xm xe,dQ yb,qD yp yn yc,qD yq ym ye,dQ xa,dQ ya]) s):xa=s.a/\ya=s.b/\RQ V (hF #[dQ xb,qD xp xn xc,qD xq xm xe]) s.lo/\RQ V (hF #[dQ yb,qD yp yn yc,qD yq ym ye]) s.hi:=by obtain ⟨_,_,_,_,_,_,_,_,_,_,_,_,_,_,e,c,d⟩:=h;have e:=congrArg Array.toList (Value.agg.inj e);simp only [Qk4,Value.bool.injEq,Value.slice.injEq,and_true] at e;obtain ⟨rfl,⟨rfl,rfl,rfl⟩,⟨rfl,rfl,rfl⟩,rfl,⟨rfl,rfl,rfl⟩,⟨rfl,rfl,rfl⟩,rfl,rfl⟩:=e;exact ⟨rfl,rfl,c,d⟩
theorem rsS' {xb:md}{xp:OA}{xn xc:Nat}{xq:OA}{xm xe:Nat}{yb:md}{yp:OA}{yn yc:Nat}{yq:OA}{ym ye:Nat}{xa ya:md}(ea:xa=s.a)(eb:ya=s.b)(h1:RQ V (hF #[dQ xb,qD xp xn xc,qD xq xm xe]) s.lo)(h2:RQ V (hF #[dQ yb,qD yp yn yc,qD yq ym ye]) s.hi):mO V (hF #[dQ xb,qD xp xn xc,qD xq xm xe,dQ yb,qD yp yn yc,qD yq ym ye,dQ xa,dQ ya]) s:=by subst ea eb;exact qyZ ⟨rfl,h1,h2⟩
def pT (l m:L3)(s:Sp):Sp:=if 0<(dotL m l).num.sign then (if s.a=true\/s.lo<nt l m then ⟨nt l m,s.hi,false,s.b⟩ else s) else (if s.b=true\/nt l m<s.hi then ⟨s.lo,nt l m,s.a,false⟩ else s)
theorem En (hc:crossL l m≠0):ui l m s=if (pT l m s).a=false/\(pT l m s).b=false/\(pT l m s).hi<=(pT l m s).lo then none else some (pT l m s):=by unfold ui;rw [if_neg hc];rfl
theorem N5 (hc:crossL l m=0):ui l m s=if (aq m (cz l 0) (cD l 0)).num.sign<=0 then none else some s:=by unfold ui;rw [if_pos hc]
theorem Nh (hl:Nz l)(bl:Bd l)(bm:Bd m)(hc:crossL l m≠0):Sz 100000 (nt l m):=by rw [Bk hl hc];exact (kj bl.fF bm.fF).s (by omega)
theorem YD (hl:Nz l)(bl:Bd l)(bm:Bd m)(hc:crossL l m≠0)(hs:s.sz 100000):(pT l m s).sz 100000:=by
 have:=Nh hl bl bm hc;unfold pT;split<;>split<;>first|exact hs|exact ⟨this,hs.2⟩|exact ⟨hs.1,this⟩
theorem Qp {s w:Sp}(hl:Nz l)(bl:Bd l)(bm:Bd m)(sg:s.good)(hs:s.sz 100000)(e:ui l m s=some w):w.good/\w.sz 100000:=by rw [Aq hl sg] at e;split at e;{rename_i g;cases e;exact ⟨gO sg g,zy bl.fF bm.fF hs⟩};{cases e}
theorem MW {L:L3}(h:RL V v L.1 L.2.1 L.2.2)(hz:Nz L)(hb:Bd L):aa prog 105 #[v] V λr V'=>RP V' r (cz L 0) (cD L 0):=by have sl:=hb.fF;refine (tR h (K_ hz) sl.1 sl.2.1 sl.2.2).s λr V' _ g=>?_;have b:cz L 0=_:=rfl;unfold cz cD;unfold gU;have a:∀x y:Rat,x=y->∀z w:Rat,z=w->RP V' r x z->RP V' r y w:=by{rintro x _ rfl z _ rfl h;exact h};refine a _ _ ?_ _ _ ?_ g<;>grind
theorem Gu {L:L3}(hb:Bd L):Sz 30000 (cz L 0)/\Sz 30000 (cD L 0):=by have sl:=hb.fF;exact ⟨Sz.s (Gv sl (Di 1000)),Sz.s (Gw sl (Di 1000))⟩
theorem tX {i:Nat}(h:bE 6 bM V cp cn ls)(hb:∀l∈ls,Bd l)(hk:∀l∈ls,cW l=true)(hl:ls.length<=1000)(hi:i<ls.length) :
  aa prog 173 #[qD cp cn cc,qvZ .i64 i] V λr V'=>∃u s,r=dB #[u,dQ (eY ls[i] ls fullSp).isSome]/\mO V' u s/\s.sz 100000/\∀w,eY ls[i] ls fullSp=some w->s=w:=by
 have hn:=h.len;subst hn;have ⟨is,b1,p1,n1,c1,b2,p2,n2,c2,b3,p3,n3,c3,a,a6,a0,a1,a2,a3,a4,a5,n⟩:=qP h hi;have v:=hb _ (Qq9 hi);have ok:=hk _ (Qq9 hi);generalize el:ls[i]=L at *;have sl:=v.fF;have nz:=lA ok;have hd:=BO v;refine DR V _ ⟨is,⟨by omega,by omega⟩,b1,p1,n1,c1,b2,p2,n2,c2,b3,p3,n3,c3,a,(by rw [Qq0];exact a6),a0,a1,a2,a3,a4,a5,λV1 l1=>tU.s ?_⟩;rintro r V2 l2 gf;have a7:=gf;obtain ⟨_,_,_,_,_,_,_,_,_,_,_,_,_,_,rfl⟩:=Bz gf;have oh:=l1.m l2;refine ⟨_,_,_,_,_,_,_,_,_,_,_,_,_,_,_,_,rfl,λz V'=>∃(j:Nat)(s:Sp),z.1=(j:Int)/\j<=ls.length/\mO V' (agS z.2) s/\s.good/\s.sz 100000/\eY L ls fullSp=eY L (ls.drop j) s,λz=>(ls.length-z.1).toNat,⟨(0,_,_,_,_,_,_,_,_,_,_,_,_,_,_,_,_),by and_intros<;>first|rfl|trivial,0,fullSp,rfl,Qq4 _,a7,fl,T9,by rw [Qs9]⟩,?_⟩;rintro ⟨z,O,P,Q,R,S,T,U,X,Y,Z,yc,yq,ym,ye,xa,ya⟩ V3 l3 ⟨j,s,ez,hj,gs,sg,x,d⟩;dsimp only [agS] at ez gs ⊢;subst ez;obtain ⟨rfl,rfl,F,G⟩:=rsS gs;have C:=oh.m l3;refine ⟨by trivial,λf=>?_,λf ZA zk=>?_⟩;rotate_left
 ·have e:j=ls.length:=by{have:=of_decide_eq_false f;omega};subst e;rw [Qp7] at d;exact ⟨_,s,by rw [d];rfl,gs.le zk,x,λw e=>by rw [d] at e;exact Qb8 e⟩
 have f:j<ls.length:=by have:=of_decide_eq_true f;omega
 have w1:i64.wrap ((j:Int)+1)=((j+1:Nat):Int):=by rw [aw (by omega)];rfl
 rw [w1,Qq0];have ⟨a8,B1,P1,N1,C1,B2,P2,N2,C2,B3,P3,N3,C3,A,a9,A0,A1,A2,A3,A4,A5,o⟩:=qP (h.le C λ_ _ g=>bM.le g C) f;have H:=hb _ (Qq9 f);have sm:=H.fF;have KF:=BO H;have ej:j=i->ls[j]=L:=λe=>by subst e;exact el
 have ed:ls.drop j=ls[j]::ls.drop (j+1):=Qw4 f;rw [ed] at d;generalize ls[j]=M at *;have b0:eY L (M::ls.drop (j+1)) s=if M=L then eY L (ls.drop (j+1)) s else match ui L M s with|some s'=>eY L (ls.drop (j+1)) s'|none=>none:=rfl
 rw [b0] at d;have next:∀{W:ut} {O:md} {P:OA} {Q R:Nat} {S:OA} {T U:Nat} {X:md} {Y:OA} {Z yc:Nat} {yq:OA} {ym ye:Nat} {xa ya:md} {s':Sp},mO W (hF #[dQ O,qD P Q R,qD S T U,dQ X,qD Y Z yc,qD yq ym ye,dQ xa,dQ ya]) s'->s'.good->s'.sz 100000->eY L ls fullSp=eY L (ls.drop (j+1)) s'->∃(j':Nat)(s:Sp),((j+1:Nat):Int)=(j':Int)/\j'<=ls.length/\mO W (hF #[dQ O,qD P Q R,qD S T U,dQ X,qD Y Z yc,qD yq ym ye,dQ xa,dQ ya]) s/\s.good/\s.sz 100000/\eY L ls fullSp=eY L (ls.drop j') s:=λg1 g2 g3 e=>⟨j+1,_,rfl,f,g1,g2,g3,e⟩;refine ⟨a8,⟨by omega,by omega⟩,B1,P1,N1,C1,B2,P2,N2,C2,B3,P3,N3,C3,A,a9,A0,A1,A2,A3,A4,A5,λz _=>z=decide (M=L),⟨λc=>⟨true,by and_intros<;>rfl,?_⟩,λc V4 l4=>(mb (n.le (C.m l4)) (o.le l4) sl sm).s ?_⟩,?_⟩
 ·exact (decide_eq_true (ej (by have:=of_decide_eq_true c;omega))).symm
 ·rintro r V5 l5 rfl;exact ⟨_,rfl,(mC L M==(0:Int)),by and_intros<;>rfl,by rw [HO];exact decide_eq_decide.2 eq_comm⟩
 rintro z V6 l6 rfl;refine ⟨by trivial,λc=>?_,λc V7 l7=>(K9 (n.le (C.m (l6.m l7))) (o.le (l6.m l7)) sl sm).s ?_⟩
 ·rw [if_pos (of_decide_eq_true c)] at d;exact ⟨(((j+1:Nat):Int),_,_,_,_,_,_,_,_,_,_,_,_,_,_,_,_),by dsimp only;omega,by and_intros<;>rfl,next (gs.le l6) sg x d⟩
 rw [if_neg (of_decide_eq_false c)] at d;rintro r V8 l8 ⟨u,rfl,q0,q1⟩;have ⟨s1,s2⟩:=Gy sl sm;have Oo:=l6.m (l7.m l8);by_cases p:crossL L M=0
 ·have qz:=q0 p;unfold L_ at qz;subst qz;rw [N5 p] at d;refine ⟨_,_,_,_,_,_,_,_,_,_,_,_,_,_,_,rfl,λ_ V9 l9=>(MW (n.le (C.m (Oo.m l9))) nz v).s ?_,λh=>by simp [p] at h⟩;rintro r fy b4 gB;have b5:=gB;obtain ⟨_,_,_,_,_,_,_,_,_,_,_,_,rfl,-⟩:=gB;have y:=Oo.m (l9.m b4);refine qyZ ⟨rfl,λfC bo=>(Bu (o.le (y.m bo)) (b5.le bo) (sm.up (K:=30000) (by omega)) (Gu v).1 (Gu v).2).s ?_⟩;rintro r gI bW rfl;have B:=y.m (bo.m bW);refine ⟨_,rfl,λc iT bP=>?_,λc=>?_⟩;{rw [if_pos (of_decide_eq_true c)] at d;exact ⟨_,s,by rw [d];rfl,gs.le (B.m bP),x,λw e=>by rw [d] at e;cases e⟩};{rw [if_neg (of_decide_eq_false c)] at d;exact ⟨(((j+1:Nat):Int),_,_,_,_,_,_,_,_,_,_,_,_,_,_,_,_),by dsimp only;omega,by and_intros<;>rfl,next (gs.le B) sg x d⟩}
 have hp:=q1 p;have b6:=hp;obtain ⟨_,_,_,_,_,_,_,_,_,_,_,_,rfl,-⟩:=hp;refine ⟨_,_,_,_,_,_,_,_,_,_,_,_,_,_,_,rfl,λh=>by simp [p] at h,λ_ lP cN=>(uI (n.le (C.m (Oo.m cN))) (b6.le cN) nz (sl.up (K:=30000) (by omega)) (s1.s (by omega)) (s2.s (by omega))).s ?_⟩;rintro r jJ cF gt;have q:RQ jJ r (nt L M):=gt;obtain ⟨_,_,_,_,_,_,rfl⟩:=gt.shape;have st:=Nh nz v H p;have KP:=Oo.m (cN.m cF);refine qyW ⟨rfl,λkI cB=>(dw (o.le (KP.m cB)) sm.1 sm.2.1 sm.2.2).s ?_⟩;rintro r lQ cG gm;have b7:=gm;obtain ⟨_,_,_,_,_,_,_,_,_,_,_,_,rfl,-⟩:=gm;have KQ:=KP.m (cB.m cG);refine qyZ ⟨rfl,λmM cq=>(dw (n.le (C.m (KQ.m cq))) sl.1 sl.2.1 sl.2.2).s ?_⟩;rintro r pf dE gl;have b8:=gl;obtain ⟨_,_,_,_,_,_,_,_,_,_,_,_,rfl,-⟩:=gl;have I:=KQ.m (cq.m dE);refine qyZ ⟨rfl,λvG e_=>(gK (k:=1000) (b7.le (cq.m (dE.m e_))) (b8.le e_) KF.1 KF.2 hd.1 hd.2).s ?_⟩;rintro r qF gQ gc
 have Wh:RQ qF r (dotL M L):=by have e:dotL M L=_:=(Qf M L).symm;rw [e];exact gc
 obtain ⟨_,_,_,_,_,_,rfl⟩:=gc.shape;have J:=I.m (e_.m gQ);refine qyW ⟨rfl,λtK gR=>(kT (Wh.le gR)).s ?_⟩;rintro r vH iu rfl;have E:=J.m (gR.m iu);have Mz:jJ.Le vH:=(cB.m cG).m ((cq.m dE).m ((e_.m gQ).m (gR.m iu)));refine ⟨_,rfl,λz W=>mO W (agS z) (pT L M s),⟨λt=>?_,λt=>?_⟩,?_⟩
 ·have t:0<(dotL M L).num.sign:=of_decide_eq_true t;refine ⟨λz _=>z=decide (s.a=true\/s.lo<nt L M),⟨λm=>⟨true,by and_intros<;>rfl,?_⟩,λm Hg N=>(eI (q.le (Mz.m N)) (F.le (E.m N)) st x.1).s ?_⟩,?_⟩;{exact (decide_eq_true (.inl m)).symm};{rintro r Hh mi rfl;refine ⟨_,rfl,decide (dK (nt L M) s.lo>(0:Int)),by and_intros<;>rfl,?_⟩;rw [m];exact decide_eq_decide.2 ⟨λh=>.inr (Mm.1 h),λh=>h.elim (λh=>nomatch h) Mm.2⟩};rintro z Pa D rfl;refine ⟨by trivial,λc=>⟨(_,_,_,_,_,_,_,_,_,_,_,_,_,_,_,_),by and_intros<;>rfl,?_⟩,λc=>⟨(_,_,_,_,_,_,_,_,_,_,_,_,_,_,_,_),by and_intros<;>rfl,?_⟩⟩;{have e:pT L M s=⟨nt L M,s.hi,false,s.b⟩:=by{unfold pT;rw [if_pos t,if_pos (of_decide_eq_true c)]};rw [e];exact rsS' rfl rfl (q.le (Mz.m D)) (G.le (E.m D))};{have e:pT L M s=s:=by{unfold pT;rw [if_pos t,if_neg (of_decide_eq_false c)]};rw [e];exact gs.le (E.m D)}
 ·have t:¬0<(dotL M L).num.sign:=of_decide_eq_false t;refine ⟨λz _=>z=decide (s.b=true\/nt L M<s.hi),⟨λm=>⟨true,by and_intros<;>rfl,?_⟩,λm Hg N=>(eI (q.le (Mz.m N)) (G.le (E.m N)) st x.2).s ?_⟩,?_⟩;{exact (decide_eq_true (.inl m)).symm};{rintro r Hh mi rfl;refine ⟨_,rfl,decide (dK (nt L M) s.hi<(0:Int)),by and_intros<;>rfl,?_⟩;rw [m];exact decide_eq_decide.2 ⟨λh=>.inr (qI.1 h),λh=>h.elim (λh=>nomatch h) qI.2⟩};rintro z Pa D rfl;refine ⟨by trivial,λc=>⟨(_,_,_,_,_,_,_,_,_,_,_,_,_,_,_,_),by and_intros<;>rfl,?_⟩,λc=>⟨(_,_,_,_,_,_,_,_,_,_,_,_,_,_,_,_),by and_intros<;>rfl,?_⟩⟩;{have e:pT L M s=⟨s.lo,nt L M,s.a,false⟩:=by{unfold pT;rw [if_neg t,if_pos (of_decide_eq_true c)]};rw [e];exact rsS' rfl rfl (F.le (E.m D)) (q.le (Mz.m D))};{have e:pT L M s=s:=by{unfold pT;rw [if_neg t,if_neg (of_decide_eq_false c)]};rw [e];exact gs.le (E.m D)}
 rw [En p] at d;have kk:=λw=>Qp (w:=w) nz v H sg x;rw [En p] at kk;have sz:=YD nz v H p x;generalize pT L M s=s' at *;clear gs F G;rintro ⟨O,P,Q,R,S,T,U,X,Y,Z,yc,yq,ym,ye,xa,ya⟩ Pc uz gs;dsimp only [agS] at gs ⊢;obtain ⟨rfl,rfl,F,G⟩:=rsS gs;refine ⟨by trivial,λz _=>z=decide (s'.a=false/\s'.b=false/\s'.hi<=s'.lo),⟨λm=>⟨λhb Xe zj=>(eI (F.le zj) (G.le zj) sz.1 sz.2).s ?_,λhb=>⟨false,by and_intros<;>rfl,?_⟩⟩,λm=>⟨false,by and_intros<;>rfl,?_⟩⟩,?_⟩
 ·rintro r Xf wD rfl;rw [Qz6] at m hb;refine ⟨_,rfl,decide (dK s'.lo s'.hi≥(0:Int)),by and_intros<;>rfl,decide_eq_decide.2 ⟨λh=>⟨m,hb,?_⟩,λh=>?_⟩⟩;{refine Rat.not_lt.1 λg=>?_;have:=qI.2 g;omega};{refine Wq4.1 λg=>?_;have:=qI.1 g;have:=h.2.2;grind}
 ·rw [Qv1] at hb;exact (decide_eq_false λh=>by rw [hb] at h;cases h.2.1).symm
 ·rw [Qv1] at m;exact (decide_eq_false λh=>by rw [m] at h;cases h.1).symm
 rintro z Px xC rfl;refine ⟨by trivial,λc Y9 EH=>?_,λc=>?_⟩
 ·rw [if_pos (of_decide_eq_true c)] at d;exact ⟨_,s',by rw [d];rfl,gs.le (xC.m EH),sz,λw e=>by rw [d] at e;cases e⟩
 ·rw [if_neg (of_decide_eq_false c)] at d kk;have ⟨k1,k2⟩:=kk _ rfl;exact ⟨(((j+1:Nat):Int),_,_,_,_,_,_,_,_,_,_,_,_,_,_,_,_),by dsimp only;omega,by and_intros<;>rfl,next (gs.le xC) k1 k2 d⟩
theorem Mw (x:L3):∀(O:pz L3)(j:Nat),j<=O.length->(∀(i':Nat)(h:i'<O.length),i'<j->au.kt (au.aM O[i']) (au.aM x)<0)->(∀h:j<O.length,¬au.kt (au.aM O[j]) (au.aM x)<0) ->
  m_ x O=if ∃h:j<O.length,O[j]=x then O else O.take j++x::O.drop j
 | [],j,hj,_,_=>by
  rw [if_neg (λ⟨h,_⟩=>absurd h (Qn2 _))];simp [m_]
 | u::r,0,_,_,hge=>by
  have h0:¬au.kt (au.aM u) (au.aM x)<0:=hge (Qt8 _);unfold m_;rw [if_neg h0];by_cases e:u=x
  ·rw [if_pos e,if_pos ⟨Qt8 _,e⟩]
  ·rw [if_neg e,if_neg (λ⟨_,h⟩=>e h)];rfl
 | u::r,j+1,hj,hlt,hge=>by
  have h0:au.kt (au.aM u) (au.aM x)<0:=hlt 0 (Qt8 _) (Qt8 _);unfold m_;rw [if_pos h0,Mw x r j (by simpa using hj) (λi' h a=>hlt (i'+1) (by simpa using h) (by omega)) (λh=>hge (by simpa using h))];by_cases c:∃h:j<r.length,r[j]=x
  ·obtain ⟨h,e⟩:=c;rw [if_pos ⟨h,e⟩,if_pos ⟨by simpa using h,e⟩]
  ·rw [if_neg c,if_neg (λ⟨h,e⟩=>c ⟨by simpa using h,e⟩)];rfl
theorem C5 (h:bE 6 bM V p n ls)(hb:∀l∈ls,Bd l)(hk:∀l∈ls,cW l=true)(hl:ls.length<=1000) :
  aa prog 126 #[qD p n c] V λr V'=>∃q m e,r=dB #[qD q m e,dQ (decide (ls=[]\/lS ls ls []≠[]))]/\bE 6 bM V' q m (lS ls ls []):=by
 obtain rfl:=h.len
 refine Cr V _ ⟨λz V'=>∃(i:Nat)(O:pz L3),z.2.2.2=(i:Int)/\i<=ls.length/\O.length<=i/\(∀q∈O,q∈ls)/\lS ls ls []=lS ls (ls.drop i) O/\GR 6 bM V' z.1 z.2.1 z.2.2.1 O,λz=>ls.length-z.2.2.2.toNat,
  ⟨(0,0,[],0),by and_intros<;>rfl,0,[],rfl,Qq4 _,Qq4 _,(λq I=>by cases I),by rw [Qs9],GR.nil⟩,?_⟩
 rintro ⟨B,N,us,z4⟩ V1 P ⟨i,O,e4,Pl,a8,Q,t,H⟩;dsimp only at e4 H;subst e4;have R:=H.len;have C:=H.le;have W:=H.cap;have D:=H.row;refine ⟨rfl,λd=>?_,λd=>?_⟩;rotate_left
 ·have d:¬(i:Int)<ls.length:=of_decide_eq_false d;obtain rfl:i=ls.length:=by{omega};rw [Qp7] at t;have t:lS ls ls []=O:=t;rw [t];subst R;refine ⟨λE kI X bk hb=>?_,λE kI X bk hb=>?_⟩;{have E:((ls.length:Nat):Int)=0:=by{simpa using E};refine ⟨_,_,N,?_,bE.bJ hb (D.le λ_ _ g=>bM.le g X) (by decide) C⟩;rw [decide_eq_true (.inl (Qw8.1 (by omega)))]};{have E:¬((ls.length:Nat):Int)=0:=by{simpa using E};refine ⟨_,_,N,?_,bE.bJ hb (D.le λ_ _ g=>bM.le g X) (by decide) C⟩;congr 5;refine decide_eq_decide.2 ⟨λh=>.inr λe=>by rw [e] at h;simp at h,λh=>?_⟩;rcases h with h|h;{rw [h] at E;exact absurd rfl E};{have:=Qh2.2 h;omega}}
 have d:(i:Int)<ls.length:=of_decide_eq_true d;have y:i<ls.length:=by omega
 have w:i64.wrap ((i:Int)+1)=((i+1:Nat):Int):=by rw [aw (by omega)];rfl
 dsimp only;rw [Qq0,w];obtain ⟨ad,ha,xs,-,hf,k⟩:=(h.le P λ_ _ g=>bM.le g P).at_ i y;have Y:=hf;obtain ⟨eb,ep,en,ec,fb,fp,fn,fe,gb,gp,gn,gc,ex⟩:=bD hf;have ex:=congrArg Array.toList (Value.agg.inj ex);dsimp only at ex;subst ex;have ed:ls.drop i=ls[i]::ls.drop (i+1):=Qw4 y;have Z:lS ls (ls[i]::ls.drop (i+1)) O=lS ls (ls.drop (i+1)) (if (eY ls[i] ls fullSp).isSome=true then m_ ls[i] O else O):=rfl;rw [ed,Z] at t;have F:Bd ls[i]:=hb _ (Qq9 y);have a0:ls[i]∈ls:=Qq9 y;have Wk:∀q∈O,Bd q:=λq I=>hb q (Q q I);clear H;refine ⟨aF ha,⟨by omega,by omega⟩,eb,ep,en,ec,fb,fp,fn,fe,gb,gp,gn,gc,ad,ha,k 0 _ rfl,k 1 _ rfl,k 2 _ rfl,k 3 _ rfl,k 4 _ rfl,k 5 _ rfl,λV2 S=>(tX (h.le (P.m S) λ_ _ g=>bM.le g (P.m S)) hb hk hl y).s ?_⟩;generalize ls[i]=x at *;rintro r V3 l3 ⟨u,s,rfl,gs,-,-⟩;obtain ⟨_,_,_,_,_,_,_,_,_,_,_,_,_,_,rfl⟩:=Bz gs;refine ⟨_,_,_,_,_,_,_,_,_,_,_,_,_,_,_,_,_,rfl,λo=>?_,λo=>?_⟩
 ·rw [Qz6] at o;rw [o,if_neg (by decide)] at t;exact ⟨(B,N,us,((i+1:Nat):Int)),by dsimp only;omega,by and_intros<;>rfl,i+1,O,rfl,y,by omega,Q,t,R,C,W,D.le λ_ _ g=>bM.le g (S.m l3)⟩
 rw [Qv1] at o;rw [o,if_pos rfl] at t;have G:bM V1 _ x:=Y;refine ⟨λz _=>∃j:Nat,z=(j:Int)/\j<=O.length/\∀(A:Nat)(h:A<O.length),A<j->au.kt (au.aM O[A]) (au.aM x)<0,λz=>O.length-z.toNat,⟨0,by and_intros<;>rfl,0,rfl,Qq4 _,λA _ h=>absurd h (Qn2 A)⟩,?_⟩;rintro z V4 l4 ⟨j,rfl,uw,jl⟩;have wj:i64.wrap ((j:Int)+1)=((j+1:Nat):Int):=by rw [aw (by omega)];rfl
 rw [Qq0,wj];have cN:=S.m (l3.m l4);have sx:=F.fF;have dx:=BO F;refine ⟨rfl,λz _=>z=true↔∃h:j<O.length,au.kt (au.aM O[j]) (au.aM x)<0,⟨λd=>?_,λd=>⟨false,by and_intros<;>rfl,?_⟩⟩,?_⟩
 ·have d:(j:Int)<(B:Int):=of_decide_eq_true d;have v:j<O.length:=by{omega};have K:=Wk _ (Qq9 v);have sj:=K.fF;have dj:=BO K;have ⟨b1,p1,n1,c1,b2,p2,n2,c2,b3,p3,n3,c3,fE,FJ,hr⟩:=Gl D v;refine ⟨⟨by omega,by omega⟩,C,b1,p1,n1,c1,b2,p2,n2,c2,b3,p3,n3,c3,⟨fE,FJ⟩,λV5 l5=>(dw (hr.le (cN.m l5)) sj.1 sj.2.1 sj.2.2).s ?_⟩;rintro r V6 l6 gd;have a1:=gd;obtain ⟨_,_,_,_,_,_,_,_,_,_,_,_,rfl,-⟩:=gd;refine qyZ ⟨rfl,λV7 T=>(dw (RL.le G (cN.m (l5.m (l6.m T)))) sx.1 sx.2.1 sx.2.2).s ?_⟩;rintro r V8 U ge;have a2:=ge;obtain ⟨_,_,_,_,_,_,_,_,_,_,_,_,rfl,-⟩:=ge;refine qyZ ⟨rfl,λV9 l9=>(CT (a:=au.aM O[j]) (b:=au.aM x) (a1.le (T.m (U.m l9))) (a2.le l9) dj.1 dj.2 dx.1 dx.2).s ?_⟩;rintro r fy L rfl;exact ⟨_,rfl,decide (au.kt (au.aM O[j]) (au.aM x)<0),by and_intros<;>rfl,by dsimp only;rw [decide_eq_true_eq];exact ⟨λh=>⟨v,h⟩,λ⟨_,h⟩=>h⟩⟩
 ·have d:¬(j:Int)<(B:Int):=of_decide_eq_false d;exact ⟨(λh=>nomatch h),λ⟨h,_⟩=>absurd h (by omega)⟩
 rintro z V7 T Mv;refine ⟨rfl,λo=>?_,λo=>?_⟩
 ·have ⟨v,a3⟩:=Mv.1 o;refine ⟨((j+1:Nat):Int),by dsimp only;omega,by and_intros<;>rfl,j+1,rfl,v,λA h a9=>?_⟩;by_cases e:A=j;{subst e;exact a3};{exact jl A h (by omega)}
 have a4:∀h:j<O.length,¬au.kt (au.aM O[j]) (au.aM x)<0:=λh h'=>by have:=Mv.2 ⟨h,h'⟩;rw [o] at this;cases this
 have f:=Mw x O j uw jl a4;have a5:∀q∈m_ x O,q∈ls:=λq I=>(nf.1 I).elim (λe=>e▸a0) (Q q);have cG:=cN.m T;refine ⟨λz _=>z=true↔∃h:j<O.length,O[j]=x,⟨λd=>?_,λd=>⟨false,by and_intros<;>rfl,?_⟩⟩,?_⟩
 ·have d:(j:Int)<(B:Int):=of_decide_eq_true d;have v:j<O.length:=by{omega};have ⟨b1,p1,n1,c1,b2,p2,n2,c2,b3,p3,n3,c3,fE,FJ,hr⟩:=Gl D v;refine ⟨⟨by omega,by omega⟩,C,b1,p1,n1,c1,b2,p2,n2,c2,b3,p3,n3,c3,⟨fE,FJ⟩,λV8 U=>(mb (hr.le (cG.m U)) (RL.le G (cG.m U)) (Wk _ (Qq9 v)).fF F.fF).s ?_⟩;rintro r V9 l9 rfl;exact ⟨_,rfl,(mC O[j] x==(0:Int)),by and_intros<;>rfl,by dsimp only;rw [HO,decide_eq_true_eq];exact ⟨λh=>⟨v,h⟩,λ⟨_,h⟩=>h⟩⟩
 ·have d:¬(j:Int)<(B:Int):=of_decide_eq_false d;exact ⟨(λh=>nomatch h),λ⟨h,_⟩=>absurd h (by omega)⟩
 rintro z fy L ur;have AK:=cG.m L;refine ⟨rfl,λo=>?_,λo fC bo bk hb J=>?_⟩
 ·have hex:=ur.1 o;rw [if_pos hex] at f;rw [f] at t;exact ⟨(B,N,us,((i+1:Nat):Int)),by dsimp only;omega,by and_intros<;>rfl,i+1,O,rfl,y,by omega,Q,t,R,C,W,D.le λ_ _ g=>bM.le g AK⟩
 ·have a6:¬∃h:j<O.length,O[j]=x:=λh=>by{have:=ur.2 h;rw [o] at this;cases this};rw [if_neg a6] at f;have ⟨xs,ys,x1,x2,x3,y1,y2,y3,r1,r2,r3,r4,r5⟩:=uv (V:=fC) (GR.s ⟨R,C,W,D⟩ λ_ _ g=>bM.le g (AK.m bo)) (by decide) (λ_ _=>uO) hb (es:=[_,_,_,_,_,_]) rfl (bM.le G (AK.m bo)) (j:=j);refine ⟨⟨by omega,by omega⟩,⟨by omega,by omega⟩,⟨by omega,by omega⟩,xs,x1,x2,by omega,Qq2 _,Qq2 6,x2,x3,λb0 J2 sp c' h1 h2=>?_⟩;rw [r1,r2];(refine ⟨ys,y1,y2,Qq2 _,y3,by omega,by omega,r3,r4,λa7 M h3 h4=>⟨(j+(1+(B-j)),M,_,((i+1:Nat):Int)),by dsimp only;omega,by and_intros<;>first|rfl|omega,i+1,m_ x O,rfl,y,?_,a5,t,?_⟩⟩);{rw [f,Qq3,Qq7,Qw6,Qb5];omega};{show GR 6 bM _ _ _ _ (m_ x O);rw [f];exact r5 a7 M h3 h4}
theorem CW {lp:OA}{ln lc:Nat}{pv vv:un}{p v:Rat×Rat}(h:bE 6 bM V lp ln ls)(hb:∀l∈ls,Bd l)(hl:ls.length<=1000)(hp:RP V pv p.1 p.2)(hv:RP V vv v.1 v.2)(s1:Sz 60000000 p.1)(s2:Sz 60000000 p.2)(s3:Sz 6000 v.1)(s4:Sz 6000 v.2) :
  aa prog 174 #[qD lp ln lc,pv,vv] V λr V'=>RP V' r (p.1+ls.foldl (au.F2 p v) 1*v.1) (p.2+ls.foldl (au.F2 p v) 1*v.2)/\Sz 500000000 (p.1+ls.foldl (au.F2 p v) 1*v.1)/\Sz 500000000 (p.2+ls.foldl (au.F2 p v) 1*v.2):=by have hn:=h.len;subst hn;have d:=hp;have D:=hv;obtain ⟨_,_,_,_,_,_,_,_,_,_,_,_,rfl,-⟩:=hp;obtain ⟨_,_,_,_,_,_,_,_,_,_,_,_,rfl,-⟩:=hv;refine DF V _ λV1 l1=>(dV 1 (by omega)).s ?_;rintro r V2 l2 g;have Q:=g;obtain ⟨_,_,_,_,_,_,rfl⟩:=g.shape;have oh:=l1.m l2;(refine qyW ⟨rfl,λz V'=>∃i:Nat,z.1=(i:Int)/\i<=ls.length/\RQ V' (hF #[dQ z.2.1,qD z.2.2.1 z.2.2.2.1 z.2.2.2.2.1,qD z.2.2.2.2.2.1 z.2.2.2.2.2.2.1 z.2.2.2.2.2.2.2]) ((ls.take i).foldl (au.F2 p v) 1)/\Sz 400000000 ((ls.take i).foldl (au.F2 p v) 1),λz=>(ls.length-z.1).toNat,⟨(0,_,_,_,_,_,_,_),by and_intros<;>first|rfl|trivial,0,rfl,Qq4 _,Q,zz.s (by omega)⟩,?_⟩;rintro ⟨z,zb,zp,zn,E,zq,zm,ze⟩ V3 l3 ⟨i,e,hi,gs,j⟩;dsimp only at e gs ⊢;subst e;have m:=oh.m l3;refine ⟨by trivial,λc=>?_,λc Xf R=>?_⟩);{have c:i<ls.length:=by{have:=of_decide_eq_true c;omega};have w1:i64.wrap ((i:Int)+1)=((i+1:Nat):Int):=by{rw [aw (by omega)];rfl};rw [w1,Qq0];have ⟨is,b1,p1,n1,c1,b2,p2,n2,c2,b3,p3,n3,c3,a,S,a0,a1,a2,a3,a4,a5,n⟩:=qP (h.le m λ_ _ g=>bM.le g m) c;have T:=hb _ (Qq9 c);have sl:=T.fF;have et:=RM (p:=p) (v:=v) c 1;generalize ls[i]=A at *;generalize (ls.take i).foldl (au.F2 p v) 1=s at *;have next:∀{W:ut} {b:md} {q1 q2:OA} {m1 d1 m2 d2:Nat} {s':Rat},RQ W (hF #[dQ b,qD q1 m1 d1,qD q2 m2 d2]) s'->Sz 400000000 s'->au.F2 p v s A=s'->∃i':Nat,((i+1:Nat):Int)=(i':Int)/\i'<=ls.length/\RQ W (hF #[dQ b,qD q1 m1 d1,qD q2 m2 d2]) ((ls.take i').foldl (au.F2 p v) 1)/\Sz 400000000 ((ls.take i').foldl (au.F2 p v) 1):=λo f e=>⟨i+1,rfl,c,by rw [et,e];exact o,by rw [et,e];exact f⟩;have t1:Sz 70000000 (p.1+((1:Int):Rat)*v.1):=(s1.add (zz.mul s3)).s (by omega);have t2:Sz 70000000 (p.2+((1:Int):Rat)*v.2):=(s2.add (zz.mul s4)).s (by omega);refine ⟨is,⟨by omega,by omega⟩,b1,p1,n1,c1,b2,p2,n2,c2,b3,p3,n3,c3,a,S,a0,a1,a2,a3,a4,a5,λV4 l4=>(dV 1 (by omega)).s ?_⟩;rintro r V5 l5 g;have Q:=g;obtain ⟨_,_,_,_,_,_,rfl⟩:=g.shape;have U:=l4.m l5;refine qyW ⟨rfl,λV6 I=>(fL (d.le (m.m (U.m I))) (Q.le I) (D.le (m.m (U.m I))) s1 s2 (zz.s (by omega)) s3 s4).s ?_⟩;rintro r V7 l7 F;have w:=F;obtain ⟨_,_,_,_,_,_,_,_,_,_,_,_,rfl,-⟩:=F;have Pn:=U.m (I.m l7);refine qyZ ⟨rfl,λV8 X=>(jt (k:=70000000) (n.le (Pn.m X)) (w.le X) (sl.1.s (by omega)) (sl.2.1.s (by omega)) (sl.2.2.s (by omega)) t1 t2).s ?_⟩;rintro r V9 l9 gA;have Y:RQ V9 r (aq A (p.1+((1:Int):Rat)*v.1) (p.2+((1:Int):Rat)*v.2)):=gA;obtain ⟨_,_,_,_,_,_,rfl⟩:=gA.shape;have Z:=Pn.m (X.m l9);refine qyW ⟨rfl,λfy q=>(jt (k:=70000000) (n.le (Z.m q)) (d.le (m.m (Z.m q))) (sl.1.s (by omega)) (sl.2.1.s (by omega)) (sl.2.2.s (by omega)) (s1.s (by omega)) (s2.s (by omega))).s ?_⟩;rintro r fC bo gB;have a6:RQ fC r (aq A p.1 p.2):=gB;obtain ⟨_,_,_,_,_,_,rfl⟩:=gB.shape;have zA:=sz_v T (p:=((p.1+((1:Int):Rat)*v.1),(p.2+((1:Int):Rat)*v.2))) t1 t2;have J:=sz_v T s1 s2;have G:=Z.m (q.m bo);refine qyW ⟨rfl,λgI bW=>(ij (Y.le (q.m (bo.m bW))) (a6.le bW) zA J).s ?_⟩;rintro r iT bP gc;have ec:aq A (p.1+((1:Int):Rat)*v.1) (p.2+((1:Int):Rat)*v.2)-aq A p.1 p.2=au.nv A v:=by{have:=au.jB A p v 1;have e1:((1:Int):Rat)=1:=rfl;rw [e1,this];grind};have E:=zA.sub J;dsimp only at E;rw [ec] at gc E;have Wh:=gc;obtain ⟨_,_,_,_,_,_,rfl⟩:=gc.shape;have H:=G.m (bW.m bP);refine qyW ⟨rfl,λlP cN=>(kT (Wh.le cN)).s ?_⟩;rintro r jJ cF rfl;have K:=H.m (cN.m cF);(refine ⟨_,rfl,λB=>⟨(((i+1:Nat):Int),_,_,_,_,_,_,_),by dsimp only;omega,by and_intros<;>first|rfl|trivial,next (gs.le K) j ?_⟩,λB kI L=>(Bu (x:=p.1) (y:=p.2) (n.le (K.m L)) (d.le (m.m (K.m L))) ⟨sl.1.s (Qw7 (by omega) (Qq2 60000000)),sl.2.1.s (by omega),sl.2.2.s (by omega)⟩ s1 s2).s ?_⟩);{unfold au.F2;rw [if_pos (.inl (au.ki.1 (beq_iff_eq.1 B)))]};have B:au.nv A v≠0:=λe=>by{rw [au.ki.2 e] at B;cases B};rintro r lQ cG rfl;have M:=K.m (L.m cG);(refine ⟨_,rfl,λv0=>⟨(((i+1:Nat):Int),_,_,_,_,_,_,_),by dsimp only;omega,by and_intros<;>first|rfl|trivial,next (gs.le M) j ?_⟩,λv0 mM N=>(jt (k:=70000000) (n.le (M.m N)) (d.le (m.m (M.m N))) (sl.1.s (by omega)) (sl.2.1.s (by omega)) (sl.2.2.s (by omega)) (s1.s (by omega)) (s2.s (by omega))).s ?_⟩);{unfold au.F2;rw [if_pos (.inr (au.ki.1 (beq_iff_eq.1 v0)))]};have v0:aq A p.1 p.2≠0:=λe=>by{rw [au.ki.2 e] at v0;cases v0};have ns:¬(au.nv A v=0\/aq A p.1 p.2=0):=λh=>h.elim B v0;rintro r pf dE gD;have a7:RQ pf r (aq A p.1 p.2):=gD;obtain ⟨_,_,_,_,_,_,rfl⟩:=gD.shape;refine qyW ⟨rfl,λvG e_=>(iZ (a7.le e_) (Wh.le (cN.m (cF.m (L.m (cG.m (N.m (dE.m e_))))))) (λe=>B (Qv0.1 e)) J E).s ?_⟩;rintro r qF gQ gt;have a8:=gt;obtain ⟨_,_,_,_,_,_,rfl⟩:=gt.shape;have zt:=(J.mul (fw E)).neg;refine qyW ⟨rfl,λtK gR=>(Aa (a8.le gR)).s ?_⟩;rintro r vH iu go;have C:=go;obtain ⟨_,_,_,_,_,_,rfl⟩:=go.shape;have Iw:=M.m (N.m (dE.m (e_.m (gQ.m (gR.m iu)))));refine qyW ⟨rfl,λHg O=>(kT (C.le O)).s ?_⟩;rintro r Hh mi rfl;have t:=Iw.m (O.m mi);have eh:-(aq A p.1 p.2*(au.nv A v)⁻¹)*((2:Int):Rat)⁻¹=-(aq A p.1 p.2*(au.nv A v)⁻¹)*(1 / 2):=by{rw [show (((2:Int):Rat))⁻¹=1 / 2 by decide +kernel]};have zh:Sz 400000000 (-(aq A p.1 p.2*(au.nv A v)⁻¹)*((2:Int):Rat)⁻¹):=(zt.mul (fw (E4 (z:=2)))).s (by omega);(refine ⟨_,rfl,λo Pa ni=>(sw (C.le (O.m (mi.m ni))) zt).s ?_,λo=>⟨(((i+1:Nat):Int),_,_,_,_,_,_,_),by dsimp only;omega,by and_intros<;>first|rfl|trivial,next (gs.le t) j ?_⟩⟩);{have o:-(aq A p.1 p.2*(au.nv A v)⁻¹)>0:=au.rO.1 (of_decide_eq_true o);rintro r Tw oo gh;have a9:=gh;obtain ⟨_,_,_,_,_,_,rfl⟩:=gh.shape;have u:=t.m (ni.m oo);refine qyW ⟨rfl,λPb P=>(eI (a9.le P) (gs.le (u.m P)) zh j).s ?_⟩;rintro r VN xB rfl;(refine ⟨_,rfl,λf Pc uz=>(sw (C.le (O.m (mi.m (ni.m (oo.m (P.m (xB.m uz))))))) zt).s ?_,λf=>⟨(((i+1:Nat):Int),_,_,_,_,_,_,_),by dsimp only;omega,by and_intros<;>first|rfl|trivial,next (gs.le (u.m (P.m xB))) j ?_⟩⟩);{have f:=qI.1 (of_decide_eq_true f);rintro r Xe zj gk;have b0:=gk;obtain ⟨_,_,_,_,_,_,rfl⟩:=gk.shape;(refine qyW ⟨rfl,(((i+1:Nat):Int),_,_,_,_,_,_,_),by dsimp only;omega,by and_intros<;>first|rfl|trivial,next b0 zh ?_⟩;rw [eh] at f ⊢;unfold au.F2;rw [if_neg ns,if_pos ⟨o,f⟩])};{have f:¬_:=λh=>of_decide_eq_false f (qI.2 h);rw [eh] at f;unfold au.F2;rw [if_neg ns,if_neg λh=>f h.2]}};{have o:¬_:=λh=>of_decide_eq_false o (au.rO.2 h);unfold au.F2;rw [if_neg ns,if_neg λh=>o h.1]}};{have c:i=ls.length:=by{have:=of_decide_eq_false c;omega};subst c;rw [Qy2] at gs j;generalize ls.foldl (au.F2 p v) 1=s at *;refine (fL (d.le (m.m R)) (gs.le R) (D.le (m.m R)) s1 s2 j (s3.s (by omega)) (s4.s (by omega))).s ?_;rintro r Px xC F;have w:=F;obtain ⟨_,_,_,_,_,_,_,_,_,_,_,_,rfl,-⟩:=F;exact qyZ ⟨rfl,λY9 EH=>⟨w.le EH,(s1.add (j.mul s3)).s (by omega),(s2.add (j.mul s4)).s (by omega)⟩⟩}
theorem uP {vs:pz un}(h:Row 6 bM V vs ls)(hl:vs.length=ls.length*6):∀v∈vs,v.oneCell'=true:=by intro v a;have ⟨m,hm,e⟩:=Qm9.1 a;exact gg h (by decide) (λ_ _=>uO) (m:=m) (by omega) (by rw [←e];exact Qq1 hm)
def AB (ls:List L3):Bool:=decide (ls=[]\/∃l∈ls,(eY l ls fullSp).isSome=true)
theorem QO (hk:∀m∈ls,cW m=true):AB ls=true↔∃q,au.pos ls q:=by unfold AB;rw [decide_eq_true_eq,←Ol hk];refine or_congr Wk5 ⟨λ⟨l,a,b⟩=>⟨l,a,(yY (lA (hk l a))).1 b⟩,λ⟨l,a,b⟩=>⟨l,a,(yY (lA (hk l a))).2 b⟩⟩
theorem M5 (V:ut):RP V (hF #[dQ false,qD none 0 0,qD none 0 0,dQ false,qD none 0 0,qD none 0 0]) 0 0:=qxQ ⟨rfl,Zq _,Zq _⟩
theorem rC (h:bE 6 bM V cp cn ls)(hb:∀l∈ls,Bd l)(hk:∀l∈ls,cW l=true)(hl:ls.length<=1000:=by omega) :
  aa prog 125 #[qD cp cn cc] V λr V'=>∃u p,r=dB #[u,dQ (AB ls)]/\RP V' u (Prod.fst p) (Prod.snd p)/\Sz 500000000 (Prod.fst p)/\Sz 500000000 (Prod.snd p):=by have hn:=h.len;subst hn;refine Cs V _ ⟨λc V1 l1=>?_,λc=>⟨λz _=>∃i:Nat,z=(i:Int)/\i<=ls.length/\∀(k:Nat)(g:k<ls.length),k<i->(eY ls[k] ls fullSp).isSome=false,λz=>(ls.length-z).toNat,⟨0,by and_intros<;>rfl,0,rfl,Qq4 _,λk _ g=>absurd g (Qn2 k)⟩,?_⟩⟩;{have e:ls=[]:=Qw8.1 (by have:=of_decide_eq_true c;omega);refine ⟨_,(0,0),?_,M5 V1,Di _,Di _⟩;rw [show AB ls=true from decide_eq_true (.inl e)]};have c:ls.length≠0:=λe=>by{rw [e] at c;cases c};rintro z V2 w ⟨i,rfl,hi,Q⟩;refine ⟨by trivial,λb=>?_,λb kI cB=>?_⟩;rotate_left;{have e:i=ls.length:=by{have:=of_decide_eq_false b;omega};subst e;refine ⟨_,(0,0),?_,M5 kI,Di _,Di _⟩;rw [show AB ls=false from decide_eq_false ?_];rintro (g|⟨l,g1,R⟩);{rw [g] at c;exact c rfl};{obtain ⟨k,S,rfl⟩:=Qm9.1 g1;rw [Q k S S] at R;cases R}};have b:i<ls.length:=by{have:=of_decide_eq_true b;omega};have w1:i64.wrap ((i:Int)+1)=((i+1:Nat):Int):=by{rw [aw (by omega)];rfl};rw [w1,Qq0];have x:∀{W:ut},V.Le W->bE 6 bM W cp ls.length ls:=λg=>h.le g λ_ _ k=>bM.le k g;have ⟨is,b1,p1,n1,c1,b2,p2,n2,c2,b3,p3,n3,c3,a,y,a0,a1,a2,a3,a4,a5,f⟩:=qP (x w) b;have T:=hb _ (Qq9 b);have ok:=hk _ (Qq9 b);have hm:=Qq9 b;have sl:=T.fF;have nz:=lA ok;have A:=BO T;have B:(eY ls[i] ls fullSp).isSome=false->∀(k:Nat)(g:k<ls.length),k<i+1->(eY ls[k] ls fullSp).isSome=false:=λe k g a6=>by{by_cases e':k=i;{subst e';exact e};{exact Q k g (by omega)}};refine ⟨is,⟨by omega,by omega⟩,b1,p1,n1,c1,b2,p2,n2,c2,b3,p3,n3,c3,a,y,a0,a1,a2,a3,a4,a5,λV3 U=>(tX (x (w.m U)) hb hk hl b).s ?_⟩;generalize ls[i]=L at *;rintro r V4 l4 ⟨u,s,rfl,gs,X,-⟩;have C:=gs;obtain ⟨_,_,_,_,_,_,_,_,_,_,_,_,_,_,rfl⟩:=Bz gs;have Y:=U.m l4;refine ⟨_,_,_,_,_,_,_,_,_,_,_,_,_,_,_,_,_,rfl,λD V5 E=>(dw (f.le (Y.m E)) sl.1 sl.2.1 sl.2.2).s ?_,λD=>⟨((i+1:Nat):Int),by dsimp only;omega,by and_intros<;>rfl,i+1,rfl,b,B D⟩⟩;rintro r V6 Z gd;have a7:=gd;obtain ⟨_,_,_,_,_,_,_,_,_,_,_,_,rfl,CH,F⟩:=gd;have ni:=Y.m (E.m Z);refine qyZ ⟨rfl,λV7 o=>(Ad (C.le (E.m (Z.m o))) X).s ?_⟩;rintro r V8 G gq;have H:=gq;obtain ⟨_,_,_,_,_,_,rfl⟩:=gq.shape;have I:=Vn X;have rj:=ni.m (o.m G);refine qyW ⟨rfl,λV9 j=>(YR (f.le (rj.m j)) (H.le j) nz (sl.up (K:=200010) (by omega)) I).s ?_⟩;rintro r fy d ga;have J:=ga;obtain ⟨_,_,_,_,_,_,_,_,_,_,_,_,rfl,-⟩:=ga;have m:=rj.m (j.m d);refine qyZ ⟨rfl,λfC q=>(kS (F.le ((o.m G).m ((j.m d).m q))) A.2).s ?_⟩;rintro r gI M go;have N:=go;obtain ⟨_,_,_,_,_,_,rfl⟩:=go.shape;have n:=m.m (q.m M);have sx:=(Gv (sl.up (K:=200010) (by omega)) I).s (show _<=60000000 by omega);have sy:=(Gw (sl.up (K:=200010) (by omega)) I).s (show _<=60000000 by omega);refine qyW ⟨rfl,λiT t=>(CW (p:=(cz L s.gH,cD L s.gH)) (v:=(-(-((L.1:Int):Rat)),((L.2.1:Int):Rat))) (x (w.m (n.m t))) hb hl (J.le (q.m (M.m t))) ⟨_,_,_,_,_,_,_,_,_,_,_,_,rfl,N.le t,CH.le ((o.m G).m ((j.m d).m ((q.m M).m t)))⟩ sx sy (Sz.s A.2.neg) (Sz.s A.1)).s ?_⟩;rintro r lP cN ⟨gp,O,P⟩;have Zg:=gp;obtain ⟨_,_,_,_,_,_,_,_,_,_,_,_,rfl,-⟩:=gp;refine qyZ ⟨rfl,λjJ cF=>⟨_,(_,_),?_,Zg.le cF,O,P⟩⟩;rw [show AB ls=true from decide_eq_true (.inr ⟨L,hm,D⟩)]
def Bm (ls:List L3)(m:L3):Int:=if AB (ls++[m])=true/\AB (ls++[revL m])=true then 0 else if AB (ls++[m])=true then 1 else -1
theorem xg {V:ut}{vs:pz un}(hw:V.w.heap[b]?=some (.cells vs.toArray 32 (0,0)))(hr:Row 6 bM V vs ls)(hc:ls.length<=c)(h0:ls≠[])(hb:∀l∈ls,Bd l)(hk:∀l∈ls,cW l=true)(hl:ls.length<=1000) :
  aa prog 125 #[qD (some ⟨b,0,none⟩) ls.length c] (V.ar [b]) λr V'=>∃b1 p n1 c1 p' n2 c2 b2 q n3 c3 q' n4 c4,r=dB #[hF #[dQ b1,qD p n1 c1,qD p' n2 c2,dQ b2,qD q n3 c3,qD q' n4 c4],dQ (AB ls)]/\V'.w.heap[b]?=some (.cells vs.toArray 32 (0,0)):=by have d:b<V.w.heap.size:=(Qp2.1 hw).1;have f:=Qh2.2 h0;have j:V.Le ((V.ar [b]).bare b):=λa v h=>⟨λk=>h.1 k.1,h.2⟩;have i:bE 6 bM ((V.ar [b]).bare b) (mA b c) ls.length ls:=bE.bJ (V:=(V.ar [b]).bare b) (λ_=>⟨λh=>h.2 rfl,hw⟩) (hr.le λ_ _ g=>bM.le g j) (by decide) hc;have e:mA b c=some ⟨b,0,none⟩:=by{unfold mA;rw [if_neg (by omega)]};rw [e] at i;refine (aa.bare (V:=V.ar [b]) d (rC i hb hk hl)).s ?_;rintro r V' _ ⟨m,u,p,rfl,n,-⟩;obtain ⟨_,_,_,_,_,_,_,_,_,_,_,_,rfl,-⟩:=n;exact qyZ ⟨rfl,m.m hw⟩
theorem U0 (q:au.V2):au.pos ls q↔au.pos ls.reverse q:=⟨λh m hm=>h m (Qd2.1 hm),λh m hm=>h m (Qd2.2 hm)⟩
theorem qf {V:ut}{xs ys sp sp':pz un}(hn:n=ls.length)(h:Row 6 bM V xs ls)(hx:xs.length=n*6)(hy:ys.length=6)(hm:bM V (.agg ys.toArray) m):Row 6 bM V ((([]:pz un).take (0*6)++xs++sp).take ((0+n)*6)++ys++sp') (ls++[m]):=by subst hn;have e:([]:pz un).take (0*6)++xs++sp=xs++sp:=by{simp};rw [e,Qz2];have a:Row 6 bM V (xs++sp) ls:=by{have:=eF (V:=V) (vs:=[]) (ls:=[]) (sp:=sp) (Row.nil) h (by decide);simpa using this};exact eF a (row_one hy hm) (by decide)
theorem rD (h:bE 6 bM V cp cn ls)(hb:∀l∈ls,Bd l)(hk:∀l∈ls,cW l=true)(hl:ls.length<=999){lv:un}(hm:bM V lv m)(bm:Bd m)(om:cW m=true) :
  aa prog 66 #[qD cp cn cc,lv] V λr V'=>r=qvZ .i64 (Bm ls m):=by have H:=h.len;subst H;have d:=hm;obtain ⟨_,_,_,_,_,_,_,_,_,_,_,_,rfl⟩:=bD hm;have ⟨xs,I,i,u⟩:=dF h (by decide);have one:∀{W:ut} {xs:pz un},Row 6 bM W xs ls->xs.length=ls.length*6->∀v∈xs,v.oneCell'=true:=λk w=>uP k w;have J:∀l∈ls++[m],Bd l:=λl h=>(Qw3.1 h).elim (hb l) λh=>by{rw [Qq6.1 h];exact bm};have K:∀l∈ls++[m],cW l=true:=λl h=>(Qw3.1 h).elim (hk l) λh=>by{rw [Qq6.1 h];exact om};have L:∀l∈ls++[revL m],Bd l:=λl h=>(Qw3.1 h).elim (hb l) λh=>by{rw [Qq6.1 h];exact bm.rev};have M:∀l∈ls++[revL m],cW l=true:=λl h=>(Qw3.1 h).elim (hk l) λh=>by{rw [Qq6.1 h];exact wJ om};have c:∀x:L3,(ls++[x]).length=(0+ls.length)+1:=λx=>by{rw [Qq3];simp};refine Ct V _ ⟨xs,I,i,by omega,Qq2 _,by simp,i,one u i,λPK J5 n c3 k w=>⟨by omega,k,by simp;omega,rfl,OD,λVY J9 p c7 N g4=>λy q TB O h1=>?_⟩⟩;have P:=qf (V:=y) (ys:=[_,_,_,_,_,_]) (sp:=n) (sp':=p) rfl (u.le λ_ _ g=>bM.le g q) i rfl (bM.le d q);have z:=xg (V:=y) O P (by rw [c];exact N) (by simp) J K (by rw [c];omega);rw [c] at z;refine z.s ?_;rintro r V2 Q ⟨_,_,_,_,_,_,_,_,_,_,_,_,_,_,rfl,R⟩;have s:V.Le V2.shut:=λb o g=>Q b o (q b o g);have ⟨ys,S,j,A⟩:=dF (h.le s λ_ _ g=>bM.le g s) (by decide);refine ⟨_,_,_,_,_,_,_,_,_,_,_,_,_,_,_,rfl,_,R,ys,S,j,by omega,Qq2 _,by simp,j,one A j,λZN T e U X g6 V3 B=>(ik (bM.le d (s.m B))).s ?_⟩;rintro r Y Z gr;have C:bM Y r (revL m):=gr;obtain ⟨_,_,_,_,_,_,_,_,_,_,_,_,rfl⟩:=bD C;refine qxQ ⟨rfl,by omega,X,by simp;omega,rfl,OD,λZP a0 f a3 g7 g8 D E F e5 h5=>?_⟩;have mi:=B.m (Z.m E);have r2:=qf (V:=D) (ys:=[_,_,_,_,_,_]) (sp:=e) (sp':=f) rfl (A.le λ_ _ g=>bM.le g mi) j rfl (bM.le C E);have G:=xg (V:=D) e5 r2 (by rw [c];exact g7) (by simp) L M (by rw [c];omega);rw [c] at G;refine G.s ?_;rintro r V6 l6 ⟨_,_,_,_,_,_,_,_,_,_,_,_,_,_,rfl,w6⟩;refine ⟨_,_,_,_,_,_,_,_,_,_,_,_,_,_,_,rfl,_,w6,λa=>⟨λt V7 l7=>?_,λt=>⟨λ_ V8 l8=>?_,(λh=>by rw [a] at h;cases h)⟩⟩,λa=>⟨(λh=>by rw [a] at h;cases h),λ_ fC bo=>?_⟩⟩;{unfold Bm;rw [if_pos ⟨a,t⟩]};{unfold Bm;rw [if_neg (λh=>by rw [t] at h;cases h.2),if_pos a]};{unfold Bm;rw [if_neg (λh=>by rw [a] at h;cases h.1),if_neg (λh=>by rw [a] at h;cases h)]}
theorem Gi (c:pz L3):∀(r o:pz L3),(lS c r o).length<=r.length+o.length
 | [],o=>by unfold lS;simp
 | l::r,o=>by
  unfold lS;split
  ·have:=Gi c r (m_ l o)
   have a:∀o:pz L3,(m_ l o).length<=o.length+1:=λo=>by
    induction o with
    | nil=>simp [m_]
    | cons x r ih=>unfold m_;split<;>(try split)<;>simp<;>omega
   have:=a o;simp only [Qw6];omega
  ·have:=Gi c r o;simp only [Qw6];omega
theorem Gj (c:pz L3):∀(r o:pz L3),∀x∈lS c r o,x∈r\/x∈o
 | [],o,x,h=>.inr h
 | l::r,o,x,h=>by
  unfold lS at h;rcases Gj c r _ x h with g|g
  ·exact .inl (Qq8 _ g)
  ·split at g
   ·rcases nf.1 g with rfl|g
    ·exact .inl (Qw5 ..)
    ·exact .inr g
   ·exact .inr g
theorem M7 {x y:Tr}(h:RW V p (.node l x y)) :
  ∃(b1:md)(p1:OA)(n1 c1:Nat)(b2:md)(p2:OA)(n2 c2:Nat)(b3:md)(p3:OA)(n3 c3:Nat)(pl pr:OA)(a:Addr),p.isSome=true/\ae p 2=some a/\∀W:ut,V.Le W ->
   (∃a,ae p 0=some a/\W.at a (dQ false))/\(W.at (a.add 0) (dQ b1)/\W.at (a.add 1) (qD p1 n1 c1)/\W.at (a.add 2) (dQ b2)/\W.at (a.add 3) (qD p2 n2 c2)/\W.at (a.add 4) (dQ b3)/\W.at (a.add 5) (qD p3 n3 c3)) /\
   (∃a,ae p 8=some a/\W.at a (dZ pl))/\(∃a,ae p 9=some a/\W.at a (dZ pr))/\bM W (hF #[dQ b1,qD p1 n1 c1,dQ b2,qD p2 n2 c2,dQ b3,qD p3 n3 c3]) l/\RW W pl x/\RW W pr y:=by obtain ⟨e,f,b1,p1,n1,c1,b2,p2,n2,c2,b3,p3,n3,c3,pl,pr,rfl,c,k,m,d⟩:=h;refine ⟨b1,p1,n1,c1,b2,p2,n2,c2,b3,p3,n3,c3,pl,pr,(⟨e,0,none⟩:Addr).add 2,rfl,rfl,λW g=>?_⟩;have b:∀(i j:Nat) v,i+j<10->([dQ false,dQ f,dQ b1,qD p1 n1 c1,dQ b2,qD p2 n2 c2,dQ b3,qD p3 n3 c3,dZ pl,dZ pr]:pz un)[i+j]?=some v->W.at (((⟨e,0,none⟩:Addr).add i).add j) v:=by{intro i j v _ n;rw [zM,add_zero'];exact dH (xs:=[_,_,_,_,_,_,_,_,_,_]) (g _ _ c) n};exact ⟨yk (g _ _ c) 0 rfl,⟨b 2 0 _ (by omega) rfl,b 2 1 _ (by omega) rfl,b 2 2 _ (by omega) rfl,b 2 3 _ (by omega) rfl,b 2 4 _ (by omega) rfl,b 2 5 _ (by omega) rfl⟩,yk (g _ _ c) 8 rfl,yk (g _ _ c) 9 rfl,k.le g,m.le g,d.le g⟩
theorem M6 {bk:Nat}{i b1:md}{p1:OA}{n1 c1:Nat}{b2:md}{p2:OA}{n2 c2:Nat}{b3:md}{p3:OA}{n3 c3:Nat}{pl pr:OA}{x y:Tr}
  (h:V.bg bk (.cells #[dQ false,dQ i,dQ b1,qD p1 n1 c1,dQ b2,qD p2 n2 c2,dQ b3,qD p3 n3 c3,dZ pl,dZ pr] 60 (0,0)))
  (hl:bM V (hF #[dQ b1,qD p1 n1 c1,dQ b2,qD p2 n2 c2,dQ b3,qD p3 n3 c3]) l)(hx:RW V pl x)(hy:RW V pr y):RW V (some ⟨bk,0,none⟩) (.node l x y):=
 ⟨bk,i,b1,p1,n1,c1,b2,p2,n2,c2,b3,p3,n3,c3,pl,pr,rfl,h,hl,hx,hy⟩
def Om (l:L3):Tr->Tr->Tr
 | .leaf i,.leaf j=>if i=j then .leaf i else .node l (.leaf i) (.leaf j)
 | x,y=>.node l x y
theorem Ir {x y:Tr}(h:x.pS=false\/y.pS=false):Om l x y=.node l x y:=by
 cases x with
 | leaf i=>cases y with
  | leaf j=>rcases h with h|h<;>cases h
  | node=>rfl
 | node=>rfl
theorem tZ {q:OA}{x y:Tr}(hl:bM V v l)(hx:RW V p x)(hy:RW V q y) :
  aa prog 67 #[v,dZ p,dZ q] V λr V'=>∃o,r=dZ o/\RW V' o (Om l x y):=by
 have c:=hl;obtain ⟨_,_,_,_,_,_,_,_,_,_,_,_,rfl⟩:=bD hl
 have d:∀{W:ut} {b:Nat},V.Le W->W.bg b (.cells #[dQ false,dQ false,_,_,_,_,_,_,dZ p,dZ q] 60 (0,0))->(x.pS=false\/y.pS=false\/∃i j,x=.leaf i/\y=.leaf j/\i≠j)->∃o,Value.pointer (some ⟨b,0,none⟩)=dZ o/\RW W o (Om l x y):=λg h k=>by
  refine ⟨_,rfl,?_⟩
  have e:Om l x y=.node l x y:=by
   rcases k with k|k|⟨i,j,rfl,rfl,k⟩
   ·exact Ir (.inl k)
   ·exact Ir (.inr k)
   ·show (if i=j then _ else _)=_;rw [if_neg k]
  rw [e];exact M6 h (bM.le c g) (hx.le g) (hy.le g)
 have rd:∀{p:OA} {x:Tr},RW V p x->p.isSome=true/\∃a,ae p 0=some a/\V.at a (dQ x.pS):=λ{p x} h=>by
  cases x with
  | leaf i=>obtain ⟨s,n,-⟩:=kh h;exact ⟨s,n⟩
  | node l x y=>obtain ⟨_,_,_,_,_,_,_,_,_,_,_,_,_,_,_,s,-,H⟩:=M7 h;exact ⟨s,(H V (View.Le.refl V)).1⟩
 have ⟨s1,t⟩:=rd hx;have ⟨s2,u⟩:=rd hy;refine DV V _ ⟨s1,s1,_,t,λf=>⟨s2,s2,_,u,λm=>?_,λm J w b z=>d w z (.inr (.inl m))⟩,λf K A b B=>d A B (.inl f)⟩
 obtain ⟨i,rfl⟩:∃i,x=.leaf i:=by cases x with
  | leaf i=>exact ⟨i,rfl⟩
  | node=>cases f
 obtain ⟨j,rfl⟩:∃j,y=.leaf j:=by cases y with
  | leaf j=>exact ⟨j,rfl⟩
  | node=>cases m
 obtain ⟨-,-,C⟩:=kh hx;obtain ⟨-,-,D⟩:=kh hy;refine ⟨s1,s1,i,C,s2,s2,j,D,λh E F=>⟨p,rfl,?_⟩,λh V2 G b I=>d G I (.inr (.inr ⟨i,j,rfl,rfl,by simpa using h⟩))⟩;have e:i=j:=by simpa using h
 show RW E p (if i=j then _ else _);rw [if_pos e];exact hx.le F
def FZ:Tr->Tr
 | .leaf i=>.leaf (!i)
 | .node l x y=>.node l (FZ x) (FZ y)
theorem me:∀(t:Tr) {V:ut} {p:OA},RW V p t->aa prog 27 #[dZ p] V λr V'=>∃q,r=dZ q/\RW V' q (FZ t)
 | .leaf i,V,p,h=>by
  have ⟨s,e0,e1⟩:=kh h;refine vB V _ ⟨s,s,_,e0,λ_=>⟨s,s,i,e1,λM N=>(cT (!i)).s ?_⟩,(λh=>nomatch h)⟩;rintro r V2 O ⟨q,rfl,g⟩;exact ⟨q,rfl,λP j=>⟨q,rfl,g.le j⟩⟩
 | .node l x y,V,p,h=>by
  obtain ⟨Q,R,S,T,U,W,X,Y,Z,p3,n3,c3,pl,k,a,s,m,H⟩:=M7 h;obtain ⟨z,⟨n,o,u,v,w,A⟩,B,C,-,-,-⟩:=H V (View.Le.refl V);refine vB V _ ⟨s,s,_,z,(λh=>nomatch h),λ_=>⟨s,s,_,_,_,_,_,_,_,_,_,_,_,_,a,m,n,o,u,v,w,A,s,s,pl,B,s,s,k,C,λD b=>(me x (H D b).2.2.2.2.2.1).s ?_⟩⟩;rintro r V5 e ⟨E,rfl,F⟩;refine ⟨E,rfl,λG c=>(me y (H G (b.m (e.m c))).2.2.2.2.2.2).s ?_⟩;rintro r V7 f ⟨I,rfl,J⟩;refine ⟨I,rfl,λK d bk L=>⟨_,rfl,M6 L (H K (b.m (e.m (c.m (f.m d))))).2.2.2.2.1 (F.le (c.m (f.m d))) (J.le d)⟩⟩
def tJ (c:List L3)(l:L3):List L3:=lS (c++[l]) (c++[l]) []
theorem zF {c:pz L3}(hc:∀m∈c,kF m)(hl:kF l):(∀m∈tJ c l,kF m)/\(tJ c l).length<=c.length+1:=by refine ⟨λm hm=>?_,?_⟩;{rcases Gj _ _ _ m hm with g|g;{rcases Qw3.1 g with g|g;{exact hc m g};{rw [Qq6.1 g];exact hl}};{cases g}};{have:=Gi (c++[l]) (c++[l]) [];simp at this;unfold tJ;omega}
theorem j7 {c:pz L3}(hc:bE 6 bM V cp cn c)(kc:∀m∈c,kF m)(hn:c.length<=990)(hl:bM V v l)(kl:kF l) :
  aa prog 68 #[qD cp cn cc,v] V λr V'=>∃q n d,r=qD q n d/\bE 6 bM V' q n (tJ c l):=by obtain rfl:=hc.len;have b:=hl;obtain ⟨_,_,_,_,_,_,_,_,_,_,_,_,rfl⟩:=bD hl;have ⟨xs,t,a,i⟩:=dF hc (by decide);have j:∀m∈c++[l],kF m:=λm h=>(Qw3.1 h).elim (kc m) λh=>by{rw [Qq6.1 h];exact kl};have k:(c++[l]).length=(0+c.length)+1:=by{rw [Qq3];simp};refine DW V _ ⟨xs,t,a,by omega,Qq2 _,by simp,a,uP i a,λz A e B u C=>⟨by omega,u,by simp;omega,rfl,OD,λD E f F G H w o I x=>?_⟩⟩;have y:=qf (V:=w) (ys:=[_,_,_,_,_,_]) (sp:=e) (sp':=f) rfl (i.le λ_ _ g=>bM.le g o) a rfl (bM.le b o);have p:=bE.gF x y;rw [k] at p;refine (C5 p (λm h=>(j m h).2) (λm h=>(j m h).1) (by rw [k];omega)).s ?_;rintro r V2 K ⟨q,n,d,rfl,g⟩;exact ⟨q,n,d,_,rfl,λJ L s=>⟨q,n,d,rfl,g.le s λ_ _ g=>bM.le g s⟩⟩
def s_:Tr->List L3->Tr
 | .leaf i,_=>.leaf i
 | .node l x y,c=>if Bm c l=1 then s_ x c else if Bm c l=-1 then s_ y c else Om l (s_ x (tJ c l)) (s_ y (tJ c (revL l)))
theorem oB (h:kF l):kF (revL l):=⟨wJ h.1,h.2.rev⟩
theorem dD:∀(t:Tr) {V:ut} {p cp:OA} {cn cc:Nat} {c:pz L3},RW V p t->t.dT kF->bE 6 bM V cp cn c->(∀m∈c,kF m)->c.length+t.depth<=990 ->
  aa prog 65 #[dZ p,qD cp cn cc] V λr V'=>∃q,r=dZ q/\RW V' q (s_ t c)
 | .leaf i,V,p,cp,cn,cc,c,h,_,_,_,_=>by
  obtain ⟨s,e0,-⟩:=kh h;exact mw V _ ⟨s,s,_,e0,λ_ V1 l1=>⟨p,rfl,h.le l1⟩,(λh=>nomatch h)⟩
 | .node l x y,V,p,cp,cn,cc,c,h,ha,hc,kc,hd=>by
  obtain ⟨f,N,O⟩:=ha;simp only [Tr.depth] at hd;obtain ⟨b1,p1,n1,c1,b2,p2,n2,c2,b3,p3,n3,c3,pl,P,a,s,C,H⟩:=M7 h;obtain ⟨z,⟨j,n,o,u,v,w⟩,F,G,-,-,-⟩:=H V (View.Le.refl V);have A:∀{W:ut},V.Le W->bE 6 bM W cp cn c:=λg=>hc.le g λ_ _ k=>bM.le k g;refine mw V _ ⟨s,s,_,z,(λh=>nomatch h),λ_=>⟨s,s,_,_,_,_,_,_,_,_,_,_,_,_,a,C,j,n,o,u,v,w,λV2 I=>(rD (A I) (λm h=>(kc m h).2) (λm h=>(kc m h).1) (by omega) (H V2 I).2.2.2.2.1 f.2 f.1).s ?_⟩⟩;rintro r V3 l3 rfl;have L3:=I.m l3;obtain ⟨-,⟨j,n,o,u,v,w⟩,F,G,-,-,-⟩:=H V3 L3;refine ⟨_,rfl,λb=>⟨s,s,pl,F,λV4 Q=>(dD x (H V4 (L3.m Q)).2.2.2.2.2.1 N (A (L3.m Q)) kc (by omega)).s ?_⟩,λb=>⟨λe=>⟨s,s,P,G,λV7 R=>(dD y (H V7 (L3.m R)).2.2.2.2.2.2 O (A (L3.m R)) kc (by omega)).s ?_⟩,λe=>?_⟩⟩
  ·have b:Bm c l=1:=by simpa using b
   rintro r V5 l5 ⟨q,rfl,g⟩;exact ⟨q,rfl,λV6 J=>⟨q,rfl,by unfold s_;rw [if_pos b];exact g.le J⟩⟩
  ·have b:¬Bm c l=1:=by simpa using b
   have e:Bm c l=-1:=by simpa using e
   rintro r V5 l5 ⟨q,rfl,g⟩;exact ⟨q,rfl,λV6 J=>⟨q,rfl,by unfold s_;rw [if_neg b,if_pos e];exact g.le J⟩⟩
  ·have b:¬Bm c l=1:=by simpa using b
   have e:¬Bm c l=-1:=by simpa using e
   have ⟨w1,w2⟩:=zF kc f;have ⟨w3,w4⟩:=zF kc (oB f);refine ⟨s,s,_,_,_,_,_,_,_,_,_,_,_,_,a,C,j,n,o,u,v,w,s,s,pl,F,s,s,_,_,_,_,_,_,_,_,_,_,_,_,a,C,j,n,o,u,v,w,s,s,P,G,s,s,_,_,_,_,_,_,_,_,_,_,_,_,a,C,j,n,o,u,v,w,λfy d=>(j7 (A (L3.m d)) kc (by omega) (H fy (L3.m d)).2.2.2.2.1 f).s ?_⟩;rintro r fC S ⟨q1,m1,d1,rfl,h1⟩;refine ⟨q1,m1,d1,rfl,λgI D=>(dD x (H gI (L3.m (d.m (S.m D)))).2.2.2.2.2.1 N (h1.le D λ_ _ k=>bM.le k D) w1 (by omega)).s ?_⟩;rintro r iT bP ⟨o1,rfl,t1⟩;have T:=L3.m (d.m (S.m (D.m bP)));refine ⟨o1,rfl,λlP K=>(ik (H lP (T.m K)).2.2.2.2.1).s ?_⟩;rintro r jJ U gr;have X:bM jJ r (revL l):=gr;obtain ⟨_,_,_,_,_,_,_,_,_,_,_,_,rfl⟩:=bD X;have Y:=T.m (K.m U);refine qxQ ⟨rfl,λkI E=>(j7 (A (Y.m E)) kc (by omega) (bM.le X E) (oB f)).s ?_⟩;rintro r lQ Z ⟨q2,m2,d2,rfl,h2⟩;have VJ:=Y.m (E.m Z);refine ⟨q2,m2,d2,rfl,λmM B=>(dD y (H mM (VJ.m B)).2.2.2.2.2.2 O (h2.le B λ_ _ k=>bM.le k B) w3 (by omega)).s ?_⟩;rintro r pf dE ⟨o2,rfl,t2⟩;have L:=VJ.m (B.m dE);refine ⟨o2,rfl,λvG M=>(tZ (H vG (L.m M)).2.2.2.2.1 (t1.le (K.m (U.m (E.m (Z.m (B.m (dE.m M)))))) ) (t2.le M)).s ?_⟩;rintro r qF gQ ⟨o3,rfl,t3⟩;exact ⟨o3,rfl,λtK gR=>⟨o3,rfl,by unfold s_;rw [if_neg b,if_neg e];exact t3.le gR⟩⟩
theorem kU (t:Tr)(h:RW V p t)(ha:t.dT kF)(hd:t.depth<=990:=by omega) :
  aa prog 24 #[dZ p] V λr V'=>∃q,r=dZ q/\RW V' q (s_ t []):=by refine yP V _ λc a=>(dD t (h.le a) ha (bE.nil (p:=none)) (λm h=>by cases h) (by simpa using hd)).s ?_;rintro r V2 d ⟨q,rfl,g⟩;exact ⟨q,rfl,λe b=>⟨q,rfl,g.le b⟩⟩
end Go.Proofs.Tryz
