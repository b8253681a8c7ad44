import Derived.Test.YtckenacdnbolaaaGreatDoorR15
import Derived.Test.YtckenacdnbolaaaGreatDoorR5
import Derived.Test.YtckenacdnbolaaaGreatDoorR7
import Derived.Test.YtckenacdnbolaaaGreatDoorR11
import Derived.Deep.Slices
import Derived.Test.YtckenacdnbolaaaGreatDoorR8
set_option linter.all false
open Go.IntKind (i64 u64 u32)
namespace Go.Proofs.Tryz
open Go.Eng Go.Big
open Go.Value renaming slice→hF,agg→dB,bool→qvQ,int→qvK
variable{V:View}{vs:List Value}
theorem aa.monoH {f:FuncId}{args:Array un}{R R':un->ut->Prop}(h:aa prog f args V R)(hR:∀r V',V.Le V'->(∀b,V'.H b->V.H b)->R r V'->R' r V'):aa prog f args V R':=
 ⟨h.1,h.2.s λ_ c ⟨r,he,a,d⟩=>⟨r,he,a,hR r _ (V.QP c a) (λ_ e=>e) d⟩⟩
theorem rM {n b:Nat}(h:vs≠[]):vb vs n b=b:=by cases vs with|nil=>exact absurd rfl h|cons v r=>rfl
theorem NR.push {vs sp:pz un}{l:pz Nd}(h:NR V vs l)(hl:l.length*8<=vs.length){ln:L3}{x y:Int}{b1:md}{p1:OA}{n1 c1:Nat}{b2:md}{p2:OA}{n2 c2:Nat}{b3:md}{p3:OA}{n3 c3:Nat}
  (hL:RL V (dB #[qvQ b1,hF p1 n1 c1,qvQ b2,hF p2 n2 c2,qvQ b3,hF p3 n3 c3]) ln.1 ln.2.1 ln.2.2) :
  NR V (vs.take (l.length*8)++[qvQ b1,hF p1 n1 c1,qvQ b2,hF p2 n2 c2,qvQ b3,hF p3 n3 c3,qvK .i64 x,qvK .i64 y]++sp) (l++[⟨ln,x,y⟩]):=by
 intro i d a;rcases Qz2 i l.length with e|e
 ·rw [Qx1 e] at a;have ⟨f,g,k,m,n,o,p,q,r,s,t,u,z,A⟩:=h i d a;refine ⟨f,g,k,m,n,o,p,q,r,s,t,u,λj v b=>?_,A⟩
  have c:j<8:=by
   rcases Qz2 j 8 with c|c
   ·exact c
   ·rw [Qz6 (by simpa using c)] at b;cases b
  have:=z j v b;rw [Qy6,Qx1 (by rw [Qq7];omega),Qy3,if_pos (by omega)];exact this
 ·rw [Qy8 e] at a
  have w:i=l.length:=by
   rcases Qz2 (i-l.length) 1 with h'|h'
   ·omega
   ·rw [Qz6 (by simpa using h')] at a;cases a
  subst w;simp only [Nat.sub_self,List.getElem?_cons_zero,Qw1] at a;subst a;refine ⟨b1,p1,n1,c1,b2,p2,n2,c2,b3,p3,n3,c3,λj v b=>?_,.inl hL⟩<;>grind [Nat.add_sub_cancel_left]
theorem NR.set6 {l:pz Nd}(h:NR V vs l){k:Nat}{d:Nd}(hd:l[k]?=some d){x:Int}:NR V (vs.set (k*8+6) (qvK .i64 x)) (l.set k ⟨d.ln,x,d.right⟩):=by
 intro i A a;rw [Qp2] at a;split at a
 ·rename_i e;subst e;split at a
  ·cases a;have ⟨b,c,f,g,m,n,o,p,q,r,s,t,y,u⟩:=h k d hd;refine ⟨b,c,f,g,m,n,o,p,q,r,s,t,λj v z=>?_,u⟩;rw [Qp2];by_cases B:j=6
   ·subst B;have:=y 6 _ rfl
    have w:k*8+6<vs.length:=by
     rcases Qz2 (k*8+6) vs.length with h|h
     ·exact h
     ·rw [Qz6 h] at this;cases this
    rw [if_pos rfl,if_pos w];exact z
   grind
  ·cases a
 ·rename_i e;have ⟨b,c,f,g,m,n,o,p,q,r,s,t,y,u⟩:=h i A a;refine ⟨b,c,f,g,m,n,o,p,q,r,s,t,λj v z=>?_,u⟩<;>grind
theorem NR.set7 {l:pz Nd}(h:NR V vs l){k:Nat}{d:Nd}(hd:l[k]?=some d){x:Int}:NR V (vs.set (k*8+7) (qvK .i64 x)) (l.set k ⟨d.ln,d.left,x⟩):=by
 intro i A a;rw [Qp2] at a;split at a
 ·rename_i e;subst e;split at a
  ·cases a;have ⟨b,c,f,g,m,n,o,p,q,r,s,t,y,u⟩:=h k d hd;refine ⟨b,c,f,g,m,n,o,p,q,r,s,t,λj v z=>?_,u⟩;rw [Qp2];by_cases B:j=7
   ·subst B;have:=y 7 _ rfl
    have w:k*8+7<vs.length:=by
     rcases Qz2 (k*8+7) vs.length with h|h
     ·exact h
     ·rw [Qz6 h] at this;cases this
    rw [if_pos rfl,if_pos w];exact z
   grind
  ·cases a
 ·rename_i e;have ⟨b,c,f,g,m,n,o,p,q,r,s,t,y,u⟩:=h i A a;refine ⟨b,c,f,g,m,n,o,p,q,r,s,t,λj v z=>?_,u⟩<;>grind
theorem NR.kids {V:ut}{l r:pz Nd}{ln:L3}{u v x y:Int}(h:NR V vs (l++⟨ln,u,v⟩::r)):NR V ((vs.set (l.length*8+6) (qvK .i64 x)).set (l.length*8+7) (qvK .i64 y)) (l++⟨ln,x,y⟩::r):=by
 have b:(l++(⟨ln,u,v⟩:Nd)::r)[l.length]?=some ⟨ln,u,v⟩:=by simp
 have a:=h.set6 b (x:=x);have c:(l++(⟨ln,u,v⟩:Nd)::r).set l.length ⟨ln,x,v⟩=l++⟨ln,x,v⟩::r:=by simp
 rw [c] at a;have d:(l++(⟨ln,x,v⟩:Nd)::r)[l.length]?=some ⟨ln,x,v⟩:=by simp
 have e:=a.set7 d (x:=y);grind
theorem NR.take {l:pz Nd}(h:NR V vs l):NR V (vs.take (l.length*8)) l:=by
 intro i d a;have ⟨b,c,e,f,g,k,m,n,o,p,q,r,t,s⟩:=h i d a;refine ⟨b,c,e,f,g,k,m,n,o,p,q,r,λj v u=>?_,s⟩<;>grind
theorem NS.ofRow {V:ut}{b c:Nat}{vm:pz un}{l:pz Nd}{ty:TypeId}(hb:vm≠[]->V.a_ b (.cells vm.toArray ty (0,0)))(hc:l.length<=c)(hr:NR V vm l):NS V (mA b c) l.length c l:=by
 refine ⟨rfl,hc,⟨_,?_,hr.take⟩,?_⟩
 ·intro i v a;rw [Qy3] at a;split at a
  ·rename_i f;have d:vm≠[]:=λe=>by rw [e] at a;simp at a
   refine ⟨⟨b,0,none⟩,by unfold mA;rw [if_neg (by omega)],?_⟩<;>grind [add_zero',dF]
  ·cases a
 ·intro e;unfold mA at e;grind
end Go.Proofs.Tryz
namespace Go.Proofs.Tryz
open Go.Eng
def mc (V:View)(g:Nat)(y:Value):Prop:=V.at ⟨g,0,none⟩ y
def mc.le {V V':ut}{g:Nat}{y:un}(h:mc V g y)(l:V.Le V'):mc V' g y:=l.at h
def G0 (y:Value):Prop:=∃a:Addr,y=.iface 403 (.pointer (some a))
end Go.Proofs.Tryz
namespace Go.Proofs.Tryz
open Go.Eng Go.Big
open Go.Value renaming slice→hF,agg→dB,bool→qvQ,pointer→qvW,int→qvK
variable{vs:List Value}{V:View}{sz:Nat}
def JN:List Tr->Nat
 | []=>0
 | t::r=>2*t.size+1+JN r
theorem AL (a b:pz Tr):JN (a++b)=JN a+JN b:=by
 induction a with
 | nil=>simp [JN]
 | cons t r ih=>simp only [Qc8,JN];omega
def W4 (V:View)(vs:List Value)(ts:List Tr):Prop:=∀(i:Nat)(t:Tr),ts[i]?=some t->∃p,vs[i]?=some (.pointer p)/\RT V p t
theorem W4.le {V V':ut}{ts:pz Tr}(h:W4 V vs ts)(l:V.Le V'):W4 V' vs ts:=λi t a=>by
 have ⟨p,b,c⟩:=h i t a;exact ⟨p,b,c.le l⟩
theorem Uy (ts:pz Tr):ts.length<=JN ts:=by
 induction ts with
 | nil=>simp
 | cons t r ih=>simp only [JN,Qw9];omega
theorem W4.UQ {sp:pz un}{ts:pz Tr}{x y:Tr}{p q:OA}{m:Nat}(h:W4 V vs ts)(hm:m<=ts.length)(hl:m<=vs.length)(hx:RT V p x)(hy:RT V q y) :
  W4 V (vs.take m++[qvW p,qvW q]++sp) (ts.take m++[x,y]):=by
 intro i t a;rcases Qz2 i m with b|b
 ·rw [Qx1 (by rw [Qq7];omega),Qy3,if_pos b] at a;have ⟨r,c,d⟩:=h i t a;grind
 ·rw [Qy8 (by rw [Qq7];omega),Qq7,Qj3 hm] at a;obtain ⟨j,rfl⟩:∃j,i=m+j:=⟨i-m,by omega⟩;rw [Qn4] at a;have e:∀v,([qvW p,qvW q]:pz un)[j]?=some v->(vs.take m++[qvW p,qvW q]++sp)[m+j]?=some v:=by grind
  grind
def AT (V:View)(v:Value)(root:Int)(l:List Nd):Prop:=∃q n c,v=.agg #[.int .i64 root,.slice q n c]/\NS V q n c l
theorem AT.le {V V':ut}{v:un}{root:Int}{l:pz Nd}(h:AT V v root l)(hl:V.Le V'):AT V' v root l:=by
 obtain ⟨q,n,c,e,h⟩:=h;exact ⟨q,n,c,e,h.le hl⟩
def RW (V:View):OA->Tr->Prop
 | p,.leaf i=>∃(b:Nat)(c2 c3 c4 c5 c6 c7 c8 c9:Value),p=some ⟨b,0,none⟩/\V.a_ b (.cells #[.bool true,.bool i,c2,c3,c4,c5,c6,c7,c8,c9] 76 (0,0))
 | p,.node l x y=>∃(b:Nat)(i:Bool)(b1:Bool)(p1:OA)(n1 c1:Nat)(b2:Bool)(p2:OA)(n2 c2:Nat)(b3:Bool)(p3:OA)(n3 c3:Nat)(pl pr:OA),p=some ⟨b,0,none⟩ /\
   V.a_ b (.cells #[.bool false,.bool i,.bool b1,.slice p1 n1 c1,.bool b2,.slice p2 n2 c2,.bool b3,.slice p3 n3 c3,.pointer pl,.pointer pr] 76 (0,0)) /\
   RL V (.agg #[.bool b1,.slice p1 n1 c1,.bool b2,.slice p2 n2 c2,.bool b3,.slice p3 n3 c3]) l.1 l.2.1 l.2.2/\RW V pl x/\RW V pr y
theorem RW.le {V V':ut}(h:V.Le V'):∀{t:Tr} {p:OA},RW V p t->RW V' p t
 | .leaf i,p,⟨b,c2,c3,c4,c5,c6,c7,c8,c9,e,hb⟩=>⟨b,c2,c3,c4,c5,c6,c7,c8,c9,e,h _ _ hb⟩
 | .node l x y,p,⟨b,i,b1,p1,n1,c1,b2,p2,n2,c2,b3,p3,n3,c3,pl,pr,e,hb,hl,hx,hy⟩=>⟨b,i,b1,p1,n1,c1,b2,p2,n2,c2,b3,p3,n3,c3,pl,pr,e,h _ _ hb,hl.le h,RW.le h hx,RW.le h hy⟩
theorem cP (i:md):aa prog 25 #[qvQ i] V λr V'=>∃p,r=qvW p/\RW V' p (.leaf i):=
 DB V _ λc d b a=>⟨_,rfl,b,_,_,_,_,_,_,_,_,rfl,a⟩
def nE (x:L3):Prop:=cX x=true/\Bd x
theorem Xd:∀(k:Nat) {V:ut} {tb:Nat} {p:OA} {n c:Nat} {at_:Int},k<=10->JR V p n->n<=400->jZ V tb p n c at_->V.X tb->0<=at_ ->
  aa prog 26 #[qvW (some ⟨tb,0,none⟩),qvK .i64 (k:Int)] V λr V'=>∃q t at',r=qvW q/\RW V' q t/\t.eU nE/\t.size<2^k/\0<=at'/\jZ V' tb p n c at':=by
 intro k
 induction k with
 | zero=>
  intro V tb p n c at_ _ a d hw j l;refine ll tb p n c at_ _ V _ hw j ⟨λg V1 l1 m e1 h1=>(gj (V:=V1.ar [m]) 2 (a.le λb o h=>l1 b o h) d e1 ⟨by simp,h1⟩ l (by omega)).s ?_,λg=>by simp at g⟩;rintro r V2 l2 ⟨x,T,rfl,-,-,t1,e⟩;refine ⟨_,rfl,_,_,_,_,e,λV3 l3=>(cP _).s ?_⟩;rintro r V4 l4 ⟨q,rfl,s⟩;exact ⟨_,rfl,λV5 l5 e5=>⟨_,_,T,rfl,s.le l5,trivial,by simp [Tr.size],t1,e5⟩⟩
 | succ k ih=>
  intro V tb p n c at_ hk a d hw j l;refine ll tb p n c at_ _ V _ hw j ⟨λg=>by rw [beq_iff_eq] at g;omega,λ_ V6 U u e6 h6=>(gj (V:=V6.ar [u]) 4 (a.le λb o h=>U b o h) d e6 ⟨by simp,h6⟩ l (by omega)).s ?_⟩;rintro r V7 l7 ⟨x,T,rfl,-,-,t1,e⟩;have v:V.Le V7:=λb o h=>l7 b o (U b o h);refine ⟨_,rfl,_,_,_,_,e,λg V8 l8 To e8 h8=>(gj (V:=V8.ar [To]) 2 (a.le λb o h=>l8 b o (v b o h)) d e8 ⟨by simp,h8⟩ t1 (by omega)).s ?_,λg j7 W ZJ w y=>(c_L (V:=j7.ar [ZJ]) (a.le λb o h=>W b o (v b o h)) d w ⟨by simp,y⟩ t1).s ?_⟩
  ·rintro r V9 l9 ⟨x,i,rfl,-,-,t2,f⟩;refine ⟨_,rfl,_,_,_,_,f,λfQ a0=>(cP _).s ?_⟩;rintro r fD bq ⟨q,rfl,s⟩;exact ⟨_,rfl,λgS bS z=>⟨_,_,i,rfl,s.le bS,trivial,by simpa [Tr.size] using Qk4 _,t2,z⟩⟩
  ·rintro r lB cz ⟨ln,i,Y,A,B,t2,f⟩;have C:=Y;obtain ⟨b1,u1,v1,w1,b2,u2,v2,w2,b3,u3,v3,w3,rfl⟩:=(vo Y);have Z:V.Le lB:=λb o h=>cz b o (W b o (v b o h));have wk:i64.wrap (((k+1:Nat):Int)-1)=(k:Int):=by rw [au (by omega)];omega
   refine qxW ⟨rfl,_,_,_,_,f,λjI D Tq E F=>?_⟩;rw [wk];refine ((ih (V:=jI.ar [Tq]) (by omega) (a.le λb o h=>D b o (Z b o h)) d E ⟨by simp,F⟩ t2).s ?_);rintro r lH cq ⟨qa,ta,a1,rfl,G,H,a2,t3,I⟩;have CT:V.Le lH:=λb o h=>cq b o (D b o (Z b o h));refine ⟨_,rfl,_,_,_,_,I,λlC J ZL K L=>(ih (V:=lC.ar [ZL]) (by omega) (a.le λb o h=>J b o (CT b o h)) d K ⟨by simp,L⟩ t3).s ?_⟩;rintro r mE cj ⟨qb,M,N,rfl,O,P,a3,t4,Q⟩;refine ⟨_,rfl,_,_,_,_,Q,λpf R ZM S hb=>⟨_,.node ln ta M,N,rfl,⟨ZM,_,_,_,_,_,_,_,_,_,_,_,_,_,_,_,rfl,hb,?_,?_,?_⟩,⟨⟨A,B⟩,H,P⟩,?_,t4,S⟩⟩
   ·exact C.le λb o h=>R b o (cj b o (J b o (cq b o (D b o h))))
   ·exact RW.le (V:=lH) (V':=pf) (λb o h=>R b o (cj b o (J b o h))) G
   ·exact RW.le (V:=mE) (V':=pf) (λb o h=>R b o h) O
   ·simp only [Tr.size];rw [Qk8];omega
theorem row_one {α:Type}{R:ut->un->α->Prop}{xs:pz un}{a:α}(hx:xs.length=sz)(ha:R V (.agg xs.toArray) a):Row sz R V xs [a]:=by refine ⟨λi b=>?_⟩<;>grind
theorem K4 {α:Type}{R:ut->un->α->Prop}{ls:pz α}(h:Row sz R V vs ls){k:Nat}(hk:k<=ls.length){xs sp:pz un}{a:α}(hx:xs.length=sz)(ha:R V (.agg xs.toArray) a)(hs:0<sz) :
  Row sz R V (vs.take (k*sz)++(xs++(vs.take (ls.length*sz)).drop (k*sz))++sp) (ls.take k++a::ls.drop k):=by
 have v:=h.jR hs;have q:k*sz<=ls.length*sz:=Qw0 _ hk;have t1:(vs.take (k*sz)).length=k*sz:=by rw [Qq7];omega
 have t2:((vs.take (ls.length*sz)).drop (k*sz)).length=ls.length*sz-k*sz:=by rw [Qn2,Qq7];omega
 have g:(ls.take k).length=k:=by rw [Qq7];omega
 refine ⟨λi r=>?_⟩;rw [Qy6];by_cases s:i<k
 ·have c:i<ls.length:=by omega
  have ⟨l,n,o,p⟩:=h.at_ i c;have e:(ls.take k++a::ls.drop k)[i]=ls[i]:=by rw [Qr4 (by omega),Wy2]
  refine ⟨l,n,by rw [e];exact o,λj x b=>?_⟩;have d:=(Qx0.1 b).1
  have f:i*sz+j<k*sz:=by
   have:(i+1)*sz<=k*sz:=Qw0 _ s;rw [Qg9] at this;omega
  rw [Qx1 (by omega),Qy3,if_pos f];exact p j x b
 ·by_cases t:i=k
  ·subst t
   have e:(ls.take i++a::ls.drop i)[i]=a:=by
    simp [g]
   refine ⟨xs,hx,by rw [e];exact ha,λj x b=>?_⟩;have d:=(Qx0.1 b).1;rw [Qy8 (by omega),t1,Qn4,Qy6,Qx1 d];exact b
  ·have c:i-1<ls.length:=by
    rw [Qq3,g,Qw9,Qn2] at r;omega
   have ⟨l,n,o,p⟩:=h.at_ (i-1) c
   have e:(ls.take k++a::ls.drop k)[i]=ls[i-1]:=by
    rw [Wx6 (by omega)];obtain ⟨m,hm⟩:∃m,i=k+(m+1):=⟨i-k-1,by omega⟩;subst hm;simp only [g,Qn4,List.getElem_cons_succ,List.getElem_drop];congr 1
   refine ⟨l,n,by rw [e];exact o,λj x b=>?_⟩;have d:=(Qx0.1 b).1;obtain ⟨m,hm⟩:∃m,i=k+1+m:=⟨i-k-1,by omega⟩;subst hm;have w:(k+1+m)*sz=k*sz+sz+m*sz:=by rw [Qk1,Qk1,Qc9]
   have u:(k+1+m-1)*sz=k*sz+m*sz:=by rw [show k+1+m-1=k+m by omega,Qk1]
   have:=p j x b;rw [u] at this
   have f:k*sz+m*sz+j<ls.length*sz:=by
    have:(k+m+1)*sz<=ls.length*sz:=Qw0 _ (by omega);rw [Qk1,Qk1,Qc9] at this;omega
   rw [Qy8 (by omega),t1,Qy6,Qy8 (by omega),hx,Qx1 (by omega),Qn7,Qy3,if_pos (by omega)];rw [show k*sz+((k+1+m)*sz+j-k*sz-sz)=k*sz+m*sz+j by omega];exact this
theorem eH {α:Type}{R:ut->un->α->Prop}{p:OA}{n:Nat}{ls:pz α}(h:bI sz R V p n ls)(hs:0<sz):∃xs:pz un,V.sl p xs/\xs.length=ls.length*sz/\Row sz R V xs ls:=by
 have step:∀k,k<=ls.length->∃xs:pz un,V.sl p xs/\xs.length=k*sz/\Row sz R V xs (ls.take k):=by
  intro k
  induction k with
  | zero=>exact λ_=>⟨[],λi v b=>by simp at b,by simp,by rw [Qd3];exact Row.nil⟩
  | succ k ih=>
   intro r;have ⟨xs,d,e,f⟩:=ih (by omega);have ⟨l,g,m,j,o,s⟩:=h.at_ k (by omega);have q:(ls.take k).length=k:=by rw [Qq7];omega
   refine ⟨xs++m,λi v b=>?_,by rw [Qq3,e,j,Qg9],?_⟩
   ·by_cases c:i<xs.length
    ·rw [Qx1 c] at b;exact d i v b
    ·rw [Qy8 (by omega)] at b
     cases p with
     | none=>cases g
     | some a=>
      obtain rfl:=Qv6 (show some (a.add (k*sz))=some l from g);grind [zv]
   ·have:=f.snoc (sp:=[]) j o hs;rw [q,Qx3,Qb7 (by omega)] at this;rw [Qz9,Qq1 (by omega)];exact this
 have ⟨xs,d,e,f⟩:=step ls.length (Qq2 _);grind
theorem hZ {α:Type}{R:ut->un->α->Prop}{V:ut}{vs xs sp:pz un}{ls ms:pz α}(h:Row sz R V vs ls)(h':Row sz R V xs ms)(hs:0<sz):Row sz R V (vs.take (ls.length*sz)++xs++sp) (ls++ms):=by
 have q:=h.jR hs;have o:=h'.jR hs;have n:(vs.take (ls.length*sz)).length=ls.length*sz:=by rw [Qq7];omega
 refine ⟨λi p=>?_⟩;by_cases c:i<ls.length
 ·have ⟨d,f,g,k⟩:=h.at_ i c;refine ⟨d,f,by rw [Qr4 c];exact g,λj x a=>?_⟩;have l:=(Qx0.1 a).1
  have b:i*sz+j<ls.length*sz:=by
   have:(i+1)*sz<=ls.length*sz:=Qw0 _ c;rw [Qg9] at this;omega
  rw [Qy6,Qx1 (by omega),Qy3,if_pos b];exact k j x a
 ·rw [Qq3] at p;obtain ⟨m,rfl⟩:∃m,i=ls.length+m:=⟨i-ls.length,by omega⟩;have hm:m<ms.length:=by omega
  have ⟨d,f,g,k⟩:=h'.at_ m hm;refine ⟨d,f,?_,λj x a=>?_⟩
  ·have e:(ls++ms)[ls.length+m]=ms[m]:=by rw [Wx6 (by omega)];simp
   rw [e];exact g
  ·have l:=(Qx0.1 a).1
   have b:m*sz+j<xs.length:=by
    have:(m+1)*sz<=ms.length*sz:=Qw0 _ hm;rw [Qg9] at this;omega
   rw [Qy6,Qy8 (by rw [n,Qk1];omega),n,Qk1,Qx1 (by omega)];rw [show ls.length*sz+m*sz+j-ls.length*sz=m*sz+j by omega];exact k j x a
theorem kh {α:Type}{R:ut->un->α->Prop}{al:pz α}(h:Row sz R V vs al)(hs:0<sz)(hc:∀xs a,R V (.agg (List.toArray xs)) a->∀v∈xs,v.oneCell'=true){m:Nat}(hm:m<al.length*sz){v:un}(hv:vs[m]?=some v):v.oneCell'=true:=by
 have b:m / sz<al.length:=Nat.div_lt_of_lt_mul (by rw [Qv4];exact hm);have ⟨xs,c,f,d⟩:=h.at_ (m / sz) b;have e:m%sz<xs.length:=by rw [c];exact Qj8 _ hs
 grind [Nat.mul_comm,Nat.div_add_mod,List.getElem_mem]
theorem FG {b:md}{xs:pz Nat}(hd:cK xs)(h:xs.length<=3):(aA b xs).natAbs<2^96:=by
 have a:=h_ hd;have c:4294967296^xs.length<=4294967296^3:=Qx2 (by omega) (by omega);have d:4294967296^3=2^96:=by decide
 have e:(aA b xs).natAbs=val xs:=by unfold aA;split<;>simp
 omega
theorem US {a b:Nat}(h:a<=b:=by omega):2^a<=2^b:=Qx2 (by omega) h
theorem rl_of {b1:md}{p1:OA}{n1 c1:Nat}{xs:pz Nat}{b2:md}{p2:OA}{n2 c2:Nat}{ys:pz Nat}{b3:md}{p3:OA}{n3 c3:Nat}{zs:pz Nat}(ho:jF b1 xs b2 ys b3 zs=true)(h1:RD V p1 n1 c1 xs)(h2:RD V p2 n2 c2 ys)(h3:RD V p3 n3 c3 zs) :
  RL V (dB #[qvQ b1,hF p1 n1 c1,qvQ b2,hF p2 n2 c2,qvQ b3,hF p3 n3 c3]) (O1 b1 xs b2 ys b3 zs).1 (O1 b1 xs b2 ys b3 zs).2.1 (O1 b1 xs b2 ys b3 zs).2.2:=by
 rw [nf] at ho;simp only [Qw7] at ho;obtain ⟨⟨⟨a,b⟩,c⟩,-⟩:=ho;have ⟨d,f1⟩:=FQ a;have ⟨e,f2⟩:=FQ b;have ⟨f,f3⟩:=FQ c;unfold O1;dsimp only;refine ⟨p1,n1,c1,p2,n2,c2,p3,n3,c3,?_,by rw [←f1];exact h1,by rw [←f2];exact h2,by rw [←f3];exact h3⟩;rw [←d,←e,←f]
end Go.Proofs.Tryz
namespace Go.Proofs.YtckenacdnbolaaaGreatDoor
open Go.ChangeShapes Go.WideShapes Go.ChangeAt Go.RowKit Go.Eng Go.Big Go.Proofs.Tryz
section
variable {H:Type} {enc:TypeId × Value->H} {W:World} {fuel:Nat}
theorem U_ {α:Type}{xs:pz α}{i:Nat}{o:Option α}(h:o=xs[i]?)(hi:i<xs.length):∃y,o=some y:=⟨xs[i],by rw [h,Qq1 hi]⟩
theorem pL {H:Type}{enc:TypeId×un->H}{W:World}{fs:Array Field}{cs:pz un}{xs:pz (DataW H×pz MemPlace)}{m:Nat}(hf:∀(i:Nat)(f:Field),fs[i]?=some f->DataW.trod enc Tryz.prog W 0 (λ_=>true) true m f.type ((cs.drop f.offset).take (Tryz.prog.cellsOf f.type))=xs[i]?)(hl:xs.length=fs.size)(i:Nat){f:Field}(hi:fs[i]?=some f){n:Nat}(hn:Tryz.prog.cellsOf f.type=n) :
  ∃y,DataW.trod enc Tryz.prog W 0 (λ_=>true) true m f.type ((cs.drop f.offset).take n)=some y:=by
 have:=hf i f hi;rw [hn] at this
 have lt:i<xs.length:=by
  rw [hl];exact (Qf1.1 hi).1
 exact U_ this lt
set_option maxRecDepth 100000 in
theorem Tt {c:un}{y:DataW H×pz MemPlace}(h:DataW.trod enc Tryz.prog W 0 (λ_=>true) true fuel 4 [c]=some y):∃b,c=.bool b:=by
 obtain ⟨b,e,-⟩:=DataW.trod_bool Tryz.underlying4 h;exact ⟨b,by simpa using e⟩
set_option maxRecDepth 100000 in
theorem Yw {c:un}{y:DataW H×pz MemPlace}(h:DataW.trod enc Tryz.prog W 0 (λ_=>true) true fuel 47 [c]=some y):∃p n k ds,c=.slice p n k/\RD (View.all W) p n k ds:=by
 rcases open_ints Tryz.underlying47 Tryz.underlying216 (show Tryz.prog.cellsOf 216=1 by kernel_rfl) h with ⟨e,-⟩|⟨a,len,cap,j,e,_,q,-,r,-,g,l⟩
 ·exact ⟨none,0,0,[],by simpa using e,RD.nil⟩
 ·simp only [if_true] at r
  have m:∀z∈j,0<=z/\z<4294967296:=λz hm=>by
   have:=l z hm;simp only [Lit.wf,Qw7,decide_eq_true_eq] at this;have s:IntKind.min .u32=0:=by decide
   have t:IntKind.max .u32=4294967295:=by decide
   rw [s,t] at this;exact ⟨this.1,by omega⟩
  refine ⟨some a,len,cap,(j.take len).map Int.toNat,by simpa using e,?_,q,?_,?_,(λh=>nomatch h)⟩
  ·simp;omega
  ·intro i v o;simp only [aK,Wz5,Qs7,Qs6] at o;obtain ⟨z,b,rfl⟩:=o;rw [Qy3] at b;split at b
   ·rename_i u;have f:i<j.length:=by omega
    rw [Qq1 f] at b;have b:=Qv6 b;have:=g i f;rw [Qx8,Qq1 f] at this;simp only [Qf3] at this;have hm:=m _ (Qq9 f);refine ⟨a,rfl,λh=>h,?_⟩;show W.cell? (a.add i)=_;rw [this,b];have:((z.toNat:Nat):Int)=z:=Int.toNat_of_nonneg (b▸hm.1);simp only [Function.comp];rw [this]
   ·cases b
  ·intro d hm;simp only [Qz0] at hm;obtain ⟨z,b,rfl⟩:=hm;have:=m z (Qb6 b);omega
set_option maxRecDepth 100000 in
theorem KD {c0 c1:un}{y:DataW H×pz MemPlace}(h:DataW.trod enc Tryz.prog W 0 (λ_=>true) true fuel 49 [c0,c1]=some y):∃b p n k ds,c0=.bool b/\c1=.slice p n k/\RD (View.all W) p n k ds:=by
 obtain ⟨xs,m,-,-,-,a,c⟩:=DataW.trod_struct Tryz.underlying49 h;have ⟨g,d⟩:=pL c a 0 rfl (show Tryz.prog.cellsOf 4=1 by kernel_rfl);have ⟨i,e⟩:=pL c a 1 rfl (show Tryz.prog.cellsOf 47=1 by kernel_rfl);obtain ⟨b,rfl⟩:=Tt d;obtain ⟨p,n,k,ds,rfl,f⟩:=Yw e;exact ⟨b,p,n,k,ds,rfl,rfl,f⟩
set_option maxRecDepth 100000 in
theorem Uq {c0 c1 c2 c3 c4 c5:un}{y:DataW H×pz MemPlace}(h:DataW.trod enc Tryz.prog W 0 (λ_=>true) true fuel 51 [c0,c1,c2,c3,c4,c5]=some y):∃b1 xs b2 ys b3 zs,VD (View.all W) (.agg #[c0,c1,c2,c3,c4,c5]) b1 xs b2 ys b3 zs/\∃p n k p' n' k' p2 n2 k2,c0=.bool b1/\c1=.slice p n k/\c2=.bool b2/\c3=.slice p' n' k'/\c4=.bool b3/\c5=.slice p2 n2 k2:=by
 obtain ⟨xs,m,-,-,-,a,b⟩:=DataW.trod_struct Tryz.underlying51 h;have ⟨j,c⟩:=pL b a 0 rfl (show Tryz.prog.cellsOf 49=2 by kernel_rfl);have ⟨l,d⟩:=pL b a 1 rfl (show Tryz.prog.cellsOf 49=2 by kernel_rfl);have ⟨o,e⟩:=pL b a 2 rfl (show Tryz.prog.cellsOf 49=2 by kernel_rfl);obtain ⟨b1,q,r,s,d1,rfl,rfl,f⟩:=KD c;obtain ⟨b2,p2,n2,k2,d2,rfl,rfl,g⟩:=KD d;obtain ⟨b3,t,u,v,d3,rfl,rfl,i⟩:=KD e;exact ⟨b1,d1,b2,d2,b3,d3,(qyJ ⟨rfl,f,g,i⟩),_,_,_,_,_,_,_,_,_,rfl,rfl,rfl,rfl,rfl,rfl⟩
end
theorem qF {α:Type}{l:pz α}{n:Nat}(h:l.length=n+1):∃a r,l=a::r/\r.length=n:=by
 cases l with
 | nil=>simp at h
 | cons a r=>exact ⟨a,r,rfl,by simpa using h⟩
end Go.Proofs.YtckenacdnbolaaaGreatDoor
namespace Go.Proofs.YtckenacdnbolaaaGreatDoor
open Go.ChangeShapes Go.WideShapes Go.ChangeAt Go.RowKit Go.Eng Go.Big Go.Proofs.Tryz
set_option maxRecDepth 100000 in
def QQ {H:Type}{enc:TypeId×un->H}{W:World}{r:Reach}{b0:Nat}{v:un}{d:DataW H}{p:pz MemPlace}(hv:Value.okWide Tryz.prog W r b0 51 v)(h:DataW.Trod enc Tryz.prog W 0 (λ_=>true) true 51 v d p):∃b1 xs b2 ys b3 zs,VD (View.all W) v b1 xs b2 ys b3 zs:=by
 obtain ⟨⟨cs⟩,rfl,a⟩:=okWide_struct Tryz.underlying51 hv;have a:cs.length=6:=a.m (by kernel_rfl);obtain ⟨l,m,rfl,b⟩:=qF a;obtain ⟨n,o,rfl,c⟩:=qF b;obtain ⟨q,s,rfl,e⟩:=qF c;obtain ⟨t,u,rfl,f⟩:=qF e;obtain ⟨w,x,rfl,i⟩:=qF f;obtain ⟨y,z,rfl,j⟩:=qF i;obtain rfl:=Qw5.1 j;obtain ⟨fuel,k⟩:=h;obtain ⟨b1,xs,b2,ys,b3,zs,g,-⟩:=Uq k;exact ⟨b1,xs,b2,ys,b3,zs,g⟩
end Go.Proofs.YtckenacdnbolaaaGreatDoor
namespace Go.Proofs.Tryz
open Go.Eng Go.Big
def sH (x y:Rat):Rat:=if 0<dI y x then y else x
def sI (x y:Rat):Rat:=if dI y x<0 then y else x
theorem cR (x y:Rat):(x<y/\dI x y=-1)\/(x=y/\dI x y=0)\/(y<x/\dI x y=1):=by grind [Fo.1,iC.1,yD.1]
theorem Sp.iE {s:Sp}:s.emp=false↔(s.a=true\/s.b=true\/s.lo<s.hi):=by
 unfold Sp.emp;rcases cR s.lo s.hi with ⟨h,e⟩|⟨h,e⟩|⟨h,e⟩<;>rw [e]<;>cases s.a<;>cases s.b<;>simp<;>grind
def Sp.meet (v w:Sp):Sp:=⟨if v.a then w.lo else if w.a then v.lo else sH v.lo w.lo,if v.b then w.hi else if w.b then v.hi else sI v.hi w.hi,if v.a then w.a else false,if v.b then w.b else false⟩
def Sp.AD {v w:Sp}(h1:v.can)(h2:w.can):(v.meet w).can:=by
 unfold Sp.meet;constructor<;>dsimp only
 ·cases hv:v.a with
  | false=>intro h;cases h
  | true=>exact λh=>h2.1 h
 ·cases hv:v.b with
  | false=>intro h;cases h
  | true=>exact λh=>h2.2 h
def Sp.gE (s:Sp):Rat:=if s.a then (if s.b then 0 else s.hi-((1:Int):Rat)) else if s.b then s.lo+((1:Int):Rat) else (s.lo+s.hi)*((2:Int):Rat)⁻¹
def Sp.ML {s:Sp}(h:s.emp=false):(s.a=false->s.lo<s.gE)/\(s.b=false->s.gE<s.hi):=by
 rw [Sp.iE] at h;unfold Sp.gE;cases ha:s.a<;>cases hb:s.b<;>simp at h⊢<;> grind
def dotL (m l:L3):Rat:=((m.1:Rat)*(l.2.1:Rat))+((m.2.1:Rat)*(-(l.1:Rat)))
def jJ (m l:L3):Rat:=aq m (eK l 0) (eN l 0)
theorem tj (m l:L3)(t:Rat):aq m (eK l t) (eN l t)=jJ m l+dotL m l*t:=by
 unfold jJ aq dotL eK eN;grind
def cutP (m l:L3):Rat:=-(jJ m l*(dotL m l)⁻¹)
def bu (l:L3)(s:Sp)(m:L3):Sp:=
 if (dotL m l).num.sign==0 then s else if (dotL m l).num.sign==1 then s.meet ⟨cutP m l,0,false,true⟩ else s.meet ⟨0,cutP m l,true,false⟩
def cH (l:L3)(s:Sp)(m:L3):Bool:=
 if (dotL m l).num.sign==0 then decide ((jJ m l).num.sign>0) else !(bu l s m).emp
theorem dV (q:Rat):(q=0/\q.num.sign=0)\/(0<q/\q.num.sign=1)\/(q<0/\q.num.sign=-1):=by
 have a:=@Il q;have b:=@Im q;have c:=@Qv1 q;rcases Qg5 q.num 0 with h|h|h<;>grind
def PU {l:L3}{s:Sp}{m:L3}(he:s.emp=false)(hb:cH l s m=true):(bu l s m).emp=false:=by grind [cH,bu]
def PW {l:L3}{s:Sp}{m:L3}(hc:s.can):(bu l s m).can:=by
 unfold bu;split
 ·exact hc
 ·split
  ·exact Sp.AD hc ⟨(λh=>nomatch h),λ_=>rfl⟩
  ·exact Sp.AD hc ⟨λ_=>rfl,(λh=>nomatch h)⟩
theorem val_rev (m:L3)(x y:Rat):aq (revL m) x y=-aq m x y:=by
 unfold aq revL;simp only [Qs2];grind
def crossL (l m:L3):Rat:=((l.1:Rat)*(m.2.1:Rat))-((l.2.1:Rat)*(m.1:Rat))
def Zg (l m:L3):Rat:=(((l.2.1:Rat)*(m.2.2:Rat))-((l.2.2:Rat)*(m.2.1:Rat)))*(crossL l m)⁻¹
def Zh (l m:L3):Rat:=(((l.2.2:Rat)*(m.1:Rat))-((l.1:Rat)*(m.2.2:Rat)))*(crossL l m)⁻¹
def Sp.inn (s:Sp)(t:Rat):Prop:=(s.a=true\/s.lo<t)/\(s.b=true\/t<s.hi)
def xP (ss:List Sp)(t:Rat):Prop:=∃s∈ss,s.inn t
def Sp.good (s:Sp):Prop:=s.can/\s.emp=false
def Sp.OW (s t:Sp):Prop:=s.b=false/\t.a=false/\s.hi<t.lo
def wb (ss:List Sp):Prop:=(∀s∈ss,s.good)/\ss.Pairwise Sp.OW
def pick (E:pz Rat):∀l u:Rat,l<u->∃t,l<t/\t<u/\t∉E:=by
 induction E with
 | nil=>exact λl u h=>⟨(l+u) / 2,by grind,by grind,by simp⟩
 | cons e r ih=>grind
def maxL:∀l:pz Rat,l=[]\/∃m∈l,∀x∈l,x<=m:=by
 intro l
 induction l with
 | nil=>exact .inl rfl
 | cons y r ih=>
  rcases ih with rfl|⟨m,hm,h⟩
  ·exact .inr ⟨y,by simp,by intro x a;simp at a;grind⟩
  grind
def minL:∀l:pz Rat,l=[]\/∃m∈l,∀x∈l,m<=x:=by
 intro l
 induction l with
 | nil=>exact .inl rfl
 | cons y r ih=>
  rcases ih with rfl|⟨m,hm,h⟩
  ·exact .inr ⟨y,by simp,by intro x a;simp at a;grind⟩
  grind
def Ix (E Ls Us:pz Rat)(h:∀l∈Ls,∀u∈Us,l<u):∃t,(∀l∈Ls,l<t)/\(∀u∈Us,t<u)/\t∉E:=by
 have key:∃a b:Rat,a<b/\(∀l∈Ls,l<=a)/\∀u∈Us,b<=u:=by
  rcases maxL Ls with rfl|⟨m,hm,e⟩
  ·rcases minL Us with rfl|⟨n,f,c⟩
   ·exact ⟨0,1,by decide,(λ_ h=>by cases h),(λ_ h=>by cases h)⟩
   ·exact ⟨n-1,n,by grind,(λ_ h=>by cases h),c⟩
  ·rcases minL Us with rfl|⟨n,f,c⟩
   ·exact ⟨m,m+1,by grind,e,(λ_ h=>by cases h)⟩
   grind
 obtain ⟨a,b,d,e,c⟩:=key;have ⟨t,t1,t2,t3⟩:=pick E a b d;grind
def Sp.Mq (s:Sp):List Rat:=if s.a then [] else [s.lo]
def Sp.Kw (s:Sp):List Rat:=if s.b then [] else [s.hi]
variable{r:List Sp}
theorem yJ {s:Sp}{t:Rat}:s.inn t↔(∀l∈s.Mq,l<t)/\∀u∈s.Kw,t<u:=by
 unfold Sp.inn Sp.Mq Sp.Kw;cases s.a<;>cases s.b<;>simp
theorem oa {s:Sp}{l:Rat}(h:l∈s.Mq):s.a=false/\l=s.lo:=by
 unfold Sp.Mq at h;cases ha:s.a<;>simp [ha] at h;exact ⟨rfl,h⟩
theorem qJ {s:Sp}{l:Rat}(h:l∈s.Kw):s.b=false/\l=s.hi:=by
 unfold Sp.Kw at h;cases ha:s.b<;>simp [ha] at h;exact ⟨rfl,h⟩
theorem mY {s:Sp}(h:s.emp=false)(ha:s.a=false)(hb:s.b=false):s.lo<s.hi:=by grind [Sp.iE.1]
theorem MA {s:Sp}(h:s.emp=false)(E:pz Rat):∃t,s.inn t/\t∉E:=by
 have ⟨t,c,d,e⟩:=Ix E s.Mq s.Kw (λl a u hu=>by
  obtain ⟨b,rfl⟩:=oa a;obtain ⟨hb,rfl⟩:=qJ hu;exact mY h b hb)
 grind [yJ.2]
theorem wb.tail {s:Sp}(h:wb (s::r)):wb r:=⟨λx a=>h.1 x (by simp [a]),(Qx4.1 h.2).2⟩
theorem wb.OW {s:Sp}(h:wb (s::r)){x:Sp}(hx:x∈r):s.OW x:=(Qx4.1 h.2).1 x hx
theorem FO {s:Sp}(h:wb (s::r))(ha:s.a=false){t:Rat}(ht:t<=s.lo):¬xP (s::r) t:=by
 rintro ⟨x,b,d,e⟩;rcases Qq6.1 b with rfl|b
 ·grind
 ·have ⟨c,f,g⟩:=h.OW b;have:=mY (h.1 s (by simp)).2 ha c;grind
def nl:List Sp->List Rat
 | []=>[]
 | x::_=>[x.lo]
theorem Mt {s:Sp}(h:wb (s::r))(hb:s.b=false){t:Rat}(h1:s.hi<=t)(h2:∀x∈nl r,t<=x):¬xP (s::r) t:=by
 rintro ⟨x,a,c,d⟩;rcases Qq6.1 a with rfl|a
 ·grind
 ·cases r with
  | nil=>cases a
  | cons y r=>exact FO h.tail (h.OW (by simp)).2.1 (h2 y.lo (by simp [nl])) ⟨x,a,c,d⟩
set_option linter.unusedSectionVars false
section
variable {s s':Sp} {r r':List Sp} {E:List Rat} (h:wb (s :: r)) (h':wb (s' :: r')) (e:∀t,t ∉ E->xP (s :: r) t->xP (s' :: r') t)
include h h' e
theorem un_a (ha:s.a=true):s'.a=true:=by
 cases ha':s'.a with
 | true=>rfl
 | false=>
  obtain ⟨t,-,c,d⟩:=Ix E [] (s'.lo::s.Kw) (λl b=>by cases b);have:=e t d ⟨s,by simp,.inl ha,(yJ.2 ⟨(λl b=>by unfold Sp.Mq at b;rw [if_pos ha] at b;cases b),λu hu=>c u (by simp [hu])⟩).2⟩;exact absurd this (FO h' ha' (by have:=c s'.lo (by simp);grind))
theorem WL (ha:s.a=false)(ha':s'.a=false):¬s.lo<s'.lo:=by
 intro b
 have ⟨t,f,d,g⟩:=Ix E [s.lo] (s'.lo::s.Kw) (λl c u hu=>by
  obtain rfl:l=s.lo:=by simpa using c
  rcases Qq6.1 hu with rfl|hu
  ·exact b
  ·obtain ⟨i,rfl⟩:=qJ hu;exact mY (h.1 s (by simp)).2 ha i)
 have:=e t g ⟨s,by simp,yJ.2 ⟨(λl c=>by obtain ⟨-,rfl⟩:=oa c;exact f _ (by simp)),λu hu=>d u (by simp [hu])⟩⟩;exact absurd this (FO h' ha' (by have:=d s'.lo (by simp);grind))
theorem un_b (h0 : s.a = false → s'.a = false ∧ s.lo = s'.lo)(hb : s.b = true) : s'.b = true := by
  cases hb' : s'.b with
  | true => rfl
  | false =>
    have g : ∀ u∈nl r', s'.hi<u := λu hu => by
      cases r' with
      | nil => cases hu
      | cons y r' => obtain rfl : u = y.lo := by simpa [nl] using hu
                     exact (h'.OW (by simp)).2.2
    obtain ⟨t, d, h, i⟩ := Ix E (s'.hi::s.Mq) (nl r') (λl c u hu => by
      rcases Qq6.1 c with rfl|c
      · exact g u hu
      · obtain ⟨f, rfl⟩ := oa c;have := mY (h'.1 s' (by simp)).2 (h0 f).1 hb';rw [(h0 f).2];grind)
    have := e t i ⟨s, by simp, (yJ.2 ⟨(λl c => d l (by simp [c])), (λu hu => by unfold Sp.Kw at hu;rw [if_pos hb] at hu;cases hu)⟩ : s.inn t)⟩;exact absurd this (Mt h' hb' (by have := d s'.hi (by simp);grind) (λx j => by have := h x j;grind))
theorem WK (h0 : s.a = false → s'.a = false ∧ s.lo = s'.lo)(hb : s.b = false)(hb' : s'.b = false) : ¬s'.hi<s.hi := by
  intro c
  have g : ∀ u∈nl r', s'.hi<u := λu hu => by
    cases r' with
    | nil => cases hu
    | cons y r' => obtain rfl : u = y.lo := by simpa [nl] using hu
                   exact (h'.OW (by simp)).2.2
  obtain ⟨t, h, f, i⟩ := Ix E [s'.hi] (s.hi::nl r') (λl j u hu => by
    obtain rfl : l = s'.hi := by simpa using j
    rcases Qq6.1 hu with rfl|hu
    · exact c
    · exact g u hu)
  have m := h s'.hi (by simp)
  have d : s.inn t := by
    refine ⟨?_, .inr (f s.hi (by simp))⟩
    cases ha : s.a with
    | true => exact .inl rfl
    | false =>
      have := mY (h'.1 s' (by simp)).2 (h0 ha).1 hb';exact .inr (by grind)
  exact absurd (e t i ⟨s, by simp, d⟩) (Mt h' hb' (by grind) (λx k => by have := f x (by simp [k]);grind))
end
theorem Sp.ext' {s t:Sp}(h1:s.a=t.a)(h2:s.b=t.b)(h3:s.lo=t.lo)(h4:s.hi=t.hi):s=t:=by
 cases s;cases t;simp at *;exact ⟨h3,h4,h1,h2⟩
theorem KZ {E:pz Rat}:∀{xs ys:pz Sp},wb xs->wb ys->(∀t,t∉E->(xP xs t↔xP ys t))->xs=ys:=by
 intro xs
 induction xs with
 | nil=>
  intro ys _ f e
  cases ys with
  | nil=>rfl
  | cons s r=>
   have ⟨t,c,i⟩:=MA (f.1 s (by simp)).2 E;obtain ⟨x,d,-⟩:=(e t i).2 ⟨s,by simp,c⟩;cases d
 | cons s r ih=>
  intro ys d f e
  cases ys with
  | nil=>
   have ⟨t,c,i⟩:=MA (d.1 s (by simp)).2 E;obtain ⟨x,d,-⟩:=(e t i).1 ⟨s,by simp,c⟩;cases d
  | cons s' r'=>
   have k:=λt j=>(e t j).1;have l:=λt j=>(e t j).2
   have beq:∀{a b:md},(a=true->b=true)->(b=true->a=true)->a=b:=λ{a b} c i=>by
    cases a<;>cases b<;>simp at c i ⊢
   have g:s.a=s'.a:=beq (un_a d f k) (un_a f d l)
   have y:s.a=false->s.lo=s'.lo:=λc=>by
    have A:=WL d f k c (g▸c);have B:=WL f d l (g▸c) c;grind
   have z:s.a=false->s'.a=false/\s.lo=s'.lo:=λh=>⟨g▸h,y h⟩;have n:s'.a=false->s.a=false/\s'.lo=s.lo:=λh=>⟨g.symm▸h,(y (g.symm▸h)).symm⟩;have u:s.b=s'.b:=beq (un_b d f k z) (un_b f d l n)
   have C:s.b=false->s.hi=s'.hi:=λc=>by
    have A:=WK d f k z c (u▸c);have B:=WK f d l n (u▸c) c;grind
   have gs:=(d.1 s (by simp)).1;have o:=(f.1 s' (by simp)).1
   have es:s=s':=by
    refine Sp.ext' g u ?_ ?_
    ·cases c:s.a with
     | false=>exact y c
     | true=>rw [gs.1 c,o.1 (g▸c)]
    ·cases c:s.b with
     | false=>exact C c
     | true=>rw [gs.2 c,o.2 (u▸c)]
   subst es
   have p:∀{q:pz Sp} {t:Rat},wb (s::q)->xP q t->¬s.inn t:=by
    rintro q t D ⟨x,d,c,i⟩ ⟨v,w⟩;have ⟨F,G,H⟩:=D.OW d;grind
   rw [ih d.tail f.tail (λt j=>⟨λm=>?_,λm=>?_⟩)]
   ·have ⟨x,hm,hi⟩:=k t j (by obtain ⟨x,v,w⟩:=m;exact ⟨x,by simp [v],w⟩);rcases Qq6.1 hm with rfl|hm
    ·exact absurd hi (p d m)
    ·exact ⟨x,hm,hi⟩
   ·have ⟨x,hm,hi⟩:=l t j (by obtain ⟨x,v,w⟩:=m;exact ⟨x,by simp [v],w⟩);rcases Qq6.1 hm with rfl|hm
    ·exact absurd hi (p f m)
    ·exact ⟨x,hm,hi⟩
end Go.Proofs.Tryz
namespace Go.Proofs.Tryz
open Go.Eng Go.Big
open Go.Value renaming slice→hF,agg→dB,bool→qvQ
variable{c i k n sz y:Nat}{V:View}{vs xs:List Value}{v:Value}{q x:Rat}{p:OA}{ss:List Sp}
structure GR {α:Type} (sz:Nat) (R:View->Value->α->Prop) (V:View) (n c:Nat) (vs:List Value) (l:List α):Prop where
 len:n=l.length
 le:n<=c
 cap:c*sz<=vs.length
 row:Row sz R V vs l
theorem GR.nil {α:Type}{R:ut->un->α->Prop}:GR sz R V 0 0 [] []:=⟨rfl,Qq2 _,by simp,Row.nil⟩
theorem GR.s {α:Type}{R:ut->un->α->Prop}{V':ut}{l:pz α}(h:GR sz R V n c vs l)(m:∀v a,R V v a->R V' v a):GR sz R V' n c vs l:=⟨h.len,h.le,h.cap,h.row.le m⟩
theorem GR.snoc {α:Type}{R:ut->un->α->Prop}{l:pz α}(h:GR sz R V n c vs l){xs:pz un}{a:α}(hx:xs.length=sz)(ha:R V (.agg xs.toArray) a)(h0:0<sz){sp:pz un}{c':Nat}(h1:n+1<=c')(h2:c'*sz<=(n+1)*sz+sp.length) :
  GR sz R V (n+1) c' (vs.take (n*sz)++xs++sp) (l++[a]):=by
 have b:=h.len;have d:=h.cap;have e:n*sz<=c*sz:=Qw0 _ h.le;refine ⟨by rw [Qq3,b];rfl,h1,?_,?_⟩
 ·have f:(vs.take (n*sz)).length=n*sz:=by rw [Qq7];omega
  grind
 ·grind [h.row.snoc]
theorem yK {α:Type}{R:ut->un->α->Prop}{V:ut}{w1 w2:Nat}{us:pz un}{O:pz α}(hg:GR sz R V w1 w2 us O)(hs:0<sz)(one:∀xs a,R V (.agg (List.toArray xs)) a->∀v∈xs,v.oneCell'=true){bk:Nat}{ty:TypeId}{m:Nat×Nat}(hb:us≠[]->V.a_ bk (.cells us.toArray ty m))
  {es:pz un}{x:α}(he:es.length=sz)(hx:R V (.agg es.toArray) x){j:Nat}(wX:j<=w1:=by omega) :
  ∃xs ys:pz un,V.sl (sT (mA bk w2) w2 j sz) xs/\xs.length=(w1-j)*sz/\(∀v∈xs,v.oneCell'=true)/\V.sl (mA bk w2) ys/\ys.length=j*sz/\((mA bk w2).isNone=true->j=0) /\
   (∀sp:pz un,aI (es.take (1*sz)++xs++sp) 0 ((1+(w1-j))*sz)=es++xs)/\(es++xs).length / sz=1+(w1-j)/\(es++xs).length=(1+(w1-j))*sz/\(∀v∈es++xs,v.oneCell'=true) /\
   ∀(sp:pz un)(c':Nat),j+(1+(w1-j))<=c'->c'*sz<=(j+(1+(w1-j)))*sz+sp.length->GR sz R V (j+(1+(w1-j))) c' (ys++(es++xs)++sp) (O.take j++x::O.drop j):=by
 have n:=hg.len;have s:=hg.le;have o:=hg.cap;have p:=hg.row;have B:w1*sz<=w2*sz:=Qw0 _ s;have C:j*sz<=w1*sz:=Qw0 _ wX;have D:(w1-j)*sz=w1*sz-j*sz:=Nat.sub_mul ..
 have t:(1+(w1-j))*sz=sz+(w1-j)*sz:=by rw [Qk1,Qc9]
 have t1:(us.take (j*sz)).length=j*sz:=by rw [Qq7];omega
 have t2:((us.take (w1*sz)).drop (j*sz)).length=(w1-j)*sz:=by rw [Qn2,Qq7];omega
 have q:∀v∈(us.take (w1*sz)).drop (j*sz),v.oneCell'=true:=by
  intro v g;have ⟨k,hm,e⟩:=Qd1.1 (Qp3 g);have d:k<w1*sz:=by rw [Qq7] at hm;omega
  have:=Qq1 hm;rw [e,Qy3,if_pos d] at this;exact kh p hs one (by rw [←n];exact d) this
 have f:0<w2->us≠[]:=λhw e=>by
  have:0<w2*sz:=Wy6 hw hs;rw [e] at o;simp at o;omega
 have i:0<w2->mA bk w2=some ⟨bk,0,none⟩:=λhw=>by unfold mA;rw [if_neg (by omega)]
 have at_:∀k v,0<w2->us[k]?=some v->V.at ⟨bk,k,none⟩ v:=λk v hm g=>dF (hb (f hm)) g;have u:∀v∈es,v.oneCell'=true:=one _ _ hx;have b:(es++(us.take (w1*sz)).drop (j*sz)).length=(1+(w1-j))*sz:=by rw [Qq3,t2,he,t]
 refine ⟨(us.take (w1*sz)).drop (j*sz),us.take (j*sz),?_,t2,q,?_,t1,?_,λsp=>?_,by rw [b];exact Qf4 _ hs,b,λv w=>(Qw3.1 w).elim (u v) (q v),λsp c' y E=>?_⟩
 ·intro k v hm;have c:=(Qx0.1 hm).1;rw [t2] at c;rw [Qn7,Qy3,if_pos (by omega)] at hm
  have z:j<w2:=by
   rcases Qz2 j w2 with h|h
   ·exact h
   ·have:w1-j=0:=by omega
    rw [this,Qc1] at c;omega
  have:=at_ (j*sz+k) v (by omega) hm;refine ⟨⟨bk,j*sz,none⟩,?_,?_⟩
  ·unfold sT;rw [if_neg (by omega),i (by omega)];simp [ae,add_zero']
  ·rw [←add_zero',zv,add_zero'];exact this
 ·intro k v hm;have c:=(Qx0.1 hm).1;rw [t1] at c;rw [Qy3,if_pos c] at hm
  have hw:0<w2:=by
   rcases Qy9 w2 with h|h
   ·have:j=0:=by omega
    rw [this,Qc1] at c;omega
   ·exact h
  exact ⟨⟨bk,0,none⟩,i hw,by rw [add_zero'];exact at_ k v hw hm⟩
 ·intro r;by_cases hw:0<w2
  ·rw [i hw] at r;cases r
  ·omega
 ·have A:es.take (1*sz)=es:=by rw [Qc9,←he,Qy5]
  rw [A];unfold aI;rw [Nat.ble_eq_true_of_le (by rw [Qq3,b];omega),cond_true,Wx7,Qt8 (by rw [b];exact Qq2 _),Qb7 (by rw [b];exact Qq2 _)]
 ·have l:j<=O.length:=by omega
  refine ⟨by rw [Qq3,Qq7,Qw9,Qn2];omega,y,?_,?_⟩
  ·have F:(j+(1+(w1-j)))*sz=j*sz+(1+(w1-j))*sz:=Qk1 ..
   rw [Qq3,Qq3,t1,b];omega
  ·rw [n];exact K4 p l he hx hs
theorem P9 {l:L3}{s:Sp}(h:W3 V v l s):∃b1 p1 n1 c1 b2 p2 n2 c2 b3 p3 n3 c3 b p n c p' n' c' d q m e q' m' e',
 v=dB #[qvQ b1,hF p1 n1 c1,qvQ b2,hF p2 n2 c2,qvQ b3,hF p3 n3 c3,qvQ b,hF p n c,hF p' n' c',qvQ d,hF q m e,hF q' m' e',qvQ s.a,qvQ s.b]:=by
 obtain ⟨_,_,_,_,_,_,_,_,_,_,_,_,_,_,_,_,_,_,_,_,_,_,_,_,_,_,e,-⟩:=h;exact ⟨_,_,_,_,_,_,_,_,_,_,_,_,_,_,_,_,_,_,_,_,_,_,_,_,_,_,e⟩
theorem Vh {px py qx qy:Rat}(s1:Sz k px)(s2:Sz k py)(s3:Sz k qx)(s4:Sz k qy)(h:¬(px=qx/\py=qy)):(K6 px py qx qy).sz (400*k+400):=by
 have sl:=Gm s1 s2 s3 s4 h;exact ⟨Sz.s (MT sl (Sz.s s1) (Sz.s s2)),Sz.s (MT sl (Sz.s s3) (Sz.s s4))⟩
theorem MV:Sz 2 (((2:Int):Rat)):=⟨by show (2:Int).natAbs<_;decide,by show (1:Nat)<_;decide⟩
theorem jx:Sz 2 (((1:Int):Rat)):=⟨by show (1:Int).natAbs<_;decide,by show (1:Nat)<_;decide⟩
theorem rV (h:RQ V v x)(sx:Sz k x)(hk:k+2<274877906944:=by omega) :
  aa prog 165 #[v] V λr V'=>RQ V' r (x*((2:Int):Rat)⁻¹):=by
 have b:=h;obtain ⟨_,_,_,_,_,_,rfl⟩:=h.shape;refine Jq V _ λj c=>(dS 2 (by decide) (by decide)).s ?_;rintro r V2 d g;have e:=g;obtain ⟨_,_,_,_,_,_,rfl⟩:=g.shape;refine qyZ ⟨rfl,λl a=>(iX (b.le (c.m (d.m a))) (e.le a) (by show (2:Int)≠0;decide) sx MV hk).s ?_⟩;rintro r m n q;have f:=q;obtain ⟨_,_,_,_,_,_,rfl⟩:=q.shape;exact qyZ ⟨rfl,λo i=>f.le i⟩
theorem D2 {w:un}{y:Rat}(h:RQ V v x)(h':RQ V w y)(sx:Sz k x)(sy:Sz k y)(hk:4*k+4<274877906944:=by omega) :
  aa prog 112 #[v,w] V λr V'=>RQ V' r ((x+y)*((2:Int):Rat)⁻¹):=by
 have c:=h;have a:=h';obtain ⟨_,_,_,_,_,_,rfl⟩:=h.shape;obtain ⟨_,_,_,_,_,_,rfl⟩:=h'.shape;refine Lx V _ λj b=>(dG (c.le b) (a.le b) sx sy).s ?_;rintro r V2 l g;have d:=g;obtain ⟨_,_,_,_,_,_,rfl⟩:=g.shape;refine qyZ ⟨rfl,λm e=>(rV (d.le e) (sx.add sy)).s ?_⟩;rintro r n o q;have f:=q;obtain ⟨_,_,_,_,_,_,rfl⟩:=q.shape;exact qyZ ⟨rfl,λp i=>f.le i⟩
theorem Vg {s:Sp}(ss:s.sz k):Sz (2*k+10) s.gE:=by
 have z:Sz (2*k+10) (0:Rat):=⟨by show (0:Int).natAbs<_;exact Qx5 (by decide) (Nat.one_le_two_pow),Qc6 (by omega)⟩;unfold Sp.gE;split
 ·split
  ·exact z
  ·exact (ss.2.sub jx).s (by omega)
 ·split
  ·exact (ss.1.add jx).s (by omega)
  ·exact ((ss.1.add ss.2).mul (fu MV)).s (by omega)
theorem zO {s:Sp}(h:oT V v s)(ss:s.sz k)(hk:4*k+4<274877906944:=by omega) :
  aa prog 199 #[v] V λr V'=>RQ V' r s.gE:=by
 obtain ⟨b,p,n,c,E,F,G,d,q,m,e,H,I,J,rfl,w,z⟩:=h;have K:s.a=true->s.b=true->s.gE=0:=λx y=>by simp [Sp.gE,x,y]
 have L:s.a=true->s.b=false->s.gE=s.hi-((1:Int):Rat):=λx y=>by simp [Sp.gE,x,y]
 have M:s.a=false->s.b=true->s.gE=s.lo+((1:Int):Rat):=λx y=>by simp [Sp.gE,x,y]
 have N:s.a=false->s.b=false->s.gE=(s.lo+s.hi)*((2:Int):Rat)⁻¹:=λx y=>by simp [Sp.gE,x,y]
 have no:∀{P:Prop},s.a=true->s.a=false->P:=λx y=>by rw [x] at y;cases y
 refine yu V _ ⟨λf=>⟨λi O U=>?_,λi=>⟨λ_ V2 Q=>(dS 1 (by decide) (by decide)).s ?_,λe=>no f e⟩⟩,λf=>⟨λe=>no e f,λ_=>⟨λi W R=>(dS 1 (by decide) (by decide)).s ?_,λi X A=>(D2 (w.le A) (z.le A) ss.1 ss.2 hk).s ?_⟩⟩⟩
 ·rw [K f i];have:=RQ.zero (V:=O);simpa using this
 ·rw [L f i];rintro r S t g;have u:=g;obtain ⟨_,_,_,_,_,_,rfl⟩:=g.shape;refine qyZ ⟨rfl,λT j=>(ia (z.le (Q.m (t.m j))) (u.le j) ss.2 jx).s ?_⟩;rintro r B C q;have l:=q;obtain ⟨_,_,_,_,_,_,rfl⟩:=q.shape;exact qyZ ⟨rfl,λD o=>l.le o⟩
 ·rw [M f i];rintro r S t g;have u:=g;obtain ⟨_,_,_,_,_,_,rfl⟩:=g.shape;refine qyZ ⟨rfl,λT j=>(dG (w.le (R.m (t.m j))) (u.le j) ss.1 jx).s ?_⟩;rintro r B C q;have l:=q;obtain ⟨_,_,_,_,_,_,rfl⟩:=q.shape;exact qyZ ⟨rfl,λD o=>l.le o⟩
 ·rw [N f i];rintro r B C q;have l:=q;obtain ⟨_,_,_,_,_,_,rfl⟩:=q.shape;exact qyZ ⟨rfl,λD o=>l.le o⟩
theorem jm {w:un}{y x' y':Rat}(h:RP V v x y)(h':RP V w x' y'){k:Nat}(s1:Sz k x)(s2:Sz k y)(s3:Sz k x')(s4:Sz k y')(hk:4*k+4<274877906944:=by omega) :
  aa prog 116 #[v,w] V λr V'=>RQ V' r (x*y'-y*x'):=by
 obtain ⟨_,_,_,_,_,_,_,_,_,_,_,_,rfl,i,j⟩:=h;obtain ⟨_,_,_,_,_,_,_,_,_,_,_,_,rfl,l,m⟩:=h';refine BU V _ λt a=>(aW (i.le a) (m.le a) s1 s4).s ?_;rintro r V2 d g;have n:=g;obtain ⟨_,_,_,_,_,_,rfl⟩:=g.shape;refine qyZ ⟨rfl,λu b=>(aW (j.le (a.m (d.m b))) (l.le (a.m (d.m b))) s2 s3).s ?_⟩;rintro r z o e;have c:=e;obtain ⟨_,_,_,_,_,_,rfl⟩:=e.shape;refine qyZ ⟨rfl,λA f=>(ia (n.le (b.m (o.m f))) (c.le f) (s1.mul s4) (s2.mul s3)).s ?_⟩;rintro r B C q;have p:=q;obtain ⟨_,_,_,_,_,_,rfl⟩:=q.shape;exact qyZ ⟨rfl,λD s=>p.le s⟩
theorem Be {qs:pz Rat}(h:bI 3 RQ V p n qs)(hi:i<qs.length):∃ad b p1 n1 c1 p2 n2 c2,ae p (i*3)=some ad/\RQ V (dB #[qvQ b,hF p1 n1 c1,hF p2 n2 c2]) qs[i] /\
  V.at (ad.add 0) (qvQ b)/\V.at (ad.add 1) (hF p1 n1 c1)/\V.at (ad.add 2) (hF p2 n2 c2):=by
 obtain ⟨ad,f,xs,-,d,a⟩:=h.at_ i hi;have c:=d;obtain ⟨p1,n1,c1,p2,n2,c2,e⟩:=d.shape;have e:=congrArg Array.toList (Value.agg.inj e);dsimp only at e;subst e;exact ⟨ad,_,p1,n1,c1,p2,n2,c2,f,c,a 0 _ rfl,a 1 _ rfl,a 2 _ rfl⟩
theorem zP {t:Rat}(hl:LQ V p n ss)(ht:RQ V v t)(hs:∀s∈ss,s.sz k)(st:Sz k t)(hk:2*k<274877906944)(hn:ss.length<4611686018427387904:=by omega) :
  aa prog 277 #[hF p n c,v] V λr V'=>r=qvQ (qX ss t==2):=by
 have a:=ht;obtain ⟨_,_,_,_,_,_,rfl⟩:=ht.shape;refine JG V _ λd b=>(CG (hl.le b) (a.le b) hs st hk hn).s ?_;rintro r V2 e rfl;exact ⟨_,rfl,λf g=>rfl⟩
def CW (c:List Rat)(i:Nat):List Rat:=(c.getD 0 0-((1:Int):Rat))::(List.range (i-1)).map λk=>(c.getD k 0+c.getD (k+1) 0)*((2:Int):Rat)⁻¹
def dU (c:List Rat):List Rat:=if c.length=0 then [0] else CW c c.length++[c.getD (c.length-1) 0+((1:Int):Rat)]
theorem AU (c:pz Rat)(h:1<=i):(CW c i).length=i:=by unfold CW;simp;omega
theorem Ok (c:pz Rat)(h:1<=i):CW c (i+1)=CW c i++[(c.getD (i-1) 0+c.getD i 0)*((2:Int):Rat)⁻¹]:=by
 obtain ⟨m,rfl⟩:∃m,i=m+1:=⟨i-1,by omega⟩;unfold CW;rw [Qf7,Qf7,List.range_succ,Qh8];rfl
theorem jt {c:pz Rat}(h:i<c.length:=by omega):c.getD i 0=c[i]:=by rw [Qx8,Qq1 h];rfl
theorem zN {cs:pz Rat}(h:bI 3 RQ V p n cs)(hn:cs.length<1000000000)(hs:∀q∈cs,Sz k q)(hk:4*k+8<274877906944:=by omega) :
  aa prog 50 #[hF p n c] V λr V'=>∃q m e,r=hF q m e/\bI 3 RQ V' q m (dU cs):=by
 obtain rfl:=h.len;refine yr V _ ⟨λl V1 l1 bk C=>?_,λl=>?_⟩
 ·have l:cs.length=0:=by simpa using l
  have e:dU cs=[0]:=if_pos l;rw [e];refine ⟨_,_,_,rfl,bI.hU C (row_one rfl ?_)⟩;have:=RQ.zero (V:=V1);simpa using this
 ·have l:¬cs.length=0:=by simpa using l
  have e:dU cs=CW cs cs.length++[cs.getD (cs.length-1) 0+((1:Int):Rat)]:=if_neg l;rw [e];have i0:0<cs.length:=by omega
  have ⟨ad,b,p1,n1,c1,p2,n2,c2,U,hq,a0,a1,a2⟩:=Be h i0;refine ⟨aX U,⟨by omega,by omega⟩,_,_,_,_,_,_,_,ad,U,a0,a1,a2,λV2 W=>(dS 1 (by decide) (by decide)).s ?_⟩;rintro r V3 X g;have g0:=g;obtain ⟨_,_,_,_,_,_,rfl⟩:=g.shape;refine qyZ ⟨rfl,λV4 D=>(ia (hq.le (W.m (X.m D))) (g0.le D) (hs _ (Qq9 i0)) jx).s ?_⟩;rintro r V5 l5 Y;have RZ:=Y;obtain ⟨_,_,_,_,_,_,rfl⟩:=Y.shape;have w:V.Le V5:=W.m (X.m (D.m l5))
  refine qyZ ⟨rfl,λz V'=>∃i:Nat,z.2.2.2=(i:Int)/\1<=i/\i<=cs.length/\z.1=i/\i<=z.2.1/\z.2.1*3<=z.2.2.1.length/\Row 3 RQ V' z.2.2.1 (CW cs i),λz=>cs.length-z.2.2.2.toNat,
   ⟨(1,1,_,1),by and_intros<;>first|rfl|decide,1,rfl,Qq2 _,i0,rfl,Qq2 _,Qq2 _,row_one rfl (by rw [jt i0];exact RZ)⟩,?_⟩
  rintro ⟨a,z2,vs,z4⟩ V6 x ⟨i,Z,i1,Ta,e1,E,F,G⟩;dsimp only at Z e1 E F G;subst Z e1;have hlen:=AU cs i1;refine ⟨rfl,λd=>?_,λd=>?_⟩
  ·have d:(a:Int)<cs.length:=of_decide_eq_true d;have j:a<cs.length:=by omega
   have o:a-1<cs.length:=by omega
   have H:i64.wrap ((a:Int)-1)=((a-1:Nat):Int):=by rw [au (by omega)];omega
   have w2:i64.wrap ((a:Int)+1)=(a:Int)+1:=au (by omega);dsimp only;rw [H,w2,Qq0,Qq0];have ⟨I,b1,p3,n3,c3,p4,n4,c4,f,s,J,t,K⟩:=Be (h.le (w.m x) λ_ _ g=>g.le (w.m x)) o;have ⟨M,d1,p5,n5,c5,p6,n6,c6,y,N,d0,O,d2⟩:=Be (h.le (w.m x) λ_ _ g=>g.le (w.m x)) j;refine ⟨aX f,⟨by omega,by omega⟩,_,_,_,_,_,_,_,I,f,J,t,K,aX y,⟨by omega,by omega⟩,_,_,_,_,_,_,_,M,y,d0,O,d2,λV7 P=>(D2 (s.le P) (N.le P) (hs _ (Qq9 o)) (hs _ (Qq9 j))).s ?_⟩;rintro r V8 l8 A;have u:=A;obtain ⟨_,_,_,_,_,_,rfl⟩:=A.shape;refine qyZ ⟨rfl,by omega,E,F,rfl,?_,λsp Q R h2=>⟨(a+1,Q,_,(a:Int)+1),by dsimp only;omega,by and_intros<;>rfl,a+1,rfl,by omega,j,rfl,R,?_,?_⟩⟩
   ·intro v hm;simp only [Qq6,Qy0,or_false] at hm;rcases hm with rfl|rfl|rfl<;>rfl
   ·dsimp only;have ht:(vs.take (a*3)).length=a*3:=by rw [Qq7];omega
    rw [Qq3,Qq3,ht];simp only [Qw9,Qj6];omega
   ·dsimp only;rw [Ok cs i1,jt o,jt j];have:=(G.le (V':=V8) λ_ _ g=>g.le (P.m l8)).snoc (sp:=sp) rfl u (by decide);rw [hlen] at this;exact this
  ·have d:¬(a:Int)<cs.length:=of_decide_eq_false d;obtain rfl:a=cs.length:=by omega
   have j:cs.length-1<cs.length:=by omega
   have H:i64.wrap ((cs.length:Int)-1)=((cs.length-1:Nat):Int):=by rw [au (by omega)];omega
   dsimp only;rw [H,Qq0];have ⟨I,b1,p3,n3,c3,p4,n4,c4,f,s,J,t,K⟩:=Be (h.le (w.m x) λ_ _ g=>g.le (w.m x)) j;refine ⟨aX f,⟨by omega,by omega⟩,_,_,_,_,_,_,_,I,f,J,t,K,λV9 l9=>(dS 1 (by decide) (by decide)).s ?_⟩;rintro r fQ B g2;have S:=g2;obtain ⟨_,_,_,_,_,_,rfl⟩:=g2.shape;refine qyZ ⟨rfl,λfD T=>(dG (s.le (l9.m (B.m T))) (S.le T) (hs _ (Qq9 j)) jx).s ?_⟩;rintro r gS bS A;have u:=A;obtain ⟨_,_,_,_,_,_,rfl⟩:=A.shape;refine qyZ ⟨rfl,by omega,E,F,rfl,?_,λsp Q R h2 j7 bU bk C=>?_⟩
   ·intro v hm;simp only [Qq6,Qy0,or_false] at hm;rcases hm with rfl|rfl|rfl<;>rfl
   ·have L:=l9.m (B.m (T.m (bS.m bU)));have:=(G.le (V':=j7) λ_ _ g=>g.le L).snoc (sp:=sp) rfl (u.le bU) (by decide);rw [hlen] at this;have k:=bI.bJ (c:=Q) C this (by decide) (by rw [Qq3,hlen];exact R);rw [Qq3,hlen] at k;rw [jt j];exact ⟨_,_,_,rfl,k⟩
def dz (x:Rat):List Rat->List Rat
 | []=>[x]
 | y::r=>if y<x then y::dz x r else if y=x then y::r else x::y::r
theorem Uk:∀(o:pz Rat)(k:Nat),k<=o.length->(∀j (h:j<o.length),j<k->o[j]<x)->(∀h:k<o.length,¬o[k]<x) ->
  dz x o=if (∃h:k<o.length,o[k]=x) then o else o.take k++x::o.drop k:=by
 intro o
 induction o with
 | nil=>grind [dz]
 | cons y r ih=>
  intro k g a b
  cases k with
  | zero=>
   have f:¬y<x:=b (by simp);unfold dz;rw [if_neg f];by_cases e:y=x
   ·rw [if_pos e,if_pos ⟨by simp,e⟩]
   grind
  | succ k=>
   have f:y<x:=a 0 (by simp) (by omega);unfold dz;rw [if_pos f,ih k (by simpa using g) (λj h i=>a (j+1) (by simpa using h) (by omega)) (λh=>b (by simpa using h))];by_cases e:∃h:k<r.length,r[k]=x
   ·obtain ⟨c,d⟩:=e;rw [if_pos ⟨c,d⟩,if_pos ⟨by simpa using c,d⟩]
   ·rw [if_neg e,if_neg (by rintro ⟨c,d⟩;exact e ⟨by simpa using c,d⟩)];rfl
def e_ (s:Sp)(o:List Rat):Nat->List Rat
 | 0=>o
 | 1=>if s.a then o else dz s.lo o
 | _=>if s.b then (if s.a then o else dz s.lo o) else dz s.hi (if s.a then o else dz s.lo o)
def endsL (ss:List Sp):List Rat:=ss.foldl (λo s=>e_ s o 2) []
theorem Kn (hi:i<ss.length):endsL (ss.take (i+1))=e_ ss[i] (endsL (ss.take i)) 2:=by grind [endsL,List.take_add_one]
theorem H4:∀{o:pz Rat},q∈dz x o->q=x\/q∈o:=by
 intro o
 induction o with
 | nil=>intro h;simp [dz] at h;exact .inl h
 | cons y r ih=>
  unfold dz;grind
theorem mV:∀{o:pz Rat},(dz x o).length<=o.length+1:=by
 intro o
 induction o with
 | nil=>simp [dz]
 | cons y r ih=>
  unfold dz;grind
theorem La {s:Sp}{o:pz Rat}(hy:y<2):e_ s o (y+1)=if (if y=0 then s.a else s.b)=true then e_ s o y else dz (if y=0 then s.lo else s.hi) (e_ s o y):=by
 have:y=0\/y=1:=by omega
 rcases this with rfl|rfl<;>rfl
theorem EI {s:Sp}{o:pz Rat}(hy:y<=2):(e_ s o y).length<=o.length+y:=by
 have d:=@mV s.lo o;have e:=@mV s.hi (if s.a then o else dz s.lo o);have c:(if s.a then o else dz s.lo o).length<=o.length+1:=by split<;>omega
 have:y=0\/y=1\/y=2:=by omega
 rcases this with rfl|rfl|rfl
 ·exact Qq2 _
 ·exact c
 ·show (if s.b=true then (if s.a=true then o else dz s.lo o) else dz s.hi (if s.a=true then o else dz s.lo o)).length<=_;by_cases f:s.b=true<;>grind
theorem EJ {s:Sp}{o:pz Rat}(hy:y<=2)(h:q∈e_ s o y):q=s.lo\/q=s.hi\/q∈o:=by
 have c:q∈(if s.a then o else dz s.lo o)->q=s.lo\/q=s.hi\/q∈o:=by grind [H4]
 have:y=0\/y=1\/y=2:=by omega
 rcases this with rfl|rfl|rfl
 ·exact .inr (.inr h)
 ·exact c h
 ·replace h:q∈(if s.b=true then (if s.a=true then o else dz s.lo o) else dz s.hi (if s.a=true then o else dz s.lo o)):=h
  by_cases d:s.b=true<;>grind [H4]
theorem Ea (ss:pz Sp):(endsL ss).length<=2*ss.length:=by
 have:∀(ss:pz Sp)(o:pz Rat),(ss.foldl (λo s=>e_ s o 2) o).length<=o.length+2*ss.length:=by
  intro ss
  induction ss<;>grind [EI]
 grind [endsL]
theorem Eb (h:q∈endsL ss):∃s∈ss,q=s.lo\/q=s.hi:=by
 have:∀(ss:pz Sp)(o:pz Rat),q∈(ss.foldl (λo s=>e_ s o 2) o)->q∈o\/∃s∈ss,q=s.lo\/q=s.hi:=by
  intro ss
  induction ss with
  | nil=>exact λo h=>.inl h
  | cons s r ih=>
   intro o h;rcases ih _ h with h|⟨t,a,h⟩
   ·rcases EJ (Qq2 2) h with h|h|h<;>grind
   grind
 rcases this ss [] h with h|h
 ·simp at h
 ·exact h
theorem Sj {qs:pz Rat}(h:Row 3 RQ V vs qs)(hi:i<qs.length):∃b p1 n1 c1 p2 n2 c2,i*3+3<=vs.length/\(vs.drop (i*3)).take 3=[qvQ b,hF p1 n1 c1,hF p2 n2 c2]/\RQ V (dB #[qvQ b,hF p1 n1 c1,hF p2 n2 c2]) qs[i]:=by
 obtain ⟨xs,-,c,a⟩:=h.at_ i hi;obtain ⟨p1,n1,c1,p2,n2,c2,e⟩:=c.shape;have e:=congrArg Array.toList (Value.agg.inj e);subst e;have g:=a 0 _ rfl;have k:=a 1 _ rfl;have d:=a 2 _ rfl;have l:=(Qx0.1 d).1;refine ⟨_,p1,n1,c1,p2,n2,c2,by omega,?_,c⟩;apply Qg2;intro j;rw [Qy3];by_cases f:j<3
 ·rw [if_pos f,Qn7];have:j=0\/j=1\/j=2:=by omega
  rcases this with rfl|rfl|rfl
  ·exact g
  ·exact k
  ·exact d
 ·rw [if_neg f,Qz6 (by simp;omega)]
theorem PK {a b:Rat}:dI a b<0↔a<b:=by
 rcases cR a b with ⟨h,e⟩|⟨h,e⟩|⟨h,e⟩<;>rw [e]<;>constructor<;>intro h'<;>first|exact h|omega|(exfalso;grind)
theorem YM (h:RQ V (.agg xs.toArray) q):∀v∈xs,v.oneCell'=true:=by
 obtain ⟨p,n,c,b,d,e,ex⟩:=h.shape;have ex:=congrArg Array.toList (Value.agg.inj ex);dsimp only at ex;subst ex;intro v a;simp only [Qq6,Qy0,or_false] at a;rcases a with rfl|rfl|rfl<;>rfl
set_option maxHeartbeats 1000000 in
theorem Fi (h:LQ V p n ss)(hn:ss.length<100000000)(hs:∀s∈ss,s.sz k)(hk:2*k<274877906944:=by omega) :
  aa prog 276 #[hF p n c] V λr V'=>∃q m e,r=hF q m e/\bI 3 RQ V' q m (endsL ss):=by
 obtain rfl:=h.len
 refine Dw V _ ⟨λz V'=>∃i:Nat,z.2.2.2=(i:Int)/\i<=ss.length/\z.1=(endsL (ss.take i)).length/\z.1<=z.2.1/\z.2.1*3<=z.2.2.1.length/\Row 3 RQ V' z.2.2.1 (endsL (ss.take i)),λz=>ss.length-z.2.2.2.toNat,
  ⟨(0,0,[],0),by and_intros<;>rfl,0,rfl,Qq4 _,rfl,Qq2 _,Qq2 _,Row.nil⟩,?_⟩
 rintro ⟨z1,z2,vs,z4⟩ V1 l1 ⟨i,e4,Ta,e1,ic,hv,hx⟩;dsimp only at e4 e1 ic hv hx;subst e4;refine ⟨rfl,λf=>?_,λf j7 bU bk hb=>?_⟩
 ·have f:(i:Int)<ss.length:=of_decide_eq_true f;have hi:i<ss.length:=by omega
  have w:i64.wrap ((i:Int)+1)=(i:Int)+1:=au (by omega);dsimp only;rw [Qq0,w];obtain ⟨ad,M,xs,hf,l⟩:=(h.le l1).at_ i hi;have B:=hs _ (Qq9 hi);have v:=Kn hi
  have b3:(endsL (ss.take i)).length<300000000:=by
   have:=Ea (ss.take i);rw [Qq7] at this;omega
  have a3:∀q∈endsL (ss.take i),Sz k q:=λq F=>by
   have ⟨s,h1,h2⟩:=Eb F;have:=hs s (Qb6 h1);rcases h2 with rfl|rfl
   ·exact this.1
   ·exact this.2
  generalize endsL (ss.take i)=o at *;generalize ss[i]=s at *;obtain ⟨b,N,P,Q,S,T,U,d,W,X,f1,Y,Z,f2,ex,a4,a5⟩:=hf;have ex:=congrArg Array.toList (Value.agg.inj ex);dsimp only at ex;subst ex
  refine ⟨aX M,⟨by omega,by omega⟩,b,N,P,Q,S,T,U,d,W,X,f1,Y,Z,f2,s.a,s.b,ad,M,l 0 _ rfl,l 1 _ rfl,l 2 _ rfl,l 3 _ rfl,l 4 _ rfl,l 5 _ rfl,l 6 _ rfl,l 7 _ rfl,
   λz _=>z=(2,2,[qvQ b,hF N P Q,hF S T U,qvQ d,hF W X f1,hF Y Z f2],2,0),⟨(2,2,[qvQ b,hF N P Q,hF S T U,qvQ d,hF W X f1,hF Y Z f2],2,0),by and_intros<;>first|rfl|decide,rfl⟩,?_⟩
  rintro z V2 l2 rfl;dsimp only
  refine ⟨rfl,λz V'=>∃y:Nat,z.2.2.2=(y:Int)/\y<=2/\z.1=(e_ s o y).length/\z.1<=z.2.1/\z.2.1*3<=z.2.2.1.length/\Row 3 RQ V' z.2.2.1 (e_ s o y),λz=>2-z.2.2.2.toNat,
   ⟨(z1,z2,vs,0),by and_intros<;>rfl,0,rfl,by omega,e1,ic,hv,hx.le λ_ _ g=>g.le l2⟩,?_⟩
  rintro ⟨A,w2,us,w4⟩ V3 l3 ⟨y,f4,a0,g1,G,fv,H⟩;dsimp only at f4 g1 G fv H;subst f4;refine ⟨rfl,λhy=>?_,λhy=>?_⟩
  ·have hy:(y:Int)<2:=of_decide_eq_true hy;have a6:y<2:=by omega
   have a1:=La (s:=s) (o:=o) a6;have b4:=EI (s:=s) (o:=o) a0
   have Wc:∀q∈e_ s o y,Sz k q:=λq F=>by
    rcases EJ a0 F with h|h|h
    ·rw [h];exact B.1
    ·rw [h];exact B.2
    ·exact a3 q h
   have wy:i64.wrap ((y:Int)+1)=(y:Int)+1:=au (by omega);generalize hO:e_ s o y=O at *;generalize S9:e_ s o (y+1)=O' at *
   have el:∃eb ep en ec eq em ee x no,([qvQ b,hF N P Q,hF S T U,qvQ d,hF W X f1,hF Y Z f2].drop (y*3)).take 3=[Value.bool eb,hF ep en ec,hF eq em ee]/\RQ V3 (dB #[qvQ eb,hF ep en ec,hF eq em ee]) x/\Sz k x/\O'=(if no=true then O else dz x O) /\
     ((y=0/\no=s.a)\/(y=1/\no=s.b)):=by
    have:y=0\/y=1:=by omega
    rcases this with rfl|rfl
    ·exact ⟨b,N,P,Q,S,T,U,s.lo,s.a,rfl,a4.le (l2.m l3),B.1,a1,.inl ⟨rfl,rfl⟩⟩
    ·exact ⟨d,W,X,f1,Y,Z,f2,s.hi,s.b,rfl,a5.le (l2.m l3),B.2,a1,.inr ⟨rfl,rfl⟩⟩
   obtain ⟨eb,ep,en,ec,eq,em,ee,x,no,a7,F,sx,I,a8⟩:=el;dsimp only;rw [Qq0,wy];refine ⟨⟨by omega,by omega⟩,Qq2 _,eb,ep,en,ec,eq,em,ee,⟨by simp;omega,a7⟩,λz _=>z=no,?_,?_⟩
   ·rcases a8 with ⟨rfl,rfl⟩|⟨rfl,rfl⟩
    ·exact ⟨λ_=>⟨λM=>⟨true,by and_intros<;>rfl,M.symm⟩,λM=>⟨(λh=>by simp at h),λ_=>⟨false,by and_intros<;>rfl,M.symm⟩⟩⟩,λh=>by simp at h⟩
    ·exact ⟨λh=>by simp at h,λ_=>⟨λ_=>⟨s.b,by and_intros<;>rfl,rfl⟩,λh=>by simp at h⟩⟩
   ·rintro z V4 D rfl;refine ⟨rfl,λu=>⟨(A,w2,us,(y:Int)+1),by dsimp only;omega,by and_intros<;>rfl,y+1,rfl,by omega,?_,G,fv,?_⟩,λu=>?_⟩
    ·show A=(e_ s o (y+1)).length;rw [S9,I,if_pos u];exact g1
    ·show Row 3 RQ V4 us (e_ s o (y+1));rw [S9,I,if_pos u];exact H.le λ_ _ g=>g.le D
    ·have K:O'=dz x O:=by rw [I,u];rfl
     refine ⟨λz _=>∃j:Nat,z=(j:Int)/\j<=O.length/\∀(E:Nat)(h:E<O.length),E<j->O[E]<x,λz=>O.length-z.toNat,⟨0,by and_intros<;>rfl,0,rfl,Qq4 _,λE _ h=>absurd h (Qm0 E)⟩,?_⟩;rintro z V5 L ⟨j,rfl,wX,jl⟩;have wj:i64.wrap ((j:Int)+1)=(j:Int)+1:=au (by omega);rw [Qq0,wj];refine ⟨rfl,λz _=>z=true↔∃h:j<O.length,O[j]<x,⟨λf=>?_,λf=>⟨false,by and_intros<;>rfl,?_⟩⟩,?_⟩
     ·have f:(j:Int)<(A:Int):=of_decide_eq_true f;have C:j<O.length:=by omega
      have ⟨rb,rp,rn,rc,rq,rm,re,fW,Kp,hr⟩:=Sj H C;refine ⟨⟨by omega,by omega⟩,G,rb,rp,rn,rc,rq,rm,re,⟨fW,Kp⟩,λV6 l6=>(fw (hr.le (D.m (L.m l6))) (F.le (D.m (L.m l6))) (Wc _ (Qq9 C)) sx).s ?_⟩;rintro r V7 l7 rfl;exact ⟨_,rfl,_,by and_intros<;>rfl,by dsimp only;rw [decide_eq_true_eq,PK];exact ⟨λh=>⟨C,h⟩,λ⟨_,h⟩=>h⟩⟩
     ·have f:¬(j:Int)<(A:Int):=of_decide_eq_false f;exact ⟨(λh=>nomatch h),λ⟨h,_⟩=>absurd h (by omega)⟩
     ·rintro z V8 l8 Qw;refine ⟨rfl,λu=>?_,λu=>?_⟩
      ·obtain ⟨C,a9⟩:=Qw.1 u;refine ⟨(j:Int)+1,by dsimp only;omega,by and_intros<;>rfl,j+1,rfl,C,λE h b5=>?_⟩;by_cases e:E=j
       ·subst e;exact a9
       ·exact jl E h (by omega)
      ·have b0:∀h:j<O.length,¬O[j]<x:=λh h'=>by
        have:=Qw.2 ⟨h,h'⟩;rw [u] at this;cases this
       have t:=Uk O j wX jl b0;refine ⟨λz _=>z=true↔¬∃h:j<O.length,O[j]=x,⟨λhe=>⟨true,by and_intros<;>rfl,?_⟩,λhe=>?_⟩,?_⟩
       ·have he:(j:Int)=(A:Int):=by simpa using he
        exact ⟨λ_ ⟨h,_⟩=>absurd h (by omega),λ_=>rfl⟩
       ·have he:¬(j:Int)=(A:Int):=by simpa using he
        have C:j<O.length:=by omega
        have ⟨rb,rp,rn,rc,rq,rm,re,fW,Kp,hr⟩:=Sj H C;refine ⟨⟨by omega,by omega⟩,G,rb,rp,rn,rc,rq,rm,re,⟨fW,Kp⟩,λV6 l6=>(fw (hr.le (D.m (L.m (l8.m l6)))) (F.le (D.m (L.m (l8.m l6)))) (Wc _ (Qq9 C)) sx).s ?_⟩;rintro r V7 l7 rfl;exact ⟨_,rfl,_,by and_intros<;>rfl,by dsimp only;rw [bne_iff_ne,ne_eq,←iC];exact ⟨λh ⟨_,h'⟩=>h h',λh h'=>h ⟨C,h'⟩⟩⟩
       ·rintro z fD bq Ak;refine ⟨rfl,λu gS bS bk hb J=>?_,λu=>?_⟩
        ·have b1:=Ak.1 u;rw [if_neg b1] at t;have ⟨xs,ys,x1,x2,x3,y1,y2,y3,r1,r2,r3,r4,r5⟩:=yK (V:=gS) (R:=RQ) (GR.s ⟨g1,G,fv,H⟩ λ_ _ g=>g.le (D.m (L.m (l8.m (bq.m bS))))) (by decide) (λ_ _=>YM) hb (es:=[_,_,_]) rfl (F.le (D.m (L.m (l8.m (bq.m bS))))) (j:=j);refine ⟨⟨by omega,by omega⟩,⟨by omega,by omega⟩,⟨by omega,by omega⟩,xs,x1,x2,by omega,Qq2 _,Qq2 _,x2,x3,λb6 J2 sp c' h1 h2=>?_⟩;rw [r1,r2];refine ⟨ys,y1,y2,Qq2 _,y3,by omega,by omega,r3,r4,λb2 a2 h3 h4=>⟨(j+(1+(A-j)),a2,_,(y:Int)+1),by dsimp only;omega,by and_intros<;>first|rfl|omega,y+1,rfl,by omega,?_⟩⟩;have r6:=r5 b2 a2 h3 h4;rw [←t,←K,←S9] at r6;exact ⟨r6.len,r6.le,r6.cap,r6.row⟩
        ·have hex:∃h:j<O.length,O[j]=x:=Qp6 λh=>by have:=Ak.2 h;rw [u] at this;cases this
         rw [if_pos hex] at t;refine ⟨(A,w2,us,(y:Int)+1),by dsimp only;omega,by and_intros<;>rfl,y+1,rfl,by omega,?_,G,fv,?_⟩
         ·show A=(e_ s o (y+1)).length;rw [S9,K,t];exact g1
         ·show Row 3 RQ fD us (e_ s o (y+1));rw [S9,K,t];exact H.le λ_ _ g=>g.le (D.m (L.m (l8.m bq)))
  ·have hy:¬(y:Int)<2:=of_decide_eq_false hy;obtain rfl:y=2:=by omega
   exact ⟨(A,w2,us,(i:Int)+1),by dsimp only;omega,by and_intros<;>rfl,i+1,rfl,hi,by dsimp only;rw [v];exact g1,G,fv,by dsimp only;rw [v];exact H⟩
 ·have f:¬(i:Int)<ss.length:=of_decide_eq_false f;obtain rfl:i=ss.length:=by omega
  rw [Qy5] at e1 hx;subst e1;exact ⟨_,_,_,rfl,bI.bJ hb (hx.le λ_ _ g=>g.le bU) (by decide) ic⟩
def dL (cuts:List Rat)(i:Nat):Sp:=⟨if 0<i then cuts.getD (i-1) 0 else 0,if i<cuts.length then cuts.getD i 0 else 0,decide (i=0),decide (i=cuts.length)⟩
def vT (out:List Sp)(s:Sp):List Sp:=out.dropLast++[⟨(out.getLastD Sp.zero).lo,s.hi,(out.getLastD Sp.zero).a,s.b⟩]
def cD (cuts:List Rat)(marks:List Bool):Nat->List Sp
 | 0=>[]
 | i+1=>if marks.getD i false=true then (if 0<i/\marks.getD (i-1) false=true/\0<(cD cuts marks i).length then vT (cD cuts marks i) (dL cuts i) else cD cuts marks i++[dL cuts i]) else cD cuts marks i
def Ek (cuts:List Rat)(marks:List Bool):List Sp:=cD cuts marks marks.length
theorem Au {out:pz Sp}{s:Sp}(h:0<out.length):(vT out s).length=out.length:=by grind [vT]
theorem Ej (cuts:pz Rat)(marks:pz md)(i:Nat):(cD cuts marks i).length<=i:=by
 induction i with
 | zero=>simp [cD]
 | succ i ih=>
  unfold cD;split
  ·split
   ·rename_i h;rw [Au h.2.2];omega
   grind
  ·omega
theorem Sg {α:Type}{R:ut->un->α->Prop}{us:pz un}{ls:pz α}(h:Row sz R V vs ls)(h0:0<ls.length){a:α}(hx:xs.length=sz)(ha:R V (.agg xs.toArray) a)
  (hlow:∀q,q<(ls.length-1)*sz->us[q]?=vs[q]?)(hlast:∀j x,xs[j]?=some x->us[(ls.length-1)*sz+j]?=some x):Row sz R V us (ls.dropLast++[a]):=by
 refine ⟨λi n=>?_⟩;have o:(ls.dropLast++[a]).length=ls.length:=by rw [Qq3,List.length_dropLast];simp;omega
 by_cases e:i=ls.length-1
 ·subst e;refine ⟨xs,hx,?_,hlast⟩;have b:(ls.dropLast++[a])[ls.length-1]=a:=by grind
  rw [b];exact ha
 ·have c:i<ls.length-1:=by omega
  have ⟨d,f,g,p⟩:=h.at_ i (by omega);refine ⟨d,f,?_,λj x k=>?_⟩
  ·have b:(ls.dropLast++[a])[i]=ls[i]:=by grind
   rw [b];exact g
  ·have l:=(Qx0.1 k).1
   have m:i*sz+j<(ls.length-1)*sz:=by
    have:(i+1)*sz<=(ls.length-1)*sz:=Qw0 _ (by omega);grind
   grind
def RBl (_:View)(v:Value)(b:Bool):Prop:=v=.agg #[.bool b]
theorem WA {bs:pz md}(h:bI 1 RBl V p n bs)(hi:i<bs.length):∃ad,ae p (i*1)=some ad/\V.at ad (qvQ bs[i]):=by
 obtain ⟨ad,b,xs,-,e,a⟩:=h.at_ i hi;have e:=congrArg Array.toList (Value.agg.inj e);subst e;have:=a 0 _ rfl;grind [Addr.add]
theorem uC {s:Sp}(h:oT V (.agg xs.toArray) s):∃b p n c p' n' c' d q m e q' m' e',xs=[qvQ b,hF p n c,hF p' n' c',qvQ d,hF q m e,hF q' m' e',qvQ s.a,qvQ s.b] /\
  RQ V (dB #[qvQ b,hF p n c,hF p' n' c']) s.lo/\RQ V (dB #[qvQ d,hF q m e,hF q' m' e']) s.hi:=by
 obtain ⟨_,_,_,_,_,_,_,_,_,_,_,_,_,_,ex,f,g⟩:=h;have ex:=congrArg Array.toList (Value.agg.inj ex);exact qyK ⟨ex,f,g⟩
theorem Gf (V:ut):RQ V (dB #[qvQ false,hF none 0 0,hF none 0 0]) 0:=by have:=RQ.zero (V:=V);simpa using this
set_option maxHeartbeats 1000000 in
theorem Fh {q:OA}{m e:Nat}{cuts:pz Rat}{marks:pz md}(hc:bI 3 RQ V p n cuts)(hm:bI 1 RBl V q m marks)(hlen:marks.length=cuts.length+1)(hn:cuts.length<100000000:=by omega) :
  aa prog 54 #[hF p n c,hF q m e] V λr V'=>∃p' n' c',r=hF p' n' c'/\bI 8 oT V' p' n' (Ek cuts marks):=by
 obtain rfl:=hc.len;obtain rfl:=hm.len
 refine Du V _ ⟨λz V'=>∃i:Nat,z.2.2.2=(i:Int)/\i<=marks.length/\z.1=(cD cuts marks i).length/\z.1<=z.2.1/\z.2.1*8<=z.2.2.1.length/\Row 8 oT V' z.2.2.1 (cD cuts marks i),λz=>marks.length-z.2.2.2.toNat,
  ⟨(0,0,[],0),by and_intros<;>rfl,0,rfl,Qq4 _,rfl,Qq2 _,Qq2 _,Row.nil⟩,?_⟩
 rintro ⟨f,z2,vs,z4⟩ V1 P ⟨i,e4,Ta,Q,L,hv,hx⟩;dsimp only at e4 Q L hv hx;subst e4;refine ⟨rfl,λy=>?_,λy V5 l5 bk D=>?_⟩
 ·have y:(i:Int)<marks.length:=of_decide_eq_true y;have hi:i<marks.length:=by omega
  have w:i64.wrap ((i:Int)+1)=(i:Int)+1:=au (by omega);have b4:=Ej cuts marks i;have S:marks.getD i false=marks[i]:=by rw [Qx8,Qq1 hi];rfl
  have T:marks[i]=false->cD cuts marks (i+1)=cD cuts marks i:=λh=>by
   show (if marks.getD i false=true then _ else _)=_;rw [S,h];rfl
  have l:marks[i]=true->cD cuts marks (i+1)=if 0<i/\marks.getD (i-1) false=true/\0<(cD cuts marks i).length then vT (cD cuts marks i) (dL cuts i) else cD cuts marks i++[dL cuts i]:=λh=>by
   show (if marks.getD i false=true then _ else _)=_;rw [S,h];rfl
  dsimp only;rw [Qq0,w];have ⟨ad,ha,a0⟩:=WA (hm.le P λ_ _ g=>g) hi;refine ⟨aX ha,⟨by omega,by omega⟩,marks[i],⟨ad,ha,a0⟩,λD=>?_,λD=>?_⟩
  ·rw [Qx9] at D;exact ⟨(f,z2,vs,(i:Int)+1),by dsimp only;omega,by and_intros<;>rfl,i+1,rfl,hi,by dsimp only;rw [T D];exact Q,L,hv,by dsimp only;rw [T D];exact hx⟩
  ·rw [Qj0] at D;have l:=l D;generalize cD cuts marks i=out at *;generalize hO:cD cuts marks (i+1)=out' at *;refine ⟨λz V'=>RQ V' (dB #[qvQ z.1,hF z.2.1 z.2.2.1 z.2.2.2.1,hF z.2.2.2.2.1 z.2.2.2.2.2.1 z.2.2.2.2.2.2.1]) ((dL cuts i).lo)/\RQ V' (dB #[qvQ z.2.2.2.2.2.2.2.1,hF z.2.2.2.2.2.2.2.2.1 z.2.2.2.2.2.2.2.2.2.1 z.2.2.2.2.2.2.2.2.2.2.1,hF z.2.2.2.2.2.2.2.2.2.2.2.1 z.2.2.2.2.2.2.2.2.2.2.2.2.1 z.2.2.2.2.2.2.2.2.2.2.2.2.2.1]) (0)/\z.2.2.2.2.2.2.2.2.2.2.2.2.2.2.1=decide (i=0)/\z.2.2.2.2.2.2.2.2.2.2.2.2.2.2.2=decide (i=cuts.length),⟨λs=>?_,λs=>⟨(false,none,0,0,none,0,0,false,none,0,0,none,0,0,(i:Int)==0,(i:Int)==(cuts.length:Int)),by and_intros<;>rfl,?_⟩⟩,?_⟩
   ·have s:(i:Int)>0:=of_decide_eq_true s;have k:i-1<cuts.length:=by omega
    have U:i64.wrap ((i:Int)-1)=((i-1:Nat):Int):=by rw [au (by omega)];omega
    rw [U,Qq0];have ⟨W,b1,p3,n3,c3,p4,n4,c4,t,A,b0,M,b2⟩:=Be (hc.le P λ_ _ g=>g.le P) k;refine ⟨aX t,⟨by omega,by omega⟩,_,_,_,_,_,_,_,W,t,b0,M,b2,(b1,p3,n3,c3,p4,n4,c4,false,none,0,0,none,0,0,(i:Int)==0,(i:Int)==(cuts.length:Int)),by and_intros<;>rfl,?_,Gf _,?_,?_⟩
    ·show RQ V1 _ (if 0<i then cuts.getD (i-1) 0 else 0);rw [if_pos (by omega),jt k];exact A
    ·show ((i:Int)==0)=decide (i=0);rw [Qz5,beq_iff_eq,decide_eq_true_eq];omega
    ·show ((i:Int)==(cuts.length:Int))=decide (i=cuts.length);rw [Qz5,beq_iff_eq,decide_eq_true_eq];omega
   ·have s:¬(i:Int)>0:=of_decide_eq_false s;refine ⟨?_,Gf _,?_,?_⟩
    ·show RQ V1 _ (if 0<i then cuts.getD (i-1) 0 else 0);rw [if_neg (by omega)];exact Gf _
    ·show ((i:Int)==0)=decide (i=0);rw [Qz5,beq_iff_eq,decide_eq_true_eq];omega
    ·show ((i:Int)==(cuts.length:Int))=decide (i=cuts.length);rw [Qz5,beq_iff_eq,decide_eq_true_eq];omega
   ·rintro ⟨x1,x2,x3,x4,x5,x6,x7,x8,x9,a1,a2,a3,a4,a5,b5,b6⟩ V2 l2 ⟨hA,hB,hC,hD⟩;dsimp only at hA hB hC hD;subst hC hD;refine ⟨rfl,λz V'=>RQ V' (dB #[qvQ z.1,hF z.2.1 z.2.2.1 z.2.2.2.1,hF z.2.2.2.2.1 z.2.2.2.2.2.1 z.2.2.2.2.2.2.1]) ((dL cuts i).lo)/\RQ V' (dB #[qvQ z.2.2.2.2.2.2.2.1,hF z.2.2.2.2.2.2.2.2.1 z.2.2.2.2.2.2.2.2.2.1 z.2.2.2.2.2.2.2.2.2.2.1,hF z.2.2.2.2.2.2.2.2.2.2.2.1 z.2.2.2.2.2.2.2.2.2.2.2.2.1 z.2.2.2.2.2.2.2.2.2.2.2.2.2.1]) ((dL cuts i).hi)/\z.2.2.2.2.2.2.2.2.2.2.2.2.2.2.1=decide (i=0)/\z.2.2.2.2.2.2.2.2.2.2.2.2.2.2.2=decide (i=cuts.length),⟨λs=>?_,λs=>⟨(x1,x2,x3,x4,x5,x6,x7,x8,x9,a1,a2,a3,a4,a5,decide (i=0),decide (i=cuts.length)),by and_intros<;>rfl,hA,?_,rfl,rfl⟩⟩,?_⟩
    ·have s:(i:Int)<cuts.length:=of_decide_eq_true s;have k:i<cuts.length:=by omega
     have ⟨W,b1,p3,n3,c3,p4,n4,c4,t,A,b0,M,b2⟩:=Be (hc.le (P.m l2) λ_ _ g=>g.le (P.m l2)) k;refine ⟨aX t,⟨by omega,by omega⟩,_,_,_,_,_,_,_,W,t,b0,M,b2,(x1,x2,x3,x4,x5,x6,x7,b1,p3,n3,c3,p4,n4,c4,decide (i=0),decide (i=cuts.length)),by and_intros<;>rfl,hA,?_,rfl,rfl⟩;show RQ V2 _ (if i<cuts.length then cuts.getD i 0 else 0);rw [if_pos k,jt k];exact A
    ·have s:¬(i:Int)<cuts.length:=of_decide_eq_false s;show RQ V2 _ (if i<cuts.length then cuts.getD i 0 else 0);rw [if_neg (by omega)];exact hB
    ·rintro ⟨y1,y2,y3,y4,y5,y6,y7,E,F,G,H,I,u,J,b7,b8⟩ V3 l3 ⟨kA,kB,kC,kD⟩;dsimp only at kA kB kC kD;subst kC kD;refine ⟨rfl,λz _=>z=decide (0<i/\marks.getD (i-1) false=true/\0<out.length),⟨λs=>?_,λs=>⟨false,by and_intros<;>rfl,?_⟩⟩,?_⟩
     ·have s:(i:Int)>0:=of_decide_eq_true s;have k:i-1<marks.length:=by omega
      have U:i64.wrap ((i:Int)-1)=((i-1:Nat):Int):=by rw [au (by omega)];omega
      have a6:marks.getD (i-1) false=marks[i-1]:=by rw [Qx8,Qq1 k];rfl
      rw [U,Qq0,a6];have ⟨W,t,XS⟩:=WA (hm.le (P.m (l2.m l3)) λ_ _ g=>g) k;refine ⟨aX t,⟨by omega,by omega⟩,marks[i-1],⟨W,t,XS⟩,λN=>⟨_,by and_intros<;>rfl,?_⟩,λN=>⟨false,by and_intros<;>rfl,?_⟩⟩
      ·dsimp only;rw [N,decide_eq_decide];constructor
       ·intro h;exact ⟨by omega,rfl,by omega⟩
       ·rintro ⟨_,_,h⟩;omega
      ·dsimp only;rw [N];simp
     ·have s:¬(i:Int)>0:=of_decide_eq_false s;dsimp only;rw [decide_eq_false];rintro ⟨h,_⟩;omega
     ·rintro z V4 l4 rfl;have gA:oT V4 (dB #[qvQ y1,hF y2 y3 y4,hF y5 y6 y7,qvQ E,hF F G H,hF I u J,qvQ (decide (i=0)),qvQ (decide (i=cuts.length))]) (dL cuts i):=qyK ⟨rfl,kA.le l4,kB.le l4⟩;have B:=hx.le (V':=V4) λ_ _ g=>oT.le g (l2.m (l3.m l4));refine ⟨rfl,λK=>?_,λK=>?_⟩
      ·have K:=of_decide_eq_true K;rw [if_pos K] at l;have U:i64.wrap ((f:Int)-1)=((f-1:Nat):Int):=by rw [au (by omega)];omega
       rw [U,Qq0];have X:0<out.length:=K.2.2;have b9:=B.jR (by decide);have Y:out.length-1<out.length:=by omega
       have a7:out.getLastD Sp.zero=out[out.length-1]:=by
        rw [Wx8,List.getLast?_eq_getElem?,Qq1 Y];rfl
       obtain ⟨c0,-,a8,a9⟩:=B.at_ (out.length-1) Y;obtain ⟨b,s1,s2,s3,s4,s5,s6,d,t1,t2,t3,t4,t5,t6,ex,A,c1⟩:=uC a8;subst ex;have sv:=sS (vs:=vs) (xs:=[qvQ E,hF F G H,hF I u J]) (o:=(f-1)*8+3) (by simp only [Qw9,Qj6];omega)
       have b3:(eA vs ((f-1)*8+3) [qvQ E,hF F G H,hF I u J]).length=vs.length:=by
        rw [sv];simp only [Qq3,Qq7,Qn2,Qw9,Qj6];omega
       have sg:∀r,r<(f-1)*8+3\/(f-1)*8+6<=r->(eA vs ((f-1)*8+3) [qvQ E,hF F G H,hF I u J])[r]?=vs[r]?:=by
        intro r Z;rw [sv,Qy6];have R:(vs.take ((f-1)*8+3)).length=(f-1)*8+3:=by rw [Qq7];omega
        rcases Z with Z|Z
        ·rw [Qx1 (by omega),Qy3,if_pos Z]
        ·rw [Qy8 (by omega),Qy8 (by rw [R];simp only [Qw9,Qj6];omega),Qn7,R];congr 1;simp only [Qw9,Qj6];omega
       have sm:∀j x,([qvQ E,hF F G H,hF I u J]:pz un)[j]?=some x->(eA vs ((f-1)*8+3) [qvQ E,hF F G H,hF I u J])[(f-1)*8+3+j]?=some x:=by
        intro j x C;have O:=(Qx0.1 C).1;have R:(vs.take ((f-1)*8+3)).length=(f-1)*8+3:=by rw [Qq7];omega
        rw [sv,Qy6,Qy8 (by omega),R,Qn4,Qx1 O];exact C
       generalize eA vs ((f-1)*8+3) [qvQ E,hF F G H,hF I u J]=us at *;refine ⟨⟨by omega,by omega⟩,L,by omega,⟨by omega,by omega⟩,L,by omega,(f,z2,us.set ((f-1)*8+7) (qvQ (decide (i=cuts.length))),(i:Int)+1),by dsimp only;omega,by and_intros<;>rfl,i+1,rfl,hi,?_,L,?_,?_⟩
       ·dsimp only;rw [hO,l,Au X];exact Q
       ·dsimp only;rw [Wk4,b3];exact hv
       ·dsimp only;rw [hO,l];unfold vT;rw [a7];refine Sg B X (xs:=[qvQ b,hF s1 s2 s3,hF s4 s5 s6,qvQ E,hF F G H,hF I u J,qvQ out[out.length-1].a,qvQ (dL cuts i).b]) rfl (qyK ⟨rfl,A,kB.le l4⟩) ?_ ?_
        ·intro r Z;rw [Qm6 (by omega),sg r (by omega)]
        ·intro j x C;have O:=(Qx0.1 C).1;have c2:j<8:=O;by_cases h7:j=7
         ·subst h7;rw [show (out.length-1)*8+7=(f-1)*8+7 by omega,Qs3 (by omega)];exact C
         ·rw [Qm6 (by omega)];by_cases h3:j<3\/j=6
          ·rw [sg _ (by omega)];have hc:=a9 j x;have:j=0\/j=1\/j=2\/j=6:=by omega
           rcases this with rfl|rfl|rfl|rfl<;>exact hc C
          ·have:j=3\/j=4\/j=5:=by omega
           rcases this with rfl|rfl|rfl
           ·have:=sm 0 x C;rw [show (out.length-1)*8+3=(f-1)*8+3+0 by omega];exact this
           ·have:=sm 1 x C;rw [show (out.length-1)*8+4=(f-1)*8+3+1 by omega];exact this
           ·have:=sm 2 x C;rw [show (out.length-1)*8+5=(f-1)*8+3+2 by omega];exact this
      ·have K:=of_decide_eq_false K;rw [if_neg K] at l;refine ⟨by omega,L,hv,rfl,?_,λsp c' h1 h2=>⟨(f+1,c',_,(i:Int)+1),by dsimp only;omega,by and_intros<;>rfl,i+1,rfl,hi,?_,h1,?_,?_⟩⟩
       ·intro v tD;simp only [Qq6,Qy0,or_false] at tD;rcases tD with rfl|rfl|rfl|rfl|rfl|rfl|rfl|rfl<;>rfl
       ·dsimp only;rw [hO,l,Qq3,Q];rfl
       ·dsimp only;have R:(vs.take (f*8)).length=f*8:=by rw [Qq7];omega
        rw [Qq3,Qq3,R];simp only [Qw9,Qj6];omega
       ·dsimp only;rw [hO,l];have:=B.snoc (sp:=sp) rfl gA (by decide);rw [←Q] at this;exact this
 ·have y:¬(i:Int)<marks.length:=of_decide_eq_false y;obtain rfl:i=marks.length:=by omega
  subst Q;exact ⟨_,_,_,rfl,bI.bJ D (hx.le λ_ _ g=>oT.le g l5) (by decide) L⟩
end Go.Proofs.Tryz
