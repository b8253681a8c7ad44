import Derived.Shelf.SlSortCmp.WholeK
import Derived.Shelf.SlSortCmp.NoneTotal
import Derived.Test.YtbdlbajodgoneaaGreatDoorS17
set_option linter.all false
open Go.IntKind (i64 u64 u32)
open Go.Value renaming slice→yD,agg→dB,bool→gF,pointer→Õ,tuple→ê,int→Ô
open Go.Eng Go.Big
namespace Go.Proofs.Tryz
variable{V:Ó}{vs:List Value}
theorem aa.monoH {f:FuncId}{args:Array un}{R u:un->ut->Prop}(h:À f args V R)(y:∀r V',V.Le V'->(∀b,V'.H b->V.H b)->R r V'->u r V'):À f args V u:=
 ⟨h.1,h.2.s λ_ c ⟨r,he,a,d⟩=>⟨r,he,a,y r _ (V.Ue c a) (λ_ e=>e) d⟩⟩
theorem mY {n b:Nat}(h:vs≠[]):vb vs n b=b:=by cases vs with|nil=>exact Å rfl h|cons v r=>rfl
theorem NR.push {vs sp:zA un}{l:zA Nd}(h:NR V vs l)(hl:l.length*8<=vs.length){ln:L3}{x y:Int}{b1:md}{D:OA}{E c1:Nat}{F:md}{N:OA}{O Z:Nat}{b3:md}{p3:OA}{n3 c3:Nat}(hL:RL V (dB #[gF b1,yD D E c1,gF F,yD N O Z,gF b3,yD p3 n3 c3]) ln.1 ln.2.1 ln.2.2):NR V (vs.take (l.length*8)++[gF b1,yD D E c1,gF F,yD N O Z,gF b3,yD p3 n3 c3,Ô .i64 x,Ô .i64 y]++sp) (l++[⟨ln,x,y⟩]):=by intro i d a;rcases ę i l.length with b|b;{rw [Ĺ b] at a;have ⟨c,p,e,f,g,q,r,k,m,s,t,n,z,u⟩:=h i d a;refine ⟨c,p,e,f,g,q,r,k,m,s,t,n,λj v w=>?_,u⟩;have A:j<8:=χ;grind};rw [ŕ b] at a;have o:i=l.length:=χ;subst o;simp only [Nat.sub_self,List.getElem?_cons_zero,ą] at a;subst a;refine ⟨b1,D,E,c1,F,N,O,Z,b3,p3,n3,c3,λj v w=>?_,.inl hL⟩<;>grind [Nat.add_sub_cancel_left]
theorem NR.set6 {l:zA Nd}(h:NR V vs l){k:Nat}{d:Nd}(D:l[k]?=some d){x:Int}:NR V (vs.set (k*8+6) (Ô .i64 x)) (l.set k ⟨d.ln,x,d.right⟩):=by intro i y a;rw [Qr2] at a;split at a;{rename_i e;subst e;split at a;{cases a;have ⟨b,c,f,g,m,n,o,p,q,r,s,t,w,u⟩:=h k d D;refine ⟨b,c,f,g,m,n,o,p,q,r,s,t,λj v z=>?_,u⟩;rw [Qr2];by_cases A:j=6;{subst A;have:=w 6 _ rfl;grind};grind};cases a};rename_i e;have ⟨b,c,f,g,m,n,o,p,q,r,s,t,w,u⟩:=h i y a;refine ⟨b,c,f,g,m,n,o,p,q,r,s,t,λj v z=>?_,u⟩<;>grind
theorem NR.set7 {l:zA Nd}(h:NR V vs l){k:Nat}{d:Nd}(D:l[k]?=some d){x:Int}:NR V (vs.set (k*8+7) (Ô .i64 x)) (l.set k ⟨d.ln,d.left,x⟩):=by intro i A a;rw [Qr2] at a;split at a;{rename_i e;subst e;split at a;{cases a;have ⟨b,c,f,g,m,n,o,p,q,r,s,t,y,u⟩:=h k d D;refine ⟨b,c,f,g,m,n,o,p,q,r,s,t,λj v z=>?_,u⟩;rw [Qr2];by_cases B:j=7;{subst B;have:=y 7 _ rfl;have w:k*8+7<vs.length:=by{rcases ę (k*8+7) vs.length with h|h;{exact h};rw [Ū h] at this;cases this};rw [Ä rfl,Ä w];exact z};grind};cases a};rename_i e;have ⟨b,c,f,g,m,n,o,p,q,r,s,t,y,u⟩:=h i A a;refine ⟨b,c,f,g,m,n,o,p,q,r,s,t,λj v z=>?_,u⟩<;>grind
theorem NR.kids {V:ut}{l r:zA Nd}{ln:L3}{u v x y:Int}(h:NR V vs (l++⟨ln,u,v⟩::r)):NR V ((vs.set (l.length*8+6) (Ô .i64 x)).set (l.length*8+7) (Ô .i64 y)) (l++⟨ln,x,y⟩::r):=by have b:(l++(⟨ln,u,v⟩:Nd)::r)[l.length]?=some ⟨ln,u,v⟩:=ψ;have a:=h.set6 b (x:=x);have c:(l++(⟨ln,u,v⟩:Nd)::r).set l.length ⟨ln,x,v⟩=l++⟨ln,x,v⟩::r:=ψ;rw [c] at a;have d:(l++(⟨ln,x,v⟩:Nd)::r)[l.length]?=some ⟨ln,x,v⟩:=ψ;have e:=a.set7 d (x:=y);grind
theorem NR.take {l:zA Nd}(h:NR V vs l):NR V (vs.take (l.length*8)) l:=by intro i d a;have ⟨b,c,e,f,g,k,m,n,o,p,q,r,t,s⟩:=h i d a;refine ⟨b,c,e,f,g,k,m,n,o,p,q,r,λj v u=>?_,s⟩<;>grind
theorem NS.ofRow {V:ut}{b c:Nat}{vm:zA un}{l:zA Nd}{ty:TypeId}(z:vm≠[]->V.aX b (.cells vm.toArray ty (0,0)))(u:l.length<=c)(y:NR V vm l):NS V (mA b c) l.length c l:=by refine ⟨rfl,u,⟨_,?_,y.take⟩,?_⟩;{intro i v a;rw [ķ] at a;split at a;{rename_i f;have d:vm≠[]:=λe=>by{rw [e] at a;simp at a};refine ⟨⟨b,0,none⟩,by unfold mA;rw [Ã ω],?_⟩<;>grind [add_zero',dK]};cases a};intro e;unfold mA at e;grind
def MM:List Tr->Nat
 | []=>0
 | t::r=>2*t.size+1+MM r
theorem CY (a b:zA Tr):MM (a++b)=MM a+MM b:=by
 induction a with
 | nil=>simp [MM]
 | cons t r u=>simp only [Qc2,MM];omega
def Z9 (V:Ó)(vs:List Value)(ts:List Tr):Prop:=∀(i:Nat)(t:Tr),ts[i]?=some t->∃p,vs[i]?=some (.pointer p)/\RT V p t
theorem Z9.le {V V':ut}{ts:zA Tr}(h:Z9 V vs ts)(l:V.Le V'):Z9 V' vs ts:=λi t a=>by
 have ⟨p,b,c⟩:=h i t a;exact ⟨p,b,c.le l⟩
theorem XX (ts:zA Tr):ts.length<=MM ts:=by
 induction ts with
 | nil=>simp
 | cons t r u=>simp only [MM,Ĉ];omega
theorem Z9.Yf {sp:zA un}{ts:zA Tr}{x y:Tr}{p q:OA}{m:Nat}(h:Z9 V vs ts)(hm:m<=ts.length)(u:m<=vs.length)(z:RT V p x)(D:RT V q y):Z9 V (vs.take m++[Õ p,Õ q]++sp) (ts.take m++[x,y]):=by intro i t a;rcases ę i m with b|b;{rw [Ĺ (by rw [ì];omega),ķ,Ä b] at a;have ⟨r,c,d⟩:=h i t a;grind};rw [ŕ (by rw [ì];omega),ì,Ħ hm] at a;obtain ⟨j,rfl⟩:∃j,i=m+j:=⟨i-m,ω⟩;rw [Qn8] at a;have e:∀v,([Õ p,Õ q]:zA un)[j]?=some v->(vs.take m++[Õ p,Õ q]++sp)[m+j]?=some v:=χ;grind
def AT (V:Ó)(v:Value)(root:Int)(l:List Nd):Prop:=∃q n c,v=.agg #[.int .i64 root,.slice q n c]/\NS V q n c l
theorem AT.le {V V':ut}{v:un}{root:Int}{l:zA Nd}(h:AT V v root l)(u:V.Le V'):AT V' v root l:=by obtain ⟨q,n,c,e,h⟩:=h;exact ⟨q,n,c,e,h.le u⟩
theorem QF {l:zA Nd}(u:∀x∈l,Bd x.ln){v:un}{root:Int}(h:AT V v root l):À 91 #[v] V λr W=>∃q,r=ê #[Õ q,gF (GU l root).isSome]/\∀t,GU l root=some t->RT W q t:=by obtain ⟨p,n,c,rfl,h⟩:=h;refine (Ti u root h).s ?_;rintro r V' _ ⟨b,d⟩;(cases e:GU l root with|none=>{obtain ⟨q,rfl⟩:=b e;exact ⟨q,rfl,λt a=>by cases a⟩}|some t=>{obtain ⟨q,rfl,f⟩:=d t e;exact ⟨q,rfl,λg a=>by cases a;exact f⟩})
def RW (V:Ó):OA->Tr->Prop
 | p,.leaf i=>∃(b:Nat)(u z c4 c5 c6 c7 c8 c9:Value),p=some ⟨b,0,none⟩/\V.aX b (.cells #[.bool true,.bool i,u,z,c4,c5,c6,c7,c8,c9] 73 (0,0))
 | p,.node l x y=>∃(b:Nat)(i:Bool)(b1:Bool)(D:OA)(E c1:Nat)(F:Bool)(N:OA)(O u:Nat)(Z:Bool)(p3:OA)(n3 z:Nat)(pl pr:OA),p=some ⟨b,0,none⟩ /\
   V.aX b (.cells #[.bool false,.bool i,.bool b1,.slice D E c1,.bool F,.slice N O u,.bool Z,.slice p3 n3 z,.pointer pl,.pointer pr] 73 (0,0)) /\
   RL V (.agg #[.bool b1,.slice D E c1,.bool F,.slice N O u,.bool Z,.slice p3 n3 z]) l.1 l.2.1 l.2.2/\RW V pl x/\RW V pr y
theorem RW.le {V V':ut}(h:V.Le V'):∀{t:Tr} {p:OA},RW V p t->RW V' p t
 | .leaf i,p,⟨b,u,z,E,F,N,O,Z,c9,e,D⟩=>⟨b,u,z,E,F,N,O,Z,c9,e,h _ _ D⟩
 | .node l x y,p,⟨b,i,b1,p1,n1,c1,b2,p2,n2,u,b3,p3,n3,z,pl,pr,e,D,hl,hx,hy⟩=>⟨b,i,b1,p1,n1,c1,b2,p2,n2,u,b3,p3,n3,z,pl,pr,e,h _ _ D,hl.le h,RW.le h hx,RW.le h hy⟩
theorem cT (i:md):À 20 #[gF i] V λr W=>∃p,r=Õ p/\RW W p (.leaf i):=
 FO V _ λc d b a=>⟨_,rfl,b,_,_,_,_,_,_,_,_,rfl,a⟩
def kh (x:L3):Prop:=cq x=true/\Bd x
theorem c_Tree:∀(k:Nat) {V:ut} {tb:Nat} {p:OA} {n c:Nat} {at_:Int},k<=10->Jr V p n->n<=400->gY V tb p n c at_->V.X tb->0<=at_ ->À 21 #[Õ (some ⟨tb,0,none⟩),Ô .i64 (k:Int)] V λr W=>∃q t at',r=Õ q/\RW W q t/\t.dU kh/\t.size<2^k/\0<=at'/\gY W tb p n c at':=by
 intro k
 induction k with
 | zero=>
  intro V tb p n c at_ _ d e hw w y;refine mB tb p n c at_ _ V _ hw w ⟨λg V1 l1 z e1 h1=>(dL (V:=V1.ao [z]) 2 (d.le λb o h=>l1 b o h) e e1 ⟨ψ,h1⟩ y ω).s ?_,λg=>by simp at g⟩;rintro r V2 l2 ⟨x,Z,rfl,-,-,t1,f⟩;refine ⟨_,rfl,_,_,_,_,f,λV3 l3=>(cT _).s ?_⟩;rintro r V4 l4 ⟨q,rfl,A⟩;exact ⟨_,rfl,λV5 l5 e5=>⟨_,_,Z,rfl,A.le l5,trivial,by simp [Tr.size],t1,e5⟩⟩
 | succ k ih=>
  intro V tb p n c at_ hk d e hw w y;refine mB tb p n c at_ _ V _ hw w ⟨λg=>by rw [Ë] at g;omega,λ_ V6 l6 B e6 h6=>(dL (V:=V6.ao [B]) 4 (d.le λb o h=>l6 b o h) e e6 ⟨ψ,h6⟩ y ω).s ?_⟩;rintro r V7 l7 ⟨x,Z,rfl,-,-,t1,f⟩;have i:V.Le V7:=λb o h=>l7 b o (l6 b o h);refine ⟨_,rfl,_,_,_,_,f,λg V8 l8 WE e8 h8=>(dL (V:=V8.ao [WE]) 2 (d.le λb o h=>l8 b o (i b o h)) e e8 ⟨ψ,h8⟩ t1 ω).s ?_,λg iI dS l C D=>(c_L (V:=iI.ao [l]) (d.le λb o h=>dS b o (i b o h)) e C ⟨ψ,D⟩ t1).s ?_⟩
  ·rintro r V9 l9 ⟨x,m,rfl,-,-,t2,j⟩;refine ⟨_,rfl,_,_,_,_,j,λeV a0=>(cT _).s ?_⟩;rintro r eW cU ⟨q,rfl,A⟩;exact ⟨_,rfl,λgC dI E=>⟨_,_,m,rfl,A.le dI,trivial,by simpa [Tr.size] using Ļ _,t2,E⟩⟩
  ·rintro r kK fH ⟨ln,m,hl,F,G,t2,j⟩;obtain ⟨b1,u1,v1,w1,b2,u2,v2,w2,b3,u3,v3,w3,rfl⟩:=(xQ hl);have a:V.Le kK:=λb o h=>fH b o (dS b o (i b o h));have wk:i64.wrap (((k+1:Nat):Int)-1)=(k:Int):=by{rw [aq ω];omega};refine qxJ ⟨rfl,_,_,_,_,j,λke H WH I J=>?_⟩;rw [wk];refine ((ih (V:=ke.ao [WH]) ω (d.le λb o h=>H b o (a b o h)) e I ⟨ψ,J⟩ t2).s ?_);rintro r kf e_ ⟨qa,ta,a1,rfl,K,L,a2,t3,M⟩;have s:V.Le kf:=λb o h=>e_ b o (H b o (a b o h));refine ⟨_,rfl,_,_,_,_,M,λlu N u O P=>(ih (V:=lu.ao [u]) ω (d.le λb o h=>N b o (s b o h)) e O ⟨ψ,P⟩ t3).s ?_⟩;rintro r mD gj ⟨qb,Q,R,rfl,S,T,a3,t4,U⟩;refine ⟨_,rfl,_,_,_,_,U,λnf W v Y hb=>⟨_,.node ln ta Q,R,rfl,⟨v,_,_,_,_,_,_,_,_,_,_,_,_,_,_,_,rfl,hb,?_,?_,?_⟩,⟨⟨F,G⟩,L,T⟩,?_,t4,Y⟩⟩;{exact hl.le λb o h=>W b o (gj b o (N b o (e_ b o (H b o h))))};{exact RW.le (V:=kf) (V':=nf) (λb o h=>W b o (gj b o (N b o h))) K};{exact RW.le (V:=mD) (V':=nf) (λb o h=>W b o h) S};simp only [Tr.size];rw [ħ];omega
def Tr.depth:Tr->Nat
 | .leaf _=>0
 | .node _ a b=>1+max a.depth b.depth
theorem oo:∀t:Tr,t.depth<=t.size
 | .leaf _=>Ú _
 | .node _ a b=>by have:=oo a;have:=oo b;simp only [Tr.depth,Tr.size];omega
theorem Um {a b:Nat}(u:a<=1000000)(y:b<=1000000:=by omega):i64.wrap ((1:Int)+cA (a:Int) (b:Int))=((1+max a b:Nat):Int):=by have:cA (a:Int) (b:Int)=((max a b:Nat):Int):=by{unfold cA;split<;>omega};rw [this,aq ω];omega
theorem qS:∀(t:Tr) {V:ut} {p:OA},RT V p t->t.size<=1000000->À 92 #[Õ p] V λr W=>r=Ô .i64 (t.depth:Int)
 | .leaf i,V,p,h,u=>by
  refine sM V _ λD l1=>(dX (h.le l1)).s ?_;rintro r V2 y rfl;exact ⟨_,rfl,λ_ N O=>rfl,π⟩
 | .node ln a b,V,p,h,u=>by
  refine sM V _ λD l1=>(dX (h.le l1)).s ?_;rintro r V2 y rfl;obtain ⟨Z,x1,x2,x3,y1,y2,y3,z1,z2,z3,pl,E,i,rfl,z,hl,F,hbb⟩:=h.le (l1.m y);have s1:=oo a;have s2:=oo b;simp only [Tr.size] at u;refine ⟨_,rfl,π,λ_=>⟨rfl,rfl,pl,Ao z 9 rfl,rfl,rfl,E,Ao z 10 rfl,λd c=>(qS a (F.le c) ω).s λr e f rfl=>⟨_,rfl,λg j=>(qS b (hbb.le au) ω).s λr k l rfl=>⟨_,rfl,λm n=>by rw [Um ω];rfl⟩⟩⟩⟩
def lo1:Tr->Int
 | .leaf i=>if i then 0 else 1
 | .node ..=>0
theorem kV {p:OA}{i:md}(h:RW V p (.leaf i)):p.isSome=true/\(∃a,ae p 0=some a/\V.at a (gF true))/\∃a,ae p 1=some a/\V.at a (gF i):=by obtain ⟨b,d,e,f,g,j,k,l,m,rfl,c⟩:=h;exact ⟨rfl,Ao c 0 rfl,Ao c 1 rfl⟩
end Go.Proofs.Tryz
namespace Go.Eng
open Go.Proofs.Tryz
variable{α:Type}{sz:Nat}{R:Ó->Value->α->Prop}{V V':Ó}{d:α}
theorem é.get {vs:zA un}{al:zA α}(h:é sz R V vs al){i:Nat}(hi:i<al.length)(u:0<sz):∃xs:zA un,xs.length=sz/\R V (.agg xs.toArray) (al.getD i d)/\i*sz+sz<=vs.length/\(vs.drop (i*sz)).take sz=xs:=by have ⟨xs,a,b,c⟩:=h.at_ i hi;have e:=h.eX u;have:(i+1)*sz<=al.length*sz:=ć _ hi;rw [Ŧ] at this;refine ⟨xs,a,by simpa [hi] using b,ω,?_⟩;apply Qg8;intro j;rw [ķ];split;{grind};grind
theorem é.put {vs:zA un}{al:zA α}(h:é sz R V vs al){i:Nat}(hi:i<al.length)(y:0<sz){xs:zA un}{a:α}(u:xs.length=sz)(z:R V (.agg xs.toArray) a):é sz R V (bG vs (i*sz) xs) (al.set i a):=by have r:=h.eX y;have l:∀k,k<al.length->k*sz+sz<=vs.length:=λk d=>by{have:(k+1)*sz<=al.length*sz:=ć _ d;rw [Ŧ] at this;omega};have m:=l i hi;rw [mu];have f:(vs.take (i*sz)).length=i*sz:=by{rw [ì];omega};refine ⟨λk d=>?_⟩;rw [Qf6] at d;by_cases e:k=i;{subst e;refine ⟨xs,u,by simpa using z,λj x b=>?_⟩;have c:=(Ī.1 b).1;rw [Ě,ŕ ω,f,Qn8,Ĺ c];exact b};have ⟨n,o,p,g⟩:=h.at_ k d;refine ⟨n,o,by rw [List.getElem_set_ne (λq=>e q.symm)];exact p,λj x b=>?_⟩;have c:=(Ī.1 b).1;by_cases lt:k<i;{have:(k+1)*sz<=i*sz:=ć _ lt;rw [Ŧ] at this;rw [Ě,Ĺ ω,ķ,Ä ω];exact g j x b};{have:(i+1)*sz<=k*sz:=ć _ ω;rw [Ŧ] at this;rw [ŕ (by rw [ï];omega),ï,f,u,Qm3];rw [show i*sz+sz+(k*sz+j-(i*sz+sz))=k*sz+j by omega];exact g j x b}
theorem rY {vs xs:zA un}{o:Nat}(h:o+xs.length<=vs.length):(bG vs o xs).length=vs.length:=by rw [mu h];simp only [ï,ì,į];omega
theorem é.swap {vs:zA un}{al:zA α}(h:é sz R V vs al){i j:Nat}(hi:i<al.length)(y:j<al.length)(u:0<sz){xs ys:zA un}(z:xs.length=sz)(D:ys.length=sz)(E:R V (.agg xs.toArray) (al.getD i d))(F:R V (.agg ys.toArray) (al.getD j d)):é sz R V (bG (bG vs (i*sz) ys) (j*sz) xs) (IU d al i j):=by have:=h.put hi u D F;exact this.put (by simpa using y) u z E
end Go.Eng
namespace Go.Proofs.Tryz
section
variable{α:Type}(e:α->α->Bool)
def pj:α->List α->List α
 | _,[]=>[]
 | p,a::r=>if e a p then pj a r else a::pj a r
def gI:List α->List α
 | []=>[]
 | a::r=>a::pj e a r
variable{e}
theorem Gp {d:α}:∀{r:zA α} {p a:α},pj e p (r++[a])=pj e p r++if e a ((p::r).getD r.length d) then [] else [a]
 | [],p,a=>by simp [pj]
 | b::r,p,a=>by
  have u:=Gp (d:=d) (r:=r) (p:=b) (a:=a);have c:(p::b::r).getD (b::r).length d=(b::r).getD r.length d:=rfl;rw [c,Qc2];simp only [pj];split
  ·exact u
  ·rw [u];rfl
theorem lj {d:α}{l:zA α}{k:Nat}(u:k+1<l.length:=by omega):gI e (l.take (k+2))=gI e (l.take (k+1))++if e (l.getD (k+1) d) (l.getD k d) then [] else [l.getD (k+1) d]:=by (cases l with|nil=>simp at u|cons a r=>{have b:k<r.length:=by{simpa using u};have c:(a::r).take (k+2)=a::(r.take k++[r[k]]):=by{rw [List.take_succ_cons,Ŏ b]};have f:(a::r).take (k+1)=a::r.take k:=List.take_succ_cons;rw [c,f];simp only [gI];rw [Gp (d:=d)];have g:(a::r).getD (k+1) d=r[k]:=by{rw [Wy0,ě,ô b];rfl};have h:(a::r.take k).getD (r.take k).length d=(a::r).getD k d:=by{have i:(r.take k).length=k:=by{rw [ì];omega};rw [i];(cases k with|zero=>rfl|succ k=>{rw [Wy0,Wy0,ě,ě,ķ,Ä ω]})};rw [g,h,Qc2]})
theorem Ce:∀{r:zA α} {p:α},∀x∈pj e p r,x∈r
 | [],p,x,h=>h
 | b::r,p,x,h=>by
  unfold pj at h;split at h
  ·exact ā _ (Ce x h)
  ·rcases í.1 h with rfl|h
   ·exact ď ..
   ·exact ā _ (Ce x h)
theorem Kb {l:zA α}:∀x∈gI e l,x∈l:=by (cases l with|nil=>exact λx h=>h|cons a r=>{intro x h;rcases í.1 h with rfl|h;{exact ď ..};exact ā _ (Ce x h)})
theorem Kg:∀{r:zA α} {p:α},(pj e p r).length<=r.length
 | [],p=>Ú _
 | b::r,p=>by
  have:=Kg (r:=r) (p:=b);grind [pj]
theorem ru {l:zA α}:(gI e l).length<=l.length:=by (cases l with|nil=>exact Ú _|cons a r=>{have:=Kg (e:=e) (r:=r) (p:=a);simp [gI];omega})
theorem Pk {d:α}{l:zA α}{k:Nat}(u:k+1<l.length)(he:e (l.getD (k+1) d) (l.getD k d)=true):(gI e l).length<l.length:=by
 have key:∀j,k+2+j<=l.length->(gI e (l.take (k+2+j))).length<k+2+j:=by
  intro j
  induction j with
  | zero=>
   intro _;rw [ğ,lj (d:=d) u,he,Ä rfl,ý];have:=ru (e:=e) (l:=l.take (k+1));rw [ì] at this;omega
  | succ j y=>
   intro a;have:=y ω;rw [show k+2+(j+1)=k+1+j+2 by omega,lj (d:=d),ï,show k+1+j+1=k+2+j by omega];split<;>simp<;>omega
 have:=key (l.length-(k+2)) ω
 rwa [show k+2+(l.length-(k+2))=l.length by omega,Ė] at this
theorem wc {l:zA α}(h:l.length<=1:=by omega):gI e l=l:=by
 match l,h with
 | [],_=>rfl
 | [a],_=>rfl
 | _::_::_,h=>simp at h
end
end Go.Proofs.Tryz
namespace Go.Eng
open Go.Proofs.Tryz
section
variable{α:Type}{sz:Nat}{R:Ó->Value->α->Prop}{V:Ó}{d:α}
theorem é.Ph {vs u:zA un}{al:zA α}(h:é sz R V vs al){k:Nat}(y:k<=al.length)(z:0<sz):é sz R V (vs.take (k*sz)++u) (al.take k):=by have l:=h.eX z;refine ⟨λi b=>?_⟩;rw [ì] at b;have ⟨xs,c,d,e⟩:=h.at_ i ω;refine ⟨xs,c,by rw [Qt8];exact d,λj x a=>?_⟩;have f:=(Ī.1 a).1;have g:(i+1)*sz<=k*sz:=ć _ ω;have m:k*sz<=al.length*sz:=ć _ y;rw [Ŧ] at g;rw [Ĺ (by rw [ì];omega),ķ,Ä ω];exact e j x a
end
end Go.Eng
namespace Go.Proofs.Tryz
variable{V:Ó}{v w:Value}{k n:Nat}{L M a b l m:L3}{s:Sp}{p:OA}{px py qx qy:Rat}
theorem M7 {x y:Rat}(u:RR V v x)(z:RR V w y)(D:Sz k x)(E:Sz k y)(F:2*k<2^40):À 300 #[v,w] V λr W=>RR W r (uX x y):=by have g:=u;have i:=z;obtain ⟨a,b,c,rfl⟩:=u.shape;obtain ⟨d,e,f,rfl⟩:=z.shape;refine LS V _ λj l=>(iO ra ra E D).s ?_;rintro r V2 m rfl;unfold uX;exact ⟨_,rfl,λh n o=>by rw [Ä (Á h)];exact i.le au,λh p q=>by rw [Ã (Â h)];exact g.le au⟩
theorem M8 {x y:Rat}(u:RR V v x)(z:RR V w y)(D:Sz k x)(E:Sz k y)(F:2*k<2^40):À 301 #[v,w] V λr W=>RR W r (uY x y):=by have g:=u;have i:=z;obtain ⟨a,b,c,rfl⟩:=u.shape;obtain ⟨d,e,f,rfl⟩:=z.shape;refine LU V _ λj l=>(iO ra ra E D).s ?_;rintro r V2 m rfl;unfold uY;exact ⟨_,rfl,λh n o=>by rw [Ä (Á h)];exact i.le au,λh p q=>by rw [Ã (Â h)];exact g.le au⟩
theorem Sp.Ic {v w:Sp}(u:v.sz k)(y:w.sz k):(v.meet w).sz k:=by unfold Sp.meet Sp.sz uX uY;constructor<;>dsimp only;{split;{exact y.1};split;{exact u.1};split;{exact y.1};exact u.1};split;{exact y.2};split;{exact u.2};split;{exact y.2};exact u.2
theorem F9 {s t:Sp}(h:kJ V v s)(h':kJ V w t)(hs:s.sz k)(ht:t.sz k)(hk:2*k<2^40:=by omega):À 293 #[v,w] V λr W=>∃u,r=ê #[u,gF (!(s.meet t).emp)]/\kJ W u (s.meet t):=by obtain ⟨H,I,p,l,m,q,rfl,h1,J⟩:=h;obtain ⟨K,L,o,M,N,j,rfl,S,T⟩:=h';have lo1:s.a=true->(s.meet t).lo=t.lo/\(s.meet t).a=t.a:=λe=>by{simp [Sp.meet,e]};have U:s.a=false->t.a=false->(s.meet t).lo=uX s.lo t.lo:=λe d=>by{simp [Sp.meet,e,d]};have W:s.a=false->t.a=true->(s.meet t).lo=s.lo:=λe d=>by{simp [Sp.meet,e,d]};have n:s.a=false->(s.meet t).a=s.a:=λe=>by{simp [Sp.meet,e]};have x:s.b=true->(s.meet t).hi=t.hi/\(s.meet t).b=t.b:=λe=>by{simp [Sp.meet,e]};have X:s.b=false->t.b=false->(s.meet t).hi=uY s.hi t.hi:=λe d=>by{simp [Sp.meet,e,d]};have Y:s.b=false->t.b=true->(s.meet t).hi=s.hi:=λe d=>by{simp [Sp.meet,e,d]};have y:s.b=false->(s.meet t).b=s.b:=λe=>by{simp [Sp.meet,e]};refine DO V _ ⟨λz i=>RR i (dB #[Ô .i64 z.1,Ô .i64 z.2.1,Õ z.2.2.1]) (s.meet t).lo/\RR i (dB #[Ô .i64 z.2.2.2.1,Ô .i64 z.2.2.2.2.1,Õ z.2.2.2.2.2.1]) s.hi/\z.2.2.2.2.2.2.1=(s.meet t).a/\z.2.2.2.2.2.2.2=s.b,⟨λc=>?_,λc=>⟨λf i l1=>(M7 ra ra hs.1 ht.1 hk).s ?_,λf=>?_⟩⟩,?_⟩;{refine ⟨(K,L,o,l,m,q,t.a,s.b),σ,?_,J,(lo1 c).2.symm,rfl⟩;rw [(lo1 c).1];exact S};{rintro r V2 l2 g;rw [ŋ] at f;obtain ⟨B,C,D,rfl⟩:=g.shape;refine ⟨_,_,_,rfl,(B,C,D,l,m,q,s.a,s.b),σ,?_,ra,(n c).symm,rfl⟩<;>grind};{rw [Qm5] at f;refine ⟨(H,I,p,l,m,q,s.a,s.b),σ,?_,J,(n c).symm,rfl⟩<;>grind};rintro ⟨E,F,G,Z,z5,z6,z7,z8⟩ V3 l3 ⟨A,k2,O,P⟩;dsimp only at A k2 O P;subst O P;refine ⟨rfl,λz i=>RR i (dB #[Ô .i64 z.1,Ô .i64 z.2.1,Õ z.2.2.1]) (s.meet t).lo/\RR i (dB #[Ô .i64 z.2.2.2.1,Ô .i64 z.2.2.2.2.1,Õ z.2.2.2.2.2.1]) (s.meet t).hi/\z.2.2.2.2.2.2.1=(s.meet t).a/\z.2.2.2.2.2.2.2=(s.meet t).b,⟨λc=>?_,λc=>⟨λf V4 l4=>(M8 ra ra hs.2 ht.2 hk).s ?_,λf=>?_⟩⟩,?_⟩;{refine ⟨(E,F,G,M,N,j,(s.meet t).a,t.b),σ,A,?_,rfl,(x c).2.symm⟩;rw [(x c).1];exact T.le l3};{rintro r V5 l5 g;rw [ŋ] at f;obtain ⟨B,C,D,rfl⟩:=g.shape;refine ⟨_,_,_,rfl,(E,F,G,B,C,D,(s.meet t).a,s.b),σ,A.le au,?_,rfl,(y c).symm⟩<;>grind};{rw [Qm5] at f;refine ⟨(E,F,G,Z,z5,z6,(s.meet t).a,s.b),σ,A,?_,rfl,(y c).symm⟩<;>grind};rintro ⟨l,m,y3,y4,y5,y6,y7,y8⟩ V6 l6 ⟨j1,j2,Q,R⟩;dsimp only at j1 j2 Q R;subst Q R;refine ⟨rfl,λV7 l7=>(MX ⟨_,_,_,_,_,_,rfl,ra,ra⟩ (Sp.Ic hs ht) hk).s ?_⟩;rintro r V8 l8 rfl;exact ⟨_,rfl,λV9 l9=>⟨_,rfl,_,_,_,_,_,_,rfl,ra,ra⟩⟩
theorem tO (sl:iL k L)(sm:iL k M):Sz (4*k+3) (Û M L):=Eo sm.1 sm.2.1 sl.2.1 sl.1.neg
theorem SU:(((M.1:Rat)*((L.1:Rat)*(((-(L.2.2:Rat))*(((L.1:Rat)*(L.1:Rat))+((L.2.1:Rat)*(L.2.1:Rat)))⁻¹))))+((M.2.1:Rat)*((L.2.1:Rat)*(((-(L.2.2:Rat))*(((L.1:Rat)*(L.1:Rat))+((L.2.1:Rat)*(L.2.1:Rat)))⁻¹)))))+(M.2.2:Rat)=jW M L:=by unfold jW aG cu cw fK;grind
theorem tN (sl:iL k L)(sm:iL k M):Sz (50*k+49) (jW M L):=by rw [<-SU];exact Sz.s (oN (k:=10*k+9) (sm.1.s ω) (sm.2.1.s ω) (sm.2.2.s ω) (qv sl.1 sl.2.1 sl.2.2) (qw sl.1 sl.2.1 sl.2.2)) ω
theorem kW (sl:iL k L)(sm:iL k M):Sz (60*k+60) (Ø M L):=Sz.s ((tN sl sm).mul (iA (tO sl sm))).neg ω
theorem JO {l m:un}(hl:vF V l L)(hv:kJ V v s)(hm:vF V m M)(sl:iL k L)(hs:s.sz k)(sm:iL k M)(hk:200*k+200<2^38:=by omega):À 268 #[l,v,m] V λr W=>∃w,r=ê #[w,gF (cW L s M)]/\kJ W w (bF L s M):=by have d:=hl;have i:=hv;have e:=hm;obtain ⟨_,_,_,_,_,_,_,_,_,rfl,-,-,-⟩:=hl;obtain ⟨_,_,_,_,_,_,rfl,-,-⟩:=hv;obtain ⟨_,_,_,_,_,_,_,_,_,rfl,-,-,-⟩:=hm;have f:s.sz (60*k+60):=⟨hs.1.s ω,hs.2.s ω⟩;have z:=DF (60*k+60);refine Fj V _ λP B=>(qi (e.le B) sm.1 sm.2.1 sm.2.2 ω).s λr V2 Q u=>kd.ex u λ_ _ u _ _=>λR S=>(oU (d.le au) sl.1 sl.2.1 sl.2.2 ω).s λr T U x=>kd.ex x λ_ _ x _ _=>λW X=>(vR ra ra sm.1 sm.2.1 sl.2.1 sl.1.neg ω).s λr V6 l6 (y:RR V6 r (Û M L))=>RR.ex y λ_ y=>λY Z=>(tX (d.le au) sl.1 sl.2.1 sl.2.2).s λr V8 l8 j=>kd.ex j λ_ _ j _ _=>λV9 C=>(qT (k:=10*k+9) (e.le au) (j.le C) (sm.1.s ω) (sm.2.1.s ω) (sm.2.2.s ω) (qv sl.1 sl.2.1 sl.2.2) (qw sl.1 sl.2.1 sl.2.2)).s ?_;rintro r eV D A;rw [SU] at A;obtain ⟨_,_,_,rfl⟩:=A.shape;refine ⟨_,_,_,rfl,λeW cU=>(fP ra (tO sl sm)).s ?_⟩;rintro r gC dI rfl;refine ⟨_,rfl,λa iI dS=>(fP ra (tN sl sm)).s ?_,λa=>⟨λn kf e_=>(Ba ra ra (tN sl sm) (tO sl sm) ω).s ?_,λn qD l_=>(Ba ra ra (tN sl sm) (tO sl sm) ω).s ?_⟩⟩;{rintro r kK fH rfl;have g:cW L s M=decide ((jW M L).num.sign>0):=by{unfold cW;rw [Ä a]};have b:bF L s M=s:=by{unfold bF;rw [Ä a]};rw [g,b];exact ⟨_,rfl,λke fB=>⟨_,rfl,ra⟩⟩};{have b:bF L s M=s.meet ⟨Ø M L,0,false,true⟩:=by{unfold bF;rw [Ã (by rw [a];exact ū),Ä n]};have g:cW L s M=!(s.meet ⟨Ø M L,0,false,true⟩).emp:=by{rw [<-b];unfold cW;rw [Ã (by rw [a];exact ū)]};rw [g,b];rintro r E F o;obtain ⟨_,_,_,rfl⟩:=o.shape;refine ⟨_,_,_,rfl,λG H=>(oR ra ((tN sl sm).mul (iA (tO sl sm))) ω).s λr I J c=>RR.ex c λ_ c=>λK p=>(F9 (t:=⟨Ø M L,0,false,true⟩) (i.le au) ⟨_,_,_,_,_,_,rfl,c.le p,RR.zero _⟩ f ⟨kW sl sm,z⟩).s ?_⟩;rintro r N O ⟨w,rfl,h⟩;have q:=h;obtain ⟨_,_,_,_,_,_,rfl,-,-⟩:=h;grind [q.le]};have b:bF L s M=s.meet ⟨0,Ø M L,true,false⟩:=by{unfold bF;rw [Ã (by rw [a];exact ū),Ã (by rw [n];exact ū)]};have g:cW L s M=!(s.meet ⟨0,Ø M L,true,false⟩).emp:=by{rw [<-b];unfold cW;rw [Ã (by rw [a];exact ū)]};rw [g,b];rintro r E F o;obtain ⟨_,_,_,rfl⟩:=o.shape;refine ⟨_,_,_,rfl,λG H=>(oR ra ((tN sl sm).mul (iA (tO sl sm))) ω).s λr I J c=>RR.ex c λ_ c=>λK p=>(F9 (t:=⟨0,Ø M L,true,false⟩) ra ⟨_,_,_,_,_,_,rfl,RR.zero _,c.le p⟩ f ⟨z,kW sl sm⟩).s ?_⟩;rintro r N O ⟨w,rfl,h⟩;obtain ⟨_,_,_,_,_,_,rfl,-,-⟩:=id h;grind [h.le]
structure SD (V:Ó) (p:OA) (n:Nat) (fs:List (L3×Sp)):Prop where
 len:n=fs.length
 at_:∀(i:Nat)(h:i<fs.length),∃ad,ae p (i*17)=some ad/\∃xs:List Value,z_ V (.agg xs.toArray) fs[i].1 fs[i].2/\∀j x,xs[j]?=some x->V.at (ad.add j) x
theorem SD.le {V V':ut}{fs:zA (L3×Sp)}(h:SD V p n fs)(e:V.Le V'):SD V' p n fs:=⟨h.len,λi a=>by have ⟨b,c,xs,d,f⟩:=h.at_ i a;exact ⟨b,c,xs,d.le e,λj x g=>e.at (f j x g)⟩⟩
def Ď (l:L3)(s:Sp)(m:L3):List (L3×Sp):=if cW l s m=true then [(l,bF l s m)] else []
theorem MZ {c:Nat}{fs:zA (L3×Sp)}(h:SD V p n fs)(hn:fs.length<=10000)(hs:∀f∈fs,iL k f.1/\f.2.sz k)(hk:k<=2^40:=by omega):À 128 #[yD p n c] V λr W=>∃q m e,r=yD q m e/\SC W q m fs:=by
 obtain rfl:=h.len
 refine AG V _ ⟨λz V'=>∃j:Nat,z.2.2.2=(j:Int)/\j<=fs.length/\z.1=j/\j<=z.2.1/\z.2.1*14<=z.2.2.1.length/\∀(i:Nat)(_:i<j)(l:i<fs.length),∃xs:zA un,xs.length=14/\Z6 V' (.agg xs.toArray) fs[i].1 fs[i].2/\∀q x,xs[q]?=some x->z.2.2.1[i*14+q]?=some x,
  λz=>fs.length-z.2.2.2.toNat,⟨(0,0,[],0),σ,0,rfl,å _,rfl,Ú _,Ú _,λi l=>Å l (Œ i)⟩,?_⟩
 rintro ⟨b,K,y,U⟩ W L ⟨j,E,X,F,G,u,A⟩;dsimp only at E F G u A;subst E F;refine ⟨rfl,λd=>?_,λd Y Z B hb=>?_⟩
 ·have d:(b:Int)<fs.length:=Á d;have l:b<fs.length:=ω;obtain ⟨M,H,xs,N,a⟩:=(h.le L).at_ b l;have w:i64.wrap ((b:Int)+1)=(b:Int)+1:=aq ω;dsimp only;rw [ß,w];obtain ⟨_,_,_,_,_,_,_,_,_,_,_,_,_,_,_,ex,-,-⟩:=id N;have ex:=Æ Array.toList (Value.agg.inj ex);dsimp only at ex;subst ex;have ⟨s1,s2⟩:=hs _ (ò l);refine ⟨aW H,Ź,_,_,_,_,_,_,_,_,_,_,_,_,_,_,_,_,_,M,H,a 0 _ rfl,a 1 _ rfl,a 2 _ rfl,a 3 _ rfl,a 4 _ rfl,a 5 _ rfl,a 6 _ rfl,a 7 _ rfl,a 8 _ rfl,a 9 _ rfl,a 10 _ rfl,a 11 _ rfl,a 12 _ rfl,a 13 _ rfl,a 14 _ rfl,a 15 _ rfl,a 16 _ rfl,λV2 l2=>(Ta ra s1 s2 hk).s ?_⟩;rintro r V3 l3 g;obtain ⟨_,_,_,_,_,_,_,_,_,_,_,_,_,_,_,_,_,_,_,_,_,_,_,_,_,_,rfl⟩:=TJ g;refine ⟨_,_,_,_,_,_,_,_,_,_,_,_,_,_,_,_,_,_,_,_,_,_,_,_,_,_,_,_,rfl,ω,G,u,rfl,?_,?_⟩;{intro v hm;simp only [í,Ğ,Ì] at hm;rcases hm with rfl|rfl|rfl|rfl|rfl|rfl|rfl|rfl|rfl|rfl|rfl|rfl|rfl|rfl<;>rfl};intro sp O P h2;refine ⟨(b+1,O,_,(b:Int)+1),ω,σ,b+1,rfl,l,rfl,P,?_,?_⟩;{dsimp only;have t:(y.take (b*14)).length=b*14:=by{rw [ì];omega};rw [ï,ï,t];simp only [Ĉ];omega};intro i Q C;dsimp only;have t:(y.take (b*14)).length=b*14:=by{rw [ì];omega};by_cases o:i=b;{subst o;refine ⟨_,rfl,g,λq x s=>?_⟩;rw [Ě,ŕ (by rw [t];omega),t,Qn8];have:q<14:=(Ī.1 s).1;rw [Ĺ (by exact this)];exact s};have ⟨D,I,R,J⟩:=A i ω C;refine ⟨D,I,ra,λq x s=>?_⟩;have:q<14:=by{have:=(Ī.1 s).1;omega};rw [Ě,Ĺ (by rw [t];omega),ķ,Ä ω];exact J q x s
 ·have d:¬(b:Int)<fs.length:=Â d;obtain rfl:b=fs.length:=ω;refine ⟨_,_,_,rfl,rfl,λi l=>?_⟩;have S:K≠0:=ω;have T:y≠[]:=λe=>by{rw [e] at u;simp at u;omega};have ⟨D,I,R,J⟩:=A i l l;refine ⟨⟨B,i*14,none⟩,by simp [mA,S,ae,add_zero'],D,ra,λq x s=>?_⟩;have hj:(⟨B,i*14,none⟩:Addr).add q=⟨B,i*14+q,none⟩:=by{rw [<-add_zero',kH,add_zero']};grind [dK]
theorem Xb:((L.1:Rat)=(M.1:Rat)/\(L.2.1:Rat)=(M.2.1:Rat)/\(L.2.2:Rat)=(M.2.2:Rat))↔L=M:=by grind [Rat.intCast_inj.1]
theorem tA (u:vF V v L)(hm:vF V w M)(sl:iL k L)(sm:iL k M)(y:k+k<2^40:=by omega):À 156 #[v,w] V λr W=>r=gF (decide (L=M)):=by refine (zw u hm sl.1 sl.2.1 sl.2.2 sm.1 sm.2.1 sm.2.2 y).s ?_;rintro r V' l rfl;rw [É.2 Xb]
theorem Ai (x y:Rat):0<=(eG x y).num:=by unfold eG;grind [Rat.num_mkRat]
theorem Vm (h:¬(px=qx/\py=qy)):er (nK px py qx qy) qx qy-er (nK px py qx qy) px py=eG (eG (-(qy-py)) (qx-px)) (-(-(qy-py)*px+(qx-px)*py)):=by obtain ⟨f,d,e,-⟩:=tE (a:=-(qy-py)) (b:=qx-px) (c:=-(-(qy-py)*px+(qx-px)*py)) (xk h);change _=((nK px py qx qy).1:Rat) at d;change _=((nK px py qx qy).2.1:Rat) at e;generalize eG (eG (-(qy-py)) (qx-px)) (-(-(qy-py)*px+(qx-px)*py))=g at *;have i:=Ŭ g f;have j:=Ŭ _ ((Qn h).norm);unfold er;have k:fK (nK px py qx qy)=((qy-py)*(qy-py)+(qx-px)*(qx-px))*(g⁻¹*g⁻¹):=by{unfold fK;rw [<-d,<-e];grind};grind
theorem Yw (h:¬(px=qx/\py=qy)):(Oh px py qx qy).emp=false:=by obtain ⟨f,-⟩:=tE (a:=-(qy-py)) (b:=qx-px) (c:=-(-(qy-py)*px+(qx-px)*py)) (xk h);have d:=Vm h;have i:=Ai (eG (-(qy-py)) (qx-px)) (-(-(qy-py)*px+(qx-px)*py));unfold Oh Sp.emp;generalize eG (eG (-(qy-py)) (qx-px)) (-(-(qy-py)*px+(qx-px)*py))=g at *;have e:ç (er (nK px py qx qy) px py) (er (nK px py qx qy) qx qy)=- g.num.sign:=by{rw [cmpQ_swap,<-d];rfl};grind [KW]
theorem seg_ok (h:¬(px=qx/\py=qy)):FOk (nK px py qx qy) (Oh px py qx qy):=⟨UI h,⟨π,π⟩,Yw h⟩
theorem rq0 (V:ut):RQ V (dB #[gF false,yD none 0 0,yD none 0 0]) 0:=by have:=RQ.zero (V:=V);simpa using this
theorem vV:À 246 #[] V λr W=>oO W r ⟨0,0,true,true⟩:=
 FF V _ λa b=>⟨_,_,_,_,_,_,_,_,_,_,_,_,_,_,rfl,rq0 _,rq0 _⟩
theorem rW (h:oO V v s):∃b p n c u y z d q m e D E F,v=dB #[gF b,yD p n c,yD u y z,gF d,yD q m e,yD D E F,gF s.a,gF s.b]:=by obtain ⟨_,_,_,_,_,_,_,_,_,_,_,_,_,_,e,-⟩:=h;exact qxW e
theorem Lq (h:RF V v l s):∃b1 u y c1 z D E F N O Z c3 b p n c p' n' c' d q m e q' m' e',
 v=dB #[gF b1,yD u y c1,gF z,yD D E F,gF N,yD O Z c3,gF b,yD p n c,yD p' n' c',gF d,yD q m e,yD q' m' e',gF s.a,gF s.b]:=by obtain ⟨_,_,_,_,_,_,_,_,_,_,_,_,_,_,_,_,_,_,_,_,_,_,_,_,_,_,e,-⟩:=h;exact ⟨_,_,_,_,_,_,_,_,_,_,_,_,_,_,_,_,_,_,_,_,_,_,_,_,_,_,e⟩
theorem YH {k:Nat}(h:iL k l):l.1.natAbs<2^k/\l.2.1.natAbs<2^k/\l.2.2.natAbs<2^k:=by have e:∀{x:Int},Sz k (x:Rat)->x.natAbs<2^k:=λh=>by{have:=h.1;rwa [Qh2] at this};exact ⟨e h.1,e h.2.1,e h.2.2⟩
theorem bd_szl (h:iL 1000 l):Bd l:=YH (k:=1000) h
theorem ni (z w:Int){q:OA}{c m e:Nat}(F:RD V p n c (ah z.natAbs))(N:RD V q m e (ah w.natAbs))(hm:(ah z.natAbs).length<=2^40)(E:(ah w.natAbs).length<=2^40):À 141 #[dB #[gF (decide (z<0)),yD p n c],dB #[gF (decide (w<0)),yD q m e]] V λr W=>r=Ô .i64 (z-w).sign:=by refine D0 V _ λa b=>(jX w ra).s ?_;rintro r V2 d ⟨f,g,h,rfl,i⟩;refine qyK ⟨rfl,λj k=>(yf z (-w) ra ra hm (by rw [Ů];exact E)).s ?_⟩;rintro r l o ⟨s,t,u,rfl,v⟩;refine qyK ⟨rfl,λx y=>(oY _ ra).s λr A B rfl=>⟨_,rfl,λC D=>by rw [Int.sub_eq_add_neg]⟩⟩
def iQ (l m:L3):Int:=if (l.1-m.1).sign≠0 then (l.1-m.1).sign else if (l.2.1-m.2.1).sign≠0 then (l.2.1-m.2.1).sign else (l.2.2-m.2.2).sign
theorem te:iQ l m=0↔l=m:=by have e:∀{a b:Int},(a-b).sign=0↔a=b:=λ{a b}=>by{rw [Qc0];omega};unfold iQ;constructor;{intro h;by_cases c:(l.1-m.1).sign=0;{rw [Ã (by simpa using c)] at h;by_cases d:(l.2.1-m.2.1).sign=0;{rw [Ã (by simpa using d)] at h;exact Prod.ext (e.1 c) (Prod.ext (e.1 d) (e.1 h))};rw [Ä d] at h;exact Å h d};rw [Ä c] at h;exact Å h c};rintro rfl;simp
theorem fS (O:RL V v l.1 l.2.1 l.2.2)(hm:RL V w m.1 m.2.1 m.2.2)(sl:iL k l)(sm:iL k m)(N:k<=2^40:=by omega):À 81 #[v,w] V λr W=>r=Ô .i64 (iQ l m):=by have ⟨d1,d2,d3⟩:=sl.ah N;have ⟨a,b,c⟩:=sm.ah N;obtain ⟨_,_,_,_,_,_,_,_,_,rfl,d,e,f⟩:=O;obtain ⟨_,_,_,_,_,_,_,_,_,rfl,g,i,j⟩:=hm;refine Jd V _ λn o=>(ni _ _ ra ra d1 a).s ?_;rintro r V2 p rfl;unfold iQ;refine ⟨_,rfl,λh q s=>?_,λh t u=>(ni _ _ ra ra d2 b).s ?_⟩;{rw [bne_iff_ne] at h;rw [Ä h]};rw [bne_eq_false_iff_eq] at h;rw [Ã (by rw [h];decide)];rintro r x y rfl;refine ⟨_,rfl,λh z A=>?_,λh B C=>(ni _ _ ra ra d3 c).s ?_⟩;{rw [bne_iff_ne] at h;rw [Ä h]};rw [bne_eq_false_iff_eq] at h;rw [Ã (by rw [h];decide)];rintro r D E rfl;exact ⟨_,rfl,λF G=>rfl⟩
theorem Ka:(iQ l m==(0:Int))=decide (l=m):=by by_cases h:l=m;{rw [Ç h,Ë];exact te.2 h};rw [È h,beq_eq_false_iff_ne];exact λe=>h (te.1 e)
def JD (u:Value):Prop:=u=.agg #[.bool false,.slice none 0 0,.slice none 0 0,.bool false,.slice none 0 0,.slice none 0 0]
theorem IA {l m:L3}(hl:RL V v l.1 l.2.1 l.2.2)(hm:RL V w m.1 m.2.1 m.2.2)(sl:iL k l)(sm:iL k m)(hk:20*k+20<2^38:=by omega):À 29 #[v,w] V λr W=>∃u,r=ê #[u,gF (decide (Ý l m≠0))]/\(Ý l m=0->JD u)/\(Ý l m≠0->RP W u (PE l m) (PF l m)):=by have e0:((l.1:Int):Rat)*((m.2.1:Int):Rat)-((m.1:Int):Rat)*((l.2.1:Int):Rat)=Ý l m:=by{unfold Ý;grind};have e1:((l.2.1:Int):Rat)*((m.2.2:Int):Rat)-((m.2.1:Int):Rat)*((l.2.2:Int):Rat)=((l.2.1:Rat)*(m.2.2:Rat))-((l.2.2:Rat)*(m.2.1:Rat)):=χ;have e2:((m.1:Int):Rat)*((l.2.2:Int):Rat)-((l.1:Int):Rat)*((m.2.2:Int):Rat)=((l.2.2:Rat)*(m.1:Rat))-((l.1:Rat)*(m.2.2:Rat)):=χ;obtain ⟨a,b,e⟩:=sl;obtain ⟨f,g,i⟩:=sm;obtain ⟨_,_,_,_,_,_,_,_,_,rfl,a1,a2,a3⟩:=hl;obtain ⟨_,_,_,_,_,_,_,_,_,rfl,b1,b2,b3⟩:=hm;refine Fx V _ λV1 l1=>(cD (a1.le l1) a ω).s ?_;rintro r V2 l2 x;obtain ⟨_,_,_,_,_,_,rfl⟩:=x.shape;refine qxQ ⟨rfl,λV3 l3=>(cD (b2.le au) g ω).s ?_⟩;rintro r V4 l4 y;obtain ⟨_,_,_,_,_,_,rfl⟩:=y.shape;refine qxQ ⟨rfl,λV5 l5=>(bH (x.le au) (y.le l5) a g ω).s ?_⟩;rintro r V6 l6 z;obtain ⟨_,_,_,_,_,_,rfl⟩:=z.shape;refine qxQ ⟨rfl,λV7 l7=>(cD (b1.le au) f ω).s ?_⟩;rintro r V8 l8 A;obtain ⟨_,_,_,_,_,_,rfl⟩:=A.shape;refine qxQ ⟨rfl,λV9 l9=>(cD (a2.le au) b ω).s ?_⟩;rintro r eV a0 B;obtain ⟨_,_,_,_,_,_,rfl⟩:=B.shape;refine qxQ ⟨rfl,λeW cU=>(bH (A.le au) (B.le cU) f b ω).s ?_⟩;rintro r gC dI C;obtain ⟨_,_,_,_,_,_,rfl⟩:=C.shape;refine qxQ ⟨rfl,λiI dS=>(iB (z.le au) (C.le dS) (a.mul g) (f.mul b)).s ?_⟩;rintro r kK fH d;rw [e0] at d;obtain ⟨_,_,_,_,_,_,rfl,D,-⟩:=id d;have sD:Sz (4*k+3) (((l.1:Int):Rat)*((m.2.1:Int):Rat)-((m.1:Int):Rat)*((l.2.1:Int):Rat)):=Sz.s ((a.mul g).sub (f.mul b)) ω;rw [e0] at sD;refine qxQ ⟨rfl,λke fB=>(sZ _ (D.le fB)).s ?_⟩;rintro r kf e_ rfl;refine ⟨_,rfl,λj lu gX=>?_,λj=>?_⟩;{rw [Ë,gP] at j;rw [j];exact ⟨_,rfl,λ_=>rfl,λh=>Å rfl h⟩};rw [beq_eq_false_iff_ne,ne_eq,gP] at j;rw [Ç j];have E:¬(Ý l m).num=0:=λh=>j (ş.1 h);intro lu gX;have M0:=(l1.m (l2.m (l3.m (l4.m (l5.m (l6.m (l7.m (l8.m (l9.m (a0.m (cU.m (dI.m (dS.m (fH.m (fB.m (e_.m gX))))))))))))))));replace d:=d.le (fB.m (e_.m gX));refine (cD (a2.le M0) b ω).s ?_;rintro r mD gj F;obtain ⟨_,_,_,_,_,_,rfl⟩:=F.shape;refine qxQ ⟨rfl,λnf je=>(cD (b3.le au) i ω).s ?_⟩;rintro r kg il G;obtain ⟨_,_,_,_,_,_,rfl⟩:=G.shape;refine qxQ ⟨rfl,λqC nQ=>(bH (F.le au) (G.le nQ) b i ω).s ?_⟩;rintro r qN lZ H;obtain ⟨_,_,_,_,_,_,rfl⟩:=H.shape;refine qxQ ⟨rfl,λqD l_=>(cD (b2.le au) g ω).s ?_⟩;rintro r Aa nt I;obtain ⟨_,_,_,_,_,_,rfl⟩:=I.shape;refine qxQ ⟨rfl,λA8 uV=>(cD (a3.le au) e ω).s ?_⟩;rintro r MD Bj J;obtain ⟨_,_,_,_,_,_,rfl⟩:=J.shape;refine qxQ ⟨rfl,λMQ yF=>(bH (I.le au) (J.le yF) g e ω).s ?_⟩;rintro r Wx KI K;obtain ⟨_,_,_,_,_,_,rfl⟩:=K.shape;refine qxQ ⟨rfl,λYV H5=>(iB (H.le au) (K.le H5) (b.mul i) (g.mul e)).s ?_⟩;rintro r SH MJ c;rw [e1] at c;obtain ⟨_,_,_,_,_,_,rfl⟩:=c.shape;have sX:Sz (4*k+3) (((l.2.1:Rat)*(m.2.2:Rat))-((l.2.2:Rat)*(m.2.1:Rat))):=by{rw [<-e1];exact Sz.s ((b.mul i).sub (g.mul e)) ω};have M1:=(M0.m (gj.m (je.m (il.m (nQ.m (lZ.m (l_.m (nt.m (uV.m (Bj.m (yF.m (KI.m (H5.m MJ)))))))))))));replace d:=d.le (gj.m (je.m (il.m (nQ.m (lZ.m (l_.m (nt.m (uV.m (Bj.m (yF.m (KI.m (H5.m MJ))))))))))));refine qxQ ⟨rfl,λZ_ q=>(cD (b1.le (M1.m q)) f ω).s ?_⟩;rintro r a5 L M;obtain ⟨_,_,_,_,_,_,rfl⟩:=M.shape;refine qxQ ⟨rfl,λV_ s=>(cD (a3.le (M1.m (q.m (L.m s)))) e ω).s ?_⟩;rintro r a6 N O;obtain ⟨_,_,_,_,_,_,rfl⟩:=O.shape;refine qxQ ⟨rfl,λa7 t=>(bH (M.le (s.m (N.m t))) (O.le t) f e ω).s ?_⟩;rintro r Wy ML P;obtain ⟨_,_,_,_,_,_,rfl⟩:=P.shape;refine qxQ ⟨rfl,λa8 Q=>(cD (a1.le (M1.m (q.m (L.m (s.m (N.m (t.m (ML.m Q)))))))) a ω).s ?_⟩;rintro r a9 Px R;obtain ⟨_,_,_,_,_,_,rfl⟩:=R.shape;refine qxQ ⟨rfl,λb0 S=>(cD (b3.le (M1.m (q.m (L.m (s.m (N.m (t.m (ML.m (Q.m (Px.m S)))))))))) i ω).s ?_⟩;rintro r Wa Wn T;obtain ⟨_,_,_,_,_,_,rfl⟩:=T.shape;refine qxQ ⟨rfl,λb4 U=>(bH (R.le (S.m (Wn.m U))) (T.le U) a i ω).s ?_⟩;rintro r b5 n W;obtain ⟨_,_,_,_,_,_,rfl⟩:=W.shape;refine qxQ ⟨rfl,λb6 XO=>(iB (P.le (Q.m (Px.m (S.m (Wn.m (U.m (n.m XO))))))) (W.le XO) (f.mul e) (a.mul i)).s ?_⟩;rintro r b7 X o;rw [e2] at o;obtain ⟨_,_,_,_,_,_,rfl⟩:=o.shape;have sY:Sz (4*k+3) (((l.2.2:Rat)*(m.1:Rat))-((l.1:Rat)*(m.2.2:Rat))):=by{rw [<-e2];exact Sz.s ((f.mul e).sub (a.mul i)) ω};replace d:=d.le (q.m (L.m (s.m (N.m (t.m (ML.m (Q.m (Px.m (S.m (Wn.m (U.m (n.m (XO.m X)))))))))))));replace c:=c.le (q.m (L.m (s.m (N.m (t.m (ML.m (Q.m (Px.m (S.m (Wn.m (U.m (n.m (XO.m X)))))))))))));refine qxQ ⟨rfl,λb8 Zv=>(jo (c.le Zv) (d.le Zv) E sX sD ω).s ?_⟩;rintro r b9 Y gr;obtain ⟨_,_,_,_,_,_,rfl⟩:=gr.shape;refine qxQ ⟨rfl,λc0 p=>(jo (o.le (Zv.m (Y.m p))) (d.le (Zv.m (Y.m p))) E sY sD ω).s ?_⟩;rintro r c1 a4 gs;obtain ⟨_,_,_,_,_,_,rfl⟩:=gs.shape;exact qxQ ⟨rfl,λc2 Z=>⟨_,rfl,λh=>Å h j,λ_=>⟨_,_,_,_,_,_,_,_,_,_,_,_,rfl,gr.le (p.m (a4.m Z)),gs.le Z⟩⟩⟩
def Kh:L3:=(0,0,0)
def Wf (a b:L3):Int:=iQ a b
theorem wb:iQ a b<0↔(a.1<b.1\/a.1=b.1/\(a.2.1<b.2.1\/a.2.1=b.2.1/\a.2.2<b.2.2)):=by have s:∀{x y:Int},(x<y/\(x-y).sign=-1)\/(x=y/\(x-y).sign=0)\/(y<x/\(x-y).sign=1):=χ;unfold iQ;grind
theorem UR:Ř Wf:=⟨λa b h=>by unfold Wf at *;rw [wb] at *;omega,λa b d h c=>by unfold Wf at *;rw [wb] at *;omega⟩
theorem K1:RH [ç (a.1:Rat) (b.1:Rat),ç (a.2.1:Rat) (b.2.1:Rat),ç (a.2.2:Rat) (b.2.2:Rat)]=iQ a b:=by have e:∀x y:Int,ç (x:Rat) (y:Rat)=(x-y).sign:=λx y=>by{unfold ç;rw [<-Wj4,Qh2]};rw [e,e,e];unfold iQ;generalize (a.1-b.1).sign=x;generalize (a.2.1-b.2.1).sign=y;generalize (a.2.2-b.2.2).sign=z;simp only [RH];grind
def qe (V:Ó)(v:Value)(c:L3):Prop:=xM V v c.1 c.2.1 c.2.2/\Bd c
theorem qe.le {V V':ut}{c:L3}(h:qe V v c)(l:V.Le V'):qe V' v c:=⟨h.1.le l,h.2⟩
theorem qe.shape {c:L3}(h:qe V v c):∃(x y:Int)(p:OA)(u z:Int)(D:OA)(xc E:Int)(F:OA),v=dB #[Ô .i64 x,Ô .i64 y,Õ p,Ô .i64 u,Ô .i64 z,Õ D,Ô .i64 xc,Ô .i64 E,Õ F]:=by obtain ⟨⟨a,b,p,d,f,q,g,i,r,e,-⟩,-⟩:=h;exact ⟨_,_,_,_,_,_,_,_,_,e⟩
theorem M6 (h:qe V v a)(u:qe V w b):À 154 #[v,w] V λr W=>r=Ô .i64 (Wf a b):=by obtain ⟨s1,s2,s3⟩:=h.2.sz;obtain ⟨t1,t2,t3⟩:=u.2.sz;refine (xZ h.1 u.1 s1 s2 s3 t1 t2 t3).s ?_;rintro r c d rfl;rw [K1];rfl
def eL (a b:L3):Bool:=decide (a=b)
theorem Tk (h:qe V v a)(u:qe V w b):À 156 #[v,w] V λr W=>r=gF (eL a b):=by obtain ⟨s1,s2,s3⟩:=h.2.sz;obtain ⟨t1,t2,t3⟩:=u.2.sz;refine (zw h.1 u.1 s1 s2 s3 t1 t2 t3).s ?_;rintro r g i rfl;unfold eL;congr 1;refine É.2 ⟨λ⟨c,d,f⟩=>Prod.ext (Qh1.1 c) (Prod.ext (Qh1.1 d) (Qh1.1 f)),λe=>by rw [e];exact ⟨rfl,rfl,rfl⟩⟩
end Go.Proofs.Tryz
namespace Go.Eng
open Go.Proofs Go.Shelf Go.RowKit Go.Lib Go.Sort
def YO {τ:Type}(R:Ó->Value->τ->Prop)(k:Nat)(V:Ó):Type:={p:List Value×τ // R V (.agg p.1.toArray) p.2/\p.1.length=k/\∀x∈p.1,x.oneCell'=true}
theorem HZ {w w':World}(h:kI (λ_=>False) w w'):∃q os,w'=grow (w.drewN q) os:=by refine ⟨w'.drawn-w.drawn,w'.heap.extract w.heap.size w'.heap.size,?_⟩;obtain ⟨a,k,dr,os,out⟩:=w';have b:=h.os;have c:=h.tape;have d:=h.out;have e:=h.dr;have f:=h.size;have g:=h.aX;dsimp only at b c d e f g;subst b c d;have i:a=w.heap++a.extract w.heap.size a.size:=χ;have j:dr=w.drawn+(dr-w.drawn):=ω;show (⟨a,w.tape,dr,w.os,w.output⟩:World)=⟨w.heap++a.extract w.heap.size a.size,w.tape,w.drawn+(dr-w.drawn),w.os,w.output⟩;rw [<-i,<-j]
def uT {α:Type}[Inhabited α](enc:α->zA un)(k:Nat)(w:World)(b off m:Nat)(d:Array α)(os:Array Obj)(i:Nat)(hi:i<w.heap.size):(sortWorldK enc k w b off m d os).heap[i]?=if b=i then (w.heap[i]?).map (onCells (putCells id off (flatK enc k d))) else w.heap[i]?:=by show (((w.heap.modify b (onCells (putCells id off (flatK enc k d))))++os))[i]?=_;rw [Array.getElem?_append,Ä (by rw [Array.size_modify];exact hi),Array.getElem?_modify]
def TT {α:Type}[Inhabited α](enc:α->zA un)(k:Nat)(y:∀x,(enc x).length=k)(d:Array α)(vs:zA un)(z:d.size*k<=vs.length)(i:Nat)(hi:i<d.size)(j:Nat)(x:un)(u:(enc d[i]!)[j]?=some x):(putCells id 0 (flatK enc k d) vs.toArray).toList[i*k+j]?=some x:=by have c:j<k:=by{have:=(Ī.1 u).1;rw [y] at this;exact this};have lt:i*k+j<d.size*k:=by{have:=ć k (show i+1<=d.size from hi);rw [ĕ,ŗ] at this;omega};have a:(i*k+j)/k=i:=(blk_iff k i _ ω).1 Ź;have b:(i*k+j)%k=j:=by{rw [Nat.mod_eq_sub_div_mul,a];omega};unfold putCells;rw [Array.getElem?_toList,Array.getElem?_mapIdx,List.getElem?_toArray,ô ω,Ww9,Ä ⟨å _,by rw [size_flatK];omega⟩,Wk7,get_flatK _ _ _ _ lt,a,b];rw [Wq5,u];rfl
variable{P:Program}{ρ:Ren}{τ:Type}{R:Ó->Value->τ->Prop}{k g:Nat}{ty:TypeId}{cf:τ->τ->Int}
set_option maxHeartbeats 1000000 in
theorem Ok (L:SlLaysF0.n6 P ρ)(aE:∀w,(isAgg (ρ.t 24)).run P w=.ok true w)(zE:∀w,(Go.sizeOf (ρ.t 24)).run P w=.ok k w)(hR:∀{V V':ut} {v a},R V v a->V.Le V'->R V' v a)(hS:∀{V:ut} {v a},R V v a->∃xs:zA un,v=.agg xs.toArray/\xs.length=k/\∀x∈xs,x.oneCell'=true)(hO:SWO λx y=>decide (cf x y<0))(hc:∀{V:ut} {v w a b},R V v a->R V w b->aa P g #[v,w] V λr _=>r=Ô .i64 (cf a b)){V:ut}{lb n c:Nat}{vs:zA un}{l:zA τ}(hw:V.w.heap[lb]?=some (.cells vs.toArray ty (0,0)))(hx:V.X lb)(row:é k R V vs l)(hn:n=l.length)(h0:l≠[])(k0:0<k)(kS:l.length<1000000000):aa P (ρ.f 6) #[yD (some ⟨lb,0,none⟩) n c,.func (.func g) #[] #[]] V λr W=>r=ê #[]/\∃vs' l',W.w.heap[lb]?=some (.cells vs'.toArray ty (0,0))/\é k R W vs' l'/\l'.Perm l/\l'.Pairwise λx y=>¬cf y x<0:=by subst hn;have s:∀i:Fin l.length,∃e:YO R k V,e.1.2=l[i.1]/\∀j x,e.1.1[j]?=some x->vs[i.1*k+j]?=some x:=λi=>by{have ⟨xs,J,O,Z⟩:=row.at_ i.1 i.2;have ⟨ys,f1,f2,f3⟩:=hS O;have:xs=ys:=List.toArray_inj (Value.agg.inj f1);subst this;exact ⟨⟨(xs,l[i.1]),O,f2,f3⟩,rfl,Z⟩};obtain ⟨K,-,-⟩:=s ⟨0,(Qh6.2 h0)⟩;letI:Inhabited (YO R k V):=⟨K⟩;let enc:YO R k V->zA un:=λe=>e.1.1;have I:∀x,(enc x).length=k:=λx=>x.2.2.1;let d:Array (YO R k V):=Array.ofFn λi=>Classical.choose (s i);have B:d.size=l.length:=Array.size_ofFn;have Q:∀i (p:i<l.length),(d[i]!)=Classical.choose (s ⟨i,p⟩):=λi p=>by{rw [getElem!_pos d i ω];exact Array.getElem_ofFn _};have d1:∀i (p:i<l.length),(d[i]!).1.2=l[i]:=λi p=>by{rw [Q i p];exact (Classical.choose_spec (s ⟨i,p⟩)).1};have d2:∀i (p:i<l.length) j x,(enc d[i]!)[j]?=some x->vs[i*k+j]?=some x:=λi p j x h=>by{rw [Q i p] at h;exact (Classical.choose_spec (s ⟨i,p⟩)).2 j x h};have E:=aJ hw;have hH:HoldsK enc k V.w lb 0 d:=λt M=>by{rw [size_flatK] at M;have Kx:t/k<l.length:=by{rw [<-B];exact Nat.div_lt_of_lt_mul (by rw [Ľ];exact M)};have hm:t%k<k:=ġ _ k0;rw [get_flatK _ _ _ _ M,č];have hg:(enc d[t/k]!)[t%k]?=some ((enc d[t/k]!)[t%k]!):=by{rw [Wq5,ô (by rw [I];exact hm)];rfl};have:=d2 _ Kx _ _ hg;rw [Nat.div_add_mod' t k] at this;unfold World.cell? World.frozen?;rw [hw];refine ⟨?_,?_⟩;{show (if (none:Option _).isSome=true then none else vs.toArray[t]?)=_;rw [Ã ψ,List.getElem?_toArray];exact this};grind};have hle:∀m (u:Array (YO R k V)) os (F:∀b,V.H b->b<(sortWorldK enc k V.w lb 0 m u os).heap.size) (X:Nat->Prop) (C:∀b,X b->V.H b),V.Le ⟨sortWorldK enc k V.w lb 0 m u os,V.H,X,F,C⟩:=λm u os F X C b o ⟨D,S⟩=>by{refine ⟨D,?_⟩;rw [uT _ _ _ _ _ _ _ _ _ (aJ S),Ã (show ¬lb=b from λe=>D (e▸V.hX _ hx))];exact S};have G:∀m (u:Array (YO R k V)) os,V.w.heap.size<=(sortWorldK enc k V.w lb 0 m u os).heap.size:=λm u os=>size_sortWorldK_c ..;have hC:CmpLays P g #[] enc k (λx y=>cf x.1.2 y.1.2) lb 0 d.size V.w:=λm os u _ x y=>by{have T:∀b,V.H b->b<(sortWorldK enc k V.w lb 0 m u os).heap.size:=λb D=>ł (V.hH b D) (G m u os);have:=(hc (hR x.2.1 (hle m u os T (λ_=>False) λ_ h=>h.elim)) (hR y.2.1 (hle m u os T (λ_=>False) λ_ h=>h.elim))).2;refine this.s ?_<;>grind [HZ]};have Ss:SWO (ltOf λ(x y:YO R k V)=>cf x.1.2 y.1.2):=⟨λx=>hO.irrefl _,λx y z=>hO.2 _ _ _,λx y z=>hO.3 _ _ _⟩;rw [<-B];refine ⟨?_,(AnyQ.slices_SortFunc L k aE zE enc I (λx=>x.2.2.2) (λx y=>cf x.1.2 y.1.2) Ss g #[] lb 0 c d V.w (λargs w=>iK.run (hc K.2.1 K.2.1).1 args) hC hH E ω).s ?_⟩;{obtain ⟨nm,F,C⟩:=L.f6;exact ⟨_,C,rfl,F⟩};rintro e w' ⟨rfl,A,q,os,hp,hs,rfl⟩;obtain ⟨p1,-,U⟩:=hp;have W:=p1.m B;refine ⟨_,rfl,⟨G _ _ _,λb D hX=>?_,rfl,rfl,rfl,Qr6 _ _⟩,rfl,(putCells id 0 (flatK enc k A) vs.toArray).toList,A.toList.map λx=>x.1.2,?_,⟨λi p=>?_⟩,?_,?_⟩;{rw [uT _ _ _ _ _ _ _ _ _ D,Ã (show ¬lb=b from λe=>hX (e▸hx))]};{show (sortWorldK enc k V.w lb 0 q A os).heap[lb]?=_;rw [uT _ _ _ _ _ _ _ _ _ E,Ä rfl,hw,Array.toArray_toList];rfl};{rw [Č,Wx1] at p;refine ⟨enc A[i]!,I _,?_,λj x hx=>TT enc k I A vs (by rw [W];exact (row.eX k0)) i p j x hx⟩;rw [Qr8,Qr4,getElem!_pos A i p];exact hR A[i].2.1 (hle q A os _ V.X V.hX)};{have J:∀a:Array (YO R k V),a.size=l.length->a.extract 0 d.size=a:=λa ha=>by{rw [B,<-ha];simp};rw [J _ W,J _ B] at U;have p4:=U.map λx=>x.1.2;have:d.toList.map (λx=>x.1.2)=l:=List.ext_getElem (by simp [B]) λi F C=>by{rw [Qr8,Qr4,<-getElem!_pos d i ω];exact d1 i C};rwa [this] at p4};refine Qv6.2 λi j p Y N=>?_;rw [Č,Wx1] at p Y;have:=hs i j (å _) N ω;rw [Qr8,Qr8,Qr4,Qr4,<-getElem!_pos A i p,<-getElem!_pos A j Y];exact Â this
end Go.Eng
namespace Go.Proofs.Tryz
open Go.Eng Go.Proofs Go.Shelf Go.RowKit Go.Lib Go.Sort
def Ř.swo {τ:Type}{c:τ->τ->Int}(h:Ř c):SWO λx y=>decide (c x y<0):=
 ⟨λx=>È (h.refl x),λx y z a b=>Ç (Decidable.byContradiction λn=>h.tr _ _ _ n (h.asy _ _ (Á b)) (Á a)),
  λx y z a b=>È (h.tr _ _ _ (Â a) (Â b))⟩
variable{P:Program}{ρ:Ren}{τ:Type}{R:Ó->Value->τ->Prop}{k g:Nat}{ty:TypeId}{cf:τ->τ->Int}
theorem tM (L:SlLaysF0.n6 P ρ){V:ut}{p:OA}{c:Nat}{u:un}:aa P (ρ.f 6) #[yD p 0 c,u] V λr W=>r=ê #[]/\W=V:=by refine ⟨?_,(AnyF.slices_SortFunc_none L p c u V.w).s ?_⟩;{obtain ⟨d,a,b⟩:=L.f6;exact ⟨_,b,rfl,a⟩};rintro e g ⟨rfl,rfl⟩;exact ⟨_,rfl,kI.refl _ _,rfl,rfl⟩
theorem Du (L:SlLaysF0.n6 P ρ)(D:∀w,(isAgg (ρ.t 24)).run P w=.ok true w)(E:∀w,(Go.sizeOf (ρ.t 24)).run P w=.ok k w)(F:∀{V V':ut} {v a},R V v a->V.Le V'->R V' v a)(N:∀{V:ut} {v a},R V v a->∃xs:zA un,v=.agg xs.toArray/\xs.length=k/\∀x∈xs,x.oneCell'=true)(O:Ř cf)(Z:∀{V:ut} {v w a b},R V v a->R V w b->aa P g #[v,w] V λr _=>r=Ô .i64 (cf a b))(k0:0<k){V:ut}{lb n c:Nat}{vs:zA un}{l:zA τ}(hw:V.w.heap[lb]?=some (.cells vs.toArray ty (0,0)))(hx:V.X lb)(row:é k R V vs l)(z:n=l.length)(kS:l.length<1000000000:=by omega):aa P (ρ.f 6) #[yD (some ⟨lb,0,none⟩) n c,.func (.func g) #[] #[]] V λr W=>r=ê #[]/\∃u l',W.w.heap[lb]?=some (.cells u.toArray ty (0,0))/\é k R W u l'/\l'.Perm l/\l'.Pairwise λx y=>¬cf y x<0:=by by_cases d:l=[];{subst d z;refine (tM L).s ?_;rintro r V' e ⟨rfl,rfl⟩;exact ⟨rfl,vs,[],hw,row,.refl _,.nil⟩};exact Ok (R:=R) (cf:=cf) L D E F N O.swo Z hw hx row z d k0 kS
end Go.Proofs.Tryz
namespace Go.Proofs.Tryz
variable{b n:Nat}{vs:List Value}{l:List L3}{V:Ó}{p:OA}
structure Sl (V:Ó) (n:Nat) (vs:List Value) (l:List L3):Prop where
 row:é 9 qe V vs l
 len:n=l.length
 kS:l.length<4000
theorem Sl.le {V V':ut}(h:Sl V n vs l)(e:V.Le V'):Sl V' n vs l:=⟨h.row.le λ_ _ g=>qe.le g e,h.len,h.kS⟩
theorem Sl.get (h:Sl V n vs l){k:Nat}(N:k<l.length):∃(x y:Int)(p:OA)(u z:Int)(D:OA)(xc E:Int)(F:OA),((0+k*9)+9<=vs.length/\(vs.drop (0+k*9)).take 9=[Ô .i64 x,Ô .i64 y,Õ p,Ô .i64 u,Ô .i64 z,Õ D,Ô .i64 xc,Ô .i64 E,Õ F])/\qe V (dB #[Ô .i64 x,Ô .i64 y,Õ p,Ô .i64 u,Ô .i64 z,Õ D,Ô .i64 xc,Ô .i64 E,Õ F]) (l.getD k Kh):=by obtain ⟨xs,-,a,b,c⟩:=h.row.get (d:=Kh) N φ;obtain ⟨x,y,p,u,z,D,xc,E,F,e⟩:=a.shape;have e:=Æ Array.toList (Value.agg.inj e);dsimp only at e;subst e;rw [č];exact ⟨x,y,p,u,z,D,xc,E,F,⟨b,c⟩,a⟩
theorem qe.cells {v:un}{c:L3}(h:qe V v c):∃xs:zA un,v=.agg xs.toArray/\xs.length=9/\∀x∈xs,x.oneCell'=true:=by obtain ⟨_,_,_,_,_,_,_,_,_,rfl⟩:=h.shape;exact ⟨_,rfl,rfl,Į.1 rfl⟩
theorem JQ {lb c:Nat}(hw:V.w.heap[lb]?=some (.cells vs.toArray 105 (0,0)))(z:V.X lb)(h:Sl V n vs l):À 153 #[yD (some ⟨lb,0,none⟩) n c,.func (.func 154) #[] #[]] V λr W=>r=ê #[]/\∃u l',W.w.heap[lb]?=some (.cells u.toArray 105 (0,0))/\Sl W n u l'/\l'.Perm l/\l'.Pairwise λx y=>¬Wf y x<0:=by have kS:=h.kS;refine (Du (R:=qe) (cf:=Wf) G6 aggL sizL qe.le qe.cells UR M6 φ hw z h.row h.len).s λr V' b ⟨rfl,u,l',e,row,pm,a⟩=>⟨rfl,u,l',e,⟨row,h.len.m pm.length_eq.symm,by rw [pm.length_eq];exact kS⟩,pm,a⟩
theorem Ab:À 153 #[yD none 0 0,.func (.func 154) #[] #[]] V λr W=>r=ê #[]:=
 (tM G6).s λ_ _ _ h=>h.1
set_option maxHeartbeats 1000000 in
theorem BM {lb c:Nat}(hw:V.w.heap[lb]?=some (.cells vs.toArray 105 (0,0)))(hx:V.X lb)(h:Sl V n vs l)(hc:n<=c):À 155 #[yD (some ⟨lb,0,none⟩) n c,.func (.func 156) #[] #[]] V λr W=>∃vs',r=yD (some ⟨lb,0,none⟩) (gI eL l).length c/\W.w.heap[lb]?=some (.cells vs'.toArray 105 (0,0))/\é 9 qe W vs' (gI eL l)/\vs'.length=vs.length:=by
 have kS:=h.kS;have len:=h.len;have a3:=h.row.eX φ;refine oL lb n c vs V _ hw hx ⟨λC V1 l1 P=>?_,λC=>⟨λz V'=>∃k:Nat,z=((k+1:Nat):Int)/\k+1<=n/\gI eL (l.take (k+1))=l.take (k+1),λz=>n-z.toNat,⟨1,σ,0,rfl,by have:=Â C;omega,wc (by rw [ì];omega)⟩,?_⟩⟩
 ·have C:=Á C;have e:=wc (e:=eL) (l:=l);rw [e,<-len];exact ⟨vs,rfl,P,h.row.le λ_ _ g=>qe.le g l1,rfl⟩
 have C:=Â C;rintro z V2 l2 ⟨k,rfl,hk,p⟩;have N:=h.le l2;refine ⟨rfl,λb=>?_,λb V9 l9 Q=>?_⟩;rotate_left
 ·have b:=Â b;have e:l.take (k+1)=l:=ō ω;rw [e] at p;rw [p,<-len];exact ⟨vs,rfl,Q,h.row.le λ_ _ g=>qe.le g au,rfl⟩
 have b:=Á b;have w1:i64.wrap (((k+1:Nat):Int)-1)=(k:Int):=by rw [aq ω];omega
 have w2:i64.wrap (((k+1:Nat):Int)+1)=((k+1+1:Nat):Int):=by rw [aq ω];rfl
 rw [w1,w2,ß,ß];have ⟨D,E,F,G,H,I,J,K,f,O,r1⟩:=N.get (k:=k+1) ω;have ⟨R,S,T,U,W,Y,v,x,y,Z,r2⟩:=N.get (k:=k) ω;refine ⟨⟨ω,b⟩,D,E,F,G,H,I,J,K,f,O,Ź,R,S,T,U,W,Y,v,x,y,Z,λV3 l3=>(Tk ra ra).s ?_⟩;rintro r V4 l4 rfl;have step:=lj (e:=eL) (d:=Kh) (l:=l) (k:=k);refine ⟨_,rfl,λhe=>⟨Ź,?_⟩,λhe=>⟨((k+1+1:Nat):Int),ω,σ,k+1,rfl,ω,?_⟩⟩;rotate_left
 ·have s:=he;rw [step,p,s];show l.take (k+1)++[_]=_;have L:k+1<l.length:=ω;rw [show l.getD (k+1) Kh=l[k+1] by rw [ě,ô L];rfl,Ŏ L]
 have s:=he;have so:∀{m:Nat},m<c->qL 0 c m 9=m*9:=λhm=>by unfold qL;rw [Ã ω,č]
 refine ⟨λz V'=>∃(q t:Nat)(m:zA L3),z.1=(q:Int)/\z.2.1=((t+1:Nat):Int)/\q<=k+1+t/\k+1+t+1<=n/\Sl V' n z.2.2 m/\z.2.2.length=vs.length/\(∀i,k+1+t<=i->m.getD i Kh=l.getD i Kh)/\m.take q=gI eL (l.take (k+1+t+1)),λz=>n-z.2.1.toNat,
  ⟨(((k+1:Nat):Int),1,vs),σ,k+1,0,l,rfl,rfl,ω,ω,ra,rfl,λi _=>rfl,?_⟩,?_⟩
 ·rw [ğ,step,s,Ä rfl,ý,p]
 rintro ⟨zq,zt,us⟩ V5 l5 ⟨q,t,m,e1,e2,hq,ht,u,Rm,hm,M⟩;dsimp only at e1 e2 u Rm;subst e1 e2;dsimp only;have ml:=u.len;have a4:=u.row.eX φ;refine ⟨rfl,λa=>?_,λa=>?_⟩
 ·have a:=Á a;have w3:i64.wrap (((t+1:Nat):Int)-1)=(t:Int):=by{rw [aq ω];omega};have w4:i64.wrap (((t+1:Nat):Int)+1)=((t+1+1:Nat):Int):=by{rw [aq ω];rfl};have w5:i64.wrap ((q:Int)+1)=((q+1:Nat):Int):=by{rw [aq ω];rfl};rw [w3,w4,w5,ß,ß,ß,so ω];have ⟨D,E,F,G,H,I,J,K,f,O,r1⟩:=u.get (k:=k+1+(t+1)) ω;have ⟨R,S,T,U,W,Y,v,x,y,Z,r2⟩:=u.get (k:=k+1+t) ω;have a1:(k+1)*9+(t+1)*9=0+(k+1+(t+1))*9:=ω;have a2:(k+1)*9+t*9=0+(k+1+t)*9:=ω;rw [a1,a2];rw [hm _ ω] at r1;rw [hm _ ω] at r2;refine ⟨⟨ω,a⟩,D,E,F,G,H,I,J,K,f,O,Ź,R,S,T,U,W,Y,v,x,y,Z,λV6 l6=>(Tk ra ra).s ?_⟩;rintro r V7 l7 rfl;have Zw:=l6.m l7;have j:=lj (e:=eL) (d:=Kh) (l:=l) (k:=k+1+t);refine ⟨_,rfl,λhn=>⟨⟨ω,a⟩,D,E,F,G,H,I,J,K,f,O,Ź,ω,(((q+1:Nat):Int),((t+1+1:Nat):Int),_),ω,σ,q+1,t+1,m.set q (l.getD (k+1+(t+1)) Kh),rfl,rfl,ω,ω,?_,?_,λi L=>?_,?_⟩,λhn=>⟨(((q:Nat):Int),((t+1+1:Nat):Int),us),ω,σ,q,t+1,m,rfl,rfl,ω,ω,ra,Rm,λi L=>hm i ω,?_⟩⟩;{refine ⟨?_,by rw [Qf6];exact ml,by rw [Qf6];exact u.kS⟩;have:=(u.le Zw).row.put (i:=q) ω φ (xs:=[Ô .i64 D,Ô .i64 E,Õ F,Ô .i64 G,Ô .i64 H,Õ I,Ô .i64 J,Ô .i64 K,Õ f]) rfl ra;dsimp only;rw [č];exact this};{exact (rY (vs:=us) (xs:=[Ô .i64 D,Ô .i64 E,Õ F,Ô .i64 G,Ô .i64 H,Õ I,Ô .i64 J,Ô .i64 K,Õ f]) (o:=0+q*9) (by show 0+q*9+9<=_;omega)).m Rm};{rw [ě,Qm2 ω,<-ě];exact hm i ω};{have A:eL (l.getD (k+1+(t+1)) Kh) (l.getD (k+1+t) Kh)=false:=by{simpa using hn};have B:eL (l.getD (k+1+t+1) Kh) (l.getD (k+1+t) Kh)=false:=A;have L:q<m.length:=ω;rw [show k+1+(t+1)+1=k+1+t+2 from rfl,j,B,<-M,Ã φ];rw [Qp8,ĳ,ô L,show (some m[q]).toList=[m[q]] from rfl];rw [List.set_append_right _ _ (by rw [ì];omega),ì,Ħ ω,Nat.sub_self];rfl};have A:eL (l.getD (k+1+(t+1)) Kh) (l.getD (k+1+t) Kh)=true:=by{simpa using hn};have B:eL (l.getD (k+1+t+1) Kh) (l.getD (k+1+t) Kh)=true:=A;rw [show k+1+(t+1)+1=k+1+t+2 from rfl,j,B,Ä rfl,ý,M]
 ·have a:=Â a;have hl:l.take (k+1+t+1)=l:=ō ω;rw [hl] at M;have a5:q<n:=by{have:=Pk (e:=eL) (d:=Kh) (l:=l) (k:=k) ω s;rw [<-M,ì] at this;omega};rw [ß,so ω];have hz:q*9+(n-q)*9=n*9:=by{rw [<-ĕ];congr 1;omega};rw [hz];refine ⟨Ź,ω,Ź,λV8 l8 a0=>⟨_,?_,a0,?_,?_⟩⟩;{rw [<-M,ì,Ħ ω]};{rw [<-M,Ě];exact (u.row.le λ_ _ g=>qe.le g l8).Ph ω φ};simp only [ï,ì,į,pZ,Wx0,Wy3,List.sum_replicate_nat,Ĉ,ĺ];omega
theorem uH:À 155 #[yD none 0 0,.func (.func 156) #[] #[]] V λr W=>r=yD none 0 0:=
 kZ V _ ⟨λ_ a b=>rfl,λh=>Å (Â h) φ⟩
def JA (m:Nat):Prop:=(m=0->∀{V:Ó},À 155 #[.slice none 0 0,.func (.func 156) #[] #[]] V λr W=>r=.slice none 0 0) /\
 ∀{V:Ó} {lb n c:Nat} {vs:List Value} {l:List L3},l.length=m->V.w.heap[lb]?=some (.cells vs.toArray 105 (0,0))->V.X lb->Sl V n vs l->n<=c ->
 À 155 #[.slice (some ⟨lb,0,none⟩) n c,.func (.func 156) #[] #[]] V λr W=>∃u,r=.slice (some ⟨lb,0,none⟩) (gI eL l).length c/\W.w.heap[lb]?=some (.cells u.toArray 105 (0,0))/\é 9 qe W u (gI eL l)/\u.length=vs.length
theorem Y3 (m:Nat):JA m:=⟨λ_=>uH,λ_ hw a h b=>BM hw a h b⟩
def Hl (m:Nat):Prop:=∀{V:Ó} {lb n c:Nat} {vs:List Value} {l:List L3},l.length=m->V.w.heap[lb]?=some (.cells vs.toArray 105 (0,0))->V.X lb->Sl V n vs l ->
 À 153 #[.slice (some ⟨lb,0,none⟩) n c,.func (.func 154) #[] #[]] V λr W=>r=.tuple #[]/\∃u l',W.w.heap[lb]?=some (.cells u.toArray 105 (0,0))/\Sl W n u l'/\l'.Perm l/\l'.Pairwise λx y=>¬Wf y x<0
theorem Vs (m:Nat):Hl m:=λ_ hw a h=>JQ hw a h
theorem KJ {P:Prop}(h:P->V.H b):V.Le (V.shut.bq P b):=λx o g=>⟨λa=>by
 rcases a with a|a
 ·exact g.1 a
 ·rw [a.2.1] at g;exact g.1 (h a.1),g.2⟩
theorem aa.ZA {f:FuncId}{args:Array un}{R u:un->ut->Prop}(h:À f args V R)(y:∀r V',V.Le V'->(∀b,V.H b->V'.H b)->R r V'->u r V'):À f args V u:=
 ⟨h.1,h.2.s λ_ c ⟨r,he,a,d⟩=>⟨r,he,a,y r _ (V.Ue c a) (λ_ e=>e) d⟩⟩
theorem Nx {V':ut}{P:Prop}(h:V.Le (V'.bq True b)):V.Le (V'.bq P b):=λx o a=>
 ⟨λc=>(h x o a).1 (c.imp id λe=>⟨trivial,e.2⟩),(h x o a).2⟩
theorem Rk {V':ut}{P:Prop}(h:V.Le V')(n:¬P):V.Le (V'.bq P b):=λx o a=>
 ⟨λc=>(h x o a).1 (c.elim id λe=>Å e.1 n),(h x o a).2⟩
def bM (l:L3):L3:=if l.1<0\/l.1=0/\l.2.1<0 then Ö l else l
def Tr.cJ:Tr->List L3
 | .leaf _=>[]
 | .node l a b=>l::(a.cJ++b.cJ)
theorem jP:∀t:Tr,t.cJ.length=t.size
 | .leaf _=>rfl
 | .node _ a b=>by simp only [Tr.cJ,Ĉ,ï,jP a,jP b,Tr.size]
theorem jO {p:L3->Prop}:∀{t:Tr},t.dU p->∀x∈t.cJ,p x
 | .leaf _,_,x,h=>by cases h
 | .node l a b,⟨u,y,z⟩,x,h=>by
  rcases í.1 h with rfl|h
  ·exact u
  ·rcases ü.1 h with h|h
   ·exact jO y x h
   ·exact jO z x h
theorem Bd.rev {l:L3}(h:Bd l):Bd (Ö l):=by obtain ⟨a,b,c⟩:=h;unfold Bd Ö;simp only [Ů];exact ⟨a,b,c⟩
theorem Bd.can {l:L3}(h:Bd l):Bd (bM l):=by unfold bM;split;{exact h.rev};exact h
theorem Bd.eO {l:L3}(h:Bd l):iL 1000 l:=⟨h.sz.1,h.sz.2.1,h.sz.2.2⟩
theorem Pc {l:L3}:(RH [((l.1:Rat)).num.sign,((l.2.1:Rat)).num.sign]<0)↔(l.1<0\/l.1=0/\l.2.1<0):=by rw [Qh2,Qh2];simp only [RH];grind
theorem JV {v:un}{l:L3}(h:qe V v l):À 152 #[v] V λr W=>∃w b,r=ê #[w,gF b]/\qe W w (bM l):=by have f:=h;obtain ⟨⟨n,o,p,s,t,q,u,x,r,rfl,y,z,A⟩,c⟩:=h;obtain ⟨s1,s2,s3⟩:=c.sz;refine Ay V _ λB C=>(fP ra s1).s ?_;rintro r V2 D rfl;refine ⟨_,rfl,λE F=>(fP ra s2).s ?_⟩;rintro r G H rfl;refine ⟨_,rfl,λI K M d=>(JT (l:=[((l.1:Rat)).num.sign,((l.2.1:Rat)).num.sign]) rfl (λi v j=>⟨_,rfl,by rw [add_zero'];exact dK (xs:=XB [((l.1:Rat)).num.sign,((l.2.1:Rat)).num.sign]) d j⟩) ψ).s ?_⟩;rintro r N O rfl;refine ⟨_,rfl,λJ=>⟨λa P Q=>(lk (L:=l) ((f.le au).1) c.eO φ).s ?_,λa R k=>?_⟩⟩;{have a:=Pc.1 (Á a);rintro r m S g;have e:qe m r (Ö l):=⟨g,c.rev⟩;grind [e.shape,bM,e.le]};have a:=Â a;refine ⟨_,_,rfl,?_⟩;unfold bM;rw [Ã λh=>a (Pc.2 h)];exact ra
theorem one9 {a b:Int}{c d:Int}{q:OA}{e f:Int}{r:OA}:∀v∈([Ô .i64 a,Ô .i64 b,Õ p,Ô .i64 c,Ô .i64 d,Õ q,Ô .i64 e,Ô .i64 f,Õ r]:zA un),v.oneCell'=true:=by intro v hm;simp only [í,Ğ,Ì] at hm;rcases hm with rfl|rfl|rfl|rfl|rfl|rfl|rfl|rfl|rfl<;>rfl
def YK:Tr->List L3
 | .leaf _=>[]
 | .node l _ _=>[bM l]
theorem HB {V:ut}{t:Tr}{Z lb n c:Nat}{l:zA L3}(h:RT V p t)(ha:t.dU Bd)(hw:V.w.heap[Z]?=some (.cells #[yD (mA lb c) n c] 175 (0,0)))(hx:V.X Z)(hv:vs≠[]->V.w.heap[lb]?=some (.cells vs.toArray 105 (0,0)))(hxv:vs≠[]->V.X lb)(hne:vs≠[]->Z≠lb)(hg:GR 9 qe V n c vs l)(hp:vs≠[]->0<n)(hn:n<=1000000:=by omega):À 151 #[Õ p,Õ (some ⟨Z,0,none⟩)] V λr V'=>∃(bm:Nat)(vm:zA un)(n' c':Nat),(vm≠[]->V'.w.heap[bm]?=some (.cells vm.toArray 105 (0,0)))/\(vm≠[]->V.w.heap.size<=bm\/(vs≠[]/\bm=lb))/\r=ê #[]/\V'.w.heap[Z]?=some (.cells #[yD (mA bm c') n' c'] 175 (0,0))/\GR 9 qe (V'.bq (vm≠[]) bm) n' c' vm (l++YK t)/\(vm≠[]->0<n'):=by refine yU p Z lb n c vs V _ hw hx hv hxv hne λP e=>(dX (h.le e)).s ?_;rintro r V2 q rfl;have s:∀{A B:Prop},A\/B\/False->A\/B:=λh=>h.imp id λh=>h.elim id False.elim;refine ⟨_,rfl,λf=>?_,λf Q g hle k m o=>⟨g,vs,n,c,m,λh=>s (o h),rfl,k,?_,hp⟩⟩;{(cases t with|leaf i=>{cases f}|node ln a b=>{obtain ⟨u,y,z,C,D,E,F,G,H,I,pl,J,i,rfl,K,L,-,-⟩:=h.le (e.m q);have d:∀j v,([Ô .i64 y,Ô .i64 z,Õ C,Ô .i64 D,Ô .i64 E,Õ F,Ô .i64 G,Ô .i64 H,Õ I,Õ pl,Õ J,gF i]:zA un)[j]?=some v->V2.at ((⟨u,0,none⟩:Addr).add j) v:=by{intro j v hv;rw [add_zero'];exact dK (xs:=[_,_,_,_,_,_,_,_,_,_,_,_]) K hv};refine ⟨rfl,rfl,_,_,_,_,_,_,_,_,_,⟨u,0,none⟩,rfl,d 0 _ rfl,d 1 _ rfl,d 2 _ rfl,d 3 _ rfl,d 4 _ rfl,d 5 _ rfl,d 6 _ rfl,d 7 _ rfl,d 8 _ rfl,λR S=>(JV (l:=ln) ⟨ra,ha.1⟩).s ?_⟩;rintro r M T ⟨w,b,rfl,x⟩;obtain ⟨_,_,_,_,_,_,_,_,_,rfl⟩:=x.shape;refine ⟨_,_,_,_,_,_,_,_,_,_,rfl,ω,hg.le,hg.cap,rfl,one9,λsp c' N O U g hle k m o=>⟨g,_,n+1,c',m,λh=>s (o h),rfl,k,?_,λ_=>Wq6 n⟩⟩;exact ((hg.up (V':=M) au).snoc rfl x φ N O).up hle})};(cases t with|node ln a b=>{cases f}|leaf i=>{show GR 9 qe _ n c vs (l++[]);rw [ý];exact hg.up ((e.m q).m hle)})
def XS:List Tr->List L3
 | []=>[]
 | t::r=>t.cJ.map bM++XS r
theorem Uh (ts:zA Tr)(x:Tr):XS (ts++[x]).reverse=x.cJ.map bM++XS ts.reverse:=by rw [List.reverse_append];rfl
theorem xY {V:ut}{t:Tr}{ob lb:Nat}(h:RT V p t)(ha:t.dU Bd)(hs:t.size<=400000)(hw:V.w.heap[ob]?=some (.cells #[yD (mA lb 0) 0 0] 175 (0,0)))(hx:V.X ob):À 150 #[Õ p,.func (.func 151) #[] #[Õ (some ⟨ob,0,none⟩)]] V λr V'=>∃(bm:Nat)(vm:zA un)(n' c':Nat),(vm≠[]->V'.w.heap[bm]?=some (.cells vm.toArray 105 (0,0)))/\(vm≠[]->V.w.heap.size<=bm)/\r=ê #[]/\V'.w.heap[ob]?=some (.cells #[yD (mA bm c') n' c'] 175 (0,0))/\GR 9 qe (V'.bq (vm≠[]) bm) n' c' vm (t.cJ.map bM)/\(vm≠[]->0<n'):=by
 refine tR p ob lb 0 0 [] V _ hw hx (λh=>Å rfl h) (λh=>Å rfl h) (λh=>Å rfl h) ⟨λz k V'=>∃(d:zA Tr)(o:zA L3),z.1=d.length/\z.1<=z.2.1/\z.2.1<=z.2.2.1.length/\Z9 V' z.2.2.1 d/\(∀x∈d,x.dU Bd)/\GR 9 qe V' z.2.2.2.1 z.2.2.2.2.1 z.2.2.2.2.2 o/\(z.2.2.2.2.2≠[]->0<z.2.2.2.1)/\o++XS d.reverse=t.cJ.map bM/\k=MM d/\k<=2*t.size+1,
  ⟨(1,1,[Õ p],0,0,[]),2*t.size+1,⟨by and_intros<;>first|rfl|trivial|omega,[t],[],rfl,Ú _,Ú _,?_,λx hx=>by rw [ú.1 hx];exact ha,GR.nil,(λh=>Å rfl h),by simp [XS],by simp [MM],Ú _⟩⟩,?_⟩
 ·intro i x hx
  match i,hx with
  | 0,hx=>cases hx;exact ⟨p,rfl,h⟩
  | n+1,hx=>cases hx
 ·rintro ⟨n,c,vs,n',c',us⟩ m V1 l1 ⟨d,o,h1,S,T,f,D,H,e,I,h6,h7⟩;dsimp only at h1 S T f H e ⊢;have a0:=XX d
  have a6:o.length<=1000000:=by have:=Æ List.length I;rw [ï,Č,jP] at this;omega
  have gl:=H.len;refine ⟨θ,λE=>?_,λE V6 bk hle J K e3=>?_⟩
  ·have E:0<n:=by simpa using E
   have w1:i64.wrap ((n:Int)-1)=((n-1:Nat):Int):=by rw [aq ω];omega
   rw [w1];simp only [Ġ];have A:n-1<d.length:=ω
   have ⟨q,M,j⟩:=f (n-1) d[n-1] (ô A)
   have B:d=d.take (n-1)++[d[n-1]]:=by rw [Ŏ A,ō ω]
   have s:=D _ (ò A);generalize d[n-1]=x at j B s
   have J:o++(x.cJ.map bM++XS (d.take (n-1)).reverse)=t.cJ.map bM:=by rw [<-Uh,<-B];exact I
   have K:MM d=MM (d.take (n-1))+(2*x.size+1):=by
    conv=>lhs;rw [B]
    rw [CY];simp [MM]
   have F:∀y∈d.take (n-1),y.dU Bd:=λy u=>D y (ţ u);refine ⟨Ź,S,q,M,Ź,λV2 N Qz U f1 f2 f3 f4 f5=>(HB (V:=V2.ao [Qz,vb us V2.w.heap.size U]) (lb:=U) (l:=o) (RT.le (V:=V1) (V':=V2.ao _) (λb o h=>N b o h) j) s f1 ⟨ψ,f2⟩ f3 (λh=>⟨by simp [mY h],f4 h⟩) f5 (H.s (V':=V2.ao _) λ_ _ g=>qe.le g λb o h=>N b o h) e).s ?_⟩;rintro r V3 l3 ⟨bm,vm,O,P,a1,W,rfl,a3,a4,Y⟩;refine ⟨bm,vm,a1,W,rfl,O,P,a3,λV4 Z=>?_⟩;have l_:V2.Le V3:=λb o h=>l3 b o h;have fH:=N.m ((rJ (V':=V2) l_ (Ó.Le.refl V2) λh=>(W h).imp id λh'=>by rw [h'.2];exact f4 h'.1).m Z);refine (dX (j.le fH)).s ?_;rintro r V5 l5 rfl;have g5:=a4.s λ_ _ g=>qe.le g λb o h=>l5 b o (Z b o h);refine ⟨_,rfl,λC=>?_,λC=>?_⟩
   ·have C:x.rI=false:=by{simpa using C};(cases x with|leaf i=>{cases C}|node ln a b=>{obtain ⟨bb,x1,x2,x3,y1,y2,y3,z1,z2,z3,pl,pr,i,rfl,hb,hl,Q,R⟩:=j;have G:=(fH.m l5) _ _ hb;simp only [Tr.size] at K;refine ⟨rfl,rfl,pr,Ao G 10 rfl,rfl,rfl,pl,Ao G 9 rfl,ω,ω,ω,rfl,by intro v hv;simp at hv;rcases hv with rfl|rfl<;>rfl,λsp c' k1 k2=>?_⟩;(refine ⟨(n-1+2,c',_,O,P,vm),MM (d.take (n-1))+(2*a.size+1)+(2*b.size+1),ω,⟨Ÿ,d.take (n-1)++[b,a],o++YK (.node ln a b),?_,k1,?_,(f.le au).Yf ω ω (R.le au) (Q.le au),λy u=>?_,g5,Y,?_,?_,ω⟩⟩);{simp;omega};{dsimp only;simp only [ï,ì,Ĉ];omega};{rcases ü.1 u with u|u;{exact F y u};simp only [í,Ğ,Ì] at u;rcases u with rfl|rfl;{exact s.2.2};exact s.2.1};{rw [<-J];have:XS (d.take (n-1)++[b,a]).reverse=a.cJ.map bM++(b.cJ.map bM++XS (d.take (n-1)).reverse):=by{rw [List.reverse_append];rfl};rw [this];simp only [Tr.cJ,YK,Ł,œ,Ě,Qc2,Ŝ]};rw [CY];simp [MM];omega})
   ·have C:x.rI=true:=by{simpa using C};(cases x with|node ln a b=>{cases C}|leaf i=>{simp only [Tr.size] at K;(refine ⟨(n-1,c,vs,O,P,vm),MM (d.take (n-1)),ω,⟨Ÿ,d.take (n-1),o,?_,ω,T,λi t L=>?_,F,by simpa [YK] using g5,Y,by simpa [Tr.cJ] using J,rfl,ω⟩⟩);{simp;omega};rw [ķ] at L;split at L;{exact (f.le au) i t L};cases L})
  ·have E:n=0:=by{simpa using E};have:d=[]:=Ĥ.1 ω;subst this;simp only [List.reverse_nil,XS,ý] at I;rw [<-I];refine ⟨bk,us,n',c',K,λh=>?_,rfl,J,H.up hle,e⟩;rcases e3 h with h|h|h;{exact h};{exact Å rfl h.1};exact h.elim
def ZO (l m:List L3):Prop:=m.Perm l/\m.Pairwise λx y=>¬Wf y x<0
theorem JS {t:Tr}(h:RT V p t)(ha:t.dU Bd)(hs:t.size<4000)(sl:Hl t.cJ.length)(cl:JA t.cJ.length):À 94 #[Õ p] V λr W=>∃q n c m,r=yD q n c/\aZ 9 qe W q n (gI eL m)/\ZO (t.cJ.map bM) m:=by refine DL V _ ⟨λz _=>z=(0,0,[]),⟨(0,0,[]),σ,rfl⟩,?_⟩;rintro z V1 L rfl;dsimp only;refine ⟨rfl,λV2 M N B O P g3 g4 g5=>(xY (V:=V2.ao [N,vb [] V2.w.heap.size B]) (lb:=B) (RT.le (V:=V) (V':=V2.ao _) (λb o h=>M b o (L b o h)) h) ha ω O ⟨ψ,P⟩).s ?_⟩;rintro r V3 l3 ⟨Q,v,n,c,R,S,rfl,T,u,U⟩;refine ⟨Q,v,R,λh=>.inl (S h),rfl,n,c,T,λj=>?_,λj C W D E F=>?_⟩;{subst j;have X:=u.cap;have hle:=u.le;have hlen:=u.len;have Y:c=0:=by{simp at X;omega};subst Y;have Z:n=0:=ω;subst Z;have i:=Ĥ.1 hlen.symm;refine ⟨rfl,λV4 l4=>Ab.s ?_⟩;rintro r V5 l5 rfl;refine ⟨rfl,λV6 l6 We E F=>(cl.1 (by rw [<-Č (f:=bM),i];rfl)).s ?_⟩;rintro r V7 l7 rfl;refine ⟨0,[],λh=>Å rfl h,λh=>Å rfl h,none,0,0,rfl,λV8 l8 G H=>⟨_,_,_,[],rfl,aZ.nil,?_⟩⟩;rw [i];exact ⟨.refl _,List.Pairwise.nil⟩};have a:=u.s λ_ _ g=>qe.le g λb o h=>W b o h;have hlen:=a.len;have x:(t.cJ.map bM).length<4000:=by{rw [Č,jP];exact hs};have I:=a.cap;have hle:=a.le;have a0:=U j;have y:c≠0:=ω;have A:∀b,mA b c=some ⟨b,0,none⟩:=λb=>by{unfold mA;rw [Ã y]};show À _ _ _ _;rw [A];refine (sl (V:=C.ao [vb v C.w.heap.size D]) (lb:=D) (vs:=v) (l:=t.cJ.map bM) (Č ..) (E j) ⟨by simp [mY j],F j⟩ ⟨a.row.le λ_ _ g=>qe.le g λb o h=>h,hlen,x⟩).s ?_;rintro r eV a6 ⟨rfl,d,m,H,sr,pm,pw⟩;have J:=pm.length_eq;have k:d≠[]:=λe=>by{have:=sr.row.eX φ;rw [e,J,<-hlen] at this;simp at this;omega};refine ⟨rfl,j,d,k,H,λK cU s f1 f2=>?_⟩;show À _ _ _ _;rw [A];refine aa.ZA (cl.2 (V:=K.ao [vb d K.w.heap.size s]) (lb:=s) (vs:=d) (l:=m) (J.m (Č ..)) (f1 k) ⟨by simp [mY k],f2 k⟩ (sr.le λb o h=>cU b o h) hle) ?_;rintro r gC dI hH ⟨ws,rfl,e4,row,wl⟩;have hk:=ru (e:=eL) (l:=m);refine ⟨s,ws,λ_=>e4,λ_=>.inr ⟨k,rfl⟩,some ⟨s,0,none⟩,(gI eL m).length,c,by rw [A],λiI dS Hw f3=>⟨_,_,_,m,rfl,?_,pm,pw⟩⟩;exact aZ.bo f3 (row.le λ_ _ g=>qe.le g ((KJ λ_=>hH s (f2 k)).m dS)) φ ω
end Go.Proofs.Tryz
namespace Go.Proofs.Tryz.ax
def nv (l:L3)(v:V2):Rat:=(l.1:Rat)*v.1+(l.2.1:Rat)*v.2
def bj (l:L3):V2:=((l.2.1:Rat),-(l.1:Rat))
def UD (l:L3)(v:V2):nv l v=cr (bj l) v:=by unfold nv cr bj;grind
def Lu (l:L3)(p v:V2):Int:=if (aG l p.1 p.2).num.sign=0 then (nv l v).num.sign else (aG l p.1 p.2).num.sign
def pV:Tr->V2->V2->Bool×Bool
 | .leaf i,_,_=>(i,true)
 | .node l a b,p,v=>if Lu l p v=1 then pV a p v else if Lu l p v=-1 then pV b p v else (false,false)
def jS {q:Rat}:q.num.sign=0↔q=0:=by rw [Qc0,ş]
def PG {c x:Rat}(u:c>0):(c*x>0↔x>0)/\(c*x<0↔x<0)/\(c*x=0↔x=0):=by have p:x>0->c*x>0:=λh=>mp u h;have n:x<0->c*x<0:=λh=>by{have:=mp u (show -x>0 by grind);grind};have z:x=0->c*x=0:=λh=>by{rw [h];grind};refine ⟨⟨λh=>?_,p⟩,⟨λh=>?_,n⟩,⟨λh=>?_,z⟩⟩;{by_cases q:x>0;{exact q};by_cases a:x<0;{have:=n a;grind};{have:=z χ;grind}};{by_cases q:x<0;{exact q};by_cases a:x>0;{have:=p a;grind};{have:=z χ;grind}};rcases Qp6.1 h with h|h;{grind};exact h
def pX (l:L3)(p v:V2)(s:Rat):aG l (p.1+s*v.1) (p.2+s*v.2)=aG l p.1 p.2+s*nv l v:=by unfold aG nv;grind
def Ii (p v:V2)(s:Rat)(l:L3):Rat:=
 if nv l v=0\/aG l p.1 p.2=0 then s
 else if -(aG l p.1 p.2*(nv l v)⁻¹)>0/\-(aG l p.1 p.2*(nv l v)⁻¹)*(1/2)<s then -(aG l p.1 p.2*(nv l v)⁻¹)*(1/2) else s
def inv_mul {c:Rat}(h:c≠0)(a:Rat):a*c⁻¹*c=a:=by rw [Rat.mul_assoc,Rat.inv_mul_cancel _ h,Rat.mul_one]
def half (u:V2):Int:=if u.2.num.sign>0\/u.2.num.sign=0/\u.1.num.sign>0 then 1 else if u.2.num.sign<0\/u.1.num.sign<0 then 2 else 0
def fg (u v:V2):Int:=if half u<half v then -1 else if half u>half v then 1 else -(cr u v).num.sign
def qp {q:Rat}:q.num.sign>0↔q>0:=by
 have:=Wj7 (q:=-q);rw [Wx5] at this;rw [gt_iff_lt,Int.sign_pos_iff];have a:(0<=-q)↔¬q>0:=by constructor<;>intro h<;>grind
 rw [a] at this;by_cases h:q>0
 ·exact ⟨λ_=>h,λ_=>by
   have:¬0<=-q.num:=λg=>this.1 g h;omega⟩
 grind
def zS {q:Rat}:q.num.sign<0↔q<0:=by have:=@qp (-q);grind [Rat.neg_num]
theorem fu (u:V2):half u=1/\up u\/half u=2/\dn u\/half u=0/\u.1=0/\u.2=0:=by unfold half up dn;split;{rename_i h;rw [qp,qp,jS] at h;exact .inl ⟨rfl,h⟩};rename_i h;rw [qp,qp,jS] at h;split;{rename_i a;rw [zS,zS] at a;exact .inr (.inl ⟨rfl,χ⟩)};rename_i a;rw [zS,zS] at a;exact .inr (.inr ⟨rfl,χ,χ⟩)
theorem xT {u v:V2}:fg u v<0↔half u<half v\/half u=half v/\cr u v>0:=by have:=@qp (cr u v);unfold fg;grind
def iN {u v:V2}:fg u v=0↔half u=half v/\cr u v=0:=by have:=@jS (cr u v);grind [fg]
def Hq (u v:V2):fg u v<0\/fg u v=0\/fg v u<0:=by rw [xT,iN,xT];grind [tj]
def Hp (u v:V2)(h:fg u v<0):¬fg v u<0:=by grind [xT,tj]
theorem W5 {a b d:V2}(hab:half a=half b)(hbd:half b=half d)(y:cr a b<=0)(u:cr b d<=0):cr a d<=0:=by by_cases h:cr a d<=0;{exact h};exfalso;have c:cr a d>0:=χ;have r:=jac2 a d b;rcases fu b with ⟨e,g⟩|⟨e,g⟩|⟨e,g⟩;{have i:up a:=by{(rcases fu a with ⟨f,h⟩|⟨f,h⟩|⟨f,h⟩<;>first|exact h|omega)};have j:up d:=by{(rcases fu d with ⟨f,h⟩|⟨f,h⟩|⟨f,h⟩<;>first|exact h|omega)};unfold up at i g j;have n:=mn (show -(cr a b)≥0 by grind) (show d.2≥0 by grind);have o:=mn (show -(cr b d)≥0 by grind) (show a.2≥0 by grind);have p:=mn (show cr a d≥0 by grind) (show b.2≥0 by grind);have k:cr a d*b.2=0:=χ;have l:b.2=0:=by{rcases Qp6.1 k with h|h<;>grind};have m:b.1>0:=χ;have d2:d.2=0:=by{by_cases q:d.2>0;{have:=mp m q;unfold cr at u;rw [l] at u;grind};grind};have:=mn (show a.2≥0 by grind) (show d.1≥0 by grind);unfold cr at c;rw [d2] at c;grind};{have i:dn a:=by{(rcases fu a with ⟨f,h⟩|⟨f,h⟩|⟨f,h⟩<;>first|exact h|omega)};have j:dn d:=by{(rcases fu d with ⟨f,h⟩|⟨f,h⟩|⟨f,h⟩<;>first|exact h|omega)};unfold dn at i g j;have n:=mn (show -(cr a b)≥0 by grind) (show -d.2≥0 by grind);have o:=mn (show -(cr b d)≥0 by grind) (show -a.2≥0 by grind);have p:=mn (show cr a d≥0 by grind) (show -b.2≥0 by grind);have k:cr a d*b.2=0:=χ;have l:b.2=0:=by{rcases Qp6.1 k with h|h<;>grind};have m:-b.1>0:=χ;have d2:d.2=0:=by{by_cases q:-d.2>0;{have:=mp m q;unfold cr at u;rw [l] at u;grind};grind};have:=mn (show -a.2≥0 by grind) (show -d.1≥0 by grind);unfold cr at c;rw [d2] at c;grind};grind [fu]
def ang_ge {u v:V2}:¬fg u v<0↔half v<half u\/half u=half v/\cr u v<=0:=by rw [xT];grind
def BG (a b d:V2)(h:¬fg a b<0)(u:¬fg b d<0):¬fg a d<0:=by rw [ang_ge] at *;grind [W5]
def vK {a b d:V2}(h:fg a b=0)(y:fg b d=0):fg a d=0:=by have z:∀{u v:V2},fg u v=0↔¬fg u v<0/\¬fg v u<0:=by{intro u v;constructor;{intro e;refine ⟨ω,?_⟩;rw [iN] at e;have:=tj u v;rw [xT];rintro (g|⟨_,g⟩);{omega};grind};rintro ⟨g,c⟩;rcases Hq u v with e|e|e;{exact Å e g};{exact e};exact Å e c};rw [z] at *;exact ⟨BG _ _ _ h.1 y.1,BG _ _ _ y.2 h.2⟩
def vI (a:V2):fg a a=0:=iN.2 ⟨rfl,by unfold cr;grind⟩
def O0 {a b d:V2}(h:¬fg b a<0)(u:fg b d<0):fg a d<0:=by by_cases q:fg a d<0;{exact q};exact Å u (BG _ _ _ h q)
def eP (u v:V2):Bool:=decide (fg u v=0)
def Ke:∀{r:zA V2} {p:V2},(p::r).Pairwise (λx y=>¬fg y x<0) ->(pj eP p r).Pairwise (λx y=>fg x y<0)/\(∀x∈pj eP p r,fg p x<0)/\∀x∈p::r,∃y∈p::pj eP p r,fg y x=0
 | [],p,_=>⟨List.Pairwise.nil,(λx h=>by cases h),λx h=>⟨x,h,vI x⟩⟩
 | a::r,p,h=>by
  have ⟨u,z⟩:=ģ.1 h;have ⟨i1,i2,i3⟩:=Ke z;have f:¬fg a p<0:=u a (ď ..);unfold pj;by_cases e:fg a p=0
  ·have:eP a p=true:=Ç e;rw [Ä this]
   have i:¬fg p a<0:=λg=>by
    rcases iN.1 e with ⟨j,k⟩;rw [xT] at g;have:=tj a p;rcases g with g|⟨_,g⟩
    ·omega
    ·grind
   refine ⟨i1,λx c=>O0 f (i2 x c),λx c=>?_⟩;rcases í.1 c with rfl|c
   ·exact ⟨x,ď ..,vI x⟩
   ·have ⟨y,d,g⟩:=i3 x c;rcases í.1 d with rfl|d
    ·refine ⟨p,ď ..,vK (b:=y) ?_ g⟩;rcases Hq p y with q|q|q
     ·exact Å q i
     ·exact q
     ·exact Å q f
    ·exact ⟨y,ā _ d,g⟩
  ·have:eP a p=false:=È e;rw [this]
   have lt:fg p a<0:=by
    rcases Hq p a with q|q|q
    ·exact q
    ·exfalso;apply e;rw [iN] at *;have:=tj a p;exact ⟨q.1.symm,χ⟩
    ·exact Å q f
   refine ⟨ģ.2 ⟨i2,i1⟩,λx c=>?_,λx c=>?_⟩
   ·rcases í.1 c with rfl|c;{exact lt};exact O0 (b:=a) f (i2 x c)
   ·rcases í.1 c with rfl|c;{exact ⟨x,ď ..,vI x⟩};have ⟨y,d,g⟩:=i3 x c;exact ⟨y,ā _ d,g⟩
def Tp {m:zA V2}(h:m.Pairwise (λx y=>¬fg y x<0)):(gI eP m).Pairwise (λx y=>fg x y<0)/\∀x∈m,∃y∈gI eP m,fg y x=0:=by (cases m with|nil=>{exact ⟨List.Pairwise.nil,λx h=>by cases h⟩}|cons p r=>{have ⟨a,b,c⟩:=Ke h;exact ⟨ģ.2 ⟨b,a⟩,c⟩})
def Bc {a b c x y z:Int}(u:a*y=b*x)(D:a*z=c*x)(g:Nat.gcd (Nat.gcd x.natAbs y.natAbs) z.natAbs=1):x.natAbs∣a.natAbs:=by have d:a.natAbs*y.natAbs=b.natAbs*x.natAbs:=by{rw [<-Ĭ,<-Ĭ,u]};have e:a.natAbs*z.natAbs=c.natAbs*x.natAbs:=by{rw [<-Ĭ,<-Ĭ,D]};have d1:x.natAbs∣a.natAbs*Nat.gcd (Nat.gcd x.natAbs y.natAbs) z.natAbs:=by{rw [<-Nat.gcd_mul_left,<-Nat.gcd_mul_left];exact Nat.dvd_gcd (Nat.dvd_gcd ⟨a.natAbs,by rw [Ľ]⟩ ⟨b.natAbs,by rw [d,Ľ]⟩) ⟨c.natAbs,by rw [e,Ľ]⟩};rwa [g,Ġ] at d1
theorem R4 {l m:L3}(ol:cq l=true)(E:cq m=true)(u:bM l=l)(D:bM m=m){x y:Rat}(F:aG l x y=0)(hm:aG m x y=0)(N:cr (bj l) (bj m)=0):l=m:=by unfold cq at ol E;rw [Đ,decide_eq_true_iff,decide_eq_true_iff] at ol E;have d:l.1*m.2.1=l.2.1*m.1:=by{unfold cr bj at N;have:(l.1:Rat)*(m.2.1:Rat)=(l.2.1:Rat)*(m.1:Rat):=χ;exact_mod_cast this};unfold aG at F hm;have o:(l.1:Rat)*(m.2.1:Rat)=(l.2.1:Rat)*(m.1:Rat):=by{exact_mod_cast d};have e:l.1*m.2.2=l.2.2*m.1:=by{have:(l.1:Rat)*(m.2.2:Rat)=(l.2.2:Rat)*(m.1:Rat):=χ;exact_mod_cast this};have f:l.2.1*m.2.2=l.2.2*m.2.1:=by{have:(l.2.1:Rat)*(m.2.2:Rat)=(l.2.2:Rat)*(m.2.1:Rat):=χ;exact_mod_cast this};obtain ⟨p,g⟩:=ol;obtain ⟨q,i⟩:=E;have j:Nat.gcd (Nat.gcd l.2.1.natAbs l.1.natAbs) l.2.2.natAbs=1:=by{rw [ŭ l.2.1.natAbs];exact g};have k:Nat.gcd (Nat.gcd m.2.1.natAbs m.1.natAbs) m.2.2.natAbs=1:=by{rw [ŭ m.2.1.natAbs];exact i};have s:=Nat.dvd_antisymm (Bc (a:=m.1) (b:=m.2.1) (c:=m.2.2) (by rw [Qh3,<-d,Qh3]) (by rw [Qh3,<-e,Qh3]) g) (Bc d e i);have t:=Nat.dvd_antisymm (Bc (a:=m.2.1) (b:=m.1) (c:=m.2.2) (by rw [Qh3,d,Qh3]) (by rw [Qh3,<-f,Qh3]) j) (Bc (b:=l.1) (c:=l.2.2) d.symm f k);have sl:¬(l.1<0\/l.1=0/\l.2.1<0):=λh=>by{unfold bM at u;rw [Ä h] at u;have n:-l.1=l.1:=Æ (λx:L3=>x.1) u;have r:-l.2.1=l.2.1:=Æ (λx:L3=>x.2.1) u;omega};have sm:¬(m.1<0\/m.1=0/\m.2.1<0):=λh=>by{unfold bM at D;rw [Ä h] at D;have n:-m.1=m.1:=Æ (λx:L3=>x.1) D;have r:-m.2.1=m.2.1:=Æ (λx:L3=>x.2.1) D;omega};have n:l.1=m.1:=ω;by_cases z:l.1=0;{grind [Int.eq_of_mul_eq_mul_left]};grind [Int.eq_of_mul_eq_mul_left,Int.mul_comm]
end Go.Proofs.Tryz.ax
