import Derived.Test.YtdfckdifmjeieaaGreatDoorC20
set_option linter.all false
open Go.IntKind (i64 u64 u32)
open Go.IntKind renaming i64→Ŵ
open Go.Value renaming slice→yG,agg→hF,bool→dB,pointer→qvJ,tuple→å,int→Ô
namespace Go.Proofs.Tryz
open Go.Eng Go.Big
variable{V:Ó}{p:OA}{l:L3}{w:Value}{ls:List L3}
def HX {V:un}{lb n c:Nat}{vs:zA um}{o:zA (Rat×Rat)}(hw:vs≠[]->V.w.heap[lb]?=some (.cells vs.toArray 113 (0,0)))(hx:vs≠[]->V.X lb)(hg:GR 6 o_ V n c vs o)(hpos:vs≠[]->0<n)(hs:o.length<20000)(hso:HJ n c o):À 101 #[yG (mA lb c) n c] V λr V'=>∃(bm:Nat)(vm:zA um)(n' c':Nat)(m:zA (Rat×Rat)),(vm≠[]->V'.w.heap[bm]?=some (.cells vm.toArray 113 (0,0)))/\(vm≠[]->V.w.heap.size<=bm\/(vs≠[]/\bm=lb))/\r=yG (mA bm c') n' c'/\è 6 o_ (V'.aY (vm≠[]) bm) vm (fh eP m)/\n'=(fh eP m).length/\n'<=c'/\m.Perm o/\m.Pairwise λx y=>¬Rx y x<0:=by have F:∀{A B:Prop},A\/B\/False->A\/B:=λh=>h.imp id λh=>h.elim id False.elim;have i:=hg.cap;have hle:=hg.le;have hlen:=hg.len;refine xL lb n c vs V _ hw hx ⟨λd=>?_,λd u G j f1 f2=>?_⟩;{subst d;have H:c=0:=by{simp at i;omega};subst H;have I:n=0:=ω;subst I;have k:o=[]:=ĕ.1 hlen.symm;refine ⟨rfl,λT U=>Ae.s ?_⟩;rintro r V2 W rfl;refine ⟨rfl,λY Z J e1 e2=>uR.s ?_⟩;rintro r V4 l4 rfl;refine ⟨0,[],λh=>Å rfl h,λh=>Å rfl h,none,0,0,rfl,λV5 K v z C=>⟨K,[],0,0,[],λh=>Å rfl h,λh=>Å rfl h,rfl,è.nil,rfl,Ù _,?_,List.Pairwise.nil⟩⟩;rw [k]};have L:=hpos d;have s:c≠0:=ω;have t:∀b,mA b c=some ⟨b,0,none⟩:=λb=>by{unfold mA;rw [Ã s]};rw [t];refine (hso (u.au [vb vs u.w.heap.size j]) j vs (f1 d) ⟨by simp [mB d],f2 d⟩ ⟨hg.row.le λ_ _ g=>o_.le g λb o h=>G b o h,hlen,hs⟩).s ?_;rintro r V7 l7 ⟨rfl,a,m,z,sr,pm,M⟩;have N:=pm.length_eq;have f:a≠[]:=λe=>by{have:=sr.row.eH φ;rw [e,N,<-hlen] at this;simp at this;omega};refine ⟨rfl,d,a,f,z,λD O p P E=>?_⟩;rw [t];refine ae.monoB (BT (V:=D.au [vb a D.w.heap.size p]) (lb:=p) (vs:=a) (l:=m) (P f) ⟨by simp [mB f],E f⟩ (sr.le λb o h=>O b o h) hle) ?_;rintro r V9 l9 Q ⟨ws,rfl,C,row,wl⟩;have hk:=wh (e:=eP) (l:=m);refine ⟨p,ws,λ_=>C,λ_=>.inr ⟨f,rfl⟩,some ⟨p,0,none⟩,(fh eP m).length,c,by rw [t],λfD q v R S=>⟨q,ws,_,c,m,R,λh=>F (S h),rfl,?_,rfl,ω,pm,M⟩⟩;exact row.le λ_ _ g=>o_.le g ((Lc λ_=>Q p (E f)).m v)
def DA (u w:Rat×Rat):Rat×Rat:=if ao.cr u w>0 then (u.1+w.1,u.2+w.2) else (-u.2,u.1)
def qB (D:List (Rat×Rat)):List (Rat×Rat):=if D=[] then [(1,0)] else ao.WB DA D
def W3:Sz 1 (0:Rat):=by unfold Sz;decide
def W0:Sz 300000 (0:Rat):=W3.s ω
def S9 {f:Rat×Rat->Rat×Rat->Rat×Rat}{D:zA (Rat×Rat)}:ao.WB f D=(List.range D.length).map λi=>f (D.getD i (0,0)) (D.getD ((i+1)%D.length) (0,0)):=rfl
def RK {n c:Nat}{D:zA (Rat×Rat)}(h:bP 6 (Nm 100000) V p n D)(hn:D.length<=1000000:=by omega):À 100 #[yG p n c] V λr W=>∃q n' c',r=yG q n' c'/\bP 6 (Nm 300000) W q n' (qB D):=by have P:=h.len;subst P;refine D8 V _ ⟨λl V1 l1=>(pD 1 ω).s ?_,λl=>⟨λz V'=>∃i:Nat,z.2.2.2=(i:Int)/\i<=D.length/\GR 6 (Nm 300000) V' z.1 z.2.1 z.2.2.1 ((List.range i).map λi=>DA (D.getD i (0,0)) (D.getD ((i+1)%D.length) (0,0))),λz=>(D.length-z.2.2.2).toNat,⟨(0,0,[],0),σ,0,rfl,ä _,GR.nil⟩,?_⟩⟩;{have l:D=[]:=ĕ.1 (by have:=(Ë.1 l);omega);rintro r V2 l2 g;have Q:=g;obtain ⟨a,b,q,rfl⟩:=g.shape;refine ⟨_,_,_,rfl,λV3 R S s=>⟨_,1,1,rfl,?_⟩⟩;unfold qB;rw [Ä l];refine bP.fX s (row_one rfl ⟨(qyJ ⟨rfl,Q.le R,?_⟩),?_,W0⟩);{exact RR.zero _};exact (Jr).s ω};have l:D.length≠0:=λe=>by{rw [e] at l;cases l};rintro ⟨A,c1,T,z⟩ V4 J ⟨i,e,hi,g⟩;dsimp only at e g ⊢;subst e;have B:=g.len;have X:A=i:=by{rw [B];simp};refine ⟨rfl,λd=>?_,λd ji Y S s=>?_⟩;{have d:i<D.length:=by{have:=Á d;omega};have Z:Ŵ.wrap ((i:Int)+1)=((i+1:Nat):Int):=ŵ;have hm:((i+1:Nat):Int).tmod (D.length:Int)=(((i+1)%D.length:Nat):Int):=by{rw [Wy9]};have K:(i+1)%D.length<D.length:=ę _ ω;rw [Z,hm];simp only [Ý];have L:=h.le J λ_ _ g=>Nm.le g J;have ⟨M,x,y,q,x',y',q',a,ha,a0,a1,a2,a3,a4,a5,f⟩:=IH L d;obtain ⟨-,u,v,t,u',v',t',b,s,b0,b1,b2,b3,b4,b5,j⟩:=IH L K;have eu:D.getD i (0,0)=D[i]:=by{rw [Ę,ñ d];rfl};have ew:D.getD ((i+1)%D.length) (0,0)=D[(i+1)%D.length]:=by{rw [Ę,ñ K];rfl};refine ⟨M,ų,x,y,q,x',y',q',a,ha,a0,a1,a2,a3,a4,a5,ω,M,ų,u,v,t,u',v',t',b,s,b0,b1,b2,b3,b4,b5,?_⟩;have es:(List.range (i+1)).map (λi=>DA (D.getD i (0,0)) (D.getD ((i+1)%D.length) (0,0)))=(List.range i).map (λi=>DA (D.getD i (0,0)) (D.getD ((i+1)%D.length) (0,0)))++[DA D[i] D[(i+1)%D.length]]:=by{rw [List.range_succ,ś,List.map_singleton,eu,ew]};generalize D[i]=U at *;generalize D[(i+1)%D.length]=W at *;refine λV5 C=>(qV (f.1.le C) (j.1.le C) f.2.1 f.2.2 j.2.1 j.2.2).s ?_;rintro r V6 l6 gc;have E:=gc;obtain ⟨k1,k2,k3,rfl⟩:=gc.shape;refine ⟨_,_,_,rfl,λV7 N=>(eO (E.le N) (oW f.2.1 f.2.2 j.2.1 j.2.2)).s ?_⟩;rintro r V8 l8 rfl;have k:=C.m (l6.m (N.m l8));refine ⟨_,rfl,λm V9 F=>(vV (f.1.le (k.m F)) (j.1.le (k.m F)) f.2.1 f.2.2 j.2.1 j.2.2 ω).s ?_,λm eX O=>(ES (f.1.le (k.m O)) f.2.1 f.2.2).s ?_⟩;{rintro r fD G w;have m:ao.cr U W>0:=ao.mr.1 (Á m);have o:Nm 300000 fD r (DA U W):=by{unfold DA;rw [Ä m];exact ⟨w,(EE f.2.1 f.2.2 j.2.1 j.2.2).s ω,(EF f.2.1 f.2.2 j.2.1 j.2.2).s ω⟩};obtain ⟨_,rfl,-⟩:=Ŷ w;(refine qyJ ⟨rfl,ω,g.le,g.cap,rfl,one6p,λsp c' H I=>⟨(A+1,c',_,((i+1:Nat):Int)),ω,Ų,i+1,rfl,ω,?_⟩⟩;rw [es];exact (g.s λ_ _ g=>Nm.le g (k.m (F.m G))).snoc (xs:=[_,_,_,_,_,_]) rfl o φ H I)};rintro r gQ eJ w;have m:¬ao.cr U W>0:=λh=>(Â m) (ao.mr.2 h);have o:Nm 300000 gQ r (DA U W):=by{unfold DA;rw [Ã m];exact ⟨w,f.2.2.neg.s ω,f.2.1.s ω⟩};obtain ⟨_,rfl,-⟩:=Ŷ w;(refine qyJ ⟨rfl,ω,g.le,g.cap,rfl,one6p,λsp c' H I=>⟨(A+1,c',_,((i+1:Nat):Int)),ω,Ų,i+1,rfl,ω,?_⟩⟩;rw [es];exact (g.s λ_ _ g=>Nm.le g (k.m (O.m eJ))).snoc (xs:=[_,_,_,_,_,_]) rfl o φ H I)};have d:i=D.length:=by{have:=Â d;omega};subst d;refine ⟨_,_,_,rfl,?_⟩;have hD:D≠[]:=λe=>l (by rw [e];rfl);unfold qB;rw [Ã hD,S9,B];exact bP.bR s (g.row.le λ_ _ g=>Nm.le g Y) φ (by rw [<-B];exact g.le)
theorem Ry (i a:ut):À 104 #[dB i,dB a] V λr W=>r=Ô Ŵ (if i&&a then 2 else if i then 1 else 0):=by refine D0 V _ ⟨λh=>⟨λb d e=>?_,λb=>⟨λc V2 f=>?_,λc g j=>?_⟩⟩,λh=>⟨λb k l=>?_,λb m n=>?_⟩⟩<;>simp_all
def H4 {pv vv:um}{p v:Rat×Rat}(s1:Sz 3000000000 p.1)(s2:Sz 3000000000 p.2)(s3:Sz 300000 v.1)(s4:Sz 300000 v.2){t:Tr}{q:OA}(h:RT V q t)(ha:t.dG Bd)(hp:kt V pv p.1 p.2)(hv:kt V vv v.1 v.2):À 103 #[qvJ q,pv,vv] V λr W=>r=å #[dB (ao.gX t p v).1,dB (ao.gX t p v).2]:=by have x:=hp;have y:=hv;obtain ⟨x1,x2,x3,y1,y2,y3,rfl,-⟩:=hp;obtain ⟨u1,u2,u3,w1,w2,w3,rfl,-⟩:=hv;refine AA V _ ⟨λz k V'=>∃n,RT V' z n/\n.dG Bd/\k=n.size/\ao.gX n p v=ao.gX t p v,⟨q,t.size,σ,t,h,ha,rfl,rfl⟩,?_⟩;rintro z k V1 l1 ⟨n,A,B,rfl,e⟩;rw [<-e];clear e h ha t;refine ⟨rfl,λV2 P=>(cu (A.le P)).s ?_⟩;rintro r Q l3 rfl;have u:=P.m l3;refine ⟨_,rfl,λC=>?_,λC=>?_⟩;{(cases n with|leaf i=>{cases C}|node ln a b=>{obtain ⟨D,a1,a2,a3,b1,b2,b3,R,S,T,pl,E,i,rfl,o,s,F,G⟩:=A.le u;obtain ⟨H,I,J⟩:=B;have c:∀{W:un},Q.Le W->∀j v,([Ô Ŵ a1,Ô Ŵ a2,qvJ a3,Ô Ŵ b1,Ô Ŵ b2,qvJ b3,Ô Ŵ R,Ô Ŵ S,qvJ T,qvJ pl,qvJ E,dB i]:zA um)[j]?=some v->W.at ((⟨D,0,none⟩:Addr).add j) v:=by{intro W hW j v hv;rw [add_zero'];exact dM (xs:=[_,_,_,_,_,_,_,_,_,_,_,_]) (hW _ _ o) hv};have g:=Ó.Le.refl Q;have sl:=H.iP;have L3:=l1.m u;refine ⟨rfl,rfl,_,_,_,_,_,_,_,_,_,⟨D,0,none⟩,rfl,c g 0 _ rfl,c g 1 _ rfl,c g 2 _ rfl,c g 3 _ rfl,c g 4 _ rfl,c g 5 _ rfl,c g 6 _ rfl,c g 7 _ rfl,c g 8 _ rfl,λV4 K=>(Oj (L:=ln) (s.le K) (x.le (L3.m K)) (k:=3000000000) ⟨sl.1.s ω,sl.2.1.s ω,sl.2.2.s ω⟩ s1 s2).s ?_⟩;rintro r V5 l5 rfl;have d:=K.m l5;refine ⟨_,rfl,λz _=>z=ao.tD ln p v,⟨λl=>?_,λl=>?_⟩,?_⟩;{have l:(aw ln p.1 p.2).num.sign=0:=by{simpa using l};refine ⟨rfl,rfl,_,_,_,_,_,_,_,_,_,⟨D,0,none⟩,rfl,c d 0 _ rfl,c d 1 _ rfl,c d 2 _ rfl,c d 3 _ rfl,c d 4 _ rfl,c d 5 _ rfl,c d 6 _ rfl,c d 7 _ rfl,c d 8 _ rfl,λV6 U=>(kz (s.le (d.m U)) sl.1 sl.2.1 sl.2.2 ω).s ?_⟩;rintro r V7 l7 X;have M:=X;obtain ⟨d1,d2,d3,d4,d5,d6,rfl,-⟩:=X;refine qyJ ⟨rfl,λV8 Y=>(pG (M.le Y) (y.le (L3.m (d.m (U.m (l7.m Y))))) (k:=300000) (sl.1.s ω) (sl.2.1.s ω) s3 s4 ω).s ?_⟩;rintro r V9 l9 Z;have N:=Z;obtain ⟨f,m,e3,rfl⟩:=Z.shape;refine ⟨_,_,_,rfl,λfD O=>(eO (N.le O) (sU (k:=300000) (sl.1.s ω) (sl.2.1.s ω) s3 s4)).s ?_⟩;rintro r eX dq rfl;refine ⟨_,rfl,_,σ,?_⟩;unfold ao.tD;rw [Ä l];rfl};{have l:¬(aw ln p.1 p.2).num.sign=0:=λh=>by{rw [h] at l;cases l};refine ⟨_,σ,?_⟩;unfold ao.tD;rw [Ã l]};rintro z gQ eJ rfl;have w:=d.m eJ;refine ⟨rfl,λf=>⟨rfl,rfl,pl,yR (w _ _ o) 9 rfl,pl,a.size,by simp only [Tr.size];omega,σ,a,F.le w,I,rfl,?_⟩,λf=>⟨λm=>⟨rfl,rfl,E,yR (w _ _ o) 10 rfl,E,b.size,by simp only [Tr.size];omega,σ,b,G.le w,J,rfl,?_⟩,λm ji u=>?_⟩⟩;{have f:ao.tD ln p v=1:=by{simpa using f};simp only [ao.gX];rw [Ä f]};{have f:¬ao.tD ln p v=1:=by{simpa using f};have m:ao.tD ln p v=-1:=by{simpa using m};simp only [ao.gX];rw [Ã f,Ä m]};have f:¬ao.tD ln p v=1:=by{simpa using f};have m:¬ao.tD ln p v=-1:=by{simpa using m};simp only [ao.gX];rw [Ã f,Ã m]})};(cases n with|node ln a b=>{cases C}|leaf i=>{obtain ⟨b,c0,R,S,T,c4,c5,c6,c7,c8,r,rfl,o⟩:=A.le u;exact ⟨rfl,rfl,i,yR o 11 rfl,λlH iL=>rfl⟩})
def Oq (n:Int){d:Nat}(h:d≠0):mkRat n d*((d:Nat):Rat)=(n:Rat):=by have a:((d:Nat):Rat)≠0:=by{exact_mod_cast h};rw [Rat.mkRat_eq_div,Rat.div_def];exact ao.inv_mul a _
theorem UN {p:Rat×Rat}(h:ao.nz p):eW p.1 p.2>0:=by have a:p.1.den*p.2.den≠0:=ō p.1.den_nz p.2.den_nz;have e:=Oq (Nat.gcd (p.1.num.natAbs*p.2.den) (p.2.num.natAbs*p.1.den):Nat) a;have b:0<Nat.gcd (p.1.num.natAbs*p.2.den) (p.2.num.natAbs*p.1.den):=by{apply Qg6;intro z;rw [Qh8] at z;have c:p.1=0:=by{rcases Qp5.1 z.1 with e|e;{exact š.1 ω};exact Å e p.2.den_nz};have d:p.2=0:=by{rcases Qp5.1 z.2 with e|e;{exact š.1 ω};exact Å e p.1.den_nz};unfold ao.nz at h;rcases h with h|h;{exact h c};exact h d};have d0:((p.1.den*p.2.den:Nat):Rat)>0:=by{exact_mod_cast Qg6 a};have g:(((Nat.gcd (p.1.num.natAbs*p.2.den) (p.2.num.natAbs*p.1.den):Nat):Int):Rat)>0:=by{exact_mod_cast b};show mkRat _ _>0;generalize mkRat ((Nat.gcd (p.1.num.natAbs*p.2.den) (p.2.num.natAbs*p.1.den):Nat):Int) (p.1.den*p.2.den)=q at *;by_cases f:q>0;{exact f};{have:=ao.mn (show -q≥0 by grind) (show ((p.1.den*p.2.den:Nat):Rat)≥0 by grind);grind}
def LD {p:Rat×Rat}(h:ao.nz p):∃c:Rat,c>0/\mX p=(c*p.1,c*p.2):=
 ⟨(eW p.1 p.2)⁻¹,Qt8.2 (UN h),ř (Wv2 ..) (Wv2 ..)⟩
theorem Bs (h:¬(l.1=0/\l.2.1=0)):ao.nz (ao.aD l):=by unfold ao.nz ao.aD;by_cases e:l.2.1=0;{right;intro a;have:(l.1:Rat)=0:=χ;exact h ⟨by exact_mod_cast this,e⟩};left;show (l.2.1:Rat)≠0;exact_mod_cast e
def R7 (s a:Bool):Int:=if a then 2 else if s then 1 else 0
def jI (t:Tr)(p:Rat×Rat)(c:Int):Prop:=∀D S,ao.HH D->ao.Xn D S->ao.Rg D (ao.dW t p)->c=R7 (ao.anyS t p S) (ao.qH t p S)
def NQ {t:Tr}{p:Rat×Rat}{D S:zA (Rat×Rat)}(u:ao.HH D)(y:ao.Xn D S)(z:ao.Rg D (ao.dW t p)):jI t p (R7 (ao.anyS t p S) (ao.qH t p S)):=by intro f g a b c;have ⟨d,e⟩:=ao.say_eq u y a b z c;rw [d,e]
def Y1 {q:L3->Prop}{t:Tr}(h:t.dG q){p:Rat×Rat}:∀l∈ao.dW t p,q l:=λl a=>jS h l (ao.oK a).2
theorem ZH {u w:Rat×Rat}(h:ao.cr u w≥0):ao.J7 u w (DA u w):=by unfold DA;by_cases g:ao.cr u w>0;{rw [Ä g];exact .inl ⟨g,1,1,φ,φ,ř (by unfold ao.IC;grind) (by unfold ao.IC;grind)⟩};rw [Ã g];exact .inr ⟨χ,1,φ,ř (by unfold ao.IC ao.mw;grind) (by unfold ao.IC ao.mw;grind)⟩
def Hp {D:zA (Rat×Rat)}(h:ao.HH D):ao.Xn D (qB D):=by unfold qB;by_cases e:D=[];{rw [Ä e];exact .inl ⟨e,rfl⟩};rw [Ã e];exact ao.ZD h (λu _ w _ a=>ZH a) e
def WC (D:zA (Rat×Rat)):qB D≠[]:=by unfold qB;by_cases e:D=[];{rw [Ä e];simp};rw [Ã e];intro h;have:=Æ List.length h;unfold ao.WB at this;rw [Ě,List.length_range] at this;exact e (ĕ.1 this)
def S_ (D:zA (Rat×Rat)):(qB D).length<=D.length+1:=by unfold qB;split;{simp};unfold ao.WB;simp
def S7 (M:zA L3):(mY M).length=2*M.length:=by
 induction M with
 | nil=>rfl
 | cons l M u=>
  have:mY (l::M)=Zm l++mY M:=rfl;rw [this,í,u];simp [Zm];omega
def CZ:∀(t:Tr)(p:Rat×Rat),(ao.dW t p).length<=t.size
 | .leaf _,_=>Ù _
 | .node l a b,p=>by
  have:=CZ a p;have:=CZ b p;simp only [ao.dW,í,Tr.size];have c:(if aw l p.1 p.2=0 then [l] else []).length<=1:=by split<;>simp
  have d:(if aw l p.1 p.2≥0 then ao.dW a p else []).length<=a.size:=by
   split
   ·omega
   ·simp
  have e:(if aw l p.1 p.2<=0 then ao.dW b p else []).length<=b.size:=by split;{omega};simp
  omega
theorem Zo {M:zA L3}(u:∀l∈M,¬(l.1=0/\l.2.1=0)){m:zA (Rat×Rat)}(pm:m.Perm (mY M))(z:m.Pairwise λx y=>¬Rx y x<0):ao.HH (fh eP m)/\ao.Rg (fh eP m) M:=by have mem:∀r,r∈m↔∃l∈M,r=mX (ao.aD l)\/r=Ow (mX (ao.aD l)):=λr=>by{rw [pm.mem_iff];unfold mY Zm;simp only [č,ç,ě,Ì]};have key:=ao.ray_of (m:=m) z ?_ ?_;{obtain ⟨j,k⟩:=key;refine ⟨j,λl a=>?_⟩;have ⟨y,n,c,o,e⟩:=k (mX (ao.aD l)) ((mem _).2 ⟨l,a,.inl rfl⟩);have ⟨d,d0,g⟩:=LD (Bs (u l a));refine ⟨y,n,c*d,ao.mp o d0,?_⟩;rw [e,g];exact ř (by show c*(d*_)=_;grind) (by show c*(d*_)=_;grind)};{intro r i;obtain ⟨l,a,h⟩:=(mem r).1 i;have b:=Bs (u l a);have ⟨d,d0,g⟩:=LD b;have f:ao.nz (mX (ao.aD l)):=by{rw [g];unfold ao.nz at b ⊢;rcases b with b|b;{exact .inl λh=>by{rcases Ļ.1 h with h|h;grind;exact b h}};exact .inr λh=>by{rcases Ļ.1 h with h|h;grind;exact b h}};rcases h with rfl|rfl;{exact f};unfold ao.nz Ow at *;rcases f with f|f;{exact .inl (by show -(mX (ao.aD l)).1≠0;grind)};exact .inr (by show -(mX (ao.aD l)).2≠0;grind)};intro r i;obtain ⟨l,a,h⟩:=(mem r).1 i;rcases h with rfl|rfl;{exact ⟨_,(mem _).2 ⟨l,a,.inr rfl⟩,1,φ,by unfold Ow;grind,by unfold Ow;grind⟩};exact ⟨_,(mem _).2 ⟨l,a,.inl rfl⟩,1,φ,by unfold Ow;grind,by unfold Ow;grind⟩
def Gf {t:Tr}{p:Rat×Rat}{S:zA (Rat×Rat)}{i:Nat}(h:i<S.length):ao.anyS t p (S.take (i+1))=(ao.anyS t p (S.take i)||(ao.gX t p S[i]).1):=by unfold ao.anyS;rw [<-ť h,Wy0];simp
def Gd {t:Tr}{p:Rat×Rat}{S:zA (Rat×Rat)}{i:Nat}(h:i<S.length):ao.qH t p (S.take (i+1))=(ao.qH t p (S.take i)&&(ao.gX t p S[i]).1):=by unfold ao.qH;rw [<-ť h,List.all_append];simp
def XN {t:Tr}{p:Rat×Rat}{S:zA (Rat×Rat)}(h:S≠[])(u:ao.qH t p S=true):ao.anyS t p S=true:=by (cases S with|nil=>exact Å rfl h|cons x r=>{unfold ao.qH at u;unfold ao.anyS;simp only [List.all_cons,Č] at u;simp [u.1]})
def Ko {pv:um}{p:Rat×Rat}(s1:Sz 3000000000 p.1)(s2:Sz 3000000000 p.2){t:Tr}{q:OA}(h:RT V q t)(ha:t.dG Bd)(ho:t.dG λl=>¬(l.1=0/\l.2.1=0))(hs:t.size<4000)(hso:∀n c,HJ n c (mY (ao.dW t p)))(hp:kt V pv p.1 p.2):À 43 #[qvJ q,pv] V λr W=>∃c,r=Ô Ŵ c/\jI t p c:=by have j:=hp;obtain ⟨Y,Z,x3,y1,y2,y3,rfl,-⟩:=hp;refine DV V _ λA B=>(ND s1 s2 t (V:=A) (lb:=0) (n:=0) (c:=0) (vs:=[]) (o:=[]) (h.le B) ha (j.le B) (λh=>Å rfl h) (λh=>Å rfl h) GR.nil (λh=>Å rfl h) ω).s ?_;rintro r V2 l2 ⟨K,C,n1,c1,a1,a2,rfl,L,a4,a5⟩;have s:C≠[]->A.w.heap.size<=K:=λh=>(a2 h).elim id λh=>Å rfl h.1;refine ⟨K,C,a1,λh=>.inl (s h),none,n1,c1,rfl,λf M N e1 O=>?_⟩;have L3:V.Le f:=B.m ((rJ l2 (Ó.Le.refl A) λh=>.inl (s h)).m M);rw [Œ] at L;have kM:(mY (ao.dW t p)).length<20000:=by{have:=CZ t p;rw [S7];omega};refine (HX (V:=f.au [vb C f.w.heap.size N]) (lb:=N) e1 (λh=>⟨by simp [mB h],O h⟩) (L.s (V':=f.au _) λ_ _ g=>o_.le g λb o h=>M b o h) a4 kM (hso _ _)).s ?_;rintro r V4 l4 ⟨E,F,n2,c2,m,b1,b2,rfl,row,rfl,b4,pm,pw⟩;refine ⟨E,F,b1,b2,none,_,c2,rfl,λP Q Ru e3=>?_⟩;have L5:V.Le P:=L3.m ((rJ (V:=f) (V':=f) (λb o h=>l4 b o h) (Ó.Le.refl f) λh=>(b2 h).imp id λR=>by rw [R.2];exact O R.1).m Q);have Ot:=pm.length_eq;have T:=wh (e:=eP) (l:=m);have ⟨U,cv⟩:=Zo (Y1 ho) pm pw;refine (RK (D:=fh eP m) (bP.bR e3 (row.le λ_ _ g=>(o_.le g λb o h=>Q b o h:o_ P _ _)) φ b4)).s ?_;rintro r V6 l6 ⟨q',n3,c3,rfl,W⟩;have ne:=WC (fh eP m);have sm:=Hp U;have sl:=S_ (fh eP m);generalize qB (fh eP m)=S at *;have hl:=W.len;subst hl;refine ⟨q',_,c3,rfl,λ_=>⟨λz V'=>∃i:Nat,z.2.2=(i:Int)/\i<=S.length/\z.1=ao.anyS t p (S.take i)/\z.2.1=ao.qH t p (S.take i),λz=>(S.length-z.2.2).toNat,⟨(false,true,0),σ,0,rfl,ä _,rfl,rfl⟩,?_⟩⟩;rintro ⟨z1,z2,z3⟩ V7 G ⟨i,e,hi,f1,f2⟩;dsimp only at e f1 f2 ⊢;subst e f1 f2;have X:=L5.m (l6.m G);refine ⟨rfl,λd=>?_,λd fD a0=>(Ry _ _).s ?_⟩;{have d:i<S.length:=by{have:=Á d;omega};have w1:Ŵ.wrap ((i:Int)+1)=((i+1:Nat):Int):=ŵ;have ⟨ps,x,y,qq,x',y',H,a,u,g0,g1,g2,g3,g4,g5,I⟩:=IH (W.le G λ_ _ g=>Nm.le g G) d;rw [w1];simp only [Ý];refine ⟨ps,ų,x,y,qq,x',y',H,a,u,g0,g1,g2,g3,g4,g5,λV8 J=>(H4 (p:=p) (v:=S[i]) (s1.s ω) (s2.s ω) I.2.1 I.2.2 (h.le (X.m J)) ha (j.le (X.m J)) (I.1.le J)).s ?_⟩;rintro r V9 l9 rfl;(refine ⟨_,_,rfl,λk=>⟨(true,_,((i+1:Nat):Int)),ω,Ų,i+1,rfl,ω,?_,?_⟩,λk=>⟨(_,false,((i+1:Nat):Int)),ω,Ų,i+1,rfl,ω,?_,?_⟩⟩);{rw [Gf d,k,Bool.or_true]};{rw [Gd d,k,Wk6];rfl};{rw [Gf d,k,Bool.or_false];rfl};rw [Gd d,k,Wz2]};have d:i=S.length:=by{have:=Â d;omega};subst d;rintro r eX dq rfl;refine ⟨_,rfl,λgQ eJ=>⟨_,rfl,?_⟩⟩;rw [Ī];have:(if (ao.anyS t p S&&ao.qH t p S)=true then (2:Int) else if ao.anyS t p S=true then 1 else 0)=R7 (ao.anyS t p S) (ao.qH t p S):=by{unfold R7;cases e:ao.qH t p S;{simp};rw [XN ne e];rfl};rw [this];exact NQ U sm cv
def ApS (V:Ó)(w:Value)(p:Rat×Rat):Prop:=(∃b q n c y n' z d r m e E F M,w=.agg #[.bool b,.slice q n c,.slice y n' z,.bool d,.slice r m e,.slice E F M]) /\
 ∀u,V.Le u->À 44 #[w] u λr W=>kt W r p.1 p.2
def ApS.of {p:Rat×Rat}(h:Tq V w p.1 p.2){k:Nat}(s1:Sz k p.1)(s2:Sz k p.2)(u:k<=2^40:=by omega):ApS V w p:=by refine ⟨?_,λa f=>B8 ra s1 s2 u⟩;obtain ⟨b,q,n,c,g,i,j,d,r,m,e,l,o,s,rfl,-⟩:=h;exact qxW rfl
def I1 (l:zA Nd):∀(f:Nat)(n:Int)(s:RS),s.bad=true->(gj l f n s).2.bad=true
 | 0,_,_,h=>h
 | f+1,n,s,h=>by
  simp only [gj];split
  ·exact h
  ·split
   ·exact h
   ·split
    ·rfl
    ·split
     ·split
      ·exact I1 l f _ _ (I1 l f _ _ h)
      ·rfl
     ·rfl
def Rp (l:List Nd):Int->Tr->Prop
 | n,.leaf i=>n=(if i then -2 else -1)
 | n,.node ln a b=>∃(k:Nat)(x:Nd),n=(k:Int)/\l[k]?=some x/\x.ln=ln/\bY ln=true/\Rp l x.left a/\Rp l x.right b
def OG (l:zA Nd):∀(f:Nat)(n:Int)(s:RS),s.seen.count false<f->(gj l f n s).2.bad=false->Rp l n (gj l f n s).1/\(gj l f n s).2.nF=s.nF+(gj l f n s).1.size
 | 0,_,_,h,_=>ω
 | f+1,n,s,O,h=>by
  simp only [gj] at h ⊢;by_cases u:n=-2
  ·rw [Ä u];exact ⟨u,rfl⟩
  rw [Ã u] at h ⊢;by_cases y:n=-1
  ·rw [Ä y];exact ⟨y,rfl⟩
  rw [Ã y] at h ⊢;by_cases E:n<0
  ·rw [Ä E] at h;cases h
  rw [Ã E] at h ⊢;split at h
  ·rename_i x F M;by_cases z:bY x.ln=true
   ·rw [Ä z] at h ⊢;dsimp only at h ⊢
    have N:(gj l f x.left ⟨s.seen.set n.toNat true,s.nF+1,s.bad⟩).2.bad=false:=by
     cases e:(gj l f x.left ⟨s.seen.set n.toNat true,s.nF+1,s.bad⟩).2.bad
     ·rfl
     ·have:=I1 l f x.right _ e;rw [h] at this;cases this
    have b:=count_set M;have ⟨i1,i2⟩:=OG l f x.left _ ω N;have hm:=(wV l f x.left ⟨s.seen.set n.toNat true,s.nF+1,s.bad⟩).1;dsimp only at i2 hm;have ⟨a,c⟩:=OG l f x.right _ ω h;exact ⟨⟨n.toNat,x,ω,F,rfl,z,i1,a⟩,by simp only [Tr.size];omega⟩
   ·rw [Ã z] at h;cases h
  ·cases h
def ofT_rp {l:zA Nd}{root:Int}{t:Tr}(h:tQ l root=some t):Rp l root t/\l.length=t.size/\t.dG λx=>bY x=true:=by
 unfold tQ at h;split at h
 ·cases h
 ·dsimp only at h;split at h
  ·cases h
  ·rename_i d;cases h
   have c:(gj l (l.length+1) root ⟨List.replicate l.length false,0,false⟩).2.bad=false/\(gj l (l.length+1) root ⟨List.replicate l.length false,0,false⟩).2.nF=l.length:=by constructor;{cases e:(gj l (l.length+1) root ⟨List.replicate l.length false,0,false⟩).2.bad;{rfl};exact Å (.inl e) d};by_cases e:(gj l (l.length+1) root ⟨List.replicate l.length false,0,false⟩).2.nF=l.length;{exact e};exact Å (.inr e) d
   have ⟨f,g⟩:=OG l (l.length+1) root ⟨List.replicate l.length false,0,false⟩ ψ c.1
   have ok:∀{t:Tr} {n:Int},Rp l n t->t.dG λx=>bY x=true:=by
    intro t
    induction t with
    | leaf i=>intro n _;trivial
    | node ln a b iha ihb=>rintro n ⟨k,x,_,_,_,j,m,d⟩;exact ⟨j,iha m,ihb d⟩
   refine ⟨f,?_,ok f⟩;have:=c.2;rw [g] at this;dsimp only at this;omega
def Oy (h:bY l=true):¬(l.1=0/\l.2.1=0):=by unfold bY at h;rw [Č,decide_eq_true_iff] at h;exact h.1
def B9 {v:um}{root:Int}{l:zA Nd}(hb:∀x∈l,Bd x.ln)(h:AT V v root l){p:Rat×Rat}(hp:ApS V w p)(s1:Sz 3000000000 p.1)(s2:Sz 3000000000 p.2)(hs:∀t,tQ l root=some t->t.size<4000)(hso:∀t,tQ l root=some t->∀n c,HJ n c (mY (ao.dW t p))){y:um}(hy:tL V 0 y):À 12 #[v,w] V λr W=>(tQ l root=none->r=å #[Ô Ŵ 0,y])/\∀t,tQ l root=some t->∃c,r=å #[Ô Ŵ c,.nilIface]/\jI t p c:=by
 have A:=h;obtain ⟨q,n,c,rfl,-⟩:=h;have B:=hp;obtain ⟨⟨b,C,D,E,F,G,H,d,r,m,e,I,J,K,rfl⟩,i⟩:=hp;refine AP V _ λQ k=>(Gs hb (A.le k)).s ?_;rintro r V2 L ⟨a,rfl,M⟩;have o:=k.m L;refine ⟨_,_,rfl,λg=>⟨y,⟨_,rfl,hy.le o⟩,λR S=>?_⟩,λg N s=>(i N (o.m s)).s ?_⟩
 ·have g:tQ l root=none:=by cases e:tQ l root with
   | none=>rfl
   | some t=>rw [e] at g;cases g
  exact ⟨λ_=>rfl,λt f=>by rw [g] at f;cases f⟩
 ·(cases e:tQ l root with|none=>{rw [e] at g;cases g}|some t=>{rintro r T O u;have j:=u;obtain ⟨_,rfl,-⟩:=Ŷ u;have ok:=(ofT_rp e).2.2;refine qyJ ⟨rfl,λU z=>(Ko s1 s2 ((M t e).le (s.m (O.m z))) (Y7 hb e) (ok.imp λ_ h=>Oy h) (hs t e) (hso t e) (j.le z)).s ?_⟩;rintro r W X ⟨c,rfl,P⟩;exact ⟨c,rfl,λY Z=>⟨Ŭ,λt' f=>by cases f;exact ⟨c,rfl,P⟩⟩⟩})
def Sc (p:Rat×Rat)(l:L3):List (Rat×Rat):=if aw l p.1 p.2=0 then [ao.aD l,((-(ao.aD l).1,-(ao.aD l).2):Rat×Rat)] else []
def rB (p:Rat×Rat)(ls:List L3):List (Rat×Rat):=ls.flatMap (Sc p)
def oB {p:Rat×Rat}{r:Rat×Rat}(h:r∈rB p ls):∃l∈ls,aw l p.1 p.2=0/\(r=ao.aD l\/r=(-(ao.aD l).1,-(ao.aD l).2)):=by have ⟨l,b,a⟩:=č.1 h;unfold Sc at a;split at a;{rename_i e;simp only [ç,ě,Ì] at a;exact ⟨l,b,e,a⟩};cases a
def Hb {p:Rat×Rat}(u:l∈ls)(e:aw l p.1 p.2=0):ao.aD l∈rB p ls/\((-(ao.aD l).1,-(ao.aD l).2):Rat×Rat)∈rB p ls:=by constructor<;>refine č.2 ⟨l,u,?_⟩<;>unfold Sc<;>rw [Ä e]<;>simp
theorem XP {v:Rat×Rat}(h:ao.nz v):¬ao.iB v (-v.1,-v.2)=0:=by rw [ao.fL];rintro ⟨e,-⟩;unfold ao.nz at h;(rcases ao.cA v with ⟨b,a⟩|⟨b,a⟩|⟨b,a⟩<;>rcases ao.cA (-v.1,-v.2) with ⟨g1,g2⟩|⟨g1,g2⟩|⟨g1,g2⟩<;>first|omega|skip);{unfold ao.up at a g2;dsimp only at g2;grind};{unfold ao.dn at a g2;dsimp only at g2;grind};grind
theorem XQ {u v:Rat×Rat}(h:ao.iB u v=0):ao.iB v u=0:=by rw [ao.fL] at *;have:=ao.cJ u v;exact ⟨h.1.symm,χ⟩
theorem KP {p:Rat×Rat}:∀{ls:zA L3},(∀l∈ls,bY l=true/\bF l=l)->ls.Nodup->(rB p ls).Pairwise λx y=>¬ao.iB x y=0
 | [],_,_=>List.Pairwise.nil
 | l::r,h,u=>by
  have z:=KP (p:=p) (λm hm=>h m (ø _ hm)) (Wv0.1 u).2;have:rB p (l::r)=Sc p l++rB p r:=rfl;rw [this];have ⟨ol,f⟩:=h l (ą ..);have nl:=Bs (Oy ol);refine Qf4.2 ⟨?_,z,λx g y a e=>?_⟩
  ·unfold Sc;split
   ·exact į.2 ⟨λy a=>by rcases õ.1 a with rfl;exact XP nl,Qf5 ..⟩
   ·exact List.Pairwise.nil
  ·have b:x∈rB p [l]:=by show x∈Sc p l++[];rw [ć];exact g
   have ⟨i,d,j,k⟩:=oB b;rcases õ.1 d with rfl;have ⟨m,hm,n,o⟩:=oB a;have ⟨q,s⟩:=h m (ø _ hm)
   have t:ao.cr (ao.aD i) (ao.aD m)=0:=by
    have c:=(ao.fL.1 e).2;rcases k with rfl|rfl<;>rcases o with rfl|rfl<;>unfold ao.cr at c⊢<;>grind
   have:=ao.Ho ol q f s j n t;exact (Wv0.1 u).1 (this▸hm)
theorem UA {p:Rat×Rat}(h:∀l∈ls,bY l=true/\bF l=l)(u:ls.Nodup){m:zA (Rat×Rat)}(pm:m.Perm (rB p ls))(z:m.Pairwise λx y=>¬Rx y x<0):ao.HH m:=by refine ao.Zn z (λr a=>?_) (λr a=>?_) (pm.symm.pairwise (KP h u) λe c=>e (XQ c));{obtain ⟨l,b,-,e⟩:=oB (pm.mem_iff.1 a);have nl:=Bs (Oy (h l b).1);rcases e with rfl|rfl;{exact nl};unfold ao.nz at *;rcases nl with nl|nl;{left;dsimp only;grind};right;dsimp only;grind};have ⟨l,b,d,e⟩:=oB (pm.mem_iff.1 a);have ⟨f,g⟩:=Hb b d;rcases e with rfl|rfl;{exact ⟨_,pm.mem_iff.2 g,1,φ,by dsimp only;grind,by dsimp only;grind⟩};exact ⟨_,pm.mem_iff.2 f,1,φ,by dsimp only;grind,by dsimp only;grind⟩
theorem Uz {p:Rat×Rat}{m:zA (Rat×Rat)}(pm:m.Perm (rB p ls)){M:zA L3}(u:∀l∈M,aw l p.1 p.2=0/\bF l∈ls):ao.Rg m M:=by intro l a;have ⟨e,b⟩:=u l a;have c:aw (bF l) p.1 p.2=0:=by{unfold bF;split;{unfold aw Õ at *;simp only [Qd6];grind};exact e};have ⟨d,f⟩:=Hb b c;have two:ao.aD (bF l)=ao.aD l\/((-(ao.aD (bF l)).1,-(ao.aD (bF l)).2):Rat×Rat)=ao.aD l:=by{unfold bF;split;{right;unfold ao.aD Õ;simp only [Qd6];exact ř (by dsimp only;grind) (by dsimp only;grind)};left;rfl};rcases two with t|t;{exact ⟨_,pm.mem_iff.2 d,1,φ,by rw [t];exact ř (by dsimp only;grind) (by dsimp only;grind)⟩};exact ⟨_,pm.mem_iff.2 f,1,φ,by rw [t];exact ř (by dsimp only;grind) (by dsimp only;grind)⟩
def LL:L3:=(0,1,0)
def LL_ok:bY LL=true:=φ
def Dz {z:Int}(k:Nat)(u:k≠0)(h:z.natAbs<=1):z.natAbs<2^k:=ş h (Qf0 u)
def LL_bd' (k:Nat)(u:k≠0):LL.1.natAbs<2^k/\LL.2.1.natAbs<2^k/\LL.2.2.natAbs<2^k:=⟨Dz k u φ,Dz k u φ,Dz k u φ⟩
def TA:Bd LL:=LL_bd' 1000 φ
theorem Ka {v:um}{a b c:Int}(h:RL V v a b c):∃(b1:ut)(u:OA)(y c1:Nat)(b2:ut)(z:OA)(E F:Nat)(b3:ut)(M:OA)(N O:Nat),v=hF #[dB b1,yG u y c1,dB b2,yG z E F,dB b3,yG M N O]:=by obtain ⟨p,n,s,d,f,g,q,m,e,rfl,-⟩:=h;grind
def Ia {u:um}(y:RP V u ((0:Int):Rat) ((0:Int):Rat))(z:RP V w ((1:Int):Rat) ((0:Int):Rat)):À 59 #[u,w] V λr W=>∃l,r=å #[l,dB true]/\RL W l LL.1 LL.2.1 LL.2.2:=by have a:Sz 1 ((0:Int):Rat):=by{unfold Sz;decide};refine (kE y z a a Jr a ω).s ?_;have b:(qD ((0:Int):Rat) ((0:Int):Rat) ((1:Int):Rat) ((0:Int):Rat)).1.num=0:=κ;have c:(qD ((0:Int):Rat) ((0:Int):Rat) ((1:Int):Rat) ((0:Int):Rat)).2.1.num=1:=κ;have d:(qD ((0:Int):Rat) ((0:Int):Rat) ((1:Int):Rat) ((0:Int):Rat)).2.2.num=0:=κ;rw [b,c,d];rintro r V' _ ⟨-,h⟩;exact h ω
def rK {p:L3->Prop}:∀{t:Tr} {k:Nat},t.dG p->∀x∈wr k t,p x.ln
 | .leaf _,_,_,x,h=>by simp [wr] at h
 | .node l a b,k,⟨u,y,z⟩,x,h=>by
  simp only [wr,ç,ü] at h;rcases h with rfl|h|h
  ·exact u
  ·exact rK y x h
  ·exact rK z x h
def Wz {t:Tr}(h:RW V p t):p.isSome=true:=by (cases t with|leaf i=>{obtain ⟨b,a,c,d,e,f,g,j,k,rfl,m⟩:=h;rfl}|node l x y=>{obtain ⟨b,i,b1,n,o,q,b2,r,s,a,b3,u,v,c,pl,w,rfl,-⟩:=h;rfl})
def X9:∀(t:Tr) {V:un} {p:OA} {lb:Nat} {n c:Nat} {vs:zA um} {l:zA Nd},RW V p t->t.dG lG->n=l.length ->(vs≠[]->V.w.heap[lb]?=some (.cells vs.toArray 154 (0,0)))->(vs≠[]->V.X lb)->n<=c->c*8<=vs.length->NR V vs l->n+t.size<=1000000 ->À 28 #[qvJ p,yG (mA lb c) n c] V λr V'=>∃(bm:Nat)(vm:zA um)(c':Nat),(vm≠[]->V'.w.heap[bm]?=some (.cells vm.toArray 154 (0,0)))/\(vm≠[]->V.w.heap.size<=bm\/(vs≠[]/\bm=lb))/\r=å #[yG (mA bm c') (n+t.size) c',Ô Ŵ (rt n t)]/\n+t.size<=c'/\c'*8<=vm.length/\NR (V'.aY (vm≠[]) bm) vm (l++wr n t)/\(t.size=0->c'=c):=by
 intro t
 induction t with
 | leaf i=>
  intro V p lb n c vs l F _ G a q s z H I;have f:=Wz F;obtain ⟨b,W,Y,c4,c5,c6,c7,c8,c9,rfl,A⟩:=F
  have fin:∀(D:un)(k:Nat)(x:Int),V.Le (D.aY (vs≠[]) k)->(vs≠[]->D.w.heap[k]?=some (.cells vs.toArray 154 (0,0))) ->
    (vs≠[]->V.w.heap.size<=k\/(vs≠[]/\k=lb)\/False)->x=rt n (.leaf i)->∃(bm:Nat)(vm:zA um)(c':Nat),(vm≠[]->D.w.heap[bm]?=some (.cells vm.toArray 154 (0,0)))/\(vm≠[]->V.w.heap.size<=bm\/(vs≠[]/\bm=lb)) /\
   Value.tuple #[yG (mA k c) n c,Ô Ŵ x]=å #[yG (mA bm c') (n+(Tr.leaf i).size) c',Ô Ŵ (rt n (.leaf i))]/\n+(Tr.leaf i).size<=c'/\c'*8<=vm.length/\NR (D.aY (vm≠[]) bm) vm (l++wr n (.leaf i))/\((Tr.leaf i).size=0->c'=c):=by
   intro D k x hle e3 e4 Z;refine ⟨k,vs,c,e3,λh=>?_,by rw [Z];rfl,s,z,?_,λ_=>rfl⟩
   ·rcases e4 h with h|h|h;{exact .inl h};{exact .inr h};exact h.elim
   ·simp only [wr,ć];exact H.le hle
  refine sS _ lb n c vs V _ a q ⟨f,f,true,yR A 0 rfl,λ_=>⟨f,f,i,yR A 1 rfl,λhi V1 k J E a3=>fin V1 k _ J E a3 (by subst hi;rfl),λhi V2 k J E a3=>fin V2 k _ J E a3 (by subst hi;rfl)⟩,λh=>by cases h⟩
 | node ln x y ihx ihy=>
  intro V p lb n c vs l F K G a q s z H I;have f:=Wz F;simp only [Tr.size] at I;obtain ⟨⟨-,a0⟩,a4,a8⟩:=K;obtain ⟨b,i,b1,p1,n1,c1,b2,p2,n2,W,b3,p3,n3,Y,pl,pr,rfl,A,hl,Z,hy⟩:=F
  have g:∀j v,([dB b1,yG p1 n1 c1,dB b2,yG p2 n2 W,dB b3,yG p3 n3 Y]:zA um)[j]?=some v->V.at ((⟨b,2,none⟩:Addr).add j) v:=by
   intro j v a
   have L:j<6:=by rcases ē j 6 with L|L;{exact L};rw [Ŧ (by simpa using L)] at a;cases a
   have h2:(⟨b,2,none⟩:Addr)=(⟨b,0,none⟩:Addr).add 2:=by rw [add_zero']
   rw [h2,HK,add_zero'];refine dM (xs:=[_,_,_,_,_,_,_,_,_,_]) A ?_
   match j,L,a with
   | 0,_,a=>exact a
   | 1,_,a=>exact a
   | 2,_,a=>exact a
   | 3,_,a=>exact a
   | 4,_,a=>exact a
   | 5,_,a=>exact a
  obtain ⟨t1,t2,t3⟩:=a0.ai;refine sS _ lb n c vs V _ a q ⟨f,f,false,yR A 0 rfl,Ŭ,λ_=>⟨f,f,b1,p1,n1,c1,b2,p2,n2,W,b3,p3,n3,Y,⟨b,2,none⟩,by simp [af,add_zero'],g 0 _ rfl,g 1 _ rfl,g 2 _ rfl,g 3 _ rfl,g 4 _ rfl,g 5 _ rfl,λD l3=>(zH ra ω ω).s ?_⟩⟩;rintro r V4 l4 M;obtain ⟨d1,q1,m1,e1,d2,q2,m2,e2,d3,q3,m3,e3,rfl⟩:=xV M;have N:=l3.m l4;refine wqQ ⟨rfl,ω,s,z,rfl,by intro v a;simp at a;rcases a with rfl|rfl|rfl|rfl|rfl|rfl|rfl|rfl<;>rfl,λsp c' g1 g2=>?_⟩;refine ⟨f,f,pl,yR (N _ _ A) 8 rfl,λB l5 O f1 f2=>?_⟩;have d:=NR.push (sp:=sp) (x:=0) (y:=0) ra ω (ln:=ln) M;rw [<-G] at d;generalize hrow:vs.take (n*8)++([_,_,_,_,_,_,_,_]:zA um)++sp=row at f1 f2 d ⊢
  have P:row.length=n*8+8+sp.length:=by rw [<-hrow];simp only [í,ë,Ċ,Ŀ];omega
  have Q:row≠[]:=λe=>by rw [e] at P;simp only [Ŀ] at P;omega
  have C:=N.m l5;refine (ihx (V:=B.au [vb row B.w.heap.size O]) (p:=pl) (lb:=O) (n:=n+1) (c:=c') (vs:=row) (l:=l++[⟨ln,0,0⟩]) (RW.le (V:=V) (V':=B.au _) (λb o h=>C b o h) Z) a4 (by simp [G]) f1 (λh=>⟨by simp [mB h],f2 h⟩) g1 ω (NR.le (V:=V4) (V':=B.au _) d λb o h=>l5 b o h) ω).s ?_;rintro r V6 l6 ⟨bm,vm,a9,J,E,rfl,a5,a6,a7,-⟩;have Va:B.Le V6:=λb o h=>l6 b o h;have R:=rJ (V':=B) Va (Ó.Le.refl B) λh=>(E h).imp id λh'=>by rw [h'.2];exact f2 Q
  refine ⟨bm,vm,J,E,none,_,_,_,rfl,f,f,pr,yR ((C.m R) _ _ A) 9 rfl,λT l7 S d1 d2=>?_⟩;have b0:vm≠[]:=λe=>by rw [e] at a6;simp at a6;omega
  refine (ihy (V:=T.au [vb vm T.w.heap.size S]) (p:=pr) (lb:=S) (n:=n+1+x.size) (c:=a9) (vs:=vm) (l:=l++[⟨ln,0,0⟩]++wr (n+1) x) (RW.le (V:=V) (V':=T.au _) (λb o h=>((C.m R).m l7) b o h) hy) a8 (by simp [G,jH];omega) d1 (λh=>⟨by simp [mB h],d2 h⟩) a5 a6 (NR.le (V:=V6.aY (vm≠[]) bm) (V':=T.au _) a7 λb o h=>l7 b o h) ω).s ?_;rintro r V8 l8 ⟨bn,U,b8,b9,c0,rfl,b5,b6,b7,-⟩;have hlen:n*8+8<=U.length:=ω
  simp only [Ý];refine ⟨bn,U,b9,c0,none,_,_,_,rfl,ų,b5,ω,ų,b5,by rw [Qg1];omega,λV9 PO u1 u4 u5=>?_⟩;have m:=NR.kids (V:=V8.aY (U≠[]) bn) (l:=l) (r:=wr (n+1) x++wr (n+1+x.size) y) (ln:=ln) (u:=0) (v:=0) (x:=rt (n+1) x) (y:=rt (n+1+x.size) y) (by simpa using b7);rw [<-G] at m;refine ⟨PO,_,b8,u4,λh=>?_,by rw [show n+(Tr.node ln x y).size=n+1+x.size+y.size from by simp only [Tr.size];omega];rfl,by simp only [Tr.size];omega,by simp only [Qg1];omega,?_,λh=>by simp only [Tr.size] at h;omega⟩
  ·rcases u5 h with h|h|h;{exact .inl h};{exact .inr h};exact h.elim
  ·simp only [wr];exact NR.le (V:=V8.aY (U≠[]) bn) m λb o h=>u1 b o h
def Ch {t:Tr}(h:RW V p t)(E:t.dG lG)(F:t.size<=1000000):À 6 #[qvJ p] V λr W=>AT W r (rt 0 t) (wr 0 t)/\(t.size=0->r=hF #[Ô Ŵ (rt 0 t),yG none 0 0]):=by refine EB V _ λg j=>?_;refine ae.monoH (X9 t (V:=g) (lb:=0) (vs:=[]) (l:=[]) (n:=0) (c:=0) (h.le j) E rfl (λh=>Å rfl h) (λh=>Å rfl h) (Ù _) (Ù _) (λi d k=>by simp at k) ω) ?_;rintro r V2 B C ⟨m,vm,q,s,u,rfl,a,D,e,v⟩;refine ⟨m,vm,s,λh=>(u h).imp id λw=>Å rfl w.1,none,_,_,_,rfl,λx y z A=>?_⟩;simp only [Œ,ĉ] at e a ⊢;have:=NS.ofRow (V:=x) (b:=z) (c:=q) (vm:=vm) (l:=wr 0 t) (ty:=154) A (by rw [jH];exact a) (e.le λb o h=>y b o h);rw [jH] at this;refine ⟨⟨_,_,_,rfl,this⟩,λf=>?_⟩;rw [v f,f];rfl
def uo {V:un}{p:OA}{t:Tr}(h:RW V p t)(u:t.dG lG)(y:t.size<=1000000:=by omega):À 6 #[qvJ p] V λr W=>AT W r (rt 0 t) (wr 0 t):=(Ch h u y).s λ_ _ _ h=>h.1
def Qf (V:Ó):Ó:=⟨V.w,λb=>b<V.w.heap.size,λ_=>False,λ_ h=>h,λ_ h=>h.elim⟩
def Nq {f:FuncId}{args:Array um}{o:Obj}(h:À f args (Qf V) λr W=>∃u,r=qvJ (some ⟨u,0,none⟩)/\W.bo u o):À f args V λr W=>∃u,r=qvJ (some ⟨u,0,none⟩)/\V.w.heap.size<=u/\W.bo u o:=
 ⟨h.1,h.2.s λ_ _ ⟨_,he,a,u,d,c⟩=>⟨_,he,⟨a.size,λb c _=>a.bo b c (λh=>h),a.os,a.tape,a.out,a.dr⟩,u,d,Nat.le_of_not_lt c.1,λe=>c.1 (V.hH u e),c.2⟩⟩
def Kz {y:OA}{ln lc:Nat}(z:ln<=lc):À 4 #[yG y ln lc] V λr W=>∃u,r=qvJ (some ⟨u,0,none⟩)/\V.w.heap.size<=u/\W.bo u (.cells #[yG y (min ln 400) lc,Ô Ŵ 0] 81 (0,0)):=by refine Nq (JT (Qf V) _ ?_);have e:cM (ln:Int) 400=((min ln 400:Nat):Int):=by{unfold cM;simp only [Nat.min_def];split<;>split<;>omega};rw [e,Ý];have:=Wv3 ln 400;exact ⟨ų,λb c u a=>⟨u,rfl,a⟩⟩
def Qw {t:Tr}(h:t.dG lG):t.dG λx=>bY x=true:=Tr.dG.imp (λ_ h=>h.1) h
def IQ {t:Tr}(h:t.dG lG):t.dG Bd:=Tr.dG.imp (λ_ h=>h.2) h
def Tc (l:zA (Rat×Rat)):∃m:zA (Rat×Rat),m.Perm l/\m.Pairwise λx y=>¬Rx y x<0:=by refine ⟨l.mergeSort (λx y=>decide (¬Rx y x<0)),List.mergeSort_perm ..,?_⟩;refine (List.pairwise_mergeSort (le:=λx y=>decide (¬Rx y x<0)) (λa b c d e=>?_) (λa b=>?_) l).imp λh=>Á h;{exact Ç (ao.BM c b a (Á e) (Á d))};by_cases h:Rx b a<0;{have:=ao.PI b a h;rw [Qf9];exact .inr (Ç this)};rw [Qf9];exact .inl (Ç h)
def KB (l:L3):bF (bF l)=bF l:=by unfold bF;by_cases h:l.1<0\/l.1=0/\l.2.1<0;{rw [Ä h,Ã];unfold Õ;dsimp only;omega};rw [Ã h,Ã h]
def IP (h:bY l=true):bY (bF l)=true:=by unfold bF;split;{unfold bY Õ cj at *;simp only [Ũ];rw [Č,decide_eq_true_iff,decide_eq_true_iff] at h ⊢;exact ⟨λe=>h.1 ų,h.2⟩};exact h
end Go.Proofs.Tryz
namespace Go.Eng
def Ó.bare (V:Ó)(b:Nat):Ó:=⟨V.w,λx=>V.H x/\x≠b,λx=>V.X x/\x≠b,λx h=>V.hH x h.1,λx h=>⟨V.hX x h.1,h.2⟩⟩
def Ó.XS (V:un)(b:Nat):V.Le (V.bare b):=λ_ _ h=>⟨λa=>h.1 a.1,h.2⟩
def ae.bare {P:Program}{f:FuncId}{args:Array um}{V:un}{b:Nat}{R:um->un->Prop}(u:b<V.w.heap.size)(h:ae P f args (V.bare b) R):ae P f args V λr V'=>V'.w.heap[b]?=V.w.heap[b]?/\R r (V'.bare b):=by refine ⟨h.1,h.2.s λ_ g ⟨r,he,a,c⟩=>⟨r,he,⟨a.size,λx d e=>a.bo x d λh=>e h.1,a.os,a.tape,a.out,a.dr⟩,a.bo b u (λh=>h.2 rfl),c⟩⟩
theorem Ó.jT {V:un}{b:Nat}{a:Addr}{v:um}(h:(V.bare b).at a v)(u:a.block≠b):V.at a v:=⟨λc=>h.1 ⟨c,u⟩,h.2⟩
def J_ (V:Ó)(b:Nat):Prop:=∃(cs:Array Value)(ty:TypeId)(m:Nat×Nat),V.w.heap[b]?=some (.cells cs ty m)/\∀v∈cs,∀k z,v≠.int k z
def J_.ne {V:un}{b:Nat}(h:J_ V b){a:Addr}{k:IntKind}{z:Int}(u:(V.bare b).at a (Ô k z)):a.block≠b:=by obtain ⟨cs,ty,m,d,g⟩:=h;intro e;have c:=u.2;unfold World.cell? at c;rw [e] at c;have f:(V.bare b).w.heap[b]?=some (.cells cs ty m):=d;grind
end Go.Eng
namespace Go.Proofs.Tryz
open Go.Eng Go.Big
variable{V:Ó}{b k n:Nat}{p:OA}{v:Value}{l m:L3}{s:Sp}{ss:List Sp}
theorem RD.jT (u:J_ V b){c:Nat}{ds:zA Nat}(h:RD (V.bare b) p n c ds):RD V p n c ds:=by refine ⟨h.len,h.cap,λi v a=>?_,h.gi,h.Ll⟩;have ⟨f,e,g⟩:=h.sl i v a;have:∃d:Int,v=Ô .u32 d:=by{unfold aQ at a;grind};grind [Ó.jT,u.ne]
def RL.jT (u:J_ V b){x y z:Int}(h:RL (V.bare b) v x y z):RL V v x y z:=by obtain ⟨_,_,_,_,_,_,_,_,_,e,a,c,d⟩:=h;exact ⟨_,_,_,_,_,_,_,_,_,e,RD.jT u a,RD.jT u c,RD.jT u d⟩
theorem Ga (a:Addr)(i:Nat):(a.add i).block=a.block:=by unfold Addr.add;split<;>rfl
theorem AT.jT (M:J_ V b){root:Int}{l:zA Nd}(h:AT (V.bare b) v root l)(N:∀x∈l,bY x.ln=true):AT V v root l:=by obtain ⟨q,n,c,rfl,f⟩:=h;refine ⟨q,n,c,rfl,f.len,f.cap,?_,f.Ll⟩;obtain ⟨A,a,k⟩:=f.row;(cases l with|nil=>{exact ⟨[],λi v h=>by simp at h,λi d h=>by simp at h⟩}|cons d l=>{have B:∀g,q=some g->g.block≠b:=by{intro g e;obtain ⟨b1,m,o,p,b2,r,s,t,b3,u,w,y,j,-⟩:=k 0 d rfl;obtain ⟨C,G,D⟩:=a _ _ (j 6 _ rfl);grind [M.ne,Ga]};refine ⟨A,λi v E=>?_,λi x z=>?_⟩;{have ⟨g,e,D⟩:=a i v E;grind [Ó.jT,Ga]};obtain ⟨b1,m,o,p,b2,r,s,t,b3,u,w,y,j,F⟩:=k i x z;exact ⟨b1,m,o,p,b2,r,s,t,b3,u,w,y,j,.inl (RL.jT M (F.ok (N x (Ď z))))⟩})
def Xc:∀{t:Tr} {k:Nat},t.dG lG->∀x∈wr k t,bY x.ln=true
 | .leaf _,_,_,x,h=>by cases h
 | .node l a b,k,⟨u,y,z⟩,x,h=>by
  rcases ç.1 h with rfl|h
  ·exact u.1
  ·rcases ü.1 h with h|h
   ·exact Xc y x h
   ·exact Xc z x h
def uV {V:un}{u:Nat}{i:ut}{b1:ut}{E:OA}{F c1:Nat}{b2:ut}{M:OA}{N O:Nat}{b3:ut}{Z:OA}{n3 c3:Nat}{pl pr:OA}{ln:L3}{x y:Tr}(hw:V.w.heap[u]?=some (.cells #[dB false,dB i,dB b1,yG E F c1,dB b2,yG M N O,dB b3,yG Z n3 c3,qvJ pl,qvJ pr] 88 (0,0)))(hl:RL V (hF #[dB b1,yG E F c1,dB b2,yG M N O,dB b3,yG Z n3 c3]) ln.1 ln.2.1 ln.2.2)(hx:RW V pl x)(hy:RW V pr y)(ha:(Tr.node ln x y).dG lG)(hs:(Tr.node ln x y).size<=1000000):À 6 #[qvJ (some ⟨u,0,none⟩)] V λr W=>W.w.heap[u]?=some (.cells #[dB false,dB i,dB b1,yG E F c1,dB b2,yG M N O,dB b3,yG Z n3 c3,qvJ pl,qvJ pr] 88 (0,0))/\AT W r (rt 0 (.node ln x y)) (wr 0 (.node ln x y)):=by have a:=(Qr4.1 hw).1;have b:=V.XS u;refine (ae.bare a (uo (V:=V.bare u) (p:=some ⟨u,0,none⟩) (t:=.node ln x y) ⟨u,i,b1,E,F,c1,b2,M,N,O,b3,Z,n3,c3,pl,pr,rfl,⟨λh=>h.2 rfl,hw⟩,hl.le b,hx.le b,hy.le b⟩ ha hs)).s ?_;rintro r V' g ⟨c,d⟩;rw [hw] at c;refine ⟨c,AT.jT ⟨_,_,_,c,?_⟩ d (Xc ha)⟩;intro v f k z e;subst e;simp at f
def Ic {t:Tr}{p:Rat×Rat}{c:Int}(h:jI t p c)(hm:ao.dW t p=[]):c=if (ao.gX t p (1,0)).1 then 2 else 0:=by have:=h [] [(1,0)] ⟨λr h=>(by cases h),λr h=>(by cases h),List.Pairwise.nil⟩ (.inl ⟨rfl,rfl⟩) (by rw [hm];intro l h;cases h);rw [this];unfold ao.anyS ao.qH R7;simp only [List.any_cons,List.any_nil,Bool.or_false,List.all_cons,List.all_nil,Wk6];cases (ao.gX t p (1,0)).1<;>rfl
theorem sZ {a b:Rat}:dw a b<0↔a<b:=by grind [iW.1,Ig.1,Bf.1]
def BA:Sz 10 ((1:Int):Rat):=Fj (z:=1)
def sz_v (h:Bd l){p:Rat×Rat}(s1:Sz k p.1)(s2:Sz k p.2):Sz (2*k+3010) (aw l p.1 p.2):=by have:=h.iP;exact (((this.1.mul s1).add (this.2.1.mul s2)).add this.2.2).s ω
theorem VG {p v:Rat×Rat}{ls:zA L3}{i:Nat}(h:i<ls.length)(s:Rat):(ls.take (i+1)).foldl (ao.wT p v) s=ao.wT p v ((ls.take i).foldl (ao.wT p v) s) ls[i]:=by grind [List.take_append_getElem]
theorem Lk {t:Tr}{p v:Rat×Rat}{s:Rat}(u:s>0)(y:∀l∈bq t.cQ,ao.J6 l p v s):∀l∈t.cQ,(aw l p.1 p.2≠0->(aw l (p.1+s*v.1) (p.2+s*v.2)).num.sign=(aw l p.1 p.2).num.sign)/\(aw l p.1 p.2=0->(aw l (p.1+s*v.1) (p.2+s*v.2)).num.sign=(ao.nv l v).num.sign):=λl b=>by
 rw [ao.jX];refine ⟨λh=>?_,λh=>?_⟩
 ·have f:=y _ ((iD t.cQ).2 _ |>.2 (Wx0 b));unfold bF at f;split at f
  ·have c:aw (Õ l) p.1 p.2=-aw l p.1 p.2:=by unfold aw Õ;simp only [Qd6];grind
   have d:ao.nv (Õ l) v=-ao.nv l v:=by unfold ao.nv Õ;simp only [Qd6];grind
   unfold ao.J6 at f;rw [c,d] at f;have f:=f χ;rw [show -aw l p.1 p.2+s*-ao.nv l v=-(aw l p.1 p.2+s*ao.nv l v) by grind,Qp6,Qp6,Int.sign_neg,Int.sign_neg] at f;omega
  ·exact f h
 ·rw [h];by_cases a:ao.nv l v>0
  ·rw [ao.dT.2 a,ao.dT.2 (by have:=ao.mp u a;grind)]
  ·by_cases e:ao.nv l v<0
   ·rw [ao.dR.2 e,ao.dR.2 (by have:=ao.mp u (show -ao.nv l v>0 by grind);grind)]
   ·have:ao.nv l v=0:=χ
    rw [this,show (0:Rat)+s*0=0 by grind]
def SN {t:Tr}{p v:Rat×Rat}{s:Rat}(u:s>0)(y:∀l∈bq t.cQ,ao.J6 l p v s)(z:∀l∈ao.dW t p,ao.nv l v≠0){c:Int}(E:jI t (p.1+s*v.1,p.2+s*v.2) c):c=if (ao.gX t p v).1 then 2 else 0:=by have ⟨a,b⟩:=ao.DU (w:=(1,0)) (q:=(p.1+s*v.1,p.2+s*v.2)) (Lk u y) z;rw [Ic E b,a]
theorem P5 {a b:Rat}:dw a b>0↔b<a:=by grind [cz]
abbrev S16:=Bool×OA×Nat×Nat×OA×Nat×Nat×Bool×OA×Nat×Nat×OA×Nat×Nat×Bool×Bool
def agS (z:S16):Value:=.agg #[.bool z.1,.slice z.2.1 z.2.2.1 z.2.2.2.1,.slice z.2.2.2.2.1 z.2.2.2.2.2.1 z.2.2.2.2.2.2.1,.bool z.2.2.2.2.2.2.2.1,.slice z.2.2.2.2.2.2.2.2.1 z.2.2.2.2.2.2.2.2.2.1 z.2.2.2.2.2.2.2.2.2.2.1,.slice z.2.2.2.2.2.2.2.2.2.2.2.1 z.2.2.2.2.2.2.2.2.2.2.2.2.1 z.2.2.2.2.2.2.2.2.2.2.2.2.2.1,.bool z.2.2.2.2.2.2.2.2.2.2.2.2.2.2.1,.bool z.2.2.2.2.2.2.2.2.2.2.2.2.2.2.2]
theorem rsS {u:ut}{y:OA}{z xc:Nat}{E:OA}{F M:Nat}{N:ut}{O:OA}{Z yc:Nat}{yq:OA}{ym ye:Nat}{xa ya:ut}(h:t_ V (hF #[dB u,yG y z xc,yG E F M,dB N,yG O Z yc,yG yq ym ye,dB xa,dB ya]) s):xa=s.a/\ya=s.b/\RQ V (hF #[dB u,yG y z xc,yG E F M]) s.lo/\RQ V (hF #[dB N,yG O Z yc,yG yq ym ye]) s.hi:=by obtain ⟨_,_,_,_,_,_,_,_,_,_,_,_,_,_,e,c,d⟩:=h;grind
def rsS' {u:ut}{y:OA}{z xc:Nat}{E:OA}{F M:Nat}{N:ut}{O:OA}{Z yc:Nat}{yq:OA}{ym ye:Nat}{xa ya:ut}(ea:xa=s.a)(eb:ya=s.b)(h1:RQ V (hF #[dB u,yG y z xc,yG E F M]) s.lo)(h2:RQ V (hF #[dB N,yG O Z yc,yG yq ym ye]) s.hi):t_ V (hF #[dB u,yG y z xc,yG E F M,dB N,yG O Z yc,yG yq ym ye,dB xa,dB ya]) s:=by subst ea eb;exact qxW ⟨rfl,h1,h2⟩
def rM (l m:L3)(s:Sp):Sp:=if 0<(Ü m l).num.sign then (if s.a=true\/s.lo<qc l m then ⟨qc l m,s.hi,false,s.b⟩ else s) else (if s.b=true\/qc l m<s.hi then ⟨s.lo,qc l m,s.a,false⟩ else s)
def GP (u:Þ l m≠0):wB l m s=if (rM l m s).a=false/\(rM l m s).b=false/\(rM l m s).hi<=(rM l m s).lo then none else some (rM l m s):=by unfold wB;rw [Ã u];rfl
def Sf (u:Þ l m=0):wB l m s=if (aw m (dm l 0) (du l 0)).num.sign<=0 then none else some s:=by unfold wB;rw [Ä u]
def QZ (u:Nz l)(y:Bd l)(z:Bd m)(E:Þ l m≠0):Sz 100000 (qc l m):=by rw [De u E];exact (qj y.iP z.iP).s ω
def mid_sz (y:Nz l)(z:Bd l)(E:Bd m)(F:Þ l m≠0)(u:s.sz 100000):(rM l m s).sz 100000:=by
 have:=QZ y z E F;unfold rM;split<;>split<;>first|exact u|exact ⟨this,u.2⟩|exact ⟨u.1,this⟩
theorem UB {s w:Sp}(z:Nz l)(u:Bd l)(y:Bd m)(E:s.good)(F:s.sz 100000)(e:wB l m s=some w):w.good/\w.sz 100000:=by grind [Cq,lR,Bz,u.iP,y.iP]
theorem QG {L:L3}(h:RL V v L.1 L.2.1 L.2.2)(u:Nz L)(y:Bd L):À 37 #[v] V λr W=>RP W r (dm L 0) (du L 0):=by have sl:=y.iP;refine (vX h (OQ u) sl.1 sl.2.1 sl.2.2).s λr V' _ g=>?_;have a:dm L 0=_:=rfl;unfold dm du;unfold gP;grind
def Jo {L:L3}(u:Bd L):Sz 30000 (dm L 0)/\Sz 30000 (du L 0):=by have sl:=u.iP;exact ⟨Sz.s (DM sl (DP 1000)) ω,Sz.s (DN sl (DP 1000)) ω⟩
theorem wb {cp:OA}{cn cc:Nat}{ls:zA L3}{i:Nat}(h:bP 6 dH V cp cn ls)(hb:∀l∈ls,Bd l)(hk:∀l∈ls,bY l=true)(hl:ls.length<=1000)(hi:i<ls.length):À 183 #[yG cp cn cc,Ô Ŵ i] V λr W=>∃u s,r=å #[u,dB (eY ls[i] ls ã).isSome]/\t_ W u s/\s.sz 100000/\∀w,eY ls[i] ls ã=some w->s=w:=by
 have hn:=h.len;subst hn;obtain ⟨is,b1,p1,n1,c1,b2,p2,n2,c2,b3,p3,n3,c3,a,Y,a0,a1,a2,a3,a4,a5,n⟩:=IG h hi;have x:=hb _ (ú hi);have ok:=hk _ (ú hi);generalize el:ls[i]=L at *;have sl:=x.iP;have nz:=fY ok;have hd:=DO x;refine F2 V _ ⟨is,ų,b1,p1,n1,c1,b2,p2,n2,c2,b3,p3,n3,c3,a,(by rw [Ý];exact Y),a0,a1,a2,a3,a4,a5,λV1 l1=>vZ.s ?_⟩;rintro r V2 l2 gf;obtain ⟨_,rfl⟩:=Ź (rZ gf);refine ⟨_,_,_,_,_,_,_,_,_,_,_,_,_,_,_,_,rfl,λz V'=>∃(j:Nat)(s:Sp),z.1=(j:Int)/\j<=ls.length/\t_ V' (agS z.2) s/\s.good/\s.sz 100000/\eY L ls ã=eY L (ls.drop j) s,λz=>(ls.length-z.1).toNat,⟨(0,_,_,_,_,_,_,_,_,_,_,_,_,_,_,_,_),Ų,0,ã,rfl,ä _,gf,iJ,Yr,by rw [Wz5]⟩,?_⟩;rintro ⟨z,C,D,E,F,G,H,I,J,N,O,P,Q,S,T,U,X⟩ V3 l3 ⟨j,s,ez,hj,gs,Z,y,d⟩;dsimp only at ez gs ⊢;subst ez;obtain ⟨rfl,rfl,o,p⟩:=rsS gs;have b0:=(l1.m l2).m l3;refine ⟨θ,λf=>?_,λf b5 tP=>?_⟩;rotate_left
 ·have e:j=ls.length:=by{have:=Â f;omega};subst e;rw [Wq8] at d;exact ⟨_,s,by rw [d];rfl,gs.le tP,y,λw e=>by rw [d] at e;exact ő e⟩
 have f:j<ls.length:=by have:=Á f;omega
 have w1:Ŵ.wrap ((j:Int)+1)=((j+1:Nat):Int):=by rw [ay ω];rfl
 rw [w1,Ý];refine ldL (R:=dH) bN ra f λB1 P1 N1 C1 B2 P2 N2 C2 B3 P3 N3 C3 q=>?_;have A:=hb _ (ú f);have sm:=A.iP;have N_:=DO A;have ej:j=i->ls[j]=L:=λe=>by subst e;exact el
 rw [(ī f)] at d;generalize ls[j]=M at *;have a6:eY L (M::ls.drop (j+1)) s=if M=L then eY L (ls.drop (j+1)) s else match wB L M s with|some s'=>eY L (ls.drop (j+1)) s'|none=>none:=rfl
 rw [a6] at d;have next:∀{W:un} {C:ut} {D:OA} {E F:Nat} {G:OA} {H I:Nat} {J:ut} {N:OA} {O P:Nat} {Q:OA} {S T:Nat} {U X:ut} {s':Sp},t_ W (hF #[dB C,yG D E F,yG G H I,dB J,yG N O P,yG Q S T,dB U,dB X]) s'->s'.good->s'.sz 100000->eY L ls ã=eY L (ls.drop (j+1)) s'->∃(j':Nat)(s:Sp),((j+1:Nat):Int)=(j':Int)/\j'<=ls.length/\t_ W (hF #[dB C,yG D E F,yG G H I,dB J,yG N O P,yG Q S T,dB U,dB X]) s/\s.good/\s.sz 100000/\eY L ls ã=eY L (ls.drop j') s:=λg1 g2 g3 e=>⟨j+1,_,rfl,f,g1,g2,g3,e⟩;refine ⟨λz _=>z=decide (M=L),⟨λc=>⟨true,σ,?_⟩,λc V4 l4=>(mM (n.le aA) (q.le l4) sl sm).s ?_⟩,?_⟩
 ·exact (Ç (ej (by have:=Á c;omega))).symm
 ·rintro r V5 l5 rfl;exact ⟨_,rfl,(j9 L M==(0:Int)),σ,by rw [KD];exact É.2 eq_comm⟩
 rintro z V6 l6 rfl;refine ⟨θ,λc=>?_,λc V7 l7=>(OP (n.le aA) (q.le aA) sl sm).s ?_⟩
 ·rw [Ä (Á c)] at d;exact ⟨(((j+1:Nat):Int),_,_,_,_,_,_,_,_,_,_,_,_,_,_,_,_),ω,σ,next (gs.le l6) Z y d⟩
 rw [Ã (Â c)] at d;rintro r V8 l8 ⟨u,rfl,q0,q1⟩;have ⟨s1,s2⟩:=Jq sl sm;have Qm:=l6.m (l7.m l8);by_cases t:Þ L M=0
 ·have qz:=q0 t;unfold PF at qz;subst qz;rw [Sf t] at d;refine wqK ⟨rfl,λ_ V9 l9=>(QG (n.le aA) nz x).s ?_,λh=>by simp [t] at h⟩;rintro r fD a7 gB;obtain ⟨_,rfl,-⟩:=Ÿ gB;have B:=Qm.m (l9.m a7);refine qxW ⟨rfl,λeX dq=>(I9 (q.le aA) (gB.le dq) (sm.up (K:=30000) ω) (Jo x).1 (Jo x).2).s ?_⟩;rintro r gQ eJ rfl;have SC:=B.m (dq.m eJ);refine ⟨_,rfl,λc ji fk=>?_,λc=>?_⟩;{rw [Ä (Á c)] at d;exact ⟨_,s,by rw [d];rfl,gs.le aA,y,λw e=>by rw [d] at e;cases e⟩};rw [Ã (Â c)] at d;exact ⟨(((j+1:Nat):Int),_,_,_,_,_,_,_,_,_,_,_,_,_,_,_,_),ω,σ,next (gs.le SC) Z y d⟩
 have hp:=q1 t;obtain ⟨_,rfl,-⟩:=Ÿ hp;refine wqK ⟨rfl,λh=>by simp [t] at h,λ_ lH iL=>(Bu (n.le aA) (hp.le iL) nz (sl.up (K:=30000) ω) (s1.s ω) (s2.s ω)).s ?_⟩;rintro r mJ iE gt;obtain ⟨_,rfl⟩:=Ŷ gt.shape;have st:=QZ nz x A t;have YS:=Qm.m (iL.m iE);refine qxQ ⟨rfl,λko gV=>(fQ (q.le aA) sm.1 sm.2.1 sm.2.2 ω).s ?_⟩;rintro r nk kf gm;obtain ⟨_,rfl,-⟩:=Ÿ gm;have YT:=YS.m aA;refine qxW ⟨rfl,λnq iF=>(fQ (n.le aA) sl.1 sl.2.1 sl.2.2 ω).s λr qM lD gl=>RP.ex gl λ_ _ gl _ _=>λuJ kN=>(jM (k:=1000) (gm.le aA) (gl.le kN) N_.1 N_.2 hd.1 hd.2).s ?_⟩;rintro r tM rI gc
 have b6:RQ tM r (Ü M L):=by have e:=(Uq M L).symm;rw [e];exact gc
 obtain ⟨_,rfl⟩:=Ŷ gc.shape;refine qxQ ⟨rfl,λvO oX=>(ou ra).s ?_⟩;rintro r vP oY rfl;have a9:=((YT.m aA).m aA).m aA;have a8:=(gV.m kf).m ((iF.m lD).m ((kN.m rI).m aA));refine ⟨_,rfl,λz W=>t_ W (agS z) (rM L M s),⟨λv=>?_,λv=>?_⟩,?_⟩
 ·have v:=Á v;refine ⟨λz _=>z=decide (s.a=true\/s.lo<qc L M),⟨λm=>⟨true,σ,?_⟩,λm EL tO=>(e_ (gt.le aA) (o.le aA) st y.1).s ?_⟩,?_⟩;{exact (Ç (.inl m)).symm};{rintro r Na qI rfl;refine ⟨_,rfl,decide (dw (qc L M) s.lo>(0:Int)),σ,?_⟩;rw [m];exact É.2 ⟨λh=>.inr (P5.1 h),λh=>h.elim π P5.2⟩};rintro z Rk Ng rfl;refine ⟨θ,λc=>⟨(_,_,_,_,_,_,_,_,_,_,_,_,_,_,_,_),σ,?_⟩,λc=>⟨(_,_,_,_,_,_,_,_,_,_,_,_,_,_,_,_),σ,?_⟩⟩;{have e:rM L M s=⟨qc L M,s.hi,false,s.b⟩:=by{unfold rM;rw [Ä v,Ä (Á c)]};rw [e];exact rsS' rfl rfl (gt.le aA) (p.le aA)};have e:rM L M s=s:=by{unfold rM;rw [Ä v,Ã (Â c)]};rw [e];exact ra
 ·have v:=Â v;refine ⟨λz _=>z=decide (s.b=true\/qc L M<s.hi),⟨λm=>⟨true,σ,?_⟩,λm EL tO=>(e_ (gt.le aA) (p.le aA) st y.2).s ?_⟩,?_⟩;{exact (Ç (.inl m)).symm};{rintro r Na qI rfl;refine ⟨_,rfl,decide (dw (qc L M) s.hi<(0:Int)),σ,?_⟩;rw [m];exact É.2 ⟨λh=>.inr (sZ.1 h),λh=>h.elim π sZ.2⟩};rintro z Rk Ng rfl;refine ⟨θ,λc=>⟨(_,_,_,_,_,_,_,_,_,_,_,_,_,_,_,_),σ,?_⟩,λc=>⟨(_,_,_,_,_,_,_,_,_,_,_,_,_,_,_,_),σ,?_⟩⟩;{have e:rM L M s=⟨s.lo,qc L M,s.a,false⟩:=by{unfold rM;rw [Ã v,Ä (Á c)]};rw [e];exact rsS' rfl rfl (o.le aA) (gt.le aA)};have e:rM L M s=s:=by{unfold rM;rw [Ã v,Ã (Â c)]};rw [e];exact ra
 rw [GP t] at d;have kk:=λw=>UB (w:=w) nz x A Z y;rw [GP t] at kk;have sz:=mid_sz nz x A t y;generalize rM L M s=s' at *;clear gs o p;rintro ⟨C,D,E,F,G,H,I,J,N,O,P,Q,S,T,U,X⟩ TD Nh gs;dsimp only at gs ⊢;obtain ⟨rfl,rfl,o,p⟩:=rsS gs;refine ⟨θ,λz _=>z=decide (s'.a=false/\s'.b=false/\s'.hi<=s'.lo),⟨λm=>⟨λhb b7 G_=>(e_ ra ra sz.1 sz.2).s ?_,λhb=>⟨false,σ,?_⟩⟩,λm=>⟨false,σ,?_⟩⟩,?_⟩
 ·rintro r b8 IA rfl;rw [Į] at m hb;refine ⟨_,rfl,decide (dw s'.lo s'.hi≥(0:Int)),σ,É.2 ⟨λh=>⟨m,hb,?_⟩,λh=>?_⟩⟩;{refine Rat.not_lt.1 λg=>?_;have:=sZ.2 g;omega};refine Ww6.1 λg=>?_;have:=sZ.1 g;have:=h.2.2;grind
 ·rw [ŏ] at hb;exact (È λh=>by rw [hb] at h;cases h.2.1).symm
 ·rw [ŏ] at m;exact (È λh=>by rw [m] at h;cases h.1).symm
 rintro z TE Bp rfl;refine ⟨θ,λc b9 Lb=>?_,λc=>?_⟩
 ·rw [Ä (Á c)] at d;exact ⟨_,s',by rw [d];rfl,gs.le aA,sz,λw e=>by rw [d] at e;cases e⟩
 ·rw [Ã (Â c)] at d kk;have ⟨k1,k2⟩:=kk _ rfl;exact ⟨(((j+1:Nat):Int),_,_,_,_,_,_,_,_,_,_,_,_,_,_,_,_),ω,σ,next (gs.le Bp) k1 k2 d⟩
def PH.lst (h:PH V p n ss):bP 8 t_ V p n ss:=by refine ⟨h.len,λi b=>?_⟩;have ⟨c,d,xs,a,f⟩:=h.at_ i b;obtain ⟨_,_,_,_,_,_,_,_,_,_,_,_,_,_,e,-,-⟩:=xl a;exact ⟨c,d,xs,by rw [e];rfl,a,f⟩
def wN (h:bP 8 t_ V p n ss):PH V p n ss:=
 ⟨h.len,λi a=>by obtain ⟨b,c,xs,-,d,e⟩:=h.at_ i a;exact ⟨b,c,xs,d,e⟩⟩
def LX {vs:zA um}(h:è 8 t_ V vs ss){m:Nat}(hm:m<ss.length*8)(u:vs[m]?=some v):v.oneCell'=true:=by have c:m/8<ss.length:=ω;have ⟨xs,d,f,g⟩:=h.at_ (m/8) c;obtain ⟨_,_,_,_,_,_,_,_,_,_,_,_,_,_,e,-,-⟩:=xl f;have b:m%8<xs.length:=by{rw [d];exact ę _ φ};have i:m=m/8*8+m%8:=ω;have:=g (m%8) _ (ñ b);rw [<-i,u] at this;obtain rfl:=ő this;have a:=ú b;generalize xs[m%8]=v at a;subst e;simp only [ç,ě,Ì] at a;rcases a with rfl|rfl|rfl|rfl|rfl|rfl|rfl|rfl<;>rfl
def sz_hlf {x:Rat}(h:Sz k x):Sz (k+3) (x*((2:Int):Rat)⁻¹):=by have a:Sz 2 ((2:Int):Rat)⁻¹:=by{unfold Sz;decide +kernel};exact (h.mul a).s ω
def SW {c:zA Rat}(h:∀q∈c,Sz k q){q:Rat}(u:q∈dY c):Sz (2*k+4) q:=by have g:∀i,i<c.length->Sz k (c.getD i 0):=λi a=>by{rw [jQ a];exact h _ (ú a)};have z:Sz (2*k+4) 0:=by{have b:(1:Nat)<2^(2*k+4):=Qf0 ω;exact ⟨ş (ä _) b,b⟩};unfold dY at u;by_cases d:c.length=0;{rw [Ä d] at u;obtain rfl:q=0:=by{simpa using u};exact z};rw [Ã d] at u;rcases ü.1 u with u|u;{unfold Fg at u;rcases ç.1 u with rfl|u;{exact ((g 0 ω).sub jW).s ω};obtain ⟨i,a,rfl⟩:=þ.1 u;rw [Wq0] at a;exact (sz_hlf ((g i ω).add (g (i+1) ω))).s ω};obtain rfl:q=_:=by{simpa using u};exact ((g _ ω).add jW).s ω
def qw {op:Int}{ap bp:OA}{an ac bn bc:Nat}{la' lb':zA Sp}(ha:PH V ap an la')(hb:PH V bp bn lb')(hl:la'.length+lb'.length<10000000)(sa:∀s∈la',s.sz k)(sb:∀s∈lb',s.sz k)(hk:4*k+8<2^38):À 234 #[Ô Ŵ op,yG ap an ac,yG bp bn bc] V λr W=>∃p n c,r=yG p n c/\PH W p n (Û op la' lb'):=by
 have la:=ha.len;have lb:=hb.len;have ⟨xs,x1,x2,Y⟩:=cW ha.lst φ;have ⟨Z,y1,y2,y3⟩:=cW hb.lst φ;refine zo V _ ⟨xs,x1,ω,ω,Ù _,ä _,ω,?_,λNv J5 D c3 h1 u=>⟨Z,y1,ω,ω,ω,?_,ω,?_,λa4 a5 I c8 w A V1 l1 E J=>?_⟩⟩
 ·intro v B;obtain ⟨m,hm,rfl⟩:=Qh9 B;exact LX Y ω (ñ hm)
 ·rw [List.take_nil,Œ,í];omega
 ·intro v B;obtain ⟨m,hm,rfl⟩:=Qh9 B;exact LX y3 ω (ñ hm)
 have F:è 8 t_ V1 ((([]:zA um).take (0*8)++xs++D).take ((0+an)*8)++Z++I) (la'++lb'):=by have e:(([]:zA um).take (0*8)++xs++D).take ((0+an)*8)=xs.take (la'.length*8):=by{rw [List.take_nil,Œ,la,ĉ,Wq9 ω]};rw [e];exact (eI Y y3 φ).le λ_ _ h=>h.le l1
 have hL:PH V1 (some ⟨E,0,none⟩) (0+an+bn) (la'++lb'):=by have:=wN (bP.fX J F);rwa [show (la'++lb').length=0+an+bn by rw [í];omega] at this
 have f:∀s∈la'++lb',s.sz k:=λs f=>by rcases ü.1 f with f|f;{exact sa s f};exact sb s f
 refine (H_ hL (by rw [í];omega) f).s ?_;rintro r V2 l2 ⟨K,L,M,rfl,N⟩;have cl:=GU (la'++lb');rw [í] at cl
 have cs:∀q∈à (la'++lb'),Sz k q:=λq hq=>by have ⟨s,G,e⟩:=yB hq;rcases e with rfl|rfl;{exact (f s G).1};exact (f s G).2
 have o:Û op la' lb'=G3 (à (la'++lb')) (jy op la' lb' (à (la'++lb'))):=rfl;rw [o];generalize à (la'++lb')=cuts at N cl cs;refine ⟨K,L,M,rfl,λa6 V3 l3=>(Cd (N.le l3) ω cs).s ?_⟩;rintro r V4 l4 ⟨O,t,P,rfl,hp⟩;have Q:=hp.len;rw [mg] at Q;have ml:=lE op la' lb' cuts
 have R:∀i (C:i<(dY cuts).length),(jy op la' lb' cuts).take (i+1)=(jy op la' lb' cuts).take i++[ĥ op (tN la' (dY cuts)[i]==2) (tN lb' (dY cuts)[i]==2)]:=λi C=>by rw [mg] at C;rw [ł,ñ ω];unfold jy;rw [Qr9];rfl
 refine ⟨O,t,P,rfl,λz V'=>∃i:Nat,z.2.2.2=(i:Int)/\i<=cuts.length+1/\z.1=i/\z.1<=z.2.1/\z.2.1*1<=z.2.2.1.length/\è 1 RBl V' z.2.2.1 ((jy op la' lb' cuts).take i),λz=>cuts.length+1-z.2.2.2.toNat,
  ⟨(0,0,[],0),σ,0,rfl,ä _,rfl,Ù _,Ù _,è.nil⟩,?_⟩
 rintro ⟨g,z2,vs,z4⟩ V5 l5 ⟨i,e4,Xu,e1,ic,B,d⟩;dsimp only at e4 e1 ic B d;subst e4 e1;refine ⟨rfl,λj=>?_,λj gQ eJ a3 l=>?_⟩
 ·have j:(g:Int)<t:=Á j;have C:g<(dY cuts).length:=by{rw [mg];omega};dsimp only;rw [Ý];have ⟨ad,b,p1,n1,c1,p2,n2,c2,H,hq,a0,a1,a2⟩:=Ds (hp.le l5) C;have sq:=SW cs (ú C);have S:∀s∈la',s.sz (2*k+4):=λs f=>⟨(sa s f).1.s ω,(sa s f).2.s ω⟩;have T:∀s∈lb',s.sz (2*k+4):=λs f=>⟨(sb s f).1.s ω,(sb s f).2.s ω⟩;refine ⟨bf H,ų,b,p1,n1,c1,p2,n2,c2,ad,H,a0,a1,a2,λV6 l6=>(Ce ra ra S sq ω).s ?_⟩;rintro r V7 l7 rfl;refine ⟨_,rfl,λV8 l8=>(Ce ra ra T sq ω).s ?_⟩;rintro r V9 l9 rfl;have hm:=R g C;generalize (tN la' (dY cuts)[g]==2)=x at hm;generalize (tN lb' (dY cuts)[g]==2)=y at hm;refine ⟨_,rfl,λz V'=>V9.Le V'/\z=(x||y),⟨λd=>⟨true,σ,Ó.Le.refl _,by rw [d];rfl⟩,λd=>⟨y,σ,Ó.Le.refl _,by rw [d];rfl⟩⟩,?_⟩;rintro a7 fD a8 ⟨a9,rfl⟩;refine ⟨rfl,λz V'=>fD.Le V'/\z=ĥ op x y,⟨λu=>?_,λu=>⟨λw=>?_,λw=>⟨λA=>?_,λA=>?_⟩⟩⟩,?_⟩;{obtain rfl:=Ê u;exact ⟨λd=>⟨y,σ,Ó.Le.refl _,by rw [d];rfl⟩,λd=>⟨false,σ,Ó.Le.refl _,by rw [d];rfl⟩⟩};{obtain rfl:=Ê w;exact ⟨λd=>⟨!y,σ,Ó.Le.refl _,by rw [d];rfl⟩,λd=>⟨false,σ,Ó.Le.refl _,by rw [d];rfl⟩⟩};{obtain rfl:=Ê A;exact ⟨_,σ,Ó.Le.refl _,rfl⟩};{refine ⟨_,σ,Ó.Le.refl _,?_⟩;have u:¬op=2:=λe=>by{subst e;cases u};have w:¬op=3:=λe=>by{subst e;cases w};have A:¬op=4:=λe=>by{subst e;cases A};unfold ĥ;rw [Ã u,Ã w,Ã A]};rintro b0 eX dq ⟨b5,rfl⟩;(refine ⟨rfl,ω,ic,B,rfl,?_,λsp c' h5 h6=>⟨(g+1,c',_,(g:Int)+1),ω,by and_intros<;>first|rfl|exact ay ω,g+1,rfl,ω,rfl,h5,?_,?_⟩⟩);{intro v hm;obtain rfl:v=_:=by{simpa using hm};rfl};{dsimp only;have ht:(vs.take (g*1)).length=g*1:=by{rw [ë];omega};rw [í,í,ht];simp only [Ċ,Ŀ];omega};dsimp only;have hlen:((jy op la' lb' cuts).take g).length=g:=by{rw [ë];omega};rw [hm];have:=(d.le (V':=eX) λ_ _ h=>h).snoc (sp:=sp) (xs:=[dB (ĥ op x y)]) (a:=ĥ op x y) rfl rfl φ;rw [hlen] at this;exact this
 ·have j:¬(g:Int)<t:=Â j;obtain rfl:g=cuts.length+1:=ω;(try dsimp only at l ⊢);rw [ŋ ω] at d;have hM:=bP.bR (c:=z2) l (d.le (V':=gQ) λ_ _ h=>h) φ ω;rw [ml] at hM;refine (H9 (N.le aA) hM ml).s ?_;rintro r ji fk ⟨U,W,X,rfl,hr⟩;exact ⟨U,W,X,rfl,λb6 lH iL=>⟨_,_,_,rfl,wN (hr.le iL)⟩⟩
def ò (m:L3)(k:Int):L3:=if k=1 then m else Õ m
theorem LZ {q:Rat}{k:Int}(u:k=1\/k=-1):(q.num.sign==k)=decide (0<(if k=1 then q else -q)):=by rcases cY q with ⟨h,e⟩|⟨h,e⟩|⟨h,e⟩<;>rcases u with rfl|rfl<;>rw [e]<;>simp<;>grind
def Mc (m:L3)(k:Int)(x y:Rat):aw (ò m k) x y=if k=1 then aw m x y else -aw m x y:=by unfold ò;split;{rfl};exact val_rev ..
def Mb (m l:L3)(k:Int):Ü (ò m k) l=if k=1 then Ü m l else -Ü m l:=by unfold ò;split;{rfl};exact dot_rev ..
theorem side_cross (m l:L3)(k:Int):Þ l (ò m k)=0↔Þ l m=0:=by rw [cross_dot,cross_dot,Mb];split<;>grind
def WJ (k:Int)(h:Ü m l≠0):Ö (ò m k) l=Ö m l:=by unfold ò;split;{rfl};exact cutP_rev h
def onP (l m:L3):Bool:=decide (Þ l m=0/\aw m (dm l 0) (du l 0)=0)
theorem v_ {w:um}{l m:L3}{k:Int}(hk:k=1\/k=-1)(hl:dH V v l)(hm:dH V w m)(nz:Nz l)(bl:Bd l)(bm:Bd m):À 233 #[v,w,Ô Ŵ k] V λr W=>∃q n c,r=å #[yG q n c,dB (onP l m)]/\bP 8 t_ W q n (î l (ò m k)):=by have j:=hl;have o:=hm;obtain ⟨_,rfl⟩:=Ÿ (bN hl);obtain ⟨_,rfl⟩:=Ÿ (bN hm);have sl:=bl.iP;have sm:=bm.iP;refine FZ V _ λV1 t=>(OP (dH.le j t) (dH.le o t) sl sm).s ?_;rintro r V2 N ⟨u,rfl,O,P⟩;have ⟨s1,s2⟩:=Jq sl sm;have A:=t.m N;by_cases i:Þ l m=0;{have B:=O i;unfold PF at B;subst B;refine wqK ⟨rfl,λ_ V3 l3=>(QG (dH.le j aA) nz bl).s ?_,λh=>by simp [i] at h⟩;rintro r V4 l4 C;obtain ⟨_,rfl,-⟩:=Ÿ C;have x:=A.m aA;refine qxW ⟨rfl,λV5 Q=>(I9 (dH.le o aA) (C.le Q) (sm.up (K:=30000) ω) (Jo bl).1 (Jo bl).2).s ?_⟩;rintro r V6 l6 rfl;have R:=x.m aA;have a:((aw m (dm l 0) (du l 0)).num.sign==(0:Int))=onP l m:=by{unfold onP;rcases cY (aw m (dm l 0) (du l 0)) with ⟨h,e⟩|⟨h,e⟩|⟨h,e⟩<;>rw [e]<;>simp [i]<;>grind};have b:î l (ò m k)=if ((aw m (dm l 0) (du l 0)).num.sign==k)=true then [ã] else []:=by{unfold î;rw [Ä ((side_cross m l k).2 i),LZ hk,Mc];by_cases g:0<(if k=1 then aw m (dm l 0) (du l 0) else -aw m (dm l 0) (du l 0));{rw [Ä g,Ä (Ç g)]};rw [Ã g,Ã (by rw [È g];exact ũ)]};refine ⟨_,rfl,λh V7 l7=>vZ.s ?_,λh fD S=>⟨_,_,_,by rw [a],?_⟩⟩;{rintro r V8 l8 D;obtain ⟨_,rfl,-⟩:=Ź D;refine ⟨_,_,_,_,_,_,_,_,_,_,_,_,_,_,_,_,rfl,λT U E d=>⟨_,_,_,by rw [a],?_⟩⟩;rw [b,Ä h];exact bP.fX (V:=T) d (row_one rfl (D.le U))};rw [b,Ã (by rw [h];exact ũ)];exact bP.nil};have F:Ü m l≠0:=λh=>i (by rw [cross_dot,h];grind);have G:=P i;obtain ⟨_,rfl,-⟩:=Ÿ G;have a:onP l m=false:=by{unfold onP;rw [È λh=>i h.1]};refine wqK ⟨rfl,λh=>by simp [i] at h,λ_ eX W=>(Bu (dH.le j aA) (G.le W) nz (sl.up (K:=30000) ω) (s1.s ω) (s2.s ω)).s ?_⟩;rintro r X eJ gt;have p:RQ X r (qc l m):=gt;rw [De nz i] at p;clear gt;obtain ⟨_,rfl⟩:=Ŷ p.shape;have st:Sz 70000 (Ö m l):=(qj sl sm).s ω;refine qxQ ⟨rfl,λji Y=>(dN 1 ω).s ?_⟩;rintro r lH Z g1;obtain ⟨_,rfl⟩:=Ŷ g1.shape;have f:=Y.m Z;refine qxQ ⟨rfl,λmJ H=>(eF ra ra st jW ω).s ?_⟩;rintro r ko I gs;obtain ⟨_,rfl⟩:=Ŷ gs.shape;have s:=(A.m aA).m (f.m (H.m I));have y:Sz 80000 (Ö m l+((1:Int):Rat)):=(st.add jW).s ω;refine qxQ ⟨rfl,λnk J=>(Zl (dH.le j aA) (gs.le J) nz (sl.up (K:=80000) ω) y).s ?_⟩;rintro r nq iF L;obtain ⟨_,rfl,-⟩:=Ÿ L;have YR:=s.m aA;refine qxW ⟨rfl,λqM lD=>(I9 (k:=10000000) (dH.le o aA) (L.le lD) (sm.up ω) ((DM (sl.up (K:=80000) ω) y).s ω) ((DN (sl.up (K:=80000) ω) y).s ω)).s ?_⟩;rintro r uJ kN rfl;have M:=YR.m aA;have ev:aw m (dm l (Ö m l+((1:Int):Rat))) (du l (Ö m l+((1:Int):Rat)))=Ü m l:=by{rw [qk];have hi:=Qm1 _ F;unfold Ö;have e1:((1:Int):Rat)=1:=rfl;rw [e1];grind};rw [ev];have z:=f.m (H.m (I.m (J.m aA)));have b:î l (ò m k)=if ((Ü m l).num.sign==k)=true then [⟨Ö m l,0,false,true⟩] else [⟨0,Ö m l,true,false⟩]:=by{unfold î;rw [Ã (λh=>i ((side_cross m l k).1 h)),LZ hk,Mb,WJ k F];by_cases g:0<(if k=1 then Ü m l else -Ü m l);{rw [Ä g,Ä (Ç g)]};rw [Ã g,Ã (by rw [È g];exact ũ)]};refine ⟨_,rfl,λh tM rI E d=>⟨_,_,_,by rw [a],?_⟩,λh vO oX E d=>⟨_,_,_,by rw [a],?_⟩⟩;{rw [b,Ä h];exact bP.fX (V:=tM) d (row_one rfl (qxW ⟨rfl,ra,rq0 _⟩))};rw [b,Ã (by rw [h];exact ũ)];exact bP.fX (V:=vO) d (row_one rfl (qxW ⟨rfl,rq0 _,p.le aA⟩))
def Qz {u:Nat}{xs:zA um}{ty:TypeId}{m:Nat×Nat}(y:V.bo u (.cells xs.toArray ty m))(h:t_ V (.agg xs.toArray) s):PH V (some ⟨u,0,none⟩) 1 [s]:=
 wN (bP.fX y (row_one (by obtain ⟨_,_,_,_,_,_,_,_,_,_,_,_,_,_,e,-⟩:=xl h;rw [e];rfl) h))
def Ba (V:Ó)(v:Value)(x:L3×Sp):Prop:=RF V v x.1 x.2
def Ba.le {V V':un}{x:L3×Sp}(h:Ba V v x)(l:V.Le V'):Ba V' v x:=RF.le h l
theorem Bk (h:onP l m=true)(k:Int):î l (ò m k)=[]:=by have h:=Á h;unfold î;rw [Ä ((side_cross m l k).2 h.1),Mc,h.2];split<;>rw [Ã χ]
def Yy (y:Bd l)(u:Bd m)(k:Int):∀s∈î l (ò m k),s.sz 100000:=by have b:Bd (ò m k):=by{unfold ò;split;exact u;exact u.rev};have st:Sz 100000 (Ö (ò m k) l):=(qj y.iP b.iP).s ω;have z:=DP 100000;intro s a;unfold î at a;split at a;{split at a;{rw [õ.1 a];exact ⟨z,z⟩};cases a};split at a;{rw [õ.1 a];exact ⟨st,z⟩};rw [õ.1 a];exact ⟨z,st⟩
def E7 (y:s.can)(l m:L3):(Û 2 [s] (î l m)).length<=1:=by rcases yF l m with h|⟨u,h,hu⟩;{rw [h,comb_nil];exact ä _};rw [h,wq y hu];split;{exact ä _};exact Ù _
def UU (l m:L3):(î l m).length<=1:=by rcases yF l m with h|⟨u,h,hu⟩<;>rw [h];{exact ä _};exact Ù _
def Qy {b1:ut}{u:OA}{z c1:Nat}{b2:ut}{E:OA}{F M:Nat}{b3:ut}{N:OA}{O Z:Nat}{b:ut}{q1:OA}{m1 e1:Nat}{q2:OA}{m2 e2:Nat}{d:ut}{q3:OA}{m3 e3:Nat}{q4:OA}{m4 e4:Nat}{x y:ut}:∀v∈([dB b1,yG u z c1,dB b2,yG E F M,dB b3,yG N O Z,dB b,yG q1 m1 e1,yG q2 m2 e2,dB d,yG q3 m3 e3,yG q4 m4 e4,dB x,dB y]:zA um),v.oneCell'=true:=by intro v a;simp only [ç,ě,Ì] at a;rcases a with rfl|rfl|rfl|rfl|rfl|rfl|rfl|rfl|rfl|rfl|rfl|rfl|rfl|rfl<;>rfl
def Av (l:L3)(s:Sp)(m:L3):List (L3×Sp):=(Û 2 [s] (î l m)).map λu=>(l,u)
def E3 {w:um}{l m:L3}{s:Sp}(hf:RF V v l s)(hm:dH V w m)(nz:Nz l)(bl:Bd l)(bm:Bd m)(hs:s.can)(ss:s.sz 1000000):À 188 #[v,w] V λr W=>∃p1 n1 c1 p2 n2 c2,r=å #[yG p1 n1 c1,yG p2 n2 c2]/\bP 14 Ba W p1 n1 (Av l s m)/\bP 14 Ba W p2 n2 (Av l s (Õ m)):=by have q:=hm;obtain ⟨_,_,_,_,_,_,_,_,_,_,_,_,_,_,_,_,_,_,_,_,_,_,_,_,_,_,rfl,M,hS⟩:=hf;obtain ⟨_,rfl⟩:=Ÿ (bN hm);have s1:ò m 1=m:=rfl;have s2:ò m (-1)=Õ m:=rfl;have c:=Yy bl bm;have f:=λk=>E7 hs l (ò m k);have i:=λk=>UU l (ò m k);refine Eu V _ ⟨λ_=>⟨φ,λV1 N=>(v_ (l:=l) (.inl rfl) (RL.le M N) (dH.le q N) nz bl bm).s ?_⟩,λh=>by cases h⟩;rintro r V2 l2 ⟨q1,n1,c1,rfl,hH⟩;refine qyK ⟨rfl,λn V3 l3=>⟨_,_,_,_,_,_,rfl,?_,?_⟩,λn V4 l4 PO C=>(qw (op:=2) (la':=[s]) (lb':=î l (ò m 1)) (Qz C ra) (wN ra) (by have:=i 1;rw [Qc5];omega) (k:=1000000) (λz d=>õ.1 d▸ss) (λz d=>⟨(c 1 z d).1.s ω,(c 1 z d).2.s ω⟩) ω).s ?_⟩;{unfold Av;rw [<-s1,Bk n,comb_nil];exact bP.nil};{unfold Av;rw [<-s2,Bk n,comb_nil];exact bP.nil};rintro r V5 l5 ⟨p4,n4,c4,rfl,D⟩;have D:=D.lst;have la:=f 1;have W:=D.len;generalize hA:Û 2 [s] (î l (ò m 1))=A at *;refine ⟨_,_,_,rfl,λ_=>⟨λz V'=>∃j:Nat,z.1=(j:Int)/\j<=A.length/\z.2.2.2.1=0/\z.2.2.2.2.1=0/\z.2.2.2.2.2.2=[]/\GR 14 Ba V' z.2.1 z.2.2.1 z.2.2.2.2.2.1 ((A.take j).map λu=>(l,u)),λz=>A.length-z.1.toNat,⟨(0,0,0,0,0,[],[]),σ,0,rfl,ä _,rfl,rfl,rfl,GR.nil⟩,?_⟩⟩;rintro ⟨X,O,Y,x3,x4,xs,ys⟩ V6 l6 ⟨j,t,Z,P,Q,S,o⟩;dsimp only at t P Q S o ⊢;subst t P Q S;refine ⟨θ,λb=>?_,λb=>⟨λ_=>⟨φ,λV7 l7=>(v_ (l:=l) (.inr rfl) (RL.le M aA) (dH.le q aA) nz bl bm).s ?_⟩,λh=>by cases h⟩⟩;{have b:=Á b;have p:j<A.length:=ω;have wr:Ŵ.wrap ((j:Int)+1)=((j+1:Nat):Int):=ŵ;rw [wr,Ý];refine ldS (R:=t_) rZ ra p λ_ _ _ _ _ _ _ _ _ _ _ _ _ _ gs=>?_;have E:=(ť p).symm;have F:=o.len;rw [Ě,ë] at F;generalize A[j]=u at *;refine ⟨φ,ω,o.le,o.cap,rfl,Qy,λsp G H I=>⟨φ,(((j+1:Nat):Int),O+1,G,0,0,_,[]),ω,σ,j+1,rfl,p,rfl,rfl,rfl,?_⟩⟩;rw [E,ś];exact o.snoc (a:=(l,u)) rfl ⟨_,_,_,_,_,_,_,_,_,_,_,_,_,_,_,_,_,_,_,_,_,_,_,_,_,_,rfl,ra,gs⟩ φ H I};have b:=Â b;obtain rfl:j=A.length:=ω;rw [Ī] at o;rintro r V8 l8 ⟨q2,n2,c2,rfl,a0⟩;refine qyK ⟨rfl,λn V9 l9=>⟨_,_,_,_,_,_,rfl,?_,?_⟩,λn fD a1 XV x=>(qw (op:=2) (la':=[s]) (lb':=î l (ò m (-1))) (Qz x ra) (wN ra) (by have:=i (-1);rw [Qc5];omega) (k:=1000000) (λz d=>õ.1 d▸ss) (λz d=>⟨(c (-1) z d).1.s ω,(c (-1) z d).2.s ω⟩) ω).s ?_⟩;{unfold Av;rw [<-s1,Bk n,comb_nil];exact bP.nil};{unfold Av;rw [<-s2,Bk n,comb_nil];exact bP.nil};rintro r eX dq ⟨a2,a3,a4,rfl,J⟩;have J:=J.lst;have lb:=f (-1);have T:=J.len;generalize hB:Û 2 [s] (î l (ò m (-1)))=B at *;refine ⟨_,_,_,rfl,λ_=>⟨λz V'=>∃j:Nat,z.1=(j:Int)/\j<=B.length/\GR 14 Ba V' z.2.1 z.2.2.1 z.2.2.2.2.2.1 (A.map λu=>(l,u))/\GR 14 Ba V' z.2.2.2.1 z.2.2.2.2.1 z.2.2.2.2.2.2 ((B.take j).map λu=>(l,u)),λz=>B.length-z.1.toNat,⟨(0,O,Y,0,0,xs,[]),σ,0,rfl,ä _,o.up aA,GR.nil⟩,?_⟩⟩;rintro ⟨X,y1,y2,y3,y4,us,ws⟩ gQ eJ ⟨j,t,Z,y,e⟩;dsimp only at t y e ⊢;subst t;refine ⟨θ,λb=>?_,λb=>⟨Ŭ,λ_=>⟨φ,φ,λji U a5 a6 K L=>?_⟩⟩⟩;{have b:=Á b;have p:j<B.length:=ω;have wr:Ŵ.wrap ((j:Int)+1)=((j+1:Nat):Int):=ŵ;rw [wr,Ý];refine ldS (R:=t_) rZ ra p λ_ _ _ _ _ _ _ _ _ _ _ _ _ _ gs=>?_;have E:=(ť p).symm;have F:=e.len;rw [Ě,ë] at F;generalize B[j]=u at *;refine ⟨φ,ω,e.le,e.cap,rfl,Qy,λsp G H I=>⟨φ,(((j+1:Nat):Int),y1,y2,y3+1,G,us,_),ω,σ,j+1,rfl,p,y,?_⟩⟩;rw [E,ś];exact e.snoc (a:=(l,u)) rfl ⟨_,_,_,_,_,_,_,_,_,_,_,_,_,_,_,_,_,_,_,_,_,_,_,_,_,_,rfl,ra,gs⟩ φ H I};have b:=Â b;obtain rfl:j=B.length:=ω;rw [Ī] at e;have e1:=y.len;have e2:=e.len;have g1:Av l s m=A.map λu=>(l,u):=by{unfold Av;rw [<-hA];rfl};have g2:Av l s (Õ m)=B.map λu=>(l,u):=by{unfold Av;rw [<-hB];rfl};rw [g1,g2];subst e1 e2;exact qyJ ⟨rfl,bP.bR K (y.row.le λ_ _ g=>Ba.le g U) φ y.le,bP.bR L (e.row.le λ_ _ g=>Ba.le g U) φ e.le⟩
def Nt (l:List Rat):List Rat:=l.foldl (λo x=>dJ x o) []
theorem Rq (l:zA Rat):asc (Nt l)/\∀x,x∈Nt l↔x∈l:=by
 have:∀(l o:zA Rat),asc o->asc (l.foldl (λo x=>dJ x o) o)/\∀x,x∈l.foldl (λo x=>dJ x o) o↔x∈o\/x∈l:=by
  intro l
  induction l<;>grind [K6,CJ]
 have ⟨a,b⟩:=this l [] List.Pairwise.nil;grind [Nt]
theorem Su:∀u∈î l m,u.good:=λu hu=>by
 unfold î at hu;split at hu
 ·grind [iJ]
 ·split at hu
  ·rw [õ.1 hu];exact ⟨⟨Ŭ,λ_=>rfl⟩,rfl⟩
  ·rw [õ.1 hu];exact ⟨⟨λ_=>rfl,Ŭ⟩,rfl⟩
theorem VN (l m:L3):Û 2 [ã] (î l m)=î l m:=by grind [yF,comb_nil,Da,Su]
def WN (u:s.good):Av l s m=qC l s m:=by have h:=Td (l:=l) (m:=m) u;rw [VN] at h;unfold Av qC;rw [h];split<;>rfl
def inB_nil (t:Rat):ì [] t=false:=rfl
def gS (l:List L3):List L3:=l.foldl (λo x=>ke x o) []
def cI (l:zA L3):(gS l).Pairwise rL/\∀x,x∈gS l↔x∈l:=by
 have:∀(l o:zA L3),o.Pairwise rL->(l.foldl (λo x=>ke x o) o).Pairwise rL/\∀x,x∈l.foldl (λo x=>ke x o) o↔x∈o\/x∈l:=by
  intro l
  induction l with
  | nil=>intro o h;exact ⟨h,λx=>ψ⟩
  | cons y r u=>
   intro o h;have ⟨a,b⟩:=u (ke y o) (CH h);refine ⟨a,λx=>?_⟩;rw [Ť,b x,wK,ç];constructor
   ·rintro ((h|h)|h)<;>simp [h]
   ·rintro (h|h|h)<;>simp [h]
 have ⟨a,b⟩:=this l [] List.Pairwise.nil;exact ⟨a,λx=>by rw [gS,b x];simp⟩
def SF {l m:zA L3}(h:∀x,x∈l↔x∈m):gS l=gS m:=
 HQ (cI l).1 (cI m).1 λx=>by rw [(cI l).2 x,(cI m).2 x];exact h x
def aK (m:L3)(l:List (L3×Sp)):List Sp:=(l.filter λx=>decide (x.1=m)).map Prod.snd
def fG (l:List (L3×Sp)):List (L3×Sp):=(gS (l.map Prod.fst)).flatMap λm=>(Û 1 (aK m l) []).map λs=>(m,s)
def Sb {A B:zA Sp}(h:A.Perm B):Û 1 A []=Û 1 B []:=by refine reg_eq (à (A++[])++à (B++[])) (comb_reg ..) (comb_reg ..) λt a=>?_;rw [ü,not_or] at a;rw [comb_inB 1 _ _ a.1,comb_inB 1 _ _ a.2];have:ì A t=ì B t:=by{unfold ì;rw [ģ,Qc2,Qc2];exact ⟨λ⟨x,b,c⟩=>⟨x,h.mem_iff.1 b,c⟩,λ⟨x,b,c⟩=>⟨x,h.mem_iff.2 b,c⟩⟩};rw [this]
def Oh {l m:zA (L3×Sp)}(h:l.Perm m):fG l=fG m:=by unfold fG;rw [SF (l:=l.map Prod.fst) (m:=m.map Prod.fst) λx=>(h.map _).mem_iff];refine Æ (λf=>(gS (m.map Prod.fst)).flatMap f) (funext λk=>?_);rw [Sb (A:=aK k l) (B:=aK k m) ((h.filter _).map _)]
def Oi {P Q:zA (L3×Sp)}(E:∀x∈P,rL x.1 m)(u:∀x∈Q,x.1=m)(hne:Q≠[]):fG (P++Q)=fG P++(Û 1 (Q.map Prod.snd) []).map λs=>(m,s):=by
 have i:gS ((P++Q).map Prod.fst)=gS (P.map Prod.fst)++[m]:=by have ⟨j,k⟩:=cI ((P++Q).map Prod.fst);have ⟨n,g⟩:=cI (P.map Prod.fst);refine HQ j (Qf4.2 ⟨n,Qf5 _ _,λx c y d=>?_⟩) λx=>?_;{rw [õ.1 d];obtain ⟨z,b,rfl⟩:=þ.1 ((g x).1 c);exact E z b};rw [k x,ś,ü,ü,g x,õ];refine or_congr_right ⟨λh=>?_,λh=>?_⟩;{obtain ⟨z,b,rfl⟩:=þ.1 h;exact u z b};have ⟨z,b⟩:=Qr6 Q hne;exact þ.2 ⟨z,b,(u z b).m h.symm⟩
 have c:∀x∈gS (P.map Prod.fst),aK x (P++Q)=aK x P:=λx c=>by obtain ⟨z,b,rfl⟩:=þ.1 (((cI _).2 x).1 c);have f:=E z b;unfold aK;rw [Qt4,(Qp3 (l:=Q)).2 λy d=>?_,ć];intro e;have e:=Á e;rw [<-e,u y d] at f;exact wP f
 have hm:aK m (P++Q)=Q.map Prod.snd:=by unfold aK;rw [Qt4,(Qp3 (l:=P)).2 λy d=>?_,Œ,(Qs2 (l:=Q)).2 λy d=>Ç (u y d)];intro e;exact wP ((Á e)▸E y d)
 unfold fG;rw [i,Qc3,List.flatMap_singleton,hm];congr 1;generalize gS (P.map Prod.fst)=L at c
 induction L with
 | nil=>rfl
 | cons a r F=>rw [Ġ,Ġ,c a (ą ..),F λx h=>c x (ø _ h)]
end Go.Proofs.Tryz
