import Derived.Test.YtobpmgpnbbcgjaaGreatDoorG19
set_option linter.all false
open Go.IntKind (i64 u64 u32)
open Go.Value renaming slice→dB,agg→qvK,bool→Õ,pointer→qyQ,tuple→æ,int→Ô
namespace Go.Proofs.Tryz
open Go.Eng Go.Big
section
variable{V:Ó}{p q:OA}{c i k n:Nat}{v:Value}{a b x:L3}
theorem VM {al:zA L3}(h:bo 9 mF V p n al)(hi:i<al.length):p.isSome=true/\∃(u y:Int)(z:OA)(D E:Int)(F:OA)(M N:Int)(O:OA)(a:Addr),ae p (i*9)=some a/\V.at (a.add 0) (Ô .i64 u)/\V.at (a.add 1) (Ô .i64 y)/\V.at (a.add 2) (qyQ z)/\V.at (a.add 3) (Ô .i64 D)/\V.at (a.add 4) (Ô .i64 E)/\V.at (a.add 5) (qyQ F)/\V.at (a.add 6) (Ô .i64 M)/\V.at (a.add 7) (Ô .i64 N)/\V.at (a.add 8) (qyQ O)/\mF V (qvK #[Ô .i64 u,Ô .i64 y,qyQ z,Ô .i64 D,Ô .i64 E,qyQ F,Ô .i64 M,Ô .i64 N,qyQ O]) al[i]:=by have ⟨f,c,xs,g,d,b⟩:=h.at_ i hi;obtain ⟨_,_,_,_,_,_,_,_,_,e⟩:=d.shape;have e:=Æ Array.toList (Value.agg.inj e);subst e;refine ⟨?_,_,_,_,_,_,_,_,_,_,f,c,b 0 _ rfl,b 1 _ rfl,b 2 _ rfl,b 3 _ rfl,b 4 _ rfl,b 5 _ rfl,b 6 _ rfl,b 7 _ rfl,b 8 _ rfl,d⟩;(cases p with|none=>{cases c}|some a=>rfl)
def cP (V:Ó)(v:Value)(c:Rat×Rat):Prop:=RP V v c.1 c.2
theorem cP.le {V V':ut}{c:Rat×Rat}(h:cP V v c)(l:V.Le V'):cP V' v c:=RP.le h l
theorem cP.shape {c:Rat×Rat}(h:cP V v c):∃(b:md)(p:OA)(n c:Nat)(u:OA)(y z:Nat)(d:md)(q:OA)(m e:Nat)(D:OA)(E F:Nat),v=qvK #[Õ b,dB p n c,dB u y z,Õ d,dB q m e,dB D E F]:=by obtain ⟨p,n,c,u,y,z,q,m,e,D,E,F,h,-⟩:=h;grind
theorem cP.ex {r:un}{x:Rat×Rat}{K:md->OA->Nat->Nat->OA->Nat->Nat->md->OA->Nat->Nat->OA->Nat->Nat->Prop}(g:cP V r x)(h:∀t u:OA×Nat×Nat×OA×Nat×Nat,cP V (qvK #[Õ (decide (x.1.num<0)),dB t.1 t.2.1 t.2.2.1,dB t.2.2.2.1 t.2.2.2.2.1 t.2.2.2.2.2,Õ (decide (x.2.num<0)),dB u.1 u.2.1 u.2.2.1,dB u.2.2.2.1 u.2.2.2.2.1 u.2.2.2.2.2]) x ->K (decide (x.1.num<0)) t.1 t.2.1 t.2.2.1 t.2.2.2.1 t.2.2.2.2.1 t.2.2.2.2.2 (decide (x.2.num<0)) u.1 u.2.1 u.2.2.1 u.2.2.2.1 u.2.2.2.2.1 u.2.2.2.2.2):∃b p n c y z D d q m e E F M,r=qvK #[Õ b,dB p n c,dB y z D,Õ d,dB q m e,dB E F M]/\K b p n c y z D d q m e E F M:=RP.ex g λt u k _ _=>h t u k
theorem oJ {R:ut->un->Rat×Rat->Prop}(sh:∀{V v c},R V v c->∃(b:md)(p:OA)(n c:Nat)(p':OA)(n' c':Nat)(d:md)(q:OA)(m e:Nat)(q':OA)(m' e':Nat),v=qvK #[Õ b,dB p n c,dB p' n' c',Õ d,dB q m e,dB q' m' e']) {al:zA (Rat×Rat)}(h:bo 6 R V p n al)(hi:i<al.length):p.isSome=true/\∃(b1:md)(u:OA)(y c1:Nat)(z:OA)(D E:Nat)(F:md)(M:OA)(N O:Nat)(Z:OA)(n4 c4:Nat)(a:Addr),ae p (i*6)=some a/\V.at (a.add 0) (Õ b1)/\V.at (a.add 1) (dB u y c1)/\V.at (a.add 2) (dB z D E)/\V.at (a.add 3) (Õ F)/\V.at (a.add 4) (dB M N O)/\V.at (a.add 5) (dB Z n4 c4)/\R V (qvK #[Õ b1,dB u y c1,dB z D E,Õ F,dB M N O,dB Z n4 c4]) al[i]:=by have ⟨k,g,xs,l,j,f⟩:=h.at_ i hi;have ⟨_,_,_,_,_,_,_,_,_,_,_,_,_,_,e⟩:=sh j;have e:=Æ Array.toList (Value.agg.inj e);subst e;refine ⟨?_,_,_,_,_,_,_,_,_,_,_,_,_,_,_,k,g,f 0 _ rfl,f 1 _ rfl,f 2 _ rfl,f 3 _ rfl,f 4 _ rfl,f 5 _ rfl,j⟩;(cases p with|none=>{cases g}|some a=>rfl)
def eI (V:Ó)(v:Value)(c:Rat×Rat):Prop:=Uk V v c.1 c.2
theorem eI.le {V V':ut}{c:Rat×Rat}(h:eI V v c)(l:V.Le V'):eI V' v c:=Uk.le h l
theorem NV {b:md}{u:OA}{y z:Nat}{d:md}{m e:Nat}{D:OA}{E F:Nat}:∀v∈([Õ b,dB p n c,dB u y z,Õ d,dB q m e,dB D E F]:zA un),v.oneCell'=true:=by intro v hm;simp only [ê,ę,Ì] at hm;rcases hm with rfl|rfl|rfl|rfl|rfl|rfl<;>rfl
theorem eI.shape {c:Rat×Rat}(h:eI V v c):∃(b:md)(p:OA)(n c:Nat)(u:OA)(y z:Nat)(d:md)(q:OA)(m e:Nat)(D:OA)(E F:Nat),v=qvK #[Õ b,dB p n c,dB u y z,Õ d,dB q m e,dB D E F]:=by obtain ⟨_,_,_,_,_,_,_,_,_,_,_,_,_,_,h,-⟩:=h;exact qxZ h
theorem Mt {R:ut->un->Rat×Rat->Prop}(sh:∀{V v c},R V v c->∃(b:md)(p:OA)(n c:Nat)(p':OA)(n' c':Nat)(d:md)(q:OA)(m e:Nat)(q':OA)(m' e':Nat),v=qvK #[Õ b,dB p n c,dB p' n' c',Õ d,dB q m e,dB q' m' e']) {vs:zA un}{al:zA (Rat×Rat)}(h:é 6 R V vs al)(hi:i<al.length):∃(b1:md)(u:OA)(y c1:Nat)(z:OA)(D E:Nat)(F:md)(M:OA)(N O:Nat)(Z:OA)(n4 c4:Nat),i*6+6<=vs.length/\(vs.drop (i*6)).take 6=[Õ b1,dB u y c1,dB z D E,Õ F,dB M N O,dB Z n4 c4]/\R V (qvK #[Õ b1,dB u y c1,dB z D E,Õ F,dB M N O,dB Z n4 c4]) al[i]:=by have ⟨xs,f,a,g⟩:=h.at_ i hi;have k:=h.eM φ;have ⟨_,_,_,_,_,_,_,_,_,_,_,_,_,_,e⟩:=sh a;have e:=Æ Array.toList (Value.agg.inj e);subst e;refine qxZ ⟨ω,?_,a⟩;apply Qg5;intro j;rw [Ħ];split;{grind};{grind}
theorem Rg {q:Rat}(h:RA V v q)(u:Sz k q)(y:k<=2^38):À 264 #[v] V λr W=>RQ W r q:=by obtain ⟨b,xs,d,a,-,e,c⟩:=RE.raw (no:=false) ⟨π,λ_=>h⟩ (λh=>nomatch h);have ⟨f,g⟩:=c k u;rw [<-e];exact O2 a ω
def iT (x:L3):List L3->List L3
 | []=>[x]
 | y::r=>if iq y x<0 then y::iT x r else if y=x then y::r else x::y::r
theorem ND:∀(o:zA L3)(k:Nat),k<=o.length->(∀j (h:j<o.length),j<k->iq o[j] x<0)->(∀h:k<o.length,¬iq o[k] x<0) ->iT x o=if (∃h:k<o.length,o[k]=x) then o else o.take k++x::o.drop k:=by
 intro o
 induction o with
 | nil=>
  intro k d _ _;simp [iT]
 | cons y r u=>
  intro k d a b
  cases k with
  | zero=>
   have c:¬iq y x<0:=b ψ;unfold iT;rw [Ã c];by_cases e:y=x
   ·rw [Ä e,Ä ⟨ψ,e⟩]
   grind
  | succ k=>
   have c:iq y x<0:=a 0 ψ ω;unfold iT;rw [Ä c,u k (by simpa using d) (λj h i=>a (j+1) (by simpa using h) ω) (λh=>b (by simpa using h))];by_cases e:∃h:k<r.length,r[k]=x
   ·obtain ⟨f,g⟩:=e;rw [Ä ⟨f,g⟩,Ä ⟨by simpa using f,g⟩]
   grind
def aY (l:List L3):List L3:=l.foldl (λo x=>iT (bN x) o) []
theorem Lv {l:zA L3}(h:i<l.length):aY (l.take (i+1))=iT (bN l[i]) (aY (l.take i)):=by grind [aY,List.take_add_one]
theorem Bt (x:L3):∀o:zA L3,(iT x o).length<=o.length+1
 | []=>by simp [iT]
 | y::r=>by
  have:=Bt x r;grind [iT]
theorem Fa (l:zA L3):(aY l).length<=l.length:=by
 have:∀(l o:zA L3),(l.foldl (λo x=>iT (bN x) o) o).length<=o.length+l.length:=by
  intro l
  induction l with
  | nil=>intro o;simp
  | cons x r u=>
   intro o;have a:=u (iT (bN x) o);have b:=Bt (bN x) o;grind
 grind [aY]
def qD (a b:L3):Prop:=iq a b<0
theorem SF {c:L3}(h:qD a b)(u:qD b c):qD a c:=by unfold qD at *;rw [uX] at *;omega
theorem XM (h:qD a b)(u:qD b a):False:=by unfold qD at *;rw [uX] at *;omega
theorem yy (h:qD a a):False:=XM h h
theorem NM (h:¬qD a b)(hne:a≠b):qD b a:=by grind [qD,uX]
theorem F9:∀{l m:zA L3},l.Pairwise qD->m.Pairwise qD->(∀x,x∈l↔x∈m)->l=m
 | [],[],_,_,_=>rfl
 | [],b::m,_,_,h=>by have:=(h b).2 ψ;cases this
 | a::l,[],_,_,h=>by have:=(h a).1 ψ;cases this
 | a::l,b::m,u,y,h=>by
  have ⟨g,c⟩:=ħ.1 u;have ⟨i,d⟩:=ħ.1 y;have e:a=b:=by rcases ê.1 ((h a).1 ψ) with e|e<;>grind [XM]
  subst e;rw [F9 c d λx=>⟨λf=>?_,λf=>?_⟩]
  ·grind [yy]
  grind [yy]
theorem vu {y:L3}:∀{o:zA L3},y∈iT x o↔y=x\/y∈o
 | []=>by simp [iT]
 | z::r=>by
  unfold iT;split
  ·simp only [ê,vu (o:=r)];grind
  grind
theorem Bs:∀{o:zA L3},o.Pairwise qD->(iT x o).Pairwise qD
 | [],_=>Qf0 _ _
 | z::r,h=>by
  have ⟨u,D⟩:=ħ.1 h;unfold iT;split
  ·rename_i b;refine ħ.2 ⟨λy a=>?_,Bs D⟩;rcases vu.1 a with rfl|a
   ·exact b
   ·exact u y a
  grind [qD,NM,List.pairwise_cons.2,SF]
theorem iS (l:zA L3):(aY l).Pairwise qD/\∀x,x∈aY l↔x∈l.map bN:=by
 have:∀(l o:zA L3),o.Pairwise qD->(l.foldl (λo x=>iT (bN x) o) o).Pairwise qD/\∀x,x∈l.foldl (λo x=>iT (bN x) o) o↔x∈o\/x∈l.map bN:=by
  intro l
  induction l with
  | nil=>intro o h;exact ⟨h,λx=>ψ⟩
  | cons y r u=>
   intro o h;have ⟨a,b⟩:=u (iT (bN y) o) (Bs h);refine ⟨a,λx=>?_⟩;rw [Ő,b x,vu,Ķ,ê];grind
 grind [List.Pairwise.nil,aY]
theorem IU:∀{r:zA L3} {p:L3},(p::r).Pairwise (λx y=>¬Uo y x<0)->(qh eL p r).Pairwise qD/\(∀x∈qh eL p r,qD p x)/\∀x,x∈p::qh eL p r↔x∈p::r
 | [],p,_=>⟨List.Pairwise.nil,(λx h=>by cases h),λx=>Wk0⟩
 | a::r,p,h=>by
  have ⟨u,z⟩:=ħ.1 h;have ⟨i1,i2,i3⟩:=IU z;unfold qh;by_cases e:a=p
  ·subst e;have:eL a a=true:=by simp [eL]
   grind
  ·have:eL a p=false:=by simp [eL,e]
   rw [this];have b:=NM (u a ψ) e;grind [List.pairwise_cons.2,SF]
theorem Rp {m:zA L3}(h:m.Pairwise (λx y=>¬Uo y x<0)):(ie eL m).Pairwise qD/\∀x,x∈ie eL m↔x∈m:=by (cases m with|nil=>exact ⟨List.Pairwise.nil,λx=>Wk0⟩|cons p r=>{have ⟨a,b,c⟩:=IU h;exact ⟨ħ.2 ⟨b,a⟩,c⟩})
theorem Sy {l m:zA L3}(h:X1 (l.map bN) m):ie eL m=aY l:=by
 have ⟨a,b⟩:=Rp h.2;have ⟨c,d⟩:=iS l;exact F9 a c λx=>by rw [b x,d x];exact h.1.mem_iff
theorem ue {vs:zA un}{ls:zA L3}(h:é 6 bP V vs ls)(hi:i<ls.length):∃b1 u y c1 z D E F M N O Z,i*6+6<=vs.length/\(vs.drop (i*6)).take 6=[Value.bool b1,dB u y c1,Õ z,dB D E F,Õ M,dB N O Z]/\bP V (qvK #[Õ b1,dB u y c1,Õ z,dB D E F,Õ M,dB N O Z]) ls[i]:=by have ⟨xs,b,a,c⟩:=h.at_ i hi;have d:=h.eM φ;have ⟨_,_,_,_,_,_,_,_,_,_,_,_,e⟩:=bG a;have e:=Æ Array.toList (Value.agg.inj e);subst e;refine wqQ ⟨ω,?_,a⟩;apply Qg5;intro j;rw [Ħ];split;{grind};{grind}
theorem DD {l:L3}(h:bP V v l):À 184 #[v] V λr W=>∃w b,r=æ #[w,Õ b]/\bP W w (bN l):=by have n:=h;obtain ⟨o,p,q,s,t,u,x,y,z,rfl,F,G,H⟩:=h;have rev:∀(i:ut),V.Le i->(l.1<0\/l.1=0/\l.2.1<0)->À 41 #[qvK #[Õ (decide (l.1<0)),dB o p q,Õ (decide (l.2.1<0)),dB s t u,Õ (decide (l.2.2<0)),dB x y z]] i λr W=>bP W r (bN l):=λi m f=>by{refine (gX (a:=l.1) (b:=l.2.1) (c:=l.2.2) (n.le m)).s ?_;rintro r A B g;unfold bN;rw [Ä f];exact g};refine C5 V _ λI J=>(oz l.1 ra).s ?_;rintro r V2 K rfl;refine ⟨_,rfl,λf i m=>(rev i au (.inl (Wq3.1 (Á f)))).s ?_,λf=>⟨λk L M=>(oz l.2.1 ra).s ?_,λd N O=>?_⟩⟩;{rintro r A B g;have P:=g;obtain ⟨_,_,_,_,_,_,_,_,_,_,_,_,rfl⟩:=bG g;exact wqQ ⟨rfl,λQ R=>⟨_,_,rfl,ra⟩⟩};{have C:=Qm9.1 (by simpa using k);rintro r S T rfl;refine ⟨_,rfl,λj D U=>(rev D au (.inr ⟨C,Wq3.1 (Á j)⟩)).s ?_,λj W X=>⟨_,_,rfl,?_⟩⟩;{rintro r Y Z g;obtain ⟨_,_,_,_,_,_,_,_,_,_,_,_,rfl⟩:=bG g;exact wqQ ⟨rfl,λfo E=>⟨_,_,rfl,ra⟩⟩};{have j:=Â j;unfold bN;rw [Ã λh=>j (Wq3.2 (h.elim (λh=>ω) (·.2)))];exact ra}};{have f:=Â f;have d:¬l.1=0:=λe=>by{rw [e] at d;simp at d};refine ⟨_,_,rfl,?_⟩;unfold bN;rw [Ã λh=>h.elim (λh=>f (Wq3.2 h)) (λh=>d h.1)];exact ra}
set_option maxHeartbeats 1000000 in
theorem mh {ls:zA L3}(h:bo 6 bP V p n ls)(hn:ls.length<100000000)(hs:∀l∈ls,Bd l):À 96 #[dB p n c] V λr W=>∃q m e,r=dB q m e/\bo 6 bP W q m (aY ls)/\m<=e:=by
 obtain rfl:=h.len
 refine wu V _ ⟨λz V'=>∃i:Nat,z.2.2.2=(i:Int)/\i<=ls.length/\GR 6 bP V' z.1 z.2.1 z.2.2.1 (aY (ls.take i)),λz=>ls.length-z.2.2.2.toNat,
  ⟨(0,0,[],0),σ,0,rfl,á _,GR.nil⟩,?_⟩
 rintro ⟨C,w2,us,z4⟩ V1 l1 ⟨i,e4,NB,o⟩;dsimp only at e4 o;subst e4;have g1:=o.len;have D:=o.le;have fv:=o.cap;have t:=o.row;refine ⟨rfl,λa=>?_,λa iL dS bk hb=>?_⟩;rotate_left
 ·grind [bo.bq,t.le,bP.le]
 have a:(i:Int)<ls.length:=Á a;have u:i<ls.length:=ω
 have w:i64.wrap ((i:Int)+1)=((i+1:Nat):Int):=by rw [ao ω];rfl
 dsimp only;rw [Ü,w];obtain ⟨ad,ha,xs,-,hf,b⟩:=(h.le l1 λ_ _ g=>bP.le g l1).at_ i u;have ⟨_,_,_,_,_,_,_,_,_,_,_,_,ex⟩:=bG hf;have ex:=Æ Array.toList (Value.agg.inj ex);dsimp only at ex;subst ex;have Qt:=Lv u;have v:=(hs _ (ó u)).can
 have a0:(aY (ls.take i)).length<100000000:=by have:=Fa (ls.take i);rw [è] at this;omega
 have Pp:∀q∈aY (ls.take i),Bd q:=λq E=>by obtain ⟨y,hy,rfl⟩:=ă.1 ((iS _).2 q |>.1 E);exact (hs y (Qb3 hy)).can
 clear o;generalize aY (ls.take i)=O at *;refine ⟨aK ha,⟨ω,ω⟩,_,_,_,_,_,_,_,_,_,_,_,_,ad,ha,b 0 _ rfl,b 1 _ rfl,b 2 _ rfl,b 3 _ rfl,b 4 _ rfl,b 5 _ rfl,λV2 l2=>(DD ra).s ?_⟩;generalize bN ls[i]=x at *;rintro r V3 l3 ⟨wv,bc,rfl,E⟩;have A:=E;obtain ⟨eb,ep,en,ec,fb,fp,fn,fe,gb,gp,gn,gc,rfl⟩:=bG E;refine ⟨_,_,_,_,_,_,_,_,_,_,_,_,_,rfl,λz _=>∃j:Nat,z=(j:Int)/\j<=O.length/\∀(s:Nat)(h:s<O.length),s<j->iq O[s] x<0,λz=>O.length-z.toNat,⟨0,σ,0,rfl,á _,λs _ h=>Å h (ŋ s)⟩,?_⟩;rintro z V4 l4 ⟨j,rfl,qA,jl⟩;have wj:i64.wrap ((j:Int)+1)=((j+1:Nat):Int):=by rw [ao ω];rfl
 rw [Ü,wj];refine ⟨rfl,λz _=>z=true↔∃h:j<O.length,iq O[j] x<0,⟨λa=>?_,λa=>⟨false,σ,?_⟩⟩,?_⟩
 ·have a:=Á a;have f:j<O.length:=ω;obtain ⟨F,G,H,I,K,L,M,N,P,Q,R,S,T,U,W⟩:=ue t f;refine ⟨⟨ω,ω⟩,D,F,G,H,I,K,L,M,N,P,Q,R,S,⟨T,U⟩,λV5 l5=>(fH (W.le au) (A.le au) (Pp _ (ó f)).e_ v.e_).s λr V6 l6 rfl=>⟨_,rfl,_,σ,by dsimp only;rw [Ñ];exact ⟨λh=>⟨f,h⟩,λ⟨_,h⟩=>h⟩⟩⟩
 ·have a:=Â a;exact ⟨π,λ⟨h,_⟩=>Å h ω⟩
 rintro z V7 l7 Jc;refine ⟨rfl,λk=>?_,λk=>?_⟩
 ·have ⟨f,a1⟩:=Jc.1 k;refine ⟨((j+1:Nat):Int),by dsimp only;omega,σ,j+1,rfl,f,λs h a2=>?_⟩<;>grind
 have X:∀h:j<O.length,¬iq O[j] x<0:=λh B=>by have:=Jc.2 ⟨h,B⟩;rw [k] at this;cases this
 have d:=ND O j qA jl X;refine ⟨λz _=>z=true↔¬∃h:j<O.length,O[j]=x,⟨λhe=>⟨true,σ,?_⟩,λhe=>?_⟩,?_⟩
 ·have he:(j:Int)=(C:Int):=by{simpa using he};exact ⟨λ_ ⟨h,_⟩=>Å h ω,λ_=>rfl⟩
 ·have he:¬(j:Int)=(C:Int):=by{simpa using he};have f:j<O.length:=ω;obtain ⟨F,G,H,I,K,L,M,N,P,Q,R,S,T,U,W⟩:=ue t f;refine ⟨⟨ω,ω⟩,D,F,G,H,I,K,L,M,N,P,Q,R,S,⟨T,U⟩,λV8 l8=>(fH (W.le au) (A.le au) (Pp _ (ó f)).e_ v.e_).s λr V9 l9 rfl=>⟨_,rfl,_,σ,by dsimp only;rw [bne_iff_ne,ne_eq,rH];exact ⟨λh ⟨_,B⟩=>h B,λh B=>h ⟨f,B⟩⟩⟩⟩
 rintro z fo a3 qp;refine ⟨rfl,λk fg dy bk hb J=>?_,λk=>?_⟩
 ·have Y:=qp.1 k;rw [Ã Y] at d;obtain ⟨xs,ys,x1,x2,x3,y1,y2,y3,r1,r2,r3,r4,r5⟩:=rM (V:=fg) (GR.s ⟨g1,D,fv,t⟩ λ_ _ g=>bP.le g au) φ (λ_ _=>rX) hb (es:=[_,_,_,_,_,_]) rfl ra (j:=j);refine ⟨⟨ω,ω⟩,⟨ω,ω⟩,⟨ω,ω⟩,xs,x1,x2,ω,Ù _,Ù 6,x2,x3,λa4 J2 sp c' h1 h2=>?_⟩;rw [r1,r2];refine ⟨ys,y1,y2,Ù _,y3,ω,ω,r3,r4,λa5 Z h3 h4=>⟨(j+(1+(C-j)),Z,_,((i+1:Nat):Int)),by dsimp only;omega,by and_intros<;>first|rfl|omega,i+1,rfl,u,?_⟩⟩;show GR 6 bP _ _ _ _ (aY (ls.take (i+1)));grind
 ·have hex:=Qj0 λh=>by{have:=qp.2 h;rw [k] at this;cases this};rw [Ä hex] at d;refine ⟨(C,w2,us,((i+1:Nat):Int)),by dsimp only;omega,σ,i+1,rfl,u,?_⟩;show GR 6 bP _ _ _ _ (aY (ls.take (i+1)));rw [Qt,d];exact ⟨g1,D,fv,t.le λ_ _ g=>bP.le g au⟩
theorem AY {t:Tr}(h:RW V p t)(y:t.dJ jO)(z:t.size<=1000000):À 40 #[qyQ p] V λr W=>∃q n c,r=dB q n c/\bo 6 bP W q n (aY t.di)/\n<=c:=by refine Dj V _ λk d=>(mJ t (h.le d) z).s ?_;rintro r V2 o ⟨q,n,c,rfl,g⟩;refine ⟨_,_,_,rfl,λs a=>(mh (g.le a λ_ _ g=>bP.le g a) (by rw [jv];omega) λl f=>(ju y l f).2).s ?_⟩;rintro r u v ⟨w,m,e,rfl,i,j⟩;exact ⟨_,_,_,rfl,λx b=>⟨_,_,_,rfl,i.le b λ_ _ g=>bP.le g b,j⟩⟩
theorem sZ {t:Tr}(h:RW V p t)(u:t.dJ jO)(y:t.size<=1000000:=by omega):À 40 #[qyQ p] V λr W=>∃q n c,r=dB q n c/\bo 6 bP W q n (aY t.di):=
 (AY h u y).s λ_ _ _ ⟨q,n,c,e,g,_⟩=>⟨q,n,c,e,g⟩
theorem uO {A:zA (Rat×Rat)}(h:bo 6 cP V p n A)(hn:A.length<=1000000){k:Nat}(hs:∀x∈A,Sz k x.1/\Sz k x.2)(hk:k<=2^40:=by omega):À 17 #[dB p n c] V λr W=>∃q m e,r=dB q m e/\bo 6 eI W q m A:=by obtain rfl:=h.len;refine Eu V _ ⟨λz V'=>∃j:Nat,z.2.2.2=(j:Int)/\j<=A.length/\GR 6 eI V' z.1 z.2.1 z.2.2.1 (A.take j),λz=>A.length-z.2.2.2.toNat,⟨(0,0,[],0),σ,0,rfl,á _,GR.nil⟩,?_⟩;rintro ⟨t,O,P,Q⟩ R i ⟨j,l,S,d⟩;dsimp only at l d;subst l;have u:=d.len;rw [è] at u;refine ⟨rfl,λb=>?_,λb T v U y=>?_⟩;{have b:(j:Int)<A.length:=Á b;have f:j<A.length:=ω;have w:i64.wrap ((j:Int)+1)=((j+1:Nat):Int):=by{rw [ao ω];rfl};dsimp only;rw [Ü,w];obtain ⟨B,W,X,Y,Z,p2,n2,c2,b2,p3,n3,c3,p4,n4,c4,a,C,D,E,F,G,H,I,g⟩:=oJ cP.shape (h.le i λ_ _ g=>cP.le g i) f;have ⟨s1,s2⟩:=hs _ (ó f);refine ⟨B,⟨ω,ω⟩,_,_,_,_,_,_,_,_,_,_,_,_,_,_,a,C,D,E,F,G,H,I,λV2 J=>(IH (g.le J) s1 s2 hk).s ?_⟩;rintro r o l3 K;have s:eI o r A[j]:=K;obtain ⟨_,_,_,_,_,_,_,_,_,_,_,_,_,_,rfl⟩:=s.shape;refine qxZ ⟨rfl,ω,d.le,d.cap,rfl,NV,λsp L M N=>⟨(t+1,L,_,((j+1:Nat):Int)),by dsimp only;omega,σ,j+1,rfl,f,?_⟩⟩;dsimp only;rw [Ĭ,ñ f];exact (d.s (V':=o) λ_ _ g=>eI.le g au).snoc rfl s φ M N};{have b:¬(j:Int)<A.length:=Â b;obtain rfl:j=A.length:=ω;rw [ď] at d;obtain rfl:=d.len;exact ⟨_,_,_,rfl,bo.bq y (d.row.le λ_ _ g=>eI.le g v) φ d.le⟩}
theorem AR {m d:Nat}{A:zA (Rat×Rat)}(hA:bo 6 eI V p n A)(hB:bo 6 eI V q m A)(hn:A.length<=1000000)(hs:∀x∈A,Sz k x.1/\Sz k x.2)(hk:k<=2^40:=by omega):À 16 #[dB p n c,dB q m d] V λr W=>r=Õ true:=by obtain rfl:=hA.len;obtain rfl:=hB.len;refine zH V _ ⟨λh=>by simp at h,λ_=>⟨λz V'=>∃j:Nat,z=(j:Int)/\j<=A.length,λz=>A.length-z.toNat,⟨0,σ,0,rfl,á _⟩,?_⟩⟩;rintro z V2 e ⟨j,rfl,W⟩;refine ⟨rfl,λb=>?_,λb X Y=>rfl⟩;have b:(j:Int)<A.length:=Á b;have f:j<A.length:=ω;have w:i64.wrap ((j:Int)+1)=((j+1:Nat):Int):=by{rw [ao ω];rfl};rw [Ü,w];obtain ⟨C,Z,p1,n1,c1,p2,n2,c2,b2,p3,n3,c3,p4,n4,c4,a,D,E,F,G,H,I,J,g⟩:=oJ eI.shape (hA.le e λ_ _ g=>eI.le g e) f;obtain ⟨i,K,Tg,L,M,Wi,Qx,N,O,Wj,VS,P,Q,R,S,T,l,o,s,t,u,v,y,U⟩:=oJ eI.shape (hB.le e λ_ _ g=>eI.le g e) f;have ⟨s1,s2⟩:=hs _ (ó f);refine ⟨C,⟨ω,ω⟩,_,_,_,_,_,_,_,_,_,_,_,_,_,_,a,D,E,F,G,H,I,J,i,⟨ω,ω⟩,_,_,_,_,_,_,_,_,_,_,_,_,_,_,T,l,o,s,t,u,v,y,λV3 B=>(DH (eI.le g B) (eI.le U B) s1 s2 hk).s ?_⟩;rintro r V4 l4 rfl;rw [Ç ⟨rfl,rfl⟩];exact ⟨_,rfl,π,λ_=>⟨((j+1:Nat):Int),by dsimp only;omega,σ,j+1,rfl,f⟩⟩
theorem kW {q:Rat}(h:RQ V v q):À 121 #[v] V λr W=>r=Ô .i64 q.num.sign:=by obtain ⟨_,_,_,_,_,_,rfl,a,-⟩:=h;exact rG q a
theorem uP {p:Rat×Rat}(h:RP V v p.1 p.2):À 139 #[v] V λr W=>r=Ô .i64 (aV.half p):=by obtain ⟨_,_,_,_,_,_,_,_,_,_,_,_,rfl,o,q⟩:=h;refine Ev V _ λs t=>(kW ra).s ?_;rintro r V2 u rfl;refine ⟨_,rfl,λw x=>(kW ra).s ?_⟩;rintro r y A rfl;have key:∀z:Int,(z=if p.2.num.sign>0\/p.2.num.sign=0/\p.1.num.sign>0 then 1 else if p.2.num.sign<0\/p.1.num.sign<0 then 2 else 0)->Value.int .i64 z=Ô .i64 (aV.half p):=λz e=>by{rw [e];rfl};refine ⟨_,rfl,λa=>?_,λa=>?_⟩;{have a:p.1.num.sign=0:=by{simpa using a};refine ⟨λb B C=>key _ ?_,λb=>⟨λc f g=>key _ ?_,λc=>⟨λd=>⟨λe i j=>key _ ?_,λe k l=>key _ ?_⟩,λd m n=>key _ ?_⟩⟩⟩;{have b:p.2.num.sign=0:=by{simpa using b};rw [Ã ω,Ã ω]};{have c:=Á c;rw [Ä (.inl c)]};{have b:¬p.2.num.sign=0:=by{simpa using b};have d:p.2.num.sign=0:=by{simpa using d};exact Å d b};{have b:¬p.2.num.sign=0:=by{simpa using b};have d:p.2.num.sign=0:=by{simpa using d};exact Å d b};{have b:¬p.2.num.sign=0:=by{simpa using b};have c:=Â c;rw [Ã ω,Ä ω]}};{have a:¬p.1.num.sign=0:=by{simpa using a};refine ⟨λc f g=>key _ ?_,λc=>⟨λd=>⟨λe i j=>key _ ?_,λe k l=>key _ ?_⟩,λd m n=>key _ ?_⟩⟩;{have c:=Á c;rw [Ä (.inl c)]};{have d:p.2.num.sign=0:=by{simpa using d};have e:=Á e;rw [Ä (.inr ⟨d,e⟩)]};{have d:p.2.num.sign=0:=by{simpa using d};have e:=Â e;rw [Ã ω,Ä ω]};{have d:¬p.2.num.sign=0:=by{simpa using d};have c:=Â c;rw [Ã ω,Ä ω]}}
theorem ZT (q:Rat):-1<=q.num.sign/\q.num.sign<=1:=by rcases Qt1 q.num 0 with h|h|h;{rw [Qf5 h];omega};{rw [h];decide};{rw [Qh6 h];omega}
theorem DC {w:un}{a b:Rat×Rat}(h:RP V v a.1 a.2)(M:RP V w b.1 b.2)(s1:Sz k a.1)(s2:Sz k a.2)(s3:Sz k b.1)(s4:Sz k b.2)(N:4*k+4<2^38:=by omega):À 143 #[v,w] V λr W=>r=Ô .i64 (aV.OH a b):=by have f:=h;have d:=M;obtain ⟨_,_,_,_,_,_,_,_,_,_,_,_,rfl,-⟩:=h;obtain ⟨_,_,_,_,_,_,_,_,_,_,_,_,rfl,-⟩:=M;refine C0 V _ λi j=>(uP ra).s ?_;rintro r V2 l rfl;refine ⟨_,rfl,λm n=>(uP ra).s ?_⟩;rintro r o p rfl;refine ⟨_,rfl,λg=>⟨λc q s=>?_,λc t u=>?_⟩,λg x y=>(gH ra ra s1 s2 s3 s4 N).s ?_⟩;{unfold aV.OH;rw [Ä (Á c)]};{have g:aV.half a≠aV.half b:=by{simpa using g};have c:=Â c;unfold aV.OH;rw [Ã c,Ä ω]};{have g:aV.half a=aV.half b:=by{simpa using g};rintro r z A gc;obtain ⟨_,_,_,_,_,_,rfl⟩:=gc.shape;refine qxW ⟨rfl,λB C=>(kW ra).s λr D e rfl=>⟨_,rfl,λE F=>?_⟩⟩;have G:=ZT (a.1*b.2-a.2*b.1);rw [ao ω];unfold aV.OH;rw [Ã ω,Ã ω];show _=Value.int .i64 (-(a.1*b.2-a.2*b.1).num.sign);congr 1;omega}
theorem IF {p:Rat×Rat}(h:RP V v p.1 p.2)(s1:Sz k p.1)(s2:Sz k p.2)(u:k<=2^40:=by omega):À 70 #[v] V λr W=>RP W r (-p.1) (-p.2):=by obtain ⟨_,_,_,_,_,_,_,_,_,_,_,_,rfl,f,i⟩:=h;refine HP V _ λn b=>(kV (f.le b) s1 u).s ?_;rintro r V2 j g;have l:=g;obtain ⟨_,_,_,_,_,_,rfl⟩:=g.shape;refine qxW ⟨rfl,λo c=>(kV (i.le (b.m (j.m c))) s2 u).s ?_⟩;rintro r q m d;have a:=d;obtain ⟨_,_,_,_,_,_,rfl⟩:=d.shape;exact qxW ⟨rfl,λs e=>⟨_,_,_,_,_,_,_,_,_,_,_,_,rfl,l.le (c.m (m.m e)),a.le e⟩⟩
theorem AZ {pv vv:un}{p v:Rat×Rat}{k:Nat}(hk1:1000<=k)(hk:16*k+16<2^38)(s1:Sz k p.1)(s2:Sz k p.2)(s3:Sz k v.1)(s4:Sz k v.2){t:Tr}(h:RW V q t)(ha:t.dJ Bd)(hp:RP V pv p.1 p.2)(hv:RP V vv v.1 v.2):À 102 #[qyQ q,pv,vv] V λr W=>r=æ #[Õ (aV.oV t p v).1,Õ (aV.oV t p v).2]:=by
 have w:=hp;have x:=hv;obtain ⟨_,_,_,_,_,_,_,_,_,_,_,_,rfl,-⟩:=hp;obtain ⟨_,_,_,_,_,_,_,_,_,_,_,_,rfl,-⟩:=hv;refine zP V _ ⟨λz k V'=>∃n,RW V' z n/\n.dJ Bd/\k=n.size/\aV.oV n p v=aV.oV t p v,⟨q,t.size,σ,t,h,ha,rfl,rfl⟩,?_⟩;rintro z m Y Z ⟨n,h',y,rfl,e⟩;rw [<-e];clear e h ha t
 cases n with
 | leaf i=>
  have ⟨is,g0,g1⟩:=ku h';exact ⟨rfl,is,is,_,g0,Ū,λ_=>⟨is,is,_,g1,λV5 l5=>rfl⟩⟩
 | node ln a b=>
  obtain ⟨A,i,B,C,D,E,F,G,H,I,J,K,L,M,pl,pr,rfl,s,hl,N,O⟩:=h';obtain ⟨P,Q,R⟩:=y;have sl:=P.e_
  have c:∀{W:ut},Y.Le W->∀j v,([Õ B,dB C D E,Õ F,dB G H I,Õ J,dB K L M]:zA un)[j]?=some v->W.at (((⟨A,0,none⟩:Addr).add 2).add j) v:=by
   intro W hW j v hv;rw [Au,add_zero'];refine dD (xs:=[_,_,_,_,_,_,_,_,_,_]) (hW _ _ s) ?_;have hj:j<6:=(Ġ.1 hv).1
   match j,hj,hv with
   | 0,_,h=>exact h
   | 1,_,h=>exact h
   | 2,_,h=>exact h
   | 3,_,h=>exact h
   | 4,_,h=>exact h
   | 5,_,h=>exact h
  have o:=Ó.Le.refl Y;refine ⟨rfl,rfl,rfl,false,yY s 0 rfl,λ_=>⟨rfl,rfl,B,C,D,E,F,G,H,I,J,K,L,M,(⟨A,0,none⟩:Addr).add 2,rfl,c o 0 _ rfl,c o 1 _ rfl,c o 2 _ rfl,c o 3 _ rfl,c o 4 _ rfl,c o 5 _ rfl,λV2 S=>(Cc (hl.le S) (w.le (Z.m S)) (k:=k) ⟨sl.1.s hk1,sl.2.1.s hk1,sl.2.2.s hk1⟩ s1 s2 hk).s ?_⟩,Ū⟩;rintro r V3 l3 rfl;have d:=S.m l3;refine ⟨_,rfl,λz _=>z=aV.J3 ln p v,⟨λg=>?_,λg=>?_⟩,?_⟩
  ·have g:(aC ln p.1 p.2).num.sign=0:=by{simpa using g};refine ⟨rfl,rfl,B,C,D,E,F,G,H,I,J,K,L,M,(⟨A,0,none⟩:Addr).add 2,rfl,c d 0 _ rfl,c d 1 _ rfl,c d 2 _ rfl,c d 3 _ rfl,c d 4 _ rfl,c d 5 _ rfl,λV4 l4=>(eE (hl.le (d.m l4)) sl.1 sl.2.1 sl.2.2 ω).s ?_⟩;rintro r V5 l5 gd;have T:RP V5 r (aV.cG ln).1 (aV.cG ln).2:=gd;obtain ⟨_,_,_,_,_,_,_,_,_,_,_,_,rfl,-⟩:=gd;refine qxZ ⟨rfl,λV6 l6=>(gH (T.le l6) (x.le (Z.m (d.m (l4.m (l5.m l6))))) (k:=k) (sl.2.1.s hk1) (sl.1.neg.s hk1) s3 s4).s ?_⟩;rintro r V7 l7 gc;have U:=gc;obtain ⟨_,_,_,_,_,_,rfl⟩:=gc.shape;refine qxW ⟨rfl,λV8 l8=>(kW (U.le l8)).s ?_⟩;rintro r V9 l9 rfl;refine ⟨_,rfl,_,σ,?_⟩;unfold aV.J3;rw [Ä g,aV.S3];rfl
  ·have g:¬(aC ln p.1 p.2).num.sign=0:=λh=>by{rw [h] at g;cases g};refine ⟨_,σ,?_⟩;unfold aV.J3;rw [Ã g]
  ·rintro z fo X rfl;have u:=d.m X;refine ⟨rfl,λf=>⟨rfl,rfl,pl,yY (u _ _ s) 8 rfl,pl,a.size,by simp only [Tr.size];omega,σ,a,N.le u,Q,rfl,?_⟩,λf=>⟨λl=>⟨rfl,rfl,pr,yY (u _ _ s) 9 rfl,pr,b.size,by simp only [Tr.size];omega,σ,b,O.le u,R,rfl,?_⟩,λl iL d=>?_⟩⟩;{have f:aV.J3 ln p v=1:=by{simpa using f};simp only [aV.oV];rw [Ä f]};{have f:¬aV.J3 ln p v=1:=by{simpa using f};have l:aV.J3 ln p v=-1:=by{simpa using l};simp only [aV.oV];rw [Ã f,Ä l]};{have f:¬aV.J3 ln p v=1:=by{simpa using f};have l:¬aV.J3 ln p v=-1:=by{simpa using l};simp only [aV.oV];rw [Ã f,Ã l]}
end
section
def rP {V:ut}{p:OA}{n:Nat}{al:zA L3}(h:bo 6 bP V p n al){i:Nat}(hi:i<al.length):p.isSome=true/\∃(b1:md)(u:OA)(y c1:Nat)(z:md)(D:OA)(E F:Nat)(M:md)(N:OA)(O Z:Nat)(a:Addr),ae p (i*6)=some a/\V.at (a.add 0) (Õ b1)/\V.at (a.add 1) (dB u y c1)/\V.at (a.add 2) (Õ z)/\V.at (a.add 3) (dB D E F)/\V.at (a.add 4) (Õ M)/\V.at (a.add 5) (dB N O Z)/\bP V (qvK #[Õ b1,dB u y c1,Õ z,dB D E F,Õ M,dB N O Z]) al[i]:=by have ⟨f,c,xs,g,d,b⟩:=h.at_ i hi;have ⟨_,_,_,_,_,_,_,_,_,_,_,_,e⟩:=bG d;have e:=Æ Array.toList (Value.agg.inj e);subst e;refine ⟨?_,_,_,_,_,_,_,_,_,_,_,_,_,f,c,b 0 _ rfl,b 1 _ rfl,b 2 _ rfl,b 3 _ rfl,b 4 _ rfl,b 5 _ rfl,d⟩;(cases p with|none=>{cases c}|some a=>rfl)
def Hu {l m:L3}{k:Nat}(sl:iJ k l)(sm:iJ k m):Sz (20*k+20) (PD l m)/\Sz (20*k+20) (PE l m):=by obtain ⟨a,b,e⟩:=sl;obtain ⟨c,d,f⟩:=sm;exact ⟨(Sz.mul ((b.mul f).sub (e.mul d)) (jW ((a.mul d).sub (b.mul c)))).s ω,(Sz.mul ((e.mul c).sub (a.mul f)) (jW ((a.mul d).sub (b.mul c)))).s ω⟩
def I3 {q:L3->Prop}(u:∀l,q l->q (bN l)){ls:zA L3}(h:∀l∈ls,q l):∀l∈aY ls,q l:=λl a=>by grind [iS]
end
section
variable{V:Ó}
def LL:L3:=(0,1,0)
theorem LL_ok:ch LL=true:=φ
theorem Co {z:Int}(k:Nat)(u:k≠0)(h:z.natAbs<=1):z.natAbs<2^k:=ō h (Qd7 u)
theorem Ye (k:Nat)(u:k≠0):LL.1.natAbs<2^k/\LL.2.1.natAbs<2^k/\LL.2.2.natAbs<2^k:=⟨Co k u φ,Co k u φ,Co k u φ⟩
theorem QA:Bd LL:=Ye 1000 φ
theorem Ih {v:un}{a b c:Int}(h:RL V v a b c):∃(b1:md)(u:OA)(y c1:Nat)(z:md)(D:OA)(E F:Nat)(M:md)(N:OA)(O Z:Nat),v=qvK #[Õ b1,dB u y c1,Õ z,dB D E F,Õ M,dB N O Z]:=by obtain ⟨p,n,s,d,f,g,q,m,e,rfl,-⟩:=h;grind
theorem Gq {u w:un}(y:RP V u ((0:Int):Rat) ((0:Int):Rat))(z:RP V w ((1:Int):Rat) ((0:Int):Rat)):À 44 #[u,w] V λr W=>∃l,r=æ #[l,Õ true]/\RL W l LL.1 LL.2.1 LL.2.2:=by have a:Sz 1 ((0:Int):Rat):=by{unfold Sz;decide};refine (jQ y z a a MB a ω).s ?_;have b:(pz ((0:Int):Rat) ((0:Int):Rat) ((1:Int):Rat) ((0:Int):Rat)).1.num=0:=κ;have c:(pz ((0:Int):Rat) ((0:Int):Rat) ((1:Int):Rat) ((0:Int):Rat)).2.1.num=1:=κ;have d:(pz ((0:Int):Rat) ((0:Int):Rat) ((1:Int):Rat) ((0:Int):Rat)).2.2.num=0:=κ;rw [b,c,d];rintro r V' _ ⟨-,h⟩;exact h ω
theorem qC {p:L3->Prop}:∀{t:Tr} {k:Nat},t.dJ p->∀x∈wr k t,p x.ln
 | .leaf _,_,_,x,h=>by simp [wr] at h
 | .node l a b,k,⟨u,y,z⟩,x,h=>by
  simp only [wr,ê,ø] at h;rcases h with rfl|h|h
  ·exact u
  ·exact qC y x h
  ·exact qC z x h
theorem TN {t:Tr}{p:OA}(h:RW V p t):p.isSome=true:=by (cases t with|leaf i=>{obtain ⟨b,a,c,d,e,f,g,j,k,rfl,m⟩:=h;rfl}|node l x y=>{obtain ⟨b,i,n,o,q,r,s,u,v,a,w,z,A,c,pl,B,rfl,-⟩:=h;rfl})
theorem U1:∀(t:Tr) {V:ut} {p:OA} {lb:Nat} {n c:Nat} {vs:zA un} {l:zA Nd},RW V p t->t.dJ jO->n=l.length ->(vs≠[]->V.w.heap[lb]?=some (.cells vs.toArray 179 (0,0)))->(vs≠[]->V.X lb)->n<=c->c*8<=vs.length->NR V vs l->n+t.size<=1000000 ->À 32 #[qyQ p,dB (mA lb c) n c] V λr V'=>∃(bm:Nat)(vm:zA un)(c':Nat),(vm≠[]->V'.w.heap[bm]?=some (.cells vm.toArray 179 (0,0)))/\(vm≠[]->V.w.heap.size<=bm\/(vs≠[]/\bm=lb))/\r=æ #[dB (mA bm c') (n+t.size) c',Ô .i64 (rt n t)]/\n+t.size<=c'/\c'*8<=vm.length/\NR (V'.bz (vm≠[]) bm) vm (l++wr n t)/\(t.size=0->c'=c):=by
 intro t
 induction t with
 | leaf i=>
  intro V p lb n c vs l F _ G a q s z H I;have f:=TN F;obtain ⟨b,U,W,c4,c5,c6,c7,c8,c9,rfl,A⟩:=F
  have fin:∀(D:ut)(k:Nat)(x:Int),V.Le (D.bz (vs≠[]) k)->(vs≠[]->D.w.heap[k]?=some (.cells vs.toArray 179 (0,0))) ->
    (vs≠[]->V.w.heap.size<=k\/(vs≠[]/\k=lb)\/False)->x=rt n (.leaf i)->∃(bm:Nat)(vm:zA un)(c':Nat),(vm≠[]->D.w.heap[bm]?=some (.cells vm.toArray 179 (0,0)))/\(vm≠[]->V.w.heap.size<=bm\/(vs≠[]/\bm=lb)) /\
   Value.tuple #[dB (mA k c) n c,Ô .i64 x]=æ #[dB (mA bm c') (n+(Tr.leaf i).size) c',Ô .i64 (rt n (.leaf i))]/\n+(Tr.leaf i).size<=c'/\c'*8<=vm.length/\NR (D.bz (vm≠[]) bm) vm (l++wr n (.leaf i))/\((Tr.leaf i).size=0->c'=c):=by
   intro D k x hle e3 e4 Y;refine ⟨k,vs,c,e3,λh=>?_,by rw [Y];rfl,s,z,?_,λ_=>rfl⟩
   ·rcases e4 h with h|h|h;{exact .inl h};{exact .inr h};{exact h.elim}
   ·simp only [wr,þ];exact H.le hle
  refine rD _ lb n c vs V _ a q ⟨f,f,true,yY A 0 rfl,λ_=>⟨f,f,i,yY A 1 rfl,λZ V1 k J E a3=>fin V1 k _ J E a3 (by subst Z;rfl),λZ V2 k J E a3=>fin V2 k _ J E a3 (by subst Z;rfl)⟩,λh=>by cases h⟩
 | node ln x y Xv ihy=>
  intro V p lb n c vs l F K G a q s z H I;have f:=TN F;simp only [Tr.size] at I;obtain ⟨⟨-,a0⟩,a4,a8⟩:=K;obtain ⟨b,i,b1,p1,n1,c1,b2,p2,n2,U,b3,p3,n3,W,pl,pr,rfl,A,hl,Y,hy⟩:=F
  have g:∀j v,([Õ b1,dB p1 n1 c1,Õ b2,dB p2 n2 U,Õ b3,dB p3 n3 W]:zA un)[j]?=some v->V.at (((⟨b,2,none⟩:Addr)).add j) v:=by
   intro j v a
   have L:j<6:=by rcases Ē j 6 with L|L;{exact L};{rw [ţ (by simpa using L)] at a;cases a}
   have h2:(⟨b,2,none⟩:Addr)=(⟨b,0,none⟩:Addr).add 2:=by rw [add_zero']
   rw [h2,Au,add_zero'];refine dD (xs:=[_,_,_,_,_,_,_,_,_,_]) A ?_
   match j,L,a with
   | 0,_,a=>exact a
   | 1,_,a=>exact a
   | 2,_,a=>exact a
   | 3,_,a=>exact a
   | 4,_,a=>exact a
   | 5,_,a=>exact a
  obtain ⟨t1,t2,t3⟩:=a0.ah;refine rD _ lb n c vs V _ a q ⟨f,f,false,yY A 0 rfl,Ū,λ_=>⟨f,f,b1,p1,n1,c1,b2,p2,n2,U,b3,p3,n3,W,⟨b,2,none⟩,by simp [ae,add_zero'],g 0 _ rfl,g 1 _ rfl,g 2 _ rfl,g 3 _ rfl,g 4 _ rfl,g 5 _ rfl,λD l3=>(qc ra ω ω).s ?_⟩⟩;rintro r V4 l4 M;obtain ⟨d1,q1,m1,e1,d2,q2,m2,e2,d3,q3,m3,e3,rfl⟩:=wI M;have Sk:=l3.m l4;refine wqQ ⟨rfl,ω,s,z,rfl,by intro v a;simp at a;rcases a with rfl|rfl|rfl|rfl|rfl|rfl|rfl|rfl<;>rfl,λsp c' g1 g2=>?_⟩;refine ⟨f,f,pl,yY (Sk _ _ A) 8 rfl,λB l5 N f1 f2=>?_⟩;have d:=NR.push (sp:=sp) (x:=0) (y:=0) ra ω (ln:=ln) M;rw [<-G] at d;generalize hrow:vs.take (n*8)++([_,_,_,_,_,_,_,_]:zA un)++sp=row at f1 f2 d ⊢
  have O:row.length=n*8+8+sp.length:=by rw [<-hrow];simp only [ë,è,Ą,İ];omega
  have P:row≠[]:=λe=>by rw [e] at O;simp only [İ] at O;omega
  have C:=Sk.m l5;refine (Xv (V:=B.ar [vb row B.w.heap.size N]) (p:=pl) (lb:=N) (n:=n+1) (c:=c') (vs:=row) (l:=l++[⟨ln,0,0⟩]) (RW.le (V:=V) (V':=B.ar _) (λb o h=>C b o h) Y) a4 (by simp [G]) f1 (λh=>⟨by simp [pC h],f2 h⟩) g1 ω (NR.le (V:=V4) (V':=B.ar _) d λb o h=>l5 b o h) ω).s ?_;rintro r V6 l6 ⟨bm,vm,a9,J,E,rfl,a5,a6,a7,-⟩;have Qv:B.Le V6:=λb o h=>l6 b o h;have Q:=BC (V':=B) Qv (Ó.Le.refl B) λh=>(E h).imp id λh'=>by rw [h'.2];exact f2 P
  refine ⟨bm,vm,J,E,none,_,_,_,rfl,f,f,pr,yY ((C.m Q) _ _ A) 9 rfl,λS l7 R d1 d2=>?_⟩;have b0:vm≠[]:=λe=>by rw [e] at a6;simp at a6;omega
  refine (ihy (V:=S.ar [vb vm S.w.heap.size R]) (p:=pr) (lb:=R) (n:=n+1+x.size) (c:=a9) (vs:=vm) (l:=l++[⟨ln,0,0⟩]++wr (n+1) x) (RW.le (V:=V) (V':=S.ar _) (λb o h=>((C.m Q).m l7) b o h) hy) a8 (by simp [G,jf];omega) d1 (λh=>⟨by simp [pC h],d2 h⟩) a5 a6 (NR.le (V:=V6.bz (vm≠[]) bm) (V':=S.ar _) a7 λb o h=>l7 b o h) ω).s ?_;rintro r V8 l8 ⟨bn,T,b4,b8,b9,rfl,b5,b6,b7,-⟩;have hlen:n*8+8<=T.length:=ω
  simp only [Ü];refine ⟨bn,T,b8,b9,none,_,_,_,rfl,⟨ω,ω⟩,b5,ω,⟨ω,ω⟩,b5,by rw [Qf3];omega,λV9 UN u1 u4 u5=>?_⟩;have m:=NR.kids (V:=V8.bz (T≠[]) bn) (l:=l) (r:=wr (n+1) x++wr (n+1+x.size) y) (ln:=ln) (u:=0) (v:=0) (x:=rt (n+1) x) (y:=rt (n+1+x.size) y) (by simpa using b7);rw [<-G] at m;refine ⟨UN,_,b4,u4,λh=>?_,by rw [show n+(Tr.node ln x y).size=n+1+x.size+y.size from by simp only [Tr.size];omega];rfl,by simp only [Tr.size];omega,by simp only [Qf3];omega,?_,λh=>by simp only [Tr.size] at h;omega⟩
  ·rcases u5 h with h|h|h;{exact .inl h};{exact .inr h};{exact h.elim}
  ·simp only [wr];exact NR.le (V:=V8.bz (T≠[]) bn) m λb o h=>u1 b o h
theorem A6 {p:OA}{t:Tr}(h:RW V p t)(E:t.dJ jO)(F:t.size<=1000000):À 10 #[qyQ p] V λr W=>AT W r (rt 0 t) (wr 0 t)/\(t.size=0->r=qvK #[Ô .i64 (rt 0 t),dB none 0 0]):=by refine Dk V _ λg j=>?_;refine aa.monoH (U1 t (V:=g) (lb:=0) (vs:=[]) (l:=[]) (n:=0) (c:=0) (h.le j) E rfl (λh=>Å rfl h) (λh=>Å rfl h) (Ù _) (Ù _) (λi d k=>by simp at k) ω) ?_;rintro r V2 B C ⟨m,vm,q,s,u,rfl,a,D,e,v⟩;refine ⟨m,vm,s,λh=>(u h).imp id λw=>Å rfl w.1,none,_,_,_,rfl,λx y z A=>?_⟩;simp only [Ŏ,Ĉ] at e a ⊢;have:=NS.ofRow (V:=x) (b:=z) (c:=q) (vm:=vm) (l:=wr 0 t) (ty:=179) A (by rw [jf];exact a) (e.le λb o h=>y b o h);rw [jf] at this;refine ⟨⟨_,_,_,rfl,this⟩,λf=>?_⟩;rw [v f,f];rfl
theorem mI {V:ut}{p:OA}{t:Tr}(h:RW V p t)(u:t.dJ jO)(y:t.size<=1000000:=by omega):À 10 #[qyQ p] V λr W=>AT W r (rt 0 t) (wr 0 t):=(A6 h u y).s λ_ _ _ h=>h.1
def Ny (V:Ó):Ó:=⟨V.w,λb=>b<V.w.heap.size,λ_=>False,λ_ h=>h,λ_ h=>h.elim⟩
theorem K4 {f:FuncId}{args:Array un}{o:Obj}(h:À f args (Ny V) λr W=>∃u,r=qyQ (some ⟨u,0,none⟩)/\W.aW u o):À f args V λr W=>∃u,r=qyQ (some ⟨u,0,none⟩)/\V.w.heap.size<=u/\W.aW u o:=
 ⟨h.1,h.2.s λ_ _ ⟨_,he,a,u,d,c⟩=>⟨_,he,⟨a.size,λb c _=>a.aW b c (λh=>h),a.os,a.tape,a.out,a.dr⟩,u,d,Nat.le_of_not_lt c.1,λe=>c.1 (V.hH u e),c.2⟩⟩
theorem IJ {y:OA}{ln lc:Nat}(z:ln<=lc):À 5 #[dB y ln lc] V λr W=>∃u,r=qyQ (some ⟨u,0,none⟩)/\V.w.heap.size<=u/\W.aW u (.cells #[dB y (min ln 400) lc,Ô .i64 0] 72 (0,0)):=by refine K4 (HX (Ny V) _ ?_);have e:cH (ln:Int) 400=((min ln 400:Nat):Int):=by{unfold cH;simp only [Nat.min_def];split<;>split<;>omega};rw [e,Ü];have:=Wj0 ln 400;exact ⟨⟨ω,ω⟩,λb c u a=>⟨u,rfl,a⟩⟩
theorem NT {t:Tr}(h:t.dJ jO):t.dJ λx=>ch x=true:=Tr.dJ.imp (λ_ h=>h.1) h
theorem xE {t:Tr}(h:t.dJ jO):t.dJ Bd:=Tr.dJ.imp (λ_ h=>h.2) h
theorem Ro (l:L3):bN (bN l)=bN l:=by unfold bN;by_cases h:l.1<0\/l.1=0/\l.2.1<0;{rw [Ä h,Ã];unfold Ö;dsimp only;omega};{rw [Ã h,Ã h]}
theorem NQ {l:L3}(h:ch l=true):ch (bN l)=true:=by unfold bN;split;{unfold ch Ö bZ at *;simp only [ť];rw [Č,decide_eq_true_iff,decide_eq_true_iff] at h ⊢;exact ⟨λe=>h.1 ⟨ω,ω⟩,h.2⟩};{exact h}
end
end Go.Proofs.Tryz
namespace Go.Eng
def Ó.bare (V:Ó)(b:Nat):Ó:=⟨V.w,λx=>V.H x/\x≠b,λx=>V.X x/\x≠b,λx h=>V.hH x h.1,λx h=>⟨V.hX x h.1,h.2⟩⟩
def Ó.UI (V:ut)(b:Nat):V.Le (V.bare b):=λ_ _ h=>⟨λa=>h.1 a.1,h.2⟩
def aa.bare {P:Program}{f:FuncId}{args:Array un}{V:ut}{b:Nat}{R:un->ut->Prop}(u:b<V.w.heap.size)(h:aa P f args (V.bare b) R):aa P f args V λr V'=>V'.w.heap[b]?=V.w.heap[b]?/\R r (V'.bare b):=by refine ⟨h.1,h.2.s λ_ g ⟨r,he,a,c⟩=>⟨r,he,⟨a.size,λx d e=>a.aW x d λh=>e h.1,a.os,a.tape,a.out,a.dr⟩,a.aW b u (λh=>h.2 rfl),c⟩⟩
theorem Ó.jw {V:ut}{b:Nat}{a:Addr}{v:un}(h:(V.bare b).at a v)(u:a.block≠b):V.at a v:=⟨λc=>h.1 ⟨c,u⟩,h.2⟩
def Ig (V:Ó)(b:Nat):Prop:=∃(cs:Array Value)(ty:TypeId)(m:Nat×Nat),V.w.heap[b]?=some (.cells cs ty m)/\∀v∈cs,∀k z,v≠.int k z
theorem Ig.ne {V:ut}{b:Nat}(h:Ig V b){a:Addr}{k:IntKind}{z:Int}(u:(V.bare b).at a (Ô k z)):a.block≠b:=by obtain ⟨cs,ty,m,d,g⟩:=h;intro e;have c:=u.2;unfold World.cell? at c;rw [e] at c;have f:(V.bare b).w.heap[b]?=some (.cells cs ty m):=d;grind
end Go.Eng
namespace Go.Proofs.Tryz
open Go.Eng Go.Big
variable{V:Ó}{b c cc cn n:Nat}{v:Value}{l m:L3}{ls:List L3}{s:Sp}{cp:OA}
theorem RD.jw (u:Ig V b){p:OA}{ds:zA Nat}(h:RD (V.bare b) p n c ds):RD V p n c ds:=by refine ⟨h.len,h.cap,λi v a=>?_,h.gg,h.Jv⟩;have ⟨f,e,g⟩:=h.sl i v a;have:∃d:Int,v=Ô .u32 d:=by{unfold aM at a;grind};grind [Ó.jw,u.ne]
theorem RL.jw (u:Ig V b){x y z:Int}(h:RL (V.bare b) v x y z):RL V v x y z:=by obtain ⟨_,_,_,_,_,_,_,_,_,e,a,c,d⟩:=h;exact ⟨_,_,_,_,_,_,_,_,_,e,RD.jw u a,RD.jw u c,RD.jw u d⟩
theorem EN (a:Addr)(i:Nat):(a.add i).block=a.block:=by unfold Addr.add;split<;>rfl
theorem AT.jw (M:Ig V b){root:Int}{l:zA Nd}(h:AT (V.bare b) v root l)(N:∀x∈l,ch x.ln=true):AT V v root l:=by obtain ⟨q,n,c,rfl,f⟩:=h;refine ⟨q,n,c,rfl,f.len,f.cap,?_,f.Jv⟩;obtain ⟨D,a,k⟩:=f.row;(cases l with|nil=>{exact ⟨[],λi v h=>by simp at h,λi d h=>by simp at h⟩}|cons d l=>{have E:∀g,q=some g->g.block≠b:=by{intro g e;obtain ⟨m,o,p,r,s,t,u,w,y,z,A,B,j,-⟩:=k 0 d rfl;have ⟨F,J,G⟩:=a _ _ (j 6 _ rfl);grind [M.ne,EN]};refine ⟨D,λi v H=>?_,λi x C=>?_⟩;{have ⟨g,e,G⟩:=a i v H;grind [Ó.jw,EN]};{have ⟨m,o,p,r,s,t,u,w,y,z,A,B,j,I⟩:=k i x C;exact ⟨m,o,p,r,s,t,u,w,y,z,A,B,j,.inl (RL.jw M (I.ok (N x (Qb4 C))))⟩}})
theorem Ud:∀{t:Tr} {k:Nat},t.dJ jO->∀x∈wr k t,ch x.ln=true
 | .leaf _,_,_,x,h=>by cases h
 | .node l a b,k,⟨u,y,z⟩,x,h=>by
  rcases ê.1 h with rfl|h
  ·exact u.1
  ·rcases ø.1 h with h|h
   ·exact Ud y x h
   ·exact Ud z x h
theorem tO {V:ut}{u:Nat}{i:md}{b1:md}{D:OA}{E c1:Nat}{F:md}{M:OA}{N O:Nat}{Z:md}{p3:OA}{n3 c3:Nat}{pl pr:OA}{ln:L3}{x y:Tr}(hw:V.w.heap[u]?=some (.cells #[Õ false,Õ i,Õ b1,dB D E c1,Õ F,dB M N O,Õ Z,dB p3 n3 c3,qyQ pl,qyQ pr] 80 (0,0)))(hl:RL V (qvK #[Õ b1,dB D E c1,Õ F,dB M N O,Õ Z,dB p3 n3 c3]) ln.1 ln.2.1 ln.2.2)(hx:RW V pl x)(hy:RW V pr y)(ha:(Tr.node ln x y).dJ jO)(hs:(Tr.node ln x y).size<=1000000):À 10 #[qyQ (some ⟨u,0,none⟩)] V λr W=>W.w.heap[u]?=some (.cells #[Õ false,Õ i,Õ b1,dB D E c1,Õ F,dB M N O,Õ Z,dB p3 n3 c3,qyQ pl,qyQ pr] 80 (0,0))/\AT W r (rt 0 (.node ln x y)) (wr 0 (.node ln x y)):=by have a:=(Qp7.1 hw).1;have b:=V.UI u;refine (aa.bare a (mI (V:=V.bare u) (p:=some ⟨u,0,none⟩) (t:=.node ln x y) ⟨u,i,b1,D,E,c1,F,M,N,O,Z,p3,n3,c3,pl,pr,rfl,⟨λh=>h.2 rfl,hw⟩,hl.le b,hx.le b,hy.le b⟩ ha hs)).s ?_;rintro r V' g ⟨c,d⟩;rw [hw] at c;refine ⟨c,AT.jw ⟨_,_,_,c,?_⟩ d (Ud ha)⟩;intro v f k z e;subst e;simp at f
theorem rI {a b:Rat}:cY a b<0↔a<b:=by grind [fh.1,Gs.1,Gt.1]
theorem Ak:Sz 10 ((1:Int):Rat):=FW (z:=1)
theorem sz_v (h:Bd l){k:Nat}{p:Rat×Rat}(s1:Sz k p.1)(s2:Sz k p.2):Sz (2*k+3010) (aC l p.1 p.2):=by have:=h.e_;exact (((this.1.mul s1).add (this.2.1.mul s2)).add this.2.2).s ω
theorem S0 {p v:Rat×Rat}{i:Nat}(h:i<ls.length)(s:Rat):(ls.take (i+1)).foldl (aV.GY p v) s=aV.GY p v ((ls.take i).foldl (aV.GY p v) s) ls[i]:=by grind [List.take_append_getElem]
theorem Nu {a b:Rat}:cY a b>0↔b<a:=by grind [ct]
abbrev S16:=Bool×OA×Nat×Nat×OA×Nat×Nat×Bool×OA×Nat×Nat×OA×Nat×Nat×Bool×Bool
def agS (z:S16):Value:=.agg #[.bool z.1,.slice z.2.1 z.2.2.1 z.2.2.2.1,.slice z.2.2.2.2.1 z.2.2.2.2.2.1 z.2.2.2.2.2.2.1,.bool z.2.2.2.2.2.2.2.1,.slice z.2.2.2.2.2.2.2.2.1 z.2.2.2.2.2.2.2.2.2.1 z.2.2.2.2.2.2.2.2.2.2.1,.slice z.2.2.2.2.2.2.2.2.2.2.2.1 z.2.2.2.2.2.2.2.2.2.2.2.2.1 z.2.2.2.2.2.2.2.2.2.2.2.2.2.1,.bool z.2.2.2.2.2.2.2.2.2.2.2.2.2.2.1,.bool z.2.2.2.2.2.2.2.2.2.2.2.2.2.2.2]
theorem rsS {u:md}{y:OA}{z xc:Nat}{D:OA}{E F:Nat}{M:md}{N:OA}{O Z:Nat}{yq:OA}{ym ye:Nat}{xa ya:md}(h:mb V (qvK #[Õ u,dB y z xc,dB D E F,Õ M,dB N O Z,dB yq ym ye,Õ xa,Õ ya]) s):xa=s.a/\ya=s.b/\RQ V (qvK #[Õ u,dB y z xc,dB D E F]) s.lo/\RQ V (qvK #[Õ M,dB N O Z,dB yq ym ye]) s.hi:=by obtain ⟨_,_,_,_,_,_,_,_,_,_,_,_,_,_,e,c,d⟩:=h;grind
theorem rsS' {u:md}{y:OA}{z xc:Nat}{D:OA}{E F:Nat}{M:md}{N:OA}{O Z:Nat}{yq:OA}{ym ye:Nat}{xa ya:md}(ea:xa=s.a)(eb:ya=s.b)(h1:RQ V (qvK #[Õ u,dB y z xc,dB D E F]) s.lo)(h2:RQ V (qvK #[Õ M,dB N O Z,dB yq ym ye]) s.hi):mb V (qvK #[Õ u,dB y z xc,dB D E F,Õ M,dB N O Z,dB yq ym ye,Õ xa,Õ ya]) s:=by subst ea eb;exact qxZ ⟨rfl,h1,h2⟩
def qE (l m:L3)(s:Sp):Sp:=if 0<(Û m l).num.sign then (if s.a=true\/s.lo<oP l m then ⟨oP l m,s.hi,false,s.b⟩ else s) else (if s.b=true\/oP l m<s.hi then ⟨s.lo,oP l m,s.a,false⟩ else s)
theorem Fb (u:Ý l m≠0):vh l m s=if (qE l m s).a=false/\(qE l m s).b=false/\(qE l m s).hi<=(qE l m s).lo then none else some (qE l m s):=by unfold vh;rw [Ã u];rfl
theorem Pa (u:Ý l m=0):vh l m s=if (aC m (cg l 0) (cj l 0)).num.sign<=0 then none else some s:=by unfold vh;rw [Ä u]
theorem Ot (u:Nz l)(y:Bd l)(z:Bd m)(D:Ý l m≠0):Sz 100000 (oP l m):=by rw [BX u D];exact (kv y.e_ z.e_).s ω
theorem Zx (y:Nz l)(z:Bd l)(D:Bd m)(E:Ý l m≠0)(u:s.sz 100000):(qE l m s).sz 100000:=by
 have:=Ot y z D E;unfold qE;split<;>split<;>first|exact u|exact ⟨this,u.2⟩|exact ⟨u.1,this⟩
theorem RH {s w:Sp}(z:Nz l)(u:Bd l)(y:Bd m)(D:s.good)(E:s.sz 100000)(e:vh l m s=some w):w.good/\w.sz 100000:=by grind [Bf,kY,Aj,u.e_,y.e_]
theorem N9 {L:L3}(h:RL V v L.1 L.2.1 L.2.2)(u:Nz L)(y:Bd L):À 123 #[v] V λr W=>RP W r (cg L 0) (cj L 0):=by have sl:=y.e_;refine (uN h (Ml u) sl.1 sl.2.1 sl.2.2).s λr V' _ g=>?_;have a:cg L 0=_:=rfl;unfold cg cj;unfold fM;grind
theorem Hs {L:L3}(u:Bd L):Sz 30000 (cg L 0)/\Sz 30000 (cj L 0):=by have sl:=u.e_;exact ⟨Sz.s (qU sl (CB 1000)) ω,Sz.s (qV sl (CB 1000)) ω⟩
theorem uT {i:Nat}(h:bo 6 bP V cp cn ls)(hb:∀l∈ls,Bd l)(hk:∀l∈ls,ch l=true)(hl:ls.length<=1000)(hi:i<ls.length):À 215 #[dB cp cn cc,Ô .i64 i] V λr W=>∃u s,r=æ #[u,Õ (eF ls[i] ls ã).isSome]/\mb W u s/\s.sz 100000/\∀w,eF ls[i] ls ã=some w->s=w:=by
 have hn:=h.len;subst hn;have ⟨is,b1,p1,n1,c1,b2,p2,n2,c2,b3,p3,n3,c3,a,a6,a0,a1,a2,a3,a4,a5,n⟩:=rP h hi;have t:=hb _ (ó hi);have ok:=hk _ (ó hi);generalize el:ls[i]=L at *;have sl:=t.e_;have x:=iV ok;have hd:=CA t;refine EE V _ ⟨is,⟨ω,ω⟩,b1,p1,n1,c1,b2,p2,n2,c2,b3,p3,n3,c3,a,(by rw [Ü];exact a6),a0,a1,a2,a3,a4,a5,λV1 l1=>uR.s ?_⟩;rintro r V2 l2 gf;obtain ⟨_,_,_,_,_,_,_,_,_,_,_,_,_,_,rfl⟩:=Cg gf;refine ⟨_,_,_,_,_,_,_,_,_,_,_,_,_,_,_,_,rfl,λz V'=>∃(j:Nat)(s:Sp),z.1=(j:Int)/\j<=ls.length/\mb V' (agS z.2) s/\s.good/\s.sz 100000/\eF L ls ã=eF L (ls.drop j) s,λz=>(ls.length-z.1).toNat,⟨(0,_,_,_,_,_,_,_,_,_,_,_,_,_,_,_,_),by and_intros<;>first|rfl|trivial,0,ã,rfl,á _,gf,gZ,Vj,by rw [Qt5]⟩,?_⟩;rintro ⟨z,D,E,F,G,H,I,J,N,O,P,Q,R,S,T,U,X⟩ V3 l3 ⟨j,s,ez,hj,gs,sg,v,d⟩;dsimp only at ez gs ⊢;subst ez;obtain ⟨rfl,rfl,Y,Z⟩:=rsS gs;have b6:=(l1.m l2).m l3;refine ⟨θ,λf=>?_,λf b7 H7=>?_⟩;rotate_left
 ·have e:j=ls.length:=by{have:=Â f;omega};subst e;rw [Qr0] at d;exact ⟨_,s,by rw [d];rfl,gs.le H7,v,λw e=>by rw [d] at e;exact ő e⟩
 have f:j<ls.length:=by have:=Á f;omega
 have w1:i64.wrap ((j:Int)+1)=((j+1:Nat):Int):=by rw [ao ω];rfl
 rw [w1,Ü];obtain ⟨a7,B1,P1,N1,C1,B2,P2,N2,C2,B3,P3,N3,C3,A,a8,A0,A1,A2,A3,A4,A5,o⟩:=rP ra f;have y:=hb _ (ó f);have sm:=y.e_;have LD:=CA y;have ej:j=i->ls[j]=L:=λe=>by subst e;exact el
 rw [(Ĥ f)] at d;generalize ls[j]=M at *;have a9:eF L (M::ls.drop (j+1)) s=if M=L then eF L (ls.drop (j+1)) s else match vh L M s with|some s'=>eF L (ls.drop (j+1)) s'|none=>none:=rfl
 rw [a9] at d;have next:∀{W:ut} {D:md} {E:OA} {F G:Nat} {H:OA} {I J:Nat} {N:md} {O:OA} {P Q:Nat} {R:OA} {S T:Nat} {U X:md} {s':Sp},mb W (qvK #[Õ D,dB E F G,dB H I J,Õ N,dB O P Q,dB R S T,Õ U,Õ X]) s'->s'.good->s'.sz 100000->eF L ls ã=eF L (ls.drop (j+1)) s'->∃(j':Nat)(s:Sp),((j+1:Nat):Int)=(j':Int)/\j'<=ls.length/\mb W (qvK #[Õ D,dB E F G,dB H I J,Õ N,dB O P Q,dB R S T,Õ U,Õ X]) s/\s.good/\s.sz 100000/\eF L ls ã=eF L (ls.drop j') s:=λg1 g2 g3 e=>⟨j+1,_,rfl,f,g1,g2,g3,e⟩;refine ⟨a7,⟨ω,ω⟩,B1,P1,N1,C1,B2,P2,N2,C2,B3,P3,N3,C3,A,a8,A0,A1,A2,A3,A4,A5,λz _=>z=decide (M=L),⟨λc=>⟨true,σ,?_⟩,λc V4 l4=>(fH (n.le au) (o.le l4) sl sm).s ?_⟩,?_⟩
 ·exact (Ç (ej (by have:=Á c;omega))).symm
 ·rintro r V5 l5 rfl;exact ⟨_,rfl,(iq L M==(0:Int)),σ,by rw [IM];exact É.2 eq_comm⟩
 rintro z V6 l6 rfl;refine ⟨θ,λc=>?_,λc V7 l7=>(Mk (n.le au) (o.le au) sl sm).s ?_⟩
 ·rw [Ä (Á c)] at d;exact ⟨(((j+1:Nat):Int),_,_,_,_,_,_,_,_,_,_,_,_,_,_,_,_),ω,σ,next (gs.le l6) sg v d⟩
 rw [Ã (Â c)] at d;rintro r V8 l8 ⟨u,rfl,q0,q1⟩;have ⟨s1,s2⟩:=Hu sl sm;have Sr:=l6.m (l7.m l8);by_cases p:Ý L M=0
 ·have qz:=q0 p;unfold M9 at qz;subst qz;rw [Pa p] at d;refine ⟨_,_,_,_,_,_,_,_,_,_,_,_,_,_,_,rfl,λ_ V9 l9=>(N9 (n.le au) x t).s ?_,λh=>by simp [p] at h⟩;rintro r fo b0 gB;obtain ⟨_,_,_,_,_,_,_,_,_,_,_,_,rfl,-⟩:=id gB;have B:=Sr.m (l9.m b0);refine qxZ ⟨rfl,λfg dy=>(Cc (o.le au) (gB.le dy) (sm.up (K:=30000) ω) (Hs t).1 (Hs t).2).s ?_⟩;rintro r gT dX rfl;have C:=B.m (dy.m dX);refine ⟨_,rfl,λc iL dS=>?_,λc=>?_⟩;{rw [Ä (Á c)] at d;exact ⟨_,s,by rw [d];rfl,gs.le au,v,λw e=>by rw [d] at e;cases e⟩};{rw [Ã (Â c)] at d;exact ⟨(((j+1:Nat):Int),_,_,_,_,_,_,_,_,_,_,_,_,_,_,_,_),ω,σ,next (gs.le C) sg v d⟩}
 have hp:=q1 p;obtain ⟨_,_,_,_,_,_,_,_,_,_,_,_,rfl,-⟩:=id hp;refine ⟨_,_,_,_,_,_,_,_,_,_,_,_,_,_,_,rfl,λh=>by simp [p] at h,λ_ lR gj=>(vF (n.le au) (hp.le gj) x (sl.up (K:=30000) ω) (s1.s ω) (s2.s ω)).s ?_⟩;rintro r lS gC gt;obtain ⟨_,_,_,_,_,_,rfl⟩:=gt.shape;have st:=Ot x t y p;have VG:=Sr.m (gj.m gC);refine qxW ⟨rfl,λkH fy=>(eE (o.le au) sm.1 sm.2.1 sm.2.2 ω).s ?_⟩;rintro r lT ij gm;obtain ⟨_,_,_,_,_,_,_,_,_,_,_,_,rfl,-⟩:=id gm;have VH:=VG.m au;refine qxZ ⟨rfl,λmZ hU=>(eE (n.le au) sl.1 sl.2.1 sl.2.2 ω).s λr pS jN gl=>RP.ex gl λ_ _ gl _ _=>λsC kt=>(gH (k:=1000) (gm.le au) (gl.le kt) LD.1 LD.2 hd.1 hd.2).s ?_⟩;rintro r sE qB gc
 have b8:RQ sE r (Û M L):=by have e:=(Ru M L).symm;rw [e];exact gc
 obtain ⟨_,_,_,_,_,_,rfl⟩:=gc.shape;refine qxW ⟨rfl,λsN nH=>(kW ra).s ?_⟩;rintro r uF pk rfl;have b5:=((VH.m au).m au).m au;have b4:=(fy.m ij).m ((hU.m jN).m ((kt.m qB).m au));refine ⟨_,rfl,λz W=>mb W (agS z) (qE L M s),⟨λq=>?_,λq=>?_⟩,?_⟩
 ·have q:=Á q;refine ⟨λz _=>z=decide (s.a=true\/s.lo<oP L M),⟨λm=>⟨true,σ,?_⟩,λm Dx pM=>(ew (gt.le au) (Y.le au) st v.1).s ?_⟩,?_⟩;{exact (Ç (.inl m)).symm};{rintro r HZ Bz rfl;refine ⟨_,rfl,decide (cY (oP L M) s.lo>(0:Int)),σ,?_⟩;rw [m];exact É.2 ⟨λh=>.inr (Nu.1 h),λh=>h.elim π Nu.2⟩};rintro z Nb Jl rfl;refine ⟨θ,λc=>⟨(_,_,_,_,_,_,_,_,_,_,_,_,_,_,_,_),σ,?_⟩,λc=>⟨(_,_,_,_,_,_,_,_,_,_,_,_,_,_,_,_),σ,?_⟩⟩;{have e:qE L M s=⟨oP L M,s.hi,false,s.b⟩:=by{unfold qE;rw [Ä q,Ä (Á c)]};rw [e];exact rsS' rfl rfl (gt.le au) (Z.le au)};{have e:qE L M s=s:=by{unfold qE;rw [Ä q,Ã (Â c)]};rw [e];exact ra}
 ·have q:=Â q;refine ⟨λz _=>z=decide (s.b=true\/oP L M<s.hi),⟨λm=>⟨true,σ,?_⟩,λm Dx pM=>(ew (gt.le au) (Z.le au) st v.2).s ?_⟩,?_⟩;{exact (Ç (.inl m)).symm};{rintro r HZ Bz rfl;refine ⟨_,rfl,decide (cY (oP L M) s.hi<(0:Int)),σ,?_⟩;rw [m];exact É.2 ⟨λh=>.inr (rI.1 h),λh=>h.elim π rI.2⟩};rintro z Nb Jl rfl;refine ⟨θ,λc=>⟨(_,_,_,_,_,_,_,_,_,_,_,_,_,_,_,_),σ,?_⟩,λc=>⟨(_,_,_,_,_,_,_,_,_,_,_,_,_,_,_,_),σ,?_⟩⟩;{have e:qE L M s=⟨s.lo,oP L M,s.a,false⟩:=by{unfold qE;rw [Ã q,Ä (Á c)]};rw [e];exact rsS' rfl rfl (Y.le au) (gt.le au)};{have e:qE L M s=s:=by{unfold qE;rw [Ã q,Ã (Â c)]};rw [e];exact ra}
 rw [Fb p] at d;have kk:=λw=>RH (w:=w) x t y sg v;rw [Fb p] at kk;have sz:=Zx x t y p v;generalize qE L M s=s' at *;clear gs Y Z;rintro ⟨D,E,F,G,H,I,J,N,O,P,Q,R,S,T,U,X⟩ QF H5 gs;dsimp only at gs ⊢;obtain ⟨rfl,rfl,Y,Z⟩:=rsS gs;refine ⟨θ,λz _=>z=decide (s'.a=false/\s'.b=false/\s'.hi<=s'.lo),⟨λm=>⟨λhb Yi GO=>(ew ra ra sz.1 sz.2).s ?_,λhb=>⟨false,σ,?_⟩⟩,λm=>⟨false,σ,?_⟩⟩,?_⟩
 ·rintro r Yj H6 rfl;rw [Ľ] at m hb;refine ⟨_,rfl,decide (cY s'.lo s'.hi≥(0:Int)),σ,É.2 ⟨λh=>⟨m,hb,?_⟩,λh=>?_⟩⟩;{refine Rat.not_lt.1 λg=>?_;have:=rI.2 g;omega};{refine Ww0.1 λg=>?_;have:=rI.1 g;have:=h.2.2;grind}
 ·rw [š] at hb;exact (È λh=>by rw [hb] at h;cases h.2.1).symm
 ·rw [š] at m;exact (È λh=>by rw [m] at h;cases h.1).symm
 rintro z UD Ds rfl;refine ⟨θ,λc b9 LU=>?_,λc=>?_⟩
 ·rw [Ä (Á c)] at d;exact ⟨_,s',by rw [d];rfl,gs.le au,sz,λw e=>by rw [d] at e;cases e⟩
 ·rw [Ã (Â c)] at d kk;have ⟨k1,k2⟩:=kk _ rfl;exact ⟨(((j+1:Nat):Int),_,_,_,_,_,_,_,_,_,_,_,_,_,_,_,_),ω,σ,next (gs.le Ds) k1 k2 d⟩
theorem NC (x:L3):∀(O:zA L3)(j:Nat),j<=O.length->(∀(y:Nat)(h:y<O.length),y<j->aV.OH (aV.cG O[y]) (aV.cG x)<0)->(∀h:j<O.length,¬aV.OH (aV.cG O[j]) (aV.cG x)<0) ->qt x O=if ∃h:j<O.length,O[j]=x then O else O.take j++x::O.drop j
 | [],j,D,_,_=>by
  rw [Ã (λ⟨h,_⟩=>Å h (ŋ _))];simp [qt]
 | u::r,0,_,_,hge=>by
  have z:¬aV.OH (aV.cG u) (aV.cG x)<0:=hge (Wq4 _);unfold qt;rw [Ã z];by_cases e:u=x
  ·rw [Ä e,Ä ⟨Wq4 _,e⟩]
  ·rw [Ã e,Ã (λ⟨_,h⟩=>e h)];rfl
 | u::r,j+1,D,hlt,hge=>by
  have z:aV.OH (aV.cG u) (aV.cG x)<0:=hlt 0 (Wq4 _) (Wq4 _);unfold qt;rw [Ä z,NC x r j (by simpa using D) (λy h a=>hlt (y+1) (by simpa using h) ω) (λh=>hge (by simpa using h))];by_cases c:∃h:j<r.length,r[j]=x
  ·obtain ⟨h,e⟩:=c;rw [Ä ⟨h,e⟩,Ä ⟨by simpa using h,e⟩]
  ·rw [Ã c,Ã (λ⟨h,e⟩=>c ⟨by simpa using h,e⟩)];rfl
theorem DM {p:OA}(h:bo 6 bP V p n ls)(hb:∀l∈ls,Bd l)(hk:∀l∈ls,ch l=true)(hl:ls.length<=1000):À 145 #[dB p n c] V λr W=>∃q m e,r=æ #[dB q m e,Õ (decide (ls=[]\/qL ls ls []≠[]))]/\bo 6 bP W q m (qL ls ls []):=by
 obtain rfl:=h.len
 refine De V _ ⟨λz V'=>∃(i:Nat)(O:zA L3),z.2.2.2=(i:Int)/\i<=ls.length/\O.length<=i/\(∀q∈O,q∈ls)/\qL ls ls []=qL ls (ls.drop i) O/\GR 6 bP V' z.1 z.2.1 z.2.2.1 O,λz=>ls.length-z.2.2.2.toNat,
  ⟨(0,0,[],0),σ,0,[],rfl,á _,á _,(λq I=>by cases I),by rw [Qt5],GR.nil⟩,?_⟩
 rintro ⟨R,N,us,z4⟩ V1 l1 ⟨i,O,e4,NB,a6,P,t,H⟩;dsimp only at e4 H;subst e4;have Q:=H.len;have B:=H.le;have S:=H.cap;have C:=H.row;refine ⟨rfl,λd=>?_,λd=>?_⟩;rotate_left
 ·have d:¬(i:Int)<ls.length:=Â d;obtain rfl:i=ls.length:=ω;rw [Qr0] at t;have t:qL ls ls []=O:=t;rw [t];subst Q;refine ⟨λD kH T bk hb=>?_,λD kH T bk hb=>?_⟩;{have D:((ls.length:Nat):Int)=0:=by{simpa using D};refine ⟨_,_,N,?_,bo.bq hb (C.le λ_ _ g=>bP.le g T) φ B⟩;rw [Ç (.inl (ĝ.1 ω))]};{have D:¬((ls.length:Nat):Int)=0:=by{simpa using D};refine ⟨_,_,N,?_,bo.bq hb (C.le λ_ _ g=>bP.le g T) φ B⟩;congr 5;refine É.2 ⟨λh=>.inr λe=>by rw [e] at h;simp at h,λh=>?_⟩;rcases h with h|h;{rw [h] at D;exact Å rfl D};{have:=Qh2.2 h;omega}}
 have d:(i:Int)<ls.length:=Á d;have y:i<ls.length:=ω
 have w:i64.wrap ((i:Int)+1)=((i+1:Nat):Int):=by rw [ao ω];rfl
 dsimp only;rw [Ü,w];obtain ⟨ad,ha,xs,-,hf,k⟩:=(h.le l1 λ_ _ g=>bP.le g l1).at_ i y;obtain ⟨eb,ep,en,ec,fb,fp,fn,fe,gb,gp,gn,gc,ex⟩:=bG hf;have ex:=Æ Array.toList (Value.agg.inj ex);dsimp only at ex;subst ex;have U:qL ls (ls[i]::ls.drop (i+1)) O=qL ls (ls.drop (i+1)) (if (eF ls[i] ls ã).isSome=true then qt ls[i] O else O):=rfl;rw [(Ĥ y),U] at t;have E:=hb _ (ó y);have W:=ó y;have Pp:∀q∈O,Bd q:=λq I=>hb q (P q I);clear H;refine ⟨aK ha,⟨ω,ω⟩,eb,ep,en,ec,fb,fp,fn,fe,gb,gp,gn,gc,ad,ha,k 0 _ rfl,k 1 _ rfl,k 2 _ rfl,k 3 _ rfl,k 4 _ rfl,k 5 _ rfl,λV2 l2=>(uT ra hb hk hl y).s ?_⟩;generalize ls[i]=x at *;rintro r V3 l3 ⟨u,s,rfl,gs,-,-⟩;obtain ⟨_,_,_,_,_,_,_,_,_,_,_,_,_,_,rfl⟩:=Cg gs;refine ⟨_,_,_,_,_,_,_,_,_,_,_,_,_,_,_,_,_,rfl,λo=>?_,λo=>?_⟩
 ·rw [Ľ] at o;rw [o,Ã φ] at t;exact ⟨(R,N,us,((i+1:Nat):Int)),by dsimp only;omega,σ,i+1,O,rfl,y,ω,P,t,Q,B,S,C.le λ_ _ g=>bP.le g au⟩
 rw [š] at o;rw [o,Ä rfl] at t;have K:=hf;refine ⟨λz _=>∃j:Nat,z=(j:Int)/\j<=O.length/\∀(A:Nat)(h:A<O.length),A<j->aV.OH (aV.cG O[A]) (aV.cG x)<0,λz=>O.length-z.toNat,⟨0,σ,0,rfl,á _,λA _ h=>Å h (ŋ A)⟩,?_⟩;rintro z V4 l4 ⟨j,rfl,qA,jl⟩;have wj:i64.wrap ((j:Int)+1)=((j+1:Nat):Int):=by rw [ao ω];rfl
 rw [Ü,wj];have X:=E.e_;have dx:=CA E;refine ⟨rfl,λz _=>z=true↔∃h:j<O.length,aV.OH (aV.cG O[j]) (aV.cG x)<0,⟨λd=>?_,λd=>⟨false,σ,?_⟩⟩,?_⟩
 ·have d:=Á d;have v:j<O.length:=ω;have L:=Pp _ (ó v);have Y:=L.e_;have dj:=CA L;have ⟨Z,p1,n1,c1,b2,p2,n2,c2,b3,p3,n3,c3,eK,yS,hr⟩:=ue C v;refine ⟨⟨ω,ω⟩,B,Z,p1,n1,c1,b2,p2,n2,c2,b3,p3,n3,c3,⟨eK,yS⟩,λV5 l5=>(eE (hr.le au) Y.1 Y.2.1 Y.2.2 ω).s λr V6 l6 F=>RP.ex F λ_ _ F _ _=>λV7 l7=>(eE (RL.le K au) X.1 X.2.1 X.2.2 ω).s λr V8 l8 G=>RP.ex G λ_ _ G _ _=>λV9 l9=>(DC (a:=aV.cG O[j]) (b:=aV.cG x) (F.le au) (G.le l9) dj.1 dj.2 dx.1 dx.2).s λr fo a0 rfl=>⟨_,rfl,decide (aV.OH (aV.cG O[j]) (aV.cG x)<0),σ,by dsimp only;rw [Ñ];exact ⟨λh=>⟨v,h⟩,λ⟨_,h⟩=>h⟩⟩⟩
 ·have d:=Â d;exact ⟨π,λ⟨h,_⟩=>Å h ω⟩
 rintro z V7 l7 Jc;refine ⟨rfl,λo=>?_,λo=>?_⟩
 ·have ⟨v,a1⟩:=Jc.1 o;refine ⟨((j+1:Nat):Int),by dsimp only;omega,σ,j+1,rfl,v,λA h a7=>?_⟩;by_cases e:A=j;{subst e;exact a1};{exact jl A h ω}
 have a2:∀h:j<O.length,¬aV.OH (aV.cG O[j]) (aV.cG x)<0:=λh h'=>by have:=Jc.2 ⟨h,h'⟩;rw [o] at this;cases this
 have f:=NC x O j qA jl a2;have a3:∀q∈qt x O,q∈ls:=λq I=>(vt.1 I).elim (λe=>e▸W) (P q);refine ⟨λz _=>z=true↔∃h:j<O.length,O[j]=x,⟨λd=>?_,λd=>⟨false,σ,?_⟩⟩,?_⟩
 ·have d:=Á d;have v:j<O.length:=ω;have ⟨Z,p1,n1,c1,b2,p2,n2,c2,b3,p3,n3,c3,eK,yS,hr⟩:=ue C v;refine ⟨⟨ω,ω⟩,B,Z,p1,n1,c1,b2,p2,n2,c2,b3,p3,n3,c3,⟨eK,yS⟩,λV8 l8=>(fH (hr.le au) (RL.le K au) (Pp _ (ó v)).e_ E.e_).s λr V9 l9 rfl=>⟨_,rfl,(iq O[j] x==(0:Int)),σ,by dsimp only;rw [IM,Ñ];exact ⟨λh=>⟨v,h⟩,λ⟨_,h⟩=>h⟩⟩⟩
 ·have d:=Â d;exact ⟨π,λ⟨h,_⟩=>Å h ω⟩
 rintro z fo a0 qp;refine ⟨rfl,λo=>?_,λo fg dy bk hb J=>?_⟩
 ·have hex:=qp.1 o;rw [Ä hex] at f;rw [f] at t;exact ⟨(R,N,us,((i+1:Nat):Int)),by dsimp only;omega,σ,i+1,O,rfl,y,ω,P,t,Q,B,S,C.le λ_ _ g=>bP.le g au⟩
 ·have a4:¬∃h:j<O.length,O[j]=x:=λh=>by{have:=qp.2 h;rw [o] at this;cases this};rw [Ã a4] at f;obtain ⟨xs,ys,x1,x2,x3,y1,y2,y3,r1,r2,r3,r4,r5⟩:=rM (V:=fg) (GR.s ⟨Q,B,S,C⟩ λ_ _ g=>bP.le g au) φ (λ_ _=>rX) hb (es:=[_,_,_,_,_,_]) rfl ra (j:=j);refine ⟨⟨ω,ω⟩,⟨ω,ω⟩,⟨ω,ω⟩,xs,x1,x2,ω,Ù _,Ù 6,x2,x3,λa8 J2 sp c' h1 h2=>?_⟩;rw [r1,r2];(refine ⟨ys,y1,y2,Ù _,y3,ω,ω,r3,r4,λa5 M h3 h4=>⟨(j+(1+(R-j)),M,_,((i+1:Nat):Int)),by dsimp only;omega,by and_intros<;>first|rfl|omega,i+1,qt x O,rfl,y,?_,a3,t,?_⟩⟩);{rw [f,ë,è,Ą,ī];omega};{show GR 6 bP _ _ _ _ (qt x O);rw [f];exact r5 a5 M h3 h4}
theorem DF {lp:OA}{ln lc:Nat}{pv vv:un}{p v:Rat×Rat}(h:bo 6 bP V lp ln ls)(hb:∀l∈ls,Bd l)(hl:ls.length<=1000)(hp:RP V pv p.1 p.2)(hv:RP V vv v.1 v.2)(s1:Sz 60000000 p.1)(s2:Sz 60000000 p.2)(s3:Sz 6000 v.1)(s4:Sz 6000 v.2):À 216 #[dB lp ln lc,pv,vv] V λr W=>RP W r (p.1+ls.foldl (aV.GY p v) 1*v.1) (p.2+ls.foldl (aV.GY p v) 1*v.2)/\Sz 500000000 (p.1+ls.foldl (aV.GY p v) 1*v.1)/\Sz 500000000 (p.2+ls.foldl (aV.GY p v) 1*v.2):=by have hn:=h.len;subst hn;have q:=hp;have a6:=hv;obtain ⟨_,_,_,_,_,_,_,_,_,_,_,_,rfl,-⟩:=hp;obtain ⟨_,_,_,_,_,_,_,_,_,_,_,_,rfl,-⟩:=hv;(refine Ep V _ λV1 l1=>(dO 1 ω).s λr V2 l2 C=>RQ.ex C λ_ C=>⟨λz V'=>∃i:Nat,z.1=(i:Int)/\i<=ls.length/\RQ V' (qvK #[Õ z.2.1,dB z.2.2.1 z.2.2.2.1 z.2.2.2.2.1,dB z.2.2.2.2.2.1 z.2.2.2.2.2.2.1 z.2.2.2.2.2.2.2]) ((ls.take i).foldl (aV.GY p v) 1)/\Sz 400000000 ((ls.take i).foldl (aV.GY p v) 1),λz=>(ls.length-z.1).toNat,⟨(0,_,_,_,_,_,_,_),by and_intros<;>first|rfl|trivial,0,rfl,á _,C,Ak.s ω⟩,?_⟩;rintro ⟨z,zb,zp,zn,u,zq,zm,ze⟩ V3 l3 ⟨i,e,hi,gs,f⟩;dsimp only at e gs ⊢;subst e;have a7:=(l1.m l2).m l3;refine ⟨θ,λc=>?_,λc Yj H6=>?_⟩);{have c:i<ls.length:=by{have:=Á c;omega};have w1:i64.wrap ((i:Int)+1)=((i+1:Nat):Int):=by{rw [ao ω];rfl};rw [w1,Ü];obtain ⟨is,b1,p1,n1,c1,b2,p2,n2,c2,b3,p3,n3,c3,a,D,a0,a1,a2,a3,a4,a5,j⟩:=rP ra c;have E:=hb _ (ó c);have sl:=E.e_;have J:=S0 (p:=p) (v:=v) c 1;generalize ls[i]=A at *;generalize (ls.take i).foldl (aV.GY p v) 1=s at *;have next:∀{W:ut} {b:md} {q1 q2:OA} {m1 d1 m2 d2:Nat} {s':Rat},RQ W (qvK #[Õ b,dB q1 m1 d1,dB q2 m2 d2]) s'->Sz 400000000 s'->aV.GY p v s A=s'->∃i':Nat,((i+1:Nat):Int)=(i':Int)/\i'<=ls.length/\RQ W (qvK #[Õ b,dB q1 m1 d1,dB q2 m2 d2]) ((ls.take i').foldl (aV.GY p v) 1)/\Sz 400000000 ((ls.take i').foldl (aV.GY p v) 1):=λm d e=>⟨i+1,rfl,c,by rw [J,e];exact m,by rw [J,e];exact d⟩;have t1:Sz 70000000 (p.1+((1:Int):Rat)*v.1):=(s1.add (Ak.mul s3)).s ω;have t2:Sz 70000000 (p.2+((1:Int):Rat)*v.2):=(s2.add (Ak.mul s4)).s ω;refine ⟨is,⟨ω,ω⟩,b1,p1,n1,c1,b2,p2,n2,c2,b3,p3,n3,c3,a,D,a0,a1,a2,a3,a4,a5,λV4 l4=>(dO 1 ω).s ?_⟩;rintro r V5 l5 g;obtain ⟨_,_,_,_,_,_,rfl⟩:=g.shape;have H7:=l4.m l5;refine qxW ⟨rfl,λV6 l6=>(fG ra ra ra s1 s2 (Ak.s ω) s3 s4 ω).s ?_⟩;rintro r V7 l7 w;obtain ⟨_,_,_,_,_,_,_,_,_,_,_,_,rfl,-⟩:=id w;have Sq:=H7.m (l6.m l7);refine qxZ ⟨rfl,λV8 l8=>(jm (k:=70000000) (j.le au) (w.le l8) (sl.1.s ω) (sl.2.1.s ω) (sl.2.2.s ω) t1 t2).s ?_⟩;rintro r V9 l9 K;have a8:RQ V9 r (aC A (p.1+((1:Int):Rat)*v.1) (p.2+((1:Int):Rat)*v.2)):=K;obtain ⟨_,_,_,_,_,_,rfl⟩:=K.shape;have XG:=Sq.m au;refine qxW ⟨rfl,λfo a9=>(jm (k:=70000000) (j.le au) (q.le au) (sl.1.s ω) (sl.2.1.s ω) (sl.2.2.s ω) (s1.s ω) (s2.s ω)).s ?_⟩;rintro r fg dy L;have b0:RQ fg r (aC A p.1 p.2):=L;obtain ⟨_,_,_,_,_,_,rfl⟩:=L.shape;have M:=sz_v E (p:=((p.1+((1:Int):Rat)*v.1),(p.2+((1:Int):Rat)*v.2))) t1 t2;have B:=sz_v E s1 s2;refine qxW ⟨rfl,λgT dX=>(gW ra ra M B).s ?_⟩;rintro r iL dS gc;have ec:aC A (p.1+((1:Int):Rat)*v.1) (p.2+((1:Int):Rat)*v.2)-aC A p.1 p.2=aV.nv A v:=by{have:=aV.oW A p v 1;have e1:((1:Int):Rat)=1:=rfl;rw [e1,this];grind};have u:=M.sub B;dsimp only at u;rw [ec] at gc u;obtain ⟨_,_,_,_,_,_,rfl⟩:=gc.shape;refine qxW ⟨rfl,λlR N=>(kW ra).s ?_⟩;rintro r lS O rfl;have P:=((XG.m au).m au).m (N.m O);(refine ⟨_,rfl,λt=>⟨(((i+1:Nat):Int),_,_,_,_,_,_,_),ω,by and_intros<;>first|rfl|trivial,next (gs.le P) f ?_⟩,λt kH Q=>(Cc (x:=p.1) (y:=p.2) (j.le au) (q.le au) ⟨sl.1.s (ü ω (Ù 60000000)),sl.2.1.s ω,sl.2.2.s ω⟩ s1 s2).s ?_⟩);{unfold aV.GY;rw [Ä (.inl (aV.vS.1 (Ë.1 t)))]};have t:aV.nv A v≠0:=λe=>by{rw [aV.vS.2 e] at t;cases t};rintro r lT ij rfl;have R:=P.m (Q.m ij);(refine ⟨_,rfl,λv0=>⟨(((i+1:Nat):Int),_,_,_,_,_,_,_),ω,by and_intros<;>first|rfl|trivial,next (gs.le R) f ?_⟩,λv0 mZ hU=>(jm (k:=70000000) (j.le au) (q.le au) (sl.1.s ω) (sl.2.1.s ω) (sl.2.2.s ω) (s1.s ω) (s2.s ω)).s ?_⟩);{unfold aV.GY;rw [Ä (.inr (aV.vS.1 (Ë.1 v0)))]};have v0:aC A p.1 p.2≠0:=λe=>by{rw [aV.vS.2 e] at v0;cases v0};have F:¬(aV.nv A v=0\/aC A p.1 p.2=0):=λh=>h.elim t v0;rintro r pS jN S;have G:RQ pS r (aC A p.1 p.2):=S;obtain ⟨_,_,_,_,_,_,rfl⟩:=S.shape;refine qxW ⟨rfl,λsC kt=>(iR (G.le kt) (gc.le (N.m (O.m (Q.m au)))) (λe=>t (Qb6.1 e)) B u ω).s ?_⟩;rintro r sE qB gt;obtain ⟨_,_,_,_,_,_,rfl⟩:=gt.shape;have H:=(B.mul (jW u)).neg;refine qxW ⟨rfl,λsN nH=>(AP ra).s λr uF pk n=>RQ.ex n λ_ n=>λDx I=>(kW ra).s ?_⟩;rintro r HZ T rfl;have o:=(R.m au).m (I.m T);have U:-(aC A p.1 p.2*(aV.nv A v)⁻¹)*((2:Int):Rat)⁻¹=-(aC A p.1 p.2*(aV.nv A v)⁻¹)*(1/2):=by{rw [show (((2:Int):Rat))⁻¹=1/2 by decide +kernel]};have X:Sz 400000000 (-(aC A p.1 p.2*(aV.nv A v)⁻¹)*((2:Int):Rat)⁻¹):=(H.mul (jW (FW (z:=2)))).s ω;(refine ⟨_,rfl,λm Nb Jl=>(tM (n.le (I.m au)) H).s ?_,λm=>⟨(((i+1:Nat):Int),_,_,_,_,_,_,_),ω,by and_intros<;>first|rfl|trivial,next (gs.le o) f ?_⟩⟩);{have m:=aV.Oi.1 (Á m);rintro r UB GN gh;obtain ⟨_,_,_,_,_,_,rfl⟩:=gh.shape;have Y:=o.m au;refine qxW ⟨rfl,λUC H4=>(ew ra ra X f).s ?_⟩;rintro r W3 NI rfl;(refine ⟨_,rfl,λd QF H5=>(tM (n.le (I.m (T.m au))) H).s ?_,λd=>⟨(((i+1:Nat):Int),_,_,_,_,_,_,_),ω,by and_intros<;>first|rfl|trivial,next (gs.le au) f ?_⟩⟩);{have d:=rI.1 (Á d);rintro r Yi GO Z;obtain ⟨_,_,_,_,_,_,rfl⟩:=Z.shape;(refine qxW ⟨rfl,(((i+1:Nat):Int),_,_,_,_,_,_,_),ω,by and_intros<;>first|rfl|trivial,next Z X ?_⟩;rw [U] at d ⊢;unfold aV.GY;rw [Ã F,Ä ⟨m,d⟩])};{have d:¬_:=λh=>Â d (rI.2 h);rw [U] at d;unfold aV.GY;rw [Ã F,Ã λh=>d h.2]}};{have m:¬_:=λh=>Â m (aV.Oi.2 h);unfold aV.GY;rw [Ã F,Ã λh=>m h.1]}};{have c:i=ls.length:=by{have:=Â c;omega};subst c;rw [ď] at gs f;generalize ls.foldl (aV.GY p v) 1=s at *;refine (fG ra ra ra s1 s2 f (s3.s ω) (s4.s ω) ω).s λr UD Ds w=>RP.ex w λ_ _ w _ _=>λb4 LU=>⟨ra,(s1.add (f.mul s3)).s ω,(s2.add (f.mul s4)).s ω⟩}
theorem vM {vs:zA un}(h:é 6 bP V vs ls)(u:vs.length=ls.length*6):∀v∈vs,v.oneCell'=true:=by intro v a;have ⟨m,hm,e⟩:=Qb5.1 a;exact eO h φ (λ_ _=>rX) (m:=m) ω (by rw [<-e];exact ñ hm)
def DU (ls:List L3):Bool:=decide (ls=[]\/∃l∈ls,(eF l ls ã).isSome=true)
theorem Oe (V:ut):RP V (qvK #[Õ false,dB none 0 0,dB none 0 0,Õ false,dB none 0 0,dB none 0 0]) 0 0:=wqQ ⟨rfl,rq0 _,rq0 _⟩
theorem sS (h:bo 6 bP V cp cn ls)(hb:∀l∈ls,Bd l)(hk:∀l∈ls,ch l=true)(hl:ls.length<=1000:=by omega):À 144 #[dB cp cn cc] V λr W=>∃u p,r=æ #[u,Õ (DU ls)]/\RP W u (Prod.fst p) (Prod.snd p)/\Sz 500000000 (Prod.fst p)/\Sz 500000000 (Prod.snd p):=by have P:=h.len;subst P;refine Df V _ ⟨λc Q l1=>?_,λc=>⟨λz _=>∃i:Nat,z=(i:Int)/\i<=ls.length/\∀(k:Nat)(g:k<ls.length),k<i->(eF ls[k] ls ã).isSome=false,λz=>(ls.length-z).toNat,⟨0,σ,0,rfl,á _,λk _ g=>Å g (ŋ k)⟩,?_⟩⟩;{have e:ls=[]:=ĝ.1 (by have:=Á c;omega);refine ⟨_,(0,0),?_,Oe Q,CB _,CB _⟩;rw [show DU ls=true from Ç (.inl e)]};have c:ls.length≠0:=λe=>by{rw [e] at c;cases c};rintro z V2 B ⟨i,rfl,hi,C⟩;refine ⟨θ,λb=>?_,λb R fy=>?_⟩;rotate_left;{have e:i=ls.length:=by{have:=Â b;omega};subst e;refine ⟨_,(0,0),?_,Oe R,CB _,CB _⟩;rw [show DU ls=false from È ?_];rintro (g|⟨l,S,D⟩);{rw [g] at c;exact c rfl};{obtain ⟨k,E,rfl⟩:=Qb5.1 S;rw [C k E E] at D;cases D}};have b:i<ls.length:=by{have:=Á b;omega};have T:i64.wrap ((i:Int)+1)=((i+1:Nat):Int):=by{rw [ao ω];rfl};rw [T,Ü];have j:∀{W:ut},V.Le W->bo 6 bP W cp ls.length ls:=λg=>h.le g λ_ _ k=>bP.le k g;have ⟨is,U,X,Y,Z,b2,p2,n2,c2,b3,p3,n3,c3,a,m,a0,a1,a2,a3,a4,a5,d⟩:=rP (j B) b;have F:=hb _ (ó b);have hm:=ó b;have sl:=F.e_;have nz:=iV (hk _ (ó b));have n:=CA F;have o:(eF ls[i] ls ã).isSome=false->∀(k:Nat)(g:k<ls.length),k<i+1->(eF ls[k] ls ã).isSome=false:=λe k g a6=>by{by_cases e':k=i;{subst e';exact e};{exact C k g ω}};refine ⟨is,⟨ω,ω⟩,U,X,Y,Z,b2,p2,n2,c2,b3,p3,n3,c3,a,m,a0,a1,a2,a3,a4,a5,λV3 l3=>(uT (j au) hb hk hl b).s ?_⟩;generalize ls[i]=L at *;rintro r V4 l4 ⟨u,s,rfl,gs,G,-⟩;obtain ⟨_,_,_,_,_,_,_,_,_,_,_,_,_,_,rfl⟩:=Cg gs;have pM:=l3.m l4;refine ⟨_,_,_,_,_,_,_,_,_,_,_,_,_,_,_,_,_,rfl,λq V5 l5=>(eE (d.le au) sl.1 sl.2.1 sl.2.2 ω).s ?_,λq=>⟨((i+1:Nat):Int),by dsimp only;omega,σ,i+1,rfl,b,o q⟩⟩;rintro r V6 l6 gd;obtain ⟨_,_,_,_,_,_,_,_,_,_,_,_,rfl,Dr,t⟩:=id gd;refine qxZ ⟨rfl,λV7 H=>(AU ra G).s ?_⟩;rintro r V8 I J;obtain ⟨_,_,_,_,_,_,rfl⟩:=J.shape;have w:=WK G;have H4:=(pM.m au).m au;refine qxW ⟨rfl,λV9 x=>(PX (d.le au) (J.le x) nz (sl.up (K:=200010) ω) w).s λr fo f M=>RP.ex M λ_ _ M _ _=>λfg N=>(kV (t.le ((H.m I).m ((x.m f).m N))) n.2 ω).s λr gT dX go=>RQ.ex go λ_ go=>λiL O=>(DF (p:=(cg L s.qQ,cj L s.qQ)) (v:=(-(-((L.1:Int):Rat)),((L.2.1:Int):Rat))) (j (B.m (((H4.m au).m au).m O))) hb hl ra ⟨_,_,_,_,_,_,_,_,_,_,_,_,rfl,ra,Dr.le ((H.m I).m ((x.m f).m ((N.m dX).m O)))⟩ ((qU (sl.up (K:=200010) ω) w).s (show _<=60000000 by omega)) ((qV (sl.up (K:=200010) ω) w).s (show _<=60000000 by omega)) (Sz.s n.2.neg ω) (Sz.s n.1 ω)).s ?_⟩;rintro r lR gj ⟨gp,y,A⟩;obtain ⟨_,_,_,_,_,_,_,_,_,_,_,_,rfl,-⟩:=id gp;refine qxZ ⟨rfl,λlS gC=>⟨_,(_,_),?_,ra,y,A⟩⟩;rw [show DU ls=true from Ç (.inr ⟨L,hm,q⟩)]
def B4 (ls:List L3)(m:L3):Int:=if DU (ls++[m])=true/\DU (ls++[Ö m])=true then 0 else if DU (ls++[m])=true then 1 else -1
theorem yf {V:ut}{vs:zA un}(hw:V.w.heap[b]?=some (.cells vs.toArray 76 (0,0)))(y:é 6 bP V vs ls)(z:ls.length<=c)(D:ls≠[])(E:∀l∈ls,Bd l)(F:∀l∈ls,ch l=true)(M:ls.length<=1000):À 144 #[dB (some ⟨b,0,none⟩) ls.length c] (V.ar [b]) λr W=>∃b1 p N c1 O Z c2 b2 q n3 c3 q' n4 c4,r=æ #[qvK #[Õ b1,dB p N c1,dB O Z c2,Õ b2,dB q n3 c3,dB q' n4 c4],Õ (DU ls)]/\W.w.heap[b]?=some (.cells vs.toArray 76 (0,0)):=by have d:=(Qp7.1 hw).1;have f:=Qh2.2 D;have j:V.Le ((V.ar [b]).bare b):=λa v h=>⟨λk=>h.1 k.1,h.2⟩;have i:=bo.bq (V:=(V.ar [b]).bare b) (λ_=>⟨λh=>h.2 rfl,hw⟩) (y.le λ_ _ g=>bP.le g j) φ z;have e:mA b c=some ⟨b,0,none⟩:=by{unfold mA;rw [Ã ω]};rw [e] at i;refine (aa.bare (V:=V.ar [b]) d (sS i E F M)).s ?_;rintro r V' _ ⟨m,u,p,rfl,n,-⟩;obtain ⟨_,_,_,_,_,_,_,_,_,_,_,_,rfl,-⟩:=n;exact qxZ ⟨rfl,m.m hw⟩
theorem qO {V:ut}{xs ys sp sp':zA un}(u:n=ls.length)(h:é 6 bP V xs ls)(z:xs.length=n*6)(y:ys.length=6)(hm:bP V (.agg ys.toArray) m):é 6 bP V ((([]:zA un).take (0*6)++xs++sp).take ((0+n)*6)++ys++sp') (ls++[m]):=by subst u;have e:([]:zA un).take (0*6)++xs++sp=xs++sp:=ψ;rw [e,Ĉ];have a:é 6 bP V (xs++sp) ls:=by{have:=d_ (V:=V) (vs:=[]) (ls:=[]) (sp:=sp) (é.nil) h φ;simpa using this};exact d_ a (row_one y hm) φ
theorem sT (h:bo 6 bP V cp cn ls)(hb:∀l∈ls,Bd l)(hk:∀l∈ls,ch l=true)(hl:ls.length<=999){lv:un}(hm:bP V lv m)(bm:Bd m)(om:ch m=true):À 72 #[dB cp cn cc,lv] V λr W=>r=Ô .i64 (B4 ls m):=by have G:=h.len;subst G;have j:=hm;obtain ⟨_,_,_,_,_,_,_,_,_,_,_,_,rfl⟩:=bG hm;have ⟨xs,H,f,s⟩:=cV h φ;have one:∀{W:ut} {xs:zA un},é 6 bP W xs ls->xs.length=ls.length*6->∀v∈xs,v.oneCell'=true:=λk t=>vM k t;have I:∀l∈ls++[m],Bd l:=λl h=>(ø.1 h).elim (hb l) λh=>by{rw [ö.1 h];exact bm};have J:∀l∈ls++[m],ch l=true:=λl h=>(ø.1 h).elim (hk l) λh=>by{rw [ö.1 h];exact om};have K:∀l∈ls++[Ö m],Bd l:=λl h=>(ø.1 h).elim (hb l) λh=>by{rw [ö.1 h];exact bm.rev};have L:∀l∈ls++[Ö m],ch l=true:=λl h=>(ø.1 h).elim (hk l) λh=>by{rw [ö.1 h];exact xD om};have c:∀x:L3,(ls++[x]).length=(0+ls.length)+1:=λx=>by{rw [ë];simp};refine Dg V _ ⟨xs,H,f,ω,Ù _,ψ,f,one s f,λQS J5 n c3 k t=>⟨ω,k,by simp;omega,rfl,PM,λNj J9 p c7 M g4=>λu w UJ N h1=>?_⟩⟩;have y:=yf (V:=u) N (qO (V:=u) (ys:=[_,_,_,_,_,_]) (sp:=n) (sp':=p) rfl (s.le λ_ _ g=>bP.le g w) f rfl ra) (by rw [c];exact M) ψ I J (by rw [c];omega);rw [c] at y;refine y.s ?_;rintro r V2 O ⟨_,_,_,_,_,_,_,_,_,_,_,_,_,_,rfl,P⟩;have z:V.Le V2.shut:=λb o g=>O b o (w b o g);obtain ⟨ys,Q,i,A⟩:=cV (h.le z λ_ _ g=>bP.le g z) φ;refine ⟨_,_,_,_,_,_,_,_,_,_,_,_,_,_,_,rfl,_,P,ys,Q,i,ω,Ù _,ψ,i,one A i,λB R d S T g6 V3 l3=>(gX (bP.le j au)).s ?_⟩;rintro r U l4 X;have Y:bP U r (Ö m):=X;obtain ⟨_,_,_,_,_,_,_,_,_,_,_,_,rfl⟩:=bG Y;refine wqQ ⟨rfl,ω,T,by simp;omega,rfl,PM,λC Z e a0 g7 g8 D l5 E e5 h5=>?_⟩;have F:=yf (V:=D) e5 (qO (V:=D) (ys:=[_,_,_,_,_,_]) (sp:=d) (sp':=e) rfl (A.le λ_ _ g=>bP.le g au) i rfl ra) (by rw [c];exact g7) ψ K L (by rw [c];omega);rw [c] at F;refine F.s ?_;rintro r V6 l6 ⟨_,_,_,_,_,_,_,_,_,_,_,_,_,_,rfl,w6⟩;refine ⟨_,_,_,_,_,_,_,_,_,_,_,_,_,_,_,rfl,_,w6,λa=>⟨λq V7 l7=>?_,λq=>⟨λ_ V8 l8=>?_,(λh=>by rw [a] at h;cases h)⟩⟩,λa=>⟨(λh=>by rw [a] at h;cases h),λ_ fg dy=>?_⟩⟩;{unfold B4;rw [Ä ⟨a,q⟩]};{unfold B4;rw [Ã (λh=>by rw [q] at h;cases h.2),Ä a]};{unfold B4;rw [Ã (λh=>by rw [a] at h;cases h.1),Ã (λh=>by rw [a] at h;cases h)]}
end Go.Proofs.Tryz
