import Derived.Test.YtbdlbajodgoneaaGreatDoorS22
set_option linter.all false
open Go.IntKind (i64 u64 u32)
open Go.Value renaming slice→yD,agg→dB,bool→gF,pointer→Õ,tuple→ê,int→Ô
open Go.Eng Go.Big
namespace Go.Proofs.Tryz
section
def QS:Ü 1 [] []=[]:=Kc ⟨λ_ h=>(nomatch h),List.Pairwise.nil⟩
def Dw {m:L3}{l:zA (L3×Sp)}(h:m∉l.map Prod.fst):ay m l=[]:=by unfold ay;rw [Qp0.2 λx a=>?_];rfl;intro e;exact h (ÿ.2 ⟨x,a,Á e⟩)
def G8 (m:L3)(a b:zA (L3×Sp)):ay m (a++b)=ay m a++ay m b:=by unfold ay;rw [Qp2,œ]
def G_ (m L:L3)(t:Tr):ay m (jM t L)=if L=m then qE m t else []:=by unfold jM;by_cases h:L=m;{subst h;rw [Ä rfl];unfold ay;rw [Qs2.2 λx a=>by obtain ⟨s,-,rfl⟩:=ÿ.1 a;exact Ç rfl,Wq2];exact List.map_id _};rw [Ã h];refine Dw λg=>h ?_;obtain ⟨x,a,rfl⟩:=ÿ.1 g;obtain ⟨s,-,rfl⟩:=ÿ.1 a;rfl
def J8 {l:L3}(h:cq l=true):bM (Ö l)=bM l:=by have nz:=eI h;unfold Nz at nz;unfold bM;by_cases c:l.1<0\/l.1=0/\l.2.1<0;{rw [Ä c,Ã (by unfold Ö;dsimp only;omega)]};rw [Ã c,Ä (by unfold Ö;dsimp only;omega),rev_rev]
def G9 (t:Tr)(m:L3):∀{D:zA L3},D.Pairwise rK->(∀l∈D,cq l=true/\bM l=l)->ay m (iT t D)=if bM m∈D then qE m t else []
 | [],_,_=>rfl
 | l::D,h,u=>by
  have ⟨y,z⟩:=ģ.1 h;have ⟨o,c⟩:=u l (ď ..);have e:iT t (l::D)=(jM t l++jM t (Ö l))++iT t D:=rfl;rw [e,G8,G8,G_,G_,(G9 t m z λx f=>u x (ā _ f))];have out:bM m=l->bM m∉D:=λg k=>wL (show rK l l by have:=y _ k;rwa [g] at this);by_cases a:l=m
  ·subst a;rw [Ä rfl,Ã (rev_ne o),Ã (out c),Ä (by rw [c];exact ď ..)];simp
  ·rw [Ã a];by_cases b:Ö l=m
   ·subst b;have g:bM (Ö l)=l:=by rw [J8 o,c]
    rw [Ä rfl,Ã (out g),Ä (by rw [g];exact ď ..)];simp
   ·rw [Ã b]
    have g:bM m≠l:=λg=>by
     rcases nq m with k|k<;>rw [k] at g
     ·exact a g.symm
     ·exact b (by rw [<-g,rev_rev])
    by_cases d:bM m∈D
    ·rw [Ä d,Ä (ā _ d)];rfl
    ·rw [Ã d,Ã λk=>by rcases í.1 k with k|k;exact g k;exact d k];rfl
def Y4 (m:L3)(t:Tr):List Rat:=t.cJ.map λk=>Ø k m
def crs_T (m:L3)(t:Tr):ZX m (Y4 m t) t:=Nl (Tr.sU λ_ h=>h)
def IZ {m:L3}(u:cq m=true){q:Rat}{v w:Rat×Rat}:∀{t:Tr},(∀k∈t.cJ,cq k=true/\k≠m/\k≠Ö m/\Ø k m≠q)->ax.pV t (cu m q,cw m q) v=ax.pV t (cu m q,cw m q) w
 | .leaf _,_=>rfl
 | .node k a b,h=>by
  have ⟨ok,y,z,D⟩:=h k (ď ..);have d:aG k (cu m q) (cw m q)≠0:=by rcases Bo ok u (t:=q) (Ne.symm D) with g|g|g;exact Å g y;exact Å g z;exact g
  have s:∀x,ax.Lu k (cu m q,cw m q) x=(aG k (cu m q) (cw m q)).num.sign:=λx=>by
   unfold ax.Lu;rw [Ã λe=>d (ax.jS.1 e)]
  unfold ax.pV;rw [s,s,(IZ u (v:=v) (w:=w) (t:=a) λx c=>h x (ā _ (Ń _ c))),(IZ u (v:=v) (w:=w) (t:=b) λx c=>h x (ā _ (ŝ _ c)))]
theorem SW {m:L3}(u:cq m=true){t:Tr}(y:∀k∈t.cJ,cq k=true)(h:bM m∉t.cJ.map bM):qE m t=[]:=by refine reg_eq (Y4 m t) (comb_reg ..) ⟨λ_ h=>(nomatch h),List.Pairwise.nil⟩ λq b=>?_;have ne:∀k∈t.cJ,k≠m/\k≠Ö m:=λk a=>⟨λe=>h (ÿ.2 ⟨k,a,by rw [e]⟩),λe=>h (ÿ.2 ⟨k,a,by rw [e,J8 u]⟩)⟩;rw [ZE (crs_T m t) u (Tr.sU y) b,IZ u (v:=eH m true) (w:=eH m false) λk a=>⟨y k a,(ne k a).1,(ne k a).2,λe=>b (ÿ.2 ⟨k,a,e⟩)⟩];cases (ax.pV t (cu m q,cw m q) (eH m false)).1<;>rfl
def Qi {t:Tr}(u:∀k∈t.cJ,cq k=true)(m:L3):ay m (iT t (aK t.cJ))=if cq m=true then qE m t else []:=by
 have ⟨d1,d2⟩:=jq t.cJ
 rw [G9 t m d1 λl b=>by
  obtain ⟨k,a,rfl⟩:=ÿ.1 ((d2 l).1 b);exact ⟨PK (u k a),Tn k⟩]
 by_cases o:cq m=true
 ·rw [Ä o];by_cases c:bM m∈aK t.cJ;{rw [Ä c]};rw [Ã c,SW o u λk=>c ((d2 _).2 k)]
 ·rw [Ã o,Ã λc=>o ?_];have ⟨k,a,e⟩:=ÿ.1 ((d2 _).1 c);have:=PK (u k a);rw [e] at this;rcases nq m with g|g<;>rw [g] at this;{exact this};rw [<-rev_rev m];exact Bp this
def LC (m:L3)(l:zA (L3×Sp)):ay m (â l)=Ü 1 (ay m l) []:=by show ay m ((cP (l.map Prod.fst)).flatMap λm=>(Ü 1 (ay m l) []).map λs=>(m,s))=_;rw [Dv (λm=>Ü 1 (ay m l) []) m _ (bZ _).1];split;{rfl};rename_i h;rw [Dw λg=>h (((bZ _).2 m).2 g),QS]
structure vG (S:List L3) (t:Tr):Prop where
 ok:t.dU kh
 on:t.dU λl=>Bd l/\l∈S
 kS:S.length<=25
 bd:∀l∈S,Bd l
 size:t.size<4000
 dep:t.depth<=1024
section
variable{S:List L3}{t:Tr}(h:vG S t)
include h
theorem vG.Wg {m:L3}(u:Bd m):OY m (Ō (S.map λk=>Ø k m)) t:=crp_of u h.on (by have:=h.kS;omega) h.bd
theorem vG.ZD:∀l∈aK t.cJ,kh l:=wo (q:=kh) (λl h=>by rcases nq l with e|e<;>rw [e];exact h;exact mU h) λl a=>jO h.ok l a
theorem vG.oks:∀l∈t.cJ,cq l=true:=λl a=>(jO h.ok l a).1
theorem vG.lines:(aK t.cJ).length<=25:=by have ⟨d1,d2⟩:=jq t.cJ;have:=List.Nodup.length_le_of_subset (l₂:=S.map bM) (d1.imp λ{a b} g (e:a=b)=>by subst e;exact wL g) λx c=>by{grind [jO,h.on]};grind [h.kS]
theorem vG.each (m:L3):(ay m (iT t (aK t.cJ))).length<=61:=by rw [Qi h.oks];split;{rename_i o;by_cases c:bM m∈t.cJ.map bM;{have ⟨k,b,e⟩:=ÿ.1 c;have a:=(jO h.ok k b).2.can;rw [e] at a;have d:Bd m:=by{grind [nq,rev_rev,a.rev]};exact (lA (h.Wg d)).2.2};grind [SW,h.oks]};exact å _
theorem vG.um:∀f∈iT t (aK t.cJ),FOk f.1 f.2/\Bd f.1/\f.2.sz 1000000:=λf a=>by
 have ⟨l,d,a⟩:=ė.1 a;have k:=h.ZD l d
 have one:∀m,kh m->f∈jM t m->FOk f.1 f.2/\Bd f.1/\f.2.sz 1000000:=λm b hm=>by
  obtain ⟨s,c,rfl⟩:=ÿ.1 hm;obtain ⟨r,z,-⟩:=lA (h.Wg b.2);exact ⟨⟨b.1,r.1 s c⟩,b.2,z s c⟩
 rcases ü.1 a with g|g<;>grind [mU]
theorem vG.len:(iT t (aK t.cJ)).length<=3050:=by
 have:∀E:zA L3,(∀l∈E,kh l)->(iT t E).length<=122*E.length:=λE a=>by
  induction E with
  | nil=>exact Ú _
  | cons l E u=>
   have c:=u λx b=>a x (ā _ b);have k:=a l (ď ..);have f1:=(lA (h.Wg k.2)).2.2;have f2:=(lA (h.Wg k.2.rev)).2.2;unfold iT jM at *;grind
 grind [h.ZD,h.lines]
end
end
section
variable{V:Ó}{p:OA}{c i k n:Nat}{xs:List Value}{v:Value}{l:L3}
theorem XF:BA [(LL,bV)] [(LL,bV)]:=λg a=>by
 have e:â [(LL,bV)]=[(LL,bV)]:=by
  show List.flatMap _ [LL]=_;rw [Qt6,show ay LL [(LL,bV)]=[bV] by unfold ay;simp,Gn];rfl
 refine (F_ g a ψ (λm=>ň (by unfold ay;rw [Č];exact Qd8 ..) (show 1<70 by omega)) (by simp;exact SB.eO.up ω) (by simp;exact lQ) (by simp;exact ⟨DF _,DF _⟩) λi=>IL i).s λr b _ h=>?_
 rwa [e] at h
theorem Ia {al:zA (L3×Sp)}(h:aZ 14 m_ V p n al)(hi:i<al.length):p.isSome=true/\∃(b1:md)(u:OA)(y c1:Nat)(z:md)(D:OA)(E F:Nat)(M:md)(N:OA)(O Z:Nat)(b:md)(q1:OA)(m1 e1:Nat)(q2:OA)(m2 e2:Nat)(d:md)(q3:OA)(m3 e3:Nat)(q4:OA)(m4 e4:Nat)(a:Addr),ae p (i*14)=some a/\V.at (a.add 0) (gF b1)/\V.at (a.add 1) (yD u y c1)/\V.at (a.add 2) (gF z)/\V.at (a.add 3) (yD D E F)/\V.at (a.add 4) (gF M)/\V.at (a.add 5) (yD N O Z)/\V.at (a.add 6) (gF b)/\V.at (a.add 7) (yD q1 m1 e1)/\V.at (a.add 8) (yD q2 m2 e2)/\V.at (a.add 9) (gF d)/\V.at (a.add 10) (yD q3 m3 e3)/\V.at (a.add 11) (yD q4 m4 e4)/\V.at (a.add 12) (gF al[i].2.a)/\V.at (a.add 13) (gF al[i].2.b)/\bW V (dB #[gF b1,yD u y c1,gF z,yD D E F,gF M,yD N O Z]) al[i].1/\oO V (dB #[gF b,yD q1 m1 e1,yD q2 m2 e2,gF d,yD q3 m3 e3,yD q4 m4 e4,gF al[i].2.a,gF al[i].2.b]) al[i].2:=by have ⟨f,e,xs,l,g,c⟩:=h.at_ i hi;obtain ⟨_,_,_,_,_,_,_,_,_,_,_,_,_,_,_,_,_,_,_,_,_,_,_,_,_,_,ex,j,k⟩:=g;have ex:=Æ Array.toList (Value.agg.inj ex);subst ex;refine ⟨?_,_,_,_,_,_,_,_,_,_,_,_,_,_,_,_,_,_,_,_,_,_,_,_,_,_,_,f,e,c 0 _ rfl,c 1 _ rfl,c 2 _ rfl,c 3 _ rfl,c 4 _ rfl,c 5 _ rfl,c 6 _ rfl,c 7 _ rfl,c 8 _ rfl,c 9 _ rfl,c 10 _ rfl,c 11 _ rfl,c 12 _ rfl,c 13 _ rfl,j,k⟩;(cases p with|none=>{cases e}|some a=>rfl)
theorem IE {x:L3×Sp}(h:m_ V (.agg xs.toArray) x):∀v∈xs,v.oneCell'=true:=by have ⟨_,_,_,_,_,_,_,_,_,_,_,_,_,_,_,_,_,_,_,_,_,_,_,_,_,_,ex⟩:=Lq h;have ex:=Æ Array.toList (Value.agg.inj ex);subst ex;exact PN
def uP (a b:Rat×Rat):Int:=if ç a.1 b.1=0 then ç a.2 b.2 else ç a.1 b.1
theorem W0 {a b:Rat×Rat}:a=b↔uP a b=0:=by grind [uP,fI.1,fI.2]
def mG (x:Rat×Rat):List (Rat×Rat)->List (Rat×Rat)
 | []=>[x]
 | y::r=>if uP y x<0 then y::mG x r else if y=x then y::r else x::y::r
theorem XD {x:Rat×Rat}:∀(o:zA (Rat×Rat))(k:Nat),k<=o.length->(∀j (h:j<o.length),j<k->uP o[j] x<0)->(∀h:k<o.length,¬uP o[k] x<0) ->mG x o=if (∃h:k<o.length,o[k]=x) then o else o.take k++x::o.drop k:=by
 intro o
 induction o with
 | nil=>
  intro k d _ _;simp [mG]
 | cons y r u=>
  intro k d a b
  cases k with
  | zero=>
   have c:¬uP y x<0:=b ψ;unfold mG;rw [Ã c];by_cases e:y=x
   ·rw [Ä e,Ä ⟨ψ,e⟩]
   grind
  | succ k=>
   have c:uP y x<0:=a 0 ψ ω;unfold mG;rw [Ä c,u k (by simpa using d) (λj h i=>a (j+1) (by simpa using h) ω) (λh=>b (by simpa using h))];by_cases e:∃h:k<r.length,r[k]=x
   ·obtain ⟨f,g⟩:=e;rw [Ä ⟨f,g⟩,Ä ⟨by simpa using f,g⟩]
   grind
theorem KC (x:Rat×Rat):∀o:zA (Rat×Rat),(mG x o).length<=o.length+1
 | []=>by simp [mG]
 | y::r=>by
  have:=KC x r;grind [mG]
theorem wH {x y:Rat×Rat}:∀{o:zA (Rat×Rat)},y∈mG x o↔y=x\/y∈o
 | []=>by simp [mG]
 | z::r=>by
  unfold mG;split
  ·rw [í,(wH (x:=x) (y:=y) (o:=r)),í];exact ⟨λh=>h.elim (λh=>.inr (.inl h)) λh=>h.elim .inl λh=>.inr (.inr h),λh=>h.elim (λh=>.inr (.inl h)) λh=>h.elim .inl λh=>.inr (.inr h)⟩
  ·split
   ·rename_i e;subst e;rw [í];exact ⟨.inr,λh=>h.elim .inl id⟩
   ·rw [í]
def jU (l:List (Rat×Rat)):List (Rat×Rat):=l.foldl (λo x=>mG x o) []
def Ru (a b:Rat×Rat):Prop:=uP a b<0
theorem PC {a b:Rat×Rat}:Ru a b↔a.1<b.1\/a.1=b.1/\a.2<b.2:=by unfold Ru uP;by_cases h:ç a.1 b.1=0;{rw [Ä h,cmpQ_neg];have e:=fI.2 h;exact ⟨λg=>.inr ⟨e,g⟩,λg=>g.elim (λg=>χ) (·.2)⟩};rw [Ã h,cmpQ_neg];have e:a.1≠b.1:=λe=>h (fI.1 e);exact ⟨.inl,λg=>g.elim id λg=>Å g.1 e⟩
theorem ltP_or {a b:Rat×Rat}(h:¬Ru a b)(e:a≠b):Ru b a:=by rw [PC] at *;obtain ⟨c,d⟩:=a;obtain ⟨f,g⟩:=b;dsimp only at *;have:¬(c=f/\d=g):=λ⟨i,j⟩=>e (by rw [i,j]);grind
theorem ltP_tr {a b c:Rat×Rat}(h:Ru a b)(g:Ru b c):Ru a c:=by rw [PC] at *;grind
theorem KB {x:Rat×Rat}:∀{o:zA (Rat×Rat)},o.Pairwise Ru->(mG x o).Pairwise Ru
 | [],_=>Qd0 _ _
 | z::r,h=>by
  have ⟨u,D⟩:=ģ.1 h;unfold mG;split
  ·rename_i b;refine ģ.2 ⟨λy a=>?_,KB D⟩;rcases wH.1 a with rfl|a
   ·exact b
   ·exact u y a
  ·rename_i b;split
   ·exact h
   ·rename_i c;have d:Ru x z:=ltP_or b c;refine ģ.2 ⟨λy a=>?_,h⟩;rcases í.1 a with rfl|a
    ·exact d
    ·exact ltP_tr d (u y a)
theorem Ol (l:zA (Rat×Rat)):(jU l).Pairwise Ru/\∀x,x∈jU l↔x∈l:=by
 have:∀(l o:zA (Rat×Rat)),o.Pairwise Ru->(l.foldl (λo x=>mG x o) o).Pairwise Ru/\∀x,x∈l.foldl (λo x=>mG x o) o↔x∈o\/x∈l:=by
  intro l
  induction l with
  | nil=>intro o h;exact ⟨h,λx=>ψ⟩
  | cons y r u=>
   intro o h;have ⟨a,b⟩:=u (mG y o) (KB h);refine ⟨a,λx=>?_⟩;rw [ř,b x,wH,í];constructor
   ·rintro ((h|h)|h)<;>simp [h]
   ·rintro (h|h|h)<;>simp [h]
 have ⟨a,b⟩:=this l [] List.Pairwise.nil;exact ⟨a,λx=>by rw [jU,b x];simp⟩
theorem zT (l:zA (Rat×Rat)):(jU l).length<=l.length:=by
 have:∀(l o:zA (Rat×Rat)),(l.foldl (λo x=>mG x o) o).length<=o.length+l.length:=by
  intro l
  induction l with
  | nil=>exact λo=>Ú _
  | cons y r u=>intro o;have a:=u (mG y o);have b:=KC y o;rw [ř,Ĉ];omega
 grind [jU]
theorem lst_po {al:zA (Rat×Rat)}(h:aZ 6 ct V p n al)(hi:i<al.length):p.isSome=true/\∃(b1:md)(u:OA)(y c1:Nat)(z:OA)(D E:Nat)(F:md)(M:OA)(N O:Nat)(Z:OA)(n4 c4:Nat)(a:Addr),ae p (i*6)=some a/\V.at (a.add 0) (gF b1)/\V.at (a.add 1) (yD u y c1)/\V.at (a.add 2) (yD z D E)/\V.at (a.add 3) (gF F)/\V.at (a.add 4) (yD M N O)/\V.at (a.add 5) (yD Z n4 c4)/\ct V (dB #[gF b1,yD u y c1,yD z D E,gF F,yD M N O,yD Z n4 c4]) al[i]:=CO ct.shape h hi
theorem IH {q:Rat×Rat}(h:ct V (.agg xs.toArray) q):∀v∈xs,v.oneCell'=true:=by have ⟨_,_,_,_,_,_,_,_,_,_,_,_,_,_,ex⟩:=ct.shape h;have ex:=Æ Array.toList (Value.agg.inj ex);dsimp only at ex;subst ex;intro v a;simp only [í,Ğ,Ì] at a;rcases a with rfl|rfl|rfl|rfl|rfl|rfl<;>rfl
theorem Vh {vs:zA un}{qs:zA (Rat×Rat)}(h:é 6 ct V vs qs)(hi:i<qs.length):∃b u y c1 z D E d F M N O Z c4,i*6+6<=vs.length/\(vs.drop (i*6)).take 6=[gF b,yD u y c1,yD z D E,gF d,yD F M N,yD O Z c4]/\ct V (dB #[gF b,yD u y c1,yD z D E,gF d,yD F M N,yD O Z c4]) qs[i]:=by obtain ⟨xs,-,c,a⟩:=h.at_ i hi;have ⟨b,u,y,c1,z,D,E,d,F,M,N,O,Z,c4,e⟩:=ct.shape c;have e:=Æ Array.toList (Value.agg.inj e);dsimp only at e;subst e;have f:=a 5 _ rfl;have k:=(Ī.1 f).1;refine ⟨_,u,y,c1,z,D,E,_,F,M,N,O,Z,c4,ω,?_,c⟩;apply Qg8;intro j;rw [ķ];by_cases g:j<6;{rw [Ä g,Qm3];have:j=0\/j=1\/j=2\/j=3\/j=4\/j=5:=ω;rcases this with rfl|rfl|rfl|rfl|rfl|rfl;{exact (a 0 _ rfl)};{exact (a 1 _ rfl)};{exact (a 2 _ rfl)};{exact (a 3 _ rfl)};{exact (a 4 _ rfl)};exact f};rw [Ã g,Ū (by simp;omega)]
theorem qj {w:un}{a b:Rat×Rat}(h:ct V v a)(h':ct V w b)(hs:Sz k a.1/\Sz k a.2)(Z:Sz k b.1/\Sz k b.2)(hk:2*k<2^38):À 90 #[v,w] V λr W=>r=Ô .i64 (uP a b):=by obtain ⟨p,n,c,s,x,y,q,m,e,z,A,B,rfl,C,D⟩:=h;obtain ⟨u,i,j,E,F,G,t,o,f,H,I,J,rfl,d,l⟩:=h';refine yY V _ λK L=>(dR ra ra hs.1 Z.1).s ?_;rintro r V2 M rfl;refine ⟨_,rfl,λg N O=>?_,λg P Q=>(dR ra ra hs.2 Z.2).s ?_⟩;{have g:¬ç a.1 b.1=0:=by{simpa using g};unfold uP;rw [Ã g]};have g:ç a.1 b.1=0:=by{simpa using g};rintro r R S rfl;exact ⟨_,rfl,λT U=>by unfold uP;rw [Ä g]⟩
theorem qY {ls:zA (Rat×Rat)}(h:aZ 6 ct V p n ls)(hl:ls.length<=2000000)(hs:∀q∈ls,Sz k q.1/\Sz k q.2)(hk:2*k<2^38:=by omega):À 33 #[yD p n c] V λr W=>∃q m e,r=yD q m e/\aZ 6 ct W q m (jU ls):=by
 obtain rfl:=h.len
 refine AO V _ ⟨λz V'=>∃(i:Nat)(O:zA (Rat×Rat)),z.2.2.2=(i:Int)/\i<=ls.length/\O.length<=i/\(∀q∈O,Sz k q.1/\Sz k q.2)/\jU ls=(ls.drop i).foldl (λo x=>mG x o) O/\GR 6 ct V' z.1 z.2.1 z.2.2.1 O,λz=>ls.length-z.2.2.2.toNat,
  ⟨(0,0,[],0),σ,0,[],rfl,å _,å _,(λq y=>by cases y),by rw [Wq1];rfl,GR.nil⟩,?_⟩
 rintro ⟨D,w2,us,z4⟩ V1 l1 ⟨i,O,e4,NF,a3,E,f,l⟩;dsimp only at e4 l;subst e4;have g1:=l.len;have F:=l.le;refine ⟨rfl,λa=>?_,λa eV G bk H=>?_⟩;rotate_left
 ·have a:¬(i:Int)<ls.length:=Â a;obtain rfl:i=ls.length:=ω;rw [Qr7] at f;have f:=f;rw [f];subst g1;exact ⟨_,_,w2,rfl,aZ.bo H (l.row.le λ_ _ g=>ct.le g G) φ F⟩
 have a:(i:Int)<ls.length:=Á a;have A:i<ls.length:=ω
 have w:i64.wrap ((i:Int)+1)=((i+1:Nat):Int):=by rw [aq ω];rfl
 dsimp only;rw [ß,w];refine ldP (R:=ct) ct.shape ra A λe1 ep en ec eq em ee e2 fp fn a4 fq fm a5 a6=>?_;rw [(ī A),ř] at f;have I:=hs _ (ò A);generalize ls[i]=x at *;refine ⟨λz _=>∃j:Nat,z=(j:Int)/\j<=O.length/\∀(s:Nat)(h:s<O.length),s<j->uP O[s] x<0,λz=>O.length-z.toNat,⟨0,σ,0,rfl,å _,λs _ h=>Å h (Œ s)⟩,?_⟩;rintro z V2 l2 ⟨j,rfl,pH,jl⟩;have wj:i64.wrap ((j:Int)+1)=((j+1:Nat):Int):=by rw [aq ω];rfl
 rw [ß,wj];refine ⟨rfl,λz _=>z=true↔∃h:j<O.length,uP O[j] x<0,⟨λa=>?_,λa=>⟨false,σ,?_⟩⟩,?_⟩
 ·have a:=Á a;have d:j<O.length:=ω;obtain ⟨K,L,M,rc,N,P,Q,t,sp,S,T,U,u,W,X,Y,hr⟩:=Vh l.row d;refine ⟨Ź,F,K,L,M,rc,N,P,Q,t,sp,S,T,U,u,W,⟨X,Y⟩,λV3 l3=>(qj ra ra (E _ (ò d)) I hk).s λr V4 l4 rfl=>⟨_,rfl,_,σ,by dsimp only;rw [Ñ];exact ⟨λh=>⟨d,h⟩,λ⟨_,h⟩=>h⟩⟩⟩
 ·have a:=Â a;exact ⟨π,λ⟨h,_⟩=>Å h ω⟩
 rintro z V5 l5 Ky;refine ⟨rfl,λv=>?_,λv=>?_⟩
 ·have ⟨d,Z⟩:=Ky.1 v;refine ⟨((j+1:Nat):Int),by (try dsimp only);omega,σ,j+1,rfl,d,λs h a7=>?_⟩;by_cases e:s=j;{subst e;exact Z};exact jl s h ω
 have a0:∀h:j<O.length,¬uP O[j] x<0:=λh B=>by have:=Ky.2 ⟨h,B⟩;rw [v] at this;cases this
 have b:=XD O j pH jl a0;refine ⟨λz _=>z=true↔¬∃h:j<O.length,O[j]=x,⟨λhe=>⟨true,σ,?_⟩,λhe=>?_⟩,?_⟩
 ·have he:(j:Int)=(D:Int):=by{simpa using he};exact ⟨λ_ ⟨h,_⟩=>Å h ω,λ_=>rfl⟩
 ·have he:¬(j:Int)=(D:Int):=by{simpa using he};have d:j<O.length:=ω;obtain ⟨K,L,M,rc,N,P,Q,t,sp,S,T,U,u,W,X,Y,hr⟩:=Vh l.row d;refine ⟨Ź,F,K,L,M,rc,N,P,Q,t,sp,S,T,U,u,W,⟨X,Y⟩,λV6 l6=>(qj ra ra (E _ (ò d)) I hk).s λr V7 l7 rfl=>⟨_,rfl,_,σ,by dsimp only;rw [bne_iff_ne,ne_eq,<-W0];exact ⟨λh ⟨_,B⟩=>h B,λh B=>h ⟨d,B⟩⟩⟩⟩
 rintro z V8 l8 rE;refine ⟨rfl,λv V9 l9 bk H J=>?_,λv=>?_⟩
 ·have a1:=rE.1 v;rw [Ã a1] at b;obtain ⟨xs,ys,x1,x2,x3,y1,y2,y3,r1,r2,r3,r4,r5⟩:=tz (V:=V9) (l.up au) φ (λ_ _=>IH) H (es:=[_,_,_,_,_,_]) rfl ra (j:=j);refine ⟨Ź,Ź,Ź,xs,x1,x2,ω,Ú _,Ú 6,x2,x3,λa8 J2 sp c' h1 h2=>?_⟩;show ∃_,_;rw [r1,r2];(refine ⟨ys,y1,y2,Ú _,y3,ω,ω,r3,r4,λa2 C h3 h4=>⟨(j+(1+(D-j)),C,_,((i+1:Nat):Int)),ω,Ÿ,i+1,mG x O,rfl,A,?_,?_,f,?_⟩⟩);{rw [b,ï,ì,Ĉ,į];omega};{intro q y;rcases wH.1 y with rfl|y;{exact I};exact E q y};show GR 6 ct _ _ _ _ (mG x O);rw [b];exact r5 a2 C h3 h4
 ·have hex:=Qj5 λh=>by{have:=rE.2 h;rw [v] at this;cases this};rw [Ä hex] at b;rw [b] at f;exact ⟨(D,w2,us,((i+1:Nat):Int)),ω,σ,i+1,O,rfl,A,ω,E,f,l.up au⟩
theorem H9 {fs:zA (L3×Sp)}(h:aZ 14 m_ V p n fs)(hi:i<fs.length):p.isSome=true/\∃b1 D E c1 F M N O Z p3 n3 c3 b p' n' c' u y z d q m e q' m' e',∃a,ae p (i*14)=some a/\V.at (a.add 0) (gF b1)/\V.at (a.add 1) (yD D E c1)/\V.at (a.add 2) (gF F)/\V.at (a.add 3) (yD M N O)/\V.at (a.add 4) (gF Z)/\V.at (a.add 5) (yD p3 n3 c3)/\V.at (a.add 6) (gF b)/\V.at (a.add 7) (yD p' n' c')/\V.at (a.add 8) (yD u y z)/\V.at (a.add 9) (gF d)/\V.at (a.add 10) (yD q m e)/\V.at (a.add 11) (yD q' m' e')/\V.at (a.add 12) (gF fs[i].2.a)/\V.at (a.add 13) (gF fs[i].2.b)/\bW V (dB #[gF b1,yD D E c1,gF F,yD M N O,gF Z,yD p3 n3 c3]) fs[i].1/\oO V (dB #[gF b,yD p' n' c',yD u y z,gF d,yD q m e,yD q' m' e',gF fs[i].2.a,gF fs[i].2.b]) fs[i].2:=by obtain ⟨g,f,xs,-,j,c⟩:=h.at_ i hi;obtain ⟨_,_,_,_,_,_,_,_,_,_,_,_,_,_,_,_,_,_,_,_,_,_,_,_,_,_,ex,k,l⟩:=j;have ex:=Æ Array.toList (Value.agg.inj ex);dsimp only at ex;subst ex;exact ⟨aW f,_,_,_,_,_,_,_,_,_,_,_,_,_,_,_,_,_,_,_,_,_,_,_,_,_,_,g,f,c 0 _ rfl,c 1 _ rfl,c 2 _ rfl,c 3 _ rfl,c 4 _ rfl,c 5 _ rfl,c 6 _ rfl,c 7 _ rfl,c 8 _ rfl,c 9 _ rfl,c 10 _ rfl,c 11 _ rfl,c 12 _ rfl,c 13 _ rfl,k,l⟩
theorem KL {l:zA (L3×Sp)}(hi:i<l.length):cP ((l.take (i+1)).map Prod.fst)=jt l[i].1 (cP ((l.take i).map Prod.fst)):=by rw [<-Ŏ hi,œ];unfold cP;rw [List.foldl_append];rfl
theorem IM {l:zA (L3×Sp)}(hi:i<l.length)(m:L3):ay m (l.take (i+1))=ay m (l.take i)++if l[i].1=m then [l[i].2] else []:=by unfold ay;rw [<-Ŏ hi,Qp2,œ];congr 1;by_cases h:l[i].1=m;{rw [Ä h];simp [Ww4,h]};rw [Ã h];simp [Ww4,h]
theorem Yu {x:Sp}(h:oO V (.agg xs.toArray) x):∀v∈xs,v.oneCell'=true:=by obtain ⟨_,_,_,_,_,_,_,_,_,_,_,_,_,_,ex,-,-⟩:=h;have ex:=Æ Array.toList (Value.agg.inj ex);dsimp only at ex;subst ex;intro v a;simp only [í,Ğ,Ì] at a;rcases a with rfl|rfl|rfl|rfl|rfl|rfl|rfl|rfl<;>rfl
set_option maxHeartbeats 2000000 in
theorem HJ {fs:zA (L3×Sp)}(h:aZ 14 m_ V p n fs)(hn:fs.length<=10000)(hs:∀f∈fs,iL k f.1/\f.2.sz k)(hk:4*k+8<2^38:=by omega):À 27 #[yD p n c] V λr W=>∃q m e,r=yD q m e/\aZ 14 m_ W q m (â fs):=by
 obtain rfl:=h.len;refine FG V _ (pE (λi z V'=>GR 6 bW V' z.1 z.2.1 z.2.2.1 (cP ((fs.take i).map Prod.fst))) (0,0,[],0) σ rfl GR.nil ?_);rintro i ⟨K,w2,us,z4⟩ V1 l1 v NF M;dsimp only at v M;subst v;have g1:=M.len;have fc:=M.le;have fv:=M.cap;have fx:=M.row
 have Rf:∀q∈cP ((fs.take i).map Prod.fst),iL k q:=λq hq=>by obtain ⟨y,hy,rfl⟩:=ÿ.1 (((bZ _).2 q).1 hq);exact (hs y (ţ hy)).1
 have b9:(cP ((fs.take i).map Prod.fst)).length<=10000:=by have:=CL ((fs.take i).map Prod.fst);rw [Č,ì] at this;omega
 refine ⟨λd=>?_,λd=>?_⟩
 ·have N:=d;have w:i64.wrap ((i:Int)+1)=((i+1:Nat):Int):=by{rw [aq ω];rfl};dsimp only;rw [ß,w];obtain ⟨is,eb,ep,en,ec,fb,fp,fn,fe,gb,gp,gn,gc,P,Q,R,S,T,U,W,X,Y,Zf,Z,b0,Xx,b4,ad,ha,a0,a1,a2,a3,a4,a5,a6,a7,a8,a9,ME,MF,E,MT,A,-⟩:=H9 (h.le l1) N;have Ss:=KL N;have b7:=(hs _ (ò N)).1;clear M;generalize cP ((fs.take i).map Prod.fst)=O at *;refine ⟨is,Ź,eb,ep,en,ec,fb,fp,fn,fe,gb,gp,gn,gc,P,Q,R,S,T,U,W,X,Y,Zf,Z,b0,Xx,b4,_,_,ad,ha,a0,a1,a2,a3,a4,a5,a6,a7,a8,a9,ME,MF,E,MT,?_⟩;clear a0 a1 a2 a3 a4 a5 a6 a7 a8 a9 ME MF E MT ha;generalize fs[i].1=x at *;refine ⟨λz _=>∃j:Nat,z=(j:Int)/\j<=O.length/\∀(L:Nat)(h:L<O.length),L<j->iQ O[L] x<0,λz=>O.length-z.toNat,⟨0,σ,0,rfl,å _,λL _ h=>Å h (Œ L)⟩,?_⟩;rintro z V2 l2 ⟨j,rfl,pH,jl⟩;have wj:i64.wrap ((j:Int)+1)=((j+1:Nat):Int):=by{rw [aq ω];rfl};rw [ß,wj];refine ⟨rfl,λz _=>z=true↔∃h:j<O.length,iQ O[j] x<0,⟨λd=>?_,λd=>⟨false,σ,?_⟩⟩,?_⟩;{have d:(j:Int)<(K:Int):=Á d;have o:j<O.length:=ω;have ⟨b1,p1,n1,c1,b2,p2,n2,c2,b3,p3,n3,c3,fw,Ah,hr⟩:=vd fx o;refine ⟨Ź,fc,b1,p1,n1,c1,b2,p2,n2,c2,b3,p3,n3,c3,⟨fw,Ah⟩,λV5 l5=>(fS (bW.le hr (l2.m l5)) (bW.le A (l2.m l5)) (Rf _ (ò o)) b7).s ?_⟩;rintro r V6 l6 rfl;exact ⟨_,rfl,_,σ,by dsimp only;rw [Ñ];exact ⟨λh=>⟨o,h⟩,λ⟨_,h⟩=>h⟩⟩};{have d:¬(j:Int)<(K:Int):=Â d;exact ⟨π,λ⟨h,_⟩=>Å h ω⟩};rintro z V7 l7 Ky;refine ⟨rfl,λl=>?_,λl=>?_⟩;{have ⟨o,c0⟩:=Ky.1 l;refine ⟨((j+1:Nat):Int),by (try dsimp only);omega,σ,j+1,rfl,o,λL h d5=>?_⟩;by_cases e:L=j;{subst e;exact c0};exact jl L h ω};have c7:∀h:j<O.length,¬iQ O[j] x<0:=λh F=>by{have:=Ky.2 ⟨h,F⟩;rw [l] at this;cases this};have u:=Ps O j pH jl c7;have gX:=l2.m l7;refine ⟨λz _=>z=true↔¬∃h:j<O.length,O[j]=x,⟨λhe=>⟨true,σ,?_⟩,λhe=>?_⟩,?_⟩;{have he:(j:Int)=(K:Int):=by{simpa using he};exact ⟨λ_ ⟨h,_⟩=>Å h ω,λ_=>rfl⟩};{have he:¬(j:Int)=(K:Int):=by{simpa using he};have o:j<O.length:=ω;have ⟨b1,p1,n1,c1,b2,p2,n2,c2,b3,p3,n3,c3,fw,Ah,hr⟩:=vd fx o;refine ⟨Ź,fc,b1,p1,n1,c1,b2,p2,n2,c2,b3,p3,n3,c3,⟨fw,Ah⟩,λV8 l8=>(fS (bW.le hr (gX.m l8)) (bW.le A (gX.m l8)) (Rf _ (ò o)) b7).s ?_⟩;rintro r V9 l9 rfl;exact ⟨_,rfl,_,σ,by dsimp only;rw [bne_iff_ne,ne_eq,te];exact ⟨λh ⟨_,F⟩=>h F,λh F=>h ⟨o,F⟩⟩⟩};rintro z eV G rE;have KH:=gX.m G;refine ⟨rfl,λl eW cU bk hb J=>?_,λl=>?_⟩;{have c8:=rE.1 l;rw [Ã c8] at u;obtain ⟨xs,ys,x1,x2,x3,y1,y2,y3,r1,r2,r3,r4,r5⟩:=tz (V:=eW) (GR.s ⟨g1,fc,fv,fx⟩ λ_ _ g=>bW.le g (KH.m cU)) φ (λ_ _=>tK) hb (es:=[_,_,_,_,_,_]) rfl (bW.le A (KH.m cU)) (j:=j);refine ⟨Ź,Ź,Ź,xs,x1,x2,ω,Ú _,Ú 6,x2,x3,λd6 J2 sp c' h1 h2=>?_⟩;show ∃_,_;rw [r1,r2];(refine ⟨ys,y1,y2,Ú _,y3,ω,ω,r3,r4,λc9 B h3 h4=>⟨(j+(1+(K-j)),B,_,((i+1:Nat):Int)),ω,Ÿ,i+1,rfl,N,?_⟩⟩;show GR 6 bW _ _ _ _ (cP ((fs.take (i+1)).map Prod.fst));rw [Ss,u];exact r5 c9 B h3 h4)};have hex:∃h:j<O.length,O[j]=x:=Qj5 λh=>by{have:=rE.2 h;rw [l] at this;cases this};rw [Ä hex] at u;refine ⟨(K,w2,us,((i+1:Nat):Int)),ω,σ,i+1,rfl,N,?_⟩;show GR 6 bW _ _ _ _ (cP ((fs.take (i+1)).map Prod.fst));rw [Ss,u];exact ⟨g1,fc,fv,fx.le λ_ _ g=>bW.le g KH⟩
 subst d;rw [Ė] at g1 fx Rf b9;have eJ:â fs=(cP (fs.map Prod.fst)).flatMap λm=>(Ü 1 (ay m fs) []).map λs=>(m,s):=rfl;rw [eJ];clear eJ M;generalize cP (fs.map Prod.fst)=O at *;obtain ⟨C,hC⟩:∃C:L3->zA Sp,C=λm=>Ü 1 (ay m fs) []:=⟨_,rfl⟩;have b8:∀m,(ay m fs).length<=fs.length:=λm=>by unfold ay;rw [Č];exact Qd8 ..
 have Cl:∀m,(C m).length<=fs.length+1:=λm=>by rw [hC];exact Ā (Gm _) (Nat.succ_le_succ (b8 m))
 rw [show (λm=>(Ü 1 (ay m fs) []).map λs=>(m,s))=λm=>(C m).map λs=>(m,s) from by rw [hC]]
 refine ⟨λz V'=>∃a:Nat,z.2.2.2=(a:Int)/\a<=O.length/\GR 14 m_ V' z.1 z.2.1 z.2.2.1 ((O.take a).flatMap λm=>(C m).map λs=>(m,s))/\((O.take a).flatMap λm=>(C m).map λs=>(m,s)).length<=10001*a,λz=>O.length-z.2.2.2.toNat,
  ⟨(0,0,[],0),σ,0,rfl,å _,GR.nil,å _⟩,?_⟩
 rintro ⟨n2,c2,os,z4⟩ eV G ⟨a,v,d7,og,d4⟩;dsimp only at v og;subst v;refine ⟨rfl,λd=>?_,λd lu gX bk hb=>?_⟩;rotate_left
 ·have d:¬(a:Int)<(K:Nat):=Â d;obtain rfl:a=O.length:=ω;rw [Ė] at og;have:=aZ.bo hb (og.row.le λ_ _ g=>m_.le g gX) φ (by rw [<-og.len];exact og.le);rw [<-og.len] at this;exact ⟨_,_,_,rfl,this⟩
 have d:(a:Int)<(K:Nat):=Á d;have ha:a<O.length:=ω
 have wa:i64.wrap ((a:Int)+1)=((a+1:Nat):Int):=by rw [aq ω];rfl
 dsimp only;rw [ß,wa];have ⟨b1,p1,n1,c1,b2,p2,Rz,B,b3,p3,n3,c3,fw,Ah,hm⟩:=vd (fx.le λ_ _ g=>bW.le g G) ha;have d0:=Rf _ (ò ha);have tk:O.take (a+1)=O.take a++[O[a]]:=(Ŏ ha).symm;have fm:(O.take (a+1)).flatMap (λm=>(C m).map λs=>(m,s))=(O.take a).flatMap (λm=>(C m).map λs=>(m,s))++(C O[a]).map λs=>(O[a],s):=by rw [tk,Qn5,Qt6]
 have d8:=Cl O[a];have d9:=b8 O[a];have eC:C O[a]=Ü 1 (ay O[a] fs) []:=by rw [hC]
 generalize O[a]=m at *;refine ⟨Ź,fc,b1,p1,n1,c1,b2,p2,Rz,B,b3,p3,n3,c3,⟨fw,Ah⟩,pE (λj z V'=>GR 8 oO V' z.1 z.2.1 z.2.2.1 (ay m (fs.take j))) (0,0,[],0) σ rfl GR.nil ?_⟩;rintro j ⟨n4,c4,vs,z4⟩ eW cU v pH H;dsimp only at v H;subst v;have b5:=H.len;refine ⟨λd=>?_,λd kK fH bk hb=>?_⟩
 ·have o:=d;have w:i64.wrap ((j:Int)+1)=((j+1:Nat):Int):=by{rw [aq ω];rfl};dsimp only;rw [ß,w];have b6:=G.m cU;obtain ⟨is,eb,ep,en,ec,fb,fp,fn,fe,gb,gp,gn,gc,P,Q,R,S,T,U,W,X,Y,Zf,Z,b0,Xx,b4,ad,h0,a0,a1,a2,a3,a4,a5,a6,a7,a8,a9,ME,MF,E,MT,A,I⟩:=H9 (h.le (l1.m b6)) o;have ss:=IM o m;have sl:(ay m (fs.take j)).length<=10000:=by{unfold ay;rw [Č];have:=Qd8 (λx:L3×Sp=>decide (x.1=m)) (fs.take j);rw [ì] at this;omega};refine ⟨is,Ź,eb,ep,en,ec,fb,fp,fn,fe,gb,gp,gn,gc,P,Q,R,S,T,U,W,X,Y,Zf,Z,b0,Xx,b4,_,_,ad,h0,a0,a1,a2,a3,a4,a5,a6,a7,a8,a9,ME,MF,E,MT,λgC dI=>(fS (bW.le A dI) (bW.le hm (cU.m dI)) (hs _ (ò o)).1 d0).s ?_⟩;rintro r iI dS rfl;refine ⟨_,rfl,λl=>?_,λl=>⟨(n4,c4,vs,((j+1:Nat):Int)),ω,σ,j+1,rfl,o,?_⟩⟩;{have l:=te.1 (Ë.1 l);rw [Ä l] at ss;refine ⟨ω,H.le,H.cap,rfl,Yu I,λsp c' k1 k2=>⟨(n4+1,c',_,((j+1:Nat):Int)),ω,σ,j+1,rfl,o,?_⟩⟩;rw [ss];exact (H.up (V':=iI) (dI.m dS)).snoc rfl (oO.le I (dI.m dS)) φ k1 k2};have l:¬fs[j].1=m:=λe=>by{rw [te.2 e] at l;cases l};rw [Ã l,ý] at ss;rw [ss];exact H.up (dI.m dS)
 subst d;rw [Ė] at H b5;have hA:=aZ.bo hb (H.row.le λ_ _ g=>oO.le g fH) φ (by rw [<-b5];exact H.le);rw [<-b5] at hA;refine (kn (op:=1) (la':=ay m fs) (lb':=[]) (tC hA) ⟨rfl,λi N=>Å N (Œ i)⟩ (by rw [ĺ];omega) (λs F=>by obtain ⟨f,hf,rfl⟩:=ÿ.1 F;exact (hs f (ļ.1 hf).1).2) (λs F=>by cases F) hk).s ?_;rintro r ke fB ⟨q,n5,c5,rfl,hR⟩;rw [<-eC] at hR;have hR:=hR.lst;refine ⟨_,_,_,rfl,λJ=>?_⟩;clear eC;generalize C m=D at *;obtain rfl:=hR.len;have T7:=cU.m (fH.m fB);refine ⟨λz V'=>∃t:Nat,z.2.2.2=(t:Int)/\t<=D.length/\GR 14 m_ V' z.1 z.2.1 z.2.2.1 ((O.take a).flatMap (λm=>(C m).map λs=>(m,s))++(D.take t).map λs=>(m,s)),λz=>D.length-z.2.2.2.toNat,⟨(n2,c2,os,0),σ,0,rfl,å _,?_⟩,?_⟩
 ·rw [Qd4,Wk6,ý];exact og.up T7
 rintro ⟨n6,c6,ts,z4⟩ kf e_ ⟨t,v,e0,tg⟩;dsimp only at v tg;subst v;have d3:=tg.len;rw [ï,Č,ì] at d3;refine ⟨rfl,λd=>?_,λd=>?_⟩
 ·have d:(t:Int)<(D.length:Nat):=Á d;have ht:t<D.length:=ω;have w:i64.wrap ((t:Int)+1)=((t+1:Nat):Int):=by{rw [aq ω];rfl};dsimp only;rw [ß,w];have ⟨is,d1,q1,m1,f1,q2,m2,f2,d2,q3,m3,f3,q4,m4,f4,ad,h0,a0,a1,a2,a3,a4,a5,a6,a7,I⟩:=PB (hR.le e_) ht;have he:m_ kf (dB #[gF b1,yD p1 n1 c1,gF b2,yD p2 Rz B,gF b3,yD p3 n3 c3,gF d1,yD q1 m1 f1,yD q2 m2 f2,gF d2,yD q3 m3 f3,yD q4 m4 f4,gF D[t].a,gF D[t].b]) (m,D[t]):=⟨_,_,_,_,_,_,_,_,_,_,_,_,_,_,_,_,_,_,_,_,_,_,_,_,_,_,rfl,bW.le hm (T7.m e_),I⟩;refine ⟨is,Ź,_,_,_,_,_,_,_,_,_,_,_,_,_,_,_,_,ad,h0,a0,a1,a2,a3,a4,a5,a6,a7,ω,tg.le,tg.cap,rfl,IE he,λsp c' k1 k2=>⟨(n6+1,c',_,((t+1:Nat):Int)),ω,σ,t+1,rfl,ht,?_⟩⟩;rw [<-Ŏ ht,œ,<-Ě];exact tg.snoc (a:=(m,D[t])) rfl he φ k1 k2
 ·have d:¬(t:Int)<(D.length:Nat):=Â d;obtain rfl:t=D.length:=ω;rw [Ė] at tg;exact ⟨(n6,c6,ts,((a+1:Nat):Int)),ω,σ,a+1,rfl,ha,by rw [fm];exact tg,by rw [fm,ï,Č];omega⟩
def sC (l:L3)(o:List Rat)(m:L3):List Rat:=if Ý l m=0 then o else cX (er l (PE l m) (PF l m)) o
def Cf (l:L3)(ls:List L3):List Rat:=ls.foldl (sC l) []
theorem U0 {m:L3}(h:Nz l)(u:Ý l m≠0):er l (PE l m) (PF l m)=Ø m l:=by have ⟨v1,v2⟩:=VK u;have ⟨a,b⟩:=Ip h v1;generalize er l (PE l m) (PF l m)=z at *;rw [<-a,<-b,jE] at v2;have c:Û m l≠0:=by{rw [cross_dot] at u;grind};have:=Ŭ _ c;unfold Ø;grind
theorem wg (h:Nz l):∀(ls:zA L3)(o:zA Rat),(asc o->asc (ls.foldl (sC l) o))/\(ls.foldl (sC l) o).length<=o.length+ls.length/\∀x,x∈ls.foldl (sC l) o↔x∈o\/∃m∈ls,Û m l≠0/\x=Ø m l
 | [],o=>⟨id,Ú _,λx=>ψ⟩
 | m::ls,o=>by
  have ⟨u,y,z⟩:=wg h ls (sC l o m);rw [ř];have b:Ý l m=0↔Û m l=0:=by rw [cross_dot];grind
  refine ⟨λg=>u ?_,Ā y ?_,λx=>(z x).m ?_⟩
  ·unfold sC;split
   ·exact g
   ·exact Cz g
  ·unfold sC;split
   ·simp only [Ĉ];omega
   ·have:=@lY (er l (PE l m) (PF l m)) o;simp only [Ĉ];omega
  ·unfold sC;split
   ·rename_i e;have e:=b.1 e;refine or_congr Wv3 ⟨λ⟨k,a,g⟩=>⟨k,ā _ a,g⟩,λ⟨k,a,g⟩=>?_⟩;rcases í.1 a with rfl|a
    ·exact Å e g.1
    ·exact ⟨k,a,g⟩
   ·rename_i e;have d:¬Û m l=0:=λg=>e (b.2 g);rw [rG,U0 h e];constructor
    ·rintro ((g|g)|⟨k,a,g⟩)
     ·exact .inr ⟨m,ď ..,d,g⟩
     ·exact .inl g
     ·exact .inr ⟨k,ā _ a,g⟩
    ·rintro (g|⟨k,a,f,c⟩)
     ·exact .inl (.inr g)
     ·rcases í.1 a with rfl|a
      ·exact .inl (.inl c)
      ·exact .inr ⟨k,a,f,c⟩
theorem W7 {ls:zA L3}(u:Bd l)(h:Nz l)(y:∀m∈ls,Bd m):∀x∈Cf l ls,Sz 60060 x:=λx a=>by
 rcases ((wg h ls []).2.2 x).1 a with g|⟨m,hm,-,rfl⟩
 ·cases g
 ·exact (kW u.eO (y m hm).eO).s ω
theorem v_ {ls:zA L3}(hl:bW V v l)(bl:Bd l)(nz:Nz l)(h:aZ 6 bW V p n ls)(hn:ls.length<=1000000)(hb:∀m∈ls,Bd m):À 76 #[v,yD p n c] V λr W=>∃q m e,r=yD q m e/\aZ 3 RQ W q m (Cf l ls):=by
 obtain rfl:=h.len;have G:=hl;obtain ⟨_,_,_,_,_,_,_,_,_,_,_,_,rfl⟩:=br hl
 refine vB V _ ⟨λz V'=>∃(i:Nat)(O:zA Rat),z.2.2.2=(i:Int)/\i<=ls.length/\O.length<=i/\(∀q∈O,Sz 60060 q)/\Cf l ls=(ls.drop i).foldl (sC l) O/\GR 3 RQ V' z.1 z.2.1 z.2.2.1 O,λz=>ls.length-z.2.2.2.toNat,
  ⟨(0,0,[],0),σ,0,[],rfl,å _,å _,(λq f=>by cases f),by rw [Wq1];rfl,GR.nil⟩,?_⟩
 rintro ⟨B,R,us,z4⟩ V1 S ⟨i,O,e4,NF,a5,H,d,k⟩;dsimp only at e4 k;subst e4;have g1:=k.len;have T:=k.le;refine ⟨rfl,λa=>?_,λa eV o bk hb=>?_⟩;rotate_left
 ·have a:¬(i:Int)<ls.length:=Â a;obtain rfl:i=ls.length:=ω;rw [Qr7] at d;have d:Cf l ls=O:=d;rw [d];subst g1;exact ⟨_,_,R,rfl,aZ.bo hb (k.row.le λ_ _ g=>g.le o) φ T⟩
 have a:(i:Int)<ls.length:=Á a;have F:i<ls.length:=ω
 have w:i64.wrap ((i:Int)+1)=((i+1:Nat):Int):=by rw [aq ω];rfl
 dsimp only;rw [ß,w];refine ldL br (h.le S) F λd1 q1 m1 e1 d2 q2 m2 e2 d3 q3 m3 e3 gm=>?_;have ed:ls.drop i=ls[i]::ls.drop (i+1):=ī F;rw [ed,ř] at d;have U:=hb _ (ò F);generalize ls[i]=m at *;refine λV2 W=>(IA (l:=l) (m:=m) (bW.le G (S.m W)) (bW.le gm W) bl.eO U.eO).s ?_;rintro r V3 l3 ⟨u,rfl,gz,Q⟩;have X:=W.m l3;by_cases C:Ý l m=0
 ·have es:sC l O m=O:=Ä C;rw [es] at d;have:=gz C;unfold JD at this;subst this;exact wwQ ⟨rfl,λ_=>⟨(B,R,us,((i+1:Nat):Int)),ω,σ,i+1,O,rfl,F,ω,H,d,k.up X⟩,λg=>by rw [È (λg=>g C)] at g;cases g⟩
 have es:sC l O m=cX (er l (PE l m) (PF l m)) O:=Ã C;rw [es] at d;have Y:Sz 60060 (er l (PE l m) (PF l m)):=by rw [U0 nz C];exact (kW bl.eO U.eO).s ω
 have Q:=Q C;have Xn:=Q;obtain ⟨_,_,_,_,_,_,_,_,_,_,_,_,_,_,rfl⟩:=f_ Q;have ⟨s1,s2⟩:=Bt bl.eO U.eO;refine wwQ ⟨rfl,λg=>by rw [Ç C] at g;(first|cases g|exact Å g φ),λ_ V4 Z=>(pQ (L:=l) (bW.le G (S.m (X.m Z))) (Xn.le Z) nz (bl.eO.up (K:=20020) ω) s1 s2).s ?_⟩;rintro r V5 l5 f;have D:=f;obtain ⟨ep,en,ec,eq,em,ee,rfl⟩:=f.shape;have fB:=X.m (Z.m l5);clear f;generalize er l (PE l m) (PF l m)=x at *;refine ⟨_,ep,en,ec,eq,em,ee,rfl,λz _=>∃j:Nat,z=(j:Int)/\j<=O.length/\∀(t:Nat)(h:t<O.length),t<j->O[t]<x,λz=>O.length-z.toNat,⟨0,σ,0,rfl,å _,λt _ h=>Å h (Œ t)⟩,?_⟩;rintro z V6 l6 ⟨j,rfl,pH,jl⟩;have wj:i64.wrap ((j:Int)+1)=((j+1:Nat):Int):=by rw [aq ω];rfl
 rw [ß,wj];have e_:=fB.m l6;refine ⟨rfl,λz _=>z=true↔∃h:j<O.length,O[j]<x,⟨λa=>?_,λa=>⟨false,σ,?_⟩⟩,?_⟩
 ·have a:(j:Int)<(B:Int):=Á a;have s:j<O.length:=ω;have ⟨rb,rp,rn,rc,rq,rm,re,fw,Ah,hr⟩:=IG k.row s;refine ⟨Ź,T,rb,rp,rn,rc,rq,rm,re,⟨fw,Ah⟩,λV7 l7=>(dR (hr.le (e_.m l7)) (D.le (l6.m l7)) (H _ (ò s)) Y).s ?_⟩;rintro r V8 l8 rfl;exact ⟨_,rfl,_,σ,by dsimp only;rw [Ñ,cmpQ_neg];exact ⟨λh=>⟨s,h⟩,λ⟨_,h⟩=>h⟩⟩
 ·have a:¬(j:Int)<(B:Int):=Â a;exact ⟨π,λ⟨h,_⟩=>Å h ω⟩
 rintro z V9 l9 Ky;refine ⟨rfl,λE=>?_,λE=>?_⟩
 ·have ⟨s,a0⟩:=Ky.1 E;refine ⟨((j+1:Nat):Int),by (try dsimp only);omega,σ,j+1,rfl,s,λt h a6=>?_⟩;by_cases e:t=j;{subst e;exact a0};exact jl t h ω
 have a1:∀h:j<O.length,¬O[j]<x:=λh I=>by have:=Ky.2 ⟨h,I⟩;rw [E] at this;cases this
 have b:=Pt O j pH jl a1;have je:=e_.m l9;have M:=l6.m l9;refine ⟨λz _=>z=true↔¬∃h:j<O.length,O[j]=x,⟨λhe=>⟨true,σ,?_⟩,λhe=>?_⟩,?_⟩
 ·have he:(j:Int)=(B:Int):=by{simpa using he};exact ⟨λ_ ⟨h,_⟩=>Å h ω,λ_=>rfl⟩
 ·have he:¬(j:Int)=(B:Int):=by{simpa using he};have s:j<O.length:=ω;have ⟨rb,rp,rn,rc,rq,rm,re,fw,Ah,hr⟩:=IG k.row s;refine ⟨Ź,T,rb,rp,rn,rc,rq,rm,re,⟨fw,Ah⟩,λeV o=>(dR (hr.le (je.m o)) (D.le (M.m o)) (H _ (ò s)) Y).s ?_⟩;rintro r eW cU rfl;exact ⟨_,rfl,_,σ,by dsimp only;rw [bne_iff_ne,ne_eq,<-fI];exact ⟨λh ⟨_,I⟩=>h I,λh I=>h ⟨s,I⟩⟩⟩
 rintro z gC dI rE;have y:=je.m dI;refine ⟨rfl,λE iI A bk a2 J=>?_,λE=>?_⟩
 ·have a3:=rE.1 E;rw [Ã a3] at b;have N:=y.m A;obtain ⟨xs,ys,x1,x2,x3,y1,y2,y3,r1,r2,r3,r4,r5⟩:=tz (V:=iI) (k.up N) φ (λ_ _=>Vj) a2 (es:=[_,_,_]) rfl (D.le (M.m (dI.m A))) (j:=j);refine ⟨Ź,Ź,Ź,xs,x1,x2,ω,Ú _,Ú 3,x2,x3,λa7 J2 sp c' h1 h2=>?_⟩;show ∃_,_;rw [r1,r2];(refine ⟨ys,y1,y2,Ú _,y3,ω,ω,r3,r4,λa4 P h3 h4=>⟨(j+(1+(B-j)),P,_,((i+1:Nat):Int)),ω,Ÿ,i+1,cX x O,rfl,F,?_,?_,d,?_⟩⟩);{rw [b,ï,ì,Ĉ,į];omega};{intro q f;rcases rG.1 f with rfl|f;{exact Y};exact H q f};show GR 3 RQ _ _ _ _ (cX x O);rw [b];exact r5 a4 P h3 h4
 ·have hex:∃h:j<O.length,O[j]=x:=Qj5 λh=>by{have:=rE.2 h;rw [E] at this;cases this};rw [Ä hex] at b;rw [b] at d;exact ⟨(B,R,us,((i+1:Nat):Int)),ω,σ,i+1,O,rfl,F,ω,H,d,k.up y⟩
theorem Tv (nz:Nz l){t:Tr}:ZX l (Cf l (aK t.cJ)) t:=by refine (Hn t).imp λm hm a=>((wg nz (aK t.cJ) []).2.2 _).2 (.inr ⟨bM m,(jq _).2 _ |>.2 (ÿ.2 ⟨m,hm,rfl⟩),?_⟩);rcases nq m with e|e<;>rw [e];{exact ⟨a,rfl⟩};exact ⟨by rw [dot_rev];grind,(cutP_rev a).symm⟩
theorem Ni {t:Tr}(h:RW V p t)(ha:t.dU kh)(hs:t.size<=100000)(hl:bW V v l)(kl:kh l):À 26 #[Õ p,v,gF true,gF false] V λr W=>∃q n c,r=yD q n c/\aZ 8 oO W q n (qE l t):=by have s:=hl;have nz:=eI kl.1;have ok:t.dU λm=>cq m=true:=ha.imp λ_ h=>h.1;have db:∀m∈aK t.cJ,Bd m:=wo (q:=Bd) (λl h=>by rcases nq l with e|e<;>rw [e];exact h;exact h.rev) λm hm=>(jO ha m hm).2;have dl:(aK t.cJ).length<=100000:=Ā (yv _) (by rw [jP];exact hs);have ⟨f1,f2,f3⟩:=wg nz (aK t.cJ) [];have B:asc (Cf l (aK t.cJ)):=f1 List.Pairwise.nil;have a0:(Cf l (aK t.cJ)).length<=100000:=Ā f2 (by simpa using dl);have C:=W7 kl.2 nz db;have cc:=Tv nz (t:=t);have fin:∀ms,ms=(bE (Cf l (aK t.cJ))).map (λx=>(ax.pV t (cu l x,cw l x) (eH l true)).1&&!(ax.pV t (cu l x,cw l x) (eH l false)).1)->rC (Cf l (aK t.cJ)) ms=qE l t:=λms e=>X1 cc kl.1 ok B e;have O:∀{W:ut} {v:un} {q:OA} {n c:Nat},bW W v l->aZ 6 bW W q n (aK t.cJ)->À 76 #[v,yD q n c] W λr W=>∃q m e,r=yD q m e/\aZ 3 RQ W q m (Cf l (aK t.cJ)):=λa b=>v_ a kl.2 nz b ω db;generalize Cf l (aK t.cJ)=P at *;have pl:(bE P).length=P.length+1:=eK;obtain ⟨_,_,_,_,_,_,_,_,_,_,_,_,rfl⟩:=br hl;refine Mv V _ λV1 l1=>(nj (h.le l1) ha).s ?_;rintro r V2 l2 ⟨q1,n1,c1,rfl,gd⟩;have Ju:=l1.m l2;refine ⟨q1,n1,c1,rfl,λV3 Q=>(O (bW.le s (Ju.m Q)) (gd.le Q)).s ?_⟩;rintro r V4 l4 ⟨q2,n2,c2,rfl,gc⟩;have Wl:=Ju.m (Q.m l4);refine ⟨q2,n2,c2,rfl,λV5 l5=>(dZ (l_0:=l.1) (l_1:=l.2.1) (l_2:=l.2.2) (bW.le s (Wl.m l5)) kl.2.eO.1 kl.2.eO.2.1 kl.2.eO.2.2 ω).s ?_⟩;rintro r V6 l6 ⟨x1,x2,x3,x4,x5,x6,y1,y2,y3,y4,y5,y6,rfl,gx,gy⟩;refine qxW ⟨rfl,λV7 R=>(BZ (gy.le R)).s ?_⟩;rintro r V8 l8 go;rw [Rat.neg_neg] at go;have S:=go;obtain ⟨z1,z2,z3,z4,z5,z6,rfl⟩:=go.shape;have y:=l5.m (l6.m (R.m l8));refine ⟨_,z1,z2,z3,z4,z5,z6,rfl,λV9 l9=>(q_ (gc.le (y.m l9)) ω (k:=60060) C).s ?_⟩;rintro r eV T ⟨q3,n3,c3,rfl,D⟩;obtain rfl:=D.len;have H:=l9.m T;have XH:=Wl.m (y.m H);have gn:RP eV (dB #[gF (decide (((l.1:Int):Rat).num<0)),yD z1 z2 z3,yD z4 z5 z6,gF (decide (((l.2.1:Int):Rat).num<0)),yD x1 x2 x3,yD x4 x5 x6]) (eH l true).1 (eH l true).2:=qxJ ⟨rfl,S.le H,gx.le (R.m (l8.m H))⟩;have E:Sz 1000 (eH l true).1/\Sz 1000 (eH l true).2:=⟨kl.2.eO.1,kl.2.eO.2.1⟩;let f:Rat->md:=λx=>(ax.pV t (cu l x,cw l x) (eH l true)).1&&!(ax.pV t (cu l x,cw l x) (eH l false)).1;refine ⟨q3,_,c3,rfl,pE (λi z V'=>GR 1 RBl V' z.1 z.2.1 z.2.2.1 (((bE P).map f).take i)) (0,0,[],0) σ rfl GR.nil ?_⟩;rintro i ⟨w1,w2,us,a1⟩ eW I e4 NF d;dsimp only at e4 d;subst e4;have gl:=d.len;rw [ì,Č] at gl;dsimp only;rw [ß];refine ⟨λA=>?_,λA kg il bk j=>?_⟩;rotate_left;{subst A;rw [ō (by rw [Č];exact Ú _)] at d;obtain rfl:=d.len;have F:=y.m (H.m (I.m il));refine (vU (gc.le F) (aZ.bo j (d.row.le λ_ _ g=>g) φ d.le) (by rw [Č];exact pl)).s ?_;rintro r qC nQ ⟨q,n,c,rfl,g⟩;rw [fin _ rfl] at g;exact ⟨q,n,c,rfl,λ_ qN lZ=>⟨q,n,c,rfl,g.le lZ⟩⟩};have G:=A;have w:i64.wrap ((i:Int)+1)=((i+1:Nat):Int):=by{rw [aq ω];rfl};rw [w];have et:((bE P).map f).take (i+1)=((bE P).map f).take i++[f (bE P)[i]]:=by{rw [ĳ,ô (by rw [Č];exact G)];simp};have U:=GX C (ò G);refine ldQ (λh=>⟨_,RQ.shape h⟩) (D.le I) G λ_ ep en ec eq em ee hq=>?_;have X:=hq;have ef:f (bE P)[i]=((ax.pV t (cu l (bE P)[i],cw l (bE P)[i]) (eH l true)).1&&!(ax.pV t (cu l (bE P)[i],cw l (bE P)[i]) (eH l false)).1):=rfl;clear hq;generalize (bE P)[i]=x at *;have XI:=XH.m I;refine λgC J=>(N8 (L:=l) (bW.le s (XI.m J)) (X.le J) nz (kl.2.eO.up (K:=120124) ω) (U.s ω)).s ?_;rintro r iI dS gp;have Xn:=gp;obtain ⟨_,_,_,_,_,_,_,_,_,_,_,_,_,_,rfl⟩:=f_ gp;have px:=(nI (kl.2.eO.up (K:=120124) ω) (U.s ω)).s (show _<=60000000 by omega);have py:=(nJ (kl.2.eO.up (K:=120124) ω) (U.s ω)).s (show _<=60000000 by omega);have CF:=I.m (J.m dS);have tw:∀{Y:un},RP iI Y (cu l x) (cw l x)->∀{W:ut} {e:md} {u:un},iI.Le W->RP W u (eH l e).1 (eH l e).2->Sz 1000 (eH l e).1/\Sz 1000 (eH l e).2->À 79 #[Õ p,Y,u] W λr W=>r=ê #[gF (ax.pV t (cu l x,cw l x) (eH l e)).1,gF (ax.pV t (cu l x,cw l x) (eH l e)).2]:=λ{Y} gq {W e u} g hu su=>B_ (p:=(cu l x,cw l x)) (k:=60000000) ω ω px py (su.1.s ω) (su.2.s ω) (h.le (XI.m (J.m (dS.m g)))) (Ij ha) (gq.le g) hu;refine qxW ⟨rfl,λkK M=>(tw Xn (e:=true) M (gn.le (CF.m M)) E).s ?_⟩;rintro r ke fB rfl;refine ⟨_,_,rfl,λkf e_=>(qW (p:=eH l true) (gn.le (CF.m (M.m (fB.m e_)))) E.1 E.2).s ?_⟩;rintro r lu gX N;have N:RP lu r (eH l false).1 (eH l false).2:=N;have Z:=N;obtain ⟨_,_,_,_,_,_,_,_,_,_,_,_,_,_,rfl⟩:=f_ N;refine qxW ⟨rfl,λmD gj=>(tw Xn (e:=false) (M.m (fB.m (e_.m (gX.m gj)))) (Z.le gj) ⟨E.1.neg,E.2.neg⟩).s ?_⟩;rintro r nf je rfl;have o:=d.s (V':=nf) λ_ _ g=>g;refine ⟨_,_,rfl,λj=>⟨ω,d.le,d.cap,rfl,λv hv=>by rw [ú.1 hv];rfl,λsp c' h1 h2=>⟨(w1+1,c',_,((i+1:Nat):Int)),ω,σ,i+1,rfl,G,?_⟩⟩,λj=>⟨ω,d.le,d.cap,rfl,λv hv=>by rw [ú.1 hv];rfl,λsp c' h1 h2=>⟨(w1+1,c',_,((i+1:Nat):Int)),ω,σ,i+1,rfl,G,?_⟩⟩⟩;{show GR 1 RBl _ _ _ _ (((bE P).map f).take (i+1));rw [et];refine o.snoc rfl ?_ φ h1 h2;have j:(ax.pV t (cu l x,cw l x) (eH l true)).1=true:=by{simpa using j};rw [ef,j];cases (ax.pV t (cu l x,cw l x) (eH l false)).1<;>rfl};show GR 1 RBl _ _ _ _ (((bE P).map f).take (i+1));rw [et];refine o.snoc rfl ?_ φ h1 h2;have j:(ax.pV t (cu l x,cw l x) (eH l true)).1=false:=by{simpa using j};rw [ef,j];rfl
section
variable{S:List L3}{t:Tr}(h:vG S t)
include h
theorem vG.part (E:zA L3)(u:∀l∈E,kh l):(iT t E).length<=122*E.length:=by
 induction E with
 | nil=>exact Ú _
 | cons l E y=>
  have b:=y λx a=>u x (ā _ a);have k:=u l (ď ..);have f1:=(lA (h.Wg k.2)).2.2;have f2:=(lA (h.Wg k.2.rev)).2.2;unfold iT jM at *;grind
set_option maxHeartbeats 4000000 in
theorem yh {V:ut}{q:OA}(g:RW V q t):À 6 #[Õ q] V λr W=>∃p n c,r=yD p n c/\aZ 14 m_ W p n (â (iT t (aK t.cJ))):=by
 have sz:=h.size;have dl:=h.lines;have ZD:=h.ZD;have kS:=h.len;have fr:=h.um;refine xH V _ λV1 l1=>(nj (g.le l1) h.ok).s ?_;rintro r V2 l2 ⟨p,n,c,rfl,gD⟩;generalize aK t.cJ=D at *;obtain rfl:=gD.len
 have TM:∀j,(iT t (D.take j)).length<=122*25:=λj=>by have h1:=h.part (D.take j) λl hl=>ZD l (Qr9 _ _ hl);rw [ì] at h1;omega
 refine ⟨p,_,c,rfl,pE (λj z V'=>GR 14 m_ V' z.1 z.2.1 z.2.2.1 (iT t (D.take j))) (0,0,[],0) σ rfl GR.nil ?_⟩;rintro j ⟨z1,z2,vs,z4⟩ V3 l3 E pH H;dsimp only at E H;subst E;dsimp only;rw [ß];refine ⟨λF=>?_,λF eV a8 bk hb=>?_⟩;rotate_left
 ·subst F;rw [Ė] at H;obtain rfl:=H.len;refine (HJ (aZ.bo hb (H.row.le λ_ _ g=>m_.le g a8) φ H.le) ω (k:=1000000) (λf hf=>⟨(fr f hf).2.1.eO.up ω,(fr f hf).2.2⟩)).s ?_;rintro r eW cU ⟨q',m',e',rfl,g⟩;exact ⟨q',m',e',rfl,λ_ gC dI=>⟨q',m',e',rfl,ra⟩⟩
 have hi:=F;have w:i64.wrap ((j:Int)+1)=((j+1:Nat):Int):=by rw [aq ω];rfl
 rw [w];obtain ⟨is,I,J,K,M,N,O,P,Q,R,S,T,U,a,a9,a0,a1,a2,a3,a4,a5,gl⟩:=Bm (gD.le l3) hi;have kl:=ZD _ (ò hi)
 have et:iT t (D.take (j+1))=iT t (D.take j)++(jM t D[j]++jM t (Ö D[j])):=by unfold iT;rw [ĳ,ô hi];show List.flatMap _ (_++[D[j]])=_;rw [Qn5,Ę,Ww3,ý]
 have fj:=TM j;have b0:=TM (j+1);rw [et] at b0;generalize D[j]=L at *;refine ⟨is,Ź,I,J,K,M,N,O,P,Q,R,S,T,U,a,a9,a0,a1,a2,a3,a4,a5,λV4 l4=>(iC (bW.le gl l4)).s ?_⟩;rintro r V5 l5 gr;have Jt:bW V5 r (Ö L):=gr;obtain ⟨s1,W,X,d1,s2,Y,Z,d2,s3,q3,m3,d3,rfl⟩:=br Jt;refine ⟨s1,W,X,d1,s2,Y,Z,d2,s3,q3,m3,d3,rfl,pE (λi z V'=>z.2.2.2.2=[gF I,yD J K M,gF N,yD O P Q,gF R,yD S T U,gF s1,yD W X d1,gF s2,yD Y Z d2,gF s3,yD q3 m3 d3]/\V5.Le V'/\GR 14 m_ V' z.1 z.2.1 z.2.2.1 (iT t (D.take j)++([L,Ö L].take i).flatMap (jM t))) (z1,z2,vs,0,_) σ rfl ⟨rfl,Ó.Le.refl _,by show GR 14 m_ V5 z1 z2 vs (_++[]);rw [ý];exact H.up au⟩ ?_⟩;rintro i ⟨u1,u2,us,u4,lits⟩ V6 l6 E NF ⟨e5,Sv,Xv⟩;dsimp only at E e5 Xv;subst E e5;dsimp only;rw [ß];refine ⟨λm=>?_,λm=>?_⟩;rotate_left
 ·subst m;have e:([L,Ö L].take 2).flatMap (jM t)=jM t L++jM t (Ö L):=by{show jM t L++(jM t (Ö L)++[])=_;rw [ý]};rw [e,<-et] at Xv;exact ⟨(u1,u2,us,((j+1:Nat):Int)),ω,σ,j+1,rfl,hi,Xv⟩
 have m:(i:Int)<_:=Int.ofNat_lt.2 m;have wi:i64.wrap ((i:Int)+1)=((i+1:Nat):Int):=by rw [aq ω];rfl
 have b4:∃o Sy u v x Wp Rz y A Wq Wo B d,((0+i*6)+6<=([gF I,yD J K M,gF N,yD O P Q,gF R,yD S T U,gF s1,yD W X d1,gF s2,yD Y Z d2,gF s3,yD q3 m3 d3]:zA un).length/\(([gF I,yD J K M,gF N,yD O P Q,gF R,yD S T U,gF s1,yD W X d1,gF s2,yD Y Z d2,gF s3,yD q3 m3 d3]:zA un).drop (0+i*6)).take 6=[gF o,yD Sy u v,gF x,yD Wp Rz y,gF A,yD Wq Wo B]) /\
   bW V6 (dB #[gF o,yD Sy u v,gF x,yD Wp Rz y,gF A,yD Wq Wo B]) d/\kh d/\([L,Ö L].take (i+1)).flatMap (jM t)=([L,Ö L].take i).flatMap (jM t)++jM t d/\(([L,Ö L].take i).flatMap (jM t)).length<=61:=by
  rcases (show i=0\/i=1 by omega) with rfl|rfl
  ·exact ⟨I,J,K,M,N,O,P,Q,R,S,T,U,L,⟨by show 0+0*6+6<=12;omega,rfl⟩,bW.le gl au,kl,by show jM t L++[]=[]++jM t L;rw [ý];rfl,å _⟩
  ·exact ⟨s1,W,X,d1,s2,Y,Z,d2,s3,q3,m3,d3,Ö L,⟨by show 0+1*6+6<=12;omega,rfl⟩,bW.le Jt Sv,mU kl,by show jM t L++(jM t (Ö L)++[])=(jM t L++[])++jM t (Ö L);rw [ý,ý],by show (jM t L++[]).length<=61;rw [ý];unfold jM;rw [Č];exact (lA (h.Wg kl.2)).2.2⟩
 obtain ⟨o,Sy,u,v,x,Wp,Rz,y,A,Wq,Wo,B,d,a6,gL,kL,eT,fT⟩:=b4;refine ⟨Ź,o,Sy,u,v,x,Wp,Rz,y,A,Wq,Wo,B,a6,λV7 l7=>(Ni (g.le au) h.ok ω (bW.le gL l7) kL).s ?_⟩;rintro r V8 l8 ⟨p8,n8,c8,rfl,g8⟩;obtain rfl:=g8.len;have b5:=(lA (h.Wg kL.2)).2.2;refine ⟨p8,_,c8,rfl,pE (λk z V'=>z.2.2.2.2=[gF I,yD J K M,gF N,yD O P Q,gF R,yD S T U,gF s1,yD W X d1,gF s2,yD Y Z d2,gF s3,yD q3 m3 d3]/\V8.Le V'/\GR 14 m_ V' z.1 z.2.1 z.2.2.1 ((iT t (D.take j)++([L,Ö L].take i).flatMap (jM t))++((qE d t).take k).map λs=>(d,s))) (u1,u2,us,0,_) σ rfl ⟨rfl,Ó.Le.refl _,by show GR 14 m_ V8 u1 u2 us (_++[]);rw [ý];exact Xv.up au⟩ ?_⟩;rintro k ⟨w1,w2,ws,w4,lits⟩ V9 l9 E b6 ⟨e5,a7,G⟩;dsimp only at E e5 G;subst E e5;dsimp only;rw [ß];refine ⟨λC=>?_,λC=>?_⟩;rotate_left
 ·subst C;rw [Ė] at G;refine ⟨(w1,w2,ws,((i+1:Nat):Int),_),ω,by and_intros<;>first|rfl|exact wi,i+1,rfl,ω,rfl,Sv.m au,?_⟩;show GR 14 m_ V9 w1 w2 ws _;rw [eT,<-Ě];exact G
 have hk:=C;have wk:i64.wrap ((k:Int)+1)=((k+1:Nat):Int):=by rw [aq ω];rfl
 have ⟨js,e1,r1,o1,f1,r2,o2,f2,e2,r3,o3,f3,r4,o4,f4,ad,hd,x0,x1,x2,x3,x4,x5,x6,x7,hq⟩:=PB (g8.le a7) hk;have zl:=G.len;rw [ï,ï,Č,ì] at zl
 have ek:(((qE d t).take (k+1)).map λs=>(d,s))=(((qE d t).take k).map λs=>(d,s))++[(d,(qE d t)[k])]:=by rw [ĳ,ô hk,œ];rfl
 have rf:m_ V9 (dB #[gF o,yD Sy u v,gF x,yD Wp Rz y,gF A,yD Wq Wo B,gF e1,yD r1 o1 f1,yD r2 o2 f2,gF e2,yD r3 o3 f3,yD r4 o4 f4,gF (qE d t)[k].a,gF (qE d t)[k].b]) (d,(qE d t)[k]):=⟨_,_,_,_,_,_,_,_,_,_,_,_,_,_,_,_,_,_,_,_,_,_,_,_,_,_,rfl,bW.le gL au,hq⟩;refine ⟨js,Ź,_,_,_,_,_,_,_,_,_,_,_,_,_,_,_,_,ad,hd,x0,x1,x2,x3,x4,x5,x6,x7,ω,G.le,G.cap,rfl,IE rf,λsp c' h1 h2=>⟨(w1+1,c',_,((k+1:Nat):Int),_),ω,by and_intros<;>first|rfl|exact wk,k+1,rfl,hk,rfl,a7,?_⟩⟩;show GR 14 m_ V9 _ _ _ _;rw [ek,<-Ě];exact G.snoc (a:=(d,(qE d t)[k])) rfl rf φ h1 h2
end
end
end Go.Proofs.Tryz
namespace Go.Proofs.Tryz.ax
def Xr {u v:V2}(hu:nz u)(y:nz v)(z:cr u v=0)(d:dt u v>0):half u=half v:=by have c:u.1*dt v v=v.1*dt u v:=by{unfold cr dt at *;grind};have f:u.2*dt v v=v.2*dt u v:=by{unfold cr dt at *;grind};have s:∀{a b:Rat},a*dt v v=b*dt u v->(a>0↔b>0)/\(a<0↔b<0):=λ{a b} e=>by{have g:=PG (x:=a) (sq_pos y);have h:=PG (x:=b) d;grind};have i:=qp (q:=u.1);have j:=qp (q:=v.1);have k:=zS (q:=u.1);have l:=zS (q:=v.1);have m:=zS (q:=u.2);have n:=zS (q:=v.2);have o:=jS (q:=u.2);have p:=jS (q:=v.2);unfold half;grind
end Go.Proofs.Tryz.ax
namespace Go.Proofs.Tryz
section
def O1 {u:Rat×Rat}(hu:ax.nz u){c:Rat}(y:c>0){x:Rat×Rat}(e:x=(c*u.1,c*u.2)):ax.fg x u=0:=by have z:ax.cr x u=0:=by{rw [e];unfold ax.cr;grind};have d:ax.dt x u>0:=by{rw [show ax.dt x u=c*ax.dt u u by rw [e];unfold ax.dt;grind];exact ax.mp y (ax.sq_pos hu)};have b:ax.nz x:=by{rw [e];by_cases a:c*u.1=0;{exact .inr λf=>by{have:=(ax.nz_of hu (c:=c)) a f;grind}};exact .inl a};exact ax.iN.2 ⟨ax.Xr b hu z d,z⟩
def Kn (l:L3):ax.bj (Ö l)=(-(ax.bj l).1,-(ax.bj l).2):=by unfold ax.bj Ö;simp
def yu {m:L3}(u:cq m=true):ax.nz (ax.bj m):=by have:=eI u;unfold ax.nz ax.bj;by_cases h:m.2.1=0;{right;have:m.1≠0:=λe=>this ⟨e,h⟩;have:(m.1:Rat)≠0:=by{exact_mod_cast this};grind};refine .inl λe=>h ?_;have e:(m.2.1:Rat)=0:=e;exact_mod_cast e
def Rw {m:L3}{s:Sp}{l:zA (L3×Sp)}:(m,s)∈l↔s∈ay m l:=by unfold ay;rw [ÿ];constructor;{intro h;exact ⟨_,ļ.2 ⟨h,Ç rfl⟩,rfl⟩};rintro ⟨⟨a,b⟩,h,rfl⟩;have ⟨c,d⟩:=ļ.1 h;rw [<-(Á d)];exact c
def mem_F {t:Tr}(u:∀k∈t.cJ,cq k=true){m:L3}{s:Sp}:(m,s)∈â (iT t (aK t.cJ))↔cq m=true/\s∈qE m t:=by rw [Rw,LC,Qi u];split;{rename_i o;rw [Kc (show uu (qE m t) from comb_reg ..)];exact ⟨λh=>⟨o,h⟩,λh=>h.2⟩};rename_i o;exact ⟨λh=>(nomatch h),λh=>Å h.1 o⟩
def lvF (p:Rat×Rat)(f:L3×Sp):Prop:=aG f.1 p.1 p.2=0/\(f.2.a=true\/f.2.lo<=er f.1 p.1 p.2)/\(f.2.b=true\/er f.1 p.1 p.2<f.2.hi)
def cmF (p:Rat×Rat)(f:L3×Sp):Prop:=aG f.1 p.1 p.2=0/\(f.2.a=true\/f.2.lo<er f.1 p.1 p.2)/\(f.2.b=true\/er f.1 p.1 p.2<=f.2.hi)
def kF (f:L3×Sp):List (Rat×Rat):=(if f.2.a=true then [] else [(cu f.1 f.2.lo,cw f.1 f.2.lo)])++(if f.2.b=true then [] else [(cu f.1 f.2.hi,cw f.1 f.2.hi)])
end
section
def RCV (V:Ó)(v:Value)(c:Rat×Rat):Prop:=kd V v c.1 c.2/\Sz 100000000 c.1/\Sz 100000000 c.2
theorem RCV.le {V V':ut}{v:un}{c:Rat×Rat}(h:RCV V v c)(l:V.Le V'):RCV V' v c:=⟨h.1.le l,h.2⟩
end
section
def nW {V:ut}{p:OA}{n c:Nat}{A:zA (Rat×Rat)}(h:aZ 6 RCV V p n A)(hn:A.length<=1000000:=by omega):À 44 #[yD p n c] V λr W=>∃q m e,r=yD q m e/\aZ 6 gS W q m A:=by obtain rfl:=h.len;refine xz V _ (pE (λj z V'=>GR 6 gS V' z.1 z.2.1 z.2.2.1 (A.take j)) (0,0,[],0) σ rfl GR.nil ?_);rintro j ⟨o,P,Q,R⟩ S s t T b;subst t;have u:=b.len;rw [ì] at u;refine ⟨λd=>?_,λd U v W B=>?_⟩;{have f:=d;have w:i64.wrap ((j:Int)+1)=((j+1:Nat):Int):=by{rw [aq ω];rfl};dsimp only;rw [ß,w];obtain ⟨C,x,y,q,X,Y,Z,a,D,E,F,G,H,I,J,g⟩:=XU (k:=100000000) (h.le s) f;refine ⟨C,Ź,_,_,_,_,_,_,a,D,E,F,G,H,I,J,λV2 K=>(HD (g.1.le K) g.2.1 g.2.2 φ).s ?_⟩;rintro r i l3 L;have l:gS i r A[j]:=L;obtain ⟨_,_,_,_,_,_,_,_,_,_,_,_,_,_,rfl⟩:=l.shape;refine qxW ⟨rfl,ω,b.le,b.cap,rfl,PO,λsp M N O=>⟨(o+1,M,_,((j+1:Nat):Int)),ω,σ,j+1,rfl,f,?_⟩⟩;rw [ĳ,ô f];exact (b.up (V':=i) au).snoc rfl l φ N O};subst d;rw [Ė] at b;obtain rfl:=b.len;exact ⟨_,_,_,rfl,aZ.bo B (b.row.le λ_ _ g=>gS.le g v) φ b.le⟩
def tm:∀l:zA (L3×Sp),(l.flatMap kF).length<=2*l.length
 | []=>Ú _
 | f::r=>by
  have:=tm r;rw [Ę,ï,Ĉ]
  have:(kF f).length<=2:=by
   unfold kF;split<;>split<;>simp
  omega
section
variable{S:List L3}{t:Tr}(h:vG S t)
include h
theorem WN {V:ut}{q:OA}(g:RT V q t):À 36 #[Õ q] V λr W=>∃p n c,r=yD p n c/\aZ 17 qB W p n (â (iT t (aK t.cJ))):=by
 have e:=h.len;have j:=h.lines
 exact qR g (Ij h.ok) h.size ω (λl b=>⟨_,_,h.Wg (h.ZD l b).2,h.Wg (h.ZD l b).2.rev⟩) (λi _=>IL i) (Vs _) (Y3 _)
  λg d=>F_ g d ω (λm=>ň (h.each m) ω) (λf a=>(h.um f a).2.1.eO.up ω) (λf a=>(h.um f a).1.2) (λf a=>(h.um f a).2.2) λi=>IL i
theorem end_sz {x:Rat×Rat}(u:x∈(â (iT t (aK t.cJ))).flatMap kF):Sz 100000000 x.1/\Sz 100000000 x.2:=by have ⟨f,a,u⟩:=ė.1 u;have ⟨s1,s2⟩:=CD (λf a=>(h.um f a).2) f a;rcases ü.1 u with u|u;{split at u;{cases u};rw [ú.1 u];exact ⟨(nI s1 s2.1).s ω,(nJ s1 s2.1).s ω⟩};split at u;{cases u};rw [ú.1 u];exact ⟨(nI s1 s2.2).s ω,(nJ s1 s2.2).s ω⟩
end
end
section
variable{V:Ó}{v:Value}{p:OA}{c i n:Nat}
structure YP (f:L3×Sp):Prop where
 ok:cq f.1=true
 bd:Bd f.1
 gd:f.2.good
 sz:f.2.sz 100000
theorem F4 (l:L3)(h:Nz l):jW l l=0:=by unfold jW;exact (uE h 0).1
theorem Oi {l:L3}(h:Nz l)(s:Sp):Ď l s l=[]/\Ď l s (Ö l)=[]:=by have a:Û l l=0:=by{unfold Û;grind};have b:Û (Ö l) l=0:=by{unfold Û Ö;simp only [Qt2];grind};have c:jW (Ö l) l=0:=by{have:=F4 l h;unfold jW at *;rw [val_rev,this];rfl};refine ⟨?_,?_⟩<;>unfold Ď cW;{rw [a,F4 l h];rfl};rw [b,c];rfl
theorem yQ (l:L3)(s:Sp)(m:L3):(Ď l s m).length<=1:=by unfold Ď;split<;>simp
theorem Vo {l m:L3}{s:Sp}(h:YP (l,s))(y:Bd m):∀u∈Ď l s m,YP u:=λu hu=>by
 unfold Ď at hu;split at hu
 ·rename_i g;rw [ú.1 hu];exact ⟨h.ok,h.bd,lN h.gd g,Bs h.bd.eO y.eO h.sz ω⟩
 ·cases hu
def mi (m:L3)(fs:List (L3×Sp)):List (L3×Sp):=fs.flatMap λf=>Ď f.1 f.2 m
theorem K5 {m:L3}{fs:zA (L3×Sp)}(h:∀f∈fs,YP f)(y:Bd m):∀u∈mi m fs,YP u:=λu hu=>by
 have ⟨f,a,b⟩:=ė.1 hu;grind [Vo]
theorem tG (m:L3):∀fs:zA (L3×Sp),(mi m fs).length<=fs.length
 | []=>Ú _
 | f::fs=>by
  have:=tG m fs;grind [yQ,mi]
theorem NW {f:L3×Sp}{fs:zA (L3×Sp)}(h:Nz f.1):(mi f.1 (f::fs)).length<=fs.length/\(mi (Ö f.1) (f::fs)).length<=fs.length:=by have ⟨a,b⟩:=Oi h f.2;refine ⟨?_,?_⟩<;>unfold mi<;>rw [Ę];{rw [a];exact tG _ fs};rw [b];exact tG _ fs
theorem WS {x y:Rat}(h:Qs V v x y){k:Nat}(s1:Sz k x)(s2:Sz k y)(M:k<=2^38:=by omega):À 199 #[v] V λr W=>RP W r x y:=by obtain ⟨_,_,_,_,_,_,_,_,_,_,_,_,_,_,rfl,a,b⟩:=h;refine Ms V _ λc d=>(Tf ra s1 M).s ?_;rintro r V2 e ⟨f,g,i,j,l,m,rfl,n,o⟩;refine qxQ ⟨rfl,λp q=>(Tf ra s2 M).s ?_⟩;rintro r s t ⟨u,w,z,A,B,C,rfl,D,E⟩;exact qxQ ⟨rfl,λF G=>⟨_,_,_,_,_,_,_,_,_,_,_,_,rfl,⟨_,_,_,_,_,_,rfl,ra,ra⟩,⟨_,_,_,_,_,_,rfl,ra,ra⟩⟩⟩
theorem Vi {b1 u:md}{y z D E:OA}{F c1 M N O Z n4 c4:Nat}{c:Rat×Rat}(h:ct V (dB #[gF b1,yD y F c1,yD z M N,gF u,yD D O Z,yD E n4 c4]) c):RQ V (dB #[gF b1,yD y F c1,yD z M N]) c.1/\RQ V (dB #[gF u,yD D O Z,yD E n4 c4]) c.2:=by obtain ⟨_,_,_,_,_,_,_,_,_,_,_,_,e,a,b⟩:=h;have e:=Æ Array.toList (Value.agg.inj e);simp only [Ň,Value.bool.injEq,Value.slice.injEq,Í] at e;obtain ⟨rfl,⟨rfl,rfl,rfl⟩,⟨rfl,rfl,rfl⟩,rfl,⟨rfl,rfl,rfl⟩,⟨rfl,rfl,rfl⟩⟩:=e;exact ⟨a,b⟩
theorem B5 {u w:un}{a b c:Rat×Rat}(O:ct V u a)(Z:ct V v b)(hc:ct V w c){k:Nat}(h1:1<=k)(M:Sz k a.1/\Sz k a.2)(N:Sz k b.1/\Sz k b.2)(sc:Sz k c.1/\Sz k c.2)(hk:40*k+40<2^38:=by omega):À 284 #[u,v,w] V λr W=>∃x,r=Ô .i64 x:=by obtain ⟨_,_,_,_,_,_,_,_,_,_,_,_,_,_,rfl⟩:=O.shape;obtain ⟨_,_,_,_,_,_,_,_,_,_,_,_,_,_,rfl⟩:=Z.shape;obtain ⟨_,_,_,_,_,_,_,_,_,_,_,_,_,_,rfl⟩:=hc.shape;refine AL V _ λi f=>(qZ (RP.le Z f) (RP.le O f) N.1 N.2 M.1 M.2 h1).s ?_;rintro r V2 j g;obtain ⟨_,_,_,_,_,_,_,_,_,_,_,_,_,_,rfl⟩:=f_ g;refine qxW ⟨rfl,λl o=>(qZ (RP.le hc au) (RP.le O au) sc.1 sc.2 M.1 M.2 h1).s ?_⟩;rintro r q s h;obtain ⟨_,_,_,_,_,_,_,_,_,_,_,_,_,_,rfl⟩:=f_ h;have m:k+(k+1)<=2*k+1:=ω;refine qxW ⟨rfl,λt y=>(hU (k:=2*k+1) ra ra ((N.1.sub M.1).s ω) ((N.2.sub M.2).s ω) ((sc.1.sub M.1).s ω) ((sc.2.sub M.2).s ω)).s ?_⟩;rintro r z A ⟨p,n,d,B,C,D,rfl,E,F⟩;exact qxQ ⟨rfl,λG H=>(sZ _ ra).s λr I J e=>⟨_,e,λK L=>⟨_,rfl⟩⟩⟩
theorem Af (f n:Int):À 248 #[Ô .i64 f,Ô .i64 n] V λr W=>∃b,r=gF b:=
 zf V _ ⟨λ_=>⟨φ,λ_ a c=>⟨_,rfl⟩,λ_=>⟨λ_ V2 d=>⟨_,rfl⟩,λ_ e g=>⟨_,rfl⟩⟩⟩,λ_=>⟨λ_ h i=>⟨_,rfl⟩,λ_ j k=>⟨_,rfl⟩⟩⟩
def VZ (k:Nat)(l:List (Rat×Rat)):Prop:=∀p∈l,Sz k p.1/\Sz k p.2
theorem B8 {l:zA (Rat×Rat)}{q:Rat×Rat}(h:aZ 6 ct V p n l)(hl:l.length<=1000)(hs:VZ 600000000 l)(hq:ct V v q)(sq:Sz 600000000 q.1/\Sz 600000000 q.2):À 247 #[yD p n c,v] V λr W=>∃x,r=Ô .i64 x:=by
 obtain rfl:=h.len;obtain ⟨Q1,Q2,Q3,Q4,Q5,Q6,Q7,L,M,N,O,P,Q,R,rfl⟩:=hq.shape;refine AR V _ ⟨λz _=>∃j:Nat,z.2=(j:Int)/\j<=l.length,λz=>l.length-z.2.toNat,⟨(0,0),σ,0,rfl,å _⟩,?_⟩;rintro ⟨z1,z2⟩ i l1 ⟨j,e,pH⟩;dsimp only at e;subst e;refine ⟨rfl,λd=>?_,λ_ iI dS=>⟨_,rfl⟩⟩;have d:=Á d;have m:j<l.length:=ω
 have w:i64.wrap ((j:Int)+1)=((j+1:Nat):Int):=by rw [aq ω];rfl
 have hm:(((j+1:Nat):Int)).tmod (l.length:Int)=(((j+1)%l.length:Nat):Int):=by rw [Wj8]
 have U:(j+1)%l.length<l.length:=ġ _ ω;dsimp only;rw [w,hm];rw [ß,ß];have X:=h.le l1;obtain ⟨Y,Z,p1,n1,c1,p2,n2,c2,o,s,t,u,A,B,C,a,ha,a0,a1,a2,a3,a4,a5,gu⟩:=CO ct.shape X m;obtain ⟨-,B1,P1,N1,C1,P2,N2,C2,D,E,F,G,H,I,J,b,hb,A0,A1,A2,A3,A4,A5,gw⟩:=CO ct.shape X U;have S:=hs _ (ò m);have T:=hs _ (ò U);have uy:∀{W:ut},i.Le W->RQ W (dB #[gF o,yD s t u,yD A B C]) l[j].2:=λg=>(Vi gu).2.le g;have wy:∀{W:ut},i.Le W->RQ W (dB #[gF D,yD E F G,yD H I J]) l[(j+1)%l.length].2:=λg=>(Vi gw).2.le g;have qy:∀{W:ut},i.Le W->RQ W (dB #[gF L,yD M N O,yD P Q R]) q.2:=λg=>(Vi hq).2.le au
 have f:∀{W:ut},i.Le W->À 284 #[dB #[gF Z,yD p1 n1 c1,yD p2 n2 c2,gF o,yD s t u,yD A B C],dB #[gF B1,yD P1 N1 C1,yD P2 N2 C2,gF D,yD E F G,yD H I J],dB #[gF Q1,yD Q2 Q3 Q4,yD Q5 Q6 Q7,gF L,yD M N O,yD P Q R]] W λr W=>∃x,r=Ô .i64 x:=λg=>
  B5 (k:=600000000) (ct.le gu g) (ct.le gw g) ra ω S T sq
 refine ⟨Y,Ź,Z,p1,n1,c1,p2,n2,c2,o,s,t,u,A,B,C,a,ha,a0,a1,a2,a3,a4,a5,ω,Y,Ź,B1,P1,N1,C1,P2,N2,C2,D,E,F,G,H,I,J,b,hb,A0,A1,A2,A3,A4,A5,λV2 K=>(dR (uy K) (qy K) S.2 sq.2).s ?_⟩;rintro r V3 l3 rfl;refine ⟨_,rfl,λV4 l4=>(dR (wy au) (qy au) T.2 sq.2).s ?_⟩;rintro r V5 l5 rfl;have L5:=K.m (l3.m (l4.m l5));refine ⟨_,rfl,λ_ _=>True,⟨λ_=>⟨λ_ V6 l6=>(f au).s ?_,λ_=>⟨_,σ,trivial⟩⟩,λ_=>⟨_,σ,trivial⟩⟩,λz V8 l8 _=>⟨rfl,λ_ _=>True,⟨λ_=>⟨_,σ,trivial⟩,λ_=>⟨_,σ,trivial⟩⟩,λy V9 l9 _=>⟨rfl,λ_ _=>True,⟨λ_=>⟨λ_ eV a6=>(f au).s ?_,λ_=>⟨_,σ,trivial⟩⟩,λ_=>⟨_,σ,trivial⟩⟩,λx gC dI _=>⟨rfl,λ_=>⟨(_,((j+1:Nat):Int)),ω,σ,j+1,rfl,m⟩,λ_=>⟨(_,((j+1:Nat):Int)),ω,σ,j+1,rfl,m⟩⟩⟩⟩⟩
 ·rintro r V7 l7 ⟨x,rfl⟩;exact ⟨_,rfl,_,σ,trivial⟩
 ·rintro r eW cU ⟨x,rfl⟩;exact ⟨_,rfl,_,σ,trivial⟩
def OZ (R:Ó->Value->Rat×Rat->Prop)(V:Ó)(v:Value)(l:List (Rat×Rat)):Prop:=∃p n c,v=.agg #[.slice p n c]/\aZ 6 R V p n l
abbrev Qt:=OZ ct
theorem OZ.s {R:ut->un->Rat×Rat->Prop}{V':ut}{l:zA (Rat×Rat)}(h:OZ R V v l)(m:∀v a,R V v a->R V' v a)(g:V.Le V'):OZ R V' v l:=by obtain ⟨p,n,c,rfl,h⟩:=h;exact ⟨p,n,c,rfl,h.le g m⟩
theorem Qt.le {V V':ut}{l:zA (Rat×Rat)}(h:Qt V v l)(g:V.Le V'):Qt V' v l:=OZ.s h (λ_ _ k=>ct.le k g) g
theorem H_ {R:ut->un->Rat×Rat->Prop}{L:zA (zA (Rat×Rat))}(h:aZ 1 (OZ R) V p n L)(hi:i<L.length):p.isSome=true/\∃(q:OA)(m e:Nat),(∃a,ae p (i*1)=some a/\V.at a (yD q m e))/\aZ 6 R V q m L[i]:=by have ⟨a,b,xs,j,⟨q,m,e,d,f⟩,g⟩:=h.at_ i hi;have c:=Æ Array.toList (Value.agg.inj d);dsimp only at c;subst c;refine ⟨?_,q,m,e,⟨a,b,?_⟩,f⟩;{(cases p with|none=>simp [ae] at b|some a=>rfl)};{have:=g 0 _ rfl;simpa [Addr.add] using this}
theorem one1:∀v∈([yD p n c]:zA un),v.oneCell'=true:=λv a=>by rw [ú.1 a];rfl
structure Pgs (L:List (List (Rat×Rat))):Prop where
 len:L.length<=1000
 each:∀l∈L,l.length<=1000/\VZ 600000000 l
theorem Nh {O:OA}{Z c2:Nat}{fill:Int}{L:zA (zA (Rat×Rat))}{q:Rat×Rat}(h:aZ 1 Qt V p n L)(N:Pgs L)(hq:ct V v q)(sq:Sz 600000000 q.1/\Sz 600000000 q.2):À 197 #[dB #[yD p n c,Ô .i64 fill,yD O Z c2],v] V λr W=>∃b,r=gF b:=by obtain rfl:=h.len;have y:=N.len;obtain ⟨_,_,_,_,_,_,_,_,_,_,_,_,_,_,rfl⟩:=hq.shape;refine FN V _ ⟨λz _=>∃j:Nat,z.2=(j:Int)/\j<=L.length,λz=>L.length-z.2.toNat,⟨(0,0),σ,0,rfl,å _⟩,?_⟩;rintro ⟨i,A⟩ B k ⟨j,e,C⟩;dsimp only at e;subst e;refine ⟨rfl,λa=>?_,λ_ D E=>(Af fill i).s λr F G ⟨b,e⟩=>⟨b,e,λH I=>⟨b,rfl⟩⟩⟩;have a:=Á a;have d:j<L.length:=ω;have w:i64.wrap ((j:Int)+1)=((j+1:Nat):Int):=by{rw [aq ω];rfl};dsimp only;rw [w,ß];have ⟨l,m,o,s,f,g⟩:=H_ (h.le k) d;have ⟨t,u⟩:=N.each _ (ò d);refine ⟨l,Ź,m,o,s,f,λV2 J=>(B8 ra t u ra sq).s ?_⟩;rintro r K M ⟨x,rfl⟩;exact ⟨x,rfl,(_,((j+1:Nat):Int)),ω,σ,j+1,rfl,d⟩
theorem J1 {A:zA (Rat×Rat)}(h:aZ 6 gS V p n A)(hn:A.length<=1000000)(hs:VZ 600000000 A):À 138 #[yD p n c] V λr W=>∃q m e,r=yD q m e/\aZ 6 ct W q m A:=by obtain rfl:=h.len;refine Jh V _ (pE (λj z V'=>GR 6 ct V' z.1 z.2.1 z.2.2.1 (A.take j)) (0,0,[],0) σ rfl GR.nil ?_);rintro j ⟨k,B,C,D⟩ E l i F a;dsimp only at i a;subst i;have o:=a.len;rw [ì] at o;refine ⟨λb=>?_,λb G s H t=>?_⟩;{have d:=b;have w:i64.wrap ((j:Int)+1)=((j+1:Nat):Int):=by{rw [aq ω];rfl};dsimp only;rw [ß,w];refine ldP gS.shape (h.le l) d λI J K L M N O P Q R S T U W g=>?_;have ⟨s1,s2⟩:=hs _ (ò d);refine λV2 u=>(WS (gS.le g u) s1 s2).s λr Z l3 (f:ct Z r A[j])=>ct.ex f λ_ _ f=>⟨ω,a.le,a.cap,rfl,PO,λsp v x y=>⟨(k+1,v,_,((j+1:Nat):Int)),ω,σ,j+1,rfl,d,?_⟩⟩;dsimp only;rw [ĳ,ô d];exact (a.up (V':=Z) au).snoc rfl f φ x y};subst b;rw [Ė] at a;obtain rfl:=a.len;exact ⟨_,_,_,rfl,aZ.bo t (a.row.le λ_ _ g=>ct.le g s) φ a.le⟩
def edg (l:List (Rat×Rat))(i:Nat):L3×Sp:=
 (nK (l.getD i (0,0)).1 (l.getD i (0,0)).2 (l.getD ((i+1)%l.length) (0,0)).1 (l.getD ((i+1)%l.length) (0,0)).2,Oh (l.getD i (0,0)).1 (l.getD i (0,0)).2 (l.getD ((i+1)%l.length) (0,0)).1 (l.getD ((i+1)%l.length) (0,0)).2)
def nr (l:List (Rat×Rat)):List (L3×Sp):=(List.range l.length).map (edg l)
structure Pg (l:List (Rat×Rat)):Prop where
 len:l.length<=6
 sm:VZ 10 l
 ne:∀i,i<l.length->¬((l.getD i (0,0)).1=(l.getD ((i+1)%l.length) (0,0)).1/\(l.getD i (0,0)).2=(l.getD ((i+1)%l.length) (0,0)).2)
theorem h_ {l:zA (Rat×Rat)}(h:i<l.length):l.getD i (0,0)=l[i]:=by rw [ě,ô h];rfl
theorem Pg.at_ {l:zA (Rat×Rat)}(h:Pg l)(hi:i<l.length):Sz 10 (l.getD i (0,0)).1/\Sz 10 (l.getD i (0,0)).2:=by rw [h_ hi];exact h.sm _ (ò hi)
theorem Pg.nxt {l:zA (Rat×Rat)}(hi:i<l.length):(i+1)%l.length<l.length:=ġ _ ω
theorem Pg.edge {l:zA (Rat×Rat)}(h:Pg l)(hi:i<l.length):YP (edg l i):=by have ⟨s1,s2⟩:=h.at_ hi;obtain ⟨s3,s4⟩:=h.at_ (Pg.nxt hi);have ok:=seg_ok (h.ne i hi);have sl:=IX s1 s2 s3 s4 (h.ne i hi);have a:=YG s1 s2 s3 s4 (h.ne i hi);exact ⟨ok.1,bd_szl ⟨Sz.s sl.1 ω,Sz.s sl.2.1 ω,Sz.s sl.2.2 ω⟩,⟨ok.2.1,ok.2.2⟩,⟨Sz.s a.1 ω,Sz.s a.2 ω⟩⟩
theorem Pg.Y7 {l:zA (Rat×Rat)}(h:Pg l):∀f∈nr l,YP f:=λf a=>by
 obtain ⟨i,b,rfl⟩:=ÿ.1 a;exact h.edge (Wj6.1 b)
theorem oq (l:zA (Rat×Rat)):(nr l).length=l.length:=by unfold nr;simp
theorem QU {l:zA (Rat×Rat)}{j:Nat}(u:j<l.length):(nr l).take (j+1)=(nr l).take j++[edg l j]:=by rw [ĳ,ô (by rw [oq];exact u)];unfold nr;simp
theorem ug {l:zA (Rat×Rat)}(h:aZ 6 ct V p n l)(hg:Pg l):À 136 #[yD p n c] V λr W=>∃q m e,r=yD q m e/\aZ 14 m_ W q m (nr l):=by obtain rfl:=h.len;have h6:=hg.len;refine Eh V _ (pE (λj z V'=>GR 14 m_ V' z.1 z.2.1 z.2.2.1 ((nr l).take j)) (0,0,[],0) σ rfl GR.nil ?_);rintro j ⟨B,z2,vs,z4⟩ V1 C t pH d;dsimp only at t d;subst t;have D:=d.len;rw [ì,oq] at D;refine ⟨λk=>?_,λk V4 F bk s=>?_⟩;{have i:=k;have w:i64.wrap ((j:Int)+1)=((j+1:Nat):Int):=by{rw [aq ω];rfl};have hm:(((j+1:Nat):Int)).tmod (l.length:Int)=(((j+1)%l.length:Nat):Int):=by{rw [Wj8]};have o:=Pg.nxt i;dsimp only;rw [w,hm];rw [ß,ß];have u:=h.le C;obtain ⟨v,G,H,I,J,K,L,M,O,P,Q,R,U,W,X,a,Y,Z,a1,a2,a3,a4,a5,gu⟩:=CO ct.shape u i;obtain ⟨-,B1,P1,N1,C1,P2,N2,C2,B2,P3,N3,C3,P4,N4,C4,b,s,A0,A1,A2,A3,A4,A5,gw⟩:=CO ct.shape u o;have S:=hg.at_ i;have T:=hg.at_ o;have N:=hg.ne j i;have E:edg l j=(nK l[j].1 l[j].2 l[(j+1)%l.length].1 l[(j+1)%l.length].2,Oh l[j].1 l[j].2 l[(j+1)%l.length].1 l[(j+1)%l.length].2):=by{unfold edg;rw [h_ i,h_ o]};rw [h_ i] at S;rw [h_ o] at T;rw [h_ i,h_ o] at N;refine ⟨v,Ź,G,H,I,J,K,L,M,O,P,Q,R,U,W,X,a,Y,Z,a1,a2,a3,a4,a5,ω,v,Ź,B1,P1,N1,C1,P2,N2,C2,B2,P3,N3,C3,P4,N4,C4,b,s,A0,A1,A2,A3,A4,A5,λV2 x=>(Ae (ct.le gu x) (ct.le gw x) S.1 S.2 T.1 T.2 ω).s ?_⟩;rintro r y l3 ⟨-,m2⟩;obtain ⟨f,rfl,A⟩:=m2 N;have g0:m_ y f (edg l j):=by{rw [E];exact A};obtain ⟨_,_,_,_,_,_,_,_,_,_,_,_,_,_,_,_,_,_,_,_,_,_,_,_,_,_,rfl⟩:=Lq A;refine ⟨_,_,_,_,_,_,_,_,_,_,_,_,_,_,_,_,_,_,_,_,_,_,_,_,_,_,_,_,_,rfl,ω,d.le,d.cap,rfl,PN,λsp c' h1 h2=>⟨(B+1,c',_,((j+1:Nat):Int)),ω,σ,j+1,rfl,i,?_⟩⟩;dsimp only;rw [QU i];exact (d.up (V':=y) au).snoc rfl g0 φ h1 h2};subst k;rw [show (nr l).take l.length=nr l by rw [<-oq l];exact Ė] at d;obtain rfl:=d.len;exact ⟨_,_,_,rfl,aZ.bo s (d.row.le λ_ _ g=>m_.le g F) φ d.le⟩
theorem zD {L:zA (zA (Rat×Rat))}(h:aZ 1 Qt V p n L)(hn:L.length<=1000)(Z:∀l∈L,Pg l):À 72 #[yD p n c] V λr W=>∃q m e,r=yD q m e/\aZ 1 (OZ gS) W q m L:=by obtain rfl:=h.len;refine Jo V _ (pE (λj z V'=>GR 1 (OZ gS) V' z.1 z.2.1 z.2.2.1 (L.take j)) (0,0,[],0) σ rfl GR.nil ?_);rintro j ⟨v,N,O,P⟩ Q y i R a;dsimp only at i a;subst i;have A:=a.len;rw [ì] at A;refine ⟨λb=>?_,λb S o T B=>?_⟩;{have d:=b;have w:i64.wrap ((j:Int)+1)=((j+1:Nat):Int):=by{rw [aq ω];rfl};dsimp only;rw [ß,w];obtain ⟨C,D,E,F,f,g⟩:=H_ (h.le y) d;have k:=Z _ (ò d);have U:=k.len;refine ⟨C,Ź,D,E,F,f,λV2 W=>(pf (k:=10) ra ω (λx G=>k.sm x G)).s ?_⟩;rintro r H X ⟨s,t,u,rfl,I⟩;refine ⟨s,t,u,rfl,ω,a.le,a.cap,rfl,one1,λsp J K M=>⟨(v+1,J,_,((j+1:Nat):Int)),ω,σ,j+1,rfl,d,?_⟩⟩;dsimp only;rw [ĳ,ô d];exact (a.s (V':=H) λ_ _ g=>OZ.s g (λ_ _ k=>gS.le k au) au).snoc rfl ⟨s,t,u,rfl,I⟩ φ K M};subst b;rw [Ė] at a;obtain rfl:=a.len;exact ⟨_,_,_,rfl,aZ.bo B (a.row.le λ_ _ g=>OZ.s g (λ_ _ k=>gS.le k o) o) φ a.le⟩
end
end Go.Proofs.Tryz
