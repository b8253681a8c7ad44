import Derived.Test.YtdfckdifmjeieaaGreatDoorC23
set_option linter.all false
open Go.IntKind (i64 u64 u32)
open Go.IntKind renaming i64→Ŵ
open Go.Value renaming slice→yG,agg→hF,bool→dB,pointer→qvJ,tuple→å,int→Ô
namespace Go.Proofs.Tryz
open Go.Eng Go.Big
section
variable{V:Ó}{n:Nat}{y z:Value}{L:L3}
def QM {α:Type}{sz:Nat}{R u:un->um->α->Prop}{V':un}{vs:zA um}{l:zA α}(h:è sz R V vs l)(m:∀v a,a∈l->R V v a->u V' v a):è sz u V' vs l:=
 ⟨λi b=>by have ⟨xs,c,d,e⟩:=h.at_ i b;exact ⟨xs,c,m _ _ (ú b) d,e⟩⟩
def OW {ws:zA um}{m:zA (L3×Sp)}(h:è 17 qP V ws m){i:Nat}(hi:i<m.length):∃(u E:Int)(p:OA)(F M:Int)(q:OA)(N O:Int)(r:OA)(u1 u2:Int)(t:OA)(Z w2:Int)(o:OA),((i*17+0)+9<=ws.length/\(ws.drop (i*17+0)).take 9=[Ô Ŵ u,Ô Ŵ E,qvJ p,Ô Ŵ F,Ô Ŵ M,qvJ q,Ô Ŵ N,Ô Ŵ O,qvJ r])/\((i*17+9)+8<=ws.length/\(ws.drop (i*17+9)).take 8=[Ô Ŵ u1,Ô Ŵ u2,qvJ t,Ô Ŵ Z,Ô Ŵ w2,qvJ o,dB m[i].2.a,dB m[i].2.b])/\vQ V (hF #[Ô Ŵ u,Ô Ŵ E,qvJ p,Ô Ŵ F,Ô Ŵ M,qvJ q,Ô Ŵ N,Ô Ŵ O,qvJ r]) m[i].1/\kn V (hF #[Ô Ŵ u1,Ô Ŵ u2,qvJ t,Ô Ŵ Z,Ô Ŵ w2,qvJ o,dB m[i].2.a,dB m[i].2.b]) m[i].2:=by obtain ⟨xs,-,c,k,f⟩:=h.get (d:=gG) hi φ;have e:m.getD i gG=m[i]:=by{rw [Ę,ñ hi];rfl};rw [e] at c;obtain ⟨_,_,_,_,_,_,_,_,_,_,_,_,_,_,_,ex,g,j⟩:=c;have ex:=Æ Array.toList (Value.agg.inj ex);subst ex;refine wqK ⟨⟨ω,?_⟩,⟨ω,?_⟩,g,j⟩;{have:=Æ (List.take 9) f;rw [Wq1] at this;exact this};{have:=Æ (List.drop 9) f;rw [List.drop_take,Qp1] at this;exact this}
def Zz {V:un}{xs:zA um}{x:Sp}(h:kn V (.agg xs.toArray) x):∀v∈xs,v.oneCell'=true:=by obtain ⟨_,_,_,_,_,_,ex,-,-⟩:=h;have ex:=Æ Array.toList (Value.agg.inj ex);subst ex;intro v a;simp only [ç,ě,Ì] at a;rcases a with rfl|rfl|rfl|rfl|rfl|rfl|rfl|rfl<;>rfl
def lt_le {a b c:L3}(h:rL a b)(u:¬j9 c b<0):rL a c:=by by_cases e:b=c;{rw [<-e];exact h};exact Vm h (Qq u λk=>e k.symm)
set_option maxHeartbeats 2000000 in
theorem Gq {p:OA}{c:Nat}{fs:zA (L3×Sp)}(h:bP 17 qP V p n fs)(h0:fs=[]->p=none)(kM:fs.length<10000)(each:∀m,(aK m fs).length<70)(hb:∀f∈fs,jg 10000 f.1)(hg:∀f∈fs,f.2.good)(hs:∀f∈fs,f.2.sz 1000000)(so:∀i,qQ i):À 79 #[yG p n c] V λr W=>∃q m e,r=yG q m e/\bP 17 qP W q m (fG fs):=by
 refine D2 V _ λV1 l1=>(T8 ra ω h0).s ?_;rintro r V2-⟨bm,vs,a1,a2,e,rfl,hle,X,Y,row,lW⟩;refine ⟨bm,vs,a1,λh=>.inl (a2 h),none,fs.length,e,rfl,?_⟩;have F:è 17 qP (V2.shut.aY (vs≠[]) bm) vs fs:=row.le λ_ _ g=>BG.le g λb o h=>h;clear a1 a2 row lW;refine ⟨λws V'=>∃m:zA (L3×Sp),m.Perm fs/\(m.Pairwise λx y=>¬j9 y.1 x.1<0)/\è 17 qP V' ws m,⟨λD=>?_,λD V5 l5 U e1 e2=>?_⟩,?_⟩
 ·have Z:=Qv0 λh=>Y.2 h D;subst Z;obtain rfl:=X.1 D;refine ⟨rfl,λV3 l3=>vU.s λr V4 l4 rfl=>⟨rfl,vs,σ,[],.refl _,List.Pairwise.nil,è.nil⟩⟩
 ·have a0:e≠0:=λh=>D (X.2 h);have UY:∀b,mA b e=some ⟨b,0,none⟩:=λb=>by{unfold mA;rw [Ã a0]};rw [UY];refine (EN (V:=V5.au [vb vs V5.w.heap.size U]) (lb:=U) (vs:=vs) (l:=fs) (e1 D) ⟨by simp [mB D],e2 D⟩ ⟨QM F λv a ha g=>⟨BG.le g λb o h=>l5 b o h,hb a ha⟩,rfl,kM⟩).s ?_;rintro r V6 l6 ⟨rfl,ws,m,e3,sr,pm,pw⟩;have Ot:=pm.length_eq;have hw:ws≠[]:=λe=>by{have:=sr.row.eH φ;rw [e,Ot] at this;exact Y.1 D (ĕ.1 (by rw [Ŀ] at this;omega))};exact ⟨rfl,D,ws,hw,e3,ws,σ,m,pm,pw,QM sr.row λv a _ g=>BG.le g.1 λb o h=>h⟩
 rintro ws V7 l7 ⟨m,pm,pw,R⟩;rw [Oh pm.symm]
 replace hb:∀f∈m,jg 10000 f.1:=λf P=>hb f (pm.mem_iff.1 P)
 replace hg:∀f∈m,f.2.good:=λf P=>hg f (pm.mem_iff.1 P)
 replace hs:∀f∈m,f.2.sz 1000000:=λf P=>hs f (pm.mem_iff.1 P)
 replace each:∀u,(aK u m).length<70:=λu=>by have:=((pm.filter λx=>decide (x.1=u)).map Prod.snd).length_eq;have:=each u;unfold aK at *;omega
 rw [<-pm.length_eq] at kM hle ⊢;clear h0 h pm F X Y;have S:∀i j (A:i<m.length) (I:j<m.length),i<j->¬j9 m[j].1 m[i].1<0:=λi j A I=>Qb2.1 pw i j A I;refine ⟨rfl,λz V'=>∃j:Nat,z.2.2.2=(j:Int)/\j<=m.length/\GR 17 qP V' z.1 z.2.1 z.2.2.1 (fG (m.take j))/\(fG (m.take j)).length<=300*j/\∀x∈m.take j,∀y∈m.drop j,rL x.1 y.1,λz=>m.length-z.2.2.2.toNat,⟨(0,0,[],0),σ,0,rfl,ä _,GR.nil,ä _,λx d=>by simp at d⟩,?_⟩;rintro ⟨n1,c1,os,i1⟩ V8 l8 ⟨j,ej,yH,Q,ol,sep⟩;subst ej;refine ⟨rfl,λB=>?_,λB ko gV U K=>?_⟩;rotate_left
 ·have B:¬(j:Int)<(m.length:Nat):=Â B;obtain rfl:j=m.length:=ω;rw [Ī] at Q;have:=bP.bR K (Q.row.le λ_ _ g=>BG.le g gV) φ (by rw [<-Q.len];exact Q.le);rw [<-Q.len] at this;exact ⟨_,_,_,rfl,this⟩
 have B:(j:Int)<(m.length:Nat):=Á B;have I:j<m.length:=ω
 refine ⟨λz V'=>∃k:Nat,z.2.2.2=(k:Int)/\j<=k/\k<=m.length/\GR 8 kn V' z.1 z.2.1 z.2.2.1 (((m.take k).drop j).map Prod.snd)/\∀x∈(m.take k).drop j,x.1=m[j].1,λz=>m.length-z.2.2.2.toNat,⟨(0,0,[],(j:Int)),σ,j,rfl,Ù _,ω,?_,?_⟩,?_⟩
 ·rw [List.drop_eq_nil_of_le (by rw [ë];omega)];exact GR.nil
 ·rw [List.drop_eq_nil_of_le (by rw [ë];omega)];intro x d;cases d
 rintro ⟨n2,c2,us,i2⟩ V9 l9 ⟨k,ek,jk,a3,E,same⟩;dsimp only at ek E;subst ek;have L:=R.le λ_ _ g=>BG.le g (l8.m l9);obtain ⟨b1,b2,b3,b4,b5,b6,b7,b8,b9,-,-,-,-,-,-,jl,-,jr,-⟩:=OW L I;refine ⟨rfl,λb V'=>V9.Le V'/\b=decide (∃h:k<m.length,m[k].1=m[j].1),⟨λt=>?_,λt=>?_⟩,?_⟩
 ·have t:(k:Int)<(m.length:Nat):=Á t;have t:k<m.length:=ω;dsimp only;rw [Ý,Ý];obtain ⟨d1,d2,d3,d4,d5,d6,d7,d8,d9,-,-,-,-,-,-,kl,-,kr,-⟩:=OW L t;refine ⟨ų,hle,d1,d2,d3,d4,d5,d6,d7,d8,d9,kl,ų,hle,b1,b2,b3,b4,b5,b6,b7,b8,b9,jl,λfD a4=>(tq ra ra (hb _ (ú t)) (hb _ (ú I))).s λr eX dq rfl=>⟨_,rfl,_,σ,a4.m dq,É.2 ⟨λh=>⟨t,h⟩,λ⟨_,h⟩=>h⟩⟩⟩
 ·have t:¬(k:Int)<(m.length:Nat):=Â t;exact ⟨false,σ,Ó.Le.refl _,(È λ⟨h,_⟩=>ω).symm⟩
 rintro b gQ eJ ⟨G,rfl⟩;refine ⟨rfl,λt=>?_,λt ji fk U K=>?_⟩
 ·have ⟨t,a5⟩:=Á t;have w:Ŵ.wrap ((k:Int)+1)=((k+1:Nat):Int):=ŵ;dsimp only;rw [Ý,w];obtain ⟨-,-,-,-,-,-,-,-,-,d1,d2,d3,d4,d5,d6,-,kl,-,kr⟩:=OW (L.le λ_ _ g=>BG.le g G) t;have tk:(m.take (k+1)).drop j=(m.take k).drop j++[m[k]]:=by{rw [<-ť t,List.drop_append_of_le_length (by rw [ë];omega)]};have sl:=E.len;rw [Ě,Ĵ,ë] at sl;refine ⟨ų,hle,d1,d2,d3,d4,d5,d6,_,_,kl,ω,E.le,E.cap,rfl,Zz (V:=gQ) (x:=m[k].2) kr,λsp c' k1 k2=>⟨(n2+1,c',_,((k+1:Nat):Int)),ω,σ,k+1,rfl,ω,t,?_,?_⟩⟩;{rw [tk,ś];exact (E.up G).snoc rfl kr φ k1 k2};rw [tk];intro x d;rcases ü.1 d with d|d;{exact same x d};rw [õ.1 d];exact a5
 have t:=Â t;have a6:=Nat.lt_of_le_of_ne jk λe=>by subst e;exact t ⟨I,rfl⟩
 have sub:∀x∈(m.take k).drop j,x∈m:=λx d=>Qn7 (Qg9 d);have hA:=bP.bR K (E.row.le λ_ _ g=>kn.le g aA) φ (by rw [<-E.len];exact E.le);rw [<-E.len] at hA
 have Al:(((m.take k).drop j).map Prod.snd).length<70:=by refine ş ?_ (each m[j].1);unfold aK;rw [<-Qs2.2 λx d=>Ç (same x d)];exact ((((List.drop_sublist _ _).m (List.take_sublist _ _)).filter _).map _).length_le
 have P:=UH (((m.take k).drop j).map Prod.snd);refine (B6 hA (λs M=>by obtain ⟨x,d,rfl⟩:=þ.1 M;exact hg x (sub x d)) (λs M=>by obtain ⟨x,d,rfl⟩:=þ.1 M;exact hs x (sub x d)) ω ω (so _)).s ?_;rintro r lH iL ⟨q,n3,c3,rfl,hC⟩;refine ⟨_,_,_,rfl,λJ=>?_⟩
 have sn:fG (m.take k)=fG (m.take j)++(Û 1 (((m.take k).drop j).map Prod.snd) []).map λs=>(m[j].1,s):=by
  have e:m.take k=m.take j++(m.take k).drop j:=by
   conv=>lhs;rw [<-Qj8 j (m.take k),Wq1,Ħ ω]
  conv=>lhs;rw [e]
  refine Oi (λx d=>sep x d _ (Qb5.2 ⟨0,by rw [Ĵ];omega,by rw [Qr1];rfl⟩)) same λh=>?_;have:=Æ List.length h;rw [Ĵ,ë] at this;simp at this;omega
 have cl:=Cj 1 (((m.take k).drop j).map Prod.snd) [];have f0:fe []=0:=rfl;generalize Û 1 (((m.take k).drop j).map Prod.snd) []=C at hC sn cl;obtain rfl:=hC.len;refine ⟨λz V'=>∃i:Nat,z.2.2.2=(i:Int)/\i<=C.length/\GR 17 qP V' z.1 z.2.1 z.2.2.1 (fG (m.take j)++(C.take i).map λs=>(m[j].1,s)),λz=>C.length-z.2.2.2.toNat,⟨(n1,c1,os,0),σ,0,rfl,ä _,?_⟩,?_⟩
 ·rw [Qf6,List.map_nil,ć];exact Q.s λ_ _ g=>BG.le g aA
 rintro ⟨n4,c4,ts,i4⟩ mJ iE ⟨i,ei,Xu,N⟩;dsimp only at ei N;subst ei;refine ⟨rfl,λA=>?_,λA=>?_⟩
 ·have A:(i:Int)<(C.length:Nat):=Á A;have A:i<C.length:=ω;have w:Ŵ.wrap ((i:Int)+1)=((i+1:Nat):Int):=ŵ;dsimp only;rw [Ý,Ý,w];obtain ⟨ad,h0,xs,-,y2,H⟩:=(hC.le iE).at_ i A;obtain ⟨_,_,_,_,_,_,ex,g1,g2⟩:=y2;have ex:=Æ Array.toList (Value.agg.inj ex);dsimp only at ex;subst ex;have he:BG mJ (hF #[Ô Ŵ b1,Ô Ŵ b2,qvJ b3,Ô Ŵ b4,Ô Ŵ b5,qvJ b6,Ô Ŵ b7,Ô Ŵ b8,qvJ b9,Ô Ŵ _,Ô Ŵ _,qvJ _,Ô Ŵ _,Ô Ŵ _,qvJ _,dB C[i].a,dB C[i].b]) m[j].1 C[i]:=wqK ⟨rfl,ra,_,_,_,_,_,_,rfl,g1,g2⟩;have tl:=N.len;rw [í,Ě,ë] at tl;refine ⟨bf h0,ų,_,_,_,_,_,_,_,_,ad,h0,H 0 _ rfl,H 1 _ rfl,H 2 _ rfl,H 3 _ rfl,H 4 _ rfl,H 5 _ rfl,H 6 _ rfl,H 7 _ rfl,ų,hle,b1,b2,b3,b4,b5,b6,b7,b8,b9,jl,ω,N.le,N.cap,rfl,LW (V:=mJ) (x:=(_,_)) he,λsp c' k1 k2=>⟨(n4+1,c',_,((i+1:Nat):Int)),ω,σ,i+1,rfl,A,?_⟩⟩;rw [<-ť A,ś,<-Ĝ];exact N.snoc (a:=(m[j].1,C[i])) rfl he φ k1 k2
 ·have A:¬(i:Int)<(C.length:Nat):=Â A;obtain rfl:i=C.length:=ω
  rw [Ī] at N;refine ⟨(n4,c4,ts,(k:Int)),ω,σ,k,rfl,a3,by rw [sn];exact N,by rw [sn,í,Ě];omega,λx d y hy=>?_⟩;obtain ⟨W,a7,rfl⟩:=Qb5.1 hy;rw [Ĵ] at a7;rw [Qr1];have O:k<m.length:=ω
  have T:=Qq (S j k I O a6) λe=>t ⟨O,e⟩
  have a8:rL m[j].1 m[k+W].1:=by by_cases e:W=0;{subst e;exact T};exact lt_le T (S k (k+W) O ω ω)
  have e:m.take k=m.take j++(m.take k).drop j:=by
   conv=>lhs;rw [<-Qj8 j (m.take k),Wq1,Ħ ω]
  rw [e] at d;rcases ü.1 d with d|d
  ·exact sep x d _ (Qb5.2 ⟨k+W-j,by rw [Ĵ];omega,by rw [Qr1];congr 1;omega⟩)
  grind
def Zx {p:OA}{fs:zA (L3×Sp)}(h:bP 17 qP V p n fs):TB V p n fs:=⟨h.len,λi a=>by
 obtain ⟨b,c,xs,-,d,e⟩:=h.at_ i a;exact ⟨b,c,xs,d,e⟩⟩
def TR (l:zA Rat):(Nt l).length<=l.length:=by
 have:∀(l o:zA Rat),(l.foldl (λo x=>dJ x o) o).length<=o.length+l.length:=by
  intro l
  induction l with
  | nil=>exact λo=>Ù _
  | cons y r u=>intro o;have a:=u (dJ y o);have b:=@oE y o;rw [Ť,Ċ];omega
 have:=this l [];simpa [Nt] using this
def Af {v:um}{root:Int}{l:zA Nd}(M:∀x∈l,Bd x.ln)(h:AT V v root l)(N:tL V 0 y)(O:tL V 1 z):À 29 #[v] V λr W=>(tQ l root=none->r=å #[qvJ none,y])/\∀t,tQ l root=some t->t.depth<=1024->∃q,r=å #[qvJ q,.nilIface]/\RT W q t:=by
 obtain ⟨q,n,c,rfl,-⟩:=id h;refine yV V _ λo p=>(Gs M ra).s ?_;rintro r V2 s ⟨a,rfl,i⟩;refine ⟨_,_,rfl,λg=>⟨y,⟨_,rfl,N.le aA⟩,λu w=>?_⟩,λg A j=>?_⟩
 ·have g:tQ l root=none:=by cases e:tQ l root with
   | none=>rfl
   | some t=>rw [e] at g;cases g
  exact ⟨λ_=>rfl,λt b=>by rw [g] at b;cases b⟩
 ·(cases e:tQ l root with|none=>{rw [e] at g;cases g}|some t=>{have B:=VH e;refine (qT t ((i t e).le j) ω).s ?_;rintro r C D rfl;refine ⟨_,rfl,λd=>⟨z,⟨_,rfl,O.le aA⟩,λE F=>⟨Ŭ,λm b f=>?_⟩⟩,λd G H=>⟨Ŭ,λm b f=>?_⟩⟩;{cases b;have d:=Á d;omega};cases b;exact ⟨_,rfl,(i t e).le aA⟩})
def crp_of {S:zA L3}{t:Tr}(u:Bd L)(E:t.dG λl=>Bd l/\l∈S)(M:S.length<=30)(F:∀l∈S,Bd l):PE L (Nt (S.map λm=>Ö m L)) t:=by have ⟨b,a⟩:=Rq (S.map λm=>Ö m L);refine ⟨(NU (E.imp λ_ h=>h.2)).imp λm h c=>(a _).2 (h c),b,?_,λx d=>?_⟩;{have:=TR (S.map λm=>Ö m L);rw [Ě] at this;omega};obtain ⟨m,hm,rfl⟩:=þ.1 ((a x).1 d);exact (qj u.iP (F m hm).iP).s ω
def uN {t:Tr}{P:zA Rat}(u:PE L P t):vr (uc L t)/\(∀s∈uc L t,s.sz 1000000)/\(uc L t).length<=61:=by have r:vr (uc L t):=comb_reg _ _ _;refine ⟨r,Cl u.sz λs a=>⟨r.1 s a,on_end u.crs s a⟩,?_⟩;have:=Cj 3 (oF L true t) (oF L false t);obtain ⟨-,-,f1,-⟩:=wL u true;obtain ⟨-,-,f2,-⟩:=wL u false;show (Û 3 (oF L true t) (oF L false t)).length<=61;omega
def BF (fs F:List (L3×Sp)):Prop:=∀{V:Ó} {p:OA} {n c:Nat},bP 17 qP V p n fs->(fs=[]->p=none)->À 79 #[.slice p n c] V λr W=>∃q m e,r=.slice q m e/\bP 17 qP W q m F
def XC (V:Ó)(n c:Nat)(vs:List Value)(l:List (L3×Sp)):Prop:=GR 17 qP V n c vs l/\(l=[]->c=0)
def XC.le {V V':un}{c:Nat}{vs:zA um}{l:zA (L3×Sp)}(h:XC V n c vs l)(g:V.Le V'):XC V' n c vs l:=⟨h.1.s λ_ _ k=>BG.le k g,h.2⟩
set_option maxHeartbeats 4000000 in
def BX {q:OA}{t:Tr}(h:RT V q t)(ha:t.dG Bd)(hs:t.size<4000)(hD:(bq t.cQ).length<=50)(hc:∀l∈bq t.cQ,∃P P',PE l P t/\PE (Õ l) P' t)(so:∀i,i<=60->qQ i)(sl:HI t.cQ.length)(cl:J4 t.cQ.length){F:zA (L3×Sp)}(hJ:BF (vd t (bq t.cQ)) F):À 31 #[qvJ q] V λr W=>∃p n c,r=yG p n c/\bP 17 qP W p n F:=by
 refine xK V _ λV1 l1=>(Kp (h.le l1) ha hs sl cl).s ?_;rintro r V2 l2 ⟨p,n,c,m,rfl,gD,sD⟩;rw [Vi sD] at gD;have c0:=hD;generalize bq t.cQ=D at *;obtain rfl:=gD.len
 have kM:∀l∈D,(uu t l).length<=61/\(uu t (Õ l)).length<=61:=λl R=>by have ⟨P,P',c1,c2⟩:=hc l R;unfold uu;rw [Ě,Ě];exact ⟨(uN c1).2.2,(uN c2).2.2⟩
 have M:∀j,(vd t (D.take j)).length<=122*50:=λj=>by
  have:∀E:zA L3,(∀l∈E,l∈D)->(vd t E).length<=122*E.length:=λE hE=>by
   induction E with
   | nil=>exact Ù _
   | cons l E ih=>
    have h1:=ih λx hx=>hE x (ø _ hx);have ⟨f1,f2⟩:=kM l (hE l (ą ..));unfold vd at *;rw [Ġ,í,í,Ċ];omega
  have h1:=this (D.take j) λl R=>Ww2 _ _ R;rw [ë] at h1;omega
 refine ⟨p,_,c,rfl,Cz (λj z V'=>XC V' z.1 z.2.1 z.2.2.1 (vd t (D.take j))) (0,0,[],0) σ rfl ⟨GR.nil,λ_=>rfl⟩ ?_⟩;rintro j ⟨z1,z2,vs,z4⟩ V3 l3 N yH O;dsimp only at N O;subst N;dsimp only;rw [Ý];refine ⟨λQ=>?_,λQ fD b5 bk hb=>?_⟩;rotate_left
 ·subst Q;rw [Ī] at O;obtain ⟨O,h0⟩:=O;obtain rfl:=O.len;refine (hJ (bP.bR hb (O.row.le λ_ _ g=>BG.le g b5) φ O.le) λe=>by rw [h0 e];rfl).s ?_;rintro r eX dq ⟨q',m',e',rfl,g⟩;exact ⟨q',m',e',rfl,λ_ gQ eJ=>⟨q',m',e',rfl,g.le eJ λ_ _ g=>BG.le g eJ⟩⟩
 have hi:=Q;have w:Ŵ.wrap ((j:Int)+1)=((j+1:Nat):Int):=by rw [ay ω];rfl
 rw [w];have ⟨ps,S,T,U,W,X,Y,v,y,Z,a,b6,a0,a1,a2,a3,a4,a5,a6,a7,a8,gl⟩:=Y0 (gD.le l3) hi;have R:=ú hi
 have et:vd t (D.take (j+1))=vd t (D.take j)++(uu t D[j]++uu t (Õ D[j])):=by unfold vd;rw [ł,ñ hi];show List.flatMap _ (_++[D[j]])=_;rw [Qc3,Ġ,Wj1,ć]
 have ⟨P,P',c1,c2⟩:=hc _ R;have ⟨f1,f2⟩:=kM _ R;have fj:=M j;have b7:=M (j+1);rw [et] at b7;generalize D[j]=L at *;obtain ⟨gl,bl⟩:=gl;have gl:vQ V3 _ L:=gl;refine ⟨ps,ų,S,T,U,W,X,Y,v,y,Z,a,b6,a0,a1,a2,a3,a4,a5,a6,a7,a8,λV4 l4=>(lC (gl.le l4) bl.iP).s ?_⟩;rintro r V5 l5 gr;have N6:vQ V5 r (Õ L):=gr;obtain ⟨s1,s2,s3,s4,s5,s6,s7,s8,s9,rfl,-,-,-⟩:=gr;refine ⟨s1,s2,s3,s4,s5,s6,s7,s8,s9,rfl,Cz (λi z V'=>z.2.2.2.2=[Ô Ŵ S,Ô Ŵ T,qvJ U,Ô Ŵ W,Ô Ŵ X,qvJ Y,Ô Ŵ v,Ô Ŵ y,qvJ Z,Ô Ŵ s1,Ô Ŵ s2,qvJ s3,Ô Ŵ s4,Ô Ŵ s5,qvJ s6,Ô Ŵ s7,Ô Ŵ s8,qvJ s9]/\V5.Le V'/\XC V' z.1 z.2.1 z.2.2.1 (vd t (D.take j)++([L,Õ L].take i).flatMap (uu t))) (z1,z2,vs,0,_) σ rfl ⟨rfl,Ó.Le.refl _,by show XC V5 z1 z2 vs (_++[]);rw [ć];exact O.le aA⟩ ?_⟩;rintro i ⟨u1,u2,us,u4,lits⟩ V6 l6 N Xu ⟨e5,Va,K⟩;dsimp only at N e5 K;subst N e5;dsimp only;rw [Ý];refine ⟨λu=>?_,λu=>?_⟩;rotate_left
 ·subst u;have e:([L,Õ L].take 2).flatMap (uu t)=uu t L++uu t (Õ L):=by{show uu t L++(uu t (Õ L)++[])=_;rw [ć]};rw [e,<-et] at K;exact ⟨(u1,u2,us,((j+1:Nat):Int)),ω,σ,j+1,rfl,hi,K⟩
 have u:(i:Int)<_:=Int.ofNat_lt.2 u;have wi:Ŵ.wrap ((i:Int)+1)=((i+1:Nat):Int):=by rw [ay ω];rfl
 have b8:∃(A Xy:Int)(B:OA)(C G:Int)(H:OA)(Xg Xi:Int)(I:OA)(d:L3),((0+i*9)+9<=([Ô Ŵ S,Ô Ŵ T,qvJ U,Ô Ŵ W,Ô Ŵ X,qvJ Y,Ô Ŵ v,Ô Ŵ y,qvJ Z,Ô Ŵ s1,Ô Ŵ s2,qvJ s3,Ô Ŵ s4,Ô Ŵ s5,qvJ s6,Ô Ŵ s7,Ô Ŵ s8,qvJ s9]:zA um).length/\(([Ô Ŵ S,Ô Ŵ T,qvJ U,Ô Ŵ W,Ô Ŵ X,qvJ Y,Ô Ŵ v,Ô Ŵ y,qvJ Z,Ô Ŵ s1,Ô Ŵ s2,qvJ s3,Ô Ŵ s4,Ô Ŵ s5,qvJ s6,Ô Ŵ s7,Ô Ŵ s8,qvJ s9]:zA um).drop (0+i*9)).take 9=[Ô Ŵ A,Ô Ŵ Xy,qvJ B,Ô Ŵ C,Ô Ŵ G,qvJ H,Ô Ŵ Xg,Ô Ŵ Xi,qvJ I]) /\
   vQ V6 (hF #[Ô Ŵ A,Ô Ŵ Xy,qvJ B,Ô Ŵ C,Ô Ŵ G,qvJ H,Ô Ŵ Xg,Ô Ŵ Xi,qvJ I]) d/\Bd d/\(∃P,PE d P t)/\([L,Õ L].take (i+1)).flatMap (uu t)=([L,Õ L].take i).flatMap (uu t)++uu t d/\(([L,Õ L].take i).flatMap (uu t)).length<=61:=by
  rcases (show i=0\/i=1 by omega) with rfl|rfl
  ·exact ⟨S,T,U,W,X,Y,v,y,Z,L,⟨by show 0+0*9+9<=18;omega,rfl⟩,gl.le aA,bl,⟨P,c1⟩,by show uu t L++[]=[]++uu t L;rw [ć];rfl,ä _⟩
  ·exact ⟨s1,s2,s3,s4,s5,s6,s7,s8,s9,Õ L,⟨by show 0+1*9+9<=18;omega,rfl⟩,N6.le Va,bl.rev,⟨P',c2⟩,by show uu t L++(uu t (Õ L)++[])=(uu t L++[])++uu t (Õ L);rw [ć,ć],by show (uu t L++[]).length<=61;rw [ć];exact f1⟩
 obtain ⟨A,Xy,B,C,G,H,Xg,Xi,I,d,a9,gL,bL,⟨PL,cL⟩,eT,fT⟩:=b8;refine ⟨ų,A,Xy,B,C,G,H,Xg,Xi,I,a9,λV7 l7=>(Ug (h.le aA) ha (gL.le l7) bL cL so).s ?_⟩;rintro r V8 l8 ⟨p8,n8,c8,rfl,g8⟩;obtain rfl:=g8.len;have c3:=(uN cL).2.2;refine ⟨p8,_,c8,rfl,Cz (λk z V'=>z.2.2.2.2=[Ô Ŵ S,Ô Ŵ T,qvJ U,Ô Ŵ W,Ô Ŵ X,qvJ Y,Ô Ŵ v,Ô Ŵ y,qvJ Z,Ô Ŵ s1,Ô Ŵ s2,qvJ s3,Ô Ŵ s4,Ô Ŵ s5,qvJ s6,Ô Ŵ s7,Ô Ŵ s8,qvJ s9]/\V8.Le V'/\XC V' z.1 z.2.1 z.2.2.1 ((vd t (D.take j)++([L,Õ L].take i).flatMap (uu t))++((uc d t).take k).map λs=>(d,s))) (u1,u2,us,0,_) σ rfl ⟨rfl,Ó.Le.refl _,by show XC V8 u1 u2 us (_++[]);rw [ć];exact K.le aA⟩ ?_⟩;rintro k ⟨w1,w2,ws,w4,lits⟩ V9 l9 N c4 ⟨e5,b0,o⟩;dsimp only at N e5 o;subst N e5;dsimp only;rw [Ý];refine ⟨λJ=>?_,λJ=>?_⟩;rotate_left
 ·subst J;rw [Ī] at o;refine ⟨(w1,w2,ws,((i+1:Nat):Int),_),ω,by and_intros<;>first|rfl|exact wi,i+1,rfl,ω,rfl,Va.m aA,?_⟩;show XC V9 w1 w2 ws _;rw [eT,<-Ĝ];exact o
 have hk:=J;have wk:Ŵ.wrap ((k:Int)+1)=((k+1:Nat):Int):=by rw [ay ω];rfl
 obtain ⟨ad,hd,xs,-,hq,f⟩:=(g8.le b0).at_ k hk;have b9:=hq;obtain ⟨v1,v2,v3,v4,v5,v6,ex,-,-⟩:=hq;have ex:=Æ Array.toList (Value.agg.inj ex);dsimp only at ex;subst ex;have zl:=o.1.len;rw [í,í,Ě,ë] at zl
 have ek:(((uc d t).take (k+1)).map λs=>(d,s))=(((uc d t).take k).map λs=>(d,s))++[(d,(uc d t)[k])]:=by rw [ł,ñ hk,ś];rfl
 have rf:qP V9 (hF #[Ô Ŵ A,Ô Ŵ Xy,qvJ B,Ô Ŵ C,Ô Ŵ G,qvJ H,Ô Ŵ Xg,Ô Ŵ Xi,qvJ I,Ô Ŵ v1,Ô Ŵ v2,qvJ v3,Ô Ŵ v4,Ô Ŵ v5,qvJ v6,dB (uc d t)[k].a,dB (uc d t)[k].b]) (d,(uc d t)[k]):=wqK ⟨rfl,gL.le aA,b9⟩;refine ⟨bf hd,ų,v1,v2,v3,v4,v5,v6,_,_,ad,hd,f 0 _ rfl,f 1 _ rfl,f 2 _ rfl,f 3 _ rfl,f 4 _ rfl,f 5 _ rfl,f 6 _ rfl,f 7 _ rfl,ω,o.1.le,o.1.cap,rfl,one17,λsp c' h1 h2=>⟨(w1+1,c',_,((k+1:Nat):Int),_),ω,by and_intros<;>first|rfl|exact wk,k+1,rfl,hk,rfl,b0,?_,λe=>?_⟩⟩
 ·show GR 17 qP V9 _ _ _ _;rw [ek,<-Ĝ];exact o.1.snoc rfl rf φ h1 h2
 ·rw [ek,<-Ĝ] at e;simp at e
def jY {v:um}{root:Int}{l:zA Nd}(M:∀x∈l,Bd x.ln)(h:AT V v root l){t:Tr}(N:tQ l root=some t)(O:t.depth<=1024)(Z:t.dG Bd)(hs:t.size<4000)(hD:(bq t.cQ).length<=50)(hc:∀l∈bq t.cQ,∃P P',PE l P t/\PE (Õ l) P' t)(so:∀i,i<=60->qQ i)(sl:HI t.cQ.length)(cl:J4 t.cQ.length){F:zA (L3×Sp)}(hJ:BF (vd t (bq t.cQ)) F)(kM:F.length<=10000)(sz:∀f∈F,jg 1000000 f.1/\f.2.sz 1000000)(hy:tL V 0 y)(hz:tL V 1 z):À 7 #[v] V λr W=>∃p n c,r=å #[yG p n c,.nilIface]/\Rh W p n F:=by have k:=h;obtain ⟨q,n,c,rfl,-⟩:=h;refine qJ V _ λC a=>(Af M (k.le a) (hy.le a) (hz.le a)).s ?_;rintro r V2 D ⟨-,g⟩;obtain ⟨p,rfl,gt⟩:=g t N O;refine ⟨p,.nilIface,rfl,.inl rfl,π,λ_ E m=>(BX (gt.le m) Z hs hD hc so sl cl hJ).s ?_⟩;rintro r G H ⟨o,s,u,rfl,w⟩;refine ⟨o,s,u,rfl,λI b=>(NA (Zx (w.le b λ_ _ g=>BG.le g b)) kM sz).s ?_⟩;rintro r J K ⟨d,e,j,rfl,A⟩;exact ⟨d,e,j,rfl,λL B=>⟨d,e,j,rfl,A.le B⟩⟩
def HB:Tr:=.node LL (.leaf true) (.leaf false)
def Ju:HB.dG lG:=⟨⟨LL_ok,TA⟩,trivial,trivial⟩
def bd_HP:uc LL HB=[bW]/\uc (Õ LL) HB=[]:=by have b:=reg_eq (à ([]++[])) (comb_reg ..) ⟨λs h=>(by cases h),List.Pairwise.nil⟩ λt a=>by{rw [comb_inB 1 _ _ a];simp [ĥ,ì]};have c:bj LL true HB bW=[bW]:=by{unfold HB;rw [bj,Ä (.inl ⟨rfl,rfl⟩)];rfl};have d:bj LL false HB bW=[]:=by{unfold HB;rw [bj,Ã φ,Ä (.inl rfl)];rfl};have e:bj (Õ LL) true HB bW=[]:=by{unfold HB;rw [bj,Ã φ,Ä (.inr φ)];rfl};have f:bj (Õ LL) false HB bW=[bW]:=by{unfold HB;rw [bj,Ä (.inr ⟨φ,rfl⟩)];rfl};unfold uc;rw [c,d,e,f,b,GH];refine ⟨?_,?_⟩;{refine reg_eq (à ([bW]++[])) (comb_reg ..) ⟨λs h=>by rw [õ.1 h];exact lU,Qf5 _ _⟩ λt a=>?_;rw [comb_inB 3 _ _ a];simp [ĥ,ì]};refine reg_eq (à ([]++[bW])) (comb_reg ..) ⟨λs h=>(by cases h),List.Pairwise.nil⟩ λt a=>?_;rw [comb_inB 3 _ _ a];simp [ĥ,ì]
def Ur (h:Ü LL L=0):PE L [] HB:=⟨⟨λg=>Å h g,trivial,trivial⟩,List.Pairwise.nil,ψ,λx h=>by cases h⟩
def fr_HP:vd HB (bq HB.cQ)=[(LL,bW)]:=by have e:bq HB.cQ=[LL]:=κ;rw [e];unfold vd uu;rw [Ġ,bd_HP.1,bd_HP.2];rfl
set_option maxHeartbeats 1000000 in
def RX (hj:BF [(LL,bW)] [(LL,bW)])(cl:J4 1)(hy:tL V 0 y)(hz:tL V 1 z):À 19 #[] V λr W=>r=dB true:=by refine Ed V _ λV1 K=>(dO 0 0 ω ω ω).s λr V2 l2 E=>RP.ex E λ_ _ E _ _=>λV3 l3=>(dO 1 0 ω ω ω).s λr V4 l4 F=>RP.ex F λ_ _ F _ _=>λV5 l5=>(Ia ra ra).s ?_;rintro r L l6 ⟨l,rfl,s⟩;obtain ⟨b1,u1,v1,w1,b2,u2,v2,w2,b3,u3,v3,w3,rfl⟩:=Ka s;refine ⟨_,_,_,_,_,_,_,_,_,_,_,_,_,rfl,λV7 M=>(cS true).s ?_⟩;rintro r N O ⟨pa,rfl,Q⟩;refine ⟨_,rfl,λV9 G=>(cS false).s ?_⟩;rintro r R v ⟨pb,rfl,S⟩;have j:=M.m (O.m (G.m v));refine ⟨_,rfl,λt w T U e2=>(uV (V:=t.au [T]) (ln:=LL) (x:=.leaf true) (y:=.leaf false) U (RL.le (V:=L) (V':=t.au _) s λb o h=>(j.m w) b o h) (RW.le (V:=N) (V':=t.au _) (λb o h=>(G.m aA) b o h) Q) (RW.le (V:=R) (V':=t.au _) (λb o h=>w b o h) S) Ju φ).s ?_⟩;rintro r W X ⟨Y,a⟩;have k:=a;clear a;obtain ⟨q,n,c,rfl,-⟩:=id k;have m:t.Le W:=λb o h=>X b o h;refine qyK ⟨rfl,_,_,_,_,_,_,_,_,_,_,_,_,_,_,_,_,Y,λji A=>?_⟩;have u:=((K.m aA).m aA).m A;have Z:BF (vd HB (bq HB.cQ)) [(LL,bW)]:=by{rw [fr_HP];exact hj};have B:∀l∈bq HB.cQ,∃P P',PE l P HB/\PE (Õ l) P' HB:=λl s=>by{rw [õ.1 s];exact ⟨[],[],Ur κ,Ur κ⟩};refine (jY (rK (IQ Ju)) (k.le A) (Ox (Ju.imp λ_ h=>h.1) φ) φ (Ju.imp λ_ h=>h.2) φ φ B (λi hi=>Jj i) (WM _) cl Z φ (λf hf=>by rw [õ.1 hf];exact ⟨TA.iP.up ω,DP _,DP _⟩) (hy.le u) (hz.le u)).s ?_;rintro r lH iL ⟨p,n,c,rfl,H⟩;obtain rfl:=H.len;obtain ⟨e,g,xs,⟨c1,c2,c3,c4,c5,c6,c7,c8,c9,d1,d2,d3,d4,d5,d6,d7,d8,d9,d10,d11,d12,d13,d14,d15,d16,d17,ex,gl,-⟩,a⟩:=H.at_ 0 φ;have ex:=Æ Array.toList (Value.agg.inj ex);subst ex;have C:=bf g;have az:e.add 0=e:=by{simp [Addr.add]};have I:af (some e) 6=some (e.add 6):=rfl;refine ⟨p,1,c,.nilIface,rfl,.inl rfl,λ_=>⟨λ_=>⟨C,⟨φ,φ⟩,by rw [g];rfl,_,_,_,_,_,_,_,_,_,_,_,_,e,by rw [g];show some (e.add 0)=_;rw [az],a 0 _ rfl,a 1 _ rfl,a 2 _ rfl,a 3 _ rfl,a 4 _ rfl,a 5 _ rfl,λmJ J=>(zH (s.le ((j.m (w.m (m.m (A.m iL)))).m J)) φ φ φ).s ?_⟩,π⟩,π⟩;rintro r ko gV D;obtain ⟨_,rfl⟩:=Ÿ (Ka D);refine wqQ ⟨rfl,λnk kf=>(E1 ra ra φ φ φ).s ?_⟩;rintro r nq iF rfl;have d:=J.m (gV.m (kf.m iF));refine ⟨_,rfl,λ_=>⟨C,⟨φ,φ⟩,by rw [g];rfl,by rw [g];rfl,true,⟨e.add 12,by rw [g,I];show some ((e.add 6).add 6)=_;rw [kP],d.at (a 12 _ rfl)⟩,λ_=>⟨C,⟨φ,φ⟩,by rw [g];rfl,by rw [g];rfl,true,⟨e.add 13,by rw [g,I];show some ((e.add 6).add 7)=_;rw [kP],d.at (a 13 _ rfl)⟩,λqM lD=>rfl⟩,π⟩,λh=>by simp at h⟩
def U5 {fs:zA (L3×Sp)}(E:∀f∈fs,Bd f.1/\f.2.sz 1000000):∀f∈fG fs,jg 1000000 f.1/\f.2.sz 1000000:=λf a=>by
 have ⟨m,hm,a⟩:=č.1 a;obtain ⟨s,b,rfl⟩:=þ.1 a;obtain ⟨g,c,rfl⟩:=þ.1 (((cI _).2 _).1 hm);refine ⟨(E g c).1.iP.up ω,P6 φ (λu hu=>?_) (λu hu=>by cases hu) s b⟩;obtain ⟨x,d,rfl⟩:=þ.1 hu;exact (E x (ń.1 d).1).2
structure HG (S:List L3) (t:Tr):Prop where
 ok:t.dG lG
 on:t.dG λl=>Bd l/\l∈S
 kM:S.length<=25
 bd:∀l∈S,Bd l
 size:t.size<4000
 dep:t.depth<=1024
section
variable{S:List L3}{t:Tr}(h:HG S t)
include h
theorem HG.crp {m:L3}(u:Bd m):PE m (Nt (S.map λk=>Ö k m)) t:=crp_of u h.on (by have:=h.kM;omega) h.bd
theorem HG.okb:∀l∈bq t.cQ,lG l:=Co (q:=lG) (λl h=>by rcases rk l with e|e<;>rw [e];exact h;exact pY h) λl a=>jS h.ok l a
theorem HG.oks:∀l∈t.cQ,bY l=true:=λl a=>(jS h.ok l a).1
theorem HG.lines:(bq t.cQ).length<=25:=by have ⟨d1,d2⟩:=iD t.cQ;have:=List.Nodup.length_le_of_subset (l₂:=S.map bF) (d1.imp λ{a b} g (e:a=b)=>by subst e;exact wP g) λx c=>by{grind [jS,h.on]};grind [h.kM]
theorem HG.each (m:L3):(aK m (vd t (bq t.cQ))).length<=61:=by rw [QX h.oks];split;{rename_i o;by_cases c:bF m∈t.cQ.map bF;{have ⟨k,b,e⟩:=þ.1 c;have a:=(jS h.ok k b).2.can;rw [e] at a;have d:Bd m:=by{grind [rk,rev_rev,a.rev]};exact (uN (h.crp d)).2.2};grind [TX,h.oks]};exact ä _
theorem HG.CA:∀f∈vd t (bq t.cQ),ZY f.1 f.2/\Bd f.1/\f.2.sz 1000000:=λf a=>by
 have ⟨l,d,a⟩:=č.1 a;have k:=h.okb l d
 have one:∀m,lG m->f∈uu t m->ZY f.1 f.2/\Bd f.1/\f.2.sz 1000000:=λm b hm=>by
  obtain ⟨s,c,rfl⟩:=þ.1 hm;obtain ⟨r,z,-⟩:=uN (h.crp b.2);exact ⟨⟨b.1,r.1 s c⟩,b.2,z s c⟩
 rcases ü.1 a with g|g<;>grind [pY]
theorem HG.len:(vd t (bq t.cQ)).length<=3050:=by
 have:∀E:zA L3,(∀l∈E,lG l)->(vd t E).length<=122*E.length:=λE a=>by
  induction E with
  | nil=>exact Ù _
  | cons l E u=>
   have c:=u λx b=>a x (ø _ b);have k:=a l (ą ..);have f1:=(uN (h.crp k.2)).2.2;have f2:=(uN (h.crp k.2.rev)).2.2;unfold vd uu at *;grind
 grind [h.okb,h.lines]
theorem X1 {V:un}{v y z:um}(u:AT V v (rt 0 t) (wr 0 t))(E:tL V 0 y)(F:tL V 1 z):À 7 #[v] V λr W=>∃p n c,r=å #[yG p n c,.nilIface]/\Rh W p n (fG (vd t (bq t.cQ))):=by
 have e:=h.len;have k:=h.lines;have j:=G8 (vd t (bq t.cQ));have sz:=h.size
 exact jY (rK (IQ h.ok)) u (Ox (Qw h.ok)) h.dep (IQ h.ok) sz ω (λl b=>⟨_,_,h.crp (h.okb l b).2,h.crp (h.okb l b).2.rev⟩) (λi _=>Jj i) (WM _) (compL _)
  (λg d=>Gq g d ω (λm=>ş (h.each m) ω) (λf a=>(h.CA f a).2.1.iP.up ω) (λf a=>(h.CA f a).1.2) (λf a=>(h.CA f a).2.2) λi=>Jj i) ω (U5 λf a=>(h.CA f a).2) E F
end
end
section
variable{V:Ó}{v:Value}{c c2 i k n n2:Nat}{l:L3}{p p2:OA}{xs:List Value}
def YO:BF [(LL,bW)] [(LL,bW)]:=λg a=>by
 have e:fG [(LL,bW)]=[(LL,bW)]:=by
  show List.flatMap _ [LL]=_;rw [List.flatMap_singleton,show aK LL [(LL,bW)]=[bW] by unfold aK;simp,GH];rfl
 refine (Gq g a ψ (λm=>ş (by unfold aK;rw [Ě];exact List.length_filter_le ..) (show 1<70 by omega)) (by simp;exact TA.iP.up ω) (by simp;exact lU) (by simp;exact ⟨DP _,DP _⟩) λi=>Jj i).s λr b _ h=>?_
 rwa [e] at h
theorem Y6 (z:Int):kR (decide (z<0)) (ai z.natAbs)=true:=by unfold kR;grind [ag,bG.1]
def pk {q:Rat}(h:RA V v q)(s:Sz k q)(E:k<=2^38:=by omega):À 88 #[v] V λr W=>r=dB true:=by obtain ⟨p,n,c,a,b,d,rfl,-,f⟩:=id h;refine zf V _ λo i=>(HY (h.le i) s E).s λr V2 t g=>RQ.ex g λ_ g=>λu j=>(qY (g.le j) s).s ?_;rintro r w x k;obtain ⟨_,_,_,_,_,_,_,rfl⟩:=k.shape;refine qxQ ⟨rfl,λy l=>(EV (h.le aA) (k.le l) s).s ?_⟩;rintro r z A rfl;refine ⟨_,rfl,λ_ B C=>?_,λm=>by simp at m⟩;have:=f.len;have:ai q.den≠[]:=λe=>q.den_nz (bG.1 e);have:=Qm4.2 this;rw [Ç ω]
def EY {a b c:Int}(h:RL V v a b c)(ok:bY (a,b,c)=true)(sl:jg k (a,b,c))(hk:k<=1000000):À 34 #[v] V λr W=>∃w,r=å #[w,dB true]/\RL W w a b c:=by obtain ⟨p,n,E,q,m,e,s,i,j,rfl,g,o,t⟩:=h;have len:∀{z:Int},Sz k (z:Rat)->(ai z.natAbs).length<=1000000:=λh=>ÿ (ah h.1) hk;have d1:=len sl.1;have d2:=len sl.2.1;have d3:=len sl.2.2;dsimp only at d1 d2 d3;have int:∀{z:Int} {W:un} {p:OA} {n c:Nat},RD W p n c (ai z.natAbs)->(ai z.natAbs).length<=1000000->À 83 #[hF #[dB (decide (z<0)),yG p n c]] W λr W=>RI W r z:=λ{z W p n c} h l=>by{have:=GA (decide (z<0)) h;rwa [aM] at this};have SO:∀{z:Int} {W:un} {p:OA} {n c:Nat},RD W p n c (ai z.natAbs)->(ai z.natAbs).length<=1000000->À 82 #[hF #[dB (decide (z<0)),yG p n c]] W λr W=>r=dB true:=λ{z W p n c} h l=>by{have:=Ah (decide (z<0)) h;rwa [Y6] at this};have d:=ok;unfold bY at d;rw [Č,decide_eq_true_iff,decide_eq_true_iff] at d;obtain ⟨f,F⟩:=d;have u:¬Nat.gcd a.natAbs b.natAbs=0:=λe=>f (by rw [Qh8] at e;exact ų);have G:=λ(x:Nat)=>aL (Qt0 x (Qg6 u));have H:(ai (Nat.gcd a.natAbs b.natAbs)).length<=1000000:=by{by_cases A:a.natAbs=0;{rw [A,Qr2];omega};{have:=aL (Qt0 b.natAbs (Qg6 A));omega}};refine MW V _ λO I=>(SO (g.le I) d1).s ?_;rintro r V2 P rfl;refine ⟨_,rfl,π,λ_ Q R=>(SO (o.le aA) d2).s ?_⟩;rintro r S T rfl;refine ⟨_,rfl,π,λ_ U X=>(SO (t.le aA) d3).s ?_⟩;rintro r Y Z rfl;refine ⟨_,rfl,π,λ_ fD J=>(int (g.le aA) d1).s ?_⟩;rintro r eX dq ⟨pa,na,ca,rfl,B⟩;refine qyK ⟨rfl,λgQ eJ=>(int (o.le aA) d2).s ?_⟩;rintro r ji fk ⟨pb,nb,cb,rfl,C⟩;refine qyK ⟨rfl,λlH iL=>(int (t.le aA) d3).s ?_⟩;rintro r mJ iE ⟨pc,nc,cc,rfl,gc⟩;refine qyK ⟨rfl,λko gV=>(iU (x:=a.natAbs) (y:=b.natAbs) (B.le aA) (C.le aA) ω).s ?_⟩;rintro r nk kf ⟨pg,ng,cg,rfl,D⟩;have hg:=D.len;have:ai (Nat.gcd a.natAbs b.natAbs)≠[]:=λe=>u (bG.1 e);have:=Qm4.2 this;refine ⟨_,_,_,rfl,λ_ nq K=>(iU (x:=Nat.gcd a.natAbs b.natAbs) (y:=c.natAbs) (D.le K) (gc.le aA) ω).s ?_,λf=>by have:=Â f;omega⟩;rintro r qM lD ⟨ph,nh,ch,rfl,L⟩;refine ⟨_,_,_,rfl,λuJ kN=>oo.s ?_⟩;rintro r tM rI ⟨po,no,co,rfl,go⟩;have:=G c.natAbs;refine ⟨_,_,_,rfl,λvO M=>(jw (x:=Nat.gcd (Nat.gcd a.natAbs b.natAbs) c.natAbs) (y:=1) (L.le aA) (go.le M) ω φ).s ?_⟩;rintro r vP oY rfl;have N:(nE (Nat.gcd (Nat.gcd a.natAbs b.natAbs) c.natAbs) 1==0)=true:=by{rw [Ë];exact lA.2 F};exact ⟨_,rfl,λEL tO=>⟨_,by rw [N],_,_,_,_,_,_,_,_,_,rfl,B.le aA,C.le aA,gc.le aA⟩⟩
def RJ {s:Sp}(h:RSp V v s)(can:s.can)(emp:s.emp=false)(ss:s.sz k)(hk:k<=1000000):À 35 #[v] V λr W=>∃w,r=å #[w,dB true]/\t_ W w s:=by obtain ⟨b,p,n,c,E,F,G,d,q,m,e,H,I,J,rfl,f,a⟩:=h;obtain ⟨lo,hi,K,j⟩:=s;dsimp only at f a ⊢;obtain ⟨y,A⟩:=can;dsimp only at y A;obtain ⟨s1,s2⟩:=ss;dsimp only at s1 s2;have zero:∀{W:un} {v:um},Rj W v false [] []->À 87 #[v] W λr W=>r=dB true:=λ⟨p,n,c,q,m,e,L,M,N⟩=>by{subst L;obtain rfl:=M.len;obtain rfl:=N.len;exact F0 _ _ ⟨λ_=>⟨λ_ B i=>rfl,π⟩,π⟩};have num:∀{W:un} {v:um} {x:Rat} {no:ut},RE W v x no->(no=true->x=0)->Sz k x->À 89 #[v] W λr W=>RQ W r x:=λ{W v x no} h z O=>by{(cases no with|false=>exact HY (h.2 rfl) O|true=>{rw [z rfl];exact GD (h.1 rfl) (ä _) (ä _)})};refine FX V _ ⟨λz _=>z=false,⟨?_,?_⟩,?_⟩;{rintro rfl B i;refine (zero ((f.1 rfl).le i)).s ?_;rintro r V2 P rfl;refine ⟨_,rfl,π,λ_=>⟨π,λ_=>?_⟩⟩;(cases j with|true=>{refine ⟨λ_ l o=>(zero ((a.1 rfl).le aA)).s ?_,π⟩;rintro r t u rfl;exact ⟨_,rfl,π,λ_=>⟨π,λ_=>⟨false,σ,rfl⟩⟩⟩}|false=>{refine ⟨π,λ_=>⟨λ_ l o=>(pk ((a.2 rfl).le aA) s2).s ?_,π⟩⟩;rintro r t u rfl;exact ⟨_,rfl,_,σ,rfl⟩})};{rintro rfl;refine ⟨λ_ B i=>(pk ((f.2 rfl).le i) s1).s ?_,π⟩;rintro r V2 P rfl;refine ⟨_,rfl,π,λ_=>?_⟩;(cases j with|true=>{refine ⟨λ_ l o=>(zero ((a.1 rfl).le aA)).s ?_,π⟩;rintro r t u rfl;exact ⟨_,rfl,π,λ_=>⟨π,λ_=>⟨false,σ,rfl⟩⟩⟩}|false=>{refine ⟨π,λ_=>⟨λ_ l o=>(pk ((a.2 rfl).le aA) s2).s ?_,π⟩⟩;rintro r t u rfl;exact ⟨_,rfl,_,σ,rfl⟩})};rintro z Q G_ rfl;refine ⟨rfl,π,λ_ TE Bp=>(num (f.le aA) y s1).s ?_⟩;rintro r R Lb g;obtain ⟨_,rfl⟩:=Ŷ g.shape;refine qxQ ⟨rfl,λS tP=>(num (a.le aA) A s2).s ?_⟩;rintro r T Ni k;obtain ⟨_,rfl⟩:=Ŷ k.shape;refine qxQ ⟨rfl,λC U X=>⟨_,rfl,_,_,_,_,_,_,_,_,_,_,_,_,_,_,rfl,g.le aA,k.le X⟩,λC=>⟨λD Y Z=>⟨_,rfl,_,_,_,_,_,_,_,_,_,_,_,_,_,_,rfl,g.le aA,k.le Z⟩,λD a0 U_=>(e_ (g.le aA) (k.le U_) s1 s2).s ?_⟩⟩;rintro r a1 Xv rfl;subst C D;have:=(Sp.im.1 emp);exact ⟨_,rfl,λa2 YU=>⟨_,by rw [Bf.1 (by simpa using this)];rfl,_,_,_,_,_,_,_,_,_,_,_,_,_,_,rfl,g.le aA,k.le aA⟩⟩
def EM {s:Sp}(h:Xk V v l s)(E:ZY l s){k:Nat}(sl:jg k l)(ss:s.sz k)(u:k<=1000000:=by omega):À 9 #[v] V λr W=>∃w,r=å #[w,dB true]/\RF W w l s:=by obtain ⟨_,_,_,_,_,_,_,_,_,_,_,_,_,_,_,_,_,_,_,_,_,_,_,_,_,_,rfl,b,c⟩:=h;obtain ⟨ok,can,emp⟩:=E;refine Et V _ λi d=>(EY (b.le d) ok sl u).s ?_;rintro r V2 j ⟨w,rfl,g⟩;obtain ⟨_,rfl,-⟩:=ŷ g;refine ⟨_,_,_,_,_,_,_,_,_,_,_,_,_,rfl,λm n=>(RJ (c.le aA) can emp ss u).s ?_⟩;rintro r o p ⟨w,rfl,k⟩;obtain ⟨_,rfl,e,f⟩:=Ź k;exact ⟨_,_,_,_,_,_,_,_,_,_,_,_,_,_,_,_,_,rfl,λ_ q a=>⟨_,rfl,_,_,_,_,_,_,_,_,_,_,_,_,_,_,_,_,_,_,_,_,_,_,_,_,_,_,rfl,g.le aA,_,_,_,_,_,_,_,_,_,_,_,_,_,_,rfl,e.le a,f.le a⟩,π⟩
structure ZZ (f:L3×Sp):Prop where
 ok:bY f.1=true
 bd:Bd f.1
 gd:f.2.good
 sz:f.2.sz 100000
def Gj (l:L3)(h:Nz l):ku l l=0:=by unfold ku;exact (uM h 0).1
theorem O0 (h:Nz l)(s:Sp):qC l s l=[]/\qC l s (Õ l)=[]:=by have a:Ü l l=0:=by{unfold Ü;grind};have b:Ü (Õ l) l=0:=by{unfold Ü Õ;simp only [Qd6];grind};have c:ku (Õ l) l=0:=by{have:=Gj l h;unfold ku at *;rw [val_rev,this];rfl};refine ⟨?_,?_⟩<;>unfold qC cU;{rw [a,Gj l h];rfl};rw [b,c];rfl
theorem yT (l:L3)(s:Sp)(m:L3):(qC l s m).length<=1:=by unfold qC;split<;>simp
theorem WI {m:L3}{s:Sp}(h:ZZ (l,s))(E:Bd m):∀u∈qC l s m,ZZ u:=λu hu=>by
 unfold qC at hu;split at hu
 ·rename_i g;rw [õ.1 hu];exact ⟨h.ok,h.bd,lR h.gd g,Bz h.bd.iP E.iP h.sz ω⟩
 ·cases hu
def mf (m:L3)(fs:List (L3×Sp)):List (L3×Sp):=fs.flatMap λf=>qC f.1 f.2 m
theorem Ly {m:L3}{fs:zA (L3×Sp)}(h:∀f∈fs,ZZ f)(E:Bd m):∀u∈mf m fs,ZZ u:=λu hu=>by
 have ⟨f,a,b⟩:=č.1 hu;grind [WI]
theorem tz (m:L3):∀fs:zA (L3×Sp),(mf m fs).length<=fs.length
 | []=>Ù _
 | f::fs=>by
  have:=tz m fs;grind [yT,mf]
def OE {f:L3×Sp}{fs:zA (L3×Sp)}(h:Nz f.1):(mf f.1 (f::fs)).length<=fs.length/\(mf (Õ f.1) (f::fs)).length<=fs.length:=by have ⟨a,b⟩:=O0 h f.2;refine ⟨?_,?_⟩<;>unfold mf<;>rw [Ġ];{rw [a];exact tz _ fs};rw [b];exact tz _ fs
def IF {al:zA (L3×Sp)}(h:bP 14 Ba V p n al)(hi:i<al.length):p.isSome=true/\∃(b1:ut)(u:OA)(E c1:Nat)(b2:ut)(p2:OA)(n2 c2:Nat)(b3:ut)(F:OA)(M N:Nat)(b:ut)(O:OA)(Z e1:Nat)(q2:OA)(m2 e2:Nat)(d:ut)(q3:OA)(m3 e3:Nat)(q4:OA)(m4 e4:Nat)(a:Addr),af p (i*14)=some a/\V.at (a.add 0) (dB b1)/\V.at (a.add 1) (yG u E c1)/\V.at (a.add 2) (dB b2)/\V.at (a.add 3) (yG p2 n2 c2)/\V.at (a.add 4) (dB b3)/\V.at (a.add 5) (yG F M N)/\V.at (a.add 6) (dB b)/\V.at (a.add 7) (yG O Z e1)/\V.at (a.add 8) (yG q2 m2 e2)/\V.at (a.add 9) (dB d)/\V.at (a.add 10) (yG q3 m3 e3)/\V.at (a.add 11) (yG q4 m4 e4)/\V.at (a.add 12) (dB al[i].2.a)/\V.at (a.add 13) (dB al[i].2.b)/\dH V (hF #[dB b1,yG u E c1,dB b2,yG p2 n2 c2,dB b3,yG F M N]) al[i].1/\t_ V (hF #[dB b,yG O Z e1,yG q2 m2 e2,dB d,yG q3 m3 e3,yG q4 m4 e4,dB al[i].2.a,dB al[i].2.b]) al[i].2:=by have ⟨f,e,xs,l,g,c⟩:=h.at_ i hi;obtain ⟨_,_,_,_,_,_,_,_,_,_,_,_,_,_,_,_,_,_,_,_,_,_,_,_,_,_,ex,j,k⟩:=g;have ex:=Æ Array.toList (Value.agg.inj ex);subst ex;refine ⟨?_,_,_,_,_,_,_,_,_,_,_,_,_,_,_,_,_,_,_,_,_,_,_,_,_,_,_,f,e,c 0 _ rfl,c 1 _ rfl,c 2 _ rfl,c 3 _ rfl,c 4 _ rfl,c 5 _ rfl,c 6 _ rfl,c 7 _ rfl,c 8 _ rfl,c 9 _ rfl,c 10 _ rfl,c 11 _ rfl,c 12 _ rfl,c 13 _ rfl,j,k⟩;(cases p with|none=>{cases e}|some a=>rfl)
def Zw {x:L3×Sp}(h:Ba V (.agg xs.toArray) x):∀v∈xs,v.oneCell'=true:=by have ⟨_,_,_,_,_,_,_,_,_,_,_,_,_,_,_,_,_,_,_,_,_,_,_,_,_,_,ex⟩:=Dq h;have ex:=Æ Array.toList (Value.agg.inj ex);subst ex;exact Qy
def X5 {x y:Rat}(h:Tq V v x y)(s1:Sz k x)(s2:Sz k y)(M:k<=2^38:=by omega):À 189 #[v] V λr W=>RP W r x y:=by obtain ⟨_,rfl,a,b⟩:=Ź h;refine MX V _ λc d=>(HY ra s1 M).s ?_;rintro r V2 e ⟨f,g,i,j,l,m,rfl,n,o⟩;refine qxQ ⟨rfl,λp q=>(HY ra s2 M).s ?_⟩;rintro r s t ⟨u,w,z,A,B,C,rfl,D,E⟩;exact qxQ ⟨rfl,λF G=>⟨_,_,_,_,_,_,_,_,_,_,_,_,rfl,⟨_,_,_,_,_,_,rfl,ra,ra⟩,⟨_,_,_,_,_,_,rfl,ra,ra⟩⟩⟩
def Wy {b1 b2:ut}{u E F:OA}{M c1 N O Z c4:Nat}{c:Rat×Rat}(h:er V (hF #[dB b1,yG u M c1,yG p2 n2 c2,dB b2,yG E N O,yG F Z c4]) c):RQ V (hF #[dB b1,yG u M c1,yG p2 n2 c2]) c.1/\RQ V (hF #[dB b2,yG E N O,yG F Z c4]) c.2:=by obtain ⟨_,_,_,_,_,_,_,_,_,_,_,_,e,a,b⟩:=h;have e:=Æ Array.toList (Value.agg.inj e);simp only [œ,Value.bool.injEq,Value.slice.injEq,Í] at e;obtain ⟨rfl,⟨rfl,rfl,rfl⟩,⟨rfl,rfl,rfl⟩,rfl,⟨rfl,rfl,rfl⟩,⟨rfl,rfl,rfl⟩⟩:=e;exact ⟨a,b⟩
def Cb {u w:um}{a b c:Rat×Rat}(O:er V u a)(Z:er V v b)(hc:er V w c){k:Nat}(h1:1<=k)(M:Sz k a.1/\Sz k a.2)(N:Sz k b.1/\Sz k b.2)(sc:Sz k c.1/\Sz k c.2)(hk:40*k+40<2^38:=by omega):À 273 #[u,v,w] V λr W=>∃x,r=Ô Ŵ x:=by obtain ⟨_,rfl⟩:=Ź O.shape;obtain ⟨_,rfl⟩:=Ź Z.shape;obtain ⟨_,rfl⟩:=Ź hc.shape;refine AR V _ λi f=>(qZ (RP.le Z f) (RP.le O f) N.1 N.2 M.1 M.2 h1).s ?_;rintro r V2 j g;obtain ⟨_,rfl⟩:=Ź (xk g);refine qxW ⟨rfl,λl o=>(qZ (RP.le hc aA) (RP.le O aA) sc.1 sc.2 M.1 M.2 h1).s ?_⟩;rintro r q s h;obtain ⟨_,rfl⟩:=Ź (xk h);have m:k+(k+1)<=2*k+1:=ω;refine qxW ⟨rfl,λt y=>(jM (k:=2*k+1) ra ra ((N.1.sub M.1).s ω) ((N.2.sub M.2).s ω) ((sc.1.sub M.1).s ω) ((sc.2.sub M.2).s ω)).s ?_⟩;rintro r z A ⟨p,n,d,B,C,D,rfl,E,F⟩;exact qxQ ⟨rfl,λG H=>(sW _ ra).s λr I J e=>⟨_,e,λK L=>⟨_,rfl⟩⟩⟩
def Ak (f n:Int):À 232 #[Ô Ŵ f,Ô Ŵ n] V λr W=>∃b,r=dB b:=
 zv V _ ⟨λ_=>⟨φ,λ_ a c=>⟨_,rfl⟩,λ_=>⟨λ_ V2 d=>⟨_,rfl⟩,λ_ e g=>⟨_,rfl⟩⟩⟩,λ_=>⟨λ_ h i=>⟨_,rfl⟩,λ_ j k=>⟨_,rfl⟩⟩⟩
def Xm (k:Nat)(l:List (Rat×Rat)):Prop:=∀p∈l,Sz k p.1/\Sz k p.2
def Cf {l:zA (Rat×Rat)}{q:Rat×Rat}(h:bP 6 er V p n l)(hl:l.length<=1000)(hs:Xm 600000000 l)(hq:er V v q)(sq:Sz 600000000 q.1/\Sz 600000000 q.2):À 231 #[yG p n c,v] V λr W=>∃x,r=Ô Ŵ x:=by
 obtain rfl:=h.len;obtain ⟨Q1,Q2,Q3,Q4,Q5,Q6,Q7,K,L,M,N,O,P,Q,rfl⟩:=hq.shape;refine AX V _ ⟨λz _=>∃j:Nat,z.2=(j:Int)/\j<=l.length,λz=>l.length-z.2.toNat,⟨(0,0),σ,0,rfl,ä _⟩,?_⟩;rintro ⟨z1,z2⟩ i l1 ⟨j,e,yH⟩;dsimp only at e;subst e;refine ⟨rfl,λd=>?_,λ_ ji fk=>⟨_,rfl⟩⟩;have d:=Á d;have m:j<l.length:=ω
 have w:Ŵ.wrap ((j:Int)+1)=((j+1:Nat):Int):=by rw [ay ω];rfl
 have hm:((j+1:Nat):Int).tmod (l.length:Int)=(((j+1)%l.length:Nat):Int):=by rw [Wy9]
 have R:(j+1)%l.length<l.length:=ę _ ω;dsimp only;rw [w,hm];rw [Ý,Ý];have U:=h.le l1;obtain ⟨X,b1,Y,Z,c1,p2,n2,c2,b2,o,s,t,u,A,B,a,ha,a0,a1,a2,a3,a4,a5,gu⟩:=IE er.shape U m;obtain ⟨-,B1,P1,N1,C1,P2,N2,C2,C,D,E,F,G,H,I,b,hb,A0,A1,A2,A3,A4,A5,gw⟩:=IE er.shape U R;have S:=hs _ (ú m);have T:=hs _ (ú R);have uy:∀{W:un},i.Le W->RQ W (hF #[dB b2,yG o s t,yG u A B]) l[j].2:=λg=>(Wy gu).2.le g;have wy:∀{W:un},i.Le W->RQ W (hF #[dB C,yG D E F,yG G H I]) l[(j+1)%l.length].2:=λg=>(Wy gw).2.le g;have qy:∀{W:un},i.Le W->RQ W (hF #[dB K,yG L M N,yG O P Q]) q.2:=λg=>(Wy hq).2.le aA
 have f:∀{W:un},i.Le W->À 273 #[hF #[dB b1,yG Y Z c1,yG p2 n2 c2,dB b2,yG o s t,yG u A B],hF #[dB B1,yG P1 N1 C1,yG P2 N2 C2,dB C,yG D E F,yG G H I],hF #[dB Q1,yG Q2 Q3 Q4,yG Q5 Q6 Q7,dB K,yG L M N,yG O P Q]] W λr W=>∃x,r=Ô Ŵ x:=λg=>
  Cb (k:=600000000) (er.le gu g) (er.le gw g) ra ω S T sq
 refine ⟨X,ų,b1,Y,Z,c1,p2,n2,c2,b2,o,s,t,u,A,B,a,ha,a0,a1,a2,a3,a4,a5,ω,X,ų,B1,P1,N1,C1,P2,N2,C2,C,D,E,F,G,H,I,b,hb,A0,A1,A2,A3,A4,A5,λV2 J=>(e_ (uy J) (qy J) S.2 sq.2).s ?_⟩;rintro r V3 l3 rfl;refine ⟨_,rfl,λV4 l4=>(e_ (wy aA) (qy aA) T.2 sq.2).s ?_⟩;rintro r V5 l5 rfl;have L5:=J.m (l3.m (l4.m l5));refine ⟨_,rfl,λ_ _=>True,⟨λ_=>⟨λ_ V6 l6=>(f aA).s ?_,λ_=>⟨_,σ,trivial⟩⟩,λ_=>⟨_,σ,trivial⟩⟩,λz V8 l8 _=>⟨rfl,λ_ _=>True,⟨λ_=>⟨_,σ,trivial⟩,λ_=>⟨_,σ,trivial⟩⟩,λy V9 l9 _=>⟨rfl,λ_ _=>True,⟨λ_=>⟨λ_ fD a6=>(f aA).s ?_,λ_=>⟨_,σ,trivial⟩⟩,λ_=>⟨_,σ,trivial⟩⟩,λx gQ eJ _=>⟨rfl,λ_=>⟨(_,((j+1:Nat):Int)),ω,σ,j+1,rfl,m⟩,λ_=>⟨(_,((j+1:Nat):Int)),ω,σ,j+1,rfl,m⟩⟩⟩⟩⟩
 ·rintro r V7 l7 ⟨x,rfl⟩;exact ⟨_,rfl,_,σ,trivial⟩
 ·rintro r eX dq ⟨x,rfl⟩;exact ⟨_,rfl,_,σ,trivial⟩
def PG (R:Ó->Value->Rat×Rat->Prop)(V:Ó)(v:Value)(l:List (Rat×Rat)):Prop:=∃p n c,v=.agg #[.slice p n c]/\bP 6 R V p n l
abbrev Ri:=PG er
def PG.s {R:un->um->Rat×Rat->Prop}{V':un}{l:zA (Rat×Rat)}(h:PG R V v l)(m:∀v a,R V v a->R V' v a)(g:V.Le V'):PG R V' v l:=by obtain ⟨p,n,c,rfl,h⟩:=h;exact ⟨p,n,c,rfl,h.le g m⟩
def Ri.le {V V':un}{l:zA (Rat×Rat)}(h:Ri V v l)(g:V.Le V'):Ri V' v l:=PG.s h (λ_ _ k=>er.le k g) g
def ID {R:un->um->Rat×Rat->Prop}{L:zA (zA (Rat×Rat))}(h:bP 1 (PG R) V p n L)(hi:i<L.length):p.isSome=true/\∃(q:OA)(m e:Nat),(∃a,af p (i*1)=some a/\V.at a (yG q m e))/\bP 6 R V q m L[i]:=by have ⟨a,b,xs,j,⟨q,m,e,d,f⟩,g⟩:=h.at_ i hi;have c:=Æ Array.toList (Value.agg.inj d);dsimp only at c;subst c;refine ⟨?_,q,m,e,⟨a,b,?_⟩,f⟩;{(cases p with|none=>simp [af] at b|some a=>rfl)};{have:=g 0 _ rfl;simpa [Addr.add] using this}
def one1:∀v∈([yG p n c]:zA um),v.oneCell'=true:=λv a=>by rw [õ.1 a];rfl
structure Pgs (L:List (List (Rat×Rat))):Prop where
 len:L.length<=1000
 each:∀l∈L,l.length<=1000/\Xm 600000000 l
def NP {fill:Int}{L:zA (zA (Rat×Rat))}{q:Rat×Rat}(h:bP 1 Ri V p n L)(N:Pgs L)(O:er V v q)(Z:Sz 600000000 q.1/\Sz 600000000 q.2):À 187 #[hF #[yG p n c,Ô Ŵ fill,yG p2 n2 c2],v] V λr W=>∃b,r=dB b:=by obtain rfl:=h.len;have y:=N.len;obtain ⟨_,rfl⟩:=Ź O.shape;refine F4 V _ ⟨λz _=>∃j:Nat,z.2=(j:Int)/\j<=L.length,λz=>L.length-z.2.toNat,⟨(0,0),σ,0,rfl,ä _⟩,?_⟩;rintro ⟨i,A⟩ B k ⟨j,e,C⟩;dsimp only at e;subst e;refine ⟨rfl,λa=>?_,λ_ D E=>(Ak fill i).s λr F G ⟨b,e⟩=>⟨b,e,λH I=>⟨b,rfl⟩⟩⟩;have a:=Á a;have d:j<L.length:=ω;have w:Ŵ.wrap ((j:Int)+1)=((j+1:Nat):Int):=ŵ;dsimp only;rw [w,Ý];have ⟨l,m,o,s,f,g⟩:=ID (h.le k) d;have ⟨t,u⟩:=N.each _ (ú d);refine ⟨l,ų,m,o,s,f,λV2 J=>(Cf ra t u ra Z).s ?_⟩;rintro r K M ⟨x,rfl⟩;exact ⟨x,rfl,(_,((j+1:Nat):Int)),ω,σ,j+1,rfl,d⟩
def Kx {A:zA (Rat×Rat)}(h:bP 6 nW V p n A)(hn:A.length<=1000000)(hs:Xm 600000000 A):À 125 #[yG p n c] V λr W=>∃q m e,r=yG q m e/\bP 6 er W q m A:=by obtain rfl:=h.len;refine JM V _ (Cz (λj z V'=>GR 6 er V' z.1 z.2.1 z.2.2.1 (A.take j)) (0,0,[],0) σ rfl GR.nil ?_);rintro j ⟨k,B,C,D⟩ E l i F a;dsimp only at i a;subst i;have o:=a.len;rw [ë] at o;refine ⟨λb=>?_,λb G s H t=>?_⟩;{have d:=b;have w:Ŵ.wrap ((j:Int)+1)=((j+1:Nat):Int):=ŵ;dsimp only;rw [Ý,w];refine ldP nW.shape (h.le l) d λb1 I J K L M N b2 O P Q R S T g=>?_;have ⟨s1,s2⟩:=hs _ (ú d);refine λV2 u=>(X5 (nW.le g u) s1 s2).s λr Z l3 (f:er Z r A[j])=>er.ex f λ_ _ f=>⟨ω,a.le,a.cap,rfl,VM,λsp v x y=>⟨(k+1,v,_,((j+1:Nat):Int)),ω,σ,j+1,rfl,d,?_⟩⟩;dsimp only;rw [ł,ñ d];exact (a.up (V':=Z) aA).snoc rfl f φ x y};subst b;rw [Ī] at a;obtain rfl:=a.len;exact ⟨_,_,_,rfl,bP.bR t (a.row.le λ_ _ g=>er.le g s) φ a.le⟩
def edg (l:List (Rat×Rat))(i:Nat):L3×Sp:=
 (nP (l.getD i (0,0)).1 (l.getD i (0,0)).2 (l.getD ((i+1)%l.length) (0,0)).1 (l.getD ((i+1)%l.length) (0,0)).2,OZ (l.getD i (0,0)).1 (l.getD i (0,0)).2 (l.getD ((i+1)%l.length) (0,0)).1 (l.getD ((i+1)%l.length) (0,0)).2)
def nG (l:List (Rat×Rat)):List (L3×Sp):=(List.range l.length).map (edg l)
structure Pg (l:List (Rat×Rat)):Prop where
 len:l.length<=6
 sm:Xm 10 l
 ne:∀i,i<l.length->¬((l.getD i (0,0)).1=(l.getD ((i+1)%l.length) (0,0)).1/\(l.getD i (0,0)).2=(l.getD ((i+1)%l.length) (0,0)).2)
def hU {l:zA (Rat×Rat)}(h:i<l.length):l.getD i (0,0)=l[i]:=by rw [Ę,ñ h];rfl
def Pg.at_ {l:zA (Rat×Rat)}(h:Pg l)(hi:i<l.length):Sz 10 (l.getD i (0,0)).1/\Sz 10 (l.getD i (0,0)).2:=by rw [hU hi];exact h.sm _ (ú hi)
def Pg.nxt {l:zA (Rat×Rat)}(hi:i<l.length):(i+1)%l.length<l.length:=ę _ ω
def Pg.edge {l:zA (Rat×Rat)}(h:Pg l)(hi:i<l.length):ZZ (edg l i):=by have ⟨s1,s2⟩:=h.at_ hi;obtain ⟨s3,s4⟩:=h.at_ (Pg.nxt hi);have ok:=seg_ok (h.ne i hi);have sl:=Jt s1 s2 s3 s4 (h.ne i hi);have a:=ZP s1 s2 s3 s4 (h.ne i hi);exact ⟨ok.1,bd_szl ⟨Sz.s sl.1 ω,Sz.s sl.2.1 ω,Sz.s sl.2.2 ω⟩,⟨ok.2.1,ok.2.2⟩,⟨Sz.s a.1 ω,Sz.s a.2 ω⟩⟩
def Pg.edges {l:zA (Rat×Rat)}(h:Pg l):∀f∈nG l,ZZ f:=λf a=>by
 obtain ⟨i,b,rfl⟩:=þ.1 a;exact h.edge (Wq0.1 b)
def oC (l:zA (Rat×Rat)):(nG l).length=l.length:=by unfold nG;simp
def Se {l:zA (Rat×Rat)}{j:Nat}(u:j<l.length):(nG l).take (j+1)=(nG l).take j++[edg l j]:=by rw [ł,ñ (by rw [oC];exact u)];unfold nG;simp
def ui {l:zA (Rat×Rat)}(h:bP 6 er V p n l)(hg:Pg l):À 123 #[yG p n c] V λr W=>∃q m e,r=yG q m e/\bP 14 Ba W q m (nG l):=by obtain rfl:=h.len;have h6:=hg.len;refine Ey V _ (Cz (λj z V'=>GR 14 Ba V' z.1 z.2.1 z.2.2.1 ((nG l).take j)) (0,0,[],0) σ rfl GR.nil ?_);rintro j ⟨B,z2,vs,z4⟩ V1 C t yH d;dsimp only at t d;subst t;have D:=d.len;rw [ë,oC] at D;refine ⟨λk=>?_,λk V4 F bk s=>?_⟩;{have i:=k;have w:Ŵ.wrap ((j:Int)+1)=((j+1:Nat):Int):=ŵ;have hm:((j+1:Nat):Int).tmod (l.length:Int)=(((j+1)%l.length:Nat):Int):=by{rw [Wy9]};have o:=Pg.nxt i;dsimp only;rw [w,hm];rw [Ý,Ý];have u:=h.le C;obtain ⟨v,b1,G,H,I,J,K,L,b2,M,O,P,Q,R,U,a,W,X,Y,Z,a3,a4,a5,gu⟩:=IE er.shape u i;obtain ⟨-,B1,P1,N1,C1,P2,N2,C2,B2,P3,N3,C3,P4,N4,C4,b,s,A0,A1,A2,A3,A4,A5,gw⟩:=IE er.shape u o;have S:=hg.at_ i;have T:=hg.at_ o;have N:=hg.ne j i;have E:edg l j=(nP l[j].1 l[j].2 l[(j+1)%l.length].1 l[(j+1)%l.length].2,OZ l[j].1 l[j].2 l[(j+1)%l.length].1 l[(j+1)%l.length].2):=by{unfold edg;rw [hU i,hU o]};rw [hU i] at S;rw [hU o] at T;rw [hU i,hU o] at N;refine ⟨v,ų,b1,G,H,I,J,K,L,b2,M,O,P,Q,R,U,a,W,X,Y,Z,a3,a4,a5,ω,v,ų,B1,P1,N1,C1,P2,N2,C2,B2,P3,N3,C3,P4,N4,C4,b,s,A0,A1,A2,A3,A4,A5,λV2 x=>(Aj (er.le gu x) (er.le gw x) S.1 S.2 T.1 T.2 ω).s ?_⟩;rintro r y l3 ⟨-,m2⟩;obtain ⟨f,rfl,A⟩:=m2 N;have g0:Ba y f (edg l j):=by{rw [E];exact A};obtain ⟨_,_,_,_,_,_,_,_,_,_,_,_,_,_,_,_,_,_,_,_,_,_,_,_,_,_,rfl⟩:=Dq A;refine ⟨_,_,_,_,_,_,_,_,_,_,_,_,_,_,_,_,_,_,_,_,_,_,_,_,_,_,_,_,_,rfl,ω,d.le,d.cap,rfl,Qy,λsp c' h1 h2=>⟨(B+1,c',_,((j+1:Nat):Int)),ω,σ,j+1,rfl,i,?_⟩⟩;dsimp only;rw [Se i];exact (d.up (V':=y) aA).snoc rfl g0 φ h1 h2};subst k;rw [show (nG l).take l.length=nG l by rw [<-oC l];exact Ī] at d;obtain rfl:=d.len;exact ⟨_,_,_,rfl,bP.bR s (d.row.le λ_ _ g=>Ba.le g F) φ d.le⟩
def zI {L:zA (zA (Rat×Rat))}(h:bP 1 Ri V p n L)(hn:L.length<=1000)(Z:∀l∈L,Pg l):À 73 #[yG p n c] V λr W=>∃q m e,r=yG q m e/\bP 1 (PG nW) W q m L:=by obtain rfl:=h.len;refine JS V _ (Cz (λj z V'=>GR 1 (PG nW) V' z.1 z.2.1 z.2.2.1 (L.take j)) (0,0,[],0) σ rfl GR.nil ?_);rintro j ⟨v,N,O,P⟩ Q y i R a;dsimp only at i a;subst i;have A:=a.len;rw [ë] at A;refine ⟨λb=>?_,λb S o T B=>?_⟩;{have d:=b;have w:Ŵ.wrap ((j:Int)+1)=((j+1:Nat):Int):=ŵ;dsimp only;rw [Ý,w];obtain ⟨C,D,E,F,f,g⟩:=ID (h.le y) d;have k:=Z _ (ú d);have U:=k.len;refine ⟨C,ų,D,E,F,f,λV2 W=>(H8 (k:=10) ra ω (λx G=>k.sm x G)).s ?_⟩;rintro r H X ⟨s,t,u,rfl,I⟩;refine ⟨s,t,u,rfl,ω,a.le,a.cap,rfl,one1,λsp J K M=>⟨(v+1,J,_,((j+1:Nat):Int)),ω,σ,j+1,rfl,d,?_⟩⟩;dsimp only;rw [ł,ñ d];exact (a.s (V':=H) λ_ _ g=>PG.s g (λ_ _ k=>nW.le k aA) aA).snoc rfl ⟨s,t,u,rfl,I⟩ φ K M};subst b;rw [Ī] at a;obtain rfl:=a.len;exact ⟨_,_,_,rfl,bP.bR B (a.row.le λ_ _ g=>PG.s g (λ_ _ k=>nW.le k o) o) φ a.le⟩
def wc {L:zA (zA (Rat×Rat))}(fill:Int)(h:bP 1 (PG nW) V p n L)(hn:L.length<=1000)(hL:∀l∈L,Pg l):À 72 #[yG p n c,Ô Ŵ fill] V λr W=>∃p n c q m e,r=hF #[yG p n c,Ô Ŵ fill,yG q m e]/\bP 1 Ri W p n L:=by
 obtain rfl:=h.len
 refine F3 V _ ⟨λz V'=>∃(j:Nat)(ls:zA L3),z.2.2.2.1=(j:Int)/\j<=L.length/\z.2.2.2.2.2.2.1=fill/\GR 6 dH V' z.1 z.2.1 z.2.2.1 ls/\ls.length<=6*j/\(∀l∈ls,Bd l)/\GR 1 Ri V' z.2.2.2.2.1 z.2.2.2.2.2.1 z.2.2.2.2.2.2.2.2.2.2 (L.take j),λz=>L.length-z.2.2.2.1.toNat,
  ⟨(0,0,[],0,0,0,fill,none,0,0,[]),σ,0,[],rfl,ä _,rfl,GR.nil,ψ,(λl h=>nomatch h),GR.nil⟩,?_⟩
 rintro ⟨z1,z2,vs,z4,B,r2,z7,z8,z9,C,us⟩ V1 D ⟨j,ls,R,yH,S,v,E,T,t⟩;dsimp only at R S v t;subst R S;have zl:=v.len;have rl:=t.len;rw [ë] at rl;dsimp only;rw [Ý];refine ⟨rfl,λs=>?_,λs V7 l7 bk F=>?_⟩
 ·have s:=Á s;have A:j<L.length:=ω
  have w:Ŵ.wrap ((j:Int)+1)=((j+1:Nat):Int):=by rw [ay ω];rfl
  rw [w];have ⟨ps,q1,m1,e1,G,g⟩:=ID (h.le D λ_ _ k=>PG.s k (λ_ _ k=>nW.le k D) D) A;have k:=hL _ (ú A);have k6:=k.len;refine ⟨ps,ų,q1,m1,e1,G,λV2 l2=>(Kx ra ω (λx U=>⟨(k.sm x U).1.s ω,(k.sm x U).2.s ω⟩)).s ?_⟩;rintro r V3 l3 ⟨H,I,J,rfl,gp⟩;refine ⟨H,I,J,rfl,ω,t.le,t.cap,rfl,one1,λsp W h1 h2 V4 l4=>(ui ra k).s ?_⟩;rintro r X l5 ⟨q3,m3,e3,rfl,ge⟩
  have r5:GR 1 Ri X (B+1) W (us.take (B*1)++([yG H I J]:zA um)++sp) (L.take (j+1)):=by rw [ł,ñ A];exact (t.up aA).snoc rfl ⟨H,I,J,rfl,ra⟩ φ h1 h2
  obtain rfl:=ge.len;have el:=oC L[j]
  refine ⟨q3,_,e3,rfl,λz V'=>∃(i:Nat)(ms:zA L3),z.2.2.2=(i:Int)/\i<=(nG L[j]).length/\X.Le V'/\GR 6 dH V' z.1 z.2.1 z.2.2.1 ms/\ms.length<=6*j+i/\∀l∈ms,Bd l,λz=>(nG L[j]).length-z.2.2.2.toNat,
   ⟨(z1,z2,vs,0),σ,0,ls,rfl,ä _,Ó.Le.refl _,v.up aA,E,T⟩,?_⟩
  rintro ⟨Y,y2,ws,y4⟩ V6 l6 ⟨i,ms,f4,Xu,Z,o,hm,y⟩;dsimp only at f4 o;subst f4;have yl:=o.len;dsimp only;rw [Ý];refine ⟨rfl,λf=>?_,λf=>?_⟩
  ·have f:=Á f;have u:i<(nG L[j]).length:=ω;have w':Ŵ.wrap ((i:Int)+1)=((i+1:Nat):Int):=ŵ;rw [w'];obtain ⟨K,b1,p1,n1,c1,b2,p2,n2,c2,b3,p3,n3,c3,b,s1,s2,s3,s4,s5,s6,d,t1,t2,t3,t4,t5,t6,a,ha,a0,a1,a2,a3,a4,a5,a6,a7,a8,a9,XK,XL,M,N,gl,-⟩:=IF ra u;refine ⟨K,ų,b1,p1,n1,c1,b2,p2,n2,c2,b3,p3,n3,c3,b,s1,s2,s3,s4,s5,s6,d,t1,t2,t3,t4,t5,t6,_,_,a,ha,a0,a1,a2,a3,a4,a5,a6,a7,a8,a9,XK,XL,M,N,ω,o.le,o.cap,rfl,SP,λb0 O h3 h4=>⟨(Y+1,O,_,((i+1:Nat):Int)),ω,σ,i+1,ms++[(nG L[j])[i].1],rfl,u,Z,o.snoc rfl gl φ h3 h4,by simp;omega,λl P=>(ü.1 P).elim (y l) λP=>by rw [õ.1 P];exact (k.edges _ (ú u)).bd⟩⟩
  ·have f:=Â f;exact ⟨(Y,y2,ws,((j+1:Nat):Int),B+1,W,z7,z8,z9,C,_),ω,σ,j+1,ms,rfl,A,rfl,o,ω,y,r5.up Z⟩
 ·have s:=Â s;obtain rfl:j=L.length:=ω;rw [Ī] at t;obtain rfl:=v.len;refine (mN (bP.bR F (v.row.le λ_ _ g=>dH.le g l7) φ v.le) ω T).s ?_;rintro r V8 l8 ⟨q,m,e,rfl,-⟩;obtain rfl:=t.len;exact ⟨q,m,e,rfl,λ_ V9 l9 b5 Q=>⟨_,_,_,_,_,_,rfl,bP.bR Q (t.row.le λ_ _ g=>Ri.le g aA) φ t.le⟩⟩
def GR.app {α:Type}{sz:Nat}{R:un->um->α->Prop}{vs:zA um}{l:zA α}(h:GR sz R V n c vs l){ms:zA α}(F:è sz R V xs ms)(M:xs.length=ms.length*sz)(N:0<sz){sp:zA um}{u:Nat}(O:n+ms.length<=u)(E:u*sz<=(n+ms.length)*sz+sp.length):GR sz R V (n+ms.length) u (vs.take (n*sz)++xs++sp) (l++ms):=by have a:=h.len;have d:=h.cap;have e:n*sz<=c*sz:=Ă _ h.le;refine ⟨by rw [í,a],O,?_,?_⟩;{have b:(vs.take (n*sz)).length=n*sz:=by{rw [ë];omega};rw [í,í,b,M];rw [Đ] at E;exact E};rw [a];exact eI h.row F N
def Hh {m:L3}{fs:zA (L3×Sp)}{q:L3->Prop}(h:∀f∈fs,q f.1):∀u∈mf m fs,q u.1:=λu hu=>by
 have ⟨f,b,a⟩:=č.1 hu;unfold qC at a;split at a
 ·rw [õ.1 a];exact h f b
 ·cases a
def Df {m:L3}{fs:zA (L3×Sp)}{j:Nat}(u:j<fs.length):mf m (fs.take (j+1))=mf m (fs.take j)++qC fs[j].1 fs[j].2 m:=by unfold mf;rw [ł,ñ u];show List.flatMap _ (_++[fs[j]])=_;rw [Qc3,Ġ,Wj1,ć]
def Jc {l:zA (L3×Sp)}(h:è 14 Ba V xs l)(u:xs.length=l.length*14):∀v∈xs,v.oneCell'=true:=λv a=>by
 have ⟨m,hm,e⟩:=Qb5.1 a;exact gK h φ (λ_ _=>Zw) (m:=m) ω (by rw [<-e];exact ñ hm)
def Ky {q:L3->Prop}:∀(k:Nat) {fs:zA (L3×Sp)} {c:zA L3} {L:zA (zA (Rat×Rat))} {V:un} {lp cp r0p r2p:OA} {ln lc cn cc r0n r0c r2n r2c:Nat} {fill:Int},fs.length<=k->bP 14 Ba V lp ln fs->(∀f∈fs,ZZ f)->(∀f∈fs,q f.1)->bP 6 dH V cp cn c->(∀m∈c,lG m)->c.length+k<=980->bP 1 Ri V r0p r0n L->Pgs L ->À 124 #[hF #[yG r0p r0n r0c,Ô Ŵ fill,yG r2p r2n r2c],yG lp ln lc,yG cp cn cc] V λr W=>∃o t,r=qvJ o/\RW W o t/\t.dG q/\t.depth<=k:=by
 intro k
 induction k using Nat.strongRecOn with
 | ind k ih=>
  intro fs c L V lp cp r0p r2p ln lc cn cc r0n r0c r2n r2c fill hk hf hr hq hc kc f6 hL hP;obtain rfl:=hf.len;obtain rfl:=hc.len;have hC:∀{W:un},V.Le W->bP 6 dH W cp c.length c:=λg=>hc.le g;have hR:∀{W:un},V.Le W->bP 1 Ri W r0p r0n L:=λg=>hL.le g;refine JR V _ ⟨λh0 V1 l1=>(ug (hC l1) (λm h=>(kc m h).2) (λm h=>(kc m h).1)).s ?_,λh0=>?_⟩
  ·rintro r V2 l2 ⟨u,p,rfl,g,s1,s2⟩;have g0:er V2 u p:=g;obtain ⟨_,rfl⟩:=Ź g0.shape;refine wqK ⟨rfl,λV3 l3=>(NP (hR aA) hP ra ⟨s1.s ω,s2.s ω⟩).s ?_⟩;rintro r V4 l4 ⟨b,rfl⟩;refine ⟨b,rfl,λV5 l5=>(cS b).s ?_⟩;rintro r V6 l6 ⟨o,rfl,g⟩;exact ⟨o,rfl,λV7 l7=>⟨o,_,rfl,g.le l7,trivial,ä _⟩⟩
  have B:0<fs.length:=by have:=Â h0;omega
  obtain ⟨f0,e,rfl⟩:∃f0 e,fs=f0::e:=by cases fs with
   | nil=>simp at B
   | cons f r=>exact ⟨f,r,rfl⟩
  have D:=hr f0 (ą ..);obtain ⟨ps,b1,p1,n1,c1,b2,p2,n2,c2,b3,p3,n3,c3,_,_,_,_,_,_,_,_,_,_,_,_,_,_,a,ha,a0,a1,a2,a3,a4,a5,_,_,_,_,_,_,_,_,H,-⟩:=IF hf B;have H:dH V (hF #[dB b1,yG p1 n1 c1,dB b2,yG p2 n2 c2,dB b3,yG p3 n3 c3]) f0.1:=H;have ea:=ha;have az:a.add 0=a:=by simp [Addr.add]
  have i:lG f0.1:=⟨D.ok,D.bd⟩;refine ⟨ps,ų,by rw [ea];rfl,b1,p1,n1,c1,b2,p2,n2,c2,b3,p3,n3,c3,a,by rw [ea];show some (a.add 0)=_;rw [az],a0,a1,a2,a3,a4,a5,?_⟩;refine (Cz (λj z V'=>GR 14 Ba V' z.1 z.2.1 z.2.2.1 (mf f0.1 ((f0::e).take j))/\GR 14 Ba V' z.2.2.2.1 z.2.2.2.2.1 z.2.2.2.2.2.1 (mf (Õ f0.1) ((f0::e).take j))) (0,0,[],0,0,[],0) σ rfl ⟨GR.nil,GR.nil⟩ ?_);rintro j ⟨z1,z2,vs,y1,y2,us,z4⟩ V8 l8 e4 yH ⟨v,y⟩;dsimp only at e4 v y;subst e4;have zl:=v.len;have yl:=y.len;have I:∀m:L3,(mf m ((f0::e).take j)).length<=(f0::e).length:=λm=>ÿ (tz _ _) (by rw [ë];omega);have f7:=I f0.1;have f8:=I (Õ f0.1);dsimp only;rw [Ý];refine ⟨λE=>?_,λE=>?_⟩
  ·have J:=E;have w:Ŵ.wrap ((j:Int)+1)=((j+1:Nat):Int):=ŵ;rw [w];have F:=hr _ (ú J);obtain ⟨a6,d1,q1,m1,e1,d2,q2,m2,e2,d3,q3,m3,e3,d,s1,s2,s3,s4,s5,s6,t0,t1,t2,t3,t4,t5,t6,a',a7,a8,a9,b0,b5,b6,b7,b8,b9,c0,c6,K,M,N,O,c8,c9⟩:=IF ra J;refine ⟨a6,ų,d1,q1,m1,e1,d2,q2,m2,e2,d3,q3,m3,e3,d,s1,s2,s3,s4,s5,s6,t0,t1,t2,t3,t4,t5,t6,_,_,a',a7,a8,a9,b0,b5,b6,b7,b8,b9,c0,c6,K,M,N,O,λV9 l9=>(E3 (l:=(f0::e)[j].1) (s:=(f0::e)[j].2) ⟨_,_,_,_,_,_,_,_,_,_,_,_,_,_,_,_,_,_,_,_,_,_,_,_,_,_,rfl,dH.le c8 l9,t_.le c9 l9⟩ (dH.le H aA) (fY F.ok) F.bd i.2 F.gd.1 ⟨F.sz.1.s ω,F.sz.2.s ω⟩).s ?_⟩;rintro r fD d0 ⟨p4,n4,c4,p5,n5,c5,rfl,k1,k2⟩;rw [WN F.gd] at k1 k2;obtain rfl:=k1.len;obtain rfl:=k2.len;have ⟨xs,x1,A,P⟩:=cW k1 φ;have ⟨ws,w1,G,w3⟩:=cW k2 φ;have o1:=yT (f0::e)[j].1 (f0::e)[j].2 f0.1;have o2:=yT (f0::e)[j].1 (f0::e)[j].2 (Õ f0.1);have SD:=l9.m d0;refine ⟨p4,_,c4,p5,_,c5,rfl,xs,x1,A,ω,v.le,v.cap,A,Jc P A,λsp c' u1 u2=>⟨ws,w1,G,ω,y.le,y.cap,G,Jc w3 G,λsp' d4 u3 u4=>⟨(z1+_,c',_,y1+_,d4,_,((j+1:Nat):Int)),ω,σ,j+1,rfl,J,?_,?_⟩⟩⟩;{rw [Df J];exact (v.up SD).app P A φ u1 u2};rw [Df J];exact (y.up SD).app w3 G φ u3 u4
  subst E;rw [Ī] at v y;have ⟨f1,f2⟩:=OE (f:=f0) (fs:=e) (fY D.ok);have sm:(mf f0.1 (f0::e)).length<k/\(mf (Õ f0.1) (f0::e)).length<k:=by simp only [Ċ] at hk;omega
  obtain ⟨k',rfl⟩:∃k',k=k'+1:=⟨k-1,ω⟩;have ⟨xs,x1,A,P⟩:=cW (hC l8) φ;have ln:∀m:L3,(c++[m]).length=(0+c.length)+1:=λm=>by rw [í];simp
  have Q:∀m,lG m->∀x∈c++[m],lG x:=λm hm x hx=>(ü.1 hx).elim (kc x) λh=>by rw [õ.1 h];exact hm
  refine ⟨xs,x1,A,ω,Ù _,ψ,A,xj P A,λNv J5 d5 c3 u1 u2=>⟨ω,u1,by simp;omega,rfl,SP,λRu J9 d6 c7 u3 u4 eX dq XT f3 d7 d8=>?_⟩⟩;have L1:=bP.fX d8 (rX (V:=eX) (ys:=[_,_,_,_,_,_]) (sp:=d5) (sp':=d6) rfl (P.le λ_ _ g=>dH.le g dq) A rfl ra);rw [ln] at L1;obtain rfl:=v.len;refine (ih k' ω ω (bP.bR d7 (v.row.le λ_ _ g=>Ba.le g dq) φ v.le) (Ly hr i.2) (Hh hq) L1 (Q _ i) (by rw [ln];omega) (hR aA) hP).s ?_;rintro r gQ eJ ⟨o1,t1,rfl,w1,d9,f9⟩;have C:=dq.m eJ;have ⟨e0,e5,Xy,R⟩:=cW (hC (l8.m C)) φ;refine ⟨o1,rfl,e0,e5,Xy,ω,Ù _,ψ,Xy,xj R Xy,λf4 g3 S g4 e6 g5 ji fk=>(j7 (dH.le H aA)).s ?_⟩;rintro r lH iL gr;have N6:dH lH r (Õ f0.1):=gr;obtain ⟨_,rfl⟩:=Ÿ (bN N6);refine wqQ ⟨rfl,ω,e6,by simp;omega,rfl,SP,λf5 g6 T g7 g8 g9 mJ iE e7 e8 U X=>?_⟩;have n:=fk.m (iL.m iE);have Y:=C.m n;have Z:=bP.fX X (rX (V:=mJ) (ys:=[_,_,_,_,_,_]) (sp:=S) (sp':=T) rfl (R.le λ_ _ g=>dH.le g n) Xy rfl ra);rw [ln] at Z;obtain rfl:=y.len;refine (ih k' ω ω (bP.bR U (y.row.le λ_ _ g=>Ba.le g Y) φ y.le) (Ly hr i.2.rev) (Hh hq) Z (Q _ (pY i)) (by rw [ln];omega) (hR aA) hP).s ?_;rintro r ko gV ⟨o2,t2,rfl,G,e9,h1⟩;refine ⟨o2,rfl,λnk kf bk hb=>⟨_,.node f0.1 t1 t2,rfl,QO hb (dH.le H aA) (w1.le aA) (G.le kf),⟨hq _ (ą ..),d9,e9⟩,by simp only [Tr.depth];omega⟩⟩
def SG (L:List (List (Rat×Rat))):List L3:=(L.flatMap nG).map Prod.fst
abbrev Xl (S:List L3)(d:Nat)(t:Tr):Prop:=M_ (λl=>lG l/\l∈S) d (ao.pos []) t
def IZ:∃x,ao.pos [] x:=⟨(0,0),λ_ h=>nomatch h⟩
def GQ {L:zA (zA (Rat×Rat))}(u:∀l∈L,Pg l):(L.flatMap nG).length<=6*L.length:=by
 induction L with
 | nil=>simp
 | cons l L E=>
  have:=E λl h=>u l (ø _ h);have:=(u l (ą ..)).len;have:=oC l;rw [Ġ,í,Ċ];omega
def uj {fill:Int}{L:zA (zA (Rat×Rat))}(h:bP 1 Ri V p n L)(hn:L.length<=2)(hL:∀l∈L,Pg l):À 71 #[hF #[yG p n c,Ô Ŵ fill,yG p2 n2 c2]] V λr W=>∃o t,r=qvJ o/\RW W o t/\Xl (SG L) 12 t:=by obtain rfl:=h.len;have I:Pgs L:=⟨ω,λl u=>⟨by have:=(hL l u).len;omega,λx C=>⟨((hL l u).sm x C).1.s ω,((hL l u).sm x C).2.s ω⟩⟩⟩;refine Ez V _ (Cz (λj z V'=>GR 14 Ba V' z.1 z.2.1 z.2.2.1 ((L.take j).flatMap nG)) (0,0,[],0) σ rfl GR.nil ?_);rintro j ⟨J,z2,vs,z4⟩ V1 K D yH a;dsimp only at D a;subst D;have zl:=a.len;have el:=GQ (L:=L.take j) λl h=>hL l (Ww2 _ _ h);rw [ë] at el;dsimp only;rw [Ý];refine ⟨λb=>?_,λb V4 M bk N=>?_⟩;{have i:=b;have w:Ŵ.wrap ((j:Int)+1)=((j+1:Nat):Int):=ŵ;rw [w];obtain ⟨O,P,Q,R,v,g⟩:=ID (h.le K) i;have k:=hL _ (ú i);have k6:=k.len;refine ⟨O,ų,P,Q,R,v,λV2 l2=>(ui ra k).s ?_⟩;rintro r V3 l3 ⟨S,m2,T,rfl,E⟩;obtain rfl:=E.len;have ej:=oC L[j];have ⟨xs,U,s,F⟩:=cW E φ;refine ⟨S,_,T,rfl,xs,U,s,ω,a.le,a.cap,s,Jc F s,λsp W y A=>⟨(J+_,W,_,((j+1:Nat):Int)),ω,σ,j+1,rfl,i,?_⟩⟩;have e:(L.take (j+1)).flatMap nG=(L.take j).flatMap nG++nG L[j]:=by{rw [ł,ñ i];show List.flatMap _ (_++[L[j]])=_;rw [Qc3,Ġ,Wj1,ć]};rw [e];exact (a.up aA).app F s φ y A};subst b;rw [Ī] at a;obtain rfl:=a.len;have B:∀f∈L.flatMap nG,ZZ f:=λf d=>by{have ⟨l,y,A⟩:=č.1 d;exact (hL l y).edges f A};refine (Ky (q:=λl=>lG l/\l∈SG L) 12 (c:=[]) ω (bP.bR N (a.row.le λ_ _ g=>Ba.le g M) φ a.le) B (λf d=>⟨⟨(B f d).ok,(B f d).bd⟩,þ.2 ⟨f,d,rfl⟩⟩) (bP.nil (p:=none)) (λm h=>nomatch h) φ ra I).s ?_;rintro r V5 l5 ⟨o,t,rfl,w,G,X⟩;refine ⟨o,rfl,λV6 Y=>(lQ t (w.le Y) (G.imp λ_ h=>h.1)).s ?_⟩;rintro r V7 l7 ⟨H,rfl,Z⟩;exact ⟨H,rfl,λV8 l8=>⟨H,_,rfl,Z.le l8,(vw (λ_ h=>h.1.1) G Ŭ IZ).s X⟩⟩
def g_ {op:Int}{b:Tr}(kb:b.dG lG):∀(a:Tr) {V:un} {p pb cp:OA} {cn cc:Nat} {c:zA L3},RW V p a->RW V pb b->a.dG lG->bP 6 dH V cp cn c->(∀m∈c,lG m)->c.length+a.depth+b.depth<=980 ->À 21 #[Ô Ŵ op,qvJ p,qvJ pb,yG cp cn cc] V λr W=>∃q,r=qvJ q/\RW W q (rO op a b c)
 | .leaf i,V,p,pb,cp,cn,cc,c,h,hb,_,hc,kc,hd=>by
  have ⟨s,e0,e1⟩:=m_ h;simp only [Tr.depth] at hd;have B:∀{W:un},V.Le W->∃a,af p 1=some a/\W.at a (dB i):=λg=>(m_ (h.le g)).2.2;have eq:∀k:Int,(op==k)=true->op=k:=λk h=>by simpa using h
  have ne:∀k:Int,(op==k)=false->op≠k:=λk h=>by simpa using h
  refine sQ V _ ⟨s,s,_,e0,λ_ V1 U=>(dI b (hb.le U) kb (hc.le U) kc ω).s ?_,π⟩;rintro r V2 M ⟨q,rfl,g⟩
  have dn:∀{c:ut} {P:Prop} [Decidable P],(c=true->P)->(c=false->¬P)->c=decide P:=λ{c P _} a b=>by
   cases c
   ·exact (È (b rfl)).symm
   ·exact (Ç (a rfl)).symm
  have fin:∀{W:un} (t:Tr),rO op (.leaf i) b c=t->∀{o:OA},RW W o t->∃q,Value.pointer o=qvJ q/\RW W q (rO op (.leaf i) b c):=λ{W} t e {o} k=>⟨o,rfl,by rw [e];exact k⟩;refine ⟨q,rfl,λz _=>z=decide (op=1/\i=true),⟨λj=>⟨s,s,i,B aA,_,σ,dn (λh=>⟨eq 1 j,h⟩) λh g=>by rw [h] at g;exact nomatch g.2⟩,λj=>⟨false,σ,dn π λ_ g=>ne 1 j g.1⟩⟩,?_⟩;rintro z X Y rfl;refine ⟨rfl,λu Z l4=>(cS true).s ?_,λu=>?_⟩
  ·have u:=Á u;rintro r V5 l5 ⟨o,rfl,k⟩;exact ⟨o,rfl,λV6 C=>fin _ (by unfold rO;rw [Ä u]) (k.le C)⟩
  have u:=Â u;refine ⟨λz _=>z=decide ((op=2\/op=3)/\i=false),⟨λj=>⟨s,s,i,B aA,_,σ,dn (λh=>⟨.inl (eq 2 j),by simpa using h⟩) λh g=>by rw [g.2] at h;exact nomatch h⟩,λj=>⟨λv=>⟨s,s,i,B aA,_,σ,dn (λh=>⟨.inr (eq 3 v),by simpa using h⟩) λh g=>by rw [g.2] at h;exact nomatch h⟩,λv=>⟨false,σ,dn π λ_ g=>g.1.elim (ne 2 j) (ne 3 v)⟩⟩⟩,?_⟩;rintro z V7 l7 rfl;refine ⟨rfl,λd V8 l8=>(cS false).s ?_,λd=>?_⟩
  ·have d:=Á d;rintro r V9 l9 ⟨o,rfl,k⟩;exact ⟨o,rfl,λfD D=>fin _ (by unfold rO;rw [Ã u,Ä d]) (k.le D)⟩
  have d:=Â d;refine ⟨λz _=>z=decide ((op=3\/op=4)/\i=true),⟨λj=>⟨s,s,i,B aA,_,σ,dn (λh=>⟨.inl (eq 3 j),h⟩) λh g=>by rw [h] at g;exact nomatch g.2⟩,λj=>⟨λv=>⟨s,s,i,B aA,_,σ,dn (λh=>⟨.inr (eq 4 v),h⟩) λh g=>by rw [h] at g;exact nomatch g.2⟩,λv=>⟨false,σ,dn π λ_ g=>g.1.elim (ne 3 j) (ne 4 v)⟩⟩⟩,?_⟩;rintro z eX dq rfl;refine ⟨rfl,λf gQ eJ=>(mO _ (g.le aA)).s ?_,λf mJ iE=>?_⟩
  ·have f:=Á f;rintro r ji fk ⟨o,rfl,k⟩;exact ⟨o,rfl,λlH iL=>fin _ (by unfold rO;rw [Ã u,Ã d,Ä f]) (k.le iL)⟩
  ·have f:=Â f;exact fin _ (by unfold rO;rw [Ã u,Ã d,Ã f]) (g.le aA)
 | .node l x y,V,p,pb,cp,cn,cc,c,h,hb,ha,hc,kc,hd=>by
  obtain ⟨A,kx,ky⟩:=ha;simp only [Tr.depth] at hd;obtain ⟨b1,p1,n1,c1,b2,p2,n2,c2,b3,p3,n3,c3,pl,pr,a,s,N,H⟩:=QP h;obtain ⟨z,⟨E,F,G,I,J,K⟩,O,Q,-,-,-⟩:=H V (Ó.Le.refl V);have L:∀{W:un},V.Le W->bP 6 dH W cp cn c:=λg=>hc.le g;refine sQ V _ ⟨s,s,_,z,π,λ_=>⟨s,s,_,_,_,_,_,_,_,_,_,_,_,_,a,N,E,F,G,I,J,K,λV2 M=>(uh (L M) (λm h=>(kc m h).2) (λm h=>(kc m h).1) ω (H V2 M).2.2.2.2.1 A.2 A.1).s ?_⟩⟩;rintro r X Y rfl;have L3:=M.m Y;obtain ⟨-,⟨E,F,G,I,J,K⟩,O,Q,-,-,-⟩:=H X aA;refine ⟨_,rfl,λn=>⟨s,s,pl,O,λZ l4=>(g_ kb x (H Z aA).2.2.2.2.2.1 (hb.le aA) kx (L aA) kc ω).s ?_⟩,λn=>⟨λw=>⟨s,s,pr,Q,λV7 l7=>(g_ kb y (H V7 aA).2.2.2.2.2.2 (hb.le aA) ky (L aA) kc ω).s ?_⟩,λw=>?_⟩⟩
  ·have n:Dg c l=1:=by simpa using n
   rintro r V5 l5 ⟨q,rfl,g⟩;exact ⟨q,rfl,λV6 C=>⟨q,rfl,by unfold rO;rw [Ä n];exact g.le C⟩⟩
  ·have n:¬Dg c l=1:=by simpa using n
   have w:Dg c l=-1:=by simpa using w
   rintro r V5 l5 ⟨q,rfl,g⟩;exact ⟨q,rfl,λV6 C=>⟨q,rfl,by unfold rO;rw [Ã n,Ä w];exact g.le C⟩⟩
  ·have n:¬Dg c l=1:=by simpa using n
   have w:¬Dg c l=-1:=by simpa using w
   have ⟨w1,w2⟩:=BD kc A;have ⟨w3,w4⟩:=BD kc (pY A);refine ⟨s,s,_,_,_,_,_,_,_,_,_,_,_,_,a,N,E,F,G,I,J,K,s,s,pl,O,s,s,_,_,_,_,_,_,_,_,_,_,_,_,a,N,E,F,G,I,J,K,s,s,pr,Q,s,s,_,_,_,_,_,_,_,_,_,_,_,_,a,N,E,F,G,I,J,K,λfD D=>(kS (L aA) kc ω (H fD aA).2.2.2.2.1 A).s ?_⟩;rintro r eX dq ⟨q1,m1,d1,rfl,h1⟩;refine ⟨q1,m1,d1,rfl,λgQ eJ=>(g_ kb x (H gQ aA).2.2.2.2.2.1 (hb.le aA) kx (h1.le eJ) w1 ω).s ?_⟩;rintro r ji fk ⟨j,rfl,t1⟩;have R:=L3.m aA;refine ⟨j,rfl,λlH iL=>(j7 (H lH aA).2.2.2.2.1).s ?_⟩;rintro r mJ iE gr;have N6:dH mJ r (Õ l):=gr;obtain ⟨_,rfl⟩:=Ÿ (bN N6);have S:=R.m aA;refine wqQ ⟨rfl,λko gV=>(kS (L aA) kc ω ra (pY A)).s ?_⟩;rintro r nk kf ⟨q2,m2,d2,rfl,h2⟩;have T:=S.m aA;refine ⟨q2,m2,d2,rfl,λnq iF=>(g_ kb y (H nq aA).2.2.2.2.2.2 (hb.le aA) ky (h2.le iF) w3 ω).s ?_⟩;rintro r qM lD ⟨v,rfl,t2⟩;refine ⟨v,rfl,λuJ kN=>(we (H uJ ((T.m aA).m kN)).2.2.2.2.1 (t1.le aA) (t2.le kN)).s ?_⟩;rintro r tM rI ⟨o3,rfl,t3⟩;exact ⟨o3,rfl,λvO oX=>⟨o3,rfl,by unfold rO;rw [Ã n,Ã w];exact t3.le oX⟩⟩
def yw (a b:Rat×Rat):Int:=if dw a.1 b.1=0 then dw a.2 b.2 else dw a.1 b.1
theorem Yd {a b:Rat×Rat}:a=b↔yw a b=0:=by grind [yw,iW.1,iW.2]
def rF (x:Rat×Rat):List (Rat×Rat)->List (Rat×Rat)
 | []=>[x]
 | y::r=>if yw y x<0 then y::rF x r else if y=x then y::r else x::y::r
theorem YJ {x:Rat×Rat}:∀(o:zA (Rat×Rat))(k:Nat),k<=o.length->(∀j (h:j<o.length),j<k->yw o[j] x<0)->(∀h:k<o.length,¬yw o[k] x<0) ->rF x o=if (∃h:k<o.length,o[k]=x) then o else o.take k++x::o.drop k:=by
 intro o
 induction o with
 | nil=>
  intro k d _ _;simp [rF]
 | cons y r u=>
  intro k d a b
  cases k with
  | zero=>
   have c:¬yw y x<0:=b ψ;unfold rF;rw [Ã c];by_cases e:y=x
   ·rw [Ä e,Ä ⟨ψ,e⟩]
   grind
  | succ k=>
   have c:yw y x<0:=a 0 ψ ω;unfold rF;rw [Ä c,u k (by simpa using d) (λj h i=>a (j+1) (by simpa using h) ω) (λh=>b (by simpa using h))];by_cases e:∃h:k<r.length,r[k]=x
   ·obtain ⟨f,g⟩:=e;rw [Ä ⟨f,g⟩,Ä ⟨by simpa using f,g⟩]
   grind
theorem K4 (x:Rat×Rat):∀o:zA (Rat×Rat),(rF x o).length<=o.length+1
 | []=>by simp [rF]
 | y::r=>by
  have:=K4 x r;grind [rF]
def K5 {x y:Rat×Rat}:∀{o:zA (Rat×Rat)},y∈rF x o↔y=x\/y∈o
 | []=>by simp [rF]
 | z::r=>by
  unfold rF;split
  ·rw [ç,(K5 (x:=x) (y:=y) (o:=r)),ç];exact ⟨λh=>h.elim (λh=>.inr (.inl h)) λh=>h.elim .inl λh=>.inr (.inr h),λh=>h.elim (λh=>.inr (.inl h)) λh=>h.elim .inl λh=>.inr (.inr h)⟩
  ·split
   ·rename_i e;subst e;rw [ç];exact ⟨.inr,λh=>h.elim .inl id⟩
   ·rw [ç]
def Bx (l:List (Rat×Rat)):List (Rat×Rat):=l.foldl (λo x=>rF x o) []
theorem Md (l:zA (Rat×Rat)):(Bx l).length<=l.length:=by
 have:∀(l o:zA (Rat×Rat)),(l.foldl (λo x=>rF x o) o).length<=o.length+l.length:=by
  intro l
  induction l with
  | nil=>exact λo=>Ù _
  | cons y r u=>intro o;have a:=u (rF y o);have b:=K4 y o;rw [Ť,Ċ];omega
 grind [Bx]
def ZC {q:Rat×Rat}(h:er V (.agg xs.toArray) q):∀v∈xs,v.oneCell'=true:=by have ⟨_,_,_,_,_,_,_,_,_,_,_,_,_,_,ex⟩:=er.shape h;have ex:=Æ Array.toList (Value.agg.inj ex);dsimp only at ex;subst ex;intro v a;simp only [ç,ě,Ì] at a;rcases a with rfl|rfl|rfl|rfl|rfl|rfl<;>rfl
def Ww {vs:zA um}{qs:zA (Rat×Rat)}(h:è 6 er V vs qs)(hi:i<qs.length):∃b u E c1 p2 n2 c2 d F M N O Z c4,i*6+6<=vs.length/\(vs.drop (i*6)).take 6=[dB b,yG u E c1,yG p2 n2 c2,dB d,yG F M N,yG O Z c4]/\er V (hF #[dB b,yG u E c1,yG p2 n2 c2,dB d,yG F M N,yG O Z c4]) qs[i]:=by obtain ⟨xs,-,c,a⟩:=h.at_ i hi;have ⟨b,u,E,c1,p2,n2,c2,d,F,M,N,O,Z,c4,e⟩:=er.shape c;have e:=Æ Array.toList (Value.agg.inj e);dsimp only at e;subst e;have f:=a 5 _ rfl;have k:=(đ.1 f).1;refine ⟨_,u,E,c1,p2,n2,c2,_,F,M,N,O,Z,c4,ω,?_,c⟩;apply Qh1;intro j;rw [Ĳ];by_cases g:j<6;{rw [Ä g,Qn9];have:j=0\/j=1\/j=2\/j=3\/j=4\/j=5:=ω;rcases this with rfl|rfl|rfl|rfl|rfl|rfl;{exact (a 0 _ rfl)};{exact (a 1 _ rfl)};{exact (a 2 _ rfl)};{exact (a 3 _ rfl)};{exact (a 4 _ rfl)};exact f};rw [Ã g,Ŧ (by simp;omega)]
def qv {w:um}{a b:Rat×Rat}(h:er V v a)(h':er V w b)(hs:Sz k a.1/\Sz k a.2)(Z:Sz k b.1/\Sz k b.2)(hk:2*k<2^38):À 185 #[v,w] V λr W=>r=Ô Ŵ (yw a b):=by obtain ⟨p,n,c,s,x,y,q,m,e,z,A,B,rfl,C,D⟩:=h;obtain ⟨u,i,j,E,F,G,t,o,f,H,I,J,rfl,d,l⟩:=h';refine zj V _ λK L=>(e_ ra ra hs.1 Z.1).s ?_;rintro r V2 M rfl;refine ⟨_,rfl,λg N O=>?_,λg P Q=>(e_ ra ra hs.2 Z.2).s ?_⟩;{have g:¬dw a.1 b.1=0:=by{simpa using g};unfold yw;rw [Ã g]};have g:dw a.1 b.1=0:=by{simpa using g};rintro r R S rfl;exact ⟨_,rfl,λT U=>by unfold yw;rw [Ä g]⟩
def Cc {ls:zA (Rat×Rat)}(h:bP 6 er V p n ls)(hl:ls.length<=2000000)(hs:∀q∈ls,Sz k q.1/\Sz k q.2)(hk:2*k<2^38:=by omega):À 122 #[yG p n c] V λr W=>∃q m e,r=yG q m e/\bP 6 er W q m (Bx ls):=by
 obtain rfl:=h.len
 refine AU V _ ⟨λz V'=>∃(i:Nat)(O:zA (Rat×Rat)),z.2.2.2=(i:Int)/\i<=ls.length/\O.length<=i/\(∀q∈O,Sz k q.1/\Sz k q.2)/\Bx ls=(ls.drop i).foldl (λo x=>rF x o) O/\GR 6 er V' z.1 z.2.1 z.2.2.1 O,λz=>ls.length-z.2.2.2.toNat,
  ⟨(0,0,[],0),σ,0,[],rfl,ä _,ä _,(λq y=>by cases y),by rw [Wz5];rfl,GR.nil⟩,?_⟩
 rintro ⟨D,w2,us,z4⟩ V1 l1 ⟨i,O,e4,Xu,a3,E,f,l⟩;dsimp only at e4 l;subst e4;have g1:=l.len;have F:=l.le;refine ⟨rfl,λa=>?_,λa fD G bk H=>?_⟩;rotate_left
 ·have a:¬(i:Int)<ls.length:=Â a;obtain rfl:i=ls.length:=ω;rw [Wq8] at f;have f:=f;rw [f];subst g1;exact ⟨_,_,w2,rfl,bP.bR H (l.row.le λ_ _ g=>er.le g G) φ F⟩
 have a:(i:Int)<ls.length:=Á a;have A:i<ls.length:=ω
 have w:Ŵ.wrap ((i:Int)+1)=((i+1:Nat):Int):=by rw [ay ω];rfl
 dsimp only;rw [Ý,w];refine ldP (R:=er) er.shape ra A λe1 ep en ec eq em ee e2 fp fn a4 fq fm a5 a6=>?_;rw [(ī A),Ť] at f;have I:=hs _ (ú A);generalize ls[i]=x at *;refine ⟨λz _=>∃j:Nat,z=(j:Int)/\j<=O.length/\∀(s:Nat)(h:s<O.length),s<j->yw O[s] x<0,λz=>O.length-z.toNat,⟨0,σ,0,rfl,ä _,λs _ h=>Å h (ţ s)⟩,?_⟩;rintro z V2 l2 ⟨j,rfl,yH,jl⟩;have wj:Ŵ.wrap ((j:Int)+1)=((j+1:Nat):Int):=by rw [ay ω];rfl
 rw [Ý,wj];refine ⟨rfl,λz _=>z=true↔∃h:j<O.length,yw O[j] x<0,⟨λa=>?_,λa=>⟨false,σ,?_⟩⟩,?_⟩
 ·have a:=Á a;have d:j<O.length:=ω;obtain ⟨K,L,M,rc,N,P,Q,t,sp,S,T,U,u,W,X,Y,hr⟩:=Ww l.row d;refine ⟨ų,F,K,L,M,rc,N,P,Q,t,sp,S,T,U,u,W,⟨X,Y⟩,λV3 l3=>(qv ra ra (E _ (ú d)) I hk).s λr V4 l4 rfl=>⟨_,rfl,_,σ,by dsimp only;rw [Ñ];exact ⟨λh=>⟨d,h⟩,λ⟨_,h⟩=>h⟩⟩⟩
 ·have a:=Â a;exact ⟨π,λ⟨h,_⟩=>Å h ω⟩
 rintro z V5 l5 U1;refine ⟨rfl,λv=>?_,λv=>?_⟩
 ·have ⟨d,Z⟩:=U1.1 v;refine ⟨((j+1:Nat):Int),by (try dsimp only);omega,σ,j+1,rfl,d,λs h a7=>?_⟩;by_cases e:s=j;{subst e;exact Z};exact jl s h ω
 have a0:∀h:j<O.length,¬yw O[j] x<0:=λh B=>by have:=U1.2 ⟨h,B⟩;rw [v] at this;cases this
 have b:=YJ O j yH jl a0;refine ⟨λz _=>z=true↔¬∃h:j<O.length,O[j]=x,⟨λhe=>⟨true,σ,?_⟩,λhe=>?_⟩,?_⟩
 ·have he:(j:Int)=(D:Int):=by{simpa using he};exact ⟨λ_ ⟨h,_⟩=>Å h ω,λ_=>rfl⟩
 ·have he:¬(j:Int)=(D:Int):=by{simpa using he};have d:j<O.length:=ω;obtain ⟨K,L,M,rc,N,P,Q,t,sp,S,T,U,u,W,X,Y,hr⟩:=Ww l.row d;refine ⟨ų,F,K,L,M,rc,N,P,Q,t,sp,S,T,U,u,W,⟨X,Y⟩,λV6 l6=>(qv ra ra (E _ (ú d)) I hk).s λr V7 l7 rfl=>⟨_,rfl,_,σ,by dsimp only;rw [bne_iff_ne,ne_eq,<-Yd];exact ⟨λh ⟨_,B⟩=>h B,λh B=>h ⟨d,B⟩⟩⟩⟩
 rintro z V8 l8 CG;refine ⟨rfl,λv V9 l9 bk H J=>?_,λv=>?_⟩
 ·have a1:=CG.1 v;rw [Ã a1] at b;obtain ⟨xs,ys,x1,x2,x3,y1,y2,y3,r1,r2,r3,r4,r5⟩:=Bo (V:=V9) (l.up aA) φ (λ_ _=>ZC) H (es:=[_,_,_,_,_,_]) rfl ra (j:=j);refine ⟨ų,ų,ų,xs,x1,x2,ω,Ù _,Ù 6,x2,x3,λa8 J2 sp c' h1 h2=>?_⟩;show ∃_,_;rw [r1,r2];(refine ⟨ys,y1,y2,Ù _,y3,ω,ω,r3,r4,λa2 C h3 h4=>⟨(j+(1+(D-j)),C,_,((i+1:Nat):Int)),ω,Ų,i+1,rF x O,rfl,A,?_,?_,f,?_⟩⟩);{rw [b,í,ë,Ċ,Ĵ];omega};{intro q y;rcases K5.1 y with rfl|y;{exact I};exact E q y};show GR 6 er _ _ _ _ (rF x O);rw [b];exact r5 a2 C h3 h4
 ·have hex:=Qv0 λh=>by{have:=CG.2 h;rw [v] at this;cases this};rw [Ä hex] at b;rw [b] at f;exact ⟨(D,w2,us,((i+1:Nat):Int)),ω,σ,i+1,O,rfl,A,ω,E,f,l.up aA⟩
end
end Go.Proofs.Tryz
