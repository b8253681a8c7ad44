import Derived.Test.YtckenacdnbolaaaGreatDoorR13
import Derived.Test.YtckenacdnbolaaaGreatDoorR7
import Derived.Test.YtckenacdnbolaaaGreatDoorR12
set_option linter.all false
open Go.IntKind (i64 u64 u32)
namespace Go.Proofs.Tryz
open Go.Eng Go.Big
open Go.Value renaming slice→hF,agg→dB,bool→qvQ,int→qvK
variable{V:View}{p:OA}{c n:Nat}
theorem fH (b:md){x:Nat}(h:RN V p n c x) :
  aa prog 85 #[qvQ b,hF p n c] V λr V'=>RI V' r (if b then -(x:Int) else x):=by
 have f:=iF h.len;refine Jt V _ ⟨λa e d=>?_,λa e d=>?_⟩
 ·rw [if_pos a];refine RI.mk ?_ ?_
  ·rw [Qz5,decide_eq_true_eq,decide_eq_true_eq];omega
  ·rw [Qd5,Qx6];exact h.le d
 ·rw [a,if_neg (by decide)];refine RI.mk ?_ ?_
  ·symm;rw [decide_eq_false_iff_not];omega
  ·rw [Qx6];exact h.le d
theorem kU {b:md}{x:Nat}{z:Int}(h:RN V p n c x)(hz:(if b then -(x:Int) else x)=z) :
  aa prog 85 #[qvQ b,hF p n c] V λr V'=>∃(Pp:md)(RH:OA)(Rc Pw:Nat),r=dB #[qvQ Pp,hF RH Rc Pw]/\∀V3:ut,V'.Le V3->RI V3 (dB #[qvQ Pp,hF RH Rc Pw]) z:=by
 refine (fH b h).s ?_;rintro r V2 d ⟨e,f,i,rfl,g⟩;rw [hz] at g ⊢;exact qyQ ⟨rfl,λV3 a=>⟨_,_,_,rfl,g.le a⟩⟩
theorem Nv (n:Int)(h0:-9223372036854775808<=n)(h1:n<=9223372036854775807) :
  aa prog 87 #[qvK .i64 n] V λr V'=>RI V' r n:=by
 refine Lw V _ ⟨λa d f=>?_,λa d f=>?_⟩
 ·have a:n<0:=by simpa using a
  have e:u64.wrap (0-u64.wrap n)=((-n).toNat:Int):=by rw [xT,xT];omega
  rw [e];refine (fI _).s ?_;rintro r V2 g ⟨h,i,j,rfl,b⟩;exact ⟨_,_,_,rfl,λk c=>kU (b.le c) (by simp;omega)⟩
 ·have a:0<=n:=by simpa using a
  have e:u64.wrap n=(n.toNat:Int):=by rw [bj (by omega)];omega
  rw [e];refine (fI _).s ?_;rintro r V2 g ⟨h,i,j,rfl,b⟩;exact ⟨_,_,_,rfl,λk c=>kU (b.le c) (by simp;omega)⟩
theorem nS (z:Int)(h:RN V p n c z.natAbs) :
  aa prog 143 #[dB #[qvQ (decide (z<0)),hF p n c]] V λr V'=>r=qvK .i64 z.sign:=by
 have f:=iF h.len;refine Jw V _ ⟨λb d e=>?_,λb=>⟨λa d e=>?_,λa d e=>?_⟩⟩
 ·have:z=0:=by simp at b;omega
  rw [this];rfl
 ·rw [decide_eq_true_eq] at a;rw [Qm7 a]
 ·rw [decide_eq_false_iff_not] at a;have:0<z:=by simp at b;omega
  rw [Qf0 this]
theorem jz (z:Int)(h:RN V p n c z.natAbs) :
  aa prog 36 #[dB #[qvQ (decide (z<0)),hF p n c]] V λr V'=>RI V' r (-z):=by
 refine Gu V _ λd a=>kU (h.le a) ?_;by_cases b:z<0<;>simp [b]<;>omega
theorem mK (z w:Int){q:OA}{m e:Nat}(ha:RN V p n c z.natAbs)(hb:RN V q m e w.natAbs)(hm:(ah z.natAbs).length+(ah w.natAbs).length<=1099511627776:=by omega) :
  aa prog 141 #[dB #[qvQ (decide (z<0)),hF p n c],dB #[qvQ (decide (w<0)),hF q m e]] V λr V'=>RI V' r (z*w):=by
 refine Ly V _ λh a=>(dm (ha.le a) (hb.le a) hm).s ?_;rintro r V2 i ⟨j,k,l,rfl,b⟩;rw [af,af] at b;refine ⟨_,_,_,rfl,λo d=>kU (b.le d) ?_⟩;have f:z=aA (decide (z<0)) (ah z.natAbs):=(aC z).symm;have g:w=aA (decide (w<0)) (ah w.natAbs):=(aC w).symm
 conv=>rhs;rw [f,g]
 unfold aA;rw [af,af];cases decide (z<0)<;>cases decide (w<0)<;>simp [Wy5,Ww2]
theorem vE (z w:Int){q:OA}{m e:Nat}(ha:RN V p n c z.natAbs)(hb:RN V q m e w.natAbs)(hm:(ah z.natAbs).length<=1099511627776)(hn:(ah w.natAbs).length<=1099511627776:=by omega) :
  aa prog 139 #[dB #[qvQ (decide (z<0)),hF p n c],dB #[qvQ (decide (w<0)),hF q m e]] V λr V'=>RI V' r (z+w):=by
 refine Lt V _ ⟨λi t a=>(Nw (ha.le a) (hb.le a) hm hn).s ?_,λi t a=>(iW (ha.le a) (hb.le a) hm hn).s ?_⟩
 ·rintro r V2 g ⟨k,l,o,rfl,b⟩;rw [af,af] at b;refine ⟨_,_,_,rfl,λs d=>kU (b.le d) ?_⟩;by_cases h:z<0<;>by_cases hw:w<0<;>simp [h,hw] at i⊢<;> omega
 ·rintro r V2 g rfl;refine ⟨_,rfl,λf s d=>?_,λf s d=>?_⟩
  ·have f:z.natAbs<w.natAbs:=by simpa [iB] using f
   refine (rW (hb.le (a.m (g.m d))) (ha.le (a.m (g.m d))) hn (aG (Qr3 f)) (by rw [af,af];omega)).s ?_;rintro r u v ⟨k,l,o,rfl,b⟩;rw [af,af] at b;refine ⟨_,_,_,rfl,λx j=>kU (b.le j) ?_⟩;by_cases h:z<0<;>by_cases hw:w<0<;>simp [h,hw] at i⊢<;> omega
  ·have f:w.natAbs<=z.natAbs:=by simpa [←Wq7,iB] using f
   refine (rW (ha.le (a.m (g.m d))) (hb.le (a.m (g.m d))) hm (aG f) (by rw [af,af];omega)).s ?_;rintro r u v ⟨k,l,o,rfl,b⟩;rw [af,af] at b;refine ⟨_,_,_,rfl,λx j=>kU (b.le j) ?_⟩;by_cases h:z<0<;>by_cases hw:w<0<;>simp [h,hw] at i⊢<;> omega
end Go.Proofs.Tryz
namespace Go.Eng
open Go.Big
def xJ (d:Nat):List Nat:=if d=1 then [] else ah d
def RQ (V:View)(v:Value)(q:Rat):Prop:=∃p n c p' n' c',v=.agg #[.bool (decide (q.num<0)),.slice p n c,.slice p' n' c'] /\
 RD V p n c (ah q.num.natAbs)/\RD V p' n' c' (xJ q.den)
def RQ.le {V V':ut}{v:un}{q:Rat}(h:RQ V v q)(l:V.Le V'):RQ V' v q:=by
 obtain ⟨p,n,c,a,b,d,e,f,g⟩:=h;exact ⟨p,n,c,a,b,d,e,f.le l,g.le l⟩
def HE {q:Rat}:xJ q.den=[]↔q.den=1:=by
 unfold xJ;split
 ·rename_i h;simp [h]
 ·rename_i h;rw [bE];have:=q.den_nz;omega
end Go.Eng
namespace Go.Proofs.Tryz
open Go.Eng Go.Big
open Go.Value renaming slice→hF,agg→dB,bool→qvQ,int→qvK
variable{V:View}{p p':OA}{c c' k m n n':Nat}{x y:Rat}{v w:Value}
theorem pJ {q:Rat}(h:RD V p n c (xJ q.den)):n=0↔q.den=1:=by
 rw [←HE,h.len,Qw5]
theorem dQ (q:Rat)(b:md)(h2:RD V p' n' c' (xJ q.den)) :
  aa prog 84 #[dB #[qvQ b,hF p n c,hF p' n' c']] V λr V'=>∃p1 n1 c1,r=hF p1 n1 c1/\RN V' p1 n1 c1 q.den:=by
 have d:=pJ h2;refine Lv V _ ⟨λa h f=>mL.s ?_,λa h f=>⟨_,_,_,rfl,?_⟩⟩
 ·rintro r V2 j ⟨p1,n1,c1,rfl,g⟩;have:q.den=1:=d.1 (by simp at a;omega);rw [this];exact ⟨_,_,_,rfl,λk i=>⟨_,_,_,rfl,g.le i⟩⟩
 ·have:q.den≠1:=λe=>by have:=d.2 e;simp at a;omega
  unfold xJ at h2;rw [if_neg this] at h2;exact h2.le f
theorem rJ {q:Rat}{z:Int}{d:Nat}(hn:q.num=z)(hd:q.den=d)(h1:RD V p n c (ah z.natAbs))(h2:RD V p' n' c' (xJ d)){b:md}(hb:b=decide (z<0)) :
  RQ V (dB #[qvQ b,hF p n c,hF p' n' c']) q:=by
 subst hn hd hb;exact qyW ⟨rfl,h1,h2⟩
theorem nQ (z:Int){d:Nat}{q:OA}{e:Nat}(hx:RN V p n c z.natAbs)(hy:RN V q m e d)(hm:(ah z.natAbs).length<=274877906944)(hn:(ah d).length<=274877906944)(hd:d≠0) :
  aa prog 140 #[dB #[qvQ (decide (z<0)),hF p n c],hF q m e] V λr V'=>RQ V' r (mkRat z d):=by
 refine Jp V _ λV1 A=>(iA (hx.le A) (hy.le A) hm hn).s ?_;rintro r V2 X ⟨p1,n1,c1,rfl,h⟩;have J:=Qb5 z.natAbs d;have K:=Qj5 z.natAbs d;have L:0<Nat.gcd z.natAbs d:=Wy1 _ (by omega);have i:(ah (Nat.gcd z.natAbs d)).length<=274877906944:=Qw8 (aG (Wq5 (by omega) J)) hn;have M:(mkRat z d).num=z / (Nat.gcd d z.natAbs:Nat):=by rw [Qr7,if_neg hd]
 have a:(mkRat z d).den=d / Nat.gcd d z.natAbs:=by rw [Wq4,if_neg hd]
 rw [Qd4 d] at M a;generalize hG:Nat.gcd z.natAbs d=g at *;generalize mkRat z d=w at *;refine ⟨_,_,_,rfl,λV3 B=>mL.s ?_⟩;rintro r V4 C ⟨p2,n2,c2,rfl,h1⟩;refine ⟨_,_,_,rfl,λV5 j=>(iW (h.le (B.m (C.m j))) (h1.le j) (by omega) (by decide)).s ?_⟩;rintro r V6 N rfl
 replace hx:=hx.le (A.m (X.m (B.m (C.m (j.m N)))))
 replace hy:=hy.le (A.m (X.m (B.m (C.m (j.m N)))))
 replace h:=h.le (B.m (C.m (j.m N)))
 refine ⟨_,rfl,λY V7 D=>(fU (hx.le D) (h.le D) hm i L).s ?_,λY pf E=>mL.s ?_⟩
 ·rintro r V8 Z ⟨p4,n4,c4,p5,n5,c5,rfl,g1,-⟩;have a0:(mkRat z d).num.natAbs=(mkRat z d).num.natAbs:=rfl;obtain ⟨k,O⟩:=K;have P:z.natAbs / g=k:=by rw [O,Nat.mul_div_cancel_left _ L]
  rw [P] at g1
  have hz:z=(g:Int)*(if z<0 then -(k:Int) else k):=by
   split
   ·rw [Ww2,←Qn1,←O];omega
   ·rw [←Qn1,←O];omega
  have b:w.num=(if z<0 then -(k:Int) else k):=by
   rw [M];generalize (if z<0 then -(k:Int) else k)=t at *;rw [hz,Qg6 _ (by omega)]
  refine qyW ⟨rfl,λV9 Q=>(fH _ (g1.le Q)).s ?_⟩
  have l:(if decide (z<0)=true then -(k:Int) else k)=w.num:=by
   rw [b];simp
  rw [l];rintro r fQ o ⟨p7,n7,c7,rfl,g2⟩;refine qyQ ⟨rfl,λfD F=>(fU (hy.le (D.m (Z.m (Q.m (o.m F))))) (h.le (D.m (Z.m (Q.m (o.m F))))) hn i L).s ?_⟩;rintro r gS bS ⟨p8,n8,c8,p9,n9,c9,rfl,R,-⟩;rw [←a] at R;refine qyW ⟨rfl,λj7 G=>mL.s ?_⟩;rintro r lB H ⟨O4,a1,a2,rfl,S⟩;have a3:(ah w.den).length<=274877906944:=by rw [a];exact Qw8 (aG (Qm5 _ _)) hn
  refine ⟨_,_,_,rfl,λjI s=>(iW (R.le (G.m (H.m s))) (S.le s) (by omega) (by decide)).s ?_⟩;rintro r lH T rfl;refine ⟨_,rfl,λf lC U=>rJ rfl rfl (g2.le (F.m (bS.m (G.m (H.m (s.m (T.m U))))))) ?_ rfl,λf mE u=>rJ rfl rfl (g2.le (F.m (bS.m (G.m (H.m (s.m (T.m u))))))) ?_ rfl⟩
  ·have:w.den=1:=ko.1 (by simpa using f);rw [HE.2 this];exact RD.nil
  ·have:w.den≠1:=λe=>by rw [ko.2 e] at f;simp at f
   unfold xJ;rw [if_neg this];exact R.le (G.m (H.m (s.m (T.m u))))
 ·have v:g=1:=ko.1 (by simpa using Y);have b:w.num=z:=by rw [M,v];simp
  have x:w.den=d:=by rw [a,v];simp
  rintro r vh I ⟨a4,a5,a6,rfl,S⟩;refine ⟨_,_,_,rfl,λqB y=>(iW (hy.le (E.m (I.m y))) (S.le y) (by omega) (by decide)).s ?_⟩;rintro r tC W rfl;refine ⟨_,rfl,λf lC U=>rJ b x (hx.le (E.m (I.m (y.m (W.m U))))) ?_ rfl,λf mE u=>rJ b x (hx.le (E.m (I.m (y.m (W.m u))))) ?_ rfl⟩
  ·have:d=1:=ko.1 (by simpa using f);unfold xJ;rw [if_pos this];exact RD.nil
  ·have:d≠1:=λe=>by rw [ko.2 e] at f;simp at f
   unfold xJ;rw [if_neg this];exact hy.le (E.m (I.m (y.m (W.m u))))
theorem dS (n:Int)(h0:-9223372036854775808<=n)(h1:n<=9223372036854775807:=by omega) :
  aa prog 32 #[qvK .i64 n] V λr V'=>RQ V' r (n:Rat):=by
 refine OQ V _ λb e=>(Nv n h0 h1).s ?_;rintro r V2 f ⟨p,m,c,rfl,g⟩;exact qyQ ⟨rfl,λh a=>rJ (z:=n) (d:=1) rfl rfl (g.le a) RD.nil rfl⟩
theorem qC (q:Rat)(h1:RD V p n c (ah q.num.natAbs)) :
  aa prog 115 #[dB #[qvQ (decide (q.num<0)),hF p n c,hF p' n' c']] V λr V'=>r=qvK .i64 q.num.sign:=by
 refine SO V _ λb a=>(nS q.num (h1.le a)).s ?_;rintro r V2 d rfl;exact ⟨_,rfl,λe f=>rfl⟩
theorem mM (q:Rat)(h1:RD V p n c (ah q.num.natAbs))(h2:RD V p' n' c' (xJ q.den)) :
  aa prog 49 #[dB #[qvQ (decide (q.num<0)),hF p n c,hF p' n' c']] V λr V'=>RQ V' r (-q):=by
 refine LA V _ λf a=>(jz q.num (h1.le a)).s ?_;rintro r V2 e ⟨h,i,j,rfl,g⟩;exact qyQ ⟨rfl,λk b=>rJ (q:=-q) (z:=-q.num) (d:=q.den) (by rfl) (by rfl) (g.le b) ((h2.le a).le (e.m b)) rfl⟩
theorem vF {x:Nat}(h:RN V p n c x) :
  aa prog 85 #[qvQ false,hF p n c] V λr V'=>RI V' r (x:Int):=by
 have:=fH false h
 rwa [if_neg (by decide)] at this
theorem dq (h:Sz k x):(ah x.num.natAbs).length<=k/\(ah x.den).length<=k/\(ah (x.den:Int).natAbs).length<=k:=⟨ag h.1,ag h.2,ag h.2⟩
theorem dG (hx:RQ V v x)(hy:RQ V w y)(hk:Sz k x)(hm:Sz m y)(hkm:k+m<274877906944:=by omega) :
  aa prog 81 #[v,w] V λr V'=>RQ V' r (x+y):=by
 obtain ⟨p,n,c,p',n',c',rfl,h,b⟩:=hx;obtain ⟨q,i,e,q',i',e',rfl,j,f⟩:=hy;have B:=pJ b;have Ep:=pJ f;have ⟨b1,b2,b3,b4⟩:=zo hk hm;have ⟨d1,d2,d3⟩:=dq hk;have ⟨d4,d5,d6⟩:=dq hm;have l:x+y=mkRat (x.num*y.den+y.num*x.den) (x.den*y.den):=Rat.add_def' x y;refine (λtail=>Jv V _ ⟨λC=>⟨λD V1 o=>?_,λ_=>tail⟩,λ_=>tail⟩) ?_
 ·clear tail;have C:x.den=1:=B.1 (by simp at C;omega);have D:y.den=1:=Ep.1 (by simp at D;omega);refine (vE x.num y.num (h.le o) (j.le o) (by omega)).s ?_;rintro r V2 R ⟨p2,n2,c2,rfl,g⟩
  have e1:x+y=((x.num+y.num:Int):Rat):=by
   rw [l,C,D];simp [Qh1]
  rw [e1];exact qyQ ⟨rfl,λV3 u=>rJ (z:=x.num+y.num) (d:=1) rfl rfl (g.le u) RD.nil rfl⟩
 ·intro V1 o;refine (dQ y _ (f.le o)).s ?_;rintro r V2 R ⟨p1,n1,c1,rfl,g1⟩;refine ⟨_,_,_,rfl,λV3 u=>(vF (g1.le u)).s ?_⟩;rintro r V4 l4 ⟨p3,n3,c3,rfl,g3⟩;have S:=o.m (R.m (u.m l4));refine qyQ ⟨rfl,λV5 E=>(mK x.num y.den (h.le (S.m E)) (g3.le E)).s ?_⟩;rintro r V6 l6 ⟨p5,n5,c5,rfl,g5⟩;have T:=S.m (E.m l6);refine qyQ ⟨rfl,λV7 F=>(dQ x _ (b.le (T.m F))).s ?_⟩;rintro r V8 U ⟨p7,n7,c7,rfl,g7⟩;have Tb:=T.m (F.m U);refine ⟨_,_,_,rfl,λV9 G=>(vF (g7.le G)).s ?_⟩;rintro r fQ s ⟨p9,n9,c9,rfl,g9⟩;have a:=Tb.m (G.m s);refine qyQ ⟨rfl,λfD A=>(mK y.num x.den (j.le (a.m A)) (g9.le A)).s ?_⟩;rintro r gS W ⟨UN,a0,a1,rfl,H⟩;have H9:=a.m (A.m W);refine qyQ ⟨rfl,λj7 I=>(vE _ _ (g5.le (F.m (U.m (G.m (s.m (A.m (W.m I))))))) (H.le I) (Qw8 (ag b1) (by omega)) (Qw8 (ag b2) (by omega))).s ?_⟩;rintro r lB cz ⟨a2,a3,a4,rfl,J⟩;have X:=H9.m (I.m cz);refine qyQ ⟨rfl,λjI K=>(dQ x _ (b.le (X.m K))).s ?_⟩;rintro r lH Y ⟨a5,a6,a7,rfl,L⟩;have CT:=X.m (K.m Y);refine ⟨_,_,_,rfl,λlC M=>(dQ y _ (f.le (CT.m M))).s ?_⟩;rintro r mE Z ⟨a8,a9,b0,rfl,N⟩;refine ⟨_,_,_,rfl,λpf O=>(dm (L.le (M.m (Z.m O))) (N.le O)).s ?_⟩;rintro r vh fl ⟨b5,b6,b7,rfl,t⟩;rw [af,af] at t;refine ⟨_,_,_,rfl,λqB gi=>(nQ _ (J.le (K.m (Y.m (M.m (Z.m (O.m (fl.m gi))))))) (t.le gi) (Qw8 (ag b3) (by omega)) (Qw8 (ag b4) (by omega)) (Qb3 x.den_nz y.den_nz)).s ?_⟩;rw [l];rintro r tC gV ⟨b8,b9,c0,c4,c6,c8,rfl,P,Q⟩;exact qyZ ⟨rfl,λrk ij=>⟨_,_,_,_,_,_,rfl,P.le ij,Q.le ij⟩⟩
theorem ia (hx:RQ V v x)(hy:RQ V w y)(hk:Sz k x)(hm:Sz m y)(hkm:k+m<274877906944:=by omega) :
  aa prog 111 #[v,w] V λr V'=>RQ V' r (x-y):=by
 have a:=hx;obtain ⟨p,n,c,l,o,s,rfl,t,u⟩:=hx;obtain ⟨q,i,e,z,A,B,rfl,b,d⟩:=hy;refine LB V _ λF f=>(mM y (b.le f) (d.le f)).s ?_;rintro r V2 C g;obtain ⟨G,H,I,J,K,L,rfl,M,N⟩:=id g;refine qyZ ⟨rfl,λO h=>(dG (a.le (f.m (C.m h))) (g.le h) hk hm.neg hkm).s ?_⟩;rw [←Qr8];rintro r P Q ⟨R,S,T,U,W,X,rfl,D,E⟩;exact qyZ ⟨rfl,λY j=>⟨_,_,_,_,_,_,rfl,D.le j,E.le j⟩⟩
theorem fw (hx:RQ V v x)(hy:RQ V w y)(hk:Sz k x)(hm:Sz m y)(hkm:k+m<274877906944:=by omega) :
  aa prog 109 #[v,w] V λr V'=>r=qvK .i64 (dI x y):=by
 have a:=hx;have b:=hy;obtain ⟨p,n,c,f,g,h,rfl,j,l⟩:=hx;obtain ⟨q,i,e,o,s,t,rfl,u,z⟩:=hy;refine SN V _ λC d=>(ia (a.le d) (b.le d) hk hm hkm).s ?_;rintro r V2 D ⟨E,F,G,H,I,J,rfl,A,K⟩;refine qyZ ⟨rfl,λL B=>(qC (x-y) (A.le B)).s ?_⟩;rintro r M N rfl;exact ⟨_,rfl,λO P=>rfl⟩
theorem aW (hx:RQ V v x)(hy:RQ V w y)(hk:Sz k x)(hm:Sz m y)(hkm:k+m<274877906944:=by omega) :
  aa prog 82 #[v,w] V λr V'=>RQ V' r (x*y):=by
 obtain ⟨p,n,c,K,L,M,rfl,b,f⟩:=hx;obtain ⟨q,i,e,N,O,P,rfl,h,j⟩:=hy;have s:=pJ f;have Q:=pJ j;have ⟨d1,d2,d3⟩:=dq hk;have ⟨d4,d5,d6⟩:=dq hm;have l:x*y=mkRat (x.num*y.num) (x.den*y.den):=Wk1 x y;have R:(x.num*y.num).natAbs<2^(k+m):=by rw [Qv3];exact cu hk.1 hm.1
 have S:x.den*y.den<2^(k+m):=cu hk.2 hm.2;refine (λtail=>Gw V _ ⟨λt=>⟨λu T a=>?_,λ_=>tail⟩,λ_=>tail⟩) ?_
 ·clear tail;have t:x.den=1:=s.1 (by simp at t;omega);have u:y.den=1:=Q.1 (by simp at u;omega);refine (mK x.num y.num (b.le a) (h.le a)).s ?_;rintro r V2 A ⟨U,W,X,rfl,g⟩
  have Y:x*y=((x.num*y.num:Int):Rat):=by
   rw [l,t,u];simp [Qh1]
  rw [Y];exact qyQ ⟨rfl,λZ o=>rJ (z:=x.num*y.num) (d:=1) rfl rfl (g.le o) RD.nil rfl⟩
 ·intro T a;refine (mK x.num y.num (b.le a) (h.le a)).s ?_;rintro r V2 A ⟨U,W,X,rfl,g2⟩;refine qyQ ⟨rfl,λZ o=>(dQ x _ (f.le (a.m (A.m o)))).s ?_⟩;rintro r V4 F ⟨p4,n4,c4,rfl,g4⟩;refine ⟨_,_,_,rfl,λV5 B=>(dQ y _ (j.le (a.m (A.m (o.m (F.m B)))))).s ?_⟩;rintro r V6 G ⟨p6,n6,c6,rfl,g6⟩;refine ⟨_,_,_,rfl,λV7 C=>(dm (g4.le (B.m (G.m C))) (g6.le C)).s ?_⟩;rintro r V8 l8 ⟨p8,n8,c8,rfl,H⟩;rw [af,af] at H;refine ⟨_,_,_,rfl,λV9 I=>(nQ _ (g2.le (o.m (F.m (B.m (G.m (C.m (l8.m I))))))) (H.le I) (Qw8 (ag R) (by omega)) (Qw8 (ag S) (by omega)) (Qb3 x.den_nz y.den_nz)).s ?_⟩;rw [l];rintro r tC gV ⟨a0,a1,a2,a3,a4,a5,rfl,D,E⟩;exact qyZ ⟨rfl,λrk J=>⟨_,_,_,_,_,_,rfl,D.le J,E.le J⟩⟩
end Go.Proofs.Tryz
namespace Go.Eng
open Go.Big
open Go.Value renaming slice→hF,agg→dB,bool→qvQ
def RP (V:View)(v:Value)(x y:Rat):Prop:=∃p n c p' n' c' q m e q' m' e',v=.agg #[.bool (decide (x.num<0)),.slice p n c,.slice p' n' c',.bool (decide (y.num<0)),.slice q m e,.slice q' m' e'] /\
 RQ V (.agg #[.bool (decide (x.num<0)),.slice p n c,.slice p' n' c']) x/\RQ V (.agg #[.bool (decide (y.num<0)),.slice q m e,.slice q' m' e']) y
def RP.le {V V':ut}{v:un}{x y:Rat}(h:RP V v x y)(l:V.Le V'):RP V' v x y:=by
 obtain ⟨p,n,c,a,b,d,q,m,e,f,g,i,rfl,j,k⟩:=h;exact ⟨p,n,c,a,b,d,q,m,e,f,g,i,rfl,j.le l,k.le l⟩
def RQ.shape {V:ut}{v:un}{q:Rat}(h:RQ V v q):∃p n c p' n' c',v=dB #[qvQ (decide (q.num<0)),hF p n c,hF p' n' c']:=by
 obtain ⟨p,n,c,p',n',c',e,-⟩:=h;exact qyW e
end Go.Eng
namespace Go.Proofs.Tryz
open Go.Eng Go.Big
open Go.Value renaming slice→hF,bool→qvQ,int→qvK
variable{V:View}{u w:Value}{px py qx qy:Rat}{k m:Nat}
theorem wM {p:OA}{n c:Nat}{ds:pz Nat}(h:RD V p n c ds)(hm:ds.length<=1099511627776:=by omega) :
  aa prog 102 #[hF p n c] V λr V'=>∃p1 n1 c1,r=hF p1 n1 c1/\RD V' p1 n1 c1 ds:=by
 have a:=h.len;refine Gy V _ ⟨aK ds,h.sl,by simp [a],by omega,by omega,by simp,by simp [a],?_,?_⟩
 ·intro v e;simp only [aK,Qz0] at e;obtain ⟨d,-,rfl⟩:=e;rfl
 ·intro i J sp j f k l m b g;refine ⟨_,_,_,rfl,?_⟩;simp only [Qz1,Qc1,Qd3,Qn0] at g f ⊢;exact copied h.fy a f g
theorem lO {v:un}{z:Int}(h:RI V v z)(hm:(ah z.natAbs).length<=1099511627776:=by omega) :
  aa prog 42 #[v] V λr V'=>RI V' r z:=by
 obtain ⟨p,n,c,rfl,h⟩:=h;refine Gx V _ λd a=>(wM (h.le a) hm).s ?_;rintro r V2 e ⟨f,i,j,rfl,g⟩;exact ⟨_,_,_,rfl,λk b=>⟨_,_,_,rfl,g.le b⟩⟩
theorem dH (x y:Int)(h0:-9223372036854775808<=x)(h1:x<=9223372036854775807)(h2:-9223372036854775808<=y)(h3:y<=9223372036854775807:=by omega) :
  aa prog 43 #[qvK .i64 x,qvK .i64 y] V λr V'=>RP V' r (x:Rat) (y:Rat):=by
 refine JF V _ λh i=>(dS x h0 h1).s ?_;rintro r V2 j a;obtain ⟨p,n,c,k,l,o,rfl⟩:=a.shape;refine qyZ ⟨rfl,λs f=>(dS y h2 h3).s ?_⟩;rintro r t g b;obtain ⟨q,m,e,u,v,w,rfl⟩:=b.shape;exact qyZ ⟨rfl,λz d=>⟨_,_,_,_,_,_,_,_,_,_,_,_,rfl,a.le (f.m (g.m d)),b.le d⟩⟩
theorem fJ {v:un}{c:Rat}(hp:RP V u px py)(hc:RQ V v c)(hq:RP V w qx qy)(s1:Sz k px)(s2:Sz k py)(s3:Sz m c)(s4:Sz m qx)(s5:Sz m qy)(hkm:k+(m+m+1)<274877906944:=by omega) :
  aa prog 31 #[u,v,w] V λr V'=>RP V' r (px+c*qx) (py+c*qy):=by
 obtain ⟨x,y,z,A,B,C,D,E,F,G,H,I,rfl,d,e⟩:=hp;obtain ⟨J,K,L,M,N,O,rfl⟩:=hc.shape;obtain ⟨P,Q,R,S,T,U,W,X,Y,Z,m4,e4,rfl,f,g⟩:=hq;refine GA V _ λV1 a=>(aW (hc.le a) (f.le a) s3 s4).s ?_;rintro r V2 l n;obtain ⟨a1,a2,a3,a4,a5,a6,rfl⟩:=n.shape;refine qyZ ⟨rfl,λV3 h=>(dG (d.le (a.m (l.m h))) (n.le h) s1 (s3.mul s4)).s ?_⟩;rintro r V4 l4 o;obtain ⟨b1,b2,b3,b4,b5,b6,rfl⟩:=o.shape;have i:=a.m (l.m (h.m l4));refine qyZ ⟨rfl,λV5 b=>(aW (hc.le (i.m b)) (g.le (i.m b)) s3 s5).s ?_⟩;rintro r V6 p q;obtain ⟨d1,d2,d3,d4,d5,d6,rfl⟩:=q.shape;refine qyZ ⟨rfl,λV7 j=>(dG (e.le (i.m (b.m (p.m j)))) (q.le j) s2 (s3.mul s5)).s ?_⟩;rintro r V8 l8 s;obtain ⟨f1,f2,f3,f4,f5,f6,rfl⟩:=s.shape;exact qyZ ⟨rfl,λV9 t=>⟨_,_,_,_,_,_,_,_,_,_,_,_,rfl,o.le (b.m (p.m (j.m (l8.m t)))),s.le t⟩⟩
theorem Vf:Sz 1 ((-1:Int):Rat):=by unfold Sz;decide
theorem pH (hp:RP V u px py)(hq:RP V w qx qy)(s1:Sz k px)(s2:Sz k py)(s4:Sz m qx)(s5:Sz m qy)(hm:1<=m)(hkm:k+(m+m+1)<274877906944:=by omega) :
  aa prog 80 #[u,w] V λr V'=>RP V' r (px-qx) (py-qy):=by
 have d:=hp;have e:=hq;obtain ⟨j,l,n,o,p,q,s,t,v,x,y,z,rfl,-,-⟩:=hp;obtain ⟨A,B,c,C,D,E,F,G,H,I,J,K,rfl,-,-⟩:=hq;refine GL V _ λS L=>(dS (-1) (by omega)).s ?_;rintro r V2 M g;obtain ⟨T,U,W,X,Y,Z,rfl⟩:=g.shape;have h:=L.m M;refine qyZ ⟨rfl,λV3 f=>(fJ (d.le (h.m f)) (g.le f) (e.le (h.m f)) s1 s2 (Vf.s hm) s4 s5 hkm).s ?_⟩
 have c:∀a b:Rat,a+((-1:Int):Rat)*b=a-b:=by
  intro a b;have:((-1:Int):Rat)=-1:=rfl;rw [this,Rat.neg_mul,Rat.one_mul,Qr8]
 rw [c,c];rintro r V4 l4 ⟨b1,b2,b3,b4,b5,b6,b7,b8,b9,N,O,P,rfl,Q,R⟩;exact qyK ⟨rfl,λV5 i=>⟨_,_,_,_,_,_,_,_,_,_,_,_,rfl,Q.le i,R.le i⟩⟩
theorem nU (hp:RP V u px py)(hq:RP V w qx qy)(s1:Sz k px)(s2:Sz k py)(s4:Sz m qx)(s5:Sz m qy)(hkm:k+m<274877906944:=by omega) :
  aa prog 88 #[u,w] V λr V'=>r=qvQ (decide (px=qx/\py=qy)):=by
 obtain ⟨l,n,o,p,q,s,t,v,x,y,z,A,rfl,c,d⟩:=hp;obtain ⟨B,C,D,E,F,G,H,I,J,K,L,M,rfl,f,g⟩:=hq;refine Dq V _ λO b=>(fw (c.le b) (f.le b) s1 s4 hkm).s ?_;rintro r V2 j rfl;refine ⟨_,rfl,λa N i=>(fw (d.le (b.m (j.m i))) (g.le (b.m (j.m i))) s2 s5 hkm).s ?_,λa N i=>?_⟩
 ·have a:px=qx:=iC.2 (by simpa using a);rintro r P Q rfl;refine ⟨_,rfl,λR S=>?_⟩;congr 1;rw [Qz5,decide_eq_true_eq,beq_iff_eq,←iC];exact ⟨λh=>⟨a,h⟩,λh=>h.2⟩
 ·have a:¬px=qx:=λe=>by rw [iC.1 e] at a;simp at a
  rw [decide_eq_false λh=>a h.1]
end Go.Proofs.Tryz
namespace Go.Eng
open Go.Big
def RL (V:View)(v:Value)(a b c:Int):Prop:=∃p n s p' n' s' q m e,v=.agg #[.bool (decide (a<0)),.slice p n s,.bool (decide (b<0)),.slice p' n' s',.bool (decide (c<0)),.slice q m e] /\
 RD V p n s (ah a.natAbs)/\RD V p' n' s' (ah b.natAbs)/\RD V q m e (ah c.natAbs)
def RL.le {V V':ut}{v:un}{a b c:Int}(h:RL V v a b c)(l:V.Le V'):RL V' v a b c:=by
 obtain ⟨p,n,s,d,f,g,q,m,e,rfl,i,j,k⟩:=h;exact ⟨p,n,s,d,f,g,q,m,e,rfl,i.le l,j.le l,k.le l⟩
end Go.Eng
namespace Go.Proofs.Tryz
open Go.Eng Go.Big
open Go.Value renaming slice→hF,agg→dB,bool→qvQ,tuple→qvZ
variable{V:View}{a b c z:Int}{v:Value}
theorem Cz {p q:OA}{n c m e:Nat}{xs ys:pz Nat}(hx:RD V p n c xs)(hy:RD V q m e ys)(hm:xs.length<=1099511627776) :
  aa prog 162 #[hF p n c,hF q m e] V λr V'=>r=qvQ (decide (xs=ys)):=by
 have g:=hx.len;have s:=hy.len;refine BR V _ ⟨λb t u=>?_,λb=>?_⟩
 ·have b:n≠m:=by simp at b;omega
  rw [decide_eq_false λh=>b (by rw [g,s,h])]
 ·have b:n=m:=by simp at b;omega
  refine ⟨λz V'=>0<=z/\z<=n/\xs.take z.toNat=ys.take z.toNat,λz=>n-z.toNat,⟨0,by (try dsimp only);and_intros<;>first|exact True.intro|rfl,by (try dsimp only);omega,by (try dsimp only);omega,rfl⟩,?_⟩;rintro i V2 o ⟨j,k,d⟩;dsimp only at k d ⊢;obtain ⟨i,rfl⟩:=Qw2 j;simp only [Qq0] at d;refine ⟨by trivial,λf=>?_,λf v x=>?_⟩
  ·have f:i<n:=by simpa using f
   refine (hx.le o).rd i rfl (by omega) ((hy.le o).rd i rfl (by omega) ⟨λa y A=>?_,λa=>?_⟩)
   ·have a:xs[i]≠ys[i]:=by simp at a;omega
    rw [decide_eq_false λh=>a (by subst h;rfl)]
   ·have a:xs[i]=ys[i]:=by simp at a;omega
    have w:i64.wrap ((i:Int)+1)=((i+1:Nat):Int):=by rw [au (by omega)];omega
    simp only [w];refine ⟨((i+1:Nat):Int),?_,by (try dsimp only);and_intros<;>first|exact True.intro|rfl,by (try dsimp only);omega,by (try dsimp only);omega,?_⟩
    ·(try dsimp only);omega
    ·(try dsimp only)
     simp only [Qq0];rw [Qy7 (by omega),Qy7 (l:=ys) (by omega),d,a]
  ·have f:i=n:=by simp at f;omega
   rw [Qb7 (by omega),Qb7 (by omega)] at d;rw [decide_eq_true d]
theorem Sm {w:Int}:(decide (z<0)==decide (w<0))=true->(decide (ah z.natAbs=ah w.natAbs)=decide (z=w)):=by
 intro h;have b:(z<0↔w<0):=by simpa using h
 rw [Qz5,decide_eq_true_eq,decide_eq_true_eq];constructor
 ·intro a;have:=tS a;omega
 ·intro a;rw [a]
theorem mg {w:Int}{p q:OA}{n c m e:Nat}(hx:RD V p n c (ah z.natAbs))(hy:RD V q m e (ah w.natAbs))(hm:(ah z.natAbs).length<=1099511627776) :
  aa prog 103 #[dB #[qvQ (decide (z<0)),hF p n c],dB #[qvQ (decide (w<0)),hF q m e]] V λr V'=>r=qvQ (decide (z=w)):=by
 refine BQ V _ ⟨λa d b=>(Cz (hx.le b) (hy.le b) hm).s ?_,λa d b=>?_⟩
 ·rintro r V2 f rfl;refine ⟨_,rfl,λg i=>?_⟩;rw [Sm a]
 ·rw [decide_eq_false λh=>by subst h;simp at a]
theorem CF {w:un}{a' b' c':Int}(hx:RL V v a b c)(hy:RL V w a' b' c')(h1:(ah a.natAbs).length<=1099511627776)(h2:(ah b.natAbs).length<=1099511627776)(h3:(ah c.natAbs).length<=1099511627776) :
  aa prog 44 #[v,w] V λr V'=>r=qvQ (decide (a=a'/\b=b'/\c=c')):=by
 obtain ⟨p,n,s,x,y,z,q,m,e,rfl,A,B,C⟩:=hx;obtain ⟨i,j,k,D,E,F,i2,G,H,rfl,I,J,K⟩:=hy;refine BX V _ λL d=>(mg (A.le d) (I.le d) h1).s ?_;rintro r V2 l rfl;refine ⟨_,rfl,λf M o=>(mg (B.le (d.m (l.m o))) (J.le (d.m (l.m o))) h2).s ?_,λf N O=>?_⟩
 ·rintro r P t rfl;rw [decide_eq_true_eq] at f;refine ⟨_,rfl,λg Q u=>(mg (C.le (d.m (l.m (o.m (t.m u))))) (K.le (d.m (l.m (o.m (t.m u))))) h3).s ?_,λg R S=>?_⟩
  ·rintro r T U rfl;rw [decide_eq_true_eq] at g;refine ⟨_,rfl,λW X=>?_⟩;congr 1;rw [Qz5,decide_eq_true_eq,decide_eq_true_eq];exact ⟨λh=>⟨f,g,h⟩,λh=>h.2.2⟩
  ·rw [decide_eq_false_iff_not] at g;rw [decide_eq_false λh=>g h.2.1]
 ·rw [decide_eq_false_iff_not] at f;rw [decide_eq_false λh=>f h.1]
theorem wO (hx:RL V v a b c)(h1:(ah a.natAbs).length<=1099511627776)(h2:(ah b.natAbs).length<=1099511627776)(h3:(ah c.natAbs).length<=1099511627776:=by omega) :
  aa prog 13 #[v] V λr V'=>RL V' r a b c:=by
 obtain ⟨p,n,s,l,o,t,q,m,e,rfl,u,w,x⟩:=hx;refine GM V _ λB d=>(lO ⟨_,_,_,rfl,u.le d⟩ h1).s ?_;rintro r V2 i ⟨C,D,E,rfl,y⟩;refine qyQ ⟨rfl,λF f=>(lO ⟨_,_,_,rfl,w.le (d.m (i.m f))⟩ h2).s ?_⟩;rintro r G j ⟨H,I,J,rfl,z⟩;refine qyQ ⟨rfl,λK g=>(lO ⟨_,_,_,rfl,x.le (d.m (i.m (f.m (j.m g))))⟩ h3).s ?_⟩;rintro r L k ⟨M,N,O,rfl,A⟩;exact qyQ ⟨rfl,λP h=>⟨_,_,_,_,_,_,_,_,_,rfl,y.le (f.m (j.m (g.m (k.m h)))),z.le (g.m (k.m h)),A.le h⟩⟩
theorem zY {g:Nat}(hg:0<g)(hd:g∣z.natAbs):(if decide (z<0)=true then -((z.natAbs / g:Nat):Int) else ((z.natAbs / g:Nat):Int))=z / (g:Int):=by
 obtain ⟨k,a⟩:=hd;have b:z.natAbs / g=k:=by rw [a,Nat.mul_div_cancel_left _ hg]
 rw [b]
 have c:z=(g:Int)*(if decide (z<0)=true then -(k:Int) else k):=by
  split
  ·rename_i h;rw [decide_eq_true_eq] at h;rw [Ww2,←Qn1,←a];omega
  ·rename_i h;rw [decide_eq_true_eq] at h;rw [←Qn1,←a];omega
 generalize (if decide (z<0)=true then -(k:Int) else k)=t at *;rw [c,Qg6 _ (by omega)]
def bY (a b c:Int):Nat:=Nat.gcd (Nat.gcd a.natAbs b.natAbs) c.natAbs
theorem CC {u w:un}(ha:RI V u a)(hb:RI V v b)(hc:RI V w c)(h1:(ah a.natAbs).length<=274877906944)(h2:(ah b.natAbs).length<=274877906944)(h3:(ah c.natAbs).length<=274877906944) :
  aa prog 86 #[u,v,w] V λr V'=>(a=0/\b=0->∃l,r=qvZ #[l,qvQ false]/\RL V' l 0 0 0) /\
   (¬(a=0/\b=0)->∃l,r=qvZ #[l,qvQ true]/\RL V' l (a / (bY a b c:Int)) (b / (bY a b c:Int)) (c / (bY a b c:Int))):=by
 obtain ⟨p,n,s,rfl,ha⟩:=ha;obtain ⟨T,U,W,rfl,hb⟩:=hb;obtain ⟨q,m,e,rfl,hc⟩:=hc;refine BV V _ λV1 o=>(iA (ha.le o) (hb.le o) h1 h2).s ?_;rintro r V2 M ⟨p1,n1,c1,rfl,N⟩;have hp:=iF N.len;have g:Nat.gcd a.natAbs b.natAbs=0↔a=0/\b=0:=by rw [Qh2];omega
 refine ⟨_,_,_,rfl,λy V3 l3=>⟨λ_=>⟨_,rfl,_,_,_,_,_,_,_,_,_,rfl,RD.nil,RD.nil,RD.nil⟩,λh=>?_⟩,λy V4 z=>?_⟩
 ·exact absurd (g.1 (by simp at y;omega)) h
 have A:¬(a=0/\b=0):=λh=>by have:=g.2 h;simp at y;omega
 have i:0<Nat.gcd a.natAbs b.natAbs:=by have:=g;omega
 have j:(ah (Nat.gcd a.natAbs b.natAbs)).length<=274877906944:=by
  rcases Qy9 a.natAbs with h|h
  ·rw [h,Qs9];exact h2
  ·exact Qw8 (aG (Ww5 _ h)) h1
 refine (iA (N.le z) (hc.le (o.m (M.m z))) j h3).s ?_;rintro r V5 X ⟨p2,n2,c2,rfl,t⟩;have B:=o.m (M.m (z.m X));have Y:Nat.gcd (Nat.gcd a.natAbs b.natAbs) c.natAbs=bY a b c:=rfl;have d:0<bY a b c:=Nat.gcd_pos_of_pos_left _ i;have C:(ah (bY a b c)).length<=274877906944:=Qw8 (aG (Ww5 _ i)) j;have Z:bY a b c∣a.natAbs:=Qs0 (Qj5 _ _) (Qj5 _ _);have db:bY a b c∣b.natAbs:=Qs0 (Qj5 _ _) (Qb5 _ _);have dc:bY a b c∣c.natAbs:=Qb5 _ _;have sa:=zY d Z;have sb:=zY d db;have sc:=zY d dc;rw [Y] at t;generalize bY a b c=G at *;refine ⟨_,_,_,rfl,λV6 D=>(fU (ha.le (B.m D)) (t.le D) h1 C d).s ?_⟩;rintro r V7 l7 ⟨p3,n3,c3,p4,n4,c4,rfl,g3,-⟩;have E:=D.m l7;refine qyW ⟨rfl,λV8 x=>(fU (hb.le (B.m (E.m x))) (t.le (E.m x)) h2 C d).s ?_⟩;rintro r V9 O ⟨p5,n5,c5,p6,n6,c6,rfl,g5,-⟩;have k:=E.m (x.m O);refine qyW ⟨rfl,λfQ f=>(fU (hc.le (B.m (k.m f))) (t.le (k.m f)) h3 C d).s ?_⟩;rintro r fD P ⟨p7,n7,c7,p8,n8,c8,rfl,g7,-⟩;refine qyW ⟨rfl,λgS F=>(fH _ (g3.le (x.m (O.m (f.m (P.m F)))))).s ?_⟩;rw [sa];rintro r j7 Q ⟨p9,n9,c9,rfl,g9⟩;refine qyQ ⟨rfl,λlB H=>(fH _ (g5.le (f.m (P.m (F.m (Q.m H)))))).s ?_⟩;rw [sb];rintro r jI R ⟨O4,a0,a1,rfl,I⟩;refine qyQ ⟨rfl,λlH J=>(fH _ (g7.le (F.m (Q.m (H.m (R.m J)))))).s ?_⟩;rw [sc];rintro r lC S ⟨UN,a2,a3,rfl,K⟩;refine qyQ ⟨rfl,λmE L=>⟨λh=>absurd h A,λ_=>⟨_,rfl,_,_,_,_,_,_,_,_,_,rfl,?_,?_,?_⟩⟩⟩
 ·exact g9.le (H.m (R.m (J.m (S.m L))))
 ·exact I.le (J.m (S.m L))
 ·exact K.le L
end Go.Proofs.Tryz
namespace Go.Eng
open Go.Big
def zf (V:View)(v:Value)(a b c:Rat):Prop:=∃(x1 x2:Int)(p:OA)(y1 y2:Int)(q:OA)(z1 z2:Int)(r:OA),v=.agg #[.int .i64 x1,.int .i64 x2,.pointer p,.int .i64 y1,.int .i64 y2,.pointer q,.int .i64 z1,.int .i64 z2,.pointer r] /\
 RR V (.agg #[.int .i64 x1,.int .i64 x2,.pointer p]) a/\RR V (.agg #[.int .i64 y1,.int .i64 y2,.pointer q]) b/\RR V (.agg #[.int .i64 z1,.int .i64 z2,.pointer r]) c
def Th (v:Value):Prop:=∃(x1 x2:Int)(x3:OA)(y1 y2:Int)(y3:OA)(z1 z2:Int)(z3:OA),v=.agg #[.int .i64 x1,.int .i64 x2,.pointer x3,.int .i64 y1,.int .i64 y2,.pointer y3,.int .i64 z1,.int .i64 z2,.pointer z3]
def zf.le {V V':ut}{v:un}{a b c:Rat}(h:zf V v a b c)(l:V.Le V'):zf V' v a b c:=by
 obtain ⟨d,e,p,f,g,q,i,j,r,rfl,k,m,n⟩:=h;exact ⟨d,e,p,f,g,q,i,j,r,rfl,k.le l,m.le l,n.le l⟩
end Go.Eng
namespace Go.Proofs.Tryz
open Go.Eng Go.Big
open Go.Value renaming slice→hF,agg→dB,bool→qvQ,pointer→qvW,tuple→qvZ,int→qvK
variable{V:View}{l v w:Value}{GV GW S4 Td a b cF eY kf kg l_1 q:Rat}{c k m n:Nat}{p:OA}
theorem Ns {c:Rat}(h:zf V v a b c)(s1:Sz k a)(s2:Sz k b)(s3:Sz k c)(hk:k<=1099511627776) :
  aa prog 169 #[v] V λr V'=>RL V' r a.num b.num c.num:=by
 obtain ⟨w,x,p,y,z,q,A,B,r,rfl,m,n,o⟩:=h;refine Dd V _ λC d=>(gT (m.le d) s1 hk).s ?_;rintro r V2 i ⟨D,E,F,rfl,s⟩;refine qyQ ⟨rfl,λG e=>(gT (n.le (d.m (i.m e))) s2 hk).s ?_⟩;rintro r H j ⟨I,J,K,rfl,t⟩;refine qyQ ⟨rfl,λL f=>(gT (o.le (d.m (i.m (e.m (j.m f))))) s3 hk).s ?_⟩;rintro r M l ⟨N,O,P,rfl,u⟩;exact qyQ ⟨rfl,λQ g=>⟨_,_,_,_,_,_,_,_,_,rfl,s.le (e.m (j.m (f.m (l.m g)))),t.le (f.m (l.m g)),u.le g⟩⟩
def jF (b1:Bool)(xs:List Nat)(b2:Bool)(ys:List Nat)(b3:Bool)(zs:List Nat):Bool:=
 iu b1 xs&&iu b2 ys&&iu b3 zs&&!(decide ((aA b1 xs:Rat)=0)&&decide ((aA b2 ys:Rat)=0))&&decide (fC (fC (aA b1 xs) (aA b2 ys)) (aA b3 zs)=((1:Int):Rat))
theorem vU {ok:md}{A B C:Rat}(h:ok=false):∃v,Value.tuple #[dB #[qvK .i64 0,qvK .i64 0,qvW none,qvK .i64 0,qvK .i64 0,qvW none,qvK .i64 0,qvK .i64 0,qvW none],qvQ false]=qvZ #[v,qvQ ok]/\Th v/\(ok=true->zf V v A B C):=by
 subst h;exact ⟨_,rfl,(qyJ rfl),λh=>nomatch h⟩
theorem Lf:Sz 1 ((1:Int):Rat):=by unfold Sz;decide
theorem nM {V:ut}(b1 b2 b3:md){q s:OA}{e i j:Nat}{xs ys zs:pz Nat}(hx:RD V p n c xs)(hy:RD V q m e ys)(hz:RD V s i j zs)
  (h1:xs.length<=1099511627776)(h2:ys.length<=1099511627776)(h3:zs.length<=1099511627776)(s1:Sz k (aA b1 xs:Rat))(s2:Sz k (aA b2 ys:Rat))(s3:Sz k (aA b3 zs:Rat))(hk:4*k+4<1099511627776:=by omega) :
  aa prog 37 #[dB #[qvQ b1,hF p n c,qvQ b2,hF q m e,qvQ b3,hF s i j]] V λr V'=>∃v,r=qvZ #[v,qvQ (jF b1 xs b2 ys b3 zs)]/\Th v/\(jF b1 xs b2 ys b3 zs=true->zf V' v (aA b1 xs) (aA b2 ys) (aA b3 zs)):=by
 refine Ji V _ λV1 H=>(iU b1 (hx.le H) h1).s ?_;rintro r V2 K rfl;refine ⟨_,rfl,λb V3 l3=>vU ?_,λb V4 L=>(iU b2 (hy.le (H.m (K.m L))) h2).s ?_⟩
 ·have b:iu b1 xs=false:=by simpa using b
  simp [jF,b]
 have b:iu b1 xs=true:=by simpa using b
 rintro r V5 X rfl;refine ⟨_,rfl,λd V6 l6=>vU ?_,λd V7 Y=>(iU b3 (hz.le (H.m (K.m (L.m (X.m Y))))) h3).s ?_⟩
 ·have d:iu b2 ys=false:=by simpa using d
  simp [jF,d]
 have d:iu b2 ys=true:=by simpa using d
 rintro r V8 l8 rfl;have Z:=H.m (K.m (L.m (X.m (Y.m l8))));refine ⟨_,rfl,λf0 V9 l9=>vU ?_,λf0 fQ w=>(nK b1 (hx.le (Z.m w)) h1).s ?_⟩
 ·have f0:iu b3 zs=false:=by simpa using f0
  simp [jF,f0]
 have f0:iu b3 zs=true:=by simpa using f0
 rintro r fD bq f;obtain ⟨x1,x2,x3,rfl⟩:=f.shape;have H8:=Z.m (w.m bq);refine ⟨_,_,_,rfl,λgS M=>(nK b2 (hy.le (H8.m M)) h2).s ?_⟩;rintro r j7 bU g;obtain ⟨y1,y2,y3,rfl⟩:=g.shape;have x:=H8.m (M.m bU);refine ⟨_,_,_,rfl,λlB N=>(nK b3 (hz.le (x.m N)) h3).s ?_⟩;rintro r I cE rc;obtain ⟨z1,z2,z3,rfl⟩:=rc.shape
 replace f:=f.le (M.m (bU.m (N.m cE)))
 replace g:=g.le (N.m cE)
 have y:jF b1 xs b2 ys b3 zs=(!(decide ((aA b1 xs:Rat)=0)&&decide ((aA b2 ys:Rat)=0))&&decide (fC (fC (aA b1 xs) (aA b2 ys)) (aA b3 zs)=((1:Int):Rat))):=by
  simp only [jF,b,d,f0,Wy7]
 rw [y];clear y b d f0 hx hy hz;generalize (aA b1 xs:Rat)=A at *;generalize (aA b2 ys:Rat)=B at *;generalize (aA b3 zs:Rat)=C at *;refine ⟨_,_,_,rfl,λlH J=>(He (f.le J)).s ?_⟩;rintro r lC O rfl;refine ⟨_,rfl,λt0 mE cj=>(He (g.le (J.m (O.m cj)))).s ?_,λt0 P Q=>?_⟩
 ·rintro r pf du rfl;refine ⟨_,rfl,λR vh fl=>vU (by rw [t0,R];rfl),λR P Q=>?_⟩;have lb:I.Le P:=J.m (O.m (cj.m (du.m Q)));have S:(decide (A=0)&&decide (B=0))=false:=by rw [R,Wk8]
  rw [S];refine (nJ (f.le lb) (g.le lb) s1 s2).s ?_;rintro r tC z rg;obtain ⟨g1,g2,g3,rfl⟩:=rg.shape;refine ⟨_,_,_,rfl,λrk l=>(nJ (rg.le l) (rc.le (lb.m (z.m l))) (lG s1 s2) s3).s ?_⟩;rintro r zk T D;obtain ⟨h1,h2,h3,rfl⟩:=D.shape;refine ⟨_,_,_,rfl,λCs E=>(rU 1 (by omega)).s ?_⟩;rintro r JS F G;obtain ⟨i1,i2,i3,rfl⟩:=G.shape;refine ⟨_,_,_,rfl,λPa o=>(vB (D.le (E.m (F.m o))) (G.le o) (lG (lG s1 s2) s3) Lf).s ?_⟩;rintro r U W rfl;have t:I.Le U:=lb.m (z.m (l.m (T.m (E.m (F.m (o.m W))))));refine ⟨_,rfl,λa Ti yL=>vU ?_,λa OT u=>?_⟩
  ·rw [Qx9] at a;rw [a];rfl
  ·have a:decide (fC (fC A B) C=((1:Int):Rat))=true:=by
    cases h:decide (fC (fC A B) C=((1:Int):Rat))
    ·rw [h] at a;cases a
    ·rfl
   rw [a];exact ⟨_,rfl,(qyJ rfl),λ_=>⟨_,_,_,_,_,_,_,_,_,rfl,f.le (t.m u),g.le (t.m u),rc.le (t.m u)⟩⟩
 ·have lb:I.Le P:=J.m (O.m Q);have S:(decide (A=0)&&decide (B=0))=false:=by rw [t0,Bool.false_and]
  rw [S];refine (nJ (f.le lb) (g.le lb) s1 s2).s ?_;rintro r tC z rg;obtain ⟨g1,g2,g3,rfl⟩:=rg.shape;refine ⟨_,_,_,rfl,λrk l=>(nJ (rg.le l) (rc.le (lb.m (z.m l))) (lG s1 s2) s3).s ?_⟩;rintro r zk T D;obtain ⟨h1,h2,h3,rfl⟩:=D.shape;refine ⟨_,_,_,rfl,λCs E=>(rU 1 (by omega)).s ?_⟩;rintro r JS F G;obtain ⟨i1,i2,i3,rfl⟩:=G.shape;refine ⟨_,_,_,rfl,λPa o=>(vB (D.le (E.m (F.m o))) (G.le o) (lG (lG s1 s2) s3) Lf).s ?_⟩;rintro r U W rfl;have t:I.Le U:=lb.m (z.m (l.m (T.m (E.m (F.m (o.m W))))));refine ⟨_,rfl,λa Ti yL=>vU ?_,λa OT u=>?_⟩
  ·rw [Qx9] at a;rw [a];rfl
  ·have a:decide (fC (fC A B) C=((1:Int):Rat))=true:=by
    cases h:decide (fC (fC A B) C=((1:Int):Rat))
    ·rw [h] at a;cases a
    ·rfl
   rw [a];exact ⟨_,rfl,(qyJ rfl),λ_=>⟨_,_,_,_,_,_,_,_,_,rfl,f.le (t.m u),g.le (t.m u),rc.le (t.m u)⟩⟩
def Oi:List Int->Int
 | []=>0
 | x::r=>if x=0 then Oi r else x
def Uh (l:List Int):List Value:=l.map λx=>Value.int .i64 x
theorem YD {l:pz Int}:Oi l=0↔∀x∈l,x=0:=by
 induction l with
 | nil=>simp [Oi]
 | cons x r ih=>
  simp only [Oi,Qq6,forall_eq_or_imp];split
  ·rename_i h;simp [h,ih]
  ·rename_i h;simp [h]
theorem Hi {l:pz Int}(hl:n=l.length)(hs:V.sl p (Uh l))(hm:l.length<=1099511627776) :
  aa prog 229 #[hF p n c] V λr V'=>r=qvK .i64 (Oi l):=by
 refine OP V _ ⟨λz V'=>0<=z/\z<=n/\Oi l=Oi (l.drop z.toNat),λz=>n-z.toNat,⟨0,by (try dsimp only);and_intros<;>first|exact True.intro|rfl,by (try dsimp only);omega,by (try dsimp only);omega,rfl⟩,?_⟩;rintro i m j ⟨e,f,he⟩;dsimp only at f he ⊢;obtain ⟨i,rfl⟩:=Qw2 e;simp only [Qq0] at he;refine ⟨by trivial,λb=>?_,λb o q=>?_⟩
 ·have b:i<n:=by simpa using b
  have d:i<l.length:=by omega
  obtain ⟨k,h,g⟩:=(j.sl hs) i (qvK .i64 l[i]) (by simp [Uh,d]);rw [Qw4 d,Oi] at he;refine ⟨by rw [h];rfl,⟨by omega,by omega⟩,l[i],⟨k.add i,by rw [h];simp [ae],g⟩,λa V2 s=>?_,λa=>?_⟩
  ·have a:l[i]≠0:=by simpa using a
   rw [if_neg a] at he;rw [he]
  ·have a:l[i]=0:=by simpa using a
   rw [if_pos a] at he;have w:i64.wrap ((i:Int)+1)=((i+1:Nat):Int):=by rw [au (by omega)];omega
   simp only [w];refine ⟨((i+1:Nat):Int),?_,by (try dsimp only);and_intros<;>first|exact True.intro|rfl,by (try dsimp only);omega,by (try dsimp only);omega,?_⟩
   ·(try dsimp only);omega
   ·exact he
 ·have b:i=n:=by simp at b;omega
  rw [Qx7 (by omega)] at he;rw [he];rfl
theorem DW {c a' b' c':Rat}(hx:zf V v a b c)(hy:zf V w a' b' c')(s1:Sz k a)(s2:Sz k b)(s3:Sz k c)(t1:Sz m a')(t2:Sz m b')(t3:Sz m c')(hk:k+m<1099511627776:=by omega) :
  aa prog 174 #[v,w] V λr V'=>r=qvK .i64 (Oi [dI a a',dI b b',dI c c']):=by
 obtain ⟨A,B,p,C,D,q,E,F,r,rfl,j,n,o⟩:=hx;obtain ⟨G,H,I,J,K,L,M,N,O,rfl,s,t,u⟩:=hy;refine De V _ λP d=>(lK (j.le d) (s.le d) s1 t1 hk).s ?_;rintro r V2 e rfl;refine ⟨_,rfl,λQ f=>(lK (n.le (d.m (e.m f))) (t.le (d.m (e.m f))) s2 t2 hk).s ?_⟩;rintro r R x rfl;have g:=d.m (e.m (f.m x));refine ⟨_,rfl,λS h=>(lK (o.le (g.m h)) (u.le (g.m h)) s3 t3 hk).s ?_⟩;rintro r T U rfl;refine ⟨_,rfl,λW X Y y=>(Hi (l:=[dI a a',dI b b',dI c c']) rfl (λi v z=>⟨_,rfl,by rw [add_zero'];exact dF (xs:=Uh [dI a a',dI b b',dI c c']) y z⟩) (by simp)).s ?_⟩;rintro r Z l8 rfl;exact ⟨_,rfl,λ_ V9 l9=>rfl⟩
theorem Hk {c a' b' c':Rat}(hx:zf V v a b c)(hy:zf V w a' b' c')(s1:Sz k a)(s2:Sz k b)(s3:Sz k c)(t1:Sz m a')(t2:Sz m b')(t3:Sz m c')(hk:k+m<1099511627776) :
  aa prog 176 #[v,w] V λr V'=>r=qvQ (decide (a=a'/\b=b'/\c=c')):=by
 have d:=hx;have e:=hy;obtain ⟨g,h,p,i,j,q,l,n,r,rfl,-,-,-⟩:=hx;obtain ⟨o,s,t,u,x,y,z,A,B,rfl,-,-,-⟩:=hy;refine x_ V _ λC f=>(DW (d.le f) (e.le f) s1 s2 s3 t1 t2 t3 hk).s ?_;rintro r V2 D rfl;refine ⟨_,rfl,λE F=>?_⟩;congr 1;rw [Qz5,decide_eq_true_eq,beq_iff_eq,YD];simp [←iC]
def O9 (V:View)(v:Value)(x y:Rat):Prop:=∃(x1 x2:Int)(p:OA)(y1 y2:Int)(q:OA),v=.agg #[.int .i64 x1,.int .i64 x2,.pointer p,.int .i64 y1,.int .i64 y2,.pointer q] /\
 RR V (.agg #[.int .i64 x1,.int .i64 x2,.pointer p]) x/\RR V (.agg #[.int .i64 y1,.int .i64 y2,.pointer q]) y
theorem O9.le {V V':ut}{x y:Rat}(h:O9 V v x y)(l:V.Le V'):O9 V' v x y:=by
 obtain ⟨a,b,p,c,d,q,e,f,g⟩:=h;exact ⟨a,b,p,c,d,q,e,f.le l,g.le l⟩
theorem Ce (im:Sz k kf)(iq:Sz k kg)(xR:Sz k GV)(xS:Sz k GW):Sz (2*k+1) ((kf)+(GV)):=by
 have a:=Sz.s (m:=2*k+1) (Sz.add im xR);exact Sz.s a
theorem Cf (im:Sz k kf)(iq:Sz k kg)(xR:Sz k GV)(xS:Sz k GW):Sz (2*k+1) ((kg)+(GW)):=by
 have a:=Sz.s (m:=2*k+1) (Sz.add iq xS);exact Sz.s a
theorem zK {p:un}{c:un}(hp:O9 V p kf kg)(hc:RR V c S4)(im:Sz k kf)(iq:Sz k kg)(OC:Sz k S4)(hk:2*k+1<274877906944:=by omega) :
  aa prog 184 #[p,c] V λr V'=>O9 V' r ((kf)*(S4)) ((kg)*(S4)):=by
 have l:=hp;obtain ⟨m,n,o,q,s,t,rfl,u,v⟩:=hp;have a:=hc;obtain ⟨w,x,y,rfl⟩:=hc.shape;refine yf V _ λA b=>(tG (u.le (b)) (a.le (b)) im OC).s ?_;rintro r V2 g h;have d:=h;obtain ⟨B,C,D,rfl⟩:=h.shape;refine ⟨_,_,_,rfl,λE e=>(tG (v.le (b.m (g.m (e)))) (a.le (b.m (g.m (e)))) iq OC).s ?_⟩;rintro r F z i;have f:=i;obtain ⟨G,H,I,rfl⟩:=i.shape;exact ⟨_,_,_,rfl,λJ j=>⟨_,_,_,_,_,_,rfl,(d.le (e.m (z.m (j)))),(f.le (j))⟩⟩
theorem ji (im:Sz k kf)(iq:Sz k kg)(OC:Sz k S4):Sz (2*k+1) ((kf)*(S4)):=by
 have a:=Sz.s (m:=2*k+1) (Sz.mul im OC);exact Sz.s a
theorem jj (im:Sz k kf)(iq:Sz k kg)(OC:Sz k S4):Sz (2*k+1) ((kg)*(S4)):=by
 have a:=Sz.s (m:=2*k+1) (Sz.mul iq OC);exact Sz.s a
theorem nN {p:un}{q:un}(hp:O9 V p kf kg)(hq:O9 V q GV GW)(im:Sz k kf)(iq:Sz k kg)(xR:Sz k GV)(xS:Sz k GW)(hk:4*k+3<274877906944:=by omega) :
  aa prog 235 #[p,q] V λr V'=>RR V' r (((kf)*(GV))+((kg)*(GW))):=by
 have j:=hp;obtain ⟨l,n,o,s,t,u,rfl,v,w⟩:=hp;have x:=hq;obtain ⟨y,z,A,B,C,D,rfl,E,F⟩:=hq;refine Dh V _ λL a=>(tG (v.le (a)) (E.le (a)) im xR).s ?_;rintro r V2 e f;have b:=f;obtain ⟨M,N,O,rfl⟩:=f.shape;have G:=Sz.s (m:=2*k+1) (Sz.mul im xR);refine ⟨_,_,_,rfl,λP c=>(tG (w.le (a.m (e.m (c)))) (F.le (a.m (e.m (c)))) iq xS).s ?_⟩;rintro r Q H g;have d:=g;obtain ⟨R,S,T,rfl⟩:=g.shape;have I:=Sz.s (m:=2*k+1) (Sz.mul iq xS);refine ⟨_,_,_,rfl,λU h=>(E8 (b.le (c.m (H.m (h)))) (d.le (h)) G I).s ?_⟩;rintro r W X i;have J:=i;obtain ⟨Y,Z,WR,rfl⟩:=i.shape;exact ⟨_,_,_,rfl,λV7 K=>(J.le (K))⟩
theorem cV (im:Sz k kf)(iq:Sz k kg)(xR:Sz k GV)(xS:Sz k GW):Sz (4*k+3) (((kf)*(GV))+((kg)*(GW))):=by
 have a:=Sz.s (m:=2*k+1) (Sz.mul im xR);have b:=Sz.s (m:=2*k+1) (Sz.mul iq xS);have c:=Sz.s (m:=4*k+3) (Sz.add a b);exact Sz.s c
theorem Fc (hl:zf V l cF l_1 eY)(bN:Sz k cF)(bP:Sz k l_1)(bK:Sz k eY)(hk:1*k+1<274877906944:=by omega) :
  aa prog 183 #[l] V λr V'=>O9 V' r (l_1) (-(cF)):=by
 have f:=hl;obtain ⟨g,a,c,b,h,i,j,m,n,rfl,o,p,q⟩:=hl;refine Dg V _ λs a=>(lL (o.le (a)) bN).s ?_;rintro r V2 c e;have d:=e;obtain ⟨t,u,v,rfl⟩:=e.shape;exact ⟨_,_,_,rfl,λw b=>⟨_,_,_,_,_,_,rfl,(p.le (a.m (c.m (b)))),(d.le (b))⟩⟩
theorem lr (bN:Sz k cF)(bP:Sz k l_1)(bK:Sz k eY):Sz (1*k+0) (l_1):=by
 exact Sz.s bP
theorem lu (bN:Sz k cF)(bP:Sz k l_1)(bK:Sz k eY):Sz (1*k+0) (-(cF)):=by
 have a:=Sz.s (m:=1*k+0) (Sz.neg bN);exact Sz.s a
theorem jL (hl:zf V l cF l_1 eY)(bN:Sz k cF)(bP:Sz k l_1)(bK:Sz k eY)(hk:1*k+1<274877906944:=by omega) :
  aa prog 233 #[l] V λr V'=>O9 V' r (cF) (l_1):=by
 have b:=hl;obtain ⟨c,a,d,e,f,g,h,i,j,rfl,m,n,o⟩:=hl;exact wo V _ λp a=>⟨_,_,_,_,_,_,rfl,(m.le (a)),(n.le (a))⟩
theorem dY (bN:Sz k cF)(bP:Sz k l_1)(bK:Sz k eY):Sz (1*k+0) (cF):=by
 exact Sz.s bN
theorem dZ (bN:Sz k cF)(bP:Sz k l_1)(bK:Sz k eY):Sz (1*k+0) (l_1):=by
 exact Sz.s bP
theorem vD (hl:zf V l cF l_1 eY)(bN:Sz k cF)(bP:Sz k l_1)(bK:Sz k eY)(hk:1*k+1<274877906944) :
  aa prog 125 #[l] V λr V'=>zf V' r (-(cF)) (-(l_1)) (-(eY)):=by
 have o:=hl;obtain ⟨p,a,e,b,f,c,g,d,q,rfl,s,t,u⟩:=hl;refine uV V _ λw a=>(lL (s.le (a)) bN).s ?_;rintro r V2 e j;have h:=j;obtain ⟨x,y,z,rfl⟩:=j.shape;refine ⟨_,_,_,rfl,λA b=>(lL (t.le (a.m (e.m (b)))) bP).s ?_⟩;rintro r B f m;have i:=m;obtain ⟨C,D,E,rfl⟩:=m.shape;refine ⟨_,_,_,rfl,λF c=>(lL (u.le (a.m (e.m (b.m (f.m (c)))))) bK).s ?_⟩;rintro r G g n;have v:=n;obtain ⟨H,I,J,rfl⟩:=n.shape;exact ⟨_,_,_,rfl,λK d=>⟨_,_,_,_,_,_,_,_,_,rfl,(h.le (b.m (f.m (c.m (g.m (d)))))),(i.le (c.m (g.m (d)))),(v.le (d))⟩⟩
theorem zJ {p:un}(hl:zf V l cF l_1 eY)(hp:O9 V p kf kg){k:Nat}(bN:Sz k cF)(bP:Sz k l_1)(bK:Sz k eY)(im:Sz k kf)(iq:Sz k kg)(hk:5*k+4<274877906944:=by omega) :
  aa prog 256 #[l,p] V λr V'=>RR V' r ((((cF)*(kf))+((l_1)*(kg)))+(eY)):=by
 have e:=hl;obtain ⟨v,a,c,b,f,d,n,g,w,rfl,G,H,x⟩:=hl;have h:=hp;obtain ⟨y,z,A,B,C,D,rfl,I,J⟩:=hp;refine yd V _ λK a=>(jL (e.le (a)) (Sz.s bN:Sz (1*k+0) _) (Sz.s bP:Sz (1*k+0) _) (Sz.s bK:Sz (1*k+0) _)).s ?_;rintro r V2 c o;have i:=o;obtain ⟨L,M,N,O,P,Q,rfl,R,S⟩:=o;have q:=Sz.s (m:=1*k+0) ((dY (Sz.s bN:Sz (1*k+0) _) (Sz.s bP:Sz (1*k+0) _) (Sz.s bK:Sz (1*k+0) _)));have s:=Sz.s (m:=1*k+0) ((dZ (Sz.s bN:Sz (1*k+0) _) (Sz.s bP:Sz (1*k+0) _) (Sz.s bK:Sz (1*k+0) _)));refine qyW ⟨rfl,λT b=>(nN (i.le (b)) (h.le (a.m (c.m (b)))) (Sz.s q:Sz (1*k+0) _) (Sz.s s:Sz (1*k+0) _) (Sz.s im:Sz (1*k+0) _) (Sz.s iq:Sz (1*k+0) _)).s ?_⟩;rintro r U f t;have j:=t;obtain ⟨W,X,Y,rfl⟩:=t.shape;have E:=Sz.s (m:=4*k+3) ((cV (Sz.s q:Sz (1*k+0) _) (Sz.s s:Sz (1*k+0) _) (Sz.s im:Sz (1*k+0) _) (Sz.s iq:Sz (1*k+0) _)));refine ⟨_,_,_,rfl,λZ d=>(E8 (j.le (d)) (x.le (a.m (c.m (b.m (f.m (d)))))) E bK).s ?_⟩;rintro r V6 n u;have F:=u;obtain ⟨WO,WQ,WR,rfl⟩:=u.shape;exact ⟨_,_,_,rfl,λV7 g=>(F.le (g))⟩
theorem wI {k:Nat}(bN:Sz k cF)(bP:Sz k l_1)(bK:Sz k eY)(im:Sz k kf)(iq:Sz k kg):Sz (5*k+4) ((((cF)*(kf))+((l_1)*(kg)))+(eY)):=by
 have a:=Sz.s (m:=1*k+0) ((dY (Sz.s bN:Sz (1*k+0) _) (Sz.s bP:Sz (1*k+0) _) (Sz.s bK:Sz (1*k+0) _)));have b:=Sz.s (m:=1*k+0) ((dZ (Sz.s bN:Sz (1*k+0) _) (Sz.s bP:Sz (1*k+0) _) (Sz.s bK:Sz (1*k+0) _)));have c:=Sz.s (m:=4*k+3) ((cV (Sz.s a:Sz (1*k+0) _) (Sz.s b:Sz (1*k+0) _) (Sz.s im:Sz (1*k+0) _) (Sz.s iq:Sz (1*k+0) _)));have d:=Sz.s (m:=5*k+4) (Sz.add c bK);exact Sz.s d
theorem Cv (hl:zf V l cF l_1 eY)(bN:Sz k cF)(bP:Sz k l_1)(bK:Sz k eY)(hk:10*k+9<274877906944:=by omega) :
  aa prog 181 #[l] V λr V'=>O9 V' r ((cF)*(((-(eY))*(((cF)*(cF))+((l_1)*(l_1)))⁻¹))) ((l_1)*(((-(eY))*(((cF)*(cF))+((l_1)*(l_1)))⁻¹))):=by
 have o:=hl;obtain ⟨I,j,p,b,d,c,n,e,q,rfl,R,S,J⟩:=hl;refine BF V _ λT j=>(jL (o.le (j)) (Sz.s bN:Sz (1*k+0) _) (Sz.s bP:Sz (1*k+0) _) (Sz.s bK:Sz (1*k+0) _)).s ?_;rintro r V2 p t;have a:=t;obtain ⟨U,W,X,Y,Z,Vt,rfl,T2,T3⟩:=t;have f:=Sz.s (m:=1*k+0) ((dY (Sz.s bN:Sz (1*k+0) _) (Sz.s bP:Sz (1*k+0) _) (Sz.s bK:Sz (1*k+0) _)));have g:=Sz.s (m:=1*k+0) ((dZ (Sz.s bN:Sz (1*k+0) _) (Sz.s bP:Sz (1*k+0) _) (Sz.s bK:Sz (1*k+0) _)));refine qyW ⟨rfl,λV3 b=>(lL (J.le (j.m (p.m (b)))) bK).s ?_⟩;rintro r V4 d u;have s:=u;obtain ⟨Vu,Vv,Vw,rfl⟩:=u.shape;have v:=Sz.s (m:=1*k+0) (Sz.neg bK);refine ⟨_,_,_,rfl,λV5 c=>(nN (a.le (b.m (d.m (c)))) (a.le (b.m (d.m (c)))) (Sz.s f:Sz (1*k+0) _) (Sz.s g:Sz (1*k+0) _) (Sz.s f:Sz (1*k+0) _) (Sz.s g:Sz (1*k+0) _)).s ?_⟩;rintro r V6 n w;have K:=w;obtain ⟨WO,WQ,WR,rfl⟩:=w.shape;have x:=Sz.s (m:=4*k+3) ((cV (Sz.s f:Sz (1*k+0) _) (Sz.s g:Sz (1*k+0) _) (Sz.s f:Sz (1*k+0) _) (Sz.s g:Sz (1*k+0) _)));refine ⟨_,_,_,rfl,λV7 e=>(E9 (s.le (c.m (n.m (e)))) (K.le (e)) v x).s ?_⟩;rintro r V8 q y;have L:=y;obtain ⟨M,N,O,rfl⟩:=y.shape;have P:=Sz.s (m:=5*k+4) (Sz.mul v (fu x));refine ⟨_,_,_,rfl,λV9 z=>(zK (a.le (b.m (d.m (c.m (n.m (e.m (q.m (z)))))))) (L.le (z)) (Sz.s f:Sz (5*k+4) _) (Sz.s g:Sz (5*k+4) _) (Sz.s P:Sz (5*k+4) _)).s ?_⟩;rintro r fQ Q A;have NT:=A;obtain ⟨B,C,D,E,F,G,rfl,h,i⟩:=A;exact qyW ⟨rfl,λfD H=>⟨_,_,_,_,_,_,rfl,(h.le (H)),(i.le (H))⟩⟩
theorem gX (bN:Sz k cF)(bP:Sz k l_1)(bK:Sz k eY):Sz (10*k+9) ((cF)*(((-(eY))*(((cF)*(cF))+((l_1)*(l_1)))⁻¹))):=by
 have a:=Sz.s (m:=1*k+0) ((dY (Sz.s bN:Sz (1*k+0) _) (Sz.s bP:Sz (1*k+0) _) (Sz.s bK:Sz (1*k+0) _)));have b:=Sz.s (m:=1*k+0) ((dZ (Sz.s bN:Sz (1*k+0) _) (Sz.s bP:Sz (1*k+0) _) (Sz.s bK:Sz (1*k+0) _)));have c:=Sz.s (m:=1*k+0) (Sz.neg bK);have d:=Sz.s (m:=4*k+3) ((cV (Sz.s a:Sz (1*k+0) _) (Sz.s b:Sz (1*k+0) _) (Sz.s a:Sz (1*k+0) _) (Sz.s b:Sz (1*k+0) _)));have e:=Sz.s (m:=5*k+4) (Sz.mul c (fu d));have f:=Sz.s (m:=10*k+9) ((ji (Sz.s a:Sz (5*k+4) _) (Sz.s b:Sz (5*k+4) _) (Sz.s e:Sz (5*k+4) _)));exact Sz.s f
theorem gY (bN:Sz k cF)(bP:Sz k l_1)(bK:Sz k eY):Sz (10*k+9) ((l_1)*(((-(eY))*(((cF)*(cF))+((l_1)*(l_1)))⁻¹))):=by
 have b:=Sz.s (m:=1*k+0) ((dY (Sz.s bN:Sz (1*k+0) _) (Sz.s bP:Sz (1*k+0) _) (Sz.s bK:Sz (1*k+0) _)));have c:=Sz.s (m:=1*k+0) ((dZ (Sz.s bN:Sz (1*k+0) _) (Sz.s bP:Sz (1*k+0) _) (Sz.s bK:Sz (1*k+0) _)));have d:=Sz.s (m:=1*k+0) (Sz.neg bK);have e:=Sz.s (m:=4*k+3) ((cV (Sz.s b:Sz (1*k+0) _) (Sz.s c:Sz (1*k+0) _) (Sz.s b:Sz (1*k+0) _) (Sz.s c:Sz (1*k+0) _)));have f:=Sz.s (m:=5*k+4) (Sz.mul d (fu e));have a:=Sz.s (m:=10*k+9) ((jj (Sz.s b:Sz (5*k+4) _) (Sz.s c:Sz (5*k+4) _) (Sz.s f:Sz (5*k+4) _)));exact Sz.s a
theorem DF (bN:Sz k cF)(bP:Sz k l_1)(bK:Sz k eY)(K_:Sz k Td):Sz (20*k+19) ((((cF)*(((-(eY))*(((cF)*(cF))+((l_1)*(l_1)))⁻¹))))+(((l_1)*(Td)))):=by
 have c:=Sz.s (m:=10*k+9) ((gX (Sz.s bN:Sz (1*k+0) _) (Sz.s bP:Sz (1*k+0) _) (Sz.s bK:Sz (1*k+0) _)));have d:=Sz.s (m:=10*k+9) ((gY (Sz.s bN:Sz (1*k+0) _) (Sz.s bP:Sz (1*k+0) _) (Sz.s bK:Sz (1*k+0) _)));have a:=Sz.s (m:=1*k+0) ((lr (Sz.s bN:Sz (1*k+0) _) (Sz.s bP:Sz (1*k+0) _) (Sz.s bK:Sz (1*k+0) _)));have b:=Sz.s (m:=1*k+0) ((lu (Sz.s bN:Sz (1*k+0) _) (Sz.s bP:Sz (1*k+0) _) (Sz.s bK:Sz (1*k+0) _)));have e:=Sz.s (m:=2*k+1) ((ji (Sz.s a:Sz (1*k+0) _) (Sz.s b:Sz (1*k+0) _) (Sz.s K_:Sz (1*k+0) _)));have f:=Sz.s (m:=2*k+1) ((jj (Sz.s a:Sz (1*k+0) _) (Sz.s b:Sz (1*k+0) _) (Sz.s K_:Sz (1*k+0) _)));have g:=Sz.s (m:=20*k+19) ((Ce (Sz.s c:Sz (10*k+9) _) (Sz.s d:Sz (10*k+9) _) (Sz.s e:Sz (10*k+9) _) (Sz.s f:Sz (10*k+9) _)));exact Sz.s g
theorem DG (bN:Sz k cF)(bP:Sz k l_1)(bK:Sz k eY)(K_:Sz k Td):Sz (20*k+19) ((((l_1)*(((-(eY))*(((cF)*(cF))+((l_1)*(l_1)))⁻¹))))+((((-(cF)))*(Td)))):=by
 have d:=Sz.s (m:=10*k+9) ((gX (Sz.s bN:Sz (1*k+0) _) (Sz.s bP:Sz (1*k+0) _) (Sz.s bK:Sz (1*k+0) _)));have e:=Sz.s (m:=10*k+9) ((gY (Sz.s bN:Sz (1*k+0) _) (Sz.s bP:Sz (1*k+0) _) (Sz.s bK:Sz (1*k+0) _)));have b:=Sz.s (m:=1*k+0) ((lr (Sz.s bN:Sz (1*k+0) _) (Sz.s bP:Sz (1*k+0) _) (Sz.s bK:Sz (1*k+0) _)));have c:=Sz.s (m:=1*k+0) ((lu (Sz.s bN:Sz (1*k+0) _) (Sz.s bP:Sz (1*k+0) _) (Sz.s bK:Sz (1*k+0) _)));have f:=Sz.s (m:=2*k+1) ((ji (Sz.s b:Sz (1*k+0) _) (Sz.s c:Sz (1*k+0) _) (Sz.s K_:Sz (1*k+0) _)));have g:=Sz.s (m:=2*k+1) ((jj (Sz.s b:Sz (1*k+0) _) (Sz.s c:Sz (1*k+0) _) (Sz.s K_:Sz (1*k+0) _)));have a:=Sz.s (m:=20*k+19) ((Cf (Sz.s d:Sz (10*k+9) _) (Sz.s e:Sz (10*k+9) _) (Sz.s f:Sz (10*k+9) _) (Sz.s g:Sz (10*k+9) _)));exact Sz.s a
theorem wH (bN:Sz k cF)(bP:Sz k l_1)(bK:Sz k eY)(im:Sz k kf)(iq:Sz k kg):Sz (8*k+7) ((((l_1)*(kf))+(((-(cF)))*(kg)))*(((l_1)*(l_1))+(((-(cF)))*((-(cF)))))⁻¹):=by
 have a:=Sz.s (m:=1*k+0) ((lr (Sz.s bN:Sz (1*k+0) _) (Sz.s bP:Sz (1*k+0) _) (Sz.s bK:Sz (1*k+0) _)));have b:=Sz.s (m:=1*k+0) ((lu (Sz.s bN:Sz (1*k+0) _) (Sz.s bP:Sz (1*k+0) _) (Sz.s bK:Sz (1*k+0) _)));have c:=Sz.s (m:=4*k+3) ((cV (Sz.s a:Sz (1*k+0) _) (Sz.s b:Sz (1*k+0) _) (Sz.s im:Sz (1*k+0) _) (Sz.s iq:Sz (1*k+0) _)));have d:=Sz.s (m:=4*k+3) ((cV (Sz.s a:Sz (1*k+0) _) (Sz.s b:Sz (1*k+0) _) (Sz.s a:Sz (1*k+0) _) (Sz.s b:Sz (1*k+0) _)));have e:=Sz.s (m:=8*k+7) (Sz.mul c (fu d));exact Sz.s e
theorem iX {x y:Rat}(hx:RQ V v x)(hy:RQ V w y)(hy0:y.num≠0)(hk:Sz k x)(hm:Sz m y)(hkm:k+m<274877906944:=by omega) :
  aa prog 163 #[v,w] V λr V'=>RQ V' r (x*y⁻¹):=by
 obtain ⟨p,n,c,K,L,M,rfl,d,f⟩:=hx;obtain ⟨q,i,e,N,O,P,rfl,g,j⟩:=hy;have a:=fu hm;have q1:=ag hk.1;have q2:=ag hk.2;have q3:=ag hm.1;have q4:=ag a.1
 have D:(y⁻¹).num=(if decide (y.num<0)=true then -((y.den:Nat):Int) else ((y.den:Nat):Int))/\(y⁻¹).den=y.num.natAbs:=by
  rcases Int.lt_or_gt_of_ne hy0 with h|h
  ·rw [if_pos (decide_eq_true h)];exact inv_neg h
  ·rw [if_neg (λQ=>by have:=of_decide_eq_true Q;omega)];exact inv_pos h
 have l:x*y⁻¹=mkRat (x.num*(y⁻¹).num) (x.den*(y⁻¹).den):=Wk1 x y⁻¹;have R:(x.num*(y⁻¹).num).natAbs<2^(k+m):=by rw [Qv3];exact cu hk.1 a.1
 have S:x.den*(y⁻¹).den<2^(k+m):=cu hk.2 a.2;refine Ju V _ λV1 o=>(dQ y _ (j.le o)).s ?_;rintro r V2 E ⟨p1,n1,c1,rfl,T⟩;refine ⟨_,_,_,rfl,λV3 s=>(fH _ (T.le s)).s ?_⟩;rw [←D.1];rintro r V4 F ⟨p4,n4,c4,rfl,U⟩;refine qyQ ⟨rfl,λV5 t=>(mK x.num (y⁻¹).num (d.le (o.m (E.m (s.m (F.m t))))) (U.le t)).s ?_⟩;rintro r V6 W ⟨p6,n6,c6,rfl,X⟩;have G:=o.m (E.m (s.m (F.m (t.m W))));refine qyQ ⟨rfl,λV7 u=>(dQ x _ (f.le (G.m u))).s ?_⟩;rintro r V8 H ⟨p8,n8,c8,rfl,Y⟩;refine ⟨_,_,_,rfl,λV9 z=>(dm (Y.le z) (g.le (G.m (u.m (H.m z))))).s ?_⟩;rintro r fQ A ⟨O4,Z,a0,rfl,b⟩;rw [af,af,←D.2] at b;refine ⟨_,_,_,rfl,λfD I=>(nQ _ (X.le (u.m (H.m (z.m (A.m I))))) (b.le I) (Qw8 (ag R) (by omega)) (Qw8 (ag S) (by omega)) (Qb3 x.den_nz (y⁻¹).den_nz)).s ?_⟩;rw [l];rintro r tC gV ⟨a1,a2,a3,a4,a5,a6,rfl,B,C⟩;exact qyZ ⟨rfl,λrk J=>⟨_,_,_,_,_,_,rfl,B.le J,C.le J⟩⟩
theorem Ny (z:Int)(h:RD V p n c (ah z.natAbs)) :
  aa prog 110 #[dB #[qvQ (decide (z<0)),hF p n c]] V λr V'=>RQ V' r (z:Rat):=
 LI V _ λb a=>rJ (z:=z) (d:=1) rfl rfl (h.le a) RD.nil rfl
theorem RQ.ofNat {x:Nat}(h:RN V p n c x){b:md}(hb:b=decide ((x:Int)<0)):RQ V (dB #[qvQ b,hF p n c,hF none 0 0]) ((x:Int):Rat):=
 rJ (z:=(x:Int)) (d:=1) rfl rfl h RD.nil hb
theorem RQ.int {b:md}{p':OA}{n' c':Nat}(h:RQ V (dB #[qvQ b,hF p n c,hF p' n' c']) q):RI V (dB #[qvQ b,hF p n c]) q.num:=by
 obtain ⟨d,f,g,i,j,k,e,a,l⟩:=h;cases e;exact ⟨_,_,_,rfl,a⟩
theorem RQ.den {b:md}{p':OA}{n' c':Nat}(h:RQ V (dB #[qvQ b,hF p n c,hF p' n' c']) q):RD V p' n' c' (xJ q.den):=by
 obtain ⟨d,f,g,i,j,k,e,l,a⟩:=h;cases e;exact a
def oP (px py qx qy:Rat):Rat×Rat×Rat:=
 let a:=-(qy-py);let b:=qx-px;let c:=-(a*px+b*py)
 let f:Rat:=(((a.den*b.den*c.den:Nat):Int):Rat)
 (a*f,b*f,c*f)
theorem YS (h:n<2^k)(hk:0<k:=by omega):Sz k (((n:Nat):Int):Rat):=by
 refine ⟨?_,?_⟩
 ·show ((n:Nat):Int).natAbs<_;simpa using h
 ·show 1<2^k;exact Qc6 (by omega)
theorem jN {u:un}{px py qx qy:Rat}(hp:RP V u px py)(hq:RP V w qx qy)(s1:Sz k px)(s2:Sz k py)(s3:Sz k qx)(s4:Sz k qy)(hk1:1<=k)(hk:64*k+64<274877906944:=by omega) :
  aa prog 30 #[u,w] V λr V'=>((oP px py qx qy).1.num=0/\(oP px py qx qy).2.1.num=0->∃l,r=qvZ #[l,qvQ false]/\RL V' l 0 0 0) /\
   (¬((oP px py qx qy).1.num=0/\(oP px py qx qy).2.1.num=0)->∃l,r=qvZ #[l,qvQ true] /\
    RL V' l ((oP px py qx qy).1.num / (bY (oP px py qx qy).1.num (oP px py qx qy).2.1.num (oP px py qx qy).2.2.num:Int)) ((oP px py qx qy).2.1.num / (bY (oP px py qx qy).1.num (oP px py qx qy).2.1.num (oP px py qx qy).2.2.num:Int)) ((oP px py qx qy).2.2.num / (bY (oP px py qx qy).1.num (oP px py qx qy).2.1.num (oP px py qx qy).2.2.num:Int))):=by
 have N:=hp;have O:=hq;obtain ⟨p1,n1,c1,p2,n2,c2,p3,n3,c3,p4,n4,c4,rfl,c,d⟩:=hp;obtain ⟨q1,m1,e1,q2,m2,e2,q3,m3,e3,q4,m4,e4,rfl,-,-⟩:=hq;refine wC V _ λV1 P=>(pH (O.le P) (N.le P) s3 s4 s1 s2 hk1).s ?_;rintro r V2 l2 ⟨a1,a2,a3,a4,a5,a6,a7,a8,a9,b8,b9,c0,rfl,f,hd⟩;have g:Sz (k+k+1) (qx-px):=s3.sub s1;have td:Sz (k+k+1) (qy-py):=s4.sub s2;have nD:=P.m l2;refine qyK ⟨rfl,λV3 q=>(mM (qy-py) (by obtain ⟨_,_,_,_,_,_,e,Q,h2⟩:=hd.le q;cases e;exact Q) (RQ.den (hd.le q))).s ?_⟩;rintro r V4 R n;obtain ⟨b1,b2,b3,b4,b5,b6,rfl⟩:=n.shape;have i:=td.neg;have s:oP px py qx qy=(-(qy-py)*(((((-(qy-py)).den*(qx-px).den*(-(-(qy-py)*px+(qx-px)*py)).den:Nat):Int):Rat)),(qx-px)*(((((-(qy-py)).den*(qx-px).den*(-(-(qy-py)*px+(qx-px)*py)).den:Nat):Int):Rat)),(-(-(qy-py)*px+(qx-px)*py))*(((((-(qy-py)).den*(qx-px).den*(-(-(qy-py)*px+(qx-px)*py)).den:Nat):Int):Rat))):=rfl;rw [s];generalize -(qy-py)=A at *;generalize qx-px=B at *
 replace f:=f.le (q.m R)
 replace c:=c.le (nD.m (q.m R))
 replace d:=d.le (nD.m (q.m R))
 refine qyZ ⟨rfl,λV5 t=>(aW (n.le t) (c.le t) i s1).s ?_⟩;rintro r V6 S g6;obtain ⟨d1,d2,d3,d4,d5,d6,rfl⟩:=g6.shape;refine qyZ ⟨rfl,λV7 E=>(aW (f.le (t.m (S.m E))) (d.le (t.m (S.m E))) g s2).s ?_⟩;rintro r V8 l8 g8;obtain ⟨f1,f2,f3,f4,f5,f6,rfl⟩:=g8.shape;refine qyZ ⟨rfl,λV9 T=>(dG (g6.le (E.m (l8.m T))) (g8.le T) (i.mul s1) (g.mul s2)).s ?_⟩;rintro r fQ U j;have F:=((i.mul s1).add (g.mul s2)).neg;obtain ⟨i1,i2,i3,i4,i5,i6,rfl⟩:=j.shape;refine qyZ ⟨rfl,λfD W=>(mM (A*px+B*py) (by obtain ⟨_,_,_,_,_,_,e,Q,h2⟩:=j.le W;cases e;exact Q) (RQ.den (j.le W))).s ?_⟩;rintro r gS bS X;generalize -(A*px+B*py)=C at *;obtain ⟨j1,j2,j3,j4,j5,j6,rfl⟩:=X.shape;have H9:=t.m (S.m (E.m (l8.m (T.m (U.m (W.m bS))))))
 replace n:=n.le H9
 replace f:=f.le H9
 refine qyZ ⟨rfl,λj7 G=>(dQ A _ (RQ.den (n.le G))).s ?_⟩;rintro r lB Y ⟨k1,k2,k3,rfl,Z⟩;refine ⟨_,_,_,rfl,λjI H=>(dQ B _ (RQ.den (f.le (G.m (Y.m H))))).s ?_⟩;rintro r lH cq ⟨k4,k5,k6,rfl,a0⟩;obtain ⟨-,da,-⟩:=dq i;obtain ⟨-,db,-⟩:=dq g;obtain ⟨-,dc,-⟩:=dq F;refine ⟨_,_,_,rfl,λlC I=>(dm (Z.le (H.m (cq.m I))) (a0.le I)).s ?_⟩;rintro r mE cj ⟨k7,k8,k9,rfl,v⟩;rw [af,af] at v;refine ⟨_,_,_,rfl,λpf du=>(dQ C _ (RQ.den (X.le (G.m (Y.m (H.m (cq.m (I.m (cj.m du))))))))).s ?_⟩;rintro r vh fl ⟨c5,c6,c7,rfl,b0⟩;have c8:=ka (a:=A.den) (b:=B.den);refine ⟨_,_,_,rfl,λqB gi=>(dm (v.le (du.m (fl.m gi))) (b0.le gi)).s ?_⟩;rintro r tC gV ⟨c9,d0,d7,rfl,x⟩;rw [af,af] at x;have o:Sz (k+k+1+(k+k+1)+(k+k+1+k+1+(k+k+1+k+1)+1)) (((A.den*B.den*C.den:Nat):Int):Rat):=YS (cu (cu i.2 g.2) F.2);generalize A.den*B.den*C.den=M at *;refine ⟨_,_,_,rfl,λrk ij=>(vF (x.le ij)).s ?_⟩;rintro r zk kt ⟨d8,d9,e0,rfl,b7⟩;have hf:=RQ.ofNat b7 rfl;have Yd:=G.m (Y.m (H.m (cq.m (I.m (cj.m (du.m (fl.m (gi.m (gV.m (ij.m kt))))))))));refine qyQ ⟨rfl,λCs p=>(aW (n.le (Yd.m p)) (hf.le p) i o).s ?_⟩;rintro r JS J y;obtain ⟨o1,o2,o3,o4,o5,o6,rfl⟩:=y.shape;refine qyZ ⟨rfl,λPa z=>(aW (f.le (Yd.m (p.m (J.m z)))) (hf.le (p.m (J.m z))) g o).s ?_⟩;rintro r M6 uh D;obtain ⟨o7,o8,o9,e5,e6,e7,rfl⟩:=D.shape;refine qyZ ⟨rfl,λTi K=>(aW (X.le (Yd.m (p.m (J.m (z.m (uh.m K)))))) (hf.le (p.m (J.m (z.m (uh.m K))))) F o).s ?_⟩;rintro r OT vR tY;obtain ⟨t1,t2,t3,t4,t5,t6,rfl⟩:=tY.shape;refine qyZ ⟨rfl,λW5 yM=>(CC (RQ.int (y.le (z.m (uh.m (K.m (vR.m yM)))))) (RQ.int (D.le (K.m (vR.m yM)))) (RQ.int (tY.le yM)) (Qw8 (dq (i.mul o)).1 (by omega)) (Qw8 (dq (g.mul o)).1 (by omega)) (Qw8 (dq (F.mul o)).1 (by omega))).s ?_⟩;rintro r Y0 Cn ⟨z1,z2⟩;by_cases L:(A*((M:Int):Rat)).num=0/\(B*((M:Int):Rat)).num=0
 ·obtain ⟨l,rfl,y1,y2,y3,y4,y5,y6,y7,y8,y9,rfl,w1,w2,w3⟩:=z1 L;exact ⟨_,_,_,_,_,_,_,_,_,_,_,_,_,rfl,λSZ m=>⟨λ_=>⟨_,rfl,_,_,_,_,_,_,_,_,_,rfl,w1.le m,w2.le m,w3.le m⟩,λh=>absurd L h⟩⟩
 ·obtain ⟨l,rfl,y1,y2,y3,y4,y5,y6,y7,y8,y9,rfl,w1,w2,w3⟩:=z2 L;exact ⟨_,_,_,_,_,_,_,_,_,_,_,_,_,rfl,λSZ m=>⟨λh=>absurd h L,λ_=>⟨_,rfl,_,_,_,_,_,_,_,_,_,rfl,w1.le m,w2.le m,w3.le m⟩⟩⟩
theorem rX (h:RQ V v q)(_s:Sz k q)(_hk:k<=1099511627776:=by omega):aa prog 49 #[v] V λr V'=>RQ V' r (-q):=by
 obtain ⟨p,n,c,d,e,f,rfl,a,b⟩:=h;exact mM q a b
theorem bw {z:Int}(h:RD V p n c (ah z.natAbs))(_s:Sz k (z:Rat))(_hk:k<=1099511627776:=by omega) :
  aa prog 110 #[dB #[qvQ (decide (z<0)),hF p n c]] V λr V'=>RQ V' r (z:Rat):=Ny z h
theorem eO {cF l_1 eY:Int}(hl:RL V l cF l_1 eY)(bN:Sz k ((cF:Int):Rat))(bP:Sz k ((l_1:Int):Rat))(bK:Sz k ((eY:Int):Rat))(hk:1*k+1<274877906944:=by omega) :
  aa prog 48 #[l] V λr V'=>RP V' r (((l_1:Int):Rat)) (-(((cF:Int):Rat))):=by
 have p:=hl;obtain ⟨q,a,e,b,f,c,g,d,s,rfl,t,u,G⟩:=hl;refine GD V _ λH a=>(bw (u.le (a)) bP).s ?_;rintro r V2 e j;have h:=j;obtain ⟨I,J,K,v,w,x,rfl⟩:=j.shape;refine qyZ ⟨rfl,λL b=>(bw (t.le (a.m (e.m (b)))) bN).s ?_⟩;rintro r M f n;have i:=n;obtain ⟨N,O,P,y,z,A,rfl⟩:=n.shape;have B:=Sz.s (m:=1*k+0) (bN);refine qyZ ⟨rfl,λQ c=>(rX (i.le (c)) B).s ?_⟩;rintro r R g o;have C:=o;obtain ⟨S,T,U,D,E,F,rfl⟩:=o.shape;exact qyZ ⟨rfl,λW d=>⟨_,_,_,_,_,_,_,_,_,_,_,_,rfl,(h.le (b.m (f.m (c.m (g.m (d)))))),(C.le (d))⟩⟩
theorem gP {cF:Int}{l_1:Int}{eY:Int}(bN:Sz k ((cF:Int):Rat))(bP:Sz k ((l_1:Int):Rat))(bK:Sz k ((eY:Int):Rat)):Sz (1*k+0) (((l_1:Int):Rat)):=by
 have a:=Sz.s (m:=1*k+0) (bP);exact Sz.s a
theorem gQ {cF:Int}{l_1:Int}{eY:Int}(bN:Sz k ((cF:Int):Rat))(bP:Sz k ((l_1:Int):Rat))(bK:Sz k ((eY:Int):Rat)):Sz (1*k+0) (-(((cF:Int):Rat))):=by
 have a:=Sz.s (m:=1*k+0) (bN);have b:=Sz.s (m:=1*k+0) (Sz.neg a);exact Sz.s b
theorem pG {p:un}{q:un}(hp:RP V p kf kg)(hq:RP V q GV GW)(im:Sz k kf)(iq:Sz k kg)(xR:Sz k GV)(xS:Sz k GW)(hk:4*k+3<274877906944:=by omega) :
  aa prog 164 #[p,q] V λr V'=>RQ V' r (((kf)*(GV))+((kg)*(GW))):=by
 have l:=hp;obtain ⟨n,o,s,t,u,v,w,x,y,z,A,B,rfl,C,D⟩:=hp;have E:=hq;obtain ⟨F,G,H,I,J,K,L,M,N,O,P,b,rfl,Q,R⟩:=hq;refine GG V _ λV1 a=>(aW (C.le (a)) (Q.le (a)) im xR).s ?_;rintro r V2 f g;have c:=g;obtain ⟨Zm,Zn,Zo,S,T,U,rfl⟩:=g.shape;have W:=Sz.s (m:=2*k+1) (Sz.mul im xR);refine qyZ ⟨rfl,λV3 d=>(aW (D.le (a.m (f.m (d)))) (R.le (a.m (f.m (d)))) iq xS).s ?_⟩;rintro r V4 X h;have e:=h;obtain ⟨Vu,Vv,Vw,Y,Z,a0,rfl⟩:=h.shape;have dE:=Sz.s (m:=2*k+1) (Sz.mul iq xS);refine qyZ ⟨rfl,λV5 i=>(dG (c.le (d.m (X.m (i)))) (e.le (i)) W dE).s ?_⟩;rintro r V6 l6 j;have tY:=j;obtain ⟨WO,WQ,WR,a1,a2,a3,rfl⟩:=j.shape;exact qyZ ⟨rfl,λV7 l7=>(tY.le (l7))⟩
theorem gR (im:Sz k kf)(iq:Sz k kg)(xR:Sz k GV)(xS:Sz k GW):Sz (4*k+3) (((kf)*(GV))+((kg)*(GW))):=by
 have a:=Sz.s (m:=2*k+1) (Sz.mul im xR);have b:=Sz.s (m:=2*k+1) (Sz.mul iq xS);have c:=Sz.s (m:=4*k+3) (Sz.add a b);exact Sz.s c
theorem jo {cF l_1 eY:Int}{p:un}(hl:RL V l cF l_1 eY)(hp:RP V p kf kg){k:Nat}(bN:Sz k ((cF:Int):Rat))(bP:Sz k ((l_1:Int):Rat))(bK:Sz k ((eY:Int):Rat))(im:Sz k kf)(iq:Sz k kg)(hk:5*k+4<274877906944:=by omega) :
  aa prog 166 #[l,p] V λr V'=>RQ V' r ((((((cF:Int):Rat))*(kf))+((((l_1:Int):Rat))*(kg)))+(((eY:Int):Rat))):=by
 have E:=hl;obtain ⟨F,a,c,b,f,d,g,e,h,rfl,G,H,I⟩:=hl;have J:=hp;obtain ⟨K,L,M,N,O,P,Q,R,S,T,U,W,rfl,X,Y⟩:=hp;refine BZ V _ λV1 a=>(bw (G.le (a)) bN).s ?_;rintro r V2 c q;have i:=q;obtain ⟨Zm,Zn,Zo,Z,a0,a1,rfl⟩:=q.shape;have s:=Sz.s (m:=1*k+0) (bN);refine qyZ ⟨rfl,λV3 b=>(aW (i.le (b)) (X.le (a.m (c.m (b)))) s im).s ?_⟩;rintro r V4 f t;have j:=t;obtain ⟨Vu,Vv,Vw,a2,a3,a4,rfl⟩:=t.shape;have u:=Sz.s (m:=2*k+1) (Sz.mul s im);refine qyZ ⟨rfl,λV5 d=>(bw (H.le (a.m (c.m (b.m (f.m (d)))))) bP).s ?_⟩;rintro r V6 g v;have tY:=v;obtain ⟨WO,WQ,WR,a5,a6,a7,rfl⟩:=v.shape;have w:=Sz.s (m:=1*k+0) (bP);refine qyZ ⟨rfl,λV7 e=>(aW (tY.le (e)) (Y.le (a.m (c.m (b.m (f.m (d.m (g.m (e)))))))) w iq).s ?_⟩;rintro r V8 h x;have Qh:=x;obtain ⟨a8,a9,b0,b1,b2,b3,rfl⟩:=x.shape;have y:=Sz.s (m:=2*k+1) (Sz.mul w iq);refine qyZ ⟨rfl,λV9 n=>(dG (j.le (d.m (g.m (e.m (h.m (n)))))) (Qh.le (n)) u y).s ?_⟩;rintro r fQ o z;have NT:=z;obtain ⟨b4,b5,b6,b7,b8,b9,rfl⟩:=z.shape;have DE:=Sz.s (m:=4*k+3) (Sz.add u y);refine qyZ ⟨rfl,λfD A=>(bw (I.le (a.m (c.m (b.m (f.m (d.m (g.m (e.m (h.m (n.m (o.m (A)))))))))))) bK).s ?_⟩;rintro r gS bS B;have XL:=B;obtain ⟨c0,c1,c2,c3,c4,c5,rfl⟩:=B.shape;have SW:=Sz.s (m:=1*k+0) (bK);refine qyZ ⟨rfl,λj7 C=>(dG (NT.le (A.m (bS.m (C)))) (XL.le (C)) DE SW).s ?_⟩;rintro r lB cz D;have XM:=D;obtain ⟨c6,c7,c8,c9,d0,d1,rfl⟩:=D.shape;exact qyZ ⟨rfl,λjI cE=>(XM.le (cE))⟩
theorem CE {cF l_1 eY:Int}{p:un}(hl:RL V l cF l_1 eY)(hp:RP V p kf kg)(hd0:((((((l_1:Int):Rat)))*((((l_1:Int):Rat))))+(((-(((cF:Int):Rat))))*((-(((cF:Int):Rat)))))).num≠0)(bN:Sz k ((cF:Int):Rat))(bP:Sz k ((l_1:Int):Rat))(bK:Sz k ((eY:Int):Rat))(im:Sz k kf)(iq:Sz k kg)(hk:8*k+7<274877906944) :
  aa prog 108 #[l,p] V λr V'=>RQ V' r ((((kf)*((((l_1:Int):Rat))))+((kg)*((-(((cF:Int):Rat))))))*((((((l_1:Int):Rat)))*((((l_1:Int):Rat))))+(((-(((cF:Int):Rat))))*((-(((cF:Int):Rat))))))⁻¹):=by
 have i:=hl;obtain ⟨B,f,j,b,g,e,n,h,s,rfl,sC,sE,uc⟩:=hl;have o:=hp;obtain ⟨C,D,E,F,G,H,I,J,K,L,M,N,rfl,FC,FD⟩:=hp;refine BW V _ λV1 f=>(eO (i.le (f)) (Sz.s bN:Sz (1*k+0) _) (Sz.s bP:Sz (1*k+0) _) (Sz.s bK:Sz (1*k+0) _)).s ?_;rintro r V2 j t;have a:=t;obtain ⟨Vn,Vo,Vp,Vq,Vs,Vt,u,v,w,x,WM,WN,rfl,T2,T3⟩:=t;have c:=Sz.s (m:=1*k+0) ((gP (Sz.s bN:Sz (1*k+0) _) (Sz.s bP:Sz (1*k+0) _) (Sz.s bK:Sz (1*k+0) _)));have d:=Sz.s (m:=1*k+0) ((gQ (Sz.s bN:Sz (1*k+0) _) (Sz.s bP:Sz (1*k+0) _) (Sz.s bK:Sz (1*k+0) _)));refine qyK ⟨rfl,λV3 b=>(pG (o.le (f.m (j.m (b)))) (a.le (b)) (Sz.s im:Sz (1*k+0) _) (Sz.s iq:Sz (1*k+0) _) (Sz.s c:Sz (1*k+0) _) (Sz.s d:Sz (1*k+0) _)).s ?_⟩;rintro r V4 g y;have q:=y;obtain ⟨Vu,Vv,Vw,O,P,Q,rfl⟩:=y.shape;have R:=Sz.s (m:=4*k+3) ((gR (Sz.s im:Sz (1*k+0) _) (Sz.s iq:Sz (1*k+0) _) (Sz.s c:Sz (1*k+0) _) (Sz.s d:Sz (1*k+0) _)));refine qyZ ⟨rfl,λV5 e=>(pG (a.le (b.m (g.m (e)))) (a.le (b.m (g.m (e)))) (Sz.s c:Sz (1*k+0) _) (Sz.s d:Sz (1*k+0) _) (Sz.s c:Sz (1*k+0) _) (Sz.s d:Sz (1*k+0) _)).s ?_⟩;rintro r V6 n z;have S:=z;obtain ⟨WO,WQ,WR,T,U,W,rfl⟩:=z.shape;have X:=Sz.s (m:=4*k+3) ((gR (Sz.s c:Sz (1*k+0) _) (Sz.s d:Sz (1*k+0) _) (Sz.s c:Sz (1*k+0) _) (Sz.s d:Sz (1*k+0) _)));refine qyZ ⟨rfl,λV7 h=>(iX (q.le (e.m (n.m (h)))) (S.le (h)) hd0 R X).s ?_⟩;rintro r V8 s A;have Y:=A;obtain ⟨Z,a0,a1,a2,a3,a4,rfl⟩:=A.shape;exact qyZ ⟨rfl,λV9 l9=>(Y.le (l9))⟩
theorem tH {cF l_1 eY:Int}(hl:RL V l cF l_1 eY)(hd0:((((((l_1:Int):Rat)))*((((l_1:Int):Rat))))+(((-(((cF:Int):Rat))))*((-(((cF:Int):Rat)))))).num≠0)(bN:Sz k ((cF:Int):Rat))(bP:Sz k ((l_1:Int):Rat))(bK:Sz k ((eY:Int):Rat))(hk:6*k+5<274877906944:=by omega) :
  aa prog 113 #[l] V λr V'=>RP V' r ((-((((eY:Int):Rat))*((((((l_1:Int):Rat)))*((((l_1:Int):Rat))))+(((-(((cF:Int):Rat))))*((-(((cF:Int):Rat))))))⁻¹))*(((cF:Int):Rat))) ((-((((eY:Int):Rat))*((((((l_1:Int):Rat)))*((((l_1:Int):Rat))))+(((-(((cF:Int):Rat))))*((-(((cF:Int):Rat))))))⁻¹))*(((l_1:Int):Rat))):=by
 have s:=hl;obtain ⟨U,c,f,a,d,b,g,e,j,rfl,W,X,Y⟩:=hl;refine Dm V _ λV1 c=>(eO (s.le (c)) (Sz.s bN:Sz (1*k+0) _) (Sz.s bP:Sz (1*k+0) _) (Sz.s bK:Sz (1*k+0) _)).s ?_;rintro r V2 f z;have h:=z;obtain ⟨Vn,Vo,Vp,Vq,Vs,Vt,A,B,C,D,WM,WN,rfl,T2,T3⟩:=z;have n:=Sz.s (m:=1*k+0) ((gP (Sz.s bN:Sz (1*k+0) _) (Sz.s bP:Sz (1*k+0) _) (Sz.s bK:Sz (1*k+0) _)));have o:=Sz.s (m:=1*k+0) ((gQ (Sz.s bN:Sz (1*k+0) _) (Sz.s bP:Sz (1*k+0) _) (Sz.s bK:Sz (1*k+0) _)));refine qyK ⟨rfl,λV3 a=>(bw (Y.le (c.m (f.m (a)))) bK).s ?_⟩;rintro r V4 d E;have t:=E;obtain ⟨Vu,Vv,Vw,Z,a0,a1,rfl⟩:=E.shape;have F:=Sz.s (m:=1*k+0) (bK);refine qyZ ⟨rfl,λV5 b=>(pG (h.le (a.m (d.m (b)))) (h.le (a.m (d.m (b)))) (Sz.s n:Sz (1*k+0) _) (Sz.s o:Sz (1*k+0) _) (Sz.s n:Sz (1*k+0) _) (Sz.s o:Sz (1*k+0) _)).s ?_⟩;rintro r V6 g G;have tY:=G;obtain ⟨WO,WQ,WR,a2,a3,a4,rfl⟩:=G.shape;have H:=Sz.s (m:=4*k+3) ((gR (Sz.s n:Sz (1*k+0) _) (Sz.s o:Sz (1*k+0) _) (Sz.s n:Sz (1*k+0) _) (Sz.s o:Sz (1*k+0) _)));refine qyZ ⟨rfl,λV7 e=>(iX (t.le (b.m (g.m (e)))) (tY.le (e)) hd0 F H).s ?_⟩;rintro r V8 j I;have Qh:=I;obtain ⟨a5,a6,a7,a8,a9,b0,rfl⟩:=I.shape;have J:=Sz.s (m:=5*k+4) (Sz.mul F (fu H));refine qyZ ⟨rfl,λV9 u=>(rX (Qh.le (u)) J).s ?_⟩;rintro r fQ i K;have L:=K;obtain ⟨b1,b2,b3,b4,b5,b6,rfl⟩:=K.shape;have M:=Sz.s (m:=5*k+4) (Sz.neg J);refine qyZ ⟨rfl,λfD p=>(bw (W.le (c.m (f.m (a.m (d.m (b.m (g.m (e.m (j.m (u.m (i.m (p)))))))))))) bN).s ?_⟩;rintro r gS v N;have XL:=N;obtain ⟨b7,b8,b9,c0,c1,c2,rfl⟩:=N.shape;have SW:=Sz.s (m:=1*k+0) (bN);refine qyZ ⟨rfl,λj7 q=>(aW (L.le (p.m (v.m (q)))) (XL.le (q)) M SW).s ?_⟩;rintro r lB O P;have XM:=P;obtain ⟨c3,c4,c5,c6,c7,c8,rfl⟩:=P.shape;refine qyZ ⟨rfl,λjI w=>(bw (X.le (c.m (f.m (a.m (d.m (b.m (g.m (e.m (j.m (u.m (i.m (p.m (v.m (q.m (O.m (w)))))))))))))))) bP).s ?_⟩;rintro r lH Q R;have XN:=R;obtain ⟨c9,d0,d1,d2,d3,d4,rfl⟩:=R.shape;have YX:=Sz.s (m:=1*k+0) (bP);refine qyZ ⟨rfl,λlC x=>(aW (L.le (p.m (v.m (q.m (O.m (w.m (Q.m (x)))))))) (XN.le (x)) M YX).s ?_⟩;rintro r mE cj S;have y:=S;obtain ⟨d5,d6,d7,d8,d9,e0,rfl⟩:=S.shape;exact qyZ ⟨rfl,λpf T=>⟨_,_,_,_,_,_,_,_,_,_,_,_,rfl,(XM.le (w.m (Q.m (x.m (cj.m (T)))))),(y.le (T))⟩⟩
theorem Cg {cF:Int}{l_1:Int}{eY:Int}(bN:Sz k ((cF:Int):Rat))(bP:Sz k ((l_1:Int):Rat))(bK:Sz k ((eY:Int):Rat)):Sz (6*k+5) ((-((((eY:Int):Rat))*((((((l_1:Int):Rat)))*((((l_1:Int):Rat))))+(((-(((cF:Int):Rat))))*((-(((cF:Int):Rat))))))⁻¹))*(((cF:Int):Rat))):=by
 have b:=Sz.s (m:=1*k+0) ((gP (Sz.s bN:Sz (1*k+0) _) (Sz.s bP:Sz (1*k+0) _) (Sz.s bK:Sz (1*k+0) _)));have c:=Sz.s (m:=1*k+0) ((gQ (Sz.s bN:Sz (1*k+0) _) (Sz.s bP:Sz (1*k+0) _) (Sz.s bK:Sz (1*k+0) _)));have d:=Sz.s (m:=1*k+0) (bK);have e:=Sz.s (m:=4*k+3) ((gR (Sz.s b:Sz (1*k+0) _) (Sz.s c:Sz (1*k+0) _) (Sz.s b:Sz (1*k+0) _) (Sz.s c:Sz (1*k+0) _)));have f:=Sz.s (m:=5*k+4) (Sz.mul d (fu e));have g:=Sz.s (m:=5*k+4) (Sz.neg f);have h:=Sz.s (m:=1*k+0) (bN);have a:=Sz.s (m:=6*k+5) (Sz.mul g h);exact Sz.s a
theorem Ch {cF:Int}{l_1:Int}{eY:Int}(bN:Sz k ((cF:Int):Rat))(bP:Sz k ((l_1:Int):Rat))(bK:Sz k ((eY:Int):Rat)):Sz (6*k+5) ((-((((eY:Int):Rat))*((((((l_1:Int):Rat)))*((((l_1:Int):Rat))))+(((-(((cF:Int):Rat))))*((-(((cF:Int):Rat))))))⁻¹))*(((l_1:Int):Rat))):=by
 have b:=Sz.s (m:=1*k+0) ((gP (Sz.s bN:Sz (1*k+0) _) (Sz.s bP:Sz (1*k+0) _) (Sz.s bK:Sz (1*k+0) _)));have c:=Sz.s (m:=1*k+0) ((gQ (Sz.s bN:Sz (1*k+0) _) (Sz.s bP:Sz (1*k+0) _) (Sz.s bK:Sz (1*k+0) _)));have d:=Sz.s (m:=1*k+0) (bK);have e:=Sz.s (m:=4*k+3) ((gR (Sz.s b:Sz (1*k+0) _) (Sz.s c:Sz (1*k+0) _) (Sz.s b:Sz (1*k+0) _) (Sz.s c:Sz (1*k+0) _)));have f:=Sz.s (m:=5*k+4) (Sz.mul d (fu e));have g:=Sz.s (m:=5*k+4) (Sz.neg f);have h:=Sz.s (m:=1*k+0) (bP);have a:=Sz.s (m:=6*k+5) (Sz.mul g h);exact Sz.s a
theorem Kg {cF l_1 eY:Int}{t:un}(hl:RL V l cF l_1 eY)(ht:RQ V t Td)(hd0:((((((l_1:Int):Rat)))*((((l_1:Int):Rat))))+(((-(((cF:Int):Rat))))*((-(((cF:Int):Rat)))))).num≠0)(bN:Sz k ((cF:Int):Rat))(bP:Sz k ((l_1:Int):Rat))(bK:Sz k ((eY:Int):Rat))(K_:Sz k Td)(hk:18*k+16<274877906944) :
  aa prog 51 #[l,t] V λr V'=>RP V' r (((-((((eY:Int):Rat))*((((((l_1:Int):Rat)))*((((l_1:Int):Rat))))+(((-(((cF:Int):Rat))))*((-(((cF:Int):Rat))))))⁻¹))*(((cF:Int):Rat)))+(Td)*(((l_1:Int):Rat))) (((-((((eY:Int):Rat))*((((((l_1:Int):Rat)))*((((l_1:Int):Rat))))+(((-(((cF:Int):Rat))))*((-(((cF:Int):Rat))))))⁻¹))*(((l_1:Int):Rat)))+(Td)*(-(((cF:Int):Rat)))):=by
 have a:=hl;obtain ⟨l0,b,g,c,h,d,v,i,l8,rfl,sC,sE,uc⟩:=hl;have j:=ht;obtain ⟨t0,t1,t2,t3,t4,t5,rfl⟩:=ht.shape;refine JC V _ λV1 b=>(tH (a.le (b)) hd0 (Sz.s bN:Sz (1*k+0) _) (Sz.s bP:Sz (1*k+0) _) (Sz.s bK:Sz (1*k+0) _)).s ?_;rintro r V2 g w;have n:=w;obtain ⟨Vn,Vo,Vp,Vq,Vs,Vt,x,y,z,A,WM,WN,rfl,T2,T3⟩:=w;have bV:=Sz.s (m:=6*k+5) ((Cg (Sz.s bN:Sz (1*k+0) _) (Sz.s bP:Sz (1*k+0) _) (Sz.s bK:Sz (1*k+0) _)));have dM:=Sz.s (m:=6*k+5) ((Ch (Sz.s bN:Sz (1*k+0) _) (Sz.s bP:Sz (1*k+0) _) (Sz.s bK:Sz (1*k+0) _)));refine qyK ⟨rfl,λV3 c=>(eO (a.le (b.m (g.m (c)))) (Sz.s bN:Sz (1*k+0) _) (Sz.s bP:Sz (1*k+0) _) (Sz.s bK:Sz (1*k+0) _)).s ?_⟩;rintro r V4 h B;have o:=B;obtain ⟨C,D,E,F,G,H,I,J,K,L,p,q,rfl,M,N⟩:=B;have dE:=Sz.s (m:=1*k+0) ((gP (Sz.s bN:Sz (1*k+0) _) (Sz.s bP:Sz (1*k+0) _) (Sz.s bK:Sz (1*k+0) _)));have LM:=Sz.s (m:=1*k+0) ((gQ (Sz.s bN:Sz (1*k+0) _) (Sz.s bP:Sz (1*k+0) _) (Sz.s bK:Sz (1*k+0) _)));refine qyK ⟨rfl,λV5 d=>(fJ (n.le (c.m (h.m (d)))) (j.le (b.m (g.m (c.m (h.m (d)))))) (o.le (d)) (Sz.s bV:Sz (6*k+5) _) (Sz.s dM:Sz (6*k+5) _) (Sz.s K_:Sz (6*k+5) _) (Sz.s dE:Sz (6*k+5) _) (Sz.s LM:Sz (6*k+5) _)).s ?_⟩;rintro r V6 v O;have tY:=O;obtain ⟨P,Q,R,S,T,U,W,X,Y,Z,s,u,rfl,e,f⟩:=O;exact qyK ⟨rfl,λV7 i=>⟨_,_,_,_,_,_,_,_,_,_,_,_,rfl,(e.le (i)),(f.le (i))⟩⟩
end Go.Proofs.Tryz
