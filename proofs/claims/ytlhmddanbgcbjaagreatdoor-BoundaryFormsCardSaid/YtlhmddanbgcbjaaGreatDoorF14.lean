import Derived.Test.YtlhmddanbgcbjaaGreatDoorF12
import Derived.Test.YtlhmddanbgcbjaaGreatDoorF7
set_option linter.all false
open Go.IntKind (i64 u64 u32)
open Go.Value renaming slice→zF,agg→hF,bool→dB,int→Ô,tuple→tN,pointer→dS
open Go.Eng Go.Big
namespace Go.Proofs.Tryz
variable{V:Ó}{p:OA}{c n:Nat}
theorem fJ (b:md){x:Nat}(h:RN V p n c x):À 78 #[dB b,zF p n c] V λr V'=>RI V' r (if b then -(x:Int) else x):=by have f:=iQ h.len;refine K9 V _ ⟨λa e d=>?_,λa e d=>?_⟩;{rw [Ä a];refine RI.mk ?_ ?_;{rw [Ģ,Ñ,Ñ];omega};{rw [ş,Ğ];exact h.le d}};{rw [a,Ã φ];refine RI.mk ?_ ?_;{symm;rw [Ò];omega};{rw [Ğ];exact h.le d}}
theorem lC {b:md}{x:Nat}{z:Int}(h:RN V p n c x)(hz:(if b then -(x:Int) else x)=z):À 78 #[dB b,zF p n c] V λr V'=>∃(RJ:md)(T8:OA)(TH R3:Nat),r=hF #[dB RJ,zF T8 TH R3]/\∀V3:ut,V'.Le V3->RI V3 (hF #[dB RJ,zF T8 TH R3]) z:=by refine (fJ b h).s ?_;rintro r V2 d ⟨e,f,i,rfl,g⟩;rw [hz] at g ⊢;exact qyQ ⟨rfl,λV3 a=>⟨_,_,_,rfl,g.le a⟩⟩
theorem Pv (n:Int)(h0:-9223372036854775808<=n)(h1:n<=9223372036854775807):À 80 #[Ô .i64 n] V λr V'=>RI V' r n:=by refine Nu V _ ⟨λa d f=>?_,λa d f=>?_⟩;{have a:n<0:=by{simpa using a};have e:u64.wrap (0-u64.wrap n)=((-n).toNat:Int):=by{rw [zM,zM];omega};rw [e];refine (fK _).s ?_;rintro r V2 g ⟨h,i,j,rfl,b⟩;exact ⟨_,_,_,rfl,λk c=>lC (b.le c) (by simp;omega)⟩};{have a:0<=n:=by{simpa using a};have e:u64.wrap n=(n.toNat:Int):=by{rw [bj ω];omega};rw [e];refine (fK _).s ?_;rintro r V2 g ⟨h,i,j,rfl,b⟩;exact ⟨_,_,_,rfl,λk c=>lC (b.le c) (by simp;omega)⟩}
theorem oD (z:Int)(h:RN V p n c z.natAbs):À 140 #[hF #[dB (decide (z<0)),zF p n c]] V λr V'=>r=Ô .i64 z.sign:=by have f:=iQ h.len;refine Lb V _ ⟨λb d e=>?_,λb=>⟨λa d e=>?_,λa d e=>?_⟩⟩;{have:z=0:=by{simp at b;omega};rw [this];rfl};{rw [Ñ] at a;rw [Qd2 a]};{rw [Ò] at a;have:0<z:=by{simp at b;omega};rw [Qf8 this]}
theorem jP (z:Int)(h:RN V p n c z.natAbs):À 36 #[hF #[dB (decide (z<0)),zF p n c]] V λr V'=>RI V' r (-z):=by refine H_ V _ λd a=>lC (h.le a) ?_;by_cases b:z<0<;>simp [b]<;>omega
theorem nk (z w:Int){q:OA}{m e:Nat}(ha:RN V p n c z.natAbs)(hb:RN V q m e w.natAbs)(hm:(ah z.natAbs).length+(ah w.natAbs).length<=2^40:=by omega):À 134 #[hF #[dB (decide (z<0)),zF p n c],hF #[dB (decide (w<0)),zF q m e]] V λr V'=>RI V' r (z*w):=by
 refine Nw V _ λf a=>(dF (ha.le a) (hb.le a) hm).s ?_;rintro r V2 g ⟨h,i,j,rfl,b⟩;rw [af,af] at b;refine ⟨_,_,_,rfl,λk d=>lC (b.le d) ?_⟩
 conv=>rhs;rw [((aL z).symm),((aL w).symm)]
 unfold bF;rw [af,af];cases decide (z<0)<;>cases decide (w<0)<;>simp [Wz4,Ww7]
theorem wU (z w:Int){q:OA}{m e:Nat}(ha:RN V p n c z.natAbs)(hb:RN V q m e w.natAbs)(hm:(ah z.natAbs).length<=2^40)(hn:(ah w.natAbs).length<=2^40:=by omega):À 132 #[hF #[dB (decide (z<0)),zF p n c],hF #[dB (decide (w<0)),zF q m e]] V λr V'=>RI V' r (z+w):=by refine Nr V _ ⟨λi t a=>(Pw (ha.le a) (hb.le a) hm hn).s ?_,λi t a=>(kR (ha.le a) (hb.le a) hm hn).s ?_⟩;{rintro r V2 g ⟨k,l,o,rfl,b⟩;rw [af,af] at b;refine ⟨_,_,_,rfl,λs d=>lC (b.le d) ?_⟩;by_cases h:z<0<;>by_cases hw:w<0<;>simp [h,hw] at i⊢<;>omega};{rintro r V2 g rfl;refine ⟨_,rfl,λf s d=>?_,λf s d=>?_⟩;{have f:z.natAbs<w.natAbs:=by{simpa [iL] using f};refine (tG (hb.le (a.m (g.m d))) (ha.le (a.m (g.m d))) hn (aO (Qs0 f)) (by rw [af,af];omega)).s ?_;rintro r u v ⟨k,l,o,rfl,b⟩;rw [af,af] at b;refine ⟨_,_,_,rfl,λx j=>lC (b.le j) ?_⟩;by_cases h:z<0<;>by_cases hw:w<0<;>simp [h,hw] at i⊢<;>omega};{have f:w.natAbs<=z.natAbs:=by{simpa [<-Ww1,iL] using f};refine (tG (ha.le (a.m (g.m d))) (hb.le (a.m (g.m d))) hm (aO f) (by rw [af,af];omega)).s ?_;rintro r u v ⟨k,l,o,rfl,b⟩;rw [af,af] at b;refine ⟨_,_,_,rfl,λx j=>lC (b.le j) ?_⟩;by_cases h:z<0<;>by_cases hw:w<0<;>simp [h,hw] at i⊢<;>omega}}
end Go.Proofs.Tryz
namespace Go.Eng
def zv (d:Nat):List Nat:=if d=1 then [] else ah d
def RQ (V:Ó)(v:Value)(q:Rat):Prop:=∃p n c p' n' c',v=.agg #[.bool (decide (q.num<0)),.slice p n c,.slice p' n' c'] /\
 RD V p n c (ah q.num.natAbs)/\RD V p' n' c' (zv q.den)
theorem RQ.le {V V':ut}{v:un}{q:Rat}(h:RQ V v q)(l:V.Le V'):RQ V' v q:=by obtain ⟨p,n,c,a,b,d,e,f,g⟩:=h;exact ⟨p,n,c,a,b,d,e,f.le l,g.le l⟩
def Jq {q:Rat}:zv q.den=[]↔q.den=1:=by unfold zv;split;{rename_i h;simp [h]};{rename_i h;rw [bR];have:=q.den_nz;omega}
end Go.Eng
namespace Go.Proofs.Tryz
variable{V:Ó}{p p':OA}{c c' k m n n':Nat}{x y:Rat}{v w:Value}
theorem qh {q:Rat}(h:RD V p n c (zv q.den)):n=0↔q.den=1:=by rw [<-Jq,h.len,ĕ]
theorem dU (q:Rat)(b:md)(h2:RD V p' n' c' (zv q.den)):À 77 #[hF #[dB b,zF p n c,zF p' n' c']] V λr V'=>∃p1 n1 c1,r=zF p1 n1 c1/\RN V' p1 n1 c1 q.den:=by have d:=qh h2;refine Nt V _ ⟨λa h f=>q_.s ?_,λa h f=>⟨_,_,_,rfl,?_⟩⟩;{rintro r V2 j ⟨p1,n1,c1,rfl,g⟩;have:q.den=1:=d.1 (by simp at a;omega);rw [this];exact ⟨_,_,_,rfl,λk i=>⟨_,_,_,rfl,g.le i⟩⟩};{have:q.den≠1:=λe=>by{have:=d.2 e;simp at a;omega};unfold zv at h2;rw [Ã this] at h2;exact h2.le f}
theorem sT {q:Rat}{z:Int}{d:Nat}(hn:q.num=z)(hd:q.den=d)(h1:RD V p n c (ah z.natAbs))(h2:RD V p' n' c' (zv d)){b:md}(hb:b=decide (z<0)):RQ V (hF #[dB b,zF p n c,zF p' n' c']) q:=by subst hn hd hb;exact qyW ⟨rfl,h1,h2⟩
theorem oB (z:Int){d:Nat}{q:OA}{e:Nat}(hx:RN V p n c z.natAbs)(hy:RN V q m e d)(hm:(ah z.natAbs).length<=2^38)(hn:(ah d).length<=2^38)(hd:d≠0):À 133 #[hF #[dB (decide (z<0)),zF p n c],zF q m e] V λr V'=>RQ V' r (mkRat z d):=by refine K5 V _ λV1 A=>(oA (hx.le A) (hy.le A) hm hn).s ?_;rintro r V2 W ⟨p1,n1,c1,rfl,h⟩;have J:=ľ z.natAbs d;have K:0<Nat.gcd z.natAbs d:=Wz1 _ ω;have i:=ā (aO (Wq9 ω (ś z.natAbs d))) hn;have L:(mkRat z d).num=z/(Nat.gcd d z.natAbs:Nat):=by{rw [Qs5,Ã hd]};have a:(mkRat z d).den=d/Nat.gcd d z.natAbs:=by{rw [Wq8,Ã hd]};rw [Ş d] at L a;generalize hG:Nat.gcd z.natAbs d=g at *;generalize mkRat z d=w at *;refine ⟨_,_,_,rfl,λV3 B=>q_.s ?_⟩;rintro r V4 C ⟨p2,n2,c2,rfl,h1⟩;refine ⟨_,_,_,rfl,λV5 j=>(kR (h.le (B.m (C.m j))) (h1.le j) ω φ).s ?_⟩;rintro r V6 M rfl;replace hx:=hx.le (A.m (W.m (B.m (C.m (j.m M)))));replace hy:=hy.le (A.m (W.m (B.m (C.m (j.m M)))));replace h:=h.le (B.m (C.m (j.m M)));refine ⟨_,rfl,λX V7 D=>(gg (hx.le D) (h.le D) hm i K).s ?_,λX rU E=>q_.s ?_⟩;{rintro r V8 Y ⟨p4,n4,c4,p5,n5,c5,rfl,Z,-⟩;have a0:(mkRat z d).num.natAbs=(mkRat z d).num.natAbs:=rfl;obtain ⟨k,N⟩:=J;have O:z.natAbs/g=k:=by{rw [N,Nat.mul_div_cancel_left _ K]};rw [O] at Z;have hz:z=(g:Int)*(if z<0 then -(k:Int) else k):=by{split;{rw [Ww7,<-ŗ,<-N];omega};{rw [<-ŗ,<-N];omega}};have b:w.num=(if z<0 then -(k:Int) else k):=by{rw [L];generalize (if z<0 then -(k:Int) else k)=t at *;rw [hz,Qh1 _ ω]};refine qyW ⟨rfl,λV9 P=>(fJ _ (Z.le P)).s ?_⟩;have l:(if decide (z<0)=true then -(k:Int) else k)=w.num:=by{rw [b];simp};rw [l];rintro r fW o ⟨p7,n7,c7,rfl,g2⟩;refine qyQ ⟨rfl,λfk F=>(gg (hy.le (D.m (Y.m (P.m (o.m F))))) (h.le (D.m (Y.m (P.m (o.m F))))) hn i K).s ?_⟩;rintro r iD bY ⟨p8,n8,c8,p9,n9,c9,rfl,Q,-⟩;rw [<-a] at Q;refine qyW ⟨rfl,λku G=>q_.s ?_⟩;rintro r lV H ⟨Rj,a1,a2,rfl,R⟩;have a3:(ah w.den).length<=2^38:=by{rw [a];exact ā (aO (Qc8 _ _)) hn};refine ⟨_,_,_,rfl,λmg s=>(kR (Q.le (G.m (H.m s))) (R.le s) ω φ).s ?_⟩;rintro r lY S rfl;refine ⟨_,rfl,λf mY T=>sT rfl rfl (g2.le (F.m (bY.m (G.m (H.m (s.m (S.m T))))))) ?_ rfl,λf nX u=>sT rfl rfl (g2.le (F.m (bY.m (G.m (H.m (s.m (S.m u))))))) ?_ rfl⟩;{have:w.den=1:=nu.1 (by simpa using f);rw [Jq.2 this];exact RD.nil};{have:w.den≠1:=λe=>by{rw [nu.2 e] at f;simp at f};unfold zv;rw [Ã this];exact Q.le (G.m (H.m (s.m (S.m u))))}};{have v:=nu.1 (by simpa using X);have b:w.num=z:=by{rw [L,v];simp};have x:w.den=d:=by{rw [a,v];simp};rintro r uD I ⟨a4,a5,a6,rfl,R⟩;refine ⟨_,_,_,rfl,λux y=>(kR (hy.le (E.m (I.m y))) (R.le y) ω φ).s ?_⟩;rintro r uE U rfl;refine ⟨_,rfl,λf mY T=>sT b x (hx.le (E.m (I.m (y.m (U.m T))))) ?_ rfl,λf nX u=>sT b x (hx.le (E.m (I.m (y.m (U.m u))))) ?_ rfl⟩;{have:d=1:=nu.1 (by simpa using f);unfold zv;rw [Ä this];exact RD.nil};{have:d≠1:=λe=>by{rw [nu.2 e] at f;simp at f};unfold zv;rw [Ã this];exact hy.le (E.m (I.m (y.m (U.m u))))}}
theorem dW (n:Int)(h0:-9223372036854775808<=n)(h1:n<=9223372036854775807:=by omega):À 32 #[Ô .i64 n] V λr V'=>RQ V' r (n:Rat):=by refine QY V _ λb e=>(Pv n h0 h1).s ?_;rintro r V2 f ⟨p,m,c,rfl,g⟩;exact qyQ ⟨rfl,λh a=>sT (z:=n) (d:=1) rfl rfl (g.le a) RD.nil rfl⟩
theorem rj (q:Rat)(h1:RD V p n c (ah q.num.natAbs)):À 107 #[hF #[dB (decide (q.num<0)),zF p n c,zF p' n' c']] V λr V'=>r=Ô .i64 q.num.sign:=by refine U3 V _ λb a=>(oD q.num (h1.le a)).s ?_;rintro r V2 d rfl;exact ⟨_,rfl,λe f=>rfl⟩
theorem nq (q:Rat)(h1:RD V p n c (ah q.num.natAbs))(h2:RD V p' n' c' (zv q.den)):À 49 #[hF #[dB (decide (q.num<0)),zF p n c,zF p' n' c']] V λr V'=>RQ V' r (-q):=by refine Ny V _ λf a=>(jP q.num (h1.le a)).s ?_;rintro r V2 e ⟨h,i,j,rfl,g⟩;exact qyQ ⟨rfl,λk b=>sT (q:=-q) (z:=-q.num) (d:=q.den) (by rfl) (by rfl) (g.le b) ((h2.le a).le (e.m b)) rfl⟩
theorem wV {x:Nat}(h:RN V p n c x):À 78 #[dB false,zF p n c] V λr V'=>RI V' r (x:Int):=by have:=fJ false h;rwa [Ã φ] at this
theorem dG (h:Sz k x):(ah x.num.natAbs).length<=k/\(ah x.den).length<=k/\(ah (x.den:Int).natAbs).length<=k:=⟨ag h.1,ag h.2,ag h.2⟩
theorem dM (hx:RQ V v x)(hy:RQ V w y)(hk:Sz k x)(hm:Sz m y)(hkm:k+m<2^38:=by omega):À 74 #[v,w] V λr V'=>RQ V' r (x+y):=by obtain ⟨p,n,c,Z,n',c',rfl,h,b⟩:=hx;obtain ⟨q,i,e,q',i',e',rfl,j,f⟩:=hy;have ⟨b1,b2,b3,b4⟩:=AY hk hm;have ⟨d1,d2,d3⟩:=dG hk;have ⟨d4,d5,d6⟩:=dG hm;have l:=Rat.add_def' x y;refine (λtail=>La V _ ⟨λh0=>⟨λh1 V1 o=>?_,λ_=>tail⟩,λ_=>tail⟩) ?_;{clear tail;refine (wU x.num y.num (h.le o) (j.le o) ω).s ?_;rintro r V2 O ⟨p2,n2,c2,rfl,g⟩;have e1:x+y=((x.num+y.num:Int):Rat):=by{rw [l,((qh b).1 (by simp at h0;omega)),((qh f).1 (by simp at h1;omega))];simp [Qh5]};rw [e1];exact qyQ ⟨rfl,λV3 u=>sT (z:=x.num+y.num) (d:=1) rfl rfl (g.le u) RD.nil rfl⟩};{intro V1 o;refine (dU y _ (f.le o)).s ?_;rintro r V2 O ⟨p1,n1,c1,rfl,g1⟩;refine ⟨_,_,_,rfl,λV3 u=>(wV (g1.le u)).s ?_⟩;rintro r V4 l4 ⟨p3,n3,c3,rfl,g3⟩;have P:=o.m (O.m (u.m l4));refine qyQ ⟨rfl,λV5 B=>(nk x.num y.den (h.le (P.m B)) (g3.le B)).s ?_⟩;rintro r V6 l6 ⟨p5,n5,c5,rfl,g5⟩;have Q:=P.m (B.m l6);refine qyQ ⟨rfl,λV7 C=>(dU x _ (b.le (Q.m C))).s ?_⟩;rintro r V8 R ⟨p7,n7,c7,rfl,g7⟩;refine ⟨_,_,_,rfl,λV9 D=>(wV (g7.le D)).s ?_⟩;rintro r fW s ⟨p9,n9,c9,rfl,g9⟩;have a:=(Q.m (C.m R)).m (D.m s);refine qyQ ⟨rfl,λfk A=>(nk y.num x.den (j.le (a.m A)) (g9.le A)).s ?_⟩;rintro r iD S ⟨Xf,a0,a1,rfl,E⟩;refine qyQ ⟨rfl,λku F=>(wU _ _ (g5.le (C.m (R.m (D.m (s.m (A.m (S.m F))))))) (E.le F) (ā (ag b1) ω) (ā (ag b2) ω)).s ?_⟩;rintro r lV cJ ⟨a2,a3,a4,rfl,G⟩;have T:=(a.m (A.m S)).m (F.m cJ);refine qyQ ⟨rfl,λmg H=>(dU x _ (b.le (T.m H))).s ?_⟩;rintro r lY U ⟨a5,a6,a7,rfl,I⟩;refine ⟨_,_,_,rfl,λmY J=>(dU y _ (f.le ((T.m (H.m U)).m J))).s ?_⟩;rintro r nX W ⟨a8,a9,b0,rfl,K⟩;refine ⟨_,_,_,rfl,λrU L=>(dF (I.le (J.m (W.m L))) (K.le L)).s ?_⟩;rintro r uD fy ⟨b5,b6,b7,rfl,t⟩;rw [af,af] at t;refine ⟨_,_,_,rfl,λux X=>(oB _ (G.le (H.m (U.m (J.m (W.m (L.m (fy.m X))))))) (t.le X) (ā (ag b3) ω) (ā (ag b4) ω) (Ő x.den_nz y.den_nz)).s ?_⟩;rw [l];rintro r uE iP ⟨b8,b9,c0,c4,c6,c8,rfl,M,N⟩;exact qyZ ⟨rfl,λwH Y=>⟨_,_,_,_,_,_,rfl,M.le Y,N.le Y⟩⟩}
theorem ir (hx:RQ V v x)(hy:RQ V w y)(hk:Sz k x)(hm:Sz m y)(hkm:k+m<2^38:=by omega):À 103 #[v,w] V λr V'=>RQ V' r (x-y):=by obtain ⟨p,n,c,j,l,o,rfl,s,t⟩:=id hx;obtain ⟨q,i,e,u,z,A,rfl,a,b⟩:=hy;refine NA V _ λE d=>(nq y (a.le d) (b.le d)).s ?_;rintro r V2 B f;obtain ⟨F,G,H,I,J,K,rfl,L,M⟩:=id f;refine qyZ ⟨rfl,λN g=>(dM (hx.le (d.m (B.m g))) (f.le g) hk hm.neg hkm).s ?_⟩;rw [<-Qs6];rintro r O P ⟨Q,R,S,T,U,W,rfl,C,D⟩;exact qyZ ⟨rfl,λX h=>⟨_,_,_,_,_,_,rfl,C.le h,D.le h⟩⟩
theorem fB (hx:RQ V v x)(hy:RQ V w y)(hk:Sz k x)(hm:Sz m y)(hkm:k+m<2^38:=by omega):À 101 #[v,w] V λr V'=>r=Ô .i64 (dO x y):=by have a:=hx;have b:=hy;obtain ⟨p,n,c,f,g,h,rfl,j,l⟩:=hx;obtain ⟨q,i,e,o,s,t,rfl,u,z⟩:=hy;refine U2 V _ λC d=>(ir (a.le d) (b.le d) hk hm hkm).s ?_;rintro r V2 D ⟨E,F,G,H,I,J,rfl,A,K⟩;refine qyZ ⟨rfl,λL B=>(rj (x-y) (A.le B)).s ?_⟩;rintro r M N rfl;exact ⟨_,rfl,λO P=>rfl⟩
theorem aY (hx:RQ V v x)(hy:RQ V w y)(hk:Sz k x)(hm:Sz m y)(hkm:k+m<2^38:=by omega):À 75 #[v,w] V λr V'=>RQ V' r (x*y):=by obtain ⟨p,n,c,H,I,J,rfl,b,f⟩:=hx;obtain ⟨q,i,e,K,L,M,rfl,h,j⟩:=hy;have ⟨d1,d2,d3⟩:=dG hk;have ⟨d4,d5,d6⟩:=dG hm;have l:=Wk9 x y;have N:(x.num*y.num).natAbs<2^(k+m):=by{rw [ļ];exact cA hk.1 hm.1};refine (λtail=>Ib V _ ⟨λO=>⟨λP Q a=>?_,λ_=>tail⟩,λ_=>tail⟩) ?_;{clear tail;refine (nk x.num y.num (b.le a) (h.le a)).s ?_;rintro r V2 s ⟨R,S,T,rfl,g⟩;have U:x*y=((x.num*y.num:Int):Rat):=by{rw [l,((qh f).1 (by simp at O;omega)),((qh j).1 (by simp at P;omega))];simp [Qh5]};rw [U];exact qyQ ⟨rfl,λW o=>sT (z:=x.num*y.num) (d:=1) rfl rfl (g.le o) RD.nil rfl⟩};{intro Q a;refine (nk x.num y.num (b.le a) (h.le a)).s ?_;rintro r V2 s ⟨R,S,T,rfl,X⟩;refine qyQ ⟨rfl,λW o=>(dU x _ (f.le (a.m (s.m o)))).s ?_⟩;rintro r V4 C ⟨p4,n4,c4,rfl,Y⟩;refine ⟨_,_,_,rfl,λV5 t=>(dU y _ (j.le (a.m (s.m (o.m (C.m t)))))).s ?_⟩;rintro r V6 D ⟨p6,n6,c6,rfl,Z⟩;refine ⟨_,_,_,rfl,λV7 u=>(dF (Y.le (t.m (D.m u))) (Z.le u)).s ?_⟩;rintro r V8 l8 ⟨p8,n8,c8,rfl,E⟩;rw [af,af] at E;refine ⟨_,_,_,rfl,λV9 F=>(oB _ (X.le (o.m (C.m (t.m (D.m (u.m (l8.m F))))))) (E.le F) (ā (ag N) ω) (ā (ag (cA hk.2 hm.2)) ω) (Ő x.den_nz y.den_nz)).s ?_⟩;rw [l];rintro r uE iP ⟨a0,a1,a2,a3,a4,a5,rfl,A,B⟩;exact qyZ ⟨rfl,λwH G=>⟨_,_,_,_,_,_,rfl,A.le G,B.le G⟩⟩}
end Go.Proofs.Tryz
namespace Go.Eng
def RP (V:Ó)(v:Value)(x y:Rat):Prop:=∃p n c p' n' c' q m e q' m' e',v=.agg #[.bool (decide (x.num<0)),.slice p n c,.slice p' n' c',.bool (decide (y.num<0)),.slice q m e,.slice q' m' e'] /\
 RQ V (.agg #[.bool (decide (x.num<0)),.slice p n c,.slice p' n' c']) x/\RQ V (.agg #[.bool (decide (y.num<0)),.slice q m e,.slice q' m' e']) y
theorem RP.le {V V':ut}{v:un}{x y:Rat}(h:RP V v x y)(l:V.Le V'):RP V' v x y:=by obtain ⟨p,n,c,a,b,d,q,m,e,f,g,i,rfl,j,k⟩:=h;exact ⟨p,n,c,a,b,d,q,m,e,f,g,i,rfl,j.le l,k.le l⟩
def RQ.shape {V:ut}{v:un}{q:Rat}(h:RQ V v q):∃p n c p' n' c',v=hF #[dB (decide (q.num<0)),zF p n c,zF p' n' c']:=by obtain ⟨p,n,c,p',n',c',e,-⟩:=h;exact qyW e
end Go.Eng
namespace Go.Proofs.Tryz
variable{V:Ó}{u w:Value}{px py qx qy:Rat}{k m:Nat}
theorem yo {p:OA}{n c:Nat}{ds:pz Nat}(h:RD V p n c ds)(hm:ds.length<=2^40:=by omega):À 94 #[zF p n c] V λr V'=>∃p1 n1 c1,r=zF p1 n1 c1/\RD V' p1 n1 c1 ds:=by have a:=h.len;refine Ie V _ ⟨aM ds,h.sl,by simp [a],ω,ω,ψ,by simp [a],?_,?_⟩;{intro v e;simp only [aM,ò] at e;obtain ⟨d,-,rfl⟩:=e;rfl};{intro i J sp j f k l m b g;refine ⟨_,_,_,rfl,?_⟩;simp only [ą,Ō,Qd4,ō] at g f ⊢;exact Ĭ h.gx a f g}
theorem mo {v:un}{z:Int}(h:RI V v z)(hm:(ah z.natAbs).length<=2^40:=by omega):À 42 #[v] V λr V'=>RI V' r z:=by obtain ⟨p,n,c,rfl,h⟩:=h;refine Ic V _ λd a=>(yo (h.le a) hm).s ?_;rintro r V2 e ⟨f,i,j,rfl,g⟩;exact ⟨_,_,_,rfl,λk b=>⟨_,_,_,rfl,g.le b⟩⟩
theorem dN (x y:Int)(h0:-9223372036854775808<=x)(h1:x<=9223372036854775807)(h2:-9223372036854775808<=y)(h3:y<=9223372036854775807:=by omega):À 43 #[Ô .i64 x,Ô .i64 y] V λr V'=>RP V' r (x:Rat) (y:Rat):=by refine Lk V _ λh i=>(dW x h0 h1).s ?_;rintro r V2 j a;obtain ⟨p,n,c,k,l,o,rfl⟩:=a.shape;refine qyZ ⟨rfl,λs f=>(dW y h2 h3).s ?_⟩;rintro r t g b;obtain ⟨q,m,e,u,v,w,rfl⟩:=b.shape;exact qyZ ⟨rfl,λz d=>⟨_,_,_,_,_,_,_,_,_,_,_,_,rfl,a.le (f.m (g.m d)),b.le d⟩⟩
theorem fL {v:un}{c:Rat}(hp:RP V u px py)(hc:RQ V v c)(hq:RP V w qx qy)(s1:Sz k px)(s2:Sz k py)(s3:Sz m c)(s4:Sz m qx)(s5:Sz m qy)(hkm:k+(m+m+1)<2^38:=by omega):À 31 #[u,v,w] V λr V'=>RP V' r (px+c*qx) (py+c*qy):=by obtain ⟨x,y,z,A,B,C,D,E,F,G,H,I,rfl,d,e⟩:=hp;obtain ⟨J,K,L,M,N,O,rfl⟩:=hc.shape;obtain ⟨P,Q,R,S,T,U,W,X,Y,Z,m4,e4,rfl,f,g⟩:=hq;refine Ih V _ λV1 a=>(aY (hc.le a) (f.le a) s3 s4).s ?_;rintro r V2 l n;obtain ⟨a1,a2,a3,a4,a5,a6,rfl⟩:=n.shape;refine qyZ ⟨rfl,λV3 h=>(dM (d.le (a.m (l.m h))) (n.le h) s1 (s3.mul s4)).s ?_⟩;rintro r V4 l4 o;obtain ⟨b1,b2,b3,b4,b5,b6,rfl⟩:=o.shape;have i:=a.m (l.m (h.m l4));refine qyZ ⟨rfl,λV5 b=>(aY (hc.le (i.m b)) (g.le (i.m b)) s3 s5).s ?_⟩;rintro r V6 p q;obtain ⟨d1,d2,d3,d4,d5,d6,rfl⟩:=q.shape;refine qyZ ⟨rfl,λV7 j=>(dM (e.le (i.m (b.m (p.m j)))) (q.le j) s2 (s3.mul s5)).s ?_⟩;rintro r V8 l8 s;obtain ⟨f1,f2,f3,f4,f5,f6,rfl⟩:=s.shape;exact qyZ ⟨rfl,λV9 t=>⟨_,_,_,_,_,_,_,_,_,_,_,_,rfl,o.le (b.m (p.m (j.m (l8.m t)))),s.le t⟩⟩
theorem XG:Sz 1 ((-1:Int):Rat):=by unfold Sz;decide
theorem qc (hp:RP V u px py)(hq:RP V w qx qy)(s1:Sz k px)(s2:Sz k py)(s4:Sz m qx)(s5:Sz m qy)(hm:1<=m)(hkm:k+(m+m+1)<2^38:=by omega):À 73 #[u,w] V λr V'=>RP V' r (px-qx) (py-qy):=by have d:=hp;have e:=hq;obtain ⟨j,l,n,o,p,q,s,t,v,x,y,z,rfl,-,-⟩:=hp;obtain ⟨A,B,c,C,D,E,F,G,H,I,J,K,rfl,-,-⟩:=hq;refine Io V _ λS L=>(dW (-1) ω).s ?_;rintro r V2 M g;obtain ⟨T,U,W,X,Y,Z,rfl⟩:=g.shape;have h:=L.m M;refine qyZ ⟨rfl,λV3 f=>(fL (d.le (h.m f)) (g.le f) (e.le (h.m f)) s1 s2 (XG.s hm) s4 s5 hkm).s ?_⟩;have c:∀a b:Rat,a+((-1:Int):Rat)*b=a-b:=by{intro a b;have:((-1:Int):Rat)=-1:=rfl;rw [this,Rat.neg_mul,Rat.one_mul,Qs6]};rw [c,c];rintro r V4 l4 ⟨b1,b2,b3,b4,b5,b6,b7,b8,b9,N,O,P,rfl,Q,R⟩;exact qyK ⟨rfl,λV5 i=>⟨_,_,_,_,_,_,_,_,_,_,_,_,rfl,Q.le i,R.le i⟩⟩
theorem oF (hp:RP V u px py)(hq:RP V w qx qy)(s1:Sz k px)(s2:Sz k py)(s4:Sz m qx)(s5:Sz m qy)(hkm:k+m<2^38:=by omega):À 81 #[u,w] V λr V'=>r=dB (decide (px=qx/\py=qy)):=by obtain ⟨l,n,o,p,q,s,t,v,x,y,z,A,rfl,c,d⟩:=hp;obtain ⟨B,C,D,E,F,G,H,I,J,K,L,M,rfl,f,g⟩:=hq;refine EP V _ λO b=>(fB (c.le b) (f.le b) s1 s4 hkm).s ?_;rintro r V2 j rfl;refine ⟨_,rfl,λa N i=>(fB (d.le (b.m (j.m i))) (g.le (b.m (j.m i))) s2 s5 hkm).s ?_,λa N i=>?_⟩;{have a:=iM.2 (by simpa using a);rintro r P Q rfl;refine ⟨_,rfl,λR S=>?_⟩;congr 1;rw [Ģ,Ñ,Ë,<-iM];exact ⟨λh=>⟨a,h⟩,λh=>h.2⟩};{have a:¬px=qx:=λe=>by{rw [iM.1 e] at a;simp at a};rw [È λh=>a h.1]}
end Go.Proofs.Tryz
namespace Go.Eng
def RL (V:Ó)(v:Value)(a b c:Int):Prop:=∃p n s p' n' s' q m e,v=.agg #[.bool (decide (a<0)),.slice p n s,.bool (decide (b<0)),.slice p' n' s',.bool (decide (c<0)),.slice q m e] /\
 RD V p n s (ah a.natAbs)/\RD V p' n' s' (ah b.natAbs)/\RD V q m e (ah c.natAbs)
theorem RL.le {V V':ut}{v:un}{a b c:Int}(h:RL V v a b c)(l:V.Le V'):RL V' v a b c:=by obtain ⟨p,n,s,d,f,g,q,m,e,rfl,i,j,k⟩:=h;exact ⟨p,n,s,d,f,g,q,m,e,rfl,i.le l,j.le l,k.le l⟩
end Go.Eng
namespace Go.Proofs.Tryz
variable{V:Ó}{a b c z:Int}{v:Value}
theorem sC {p q:OA}{n c m e:Nat}{xs ys:pz Nat}(hx:RD V p n c xs)(hy:RD V q m e ys)(hm:xs.length<=2^40:=by omega):À 157 #[zF p n c,zF q m e] V λr V'=>r=dB (decide (xs=ys)):=by have g:=hx.len;have s:=hy.len;refine Dq V _ ⟨λb t u=>?_,λb=>?_⟩;{have b:n≠m:=by{simp at b;omega};rw [È λh=>b (by rw [g,s,h])]};{have b:n=m:=by{simp at b;omega};(refine ⟨λz V'=>0<=z/\z<=n/\xs.take z.toNat=ys.take z.toNat,λz=>n-z.toNat,⟨0,by and_intros<;>first|exact True.intro|rfl,ω,ω,rfl⟩,?_⟩;rintro i V2 o ⟨j,k,d⟩;dsimp only at k d ⊢;obtain ⟨i,rfl⟩:=Ċ j;simp only [Ý] at d;refine ⟨θ,λf=>?_,λf v x=>?_⟩);{have f:i<n:=by{simpa using f};refine (hx.le o).rd i rfl ω ((hy.le o).rd i rfl ω ⟨λa y A=>?_,λa=>?_⟩);{have a:xs[i]≠ys[i]:=by{simp at a;omega};rw [È λh=>a (by subst h;rfl)]};{have a:xs[i]=ys[i]:=by{simp at a;omega};have w:i64.wrap ((i:Int)+1)=((i+1:Nat):Int):=by{rw [au ω];omega};simp only [w];(refine ⟨((i+1:Nat):Int),?_,by and_intros<;>first|exact True.intro|rfl,ω,ω,?_⟩);{(try dsimp only);omega};{(try dsimp only);simp only [Ý];rw [Qz1 ω,Qz1 (l:=ys) ω,d,a]}}};{have f:i=n:=by{simp at f;omega};rw [Qv3 ω,Qv3 ω] at d;rw [Ç d]}}
theorem UB {w:Int}:(decide (z<0)==decide (w<0))=true->(decide (ah z.natAbs=ah w.natAbs)=decide (z=w)):=by intro h;have b:(z<0↔w<0):=by{simpa using h};rw [Ģ,Ñ,Ñ];constructor;{intro a;have:=uY a;omega};{intro a;rw [a]}
theorem jD {w:Int}{p q:OA}{n c m e:Nat}(hx:RD V p n c (ah z.natAbs))(hy:RD V q m e (ah w.natAbs))(hm:(ah z.natAbs).length<=2^40:=by omega):À 95 #[hF #[dB (decide (z<0)),zF p n c],hF #[dB (decide (w<0)),zF q m e]] V λr V'=>r=dB (decide (z=w)):=by refine Dp V _ ⟨λa d b=>(sC (hx.le b) (hy.le b) hm).s ?_,λa d b=>?_⟩;{rintro r V2 f rfl;refine ⟨_,rfl,λg i=>?_⟩;rw [UB a]};{rw [È λh=>by subst h;simp at a]}
theorem sF {w:un}{a' b' c':Int}(hx:RL V v a b c)(hy:RL V w a' b' c')(h1:(ah a.natAbs).length<=2^40)(h2:(ah b.natAbs).length<=2^40)(h3:(ah c.natAbs).length<=2^40):À 44 #[v,w] V λr V'=>r=dB (decide (a=a'/\b=b'/\c=c')):=by obtain ⟨p,n,s,x,y,z,q,m,e,rfl,A,B,C⟩:=hx;obtain ⟨i,j,k,D,E,F,i2,G,H,rfl,I,J,K⟩:=hy;refine Dx V _ λL d=>(jD (A.le d) (I.le d) h1).s ?_;rintro r V2 l rfl;refine ⟨_,rfl,λf M o=>(jD (B.le (d.m (l.m o))) (J.le (d.m (l.m o))) h2).s ?_,λf N O=>?_⟩;{rintro r P t rfl;rw [Ñ] at f;refine ⟨_,rfl,λg Q u=>(jD (C.le (d.m (l.m (o.m (t.m u))))) (K.le (d.m (l.m (o.m (t.m u))))) h3).s ?_,λg R S=>?_⟩;{rintro r T U rfl;rw [Ñ] at g;refine ⟨_,rfl,λW X=>?_⟩;congr 1;rw [Ģ,Ñ,Ñ];exact ⟨λh=>⟨f,g,h⟩,λh=>h.2.2⟩};{rw [Ò] at g;rw [È λh=>g h.2.1]}};{rw [Ò] at f;rw [È λh=>f h.1]}
theorem yu (hx:RL V v a b c)(h1:(ah a.natAbs).length<=2^40)(h2:(ah b.natAbs).length<=2^40)(h3:(ah c.natAbs).length<=2^40:=by omega):À 13 #[v] V λr V'=>RL V' r a b c:=by obtain ⟨p,n,s,l,o,t,q,m,e,rfl,u,w,x⟩:=hx;refine Ip V _ λB d=>(mo ⟨_,_,_,rfl,u.le d⟩ h1).s ?_;rintro r V2 i ⟨C,D,E,rfl,y⟩;refine qyQ ⟨rfl,λF f=>(mo ⟨_,_,_,rfl,w.le (d.m (i.m f))⟩ h2).s ?_⟩;rintro r G j ⟨H,I,J,rfl,z⟩;refine qyQ ⟨rfl,λK g=>(mo ⟨_,_,_,rfl,x.le (d.m (i.m (f.m (j.m g))))⟩ h3).s ?_⟩;rintro r L k ⟨M,N,O,rfl,A⟩;exact qyQ ⟨rfl,λP h=>⟨_,_,_,_,_,_,_,_,_,rfl,y.le (f.m (j.m (g.m (k.m h)))),z.le (g.m (k.m h)),A.le h⟩⟩
theorem BC {g:Nat}(hg:0<g)(hd:g∣z.natAbs):(if decide (z<0)=true then -((z.natAbs/g:Nat):Int) else ((z.natAbs/g:Nat):Int))=z/(g:Int):=by obtain ⟨k,a⟩:=hd;have b:z.natAbs/g=k:=by{rw [a,Nat.mul_div_cancel_left _ hg]};rw [b];have c:z=(g:Int)*(if decide (z<0)=true then -(k:Int) else k):=by{split;{rename_i h;rw [Ñ] at h;rw [Ww7,<-ŗ,<-a];omega};{rename_i h;rw [Ñ] at h;rw [<-ŗ,<-a];omega}};generalize (if decide (z<0)=true then -(k:Int) else k)=t at *;rw [c,Qh1 _ ω]
def cq (a b c:Int):Nat:=Nat.gcd (Nat.gcd a.natAbs b.natAbs) c.natAbs
theorem D5 {u w:un}(ha:RI V u a)(hb:RI V v b)(hc:RI V w c)(h1:(ah a.natAbs).length<=2^38)(h2:(ah b.natAbs).length<=2^38)(h3:(ah c.natAbs).length<=2^38):À 79 #[u,v,w] V λr V'=>(a=0/\b=0->∃l,r=tN #[l,dB false]/\RL V' l 0 0 0)/\(¬(a=0/\b=0)->∃l,r=tN #[l,dB true]/\RL V' l (a/(cq a b c:Int)) (b/(cq a b c:Int)) (c/(cq a b c:Int))):=by obtain ⟨p,n,s,rfl,ha⟩:=ha;obtain ⟨T,U,W,rfl,hb⟩:=hb;obtain ⟨q,m,e,rfl,hc⟩:=hc;refine Dv V _ λV1 x=>(oA (ha.le x) (hb.le x) h1 h2).s ?_;rintro r V2 M ⟨p1,n1,c1,rfl,N⟩;have hp:=iQ N.len;have g:Nat.gcd a.natAbs b.natAbs=0↔a=0/\b=0:=by{rw [Qr5];omega};refine ⟨_,_,_,rfl,λA V3 l3=>⟨λ_=>⟨_,rfl,_,_,_,_,_,_,_,_,_,rfl,RD.nil,RD.nil,RD.nil⟩,λh=>?_⟩,λA V4 B=>?_⟩;{exact Å (g.1 (by simp at A;omega)) h};have C:¬(a=0/\b=0):=λh=>by{have:=g.2 h;simp at A;omega};have k:0<Nat.gcd a.natAbs b.natAbs:=by{have:=g;omega};have o:(ah (Nat.gcd a.natAbs b.natAbs)).length<=2^38:=by{rcases Ĳ a.natAbs with h|h;{rw [h,Qt4];exact h2};{exact ā (aO (Wj1 _ h)) h1}};refine (oA (N.le B) (hc.le (x.m (M.m B))) o h3).s ?_;rintro r V5 X ⟨p2,n2,c2,rfl,y⟩;have i:=x.m (M.m (B.m X));have Y:Nat.gcd (Nat.gcd a.natAbs b.natAbs) c.natAbs=cq a b c:=rfl;have d:0<cq a b c:=Nat.gcd_pos_of_pos_left _ k;have j:(ah (cq a b c)).length<=2^38:=ā (aO (Wj1 _ k)) o;have Z:cq a b c∣a.natAbs:=Qs7 (ľ _ _) (ľ _ _);have db:cq a b c∣b.natAbs:=Qs7 (ľ _ _) (ś _ _);have dc:cq a b c∣c.natAbs:=ś _ _;rw [Y] at y;generalize cq a b c=G at *;refine ⟨_,_,_,rfl,λV6 D=>(gg (ha.le (i.m D)) (y.le D) h1 j d).s ?_⟩;rintro r V7 l7 ⟨p3,n3,c3,p4,n4,c4,rfl,g3,-⟩;have E:=D.m l7;refine qyW ⟨rfl,λV8 z=>(gg (hb.le (i.m (E.m z))) (y.le (E.m z)) h2 j d).s ?_⟩;rintro r V9 O ⟨p5,n5,c5,p6,n6,c6,rfl,g5,-⟩;have t:=E.m (z.m O);refine qyW ⟨rfl,λfW f=>(gg (hc.le (i.m (t.m f))) (y.le (t.m f)) h3 j d).s ?_⟩;rintro r fk P ⟨p7,n7,c7,p8,n8,c8,rfl,g7,-⟩;refine qyW ⟨rfl,λiD F=>(fJ _ (g3.le (z.m (O.m (f.m (P.m F)))))).s ?_⟩;rw [(BC d Z)];rintro r ku Q ⟨p9,n9,c9,rfl,g9⟩;refine qyQ ⟨rfl,λlV H=>(fJ _ (g5.le (f.m (P.m (F.m (Q.m H)))))).s ?_⟩;rw [(BC d db)];rintro r mg R ⟨Rj,a0,a1,rfl,I⟩;refine qyQ ⟨rfl,λlY J=>(fJ _ (g7.le (F.m (Q.m (H.m (R.m J)))))).s ?_⟩;rw [(BC d dc)];rintro r mY S ⟨Xf,a2,a3,rfl,K⟩;refine qyQ ⟨rfl,λnX L=>⟨λh=>Å h C,λ_=>⟨_,rfl,_,_,_,_,_,_,_,_,_,rfl,?_,?_,?_⟩⟩⟩;{exact g9.le (H.m (R.m (J.m (S.m L))))};{exact I.le (J.m (S.m L))};{exact K.le L}
end Go.Proofs.Tryz
namespace Go.Eng
def AW (V:Ó)(v:Value)(a b c:Rat):Prop:=∃(x1 x2:Int)(p:OA)(y1 y2:Int)(q:OA)(z1 z2:Int)(r:OA),v=.agg #[.int .i64 x1,.int .i64 x2,.pointer p,.int .i64 y1,.int .i64 y2,.pointer q,.int .i64 z1,.int .i64 z2,.pointer r] /\
 RR V (.agg #[.int .i64 x1,.int .i64 x2,.pointer p]) a/\RR V (.agg #[.int .i64 y1,.int .i64 y2,.pointer q]) b/\RR V (.agg #[.int .i64 z1,.int .i64 z2,.pointer r]) c
def Vy (v:Value):Prop:=∃(x1 x2:Int)(x3:OA)(y1 y2:Int)(y3:OA)(z1 z2:Int)(z3:OA),v=.agg #[.int .i64 x1,.int .i64 x2,.pointer x3,.int .i64 y1,.int .i64 y2,.pointer y3,.int .i64 z1,.int .i64 z2,.pointer z3]
theorem AW.le {V V':ut}{v:un}{a b c:Rat}(h:AW V v a b c)(l:V.Le V'):AW V' v a b c:=by obtain ⟨d,e,p,f,g,q,i,j,r,rfl,k,m,n⟩:=h;exact ⟨d,e,p,f,g,q,i,j,r,rfl,k.le l,m.le l,n.le l⟩
end Go.Eng
namespace Go.Proofs.Tryz
variable{V:Ó}{l v w:Value}{Ix Iy Vg Vq a b cH eZ kI kJ l_1 q x y:Rat}{c k m n:Nat}{p:OA}
theorem Fp {c:Rat}(h:AW V v a b c)(s1:Sz k a)(s2:Sz k b)(s3:Sz k c)(hk:k<=2^40:=by omega):À 116 #[v] V λr V'=>RL V' r a.num b.num c.num:=by obtain ⟨w,x,p,y,z,q,A,B,r,rfl,m,n,o⟩:=h;refine ED V _ λC d=>(gZ (m.le d) s1 hk).s ?_;rintro r V2 i ⟨D,E,F,rfl,s⟩;refine qyQ ⟨rfl,λG e=>(gZ (n.le (d.m (i.m e))) s2 hk).s ?_⟩;rintro r H j ⟨I,J,K,rfl,t⟩;refine qyQ ⟨rfl,λL f=>(gZ (o.le (d.m (i.m (e.m (j.m f))))) s3 hk).s ?_⟩;rintro r M l ⟨N,O,P,rfl,u⟩;exact qyQ ⟨rfl,λQ g=>⟨_,_,_,_,_,_,_,_,_,rfl,s.le (e.m (j.m (f.m (l.m g)))),t.le (f.m (l.m g)),u.le g⟩⟩
def El (b1:Bool)(xs:List Nat)(b2:Bool)(ys:List Nat)(b3:Bool)(zs:List Nat):Bool:=
 pM b1 xs&&pM b2 ys&&pM b3 zs&&!(decide ((bF b1 xs:Rat)=0)&&decide ((bF b2 ys:Rat)=0))&&decide (fE (fE (bF b1 xs) (bF b2 ys)) (bF b3 zs)=((1:Int):Rat))
theorem xE {ok:md}{A B C:Rat}(h:ok=false):∃v,Value.tuple #[hF #[Ô .i64 0,Ô .i64 0,dS none,Ô .i64 0,Ô .i64 0,dS none,Ô .i64 0,Ô .i64 0,dS none],dB false]=tN #[v,dB ok]/\Vy v/\(ok=true->AW V v A B C):=by subst h;exact ⟨_,rfl,(qyJ rfl),λh=>nomatch h⟩
theorem M_:Sz 1 ((1:Int):Rat):=by unfold Sz;decide
theorem tD {V:ut}(b1 b2 b3:md){q s:OA}{e i j:Nat}{xs ys zs:pz Nat}(hx:RD V p n c xs)(hy:RD V q m e ys)(hz:RD V s i j zs)(h1:xs.length<=2^40)(h2:ys.length<=2^40)(h3:zs.length<=2^40)(s1:Sz k (bF b1 xs:Rat))(s2:Sz k (bF b2 ys:Rat))(s3:Sz k (bF b3 zs:Rat))(hk:4*k+4<2^40:=by omega):À 37 #[hF #[dB b1,zF p n c,dB b2,zF q m e,dB b3,zF s i j]] V λr V'=>∃v,r=tN #[v,dB (El b1 xs b2 ys b3 zs)]/\Vy v/\(El b1 xs b2 ys b3 zs=true->AW V' v (bF b1 xs) (bF b2 ys) (bF b3 zs)):=by refine KX V _ λV1 H=>(f_ b1 (hx.le H) h1).s ?_;rintro r V2 J rfl;refine ⟨_,rfl,λb V3 l3=>xE ?_,λb V4 K=>(f_ b2 (hy.le (H.m (J.m K))) h2).s ?_⟩;{have b:pM b1 xs=false:=by{simpa using b};simp [El,b]};have b:pM b1 xs=true:=by{simpa using b};rintro r V5 T rfl;refine ⟨_,rfl,λd V6 l6=>xE ?_,λd V7 U=>(f_ b3 (hz.le (H.m (J.m (K.m (T.m U))))) h3).s ?_⟩;{have d:pM b2 ys=false:=by{simpa using d};simp [El,d]};have d:pM b2 ys=true:=by{simpa using d};rintro r V8 l8 rfl;have W:=H.m (J.m (K.m (T.m (U.m l8))));refine ⟨_,rfl,λf0 V9 l9=>xE ?_,λf0 fW x=>(oo b1 (hx.le (W.m x)) h1).s ?_⟩;{have f0:pM b3 zs=false:=by{simpa using f0};simp [El,f0]};have f0:pM b3 zs=true:=by{simpa using f0};rintro r fk bw f;obtain ⟨x1,x2,x3,rfl⟩:=f.shape;have g:=W.m (x.m bw);refine ⟨_,_,_,rfl,λiD L=>(oo b2 (hy.le (g.m L)) h2).s ?_⟩;rintro r ku X l;obtain ⟨y1,y2,y3,rfl⟩:=l.shape;refine ⟨_,_,_,rfl,λlV M=>(oo b3 (hz.le ((g.m (L.m X)).m M)) h3).s ?_⟩;rintro r mg Y rc;obtain ⟨z1,z2,z3,rfl⟩:=rc.shape;replace f:=f.le (L.m (X.m (M.m Y)));replace l:=l.le (M.m Y);have y:El b1 xs b2 ys b3 zs=(!(decide ((bF b1 xs:Rat)=0)&&decide ((bF b2 ys:Rat)=0))&&decide (fE (fE (bF b1 xs) (bF b2 ys)) (bF b3 zs)=((1:Int):Rat))):=by{simp only [El,b,d,f0,Bool.true_and]};rw [y];clear y b d f0 hx hy hz;generalize (bF b1 xs:Rat)=A at *;generalize (bF b2 ys:Rat)=B at *;generalize (bF b3 zs:Rat)=C at *;refine ⟨_,_,_,rfl,λlY I=>(IY (f.le I)).s ?_⟩;rintro r mY N rfl;refine ⟨_,rfl,λt0 nX Z=>(IY (l.le (I.m (N.m Z)))).s ?_,λt0 ux O=>?_⟩;{rintro r rU dy rfl;refine ⟨_,rfl,λP uD fy=>xE (by rw [t0,P];rfl),λP ux O=>?_⟩;have lb:=I.m (N.m (Z.m (dy.m O)));have Q:(decide (A=0)&&decide (B=0))=false:=by{rw [P,Wj7]};rw [Q];refine (oh (f.le lb) (l.le lb) s1 s2).s ?_;rintro r uE z rg;obtain ⟨g1,g2,g3,rfl⟩:=rg.shape;refine ⟨_,_,_,rfl,λwH o=>(oh (rg.le o) (rc.le (lb.m (z.m o))) (mf s1 s2) s3).s ?_⟩;rintro r Gv R D;obtain ⟨h1,h2,h3,rfl⟩:=D.shape;refine ⟨_,_,_,rfl,λIF E=>(tC 1 ω).s ?_⟩;rintro r O6 F G;obtain ⟨i1,i2,i3,rfl⟩:=G.shape;refine ⟨_,_,_,rfl,λYb t=>(wP (D.le (E.m (F.m t))) (G.le t) (mf (mf s1 s2) s3) M_).s ?_⟩;rintro r Vz S rfl;have u:=lb.m (z.m (o.m (R.m (E.m (F.m (t.m S))))));refine ⟨_,rfl,λa Yc xw=>xE ?_,λa Rc w=>?_⟩;{rw [Ĥ] at a;rw [a];rfl};{have a:decide (fE (fE A B) C=((1:Int):Rat))=true:=by{cases h:decide (fE (fE A B) C=((1:Int):Rat));{rw [h] at a;cases a};{rfl}};rw [a];exact ⟨_,rfl,(qyJ rfl),λ_=>⟨_,_,_,_,_,_,_,_,_,rfl,f.le (u.m w),l.le (u.m w),rc.le (u.m w)⟩⟩}};{have lb:=I.m (N.m O);have Q:(decide (A=0)&&decide (B=0))=false:=by{rw [t0,Bool.false_and]};rw [Q];refine (oh (f.le lb) (l.le lb) s1 s2).s ?_;rintro r uE z rg;obtain ⟨g1,g2,g3,rfl⟩:=rg.shape;refine ⟨_,_,_,rfl,λwH o=>(oh (rg.le o) (rc.le (lb.m (z.m o))) (mf s1 s2) s3).s ?_⟩;rintro r Gv R D;obtain ⟨h1,h2,h3,rfl⟩:=D.shape;refine ⟨_,_,_,rfl,λIF E=>(tC 1 ω).s ?_⟩;rintro r O6 F G;obtain ⟨i1,i2,i3,rfl⟩:=G.shape;refine ⟨_,_,_,rfl,λYb t=>(wP (D.le (E.m (F.m t))) (G.le t) (mf (mf s1 s2) s3) M_).s ?_⟩;rintro r Vz S rfl;have u:=lb.m (z.m (o.m (R.m (E.m (F.m (t.m S))))));refine ⟨_,rfl,λa Yc xw=>xE ?_,λa Rc w=>?_⟩;{rw [Ĥ] at a;rw [a];rfl};{have a:decide (fE (fE A B) C=((1:Int):Rat))=true:=by{cases h:decide (fE (fE A B) C=((1:Int):Rat));{rw [h] at a;cases a};{rfl}};rw [a];exact ⟨_,rfl,(qyJ rfl),λ_=>⟨_,_,_,_,_,_,_,_,_,rfl,f.le (u.m w),l.le (u.m w),rc.le (u.m w)⟩⟩}}
def Qv:List Int->Int
 | []=>0
 | x::r=>if x=0 then Qv r else x
def WK (l:List Int):List Value:=l.map λx=>Value.int .i64 x
theorem orI_eq {l:pz Int}:Qv l=0↔∀x∈l,x=0:=by
 induction l with
 | nil=>simp [Qv]
 | cons x r ih=>
  simp only [Qv,å,forall_eq_or_imp];split
  ·rename_i h;simp [h,ih]
  ·rename_i h;simp [h]
theorem I1 {l:pz Int}(hl:n=l.length)(hs:V.sl p (WK l))(hm:l.length<=2^40):À 171 #[zF p n c] V λr V'=>r=Ô .i64 (Qv l):=by (refine QX V _ ⟨λz V'=>0<=z/\z<=n/\Qv l=Qv (l.drop z.toNat),λz=>n-z.toNat,⟨0,by and_intros<;>first|exact True.intro|rfl,ω,ω,rfl⟩,?_⟩;rintro i m j ⟨e,f,he⟩;dsimp only at f he ⊢;obtain ⟨i,rfl⟩:=Ċ e;simp only [Ý] at he;refine ⟨θ,λb=>?_,λb o q=>?_⟩);{have b:i<n:=by{simpa using b};have d:i<l.length:=ω;obtain ⟨k,h,g⟩:=(j.sl hs) i (Ô .i64 l[i]) (by simp [WK,d]);rw [Ħ d,Qv] at he;refine ⟨by rw [h];rfl,⟨ω,ω⟩,l[i],⟨k.add i,by rw [h];simp [ae],g⟩,λa V2 s=>?_,λa=>?_⟩;{have a:l[i]≠0:=by{simpa using a};rw [Ã a] at he;rw [he]};{have a:l[i]=0:=by{simpa using a};rw [Ä a] at he;have w:i64.wrap ((i:Int)+1)=((i+1:Nat):Int):=by{rw [au ω];omega};simp only [w];(refine ⟨((i+1:Nat):Int),?_,by and_intros<;>first|exact True.intro|rfl,ω,ω,?_⟩);{(try dsimp only);omega};{exact he}}};{have b:i=n:=by{simp at b;omega};rw [Ĺ ω] at he;rw [he];rfl}
theorem wR {c a' b' c':Rat}(hx:AW V v a b c)(hy:AW V w a' b' c')(s1:Sz k a)(s2:Sz k b)(s3:Sz k c)(t1:Sz m a')(t2:Sz m b')(t3:Sz m c')(hk:k+m<2^40:=by omega):À 122 #[v,w] V λr V'=>r=Ô .i64 (Qv [dO a a',dO b b',dO c c']):=by obtain ⟨A,B,p,C,D,q,E,F,r,rfl,j,n,o⟩:=hx;obtain ⟨G,H,I,J,K,L,M,N,O,rfl,s,t,u⟩:=hy;refine EE V _ λP d=>(mi (j.le d) (s.le d) s1 t1 hk).s ?_;rintro r V2 e rfl;refine ⟨_,rfl,λQ f=>(mi (n.le (d.m (e.m f))) (t.le (d.m (e.m f))) s2 t2 hk).s ?_⟩;rintro r R x rfl;have g:=d.m (e.m (f.m x));refine ⟨_,rfl,λS h=>(mi (o.le (g.m h)) (u.le (g.m h)) s3 t3 hk).s ?_⟩;rintro r T U rfl;refine ⟨_,rfl,λW X Y y=>(I1 (l:=[dO a a',dO b b',dO c c']) rfl (λi v z=>⟨_,rfl,by rw [add_zero'];exact dL (xs:=WK [dO a a',dO b b',dO c c']) y z⟩) ψ).s ?_⟩;rintro r Z l8 rfl;exact ⟨_,rfl,λ_ V9 l9=>rfl⟩
theorem yk {c a' b' c':Rat}(hx:AW V v a b c)(hy:AW V w a' b' c')(s1:Sz k a)(s2:Sz k b)(s3:Sz k c)(t1:Sz m a')(t2:Sz m b')(t3:Sz m c')(hk:k+m<2^40:=by omega):À 123 #[v,w] V λr V'=>r=dB (decide (a=a'/\b=b'/\c=c')):=by have d:=hx;have e:=hy;obtain ⟨g,h,p,i,j,q,l,n,r,rfl,-,-,-⟩:=hx;obtain ⟨o,s,t,u,x,y,z,A,B,rfl,-,-,-⟩:=hy;refine zT V _ λC f=>(wR (d.le f) (e.le f) s1 s2 s3 t1 t2 t3 hk).s λr V2 D rfl=>⟨_,rfl,λE F=>?_⟩;congr 1;rw [Ģ,Ñ,Ë,orI_eq];simp [<-iM]
def Rp (V:Ó)(v:Value)(x y:Rat):Prop:=∃(x1 x2:Int)(p:OA)(y1 y2:Int)(q:OA),v=.agg #[.int .i64 x1,.int .i64 x2,.pointer p,.int .i64 y1,.int .i64 y2,.pointer q] /\
 RR V (.agg #[.int .i64 x1,.int .i64 x2,.pointer p]) x/\RR V (.agg #[.int .i64 y1,.int .i64 y2,.pointer q]) y
theorem Rp.le {V V':ut}(h:Rp V v x y)(l:V.Le V'):Rp V' v x y:=by obtain ⟨a,b,p,c,d,q,e,f,g⟩:=h;exact ⟨a,b,p,c,d,q,e,f.le l,g.le l⟩
theorem DL (iE:Sz k kI)(iF:Sz k kJ)(zK:Sz k Ix)(zL:Sz k Iy):Sz (2*k+1) ((kI)+(Ix)):=by have a:=Sz.s (m:=2*k+1) (Sz.add iE zK);grind
theorem DM (iE:Sz k kI)(iF:Sz k kJ)(zK:Sz k Ix)(zL:Sz k Iy):Sz (2*k+1) ((kJ)+(Iy)):=by have a:=Sz.s (m:=2*k+1) (Sz.add iF zL);grind
theorem Bl {p:un}{c:un}(hp:Rp V p kI kJ)(hc:RR V c Vg)(iE:Sz k kI)(iF:Sz k kJ)(QL:Sz k Vg)(hk:2*k+1<2^38:=by omega):À 261 #[p,c] V λr V'=>Rp V' r ((kI)*(Vg)) ((kJ)*(Vg)):=by obtain ⟨h,i,j,l,m,n,rfl,o,q⟩:=id hp;obtain ⟨s,t,u,rfl⟩:=hc.shape;refine zV V _ λz a=>(uH (o.le a) (hc.le a) iE QL).s ?_;rintro r V2 d e;obtain ⟨v,w,x,rfl⟩:=e.shape;refine ⟨_,_,_,rfl,λA b=>(uH (q.le (a.m (d.m b))) (hc.le (a.m (d.m b))) iF QL).s ?_⟩;rintro r B y f;obtain ⟨C,D,E,rfl⟩:=f.shape;exact ⟨_,_,_,rfl,λF g=>⟨_,_,_,_,_,_,rfl,(e.le (b.m (y.m g))),(f.le g)⟩⟩
theorem jz (iE:Sz k kI)(iF:Sz k kJ)(QL:Sz k Vg):Sz (2*k+1) ((kI)*(Vg)):=by have a:=Sz.s (m:=2*k+1) (Sz.mul iE QL);grind
theorem jA (iE:Sz k kI)(iF:Sz k kJ)(QL:Sz k Vg):Sz (2*k+1) ((kJ)*(Vg)):=by have a:=Sz.s (m:=2*k+1) (Sz.mul iF QL);grind
theorem oq {p:un}{q:un}(hp:Rp V p kI kJ)(hq:Rp V q Ix Iy)(iE:Sz k kI)(iF:Sz k kJ)(zK:Sz k Ix)(zL:Sz k Iy)(hk:4*k+3<2^38:=by omega):À 231 #[p,q] V λr V'=>RR V' r (((kI)*(Ix))+((kJ)*(Iy))):=by obtain ⟨j,l,n,o,s,t,rfl,u,v⟩:=id hp;obtain ⟨w,x,y,z,A,B,rfl,a,b⟩:=id hq;refine EH V _ λH c=>(uH (u.le c) (a.le c) iE zK).s ?_;rintro r V2 e f;obtain ⟨C,D,E,rfl⟩:=f.shape;refine ⟨_,_,_,rfl,λI d=>(uH (v.le (c.m (e.m d))) (b.le (c.m (e.m d))) iF zL).s ?_⟩;rintro r J F g;obtain ⟨K,L,M,rfl⟩:=g.shape;refine ⟨_,_,_,rfl,λN h=>(GN (f.le (d.m (F.m h))) (g.le h) (Sz.s (m:=2*k+1) (Sz.mul iE zK)) (Sz.s (m:=2*k+1) (Sz.mul iF zL))).s ?_⟩;rintro r O P i;obtain ⟨Q,R,S,rfl⟩:=i.shape;exact ⟨_,_,_,rfl,λT G=>(i.le G)⟩
theorem c_ (iE:Sz k kI)(iF:Sz k kJ)(zK:Sz k Ix)(zL:Sz k Iy):Sz (4*k+3) (((kI)*(Ix))+((kJ)*(Iy))):=by have a:=Sz.s (m:=4*k+3) (Sz.add (Sz.s (m:=2*k+1) (Sz.mul iE zK)) (Sz.s (m:=2*k+1) (Sz.mul iF zL)));grind
theorem GU (hl:AW V l cH l_1 eZ)(bS:Sz k cH)(bU:Sz k l_1)(bN:Sz k eZ)(hk:1*k+1<2^38:=by omega):À 232 #[l] V λr V'=>Rp V' r (l_1) (-(cH)):=by obtain ⟨e,a,c,b,f,g,h,i,j,rfl,m,n,s⟩:=id hl;refine EG V _ λt a=>(iJ (m.le a) bS).s ?_;rintro r V2 c d;obtain ⟨o,p,q,rfl⟩:=d.shape;exact ⟨_,_,_,rfl,λu b=>⟨_,_,_,_,_,_,rfl,(n.le (a.m (c.m b))),(d.le b)⟩⟩
theorem lT (bS:Sz k cH)(bU:Sz k l_1)(bN:Sz k eZ):Sz (1*k+0) (l_1):=by exact Sz.s bU
theorem lU (bS:Sz k cH)(bU:Sz k l_1)(bN:Sz k eZ):Sz (1*k+0) (-(cH)):=by grind [Sz.neg]
theorem j_ (hl:AW V l cH l_1 eZ)(bS:Sz k cH)(bU:Sz k l_1)(bN:Sz k eZ)(hk:1*k+1<2^38:=by omega):À 230 #[l] V λr V'=>Rp V' r (cH) (l_1):=by obtain ⟨b,a,c,d,e,f,g,h,i,rfl,j,m,n⟩:=id hl;exact xU V _ λo a=>⟨_,_,_,_,_,_,rfl,(j.le a),(m.le a)⟩
theorem ef (bS:Sz k cH)(bU:Sz k l_1)(bN:Sz k eZ):Sz (1*k+0) (cH):=by exact Sz.s bS
theorem er (bS:Sz k cH)(bU:Sz k l_1)(bN:Sz k eZ):Sz (1*k+0) (l_1):=by exact Sz.s bU
theorem wS (hl:AW V l cH l_1 eZ)(bS:Sz k cH)(bU:Sz k l_1)(bN:Sz k eZ)(hk:1*k+1<2^38):À 110 #[l] V λr V'=>AW V' r (-(cH)) (-(l_1)) (-(eZ)):=by obtain ⟨m,a,e,b,f,c,g,d,n,rfl,o,p,q⟩:=id hl;refine wh V _ λv a=>(iJ (o.le a) bS).s ?_;rintro r V2 e h;obtain ⟨s,t,u,rfl⟩:=h.shape;refine ⟨_,_,_,rfl,λw b=>(iJ (p.le (a.m (e.m b))) bU).s ?_⟩;rintro r x f i;obtain ⟨y,z,A,rfl⟩:=i.shape;refine ⟨_,_,_,rfl,λB c=>(iJ (q.le (a.m (e.m (b.m (f.m c))))) bN).s ?_⟩;rintro r C g j;obtain ⟨D,E,F,rfl⟩:=j.shape;exact ⟨_,_,_,rfl,λG d=>⟨_,_,_,_,_,_,_,_,_,rfl,(h.le (b.m (f.m (c.m (g.m d))))),(i.le (c.m (g.m d))),(j.le d)⟩⟩
theorem Bk {p:un}(hl:AW V l cH l_1 eZ)(hp:Rp V p kI kJ){k:Nat}(bS:Sz k cH)(bU:Sz k l_1)(bN:Sz k eZ)(iE:Sz k kI)(iF:Sz k kJ)(hk:5*k+4<2^38:=by omega):À 233 #[l,p] V λr V'=>RR V' r ((((cH)*(kI))+((l_1)*(kJ)))+(eZ)):=by obtain ⟨q,a,c,b,e,d,g,f,s,rfl,A,B,t⟩:=id hl;obtain ⟨u,v,w,x,y,z,rfl,C,D⟩:=id hp;refine zU V _ λE a=>(j_ (hl.le a) (Sz.s bS:Sz (1*k+0) _) (Sz.s bU:Sz (1*k+0) _) (Sz.s bN:Sz (1*k+0) _)).s ?_;rintro r V2 c h;obtain ⟨F,G,H,I,J,K,rfl,L,M⟩:=id h;have i:=Sz.s (m:=1*k+0) ((ef (Sz.s bS:Sz (1*k+0) _) (Sz.s bU:Sz (1*k+0) _) (Sz.s bN:Sz (1*k+0) _)));have j:=Sz.s (m:=1*k+0) ((er (Sz.s bS:Sz (1*k+0) _) (Sz.s bU:Sz (1*k+0) _) (Sz.s bN:Sz (1*k+0) _)));refine qyW ⟨rfl,λN b=>(oq (h.le b) (hp.le (a.m (c.m b))) (Sz.s i:Sz (1*k+0) _) (Sz.s j:Sz (1*k+0) _) (Sz.s iE:Sz (1*k+0) _) (Sz.s iF:Sz (1*k+0) _)).s ?_⟩;rintro r O e n;obtain ⟨P,Q,R,rfl⟩:=n.shape;refine ⟨_,_,_,rfl,λS d=>(GN (n.le d) (t.le (a.m (c.m (b.m (e.m d))))) (Sz.s (m:=4*k+3) ((c_ (Sz.s i:Sz (1*k+0) _) (Sz.s j:Sz (1*k+0) _) (Sz.s iE:Sz (1*k+0) _) (Sz.s iF:Sz (1*k+0) _)))) bN).s ?_⟩;rintro r T g o;obtain ⟨U,W,X,rfl⟩:=o.shape;exact ⟨_,_,_,rfl,λY f=>(o.le f)⟩
theorem yh {k:Nat}(bS:Sz k cH)(bU:Sz k l_1)(bN:Sz k eZ)(iE:Sz k kI)(iF:Sz k kJ):Sz (5*k+4) ((((cH)*(kI))+((l_1)*(kJ)))+(eZ)):=by have a:=Sz.s (m:=5*k+4) (Sz.add (Sz.s (m:=4*k+3) ((c_ (Sz.s (Sz.s (m:=1*k+0) ((ef (Sz.s bS:Sz (1*k+0) _) (Sz.s bU:Sz (1*k+0) _) (Sz.s bN:Sz (1*k+0) _)))):Sz (1*k+0) _) (Sz.s (Sz.s (m:=1*k+0) ((er (Sz.s bS:Sz (1*k+0) _) (Sz.s bU:Sz (1*k+0) _) (Sz.s bN:Sz (1*k+0) _)))):Sz (1*k+0) _) (Sz.s iE:Sz (1*k+0) _) (Sz.s iF:Sz (1*k+0) _)))) bN);grind
theorem D0 (hl:AW V l cH l_1 eZ)(bS:Sz k cH)(bU:Sz k l_1)(bN:Sz k eZ)(hk:10*k+9<2^38:=by omega):À 234 #[l] V λr V'=>Rp V' r ((cH)*(((-(eZ))*(((cH)*(cH))+((l_1)*(l_1)))⁻¹))) ((l_1)*(((-(eZ))*(((cH)*(cH))+((l_1)*(l_1)))⁻¹))):=by obtain ⟨E,i,o,a,c,b,j,d,p,rfl,L,M,F⟩:=id hl;refine De V _ λN i=>(j_ (hl.le i) (Sz.s bS:Sz (1*k+0) _) (Sz.s bU:Sz (1*k+0) _) (Sz.s bN:Sz (1*k+0) _)).s ?_;rintro r V2 o n;obtain ⟨O,P,Q,R,S,T,rfl,U,W⟩:=id n;have e:=Sz.s (m:=1*k+0) ((ef (Sz.s bS:Sz (1*k+0) _) (Sz.s bU:Sz (1*k+0) _) (Sz.s bN:Sz (1*k+0) _)));have f:=Sz.s (m:=1*k+0) ((er (Sz.s bS:Sz (1*k+0) _) (Sz.s bU:Sz (1*k+0) _) (Sz.s bN:Sz (1*k+0) _)));refine qyW ⟨rfl,λX a=>(iJ (F.le (i.m (o.m a))) bN).s ?_⟩;rintro r Y c q;obtain ⟨Z,XW,XX,rfl⟩:=q.shape;have s:=Sz.s (m:=1*k+0) (Sz.neg bN);refine ⟨_,_,_,rfl,λV5 b=>(oq (n.le (a.m (c.m b))) (n.le (a.m (c.m b))) (Sz.s e:Sz (1*k+0) _) (Sz.s f:Sz (1*k+0) _) (Sz.s e:Sz (1*k+0) _) (Sz.s f:Sz (1*k+0) _)).s ?_⟩;rintro r V6 j t;obtain ⟨Y3,Y4,Y5,rfl⟩:=t.shape;have u:=Sz.s (m:=4*k+3) ((c_ (Sz.s e:Sz (1*k+0) _) (Sz.s f:Sz (1*k+0) _) (Sz.s e:Sz (1*k+0) _) (Sz.s f:Sz (1*k+0) _)));refine ⟨_,_,_,rfl,λV7 d=>(GO (q.le (b.m (j.m d))) (t.le d) s u).s ?_⟩;rintro r V8 p v;obtain ⟨G,H,I,rfl⟩:=v.shape;refine ⟨_,_,_,rfl,λV9 w=>(Bl (n.le (a.m (c.m (b.m (j.m (d.m (p.m w))))))) (v.le w) (Sz.s e:Sz (5*k+4) _) (Sz.s f:Sz (5*k+4) _) (Sz.s (Sz.s (m:=5*k+4) (Sz.mul s (fA u))):Sz (5*k+4) _)).s ?_⟩;rintro r fW J K;obtain ⟨x,y,z,A,B,C,rfl,g,h⟩:=id K;exact qyW ⟨rfl,λfk D=>⟨_,_,_,_,_,_,rfl,(g.le D),(h.le D)⟩⟩
theorem ia (bS:Sz k cH)(bU:Sz k l_1)(bN:Sz k eZ):Sz (10*k+9) ((cH)*(((-(eZ))*(((cH)*(cH))+((l_1)*(l_1)))⁻¹))):=by have a:=Sz.s (m:=1*k+0) ((ef (Sz.s bS:Sz (1*k+0) _) (Sz.s bU:Sz (1*k+0) _) (Sz.s bN:Sz (1*k+0) _)));have b:=Sz.s (m:=1*k+0) ((er (Sz.s bS:Sz (1*k+0) _) (Sz.s bU:Sz (1*k+0) _) (Sz.s bN:Sz (1*k+0) _)));have c:=Sz.s (m:=10*k+9) ((jz (Sz.s a:Sz (5*k+4) _) (Sz.s b:Sz (5*k+4) _) (Sz.s (Sz.s (m:=5*k+4) (Sz.mul (Sz.s (m:=1*k+0) (Sz.neg bN)) (fA (Sz.s (m:=4*k+3) ((c_ (Sz.s a:Sz (1*k+0) _) (Sz.s b:Sz (1*k+0) _) (Sz.s a:Sz (1*k+0) _) (Sz.s b:Sz (1*k+0) _))))))):Sz (5*k+4) _)));grind
theorem ie (bS:Sz k cH)(bU:Sz k l_1)(bN:Sz k eZ):Sz (10*k+9) ((l_1)*(((-(eZ))*(((cH)*(cH))+((l_1)*(l_1)))⁻¹))):=by have a:=Sz.s (m:=1*k+0) ((ef (Sz.s bS:Sz (1*k+0) _) (Sz.s bU:Sz (1*k+0) _) (Sz.s bN:Sz (1*k+0) _)));have b:=Sz.s (m:=1*k+0) ((er (Sz.s bS:Sz (1*k+0) _) (Sz.s bU:Sz (1*k+0) _) (Sz.s bN:Sz (1*k+0) _)));have c:=Sz.s (m:=10*k+9) ((jA (Sz.s a:Sz (5*k+4) _) (Sz.s b:Sz (5*k+4) _) (Sz.s (Sz.s (m:=5*k+4) (Sz.mul (Sz.s (m:=1*k+0) (Sz.neg bN)) (fA (Sz.s (m:=4*k+3) ((c_ (Sz.s a:Sz (1*k+0) _) (Sz.s b:Sz (1*k+0) _) (Sz.s a:Sz (1*k+0) _) (Sz.s b:Sz (1*k+0) _))))))):Sz (5*k+4) _)));grind
theorem E6 (bS:Sz k cH)(bU:Sz k l_1)(bN:Sz k eZ)(M5:Sz k Vq):Sz (20*k+19) ((((cH)*(((-(eZ))*(((cH)*(cH))+((l_1)*(l_1)))⁻¹))))+(((l_1)*(Vq)))):=by have a:=Sz.s (m:=1*k+0) ((lT (Sz.s bS:Sz (1*k+0) _) (Sz.s bU:Sz (1*k+0) _) (Sz.s bN:Sz (1*k+0) _)));have b:=Sz.s (m:=1*k+0) ((lU (Sz.s bS:Sz (1*k+0) _) (Sz.s bU:Sz (1*k+0) _) (Sz.s bN:Sz (1*k+0) _)));have c:=Sz.s (m:=20*k+19) ((DL (Sz.s (Sz.s (m:=10*k+9) ((ia (Sz.s bS:Sz (1*k+0) _) (Sz.s bU:Sz (1*k+0) _) (Sz.s bN:Sz (1*k+0) _)))):Sz (10*k+9) _) (Sz.s (Sz.s (m:=10*k+9) ((ie (Sz.s bS:Sz (1*k+0) _) (Sz.s bU:Sz (1*k+0) _) (Sz.s bN:Sz (1*k+0) _)))):Sz (10*k+9) _) (Sz.s (Sz.s (m:=2*k+1) ((jz (Sz.s a:Sz (1*k+0) _) (Sz.s b:Sz (1*k+0) _) (Sz.s M5:Sz (1*k+0) _)))):Sz (10*k+9) _) (Sz.s (Sz.s (m:=2*k+1) ((jA (Sz.s a:Sz (1*k+0) _) (Sz.s b:Sz (1*k+0) _) (Sz.s M5:Sz (1*k+0) _)))):Sz (10*k+9) _)));grind
theorem E7 (bS:Sz k cH)(bU:Sz k l_1)(bN:Sz k eZ)(M5:Sz k Vq):Sz (20*k+19) ((((l_1)*(((-(eZ))*(((cH)*(cH))+((l_1)*(l_1)))⁻¹))))+((((-(cH)))*(Vq)))):=by have a:=Sz.s (m:=1*k+0) ((lT (Sz.s bS:Sz (1*k+0) _) (Sz.s bU:Sz (1*k+0) _) (Sz.s bN:Sz (1*k+0) _)));have b:=Sz.s (m:=1*k+0) ((lU (Sz.s bS:Sz (1*k+0) _) (Sz.s bU:Sz (1*k+0) _) (Sz.s bN:Sz (1*k+0) _)));have c:=Sz.s (m:=20*k+19) ((DM (Sz.s (Sz.s (m:=10*k+9) ((ia (Sz.s bS:Sz (1*k+0) _) (Sz.s bU:Sz (1*k+0) _) (Sz.s bN:Sz (1*k+0) _)))):Sz (10*k+9) _) (Sz.s (Sz.s (m:=10*k+9) ((ie (Sz.s bS:Sz (1*k+0) _) (Sz.s bU:Sz (1*k+0) _) (Sz.s bN:Sz (1*k+0) _)))):Sz (10*k+9) _) (Sz.s (Sz.s (m:=2*k+1) ((jz (Sz.s a:Sz (1*k+0) _) (Sz.s b:Sz (1*k+0) _) (Sz.s M5:Sz (1*k+0) _)))):Sz (10*k+9) _) (Sz.s (Sz.s (m:=2*k+1) ((jA (Sz.s a:Sz (1*k+0) _) (Sz.s b:Sz (1*k+0) _) (Sz.s M5:Sz (1*k+0) _)))):Sz (10*k+9) _)));grind
theorem yg (bS:Sz k cH)(bU:Sz k l_1)(bN:Sz k eZ)(iE:Sz k kI)(iF:Sz k kJ):Sz (8*k+7) ((((l_1)*(kI))+(((-(cH)))*(kJ)))*(((l_1)*(l_1))+(((-(cH)))*((-(cH)))))⁻¹):=by have a:=Sz.s (m:=1*k+0) ((lT (Sz.s bS:Sz (1*k+0) _) (Sz.s bU:Sz (1*k+0) _) (Sz.s bN:Sz (1*k+0) _)));have b:=Sz.s (m:=1*k+0) ((lU (Sz.s bS:Sz (1*k+0) _) (Sz.s bU:Sz (1*k+0) _) (Sz.s bN:Sz (1*k+0) _)));have c:=Sz.s (m:=8*k+7) (Sz.mul (Sz.s (m:=4*k+3) ((c_ (Sz.s a:Sz (1*k+0) _) (Sz.s b:Sz (1*k+0) _) (Sz.s iE:Sz (1*k+0) _) (Sz.s iF:Sz (1*k+0) _)))) (fA (Sz.s (m:=4*k+3) ((c_ (Sz.s a:Sz (1*k+0) _) (Sz.s b:Sz (1*k+0) _) (Sz.s a:Sz (1*k+0) _) (Sz.s b:Sz (1*k+0) _))))));grind
theorem ji (hx:RQ V v x)(hy:RQ V w y)(hy0:y.num≠0)(hk:Sz k x)(hm:Sz m y)(hkm:k+m<2^38:=by omega):À 158 #[v,w] V λr V'=>RQ V' r (x*y⁻¹):=by obtain ⟨p,n,c,J,K,L,rfl,d,f⟩:=hx;obtain ⟨q,i,e,M,N,O,rfl,g,j⟩:=hy;have a:=fA hm;have q1:=ag hk.1;have q2:=ag hk.2;have q3:=ag hm.1;have q4:=ag a.1;have C:(y⁻¹).num=(if decide (y.num<0)=true then -((y.den:Nat):Int) else ((y.den:Nat):Int))/\(y⁻¹).den=y.num.natAbs:=by{rcases Int.lt_or_gt_of_ne hy0 with h|h;{rw [Ä (Ç h)];exact inv_neg h};{rw [Ã (λP=>by have:=Á P;omega)];exact inv_pos h}};have Q:(x.num*(y⁻¹).num).natAbs<2^(k+m):=by{rw [ļ];exact cA hk.1 a.1};refine K_ V _ λV1 l=>(dU y _ (j.le l)).s ?_;rintro r V2 D ⟨p1,n1,c1,rfl,R⟩;refine ⟨_,_,_,rfl,λV3 o=>(fJ _ (R.le o)).s ?_⟩;rw [<-C.1];rintro r V4 E ⟨p4,n4,c4,rfl,S⟩;refine qyQ ⟨rfl,λV5 s=>(nk x.num (y⁻¹).num (d.le (l.m (D.m (o.m (E.m s))))) (S.le s)).s ?_⟩;rintro r V6 T ⟨p6,n6,c6,rfl,U⟩;have F:=l.m (D.m (o.m (E.m (s.m T))));refine qyQ ⟨rfl,λV7 t=>(dU x _ (f.le (F.m t))).s ?_⟩;rintro r V8 G ⟨p8,n8,c8,rfl,W⟩;refine ⟨_,_,_,rfl,λV9 u=>(dF (W.le u) (g.le (F.m (t.m (G.m u))))).s ?_⟩;rintro r fW z ⟨Rj,X,Y,rfl,b⟩;rw [af,af,<-C.2] at b;refine ⟨_,_,_,rfl,λfk H=>(oB _ (U.le (t.m (G.m (u.m (z.m H))))) (b.le H) (ā (ag Q) ω) (ā (ag (cA hk.2 a.2)) ω) (Ő x.den_nz (y⁻¹).den_nz)).s ?_⟩;rw [(Wk9 x y⁻¹)];rintro r uE iP ⟨Z,a0,a1,a2,a3,a4,rfl,A,B⟩;exact qyZ ⟨rfl,λwH I=>⟨_,_,_,_,_,_,rfl,A.le I,B.le I⟩⟩
theorem Pz (z:Int)(h:RD V p n c (ah z.natAbs)):À 102 #[hF #[dB (decide (z<0)),zF p n c]] V λr V'=>RQ V' r (z:Rat):=
 NG V _ λb a=>sT (z:=z) (d:=1) rfl rfl (h.le a) RD.nil rfl
theorem RQ.ofNat {x:Nat}(h:RN V p n c x){b:md}(hb:b=decide ((x:Int)<0)):RQ V (hF #[dB b,zF p n c,zF none 0 0]) ((x:Int):Rat):=
 sT (z:=(x:Int)) (d:=1) rfl rfl h RD.nil hb
theorem RQ.int {b:md}{p':OA}{n' c':Nat}(h:RQ V (hF #[dB b,zF p n c,zF p' n' c']) q):RI V (hF #[dB b,zF p n c]) q.num:=by obtain ⟨d,f,g,i,j,k,e,a,l⟩:=h;cases e;exact ⟨_,_,_,rfl,a⟩
theorem RQ.den {b:md}{p':OA}{n' c':Nat}(h:RQ V (hF #[dB b,zF p n c,zF p' n' c']) q):RD V p' n' c' (zv q.den):=by obtain ⟨d,f,g,i,j,k,e,l,a⟩:=h;cases e;exact a
def pI (px py qx qy:Rat):Rat×Rat×Rat:=
 let a:=-(qy-py);let b:=qx-px;let c:=-(a*px+b*py)
 let f:Rat:=(((a.den*b.den*c.den:Nat):Int):Rat)
 (a*f,b*f,c*f)
theorem sz_nat (h:n<2^k)(hk:0<k:=by omega):Sz k (((n:Nat):Int):Rat):=by refine ⟨?_,?_⟩;{show ((n:Nat):Int).natAbs<_;simpa using h};{show 1<2^k;exact Qf0 ω}
theorem ka {u:un}{px py qx qy:Rat}(hp:RP V u px py)(hq:RP V w qx qy)(s1:Sz k px)(s2:Sz k py)(s3:Sz k qx)(s4:Sz k qy)(hk1:1<=k)(hk:64*k+64<2^38:=by omega):À 30 #[u,w] V λr V'=>((pI px py qx qy).1.num=0/\(pI px py qx qy).2.1.num=0->∃l,r=tN #[l,dB false]/\RL V' l 0 0 0)/\(¬((pI px py qx qy).1.num=0/\(pI px py qx qy).2.1.num=0)->∃l,r=tN #[l,dB true]/\RL V' l ((pI px py qx qy).1.num/(cq (pI px py qx qy).1.num (pI px py qx qy).2.1.num (pI px py qx qy).2.2.num:Int)) ((pI px py qx qy).2.1.num/(cq (pI px py qx qy).1.num (pI px py qx qy).2.1.num (pI px py qx qy).2.2.num:Int)) ((pI px py qx qy).2.2.num/(cq (pI px py qx qy).1.num (pI px py qx qy).2.1.num (pI px py qx qy).2.2.num:Int))):=by have P:=hp;have Q:=hq;obtain ⟨p1,n1,c1,p2,n2,c2,p3,n3,c3,p4,n4,c4,rfl,d,f⟩:=hp;obtain ⟨q1,m1,e1,q2,m2,e2,q3,m3,e3,q4,m4,e4,rfl,-,-⟩:=hq;refine xX V _ λV1 R=>(qc (Q.le R) (P.le R) s3 s4 s1 s2 hk1).s ?_;rintro r V2 l2 ⟨a1,a2,a3,a4,a5,a6,a7,a8,a9,Zj,Zk,b9,rfl,g,hd⟩;have i:=s3.sub s1;have sP:=R.m l2;refine qyK ⟨rfl,λV3 s=>(nq (qy-py) (by have ⟨_,_,_,_,_,_,e,S,h2⟩:=hd.le s;cases e;exact S) (RQ.den (hd.le s))).s ?_⟩;rintro r V4 T o;obtain ⟨b1,b2,b3,b4,b5,b6,rfl⟩:=o.shape;have j:=(s4.sub s2).neg;have t:pI px py qx qy=(-(qy-py)*(((((-(qy-py)).den*(qx-px).den*(-(-(qy-py)*px+(qx-px)*py)).den:Nat):Int):Rat)),(qx-px)*(((((-(qy-py)).den*(qx-px).den*(-(-(qy-py)*px+(qx-px)*py)).den:Nat):Int):Rat)),(-(-(qy-py)*px+(qx-px)*py))*(((((-(qy-py)).den*(qx-px).den*(-(-(qy-py)*px+(qx-px)*py)).den:Nat):Int):Rat))):=rfl;rw [t];generalize -(qy-py)=A at *;generalize qx-px=B at *;replace g:=g.le (s.m T);replace d:=d.le (sP.m (s.m T));replace f:=f.le (sP.m (s.m T));refine qyZ ⟨rfl,λV5 v=>(aY (o.le v) (d.le v) j s1).s ?_⟩;rintro r V6 U g6;obtain ⟨d1,d2,d3,d4,d5,d6,rfl⟩:=g6.shape;refine qyZ ⟨rfl,λV7 G=>(aY (g.le (v.m (U.m G))) (f.le (v.m (U.m G))) i s2).s ?_⟩;rintro r V8 l8 g8;obtain ⟨f1,f2,f3,f4,f5,f6,rfl⟩:=g8.shape;refine qyZ ⟨rfl,λV9 W=>(dM (g6.le (G.m (l8.m W))) (g8.le W) (j.mul s1) (i.mul s2)).s ?_⟩;rintro r fW X m;have H:=((j.mul s1).add (i.mul s2)).neg;obtain ⟨i1,i2,i3,i4,i5,i6,rfl⟩:=m.shape;refine qyZ ⟨rfl,λfk Y=>(nq (A*px+B*py) (by have ⟨_,_,_,_,_,_,e,S,h2⟩:=m.le Y;cases e;exact S) (RQ.den (m.le Y))).s ?_⟩;rintro r iD bY Z;generalize -(A*px+B*py)=C at *;obtain ⟨j1,j2,j3,j4,j5,j6,rfl⟩:=Z.shape;have P_:=v.m (U.m (G.m (l8.m (W.m (X.m (Y.m bY))))));replace o:=o.le P_;replace g:=g.le P_;refine qyZ ⟨rfl,λku I=>(dU A _ (RQ.den (o.le I))).s ?_⟩;rintro r lV cJ ⟨k1,k2,k3,rfl,a0⟩;refine ⟨_,_,_,rfl,λmg J=>(dU B _ (RQ.den (g.le (I.m (cJ.m J))))).s ?_⟩;rintro r lY cK ⟨k4,k5,k6,rfl,b0⟩;obtain ⟨-,da,-⟩:=dG j;obtain ⟨-,db,-⟩:=dG i;obtain ⟨-,dc,-⟩:=dG H;refine ⟨_,_,_,rfl,λmY K=>(dF (a0.le (J.m (cK.m K))) (b0.le K)).s ?_⟩;rintro r nX cD ⟨k7,k8,k9,rfl,x⟩;rw [af,af] at x;refine ⟨_,_,_,rfl,λrU dy=>(dU C _ (RQ.den (Z.le (I.m (cJ.m (J.m (cK.m (K.m (cD.m dy))))))))).s ?_⟩;rintro r uD fy ⟨c0,c5,c6,rfl,b7⟩;have c7:=kF (a:=A.den) (b:=B.den);refine ⟨_,_,_,rfl,λux iA=>(dF (x.le (dy.m (fy.m iA))) (b7.le iA)).s ?_⟩;rintro r uE iP ⟨c8,c9,d0,rfl,y⟩;rw [af,af] at y;have p:=sz_nat (cA (cA j.2 i.2) H.2);generalize A.den*B.den*C.den=M at *;refine ⟨_,_,_,rfl,λwH hZ=>(wV (y.le hZ)).s ?_⟩;rintro r Gv kS ⟨d7,d8,d9,rfl,b8⟩;have hf:=RQ.ofNat b8 rfl;have c:=I.m (cJ.m (J.m (cK.m (K.m (cD.m (dy.m (fy.m (iA.m (iP.m (hZ.m kS))))))))));refine qyQ ⟨rfl,λIF q=>(aY (o.le (c.m q)) (hf.le q) j p).s ?_⟩;rintro r O6 L z;obtain ⟨o1,o2,o3,o4,o5,o6,rfl⟩:=z.shape;refine qyZ ⟨rfl,λYb D=>(aY (g.le (c.m (q.m (L.m D)))) (hf.le (q.m (L.m D))) i p).s ?_⟩;rintro r Vz tQ E;obtain ⟨o7,o8,o9,e0,e5,e6,rfl⟩:=E.shape;refine qyZ ⟨rfl,λYc N=>(aY (Z.le (c.m (q.m (L.m (D.m (tQ.m N)))))) (hf.le (q.m (L.m (D.m (tQ.m N))))) H p).s ?_⟩;rintro r Rc xy F;obtain ⟨t1,t2,t3,t4,t5,t6,rfl⟩:=F.shape;refine qyZ ⟨rfl,λe7 DT=>(D5 (RQ.int (z.le (D.m (tQ.m (N.m (xy.m DT)))))) (RQ.int (E.le (N.m (xy.m DT)))) (RQ.int (F.le DT)) (ā (dG (j.mul p)).1 ω) (ā (dG (i.mul p)).1 ω) (ā (dG (H.mul p)).1 ω)).s ?_⟩;rintro r Zf zG ⟨z1,z2⟩;by_cases O:(A*((M:Int):Rat)).num=0/\(B*((M:Int):Rat)).num=0;{obtain ⟨l,rfl,y1,y2,y3,y4,y5,y6,y7,y8,y9,rfl,w1,w2,w3⟩:=z1 O;exact ⟨_,_,_,_,_,_,_,_,_,_,_,_,_,rfl,λVc n=>⟨λ_=>⟨_,rfl,_,_,_,_,_,_,_,_,_,rfl,w1.le n,w2.le n,w3.le n⟩,λh=>Å O h⟩⟩};{obtain ⟨l,rfl,y1,y2,y3,y4,y5,y6,y7,y8,y9,rfl,w1,w2,w3⟩:=z2 O;exact ⟨_,_,_,_,_,_,_,_,_,_,_,_,_,rfl,λVc n=>⟨λh=>Å h O,λ_=>⟨_,rfl,_,_,_,_,_,_,_,_,_,rfl,w1.le n,w2.le n,w3.le n⟩⟩⟩}
theorem tH (h:RQ V v q)(_s:Sz k q)(_hk:k<=2^40:=by omega):À 49 #[v] V λr V'=>RQ V' r (-q):=by obtain ⟨p,n,c,d,e,f,rfl,a,b⟩:=h;exact nq q a b
theorem bz {z:Int}(h:RD V p n c (ah z.natAbs))(_s:Sz k (z:Rat))(_hk:k<=2^40:=by omega):À 102 #[hF #[dB (decide (z<0)),zF p n c]] V λr V'=>RQ V' r (z:Rat):=Pz z h
theorem eO {cH l_1 eZ:Int}(hl:RL V l cH l_1 eZ)(bS:Sz k ((cH:Int):Rat))(bU:Sz k ((l_1:Int):Rat))(bN:Sz k ((eZ:Int):Rat))(hk:1*k+1<2^38:=by omega):À 48 #[l] V λr V'=>RP V' r (((l_1:Int):Rat)) (-(((cH:Int):Rat))):=by obtain ⟨n,a,e,b,f,c,g,d,o,rfl,p,q,E⟩:=id hl;refine Ij V _ λF a=>(bz (q.le a) bU).s ?_;rintro r V2 e h;obtain ⟨s,t,u,v,w,x,rfl⟩:=h.shape;refine qyZ ⟨rfl,λG b=>(bz (p.le (a.m (e.m b))) bS).s ?_⟩;rintro r H f i;obtain ⟨I,J,K,y,z,A,rfl⟩:=i.shape;refine qyZ ⟨rfl,λL c=>(tH (i.le c) (Sz.s (m:=1*k+0) (bS))).s ?_⟩;rintro r M g j;obtain ⟨N,O,P,B,C,D,rfl⟩:=j.shape;exact qyZ ⟨rfl,λQ d=>⟨_,_,_,_,_,_,_,_,_,_,_,_,rfl,(h.le (b.m (f.m (c.m (g.m d))))),(j.le d)⟩⟩
theorem gV {cH:Int}{l_1:Int}{eZ:Int}(bS:Sz k ((cH:Int):Rat))(bU:Sz k ((l_1:Int):Rat))(bN:Sz k ((eZ:Int):Rat)):Sz (1*k+0) (((l_1:Int):Rat)):=χ
theorem gW {cH:Int}{l_1:Int}{eZ:Int}(bS:Sz k ((cH:Int):Rat))(bU:Sz k ((l_1:Int):Rat))(bN:Sz k ((eZ:Int):Rat)):Sz (1*k+0) (-(((cH:Int):Rat))):=by grind [Sz.neg]
theorem p_ {p:un}{q:un}(hp:RP V p kI kJ)(hq:RP V q Ix Iy)(iE:Sz k kI)(iF:Sz k kJ)(zK:Sz k Ix)(zL:Sz k Iy)(hk:4*k+3<2^38:=by omega):À 159 #[p,q] V λr V'=>RQ V' r (((kI)*(Ix))+((kJ)*(Iy))):=by obtain ⟨n,o,s,t,u,v,w,x,y,z,A,B,rfl,C,D⟩:=id hp;obtain ⟨E,F,G,H,I,J,K,L,M,N,d,e,rfl,a,b⟩:=id hq;refine Ik V _ λV1 c=>(aY (C.le c) (a.le c) iE zK).s ?_;rintro r V2 g h;obtain ⟨O,P,Q,R,S,T,rfl⟩:=h.shape;refine qyZ ⟨rfl,λV3 f=>(aY (D.le (c.m (g.m f))) (b.le (c.m (g.m f))) iF zL).s ?_⟩;rintro r V4 U i;obtain ⟨XV,XW,XX,W,X,Y,rfl⟩:=i.shape;refine qyZ ⟨rfl,λV5 j=>(dM (h.le (f.m (U.m j))) (i.le j) (Sz.s (m:=2*k+1) (Sz.mul iE zK)) (Sz.s (m:=2*k+1) (Sz.mul iF zL))).s ?_⟩;rintro r V6 l6 l;obtain ⟨Y3,Y4,Y5,Z,a0,a1,rfl⟩:=l.shape;exact qyZ ⟨rfl,λV7 l7=>(l.le l7)⟩
theorem gX (iE:Sz k kI)(iF:Sz k kJ)(zK:Sz k Ix)(zL:Sz k Iy):Sz (4*k+3) (((kI)*(Ix))+((kJ)*(Iy))):=by have a:=Sz.s (m:=4*k+3) (Sz.add (Sz.s (m:=2*k+1) (Sz.mul iE zK)) (Sz.s (m:=2*k+1) (Sz.mul iF zL)));grind
theorem jF {cH l_1 eZ:Int}{p:un}(hl:RL V l cH l_1 eZ)(hp:RP V p kI kJ){k:Nat}(bS:Sz k ((cH:Int):Rat))(bU:Sz k ((l_1:Int):Rat))(bN:Sz k ((eZ:Int):Rat))(iE:Sz k kI)(iF:Sz k kJ)(hk:5*k+4<2^38:=by omega):À 161 #[l,p] V λr V'=>RQ V' r ((((((cH:Int):Rat))*(kI))+((((l_1:Int):Rat))*(kJ)))+(((eZ:Int):Rat))):=by obtain ⟨C,a,c,b,f,d,g,e,h,rfl,D,E,F⟩:=id hl;obtain ⟨G,H,I,J,K,L,M,N,O,P,Q,R,rfl,S,T⟩:=id hp;refine Dy V _ λV1 a=>(bz (D.le a) bS).s ?_;rintro r V2 c n;obtain ⟨U,W,X,Y,Z,a0,rfl⟩:=n.shape;have o:=Sz.s (m:=1*k+0) (bS);refine qyZ ⟨rfl,λV3 b=>(aY (n.le b) (S.le (a.m (c.m b))) o iE).s ?_⟩;rintro r V4 f q;obtain ⟨XV,XW,XX,a1,a2,a3,rfl⟩:=q.shape;have s:=Sz.s (m:=2*k+1) (Sz.mul o iE);refine qyZ ⟨rfl,λV5 d=>(bz (E.le (a.m (c.m (b.m (f.m d))))) bU).s ?_⟩;rintro r V6 g t;obtain ⟨Y3,Y4,Y5,a4,a5,a6,rfl⟩:=t.shape;have u:=Sz.s (m:=1*k+0) (bU);refine qyZ ⟨rfl,λV7 e=>(aY (t.le e) (T.le (a.m (c.m (b.m (f.m (d.m (g.m e))))))) u iF).s ?_⟩;rintro r V8 h v;obtain ⟨a7,a8,a9,b0,b1,b2,rfl⟩:=v.shape;have w:=Sz.s (m:=2*k+1) (Sz.mul u iF);refine qyZ ⟨rfl,λV9 i=>(dM (q.le (d.m (g.m (e.m (h.m i))))) (v.le i) s w).s ?_⟩;rintro r fW j x;obtain ⟨b3,b4,b5,b6,b7,b8,rfl⟩:=x.shape;refine qyZ ⟨rfl,λfk y=>(bz (F.le (a.m (c.m (b.m (f.m (d.m (g.m (e.m (h.m (i.m (j.m y))))))))))) bN).s ?_⟩;rintro r iD bY z;obtain ⟨b9,c0,c1,c2,c3,c4,rfl⟩:=z.shape;refine qyZ ⟨rfl,λku A=>(dM (x.le (y.m (bY.m A))) (z.le A) (Sz.s (m:=4*k+3) (Sz.add s w)) (Sz.s (m:=1*k+0) (bN))).s ?_⟩;rintro r lV cJ B;obtain ⟨c5,c6,c7,c8,c9,d0,rfl⟩:=B.shape;exact qyZ ⟨rfl,λmg cP=>(B.le cP)⟩
theorem D7 {cH l_1 eZ:Int}{p:un}(hl:RL V l cH l_1 eZ)(hp:RP V p kI kJ)(hd0:((((((l_1:Int):Rat)))*((((l_1:Int):Rat))))+(((-(((cH:Int):Rat))))*((-(((cH:Int):Rat)))))).num≠0)(bS:Sz k ((cH:Int):Rat))(bU:Sz k ((l_1:Int):Rat))(bN:Sz k ((eZ:Int):Rat))(iE:Sz k kI)(iF:Sz k kJ)(hk:8*k+7<2^38):À 100 #[l,p] V λr V'=>RQ V' r ((((kI)*((((l_1:Int):Rat))))+((kJ)*((-(((cH:Int):Rat))))))*((((((l_1:Int):Rat)))*((((l_1:Int):Rat))))+(((-(((cH:Int):Rat))))*((-(((cH:Int):Rat))))))⁻¹):=by obtain ⟨x,e,i,a,f,d,j,g,n,rfl,Y,Z,vi⟩:=id hl;obtain ⟨y,z,A,B,C,D,E,F,G,H,I,J,rfl,Hg,Hh⟩:=id hp;refine Dw V _ λV1 e=>(eO (hl.le e) (Sz.s bS:Sz (1*k+0) _) (Sz.s bU:Sz (1*k+0) _) (Sz.s bN:Sz (1*k+0) _)).s ?_;rintro r V2 i h;obtain ⟨XP,XQ,XR,XS,XT,XU,o,q,s,t,Y1,Y2,rfl,Ws,Wt⟩:=id h;have b:=Sz.s (m:=1*k+0) ((gV (Sz.s bS:Sz (1*k+0) _) (Sz.s bU:Sz (1*k+0) _) (Sz.s bN:Sz (1*k+0) _)));have c:=Sz.s (m:=1*k+0) ((gW (Sz.s bS:Sz (1*k+0) _) (Sz.s bU:Sz (1*k+0) _) (Sz.s bN:Sz (1*k+0) _)));refine qyK ⟨rfl,λV3 a=>(p_ (hp.le (e.m (i.m a))) (h.le a) (Sz.s iE:Sz (1*k+0) _) (Sz.s iF:Sz (1*k+0) _) (Sz.s b:Sz (1*k+0) _) (Sz.s c:Sz (1*k+0) _)).s ?_⟩;rintro r V4 f u;obtain ⟨XV,XW,XX,K,L,M,rfl⟩:=u.shape;refine qyZ ⟨rfl,λV5 d=>(p_ (h.le (a.m (f.m d))) (h.le (a.m (f.m d))) (Sz.s b:Sz (1*k+0) _) (Sz.s c:Sz (1*k+0) _) (Sz.s b:Sz (1*k+0) _) (Sz.s c:Sz (1*k+0) _)).s ?_⟩;rintro r V6 j v;obtain ⟨Y3,Y4,Y5,N,O,P,rfl⟩:=v.shape;refine qyZ ⟨rfl,λV7 g=>(ji (u.le (d.m (j.m g))) (v.le g) hd0 (Sz.s (m:=4*k+3) ((gX (Sz.s iE:Sz (1*k+0) _) (Sz.s iF:Sz (1*k+0) _) (Sz.s b:Sz (1*k+0) _) (Sz.s c:Sz (1*k+0) _)))) (Sz.s (m:=4*k+3) ((gX (Sz.s b:Sz (1*k+0) _) (Sz.s c:Sz (1*k+0) _) (Sz.s b:Sz (1*k+0) _) (Sz.s c:Sz (1*k+0) _))))).s ?_⟩;rintro r V8 n w;obtain ⟨Q,R,S,T,U,W,rfl⟩:=w.shape;exact qyZ ⟨rfl,λV9 X=>(w.le X)⟩
theorem uK {cH l_1 eZ:Int}(hl:RL V l cH l_1 eZ)(hd0:((((((l_1:Int):Rat)))*((((l_1:Int):Rat))))+(((-(((cH:Int):Rat))))*((-(((cH:Int):Rat)))))).num≠0)(bS:Sz k ((cH:Int):Rat))(bU:Sz k ((l_1:Int):Rat))(bN:Sz k ((eZ:Int):Rat))(hk:6*k+5<2^38:=by omega):À 105 #[l] V λr V'=>RP V' r ((-((((eZ:Int):Rat))*((((((l_1:Int):Rat)))*((((l_1:Int):Rat))))+(((-(((cH:Int):Rat))))*((-(((cH:Int):Rat))))))⁻¹))*(((cH:Int):Rat))) ((-((((eZ:Int):Rat))*((((((l_1:Int):Rat)))*((((l_1:Int):Rat))))+(((-(((cH:Int):Rat))))*((-(((cH:Int):Rat))))))⁻¹))*(((l_1:Int):Rat))):=by obtain ⟨P,d,g,b,e,c,h,f,j,rfl,Q,R,S⟩:=id hl;refine EM V _ λV1 d=>(eO (hl.le d) (Sz.s bS:Sz (1*k+0) _) (Sz.s bU:Sz (1*k+0) _) (Sz.s bN:Sz (1*k+0) _)).s ?_;rintro r V2 g s;obtain ⟨XP,XQ,XR,XS,XT,XU,y,z,A,B,Y1,Y2,rfl,Ws,Wt⟩:=id s;have n:=Sz.s (m:=1*k+0) ((gV (Sz.s bS:Sz (1*k+0) _) (Sz.s bU:Sz (1*k+0) _) (Sz.s bN:Sz (1*k+0) _)));have o:=Sz.s (m:=1*k+0) ((gW (Sz.s bS:Sz (1*k+0) _) (Sz.s bU:Sz (1*k+0) _) (Sz.s bN:Sz (1*k+0) _)));refine qyK ⟨rfl,λV3 b=>(bz (S.le (d.m (g.m b))) bN).s ?_⟩;rintro r V4 e C;obtain ⟨XV,XW,XX,T,U,W,rfl⟩:=C.shape;have D:=Sz.s (m:=1*k+0) (bN);refine qyZ ⟨rfl,λV5 c=>(p_ (s.le (b.m (e.m c))) (s.le (b.m (e.m c))) (Sz.s n:Sz (1*k+0) _) (Sz.s o:Sz (1*k+0) _) (Sz.s n:Sz (1*k+0) _) (Sz.s o:Sz (1*k+0) _)).s ?_⟩;rintro r V6 h E;obtain ⟨Y3,Y4,Y5,X,Y,Z,rfl⟩:=E.shape;have F:=Sz.s (m:=4*k+3) ((gX (Sz.s n:Sz (1*k+0) _) (Sz.s o:Sz (1*k+0) _) (Sz.s n:Sz (1*k+0) _) (Sz.s o:Sz (1*k+0) _)));refine qyZ ⟨rfl,λV7 f=>(ji (C.le (c.m (h.m f))) (E.le f) hd0 D F).s ?_⟩;rintro r V8 j G;obtain ⟨a0,a1,a2,a3,a4,a5,rfl⟩:=G.shape;have H:=Sz.s (m:=5*k+4) (Sz.mul D (fA F));refine qyZ ⟨rfl,λV9 t=>(tH (G.le t) H).s ?_⟩;rintro r fW i u;obtain ⟨a6,a7,a8,a9,b0,b1,rfl⟩:=u.shape;have a:=Sz.s (m:=5*k+4) (Sz.neg H);refine qyZ ⟨rfl,λfk p=>(bz (Q.le (d.m (g.m (b.m (e.m (c.m (h.m (f.m (j.m (t.m (i.m p))))))))))) bS).s ?_⟩;rintro r iD v I;obtain ⟨b2,b3,b4,b5,b6,b7,rfl⟩:=I.shape;refine qyZ ⟨rfl,λku q=>(aY (u.le (p.m (v.m q))) (I.le q) a (Sz.s (m:=1*k+0) (bS))).s ?_⟩;rintro r lV J K;obtain ⟨b8,b9,c0,c1,c2,c3,rfl⟩:=K.shape;refine qyZ ⟨rfl,λmg w=>(bz (R.le (d.m (g.m (b.m (e.m (c.m (h.m (f.m (j.m (t.m (i.m (p.m (v.m (q.m (J.m w))))))))))))))) bU).s ?_⟩;rintro r lY L M;obtain ⟨c4,c5,c6,c7,c8,c9,rfl⟩:=M.shape;refine qyZ ⟨rfl,λmY x=>(aY (u.le (p.m (v.m (q.m (J.m (w.m (L.m x))))))) (M.le x) a (Sz.s (m:=1*k+0) (bU))).s ?_⟩;rintro r nX cD N;obtain ⟨d0,d1,d2,d3,d4,d5,rfl⟩:=N.shape;exact qyZ ⟨rfl,λrU O=>⟨_,_,_,_,_,_,_,_,_,_,_,_,rfl,(K.le (w.m (L.m (x.m (cD.m O))))),(N.le O)⟩⟩
theorem DN {cH:Int}{l_1:Int}{eZ:Int}(bS:Sz k ((cH:Int):Rat))(bU:Sz k ((l_1:Int):Rat))(bN:Sz k ((eZ:Int):Rat)):Sz (6*k+5) ((-((((eZ:Int):Rat))*((((((l_1:Int):Rat)))*((((l_1:Int):Rat))))+(((-(((cH:Int):Rat))))*((-(((cH:Int):Rat))))))⁻¹))*(((cH:Int):Rat))):=by have a:=Sz.s (m:=1*k+0) ((gV (Sz.s bS:Sz (1*k+0) _) (Sz.s bU:Sz (1*k+0) _) (Sz.s bN:Sz (1*k+0) _)));have b:=Sz.s (m:=1*k+0) ((gW (Sz.s bS:Sz (1*k+0) _) (Sz.s bU:Sz (1*k+0) _) (Sz.s bN:Sz (1*k+0) _)));have c:=Sz.s (m:=6*k+5) (Sz.mul (Sz.s (m:=5*k+4) (Sz.neg (Sz.s (m:=5*k+4) (Sz.mul (Sz.s (m:=1*k+0) (bN)) (fA (Sz.s (m:=4*k+3) ((gX (Sz.s a:Sz (1*k+0) _) (Sz.s b:Sz (1*k+0) _) (Sz.s a:Sz (1*k+0) _) (Sz.s b:Sz (1*k+0) _))))))))) (Sz.s (m:=1*k+0) (bS)));grind
theorem DO {cH:Int}{l_1:Int}{eZ:Int}(bS:Sz k ((cH:Int):Rat))(bU:Sz k ((l_1:Int):Rat))(bN:Sz k ((eZ:Int):Rat)):Sz (6*k+5) ((-((((eZ:Int):Rat))*((((((l_1:Int):Rat)))*((((l_1:Int):Rat))))+(((-(((cH:Int):Rat))))*((-(((cH:Int):Rat))))))⁻¹))*(((l_1:Int):Rat))):=by have a:=Sz.s (m:=1*k+0) ((gV (Sz.s bS:Sz (1*k+0) _) (Sz.s bU:Sz (1*k+0) _) (Sz.s bN:Sz (1*k+0) _)));have b:=Sz.s (m:=1*k+0) ((gW (Sz.s bS:Sz (1*k+0) _) (Sz.s bU:Sz (1*k+0) _) (Sz.s bN:Sz (1*k+0) _)));have c:=Sz.s (m:=6*k+5) (Sz.mul (Sz.s (m:=5*k+4) (Sz.neg (Sz.s (m:=5*k+4) (Sz.mul (Sz.s (m:=1*k+0) (bN)) (fA (Sz.s (m:=4*k+3) ((gX (Sz.s a:Sz (1*k+0) _) (Sz.s b:Sz (1*k+0) _) (Sz.s a:Sz (1*k+0) _) (Sz.s b:Sz (1*k+0) _))))))))) (Sz.s (m:=1*k+0) (bU)));grind
theorem LW {cH l_1 eZ:Int}{t:un}(hl:RL V l cH l_1 eZ)(ht:RQ V t Vq)(hd0:((((((l_1:Int):Rat)))*((((l_1:Int):Rat))))+(((-(((cH:Int):Rat))))*((-(((cH:Int):Rat)))))).num≠0)(bS:Sz k ((cH:Int):Rat))(bU:Sz k ((l_1:Int):Rat))(bN:Sz k ((eZ:Int):Rat))(M5:Sz k Vq)(hk:18*k+16<2^38):À 51 #[l,t] V λr V'=>RP V' r (((-((((eZ:Int):Rat))*((((((l_1:Int):Rat)))*((((l_1:Int):Rat))))+(((-(((cH:Int):Rat))))*((-(((cH:Int):Rat))))))⁻¹))*(((cH:Int):Rat)))+(Vq)*(((l_1:Int):Rat))) (((-((((eZ:Int):Rat))*((((((l_1:Int):Rat)))*((((l_1:Int):Rat))))+(((-(((cH:Int):Rat))))*((-(((cH:Int):Rat))))))⁻¹))*(((l_1:Int):Rat)))+(Vq)*(-(((cH:Int):Rat)))):=by obtain ⟨U,a,f,b,g,c,p,h,W,rfl,Y,Z,vi⟩:=id hl;obtain ⟨t0,t1,t2,t3,t4,t5,rfl⟩:=ht.shape;refine Li V _ λV1 a=>(uK (hl.le a) hd0 (Sz.s bS:Sz (1*k+0) _) (Sz.s bU:Sz (1*k+0) _) (Sz.s bN:Sz (1*k+0) _)).s ?_;rintro r V2 f q;obtain ⟨XP,XQ,XR,XS,XT,XU,s,u,v,w,Y1,Y2,rfl,Ws,Wt⟩:=id q;refine qyK ⟨rfl,λV3 b=>(eO (hl.le (a.m (f.m b))) (Sz.s bS:Sz (1*k+0) _) (Sz.s bU:Sz (1*k+0) _) (Sz.s bN:Sz (1*k+0) _)).s ?_⟩;rintro r V4 g x;obtain ⟨y,z,A,B,C,D,E,F,G,H,i,j,rfl,I,J⟩:=id x;refine qyK ⟨rfl,λV5 c=>(fL (q.le (b.m (g.m c))) (ht.le (a.m (f.m (b.m (g.m c))))) (x.le c) (Sz.s (Sz.s (m:=6*k+5) ((DN (Sz.s bS:Sz (1*k+0) _) (Sz.s bU:Sz (1*k+0) _) (Sz.s bN:Sz (1*k+0) _)))):Sz (6*k+5) _) (Sz.s (Sz.s (m:=6*k+5) ((DO (Sz.s bS:Sz (1*k+0) _) (Sz.s bU:Sz (1*k+0) _) (Sz.s bN:Sz (1*k+0) _)))):Sz (6*k+5) _) (Sz.s M5:Sz (6*k+5) _) (Sz.s (Sz.s (m:=1*k+0) ((gV (Sz.s bS:Sz (1*k+0) _) (Sz.s bU:Sz (1*k+0) _) (Sz.s bN:Sz (1*k+0) _)))):Sz (6*k+5) _) (Sz.s (Sz.s (m:=1*k+0) ((gW (Sz.s bS:Sz (1*k+0) _) (Sz.s bU:Sz (1*k+0) _) (Sz.s bN:Sz (1*k+0) _)))):Sz (6*k+5) _)).s ?_⟩;rintro r V6 p X;obtain ⟨K,L,M,N,O,P,Q,R,S,T,n,o,rfl,d,e⟩:=id X;exact qyK ⟨rfl,λV7 h=>⟨_,_,_,_,_,_,_,_,_,_,_,_,rfl,(d.le h),(e.le h)⟩⟩
theorem RA.shape (h:RA V v q):∃b p n c p' n' c',v=hF #[dB b,zF p n c,zF p' n' c']:=by obtain ⟨p,n,c,p',n',c',e,-⟩:=h;exact qyZ e
def Zc (V:Ó)(v:Value)(x y:Rat):Prop:=∃b p n c p' n' c' d q m e q' m' e',v=.agg #[.bool b,.slice p n c,.slice p' n' c',.bool d,.slice q m e,.slice q' m' e'] /\
 RA V (.agg #[.bool b,.slice p n c,.slice p' n' c']) x/\RA V (.agg #[.bool d,.slice q m e,.slice q' m' e']) y
theorem Zc.le {V V':ut}(h:Zc V v x y)(l:V.Le V'):Zc V' v x y:=by obtain ⟨b,p,n,c,g,i,j,d,q,m,e,k,o,r,rfl,a,f⟩:=h;exact qyK ⟨rfl,a.le l,f.le l⟩
theorem yr (h:RQ V v q)(s:Sz k q)(hk:k<=2^40):À 98 #[v] V λr V'=>RA V' r q:=by obtain ⟨p,n,c,f,g,i,rfl,j,l⟩:=h;have y:=ag s.1;have z:=ag s.2;refine Ig V _ λA a=>(mo ⟨_,_,_,rfl,j.le a⟩).s ?_;rintro r V2 m ⟨B,C,D,rfl,o⟩;refine qyQ ⟨rfl,λE b=>(dU q _ (l.le (a.m (m.m b)))).s ?_⟩;rintro r F t ⟨G,H,I,rfl,u⟩;refine ⟨_,_,_,rfl,λJ d=>(yo (u.le d)).s ?_⟩;rintro r K w ⟨L,M,N,rfl,x⟩;exact ⟨_,_,_,rfl,λO e=>⟨_,_,_,_,_,_,rfl,o.le (b.m (t.m (d.m (w.m e)))),x.le e⟩⟩
theorem I8 (h:RP V v x y)(s1:Sz k x)(s2:Sz k y)(hk:k<=2^40):À 182 #[v] V λr V'=>Zc V' r x y:=by obtain ⟨f,g,i,j,l,m,n,o,p,q,s,t,rfl,u,w⟩:=h;refine Iq V _ λB a=>(yr (u.le a) s1 hk).s ?_;rintro r V2 z b;obtain ⟨_,_,_,_,_,_,_,rfl⟩:=b.shape;refine qyZ ⟨rfl,λC c=>(yr (w.le (a.m (z.m c))) s2 hk).s ?_⟩;rintro r D A d;obtain ⟨_,_,_,_,_,_,_,rfl⟩:=d.shape;exact qyZ ⟨rfl,λE e=>⟨_,_,_,_,_,_,_,_,_,_,_,_,_,_,rfl,b.le (c.m (A.m e)),d.le e⟩⟩
theorem sE (hx:RA V v x)(hy:RA V w y)(s:Sz k x)(hk:k<=2^40):À 97 #[v,w] V λr V'=>r=dB (decide (x=y)):=by obtain ⟨p,n,c,f,i,j,rfl,l,o⟩:=hx;obtain ⟨q,m,e,t,u,z,rfl,A,B⟩:=hy;have C:=ag s.1;have D:=ag s.2;refine Dr V _ λE a=>(jD (l.le a) (A.le a)).s ?_;rintro r V2 b rfl;refine ⟨_,rfl,λg F d=>(sC (o.le (a.m (b.m d))) (B.le (a.m (b.m d)))).s ?_,λg G H=>?_⟩;{have g:=Á g;rintro r I J rfl;refine ⟨_,rfl,λK L=>?_⟩;have e:ah x.den=ah y.den↔x=y:=⟨λh=>Rat.ext g (by have:=Æ val h;rwa [af,af] at this),λh=>by rw [h]⟩;rw [show decide (ah x.den=ah y.den)=decide (x=y) from by rw [É];exact e]};{have g:=Â g;rw [È (λh=>g (by rw [h]))]}
end Go.Proofs.Tryz
namespace Go.Proofs.Tryz
abbrev L3:=Int×Int×Int
variable{c k n tb:Nat}{V:Ó}{a at_ b:Int}{v:Value}{x:L3}{p:OA}
def bX (x:L3):Bool:=decide (¬(x.1=0/\x.2.1=0))&&decide (cq x.1 x.2.1 x.2.2=1)
def Bd (x:L3):Prop:=x.1.natAbs<2^1000/\x.2.1.natAbs<2^1000/\x.2.2.natAbs<2^1000
inductive Tr where
 | leaf (i:Bool)|node (l:L3) (a b:Tr)
 deriving DecidableEq
structure Nd where
 ln:L3
 left:Int
 right:Int
 deriving DecidableEq
def Tr.size:Tr->Nat
 | .leaf _=>0
 | .node _ a b=>a.size+b.size+1
def Tr.qv:Tr->Bool
 | .leaf _=>true
 | .node ..=>false
def Tr.dV (p:L3->Prop):Tr->Prop
 | .leaf _=>True
 | .node l a b=>p l/\a.dV p/\b.dV p
theorem Tr.dV.imp {p q:L3->Prop}(h:∀x,p x->q x):∀{t:Tr},t.dV p->t.dV q
 | .leaf _,_=>trivial
 | .node _ _ _,⟨h1,h2,h3⟩=>⟨h _ h1,Tr.dV.imp h h2,Tr.dV.imp h h3⟩
def rt (k:Nat):Tr->Int
 | .leaf i=>if i then -2 else -1
 | .node ..=>(k:Int)
def wr:Nat->Tr->List Nd
 | _,.leaf _=>[]
 | k,.node l a b=>⟨l,rt (k+1) a,rt (k+1+a.size) b⟩::(wr (k+1) a++wr (k+1+a.size) b)
theorem fw:∀(t:Tr)(k:Nat),(wr k t).length=t.size
 | .leaf _,_=>rfl
 | .node _ a b,k=>by simp only [wr,Ą,í,fw a,fw b,Tr.size]
def Rep (l:List Nd):Int->Tr->List Nat->Prop
 | n,.leaf i,I=>n=(if i then -2 else -1)/\I=[]
 | n,.node ln a b,I=>∃(k:Nat)(x:Nd)(A B:List Nat),n=(k:Int)/\l[k]?=some x/\x.ln=ln/\Rep l x.left a A/\Rep l x.right b B/\I=k::(A++B)
theorem MS:∀(t:Tr)(l pre post:pz Nd)(k:Nat),l=pre++(wr k t++post)->pre.length=k->Rep l (rt k t) t (List.range' k t.size)
 | .leaf i,l,pre,post,k,_,_=>⟨rfl,rfl⟩
 | .node ln a b,l,pre,post,k,hl,hp=>by
  refine ⟨k,⟨ln,rt (k+1) a,rt (k+1+a.size) b⟩,List.range' (k+1) a.size,List.range' (k+1+a.size) b.size,rfl,?_,rfl,?_,?_,?_⟩
  ·subst hl;simp [hp,wr]
  ·refine MS a l (pre++[⟨ln,rt (k+1) a,rt (k+1+a.size) b⟩]) (wr (k+1+a.size) b++post) (k+1) ?_ (by simp [hp])<;>grind [wr]
  ·refine MS b l (pre++(⟨ln,rt (k+1) a,rt (k+1+a.size) b⟩::wr (k+1) a)) post (k+1+a.size) ?_ (by simp [fw];omega)<;>grind [wr]
  ·simp only [Tr.size];rw [List.range'_succ,<-List.range'_append_1]
structure RS where
 seen:List Bool
 pR:Nat
 bad:Bool
def jq (l:List Nd):Nat->Int->RS->Tr×RS
 | 0,_,s=>(.leaf false,s)
 | f+1,n,s=>
  if n=-2 then (.leaf true,s) else if n=-1 then (.leaf false,s) else if n<0 then (.leaf false,{ s with bad:=true })
  else match l[n.toNat]?,s.seen[n.toNat]? with
   | some x,some false=>
    if bX x.ln then
     let r1:=jq l f x.left ⟨s.seen.set n.toNat true,s.pR+1,s.bad⟩
     let r2:=jq l f x.right r1.2
     (.node x.ln r1.1 r2.1,r2.2)
    else (.leaf false,⟨s.seen.set n.toNat true,s.pR+1,true⟩)
   | _,_=>(.leaf false,{ s with bad:=true })
theorem count_set {l:pz md}(h:l[k]?=some false):(l.set k true).count false+1=l.count false:=χ
theorem Cu (l:pz Nd):∀(f:Nat)(n:Int)(s:RS),(jq l f n s).2.seen.count false<=s.seen.count false/\(jq l f n s).2.seen.length=s.seen.length
 | 0,_,_=>⟨Ù _,rfl⟩
 | f+1,n,s=>by
  simp only [jq];split
  ·exact ⟨Ù _,rfl⟩
  ·split
   ·exact ⟨Ù _,rfl⟩
   ·split
    ·exact ⟨Ù _,rfl⟩
    ·split
     ·rename_i x hx hs;have hc:=count_set hs;split
      ·have ⟨a,b⟩:=Cu l f x.left ⟨s.seen.set n.toNat true,s.pR+1,s.bad⟩;have ⟨c,d⟩:=Cu l f x.right (jq l f x.left ⟨s.seen.set n.toNat true,s.pR+1,s.bad⟩).2;grind
      grind
     grind
theorem Hy (l:pz Nd):∀(f:Nat)(n:Int)(s:RS),(jq l f n s).2.pR+(jq l f n s).2.seen.count false=s.pR+s.seen.count false
 | 0,_,_=>rfl
 | f+1,n,s=>by
  simp only [jq];split
  ·rfl
  ·split
   ·rfl
   ·split
    ·rfl
    ·split
     ·rename_i x hx hs;have hc:=count_set hs;split
      ·have a:=Hy l f x.left ⟨s.seen.set n.toNat true,s.pR+1,s.bad⟩;have b:=Hy l f x.right (jq l f x.left ⟨s.seen.set n.toNat true,s.pR+1,s.bad⟩).2;grind
      ·dsimp only;omega
     ·rfl
theorem Cv (l:pz Nd):∀(f:Nat)(n:Int)(s:RS),(jq l f n s).1.size+s.pR<=(jq l f n s).2.pR
 | 0,_,_=>by simp [jq,Tr.size]
 | f+1,n,s=>by
  simp only [jq];split
  ·simp [Tr.size]
  ·split
   ·simp [Tr.size]
   ·split
    ·simp [Tr.size]
    ·split
     ·split
      ·rename_i x hx hs hok;have h1:=Cv l f x.left ⟨s.seen.set n.toNat true,s.pR+1,s.bad⟩;have a:=Cv l f x.right (jq l f x.left ⟨s.seen.set n.toNat true,s.pR+1,s.bad⟩).2;grind [Tr.size]
      ·simp [Tr.size]
     ·simp [Tr.size]
def t_ (s:List Bool)(I:List Nat):List Bool:=I.foldl (λs k=>s.set k true) s
theorem CH:∀(I:pz Nat)(s:pz md)(k:Nat),k∉I->(t_ s I)[k]?=s[k]?
 | [],_,_,_=>rfl
 | i::r,s,k,h=>by
  have:=CH r (s.set i true) k (λh'=>h (ó _ h'));grind [t_]
theorem Hz (l:pz Nd):∀(t:Tr)(f:Nat)(n:Int)(s:RS)(I:pz Nat),Rep l n t I->I.Nodup->(∀k∈I,s.seen[k]?=some false)->t.dV (λx=>bX x=true)->t.size<f->jq l f n s=(t,⟨t_ s.seen I,s.pR+t.size,s.bad⟩)
 | .leaf i,f,n,s,I,⟨h1,h2⟩,_,_,_,hf=>by
  subst h2;obtain ⟨f,rfl⟩:∃g,f=g+1:=⟨f-1,by simp [Tr.size] at hf;omega⟩
  cases i with
  | true=>simp only at h1;subst h1;simp [jq,t_,Tr.size]
  | false=>
   subst h1;simp [jq,t_,Tr.size]
 | .node ln a b,f,n,s,I,⟨k,x,A,B,h1,h2,h3,h4,h5,h6⟩,hnd,hun,hok,hf=>by
  subst h1 h3 h6;obtain ⟨f,rfl⟩:∃g,f=g+1:=⟨f-1,by simp [Tr.size] at hf;omega⟩;rw [List.nodup_cons,List.nodup_append] at hnd;obtain ⟨q,r,u,d⟩:=hnd;simp only [Tr.size] at hf
  have v:=Hz l a f x.left ⟨s.seen.set k true,s.pR+1,s.bad⟩ A h4 r (λj c=>by
   have:k≠j:=λe=>q (by rw [e];simp [c]);rw [Qm1 this];exact hun j (by simp [c])) hok.2.1 ω
  have w:=Hz l b f x.right ⟨t_ (s.seen.set k true) A,s.pR+1+a.size,s.bad⟩ B h5 u (λj c=>by
   have:k≠j:=λe=>q (by rw [e];simp [c]);rw [CH A _ j (λh=>d j h j c rfl),Qm1 this];exact hun j (by simp [c])) hok.2.2 ω
  have m:¬((k:Int)=-2):=ω
  have o:¬((k:Int)=-1):=ω
  have p:¬((k:Int)<0):=ω
  have y:jq l (f+1) (k:Int) s=(.node x.ln (jq l f x.left ⟨s.seen.set k true,s.pR+1,s.bad⟩).1 (jq l f x.right (jq l f x.left ⟨s.seen.set k true,s.pR+1,s.bad⟩).2).1,(jq l f x.right (jq l f x.left ⟨s.seen.set k true,s.pR+1,s.bad⟩).2).2):=by
   rw [jq];rw [Ã m,Ã o,Ã p];simp only [Ý,h2,(hun k ψ),hok.1,Ï]
  grind [t_,Tr.size]
def Ek (l:List Nd)(root:Int):Option Tr:=
 if 65536<l.length then none else
 let r:=jq l (l.length+1) root ⟨List.replicate l.length false,0,false⟩
 if r.2.bad=true\/r.2.pR≠l.length then none else some r.1
theorem W5 {l:pz Nd}{n:Int}{t:Tr}{I:pz Nat}(h:Rep l n t I)(hn:I.Nodup)(hI:∀k∈I,k<l.length)(hs:t.size=l.length)(hok:t.dV λx=>bX x=true)(hl:l.length<=65536):Ek l n=some t:=by unfold Ek;rw [Ã ω];rw [Hz l t (l.length+1) n _ I h hn (λk a=>by simp [hI k a]) hok ω];simp [hs]
theorem MD {t:Tr}(hok:t.dV λx=>bX x=true)(hl:t.size<=65536:=by omega):Ek (wr 0 t) (rt 0 t)=some t:=by have h:=MS t (wr 0 t) [] [] 0 ψ rfl;grind [W5,fw]
theorem TW {l:pz Nd}{n:Int}{t:Tr}(h:Ek l n=some t):t.size<=65536:=by unfold Ek at h;split at h;{cases h};{dsimp only at h;split at h;{cases h};{rename_i a b;cases h;have:=Cv l (l.length+1) n ⟨List.replicate l.length false,0,false⟩;grind}}
theorem Lx (a:Addr)(i j:Nat):(a.add i).add j=a.add (i+j):=by grind [Addr.add]
theorem zI {b:Nat}{xs:pz un}{ty:TypeId}{m:Nat×Nat}(h:V.bg b (.cells xs.toArray ty m))(i:Nat)(hv:xs[i]?=some v):∃a,ae (some ⟨b,0,none⟩) i=some a/\V.at a v:=
 ⟨⟨b,i,none⟩,by simp [ae,add_zero'],dL h hv⟩
theorem J3 {c:Int}:El (decide (a<0)) (ah a.natAbs) (decide (b<0)) (ah b.natAbs) (decide (c<0)) (ah c.natAbs)=bX (a,b,c):=by have d:∀z:Int,pM (decide (z<0)) (ah z.natAbs)=true:=by{intro z;unfold pM;grind [af,bR.1]};have f:fE (fE (a:Rat) (b:Rat)) (c:Rat)=((cq a b c:Nat):Int):=by{have e:∀x y:Int,fE (x:Rat) (y:Rat)=((Nat.gcd x.natAbs y.natAbs:Nat):Int):=by{intro x y;unfold fE;have g:((x:Rat)).num=x:=rfl;have h:((y:Rat)).num=y:=rfl;have i:((x:Rat)).den=1:=rfl;have j:((y:Rat)).den=1:=rfl;rw [g,h,i,j];simp only [Ē];exact Qh5 _};rw [e,e];rfl};unfold El bX;rw [d,d,d,aL,aL,aL,f];have k:∀z:Int,((z:Rat)=0)↔z=0:=λz=>by{exact Rat.intCast_eq_zero_iff};simp only [Bool.true_and,k];rw [Ģ];simp only [ċ,Ĥ,Bool.and_eq_false_iff,Ò,Ñ];have l:(((cq a b c:Nat):Int):Rat)=((1:Int):Rat)↔cq a b c=1:=by{rw [Qd7];omega};grind
theorem HX {z:Int}(h:z.natAbs<2^k)(hk:0<k:=by omega):Sz k (z:Rat):=⟨h,Qf0 ω⟩
theorem Bd.ah (h:Bd x):(ah x.1.natAbs).length<=1000/\(ah x.2.1.natAbs).length<=1000/\(ah x.2.2.natAbs).length<=1000:=⟨ag h.1,ag h.2.1,ag h.2.2⟩
theorem Bd.sz (h:Bd x):Sz 1000 (x.1:Rat)/\Sz 1000 (x.2.1:Rat)/\Sz 1000 (x.2.2:Rat):=⟨HX h.1,HX h.2.1,HX h.2.2⟩
theorem I4 (h:RL V v x.1 x.2.1 x.2.2)(hb:Bd x):À 37 #[v] V λr V'=>∃w,r=tN #[w,dB (bX x)]/\Vy w/\(bX x=true->AW V' w x.1 x.2.1 x.2.2):=by obtain ⟨p,n,s,f,g,s',q,m,e,rfl,b,c,d⟩:=h;obtain ⟨d1,d2,d3⟩:=hb.ah;obtain ⟨s1,s2,s3⟩:=hb.sz;have a:=tD (V:=V) (decide (x.1<0)) (decide (x.2.1<0)) (decide (x.2.2<0)) b c d ω ω ω (k:=1000) (by rw [aL];exact s1) (by rw [aL];exact s2) (by rw [aL];exact s3);rw [J3,aL,aL,aL] at a;exact a
theorem XM (x y u w:Int):pI (x:Rat) (y:Rat) ((x:Rat)+((1:Int):Rat)*(u:Rat)) ((y:Rat)+((1:Int):Rat)*(w:Rat))=(((-w:Int):Rat),((u:Int):Rat),((w*x-u*y:Int):Rat)):=by have a:(x:Rat)+((1:Int):Rat)*(u:Rat)=((x+u:Int):Rat):=by{rw [<-Qf5,<-Qs8,Wz6]};have b:(y:Rat)+((1:Int):Rat)*(w:Rat)=((y+w:Int):Rat):=by{rw [<-Qf5,<-Qs8,Wz6]};rw [a,b];have c:-(((y+w:Int):Rat)-(y:Rat))=((-w:Int):Rat):=by{rw [<-Wj2,<-Qh2];congr 1;omega};have d:((x+u:Int):Rat)-(x:Rat)=((u:Int):Rat):=by{rw [<-Wj2];congr 1;omega};have e:-(((-w:Int):Rat)*(x:Rat)+((u:Int):Rat)*(y:Rat))=((w*x-u*y:Int):Rat):=χ;have f:(((((-w:Int):Rat).den*((u:Int):Rat).den*((w*x-u*y:Int):Rat).den:Nat):Int):Rat)=1:=rfl;unfold pI;grind
def B_ (a b c:Int):L3:=(a/(cq a b c:Int),b/(cq a b c:Int),c/(cq a b c:Int))
def small (z:Int)(k:Nat):Bool:=decide (z.natAbs<=k)
theorem Tv:∀i:Fin 9,∀j:Fin 9,∀k:Fin 65,(i.1=4/\j.1=4)\/(bX (B_ ((i.1:Int)-4) ((j.1:Int)-4) ((k.1:Int)-32))&&small (B_ ((i.1:Int)-4) ((j.1:Int)-4) ((k.1:Int)-32)).1 32&&small (B_ ((i.1:Int)-4) ((j.1:Int)-4) ((k.1:Int)-32)).2.1 32&&small (B_ ((i.1:Int)-4) ((j.1:Int)-4) ((k.1:Int)-32)).2.2 32)=true:=ξ
theorem Zr (k:Nat)(hk:6<=k){z:Int}(h:z.natAbs<=32):z.natAbs<2^k:=Ń h (ĳ (by decide:32<2^6) (Į φ hk))
theorem bd32' (k:Nat)(hk:6<=k)(h1:x.1.natAbs<=32)(h2:x.2.1.natAbs<=32)(h3:x.2.2.natAbs<=32):x.1.natAbs<2^k/\x.2.1.natAbs<2^k/\x.2.2.natAbs<2^k:=⟨Zr k hk h1,Zr k hk h2,Zr k hk h3⟩
theorem WU {a b c:Int}(h1:-4<=a/\a<=4)(h2:-4<=b/\b<=4)(h3:-32<=c/\c<=32)(h:¬(a=0/\b=0):=by omega):bX (B_ a b c)=true/\Bd (B_ a b c):=by have:=Tv ⟨(a+4).toNat,ω⟩ ⟨(b+4).toNat,ω⟩ ⟨(c+32).toNat,ω⟩;dsimp only at this;rw [show (((a+4).toNat:Nat):Int)-4=a from ω,show (((b+4).toNat:Nat):Int)-4=b from ω,show (((c+32).toNat:Nat):Int)-32=c from ω] at this;rcases this with h'|h';{omega};{simp only [ċ,small,Ñ] at h';exact ⟨h'.1.1.1,bd32' 1000 φ h'.1.1.2 h'.1.2 h'.2⟩}
theorem TF {x y:Int}(h1:-4<=x/\x<=4)(h2:-4<=y/\y<=4):-16<=x*y/\x*y<=16:=by have:(x*y).natAbs<=4*4:=by{rw [ļ];exact Qg3 ω ω};omega
theorem num_mul {r:Rat}{f:Nat}(hf:f≠0)(h:r*((f:Nat):Int)=(a:Rat)):r.num*f=a*r.den:=by rw [<-Qt7 r,<-Qh5 f,<-Qh5 a,Wx0,Wk1 (by simpa using r.den_nz) ω] at h;simpa using h
theorem BN {r s:Rat}{f:Nat}(hf:f≠0)(hr:r*((f:Nat):Int)=(a:Rat))(hs:s*((f:Nat):Int)=(b:Rat)):fE r s*((f:Nat):Int)=(((Nat.gcd a.natAbs b.natAbs:Nat):Int):Rat):=by have c:r.num.natAbs*f=a.natAbs*r.den:=by{have:=Æ Int.natAbs (num_mul hf hr);rwa [ļ,ļ,Ğ,Ğ] at this};have d:s.num.natAbs*f=b.natAbs*s.den:=by{have:=Æ Int.natAbs (num_mul hf hs);rwa [ļ,ļ,Ğ,Ğ] at this};have e:Nat.gcd (r.num.natAbs*s.den) (s.num.natAbs*r.den)*f=Nat.gcd a.natAbs b.natAbs*(r.den*s.den):=by{rw [<-Nat.gcd_mul_right,<-Nat.gcd_mul_right];congr 1;{rw [Nat.mul_right_comm,c,Ŀ]};{rw [Nat.mul_right_comm,d,Ŀ,Ķ s.den]}};unfold fE;rw [<-Qh5 ((f:Nat):Int),Wx0,<-Qh5 (((Nat.gcd a.natAbs b.natAbs:Nat):Int)),Wk1 (by simpa using Ő r.den_nz s.den_nz) ω];have:=Æ (Nat.cast (R:=Int)) e;simpa using this
theorem qE (q:Rat)(m:Nat):q*(((q.den*m:Nat):Int):Rat)=((q.num*m:Int):Rat):=by have e:q*(((q.den:Nat):Int):Rat)=((q.num:Int):Rat):=by{have h:=q.den_nz;have a:mkRat q.num q.den*mkRat ((q.den:Nat):Int) 1=mkRat q.num 1:=by{grind [Rat.mkRat_mul_mkRat,Rat.mkRat_eq_iff]};grind [Rat.mkRat_self,Rat.mkRat_one]};rw [ŗ,Qf5,<-Rat.mul_assoc,e,<-Qf5]
theorem Hj {g:Nat}(hg:g≠0)(h:(g:Int)∣a):((a/(g:Int):Int):Rat)=(a:Rat)/((g:Int):Rat):=by obtain ⟨k,rfl⟩:=h;have b:((g:Int):Rat)≠0:=by{exact_mod_cast hg};rw [Qh1 _ ω,Qf5,Rat.div_def,Rat.mul_comm ((g:Int):Rat),Rat.mul_assoc,Qn8 _ b,Rat.mul_one]
def Cg (a b c:Rat):L3:=
 let f:Nat:=a.den*b.den*c.den
 B_ (a*((f:Int):Rat)).num (b*((f:Int):Rat)).num (c*((f:Int):Rat)).num
theorem rI {a b c:Rat}(h:¬(a=0/\b=0)):let g:=fE (fE a b) c
  g≠0/\a*g⁻¹=((Cg a b c).1:Rat)/\b*g⁻¹=((Cg a b c).2.1:Rat)/\c*g⁻¹=((Cg a b c).2.2:Rat):=by intro g;have m:=Ő (Ő a.den_nz b.den_nz) c.den_nz;have i:a*(((a.den*b.den*c.den:Nat):Int):Rat)=((a.num*(b.den*c.den:Nat):Int):Rat):=by{rw [Ŀ,qE]};have j:b*(((a.den*b.den*c.den:Nat):Int):Rat)=((b.num*(a.den*c.den:Nat):Int):Rat):=by{rw [Ķ a.den,Ŀ,qE]};have k:c*(((a.den*b.den*c.den:Nat):Int):Rat)=((c.num*(a.den*b.den:Nat):Int):Rat):=by{rw [Ķ (a.den*b.den),qE]};have hm:Cg a b c=B_ (a.num*(b.den*c.den:Nat)) (b.num*(a.den*c.den:Nat)) (c.num*(a.den*b.den:Nat)):=by{unfold Cg;dsimp only;rw [i,j,k,Qf6,Qf6,Qf6]};have d:=BN m (BN m i j) k;rw [hm];have s:a.num*(b.den*c.den:Nat)=0↔a=0:=by{grind [Int.mul_eq_zero,Rat.num_eq_zero]};have t:b.num*(a.den*c.den:Nat)=0↔b=0:=by{grind [Int.mul_eq_zero,Rat.num_eq_zero]};generalize a.num*(b.den*c.den:Nat)=A at *;generalize b.num*(a.den*c.den:Nat)=B at *;generalize c.num*(a.den*b.den:Nat)=C at *;generalize a.den*b.den*c.den=f at *;have n:Nat.gcd (((Nat.gcd A.natAbs B.natAbs:Nat):Int)).natAbs C.natAbs=cq A B C:=by{unfold cq;rw [Ğ]};rw [n] at d;change g*((f:Int):Rat)=_ at d;have o:cq A B C≠0:=by{intro e;have:=Qr5.1 e;grind};have l:((cq A B C:Int):Rat)≠0:=by{exact_mod_cast o};have p:g≠0:=by{intro e;rw [e,Rat.zero_mul] at d;exact l d.symm};have q:((cq A B C:Nat):Int)∣A:=Qp6.1 (by rw [Ğ];exact Qs7 (ľ _ _) (ľ _ _));have r:((cq A B C:Nat):Int)∣B:=Qp6.1 (by rw [Ğ];exact Qs7 (ľ _ _) (ś _ _));have dC:((cq A B C:Nat):Int)∣C:=Qp6.1 (by rw [Ğ];exact ś _ _);have key:∀{x:Rat} {X:Int},x*((f:Int):Rat)=(X:Rat)->((cq A B C:Nat):Int)∣X->x*g⁻¹=((X/(cq A B C:Int):Int):Rat):=by{grind [Hj]};exact ⟨p,key i q,key j r,key k dC⟩
theorem WZ {a b c:Rat}(h:¬(a=0/\b=0)):¬((Cg a b c).1=0/\(Cg a b c).2.1=0):=by obtain ⟨i,d,e,-⟩:=rI (c:=c) h;rintro ⟨f,g⟩;rw [f] at d;rw [g] at e;grind
theorem wG {c:Int}(h:RL V v a b c):∃(b1:md)(p1:OA)(n1 c1:Nat)(b2:md)(p2:OA)(n2 c2:Nat)(b3:md)(p3:OA)(n3 c3:Nat),v=hF #[dB b1,zF p1 n1 c1,dB b2,zF p2 n2 c2,dB b3,zF p3 n3 c3]:=by obtain ⟨p,n,s,d,f,s',q,m,e,rfl,-⟩:=h;exact qxW rfl
def Lu (V:Ó)(p:OA)(n:Nat):Prop:=∀i,i<n->∃(a:Addr)(x:Int),ae p (i*1)=some a/\V.at a (.int .i64 x)
theorem Lu.le {V V':ut}(h:Lu V p n)(l:V.Le V'):Lu V' p n:=λi b=>by
 have ⟨a,x,e,c⟩:=h i b;exact ⟨a,x,e,l.at c⟩
def kt (V:Ó)(tb:Nat)(p:OA)(n c:Nat)(at_:Int):Prop:=V.w.heap[tb]?=some (.cells #[.slice p n c,.int .i64 at_] 77 (0,0))
theorem gI {V:ut}(k:Int)(hr:Lu V p n)(hn:n<=400)(hw:kt V tb p n c at_)(hx:V.X tb)(h0:0<=at_)(hk:0<k)(hk2:k<=1000:=by omega):À 9 #[dS (some ⟨tb,0,none⟩),Ô .i64 k] V λr V'=>∃x at',r=Ô .i64 x/\0<=x/\x<k/\0<=at'/\kt V' tb p n c at':=by refine ur tb p n c at_ k V _ hw hx ⟨λg m o e=>⟨0,at_,rfl,ω,hk,h0,e⟩,λg=>?_⟩;have g:at_<n:=by{have:=Â g;omega};obtain ⟨i,rfl⟩:∃i:Nat,at_=i:=⟨at_.toNat,ω⟩;have ⟨a,x,d,f⟩:=hr i ω;have h:p.isSome=true:=by{(cases p with|none=>simp [ae] at d|some a=>rfl)};have q:(x.tmod k).natAbs<k.natAbs:=by{rw [Int.natAbs_tmod];exact Ė _ ω};have j:i64.wrap ((i:Int)+1)=((i+1:Nat):Int):=by{rw [au ω];omega};rw [Ý,j];have l:i64.wrap (x.tmod k+k)=x.tmod k+k:=au ω;refine ⟨h,⟨ω,ω⟩,x,⟨a,d,f⟩,ω,λb V2 s e=>⟨x.tmod k+k,_,by rw [l],?_,?_,?_,e⟩,λb t u e=>⟨_,_,rfl,?_,?_,?_,e⟩⟩;{omega};{have:=Á b;omega};{omega};{have:=Â b;omega};{omega};{omega}
theorem c_P {V:ut}(hr:Lu V p n)(hn:n<=400)(hw:kt V tb p n c at_)(hx:V.X tb)(h0:0<=at_):À 29 #[dS (some ⟨tb,0,none⟩)] V λr V'=>∃(x y at':Int),RP V' r (x:Rat) (y:Rat)/\(-4<=x/\x<=4)/\(-4<=y/\y<=4)/\0<=at'/\kt V' tb p n c at':=by refine Ai tb p n c at_ V _ hw hx λj g a k l=>(gI (V:=j.aq [a]) 9 (hr.le λb o h=>g b o h) hn k ⟨ψ,l⟩ h0 ω).s ?_;rintro r V2 m ⟨x,A,rfl,B,C,t1,d⟩;refine ⟨_,rfl,_,_,_,_,d,λq s t u v=>(gI (V:=q.aq [t]) 9 (hr.le λb o h=>s b o (m b o (g b o h))) hn u ⟨ψ,v⟩ t1 ω).s ?_⟩;rintro r D E ⟨y,e,rfl,F,G,t2,f⟩;refine ⟨_,rfl,_,_,_,_,f,λH I=>?_⟩;rw [au (x:=x-4) ω,au (x:=y-4) ω];refine (dN (x-4) (y-4) ω ω ω).s ?_;rintro r J K i;obtain ⟨L,M,N,O,P,Q,R,S,T,U,W,Y,rfl,-⟩:=id i;exact qyK ⟨rfl,λZ w z=>⟨x-4,y-4,e,i.le w,⟨ω,ω⟩,⟨ω,ω⟩,t2,z⟩⟩
theorem RQ.zero {V:ut}:RQ V (hF #[dB false,zF none 0 0,zF none 0 0]) ((0:Int):Rat):=⟨none,0,0,none,0,0,rfl,RD.nil,RD.nil⟩
theorem RP.zero {V:ut}:RP V (hF #[dB false,zF none 0 0,zF none 0 0,dB false,zF none 0 0,zF none 0 0]) ((0:Int):Rat) ((0:Int):Rat):=
 ⟨none,0,0,none,0,0,none,0,0,none,0,0,rfl,RQ.zero,RQ.zero⟩
theorem Gm {z:Int}(h:-40<=z/\z<=40:=by omega):Sz 10 (z:Rat):=HX ω
theorem c_V {V:ut}(hr:Lu V p n)(hn:n<=400)(hw:kt V tb p n c at_)(hx:V.X tb)(h0:0<=at_):À 33 #[dS (some ⟨tb,0,none⟩)] V λr V'=>∃(x y at':Int),RP V' r (x:Rat) (y:Rat)/\(-4<=x/\x<=4)/\(-4<=y/\y<=4)/\¬(x=0/\y=0)/\0<=at'/\kt V' tb p n c at':=by refine Aj tb p n c at_ V _ hw hx λm q a s t=>(c_P (V:=m.aq [a]) (hr.le λb o h=>q b o h) hn s ⟨ψ,t⟩ h0).s ?_;rintro r V2 N ⟨x,y,j,d,e,f,t1,i⟩;obtain ⟨u,v,w,z,A,B,C,D,E,F,G,H,rfl,-⟩:=id d;refine qyK ⟨rfl,_,_,_,_,i,λO k=>(oF (d.le λb o h=>k b o h) RP.zero (Gm) (Gm) (Gm) (Gm)).s ?_⟩;rintro r P I rfl;refine ⟨_,rfl,λg Q R=>(dN 1 0 ω ω ω).s ?_,λg S J K=>⟨x,y,j,d.le λb o h=>J b o (I b o (k b o h)),e,f,?_,t1,K⟩⟩;{rintro r T U l;obtain ⟨u,v,w,z,A,B,C,D,E,F,G,H,rfl,-⟩:=id l;exact qyK ⟨rfl,λW L M=>⟨1,0,j,l.le L,⟨ω,ω⟩,⟨ω,ω⟩,ω,t1,M⟩⟩};{rintro ⟨rfl,rfl⟩;simp at g}
theorem c_L {V:ut}(hr:Lu V p n)(hn:n<=400)(hw:kt V tb p n c at_)(hx:V.X tb)(h0:0<=at_):À 7 #[dS (some ⟨tb,0,none⟩)] V λr V'=>∃(x:L3)(at':Int),RL V' r x.1 x.2.1 x.2.2/\bX x=true/\Bd x/\0<=at'/\kt V' tb p n c at':=by refine Ah tb p n c at_ V _ hw hx λS F f T U=>(c_P (V:=S.aq [f]) (hr.le λb o h=>F b o h) hn T ⟨ψ,U⟩ h0).s ?_;rintro r V2 W ⟨x,y,IM,g,i,j,t1,q⟩;obtain ⟨p1,G,c1,p2,H,c2,p3,I,c3,p4,n4,c4,rfl,-⟩:=id g;refine qyK ⟨rfl,_,_,_,_,q,λV3 J=>(dW 1 ω).s ?_⟩;rintro r Y K L;obtain ⟨p5,n5,c5,p6,n6,c6,rfl⟩:=L.shape;refine qyZ ⟨rfl,λZ s d e5 h5=>(c_V (V:=Z.aq [d]) (hr.le λb o h=>s b o (K b o (J b o (W b o (F b o h))))) hn e5 ⟨ψ,h5⟩ t1).s ?_⟩;rintro r V6 M ⟨u,w,t,N,v,e,a0,t2,z⟩;obtain ⟨q1,m1,d1,q2,m2,d2,q3,m3,d3,q4,m4,d4,rfl,-⟩:=id N;refine qyK ⟨rfl,_,_,_,_,z,λA B=>?_⟩;have O:V2.Le A:=λb o h=>B b o (M b o (s b o (K b o (J b o h))));have C:Y.Le A:=λb o h=>B b o (M b o (s b o h));have D:V6.Le A:=λb o h=>B b o h;refine (fL (g.le O) (L.le C) (N.le D) (k:=10) (m:=10) (Gm) (Gm) (Gm) (Gm) (Gm)).s ?_;rintro r V8 l8 P;obtain ⟨s1,i1,j1,s2,i2,j2,s3,i3,j3,s4,i4,j4,rfl,-⟩:=id P;have f1:(x:Rat)+((1:Int):Rat)*(u:Rat)=((x+u:Int):Rat):=by{rw [<-Qf5,<-Qs8,Wz6]};have f2:(y:Rat)+((1:Int):Rat)*(w:Rat)=((y+w:Int):Rat):=by{rw [<-Qf5,<-Qs8,Wz6]};refine qyK ⟨rfl,λV9 Q=>(ka (g.le (O.m (l8.m Q))) (P.le Q) (k:=10) (Gm) (Gm) (by rw [f1];exact Gm) (by rw [f2];exact Gm) ω).s ?_⟩;rintro r fW a1 ⟨-,h⟩;rw [XM] at h;have G:((-w:Int):Rat).num=-w:=rfl;have H:((u:Int):Rat).num=u:=rfl;have I:((w*x-u*y:Int):Rat).num=w*x-u*y:=rfl;dsimp only at h;rw [G,H,I] at h;obtain ⟨l,rfl,R⟩:=h ω;have m1:=TF e i;have m2:=TF v j;have ⟨k1,k2⟩:=WU (a:=-w) (b:=u) (c:=w*x-u*y) ω ω ω;obtain ⟨b1,u1,v1,w1,b2,u2,v2,w2,b3,u3,v3,w3,rfl⟩:=(wG R);exact ⟨_,_,_,_,_,_,_,_,_,_,_,_,_,rfl,λfk bw E=>⟨B_ (-w) u (w*x-u*y),t,R.le bw,k1,k2,t2,E⟩⟩
theorem GV {l p:un}{cH l_1 eZ:Int}{kI kJ:Rat}(hl:RL V l cH l_1 eZ)(hp:RP V p kI kJ)(s0:Sz k ((cH:Int):Rat))(s1:Sz k ((l_1:Int):Rat))(s2:Sz k ((eZ:Int):Rat))(s3:Sz k kI)(s4:Sz k kJ)(hk:16*k+16<2^38):À 106 #[l,p] V λr V'=>r=Ô .i64 ((cH:Rat)*kI+(l_1:Rat)*kJ+(eZ:Rat)).num.sign:=by have a:=hl;have b:=hp;obtain ⟨d,e,f,g,h,i,j,m,n,rfl,-,-,-⟩:=hl;obtain ⟨o,q,s,t,u,v,w,x,y,z,A,B,rfl,-,-⟩:=hp;refine ER V _ λE c=>(jF (a.le c) (b.le c) s0 s1 s2 s3 s4).s ?_;rintro r V2 F ⟨G,H,I,J,K,L,rfl,C,M⟩;refine qyZ ⟨rfl,λN D=>(rj _ (C.le D)).s ?_⟩;rintro r O P rfl;exact ⟨_,rfl,λQ R=>rfl⟩
theorem jQ {l:un}{a b c:Int}(hl:RL V l a b c):À 10 #[l] V λr V'=>RL V' r (-a) (-b) (-c):=by obtain ⟨k,m,n,o,p,q,s,t,u,rfl,v,w,x⟩:=hl;refine Im V _ λB d=>(jP a (v.le d)).s ?_;rintro r V2 h ⟨C,D,E,rfl,y⟩;refine qyQ ⟨rfl,λF e=>(jP b (w.le (d.m (h.m e)))).s ?_⟩;rintro r G i ⟨H,I,J,rfl,z⟩;refine qyQ ⟨rfl,λK f=>(jP c (x.le (d.m (h.m (e.m (i.m f)))))).s ?_⟩;rintro r L j ⟨M,N,O,rfl,A⟩;exact qyQ ⟨rfl,λP g=>⟨_,_,_,_,_,_,_,_,_,rfl,y.le (e.m (i.m (f.m (j.m g)))),z.le (f.m (j.m g)),A.le g⟩⟩
end Go.Proofs.Tryz
namespace Go.Eng
def RR.zero (V:ut):RR V (hF #[Ô .i64 0,Ô .i64 0,dS none]) 0:=.inl ⟨rfl,by unfold Wd;decide⟩
end Go.Eng
namespace Go.Proofs.Tryz
structure Sp where
 lo:Rat
 hi:Rat
 a:Bool
 b:Bool
def Sp.can (s:Sp):Prop:=(s.a=true->s.lo=0)/\(s.b=true->s.hi=0)
def Sp.sz (k:Nat)(s:Sp):Prop:=Sz k s.lo/\Sz k s.hi
def Sp.zero:Sp:=⟨0,0,false,false⟩
variable{v:Value}{l:L3}{V:Ó}
def iH (k:Nat)(l:L3):Prop:=Sz k (l.1:Rat)/\Sz k (l.2.1:Rat)/\Sz k (l.2.2:Rat)
def eM (V:Ó)(v:Value)(s:Sp):Prop:=∃(x1 x2:Int)(p:OA)(y1 y2:Int)(q:OA),v=.agg #[.int .i64 x1,.int .i64 x2,.pointer p,.int .i64 y1,.int .i64 y2,.pointer q,.bool s.a,.bool s.b] /\
 RR V (.agg #[.int .i64 x1,.int .i64 x2,.pointer p]) s.lo/\RR V (.agg #[.int .i64 y1,.int .i64 y2,.pointer q]) s.hi
theorem eM.le {V V':ut}{s:Sp}(h:eM V v s)(l:V.Le V'):eM V' v s:=by obtain ⟨a,b,p,c,d,q,e,f,g⟩:=h;exact ⟨a,b,p,c,d,q,e,f.le l,g.le l⟩
def uw (V:Ó)(v:Value)(l:L3):Prop:=AW V v (l.1:Rat) (l.2.1:Rat) (l.2.2:Rat)
theorem uw.le {V V':ut}(h:uw V v l)(e:V.Le V'):uw V' v l:=AW.le h e
def uB (V:Ó)(v:Value)(l:L3)(s:Sp):Prop:=∃(x1 x2:Int)(p:OA)(y1 y2:Int)(q:OA)(z1 z2:Int)(r:OA)(u1 u2:Int)(t:OA)(w1 w2:Int)(o:OA),
 v=.agg #[.int .i64 x1,.int .i64 x2,.pointer p,.int .i64 y1,.int .i64 y2,.pointer q,.int .i64 z1,.int .i64 z2,.pointer r,.int .i64 u1,.int .i64 u2,.pointer t,.int .i64 w1,.int .i64 w2,.pointer o,.bool s.a,.bool s.b] /\
 uw V (.agg #[.int .i64 x1,.int .i64 x2,.pointer p,.int .i64 y1,.int .i64 y2,.pointer q,.int .i64 z1,.int .i64 z2,.pointer r]) l /\
 eM V (.agg #[.int .i64 u1,.int .i64 u2,.pointer t,.int .i64 w1,.int .i64 w2,.pointer o,.bool s.a,.bool s.b]) s
theorem uB.le {V V':ut}{s:Sp}(h:uB V v l s)(e:V.Le V'):uB V' v l s:=by obtain ⟨a,b,p,c,d,q,f,g,r,i,j,t,k,m,o,rfl,n,u⟩:=h;exact ⟨a,b,p,c,d,q,f,g,r,i,j,t,k,m,o,rfl,n.le e,u.le e⟩
def O5 (V:Ó)(v:Value)(b:Bool)(xs ys:List Nat):Prop:=∃p n c p' n' c',v=.agg #[.bool b,.slice p n c,.slice p' n' c']/\RD V p n c xs/\RD V p' n' c' ys
theorem O5.le {V V':ut}{b:md}{xs ys:pz Nat}(h:O5 V v b xs ys)(l:V.Le V'):O5 V' v b xs ys:=by obtain ⟨p,n,c,a,d,f,e,g,i⟩:=h;exact ⟨p,n,c,a,d,f,e,g.le l,i.le l⟩
theorem O5.nil:O5 V (hF #[dB false,zF none 0 0,zF none 0 0]) false [] []:=qyW ⟨rfl,RD.nil,RD.nil⟩
def RE (V:Ó)(v:Value)(q:Rat)(no:Bool):Prop:=(no=true->O5 V v false [] [])/\(no=false->RA V v q)
theorem RE.le {V V':ut}{q:Rat}{no:md}(h:RE V v q no)(l:V.Le V'):RE V' v q no:=⟨λe=>(h.1 e).le l,λe=>(h.2 e).le l⟩
def X_ (V:Ó)(v:Value)(s:Sp):Prop:=∃b p n c p' n' c' d q m e q' m' e',v=.agg #[.bool b,.slice p n c,.slice p' n' c',.bool d,.slice q m e,.slice q' m' e',.bool s.a,.bool s.b] /\
 RE V (.agg #[.bool b,.slice p n c,.slice p' n' c']) s.lo s.a/\RE V (.agg #[.bool d,.slice q m e,.slice q' m' e']) s.hi s.b
theorem X_.le {V V':ut}{s:Sp}(h:X_ V v s)(l:V.Le V'):X_ V' v s:=by obtain ⟨b,p,n,c,g,i,j,d,q,m,e,k,o,r,rfl,a,f⟩:=h;exact qyK ⟨rfl,a.le l,f.le l⟩
def O4 (V:Ó)(v:Value)(l:L3)(s:Sp):Prop:=∃b1 p1 n1 c1 b2 p2 n2 c2 b3 p3 n3 c3 b p n c p' n' c' d q m e q' m' e',
 v=.agg #[.bool b1,.slice p1 n1 c1,.bool b2,.slice p2 n2 c2,.bool b3,.slice p3 n3 c3,.bool b,.slice p n c,.slice p' n' c',.bool d,.slice q m e,.slice q' m' e',.bool s.a,.bool s.b] /\
 RL V (.agg #[.bool b1,.slice p1 n1 c1,.bool b2,.slice p2 n2 c2,.bool b3,.slice p3 n3 c3]) l.1 l.2.1 l.2.2/\X_ V (.agg #[.bool b,.slice p n c,.slice p' n' c',.bool d,.slice q m e,.slice q' m' e',.bool s.a,.bool s.b]) s
theorem O4.le {V V':ut}{s:Sp}(h:O4 V v l s)(e:V.Le V'):O4 V' v l s:=by obtain ⟨i,j,k,o,r,t,u,w,x,y,z,A,b,p,n,c,B,C,D,d,q,m,f,E,F,G,rfl,a,g⟩:=h;exact ⟨_,_,_,_,_,_,_,_,_,_,_,_,_,_,_,_,_,_,_,_,_,_,_,_,_,_,rfl,a.le e,g.le e⟩
def pU (V:Ó)(v:Value)(s:Sp):Prop:=∃b p n c p' n' c' d q m e q' m' e',v=.agg #[.bool b,.slice p n c,.slice p' n' c',.bool d,.slice q m e,.slice q' m' e',.bool s.a,.bool s.b] /\
 RQ V (.agg #[.bool b,.slice p n c,.slice p' n' c']) s.lo/\RQ V (.agg #[.bool d,.slice q m e,.slice q' m' e']) s.hi
theorem pU.le {V V':ut}{s:Sp}(h:pU V v s)(l:V.Le V'):pU V' v s:=by obtain ⟨b,p,n,c,g,i,j,d,q,m,e,k,o,r,rfl,a,f⟩:=h;exact qyK ⟨rfl,a.le l,f.le l⟩
def RF (V:Ó)(v:Value)(l:L3)(s:Sp):Prop:=∃b1 p1 n1 c1 b2 p2 n2 c2 b3 p3 n3 c3 b p n c p' n' c' d q m e q' m' e',
 v=.agg #[.bool b1,.slice p1 n1 c1,.bool b2,.slice p2 n2 c2,.bool b3,.slice p3 n3 c3,.bool b,.slice p n c,.slice p' n' c',.bool d,.slice q m e,.slice q' m' e',.bool s.a,.bool s.b] /\
 RL V (.agg #[.bool b1,.slice p1 n1 c1,.bool b2,.slice p2 n2 c2,.bool b3,.slice p3 n3 c3]) l.1 l.2.1 l.2.2/\pU V (.agg #[.bool b,.slice p n c,.slice p' n' c',.bool d,.slice q m e,.slice q' m' e',.bool s.a,.bool s.b]) s
theorem RF.le {V V':ut}{s:Sp}(h:RF V v l s)(e:V.Le V'):RF V' v l s:=by obtain ⟨i,j,k,o,r,t,u,w,x,y,z,A,b,p,n,c,B,C,D,d,q,m,f,E,F,G,rfl,a,g⟩:=h;exact ⟨_,_,_,_,_,_,_,_,_,_,_,_,_,_,_,_,_,_,_,_,_,_,_,_,_,_,rfl,a.le e,g.le e⟩
theorem CD {a b c:Int}(h:RL V v a b c):∃b1 p1 n1 c1 b2 p2 n2 c2 b3 p3 n3 c3,v=hF #[dB b1,zF p1 n1 c1,dB b2,zF p2 n2 c2,dB b3,zF p3 n3 c3]:=by obtain ⟨_,_,_,_,_,_,_,_,_,e,-⟩:=h;exact qxW e
theorem vJ {x y:Rat}(h:RP V v x y):∃b1 p1 n1 c1 p2 n2 c2 b3 p3 n3 c3 p4 n4 c4,v=hF #[dB b1,zF p1 n1 c1,zF p2 n2 c2,dB b3,zF p3 n3 c3,zF p4 n4 c4]:=by obtain ⟨_,_,_,_,_,_,_,_,_,_,_,_,e,-⟩:=h;exact qyK e
def ar (l:L3)(x y:Rat):Rat:=(l.1:Rat)*x+(l.2.1:Rat)*y+(l.2.2:Rat)
def fR (l:L3):Rat:=(l.1:Rat)*(l.1:Rat)+(l.2.1:Rat)*(l.2.1:Rat)
def lG (l:L3)(x y:Rat):Rat:=((l.2.1:Rat)*x-(l.1:Rat)*y)*(fR l)⁻¹
def cT (l:L3)(t:Rat):Rat:=(l.2.1:Rat)*t-(l.1:Rat)*(l.2.2:Rat)*(fR l)⁻¹
def cW (l:L3)(t:Rat):Rat:=-((l.1:Rat)*t)-(l.2.1:Rat)*(l.2.2:Rat)*(fR l)⁻¹
def Õ (l:L3):L3:=(-l.1,-l.2.1,-l.2.2)
def Sp.neg (s:Sp):Sp:=⟨if s.b then 0 else -s.hi,if s.a then 0 else -s.lo,s.b,s.a⟩
def Sp.emp (s:Sp):Bool:=!s.a&&!s.b&&decide (dO s.lo s.hi≥0)
variable{L l:L3}{a b c px py q qx qy x:Rat}{k:Nat}{V:Ó}{v:Value}
def Nz (l:L3):Prop:=¬(l.1=0/\l.2.1=0)
theorem sq_nonneg (x:Int):0<=x*x:=by rw [<-Int.natAbs_mul_self];exact Int.natCast_nonneg _
theorem TR (l:L3):fR l=((l.1*l.1+l.2.1*l.2.1:Int):Rat):=by unfold fR;simp
theorem Nz.norm (h:Nz l):fR l≠0:=by rw [TR];have d:=sq_nonneg l.1;have f:=sq_nonneg l.2.1;have a:l.1*l.1+l.2.1*l.2.1≠0:=by{intro e;have b:l.1*l.1=0:=ω;have c:l.2.1*l.2.1=0:=ω;exact h ⟨(Wx1.1 b).elim id id,(Wx1.1 c).elim id id⟩};exact_mod_cast a
theorem J1 (h:q≠0):q.num≠0:=λe=>h (Ŏ.1 e)
theorem OX {y:Rat}(sl:iH k L)(s1:Sz k x)(s2:Sz k y):Sz (8*k+7) (lG L x y):=by have e:lG L x y=((((L.2.1:Rat))*x+(-(L.1:Rat))*y)*(((L.2.1:Rat))*((L.2.1:Rat))+(-(L.1:Rat))*(-(L.1:Rat)))⁻¹):=by{unfold lG fR;grind};rw [e];exact yg sl.1 sl.2.1 sl.2.2 s1 s2
theorem M8 (sl:iH k L)(s1:Sz k x):Sz (20*k+19) (cT L x):=by have a:cT L x=((L.1:Rat)*((-(L.2.2:Rat))*((L.1:Rat)*(L.1:Rat)+(L.2.1:Rat)*(L.2.1:Rat))⁻¹))+((L.2.1:Rat)*x):=by{unfold cT fR;grind};rw [a];exact E6 sl.1 sl.2.1 sl.2.2 s1
theorem M9 (sl:iH k L)(s1:Sz k x):Sz (20*k+19) (cW L x):=by have a:cW L x=((L.2.1:Rat)*((-(L.2.2:Rat))*((L.1:Rat)*(L.1:Rat)+(L.2.1:Rat)*(L.2.1:Rat))⁻¹))+((-(L.1:Rat))*x):=by{unfold cW fR;grind};rw [a];exact E7 sl.1 sl.2.1 sl.2.2 s1
theorem vQ (q:Rat):q.num.sign=0↔q=0:=by rw [Qm6,Ŏ]
theorem jj {l:un}{L:L3}(hl:uw V l L)(sl:iH k L)(hk:1*k+1<2^38:=by omega):À 110 #[l] V λr V'=>uw V' r (Õ L):=by refine (wS hl sl.1 sl.2.1 sl.2.2 hk).s ?_;rintro r V2 a g;unfold uw Õ;simpa using g
theorem iH.rev (h:iH k L):iH k (Õ L):=by unfold iH Õ;exact ⟨h.1.neg,h.2.1.neg,h.2.2.neg⟩
theorem MP (h:Nz L):((((((L.2.1:Int):Rat)))*((((L.2.1:Int):Rat))))+(((-(((L.1:Int):Rat))))*((-(((L.1:Int):Rat)))))).num≠0:=by grind [fR,J1,h.norm]
theorem AH {l p:un}{y:Rat}(hl:RL V l L.1 L.2.1 L.2.2)(hp:RP V p x y)(hz:Nz L)(sl:iH k L)(s1:Sz k x)(s2:Sz k y)(hk:8*k+7<2^38:=by omega):À 100 #[l,p] V λr V'=>RQ V' r (lG L x y):=by refine (D7 hl hp (MP hz) sl.1 sl.2.1 sl.2.2 s1 s2 hk).s ?_;rintro r V2 a g;have e:lG L x y=((((x)*((((L.2.1:Int):Rat))))+((y)*((-(((L.1:Int):Rat))))))*((((((L.2.1:Int):Rat)))*((((L.2.1:Int):Rat))))+(((-(((L.1:Int):Rat))))*((-(((L.1:Int):Rat))))))⁻¹):=by{unfold lG fR;grind};rw [e];exact g
theorem r_At {l t:un}(hl:RL V l L.1 L.2.1 L.2.2)(ht:RQ V t x)(hz:Nz L)(sl:iH k L)(s1:Sz k x)(hk:18*k+16<2^38:=by omega):À 51 #[l,t] V λr V'=>RP V' r (cT L x) (cW L x):=by refine (LW hl ht (MP hz) sl.1 sl.2.1 sl.2.2 s1 hk).s ?_;rintro r V2 c g;have a:cT L x=(((-((((L.2.2:Int):Rat))*((((((L.2.1:Int):Rat)))*((((L.2.1:Int):Rat))))+(((-(((L.1:Int):Rat))))*((-(((L.1:Int):Rat))))))⁻¹))*(((L.1:Int):Rat)))+(x)*(((L.2.1:Int):Rat))):=by{unfold cT fR;grind};have b:cW L x=(((-((((L.2.2:Int):Rat))*((((((L.2.1:Int):Rat)))*((((L.2.1:Int):Rat))))+(((-(((L.1:Int):Rat))))*((-(((L.1:Int):Rat))))))⁻¹))*(((L.2.1:Int):Rat)))+(x)*(-(((L.1:Int):Rat)))):=by{unfold cW fR;grind};rw [a,b];exact g
theorem HF {l p:un}{x y:Rat}(hl:RL V l L.1 L.2.1 L.2.2)(hp:RP V p x y){k:Nat}(sl:iH k L)(s1:Sz k x)(s2:Sz k y)(hk:16*k+16<2^38:=by omega):À 106 #[l,p] V λr V'=>r=Ô .i64 (ar L x y).num.sign:=GV hl hp sl.1 sl.2.1 sl.2.2 s1 s2 hk
theorem sz_gI (sa:Sz k a)(sb:Sz k b)(sc:Sz k c):Sz (3*k+2) (fE (fE a b) c)⁻¹:=
 fA (Sz.s (mf (mf sa sb) sc))
theorem XF {k:Nat}(sa:Sz k a)(sb:Sz k b)(sc:Sz k c)(h:¬(a=0/\b=0)):iH (4*k+3) (Cg a b c):=by obtain ⟨-,e,f,g⟩:=rI (c:=c) h;have d:=sz_gI sa sb sc;unfold iH;rw [<-e,<-f,<-g];exact ⟨Sz.s (Sz.mul sa d),Sz.s (Sz.mul sb d),Sz.s (Sz.mul sc d)⟩
def mT (px py qx qy:Rat):L3:=Cg (-(qy-py)) (qx-px) (-(-(qy-py)*px+(qx-px)*py))
theorem vU (h:¬(px=qx/\py=qy)):¬(-(qy-py)=0/\qx-px=0):=by rintro ⟨a,b⟩;exact h ⟨χ,χ⟩
theorem XL:(px=qx/\py=qy)↔(-(qy-py)=0/\qx-px=0):=⟨λ⟨a,b⟩=>⟨χ,χ⟩,λ⟨a,b⟩=>⟨χ,χ⟩⟩
theorem O1 (h:¬(px=qx/\py=qy)):Nz (mT px py qx qy):=WZ (vU h)
theorem HY (s1:Sz k px)(s2:Sz k py)(s3:Sz k qx)(s4:Sz k qy)(h:¬(px=qx/\py=qy)):iH (40*k+40) (mT px py qx qy):=by have a:Sz (2*k+1) (-(qy-py)):=Sz.s (s4.sub s2).neg;have b:Sz (2*k+1) (qx-px):=Sz.s (s3.sub s1);have c:Sz (8*k+8) (-(-(qy-py)*px+(qx-px)*py)):=Sz.s ((a.mul s1).add (b.mul s2)).neg;have:=XF (k:=8*k+8) (Sz.s a) (Sz.s b) c (vU h);exact ⟨Sz.s this.1,Sz.s this.2.1,Sz.s this.2.2⟩
def MY (px py qx qy:Rat):Sp:=⟨lG (mT px py qx qy) px py,lG (mT px py qx qy) qx qy,false,false⟩
def Uo (b:Bool)(xs ys:List Nat):Rat:=mkRat (bF b xs) (val ys)
def JX (b:Bool)(xs ys:List Nat):Bool:=pM b xs&&decide (ah (val ys)=ys)&&!decide (ys=[])&&decide (Nat.gcd (val xs) (val ys)=1)
def XZ (b:Bool)(xs ys:List Nat):Bool:=!b&&decide (xs=[])&&decide (ys=[])
def SC (b:Bool)(xs ys:List Nat)(no:Bool):Rat:=if no then 0 else Uo b xs ys
def BE (b:Bool)(xs ys:List Nat)(no:Bool):Bool:=if no then XZ b xs ys else JX b xs ys
theorem Oq:JX (decide (q.num<0)) (ah q.num.natAbs) (ah q.den)=true/\Uo (decide (q.num<0)) (ah q.num.natAbs) (ah q.den)=q:=by constructor;{unfold JX;have a:pM (decide (q.num<0)) (ah q.num.natAbs)=true:=by{unfold pM;rw [af];by_cases h:q.num<0;{have:ah q.num.natAbs≠[]:=λe=>by{have:=bR.1 e;omega};simp [h,this]};{simp [h]}};have b:ah q.den≠[]:=λe=>q.den_nz (bR.1 e);rw [a,af,af];simp [b,q.reduced]};{unfold Uo;rw [aL,af,Qt7]}
theorem DZ (b:md){p q:OA}{n c m e:Nat}{xs ys:pz Nat}(hx:RD V p n c xs)(hy:RD V q m e ys)(hm:xs.length<=2^40)(hn:ys.length<=2^40):À 209 #[hF #[dB b,zF p n c,zF q m e]] V λr V'=>r=dB (JX b xs ys):=by refine C_ V _ λz a=>(f_ b (hx.le a) hm).s ?_;rintro r V2 l rfl;refine ⟨_,rfl,λh A B=>by rw [Ĥ] at h;simp [JX,h],λd C o=>(uJ (hy.le (a.m (l.m o))) hn).s ?_⟩;rw [ł] at d;rintro r D t rfl;refine ⟨_,rfl,λh E F=>by rw [Ĥ] at h;simp [JX,h],λf=>⟨λh G H=>?_,λu I v=>?_⟩⟩;{have i:=hy.len;have:ys=[]:=by{have h:((m:Nat):Int)=0:=by{simpa using h};exact ĕ.1 ω};simp [JX,this]};{rw [ł] at f;have i:=hy.len;have j:ys≠[]:=λe=>by{have h:¬((m:Nat):Int)=0:=by{simpa using u};rw [e] at i;exact h (by simp at i;omega)};have s:=a.m (l.m (o.m (t.m v)));refine (wT (hx.le s) (hy.le s) hm hn).s ?_;rintro r J K ⟨L,M,N,rfl,g⟩;have w:(ah (Nat.gcd (val xs) (val ys))).length<=2^40:=by{have d:=bo hx.gx;have f:=bo hy.gx;by_cases x:val xs=0;{rw [x,Qt4];omega};{have:Nat.gcd (val xs) (val ys)<=val xs:=Wj1 _ ω;have:=aO this;omega}};refine ⟨_,_,_,rfl,λO k=>(jg (g.le k) w).s λr P Q rfl=>⟨_,rfl,λR S=>?_⟩⟩;have y:(((dK (val (ah (Nat.gcd (val xs) (val ys)))):Nat):Int)==1)=decide (Nat.gcd (val xs) (val ys)=1):=by{rw [af,Ģ,Ë,Ñ];have gen:∀g:Nat,((dK g:Nat):Int)=1↔g=1:=λg=>by{have T:=@jB g 1;have U:=@jB g 0;omega};exact gen _};rw [y];simp [JX,d,f,j]}
theorem Fq {b:md}{xs ys:pz Nat}(no:md)(h:O5 V v b xs ys)(hm:xs.length<=2^40)(hn:ys.length<=2^40):À 168 #[v,dB no] V λr V'=>∃w,r=tN #[w,dB (BE b xs ys no)]/\RR V' w (SC b xs ys no):=by obtain ⟨p,n,c,q,m,e,rfl,d,f⟩:=h;have l:=d.len;have s:=f.len;refine Ni V _ ⟨?_,?_⟩;{rintro rfl;have z:∀V':ut,RR V' (hF #[Ô .i64 0,Ô .i64 0,dS none]) (SC b xs ys true):=λV'=>RR.zero V';refine ⟨λh=>⟨λi y A=>⟨_,?_,z _⟩,λi V2 B=>⟨_,?_,z _⟩⟩,λh C D=>⟨_,?_,z _⟩⟩;{have j:xs=[]:=by{have h:((n:Nat):Int)=0:=by{simpa using i};exact ĕ.1 ω};have t:(((m:Nat):Int)==0)=decide (ys=[]):=by{rw [Ģ,Ë,Ñ,<-ĕ];omega};rw [Ĥ] at h;simp [BE,XZ,h,j,<-t]};{have j:xs≠[]:=λe=>by{have h:¬((n:Nat):Int)=0:=by{simpa using i};rw [e] at l;exact h (by simp at l;omega)};simp [BE,XZ,j]};{rw [ł] at h;simp [BE,XZ,h]}};{rintro rfl E a;refine (LO b (d.le a) (f.le a) hm hn).s ?_;rintro r F o g;obtain ⟨_,_,_,rfl⟩:=g.shape;refine ⟨_,_,_,rfl,λG k=>(DZ b (d.le (a.m (o.m k))) (f.le (a.m (o.m k))) hm hn).s ?_⟩;rintro r H u rfl;exact ⟨_,rfl,λI x=>⟨_,rfl,g.le (k.m (u.m x))⟩⟩}
theorem Be {s:Sp}(h:eM V v s)(hs:s.sz k)(hk:2*k<2^40):À 169 #[v] V λr V'=>r=dB s.emp:=by obtain ⟨f,g,p,i,j,q,rfl,l,m⟩:=h;refine zR V _ ⟨λc=>⟨λd n e=>(mi (l.le e) (m.le e) hs.1 hs.2).s ?_,λd o t=>?_⟩,λc u w=>?_⟩;{rintro r V2 x rfl;exact ⟨_,rfl,λy z=>by rw [Ĥ] at c d;simp [Sp.emp,c,d]⟩};{rw [ł] at d;simp [Sp.emp,d]};{rw [ł] at c;simp [Sp.emp,c]}
def RSw (V:Ó)(v:Value)(b1:Bool)(xs1 ys1:List Nat)(b2:Bool)(xs2 ys2:List Nat)(na nb:Bool):Prop:=∃p n c p' n' c' q m e q' m' e',v=.agg #[.bool b1,.slice p n c,.slice p' n' c',.bool b2,.slice q m e,.slice q' m' e',.bool na,.bool nb] /\
 O5 V (.agg #[.bool b1,.slice p n c,.slice p' n' c']) b1 xs1 ys1/\O5 V (.agg #[.bool b2,.slice q m e,.slice q' m' e']) b2 xs2 ys2
def spW (b1:Bool)(xs1 ys1:List Nat)(b2:Bool)(xs2 ys2:List Nat)(na nb:Bool):Sp:=⟨SC b1 xs1 ys1 na,SC b2 xs2 ys2 nb,na,nb⟩
def okW (b1:Bool)(xs1 ys1:List Nat)(b2:Bool)(xs2 ys2:List Nat)(na nb:Bool):Bool:=BE b1 xs1 ys1 na&&BE b2 xs2 ys2 nb&&!(spW b1 xs1 ys1 b2 xs2 ys2 na nb).emp
theorem LP {V:ut}{b1:md}{xs1 ys1:pz Nat}{b2:md}{xs2 ys2:pz Nat}{na nb:md}(h:RSw V v b1 xs1 ys1 b2 xs2 ys2 na nb)(m1:xs1.length<=2^40)(m2:ys1.length<=2^40)(m3:xs2.length<=2^40)(m4:ys2.length<=2^40) (hs:(spW b1 xs1 ys1 b2 xs2 ys2 na nb).sz k)(hk:2*k<2^40):À 117 #[v] V λr V'=>∃w,r=tN #[w,dB (okW b1 xs1 ys1 b2 xs2 ys2 na nb)]/\eM V' w (spW b1 xs1 ys1 b2 xs2 ys2 na nb):=by obtain ⟨p,n,c,s,t,u,q,m,e,x,y,z,rfl,A,B⟩:=h;refine KV V _ λS i=>(Fq na (A.le i) m1 m2).s ?_;rintro r V2 C ⟨w,rfl,j⟩;obtain ⟨D,E,F,rfl⟩:=j.shape;refine qyQ ⟨rfl,λT l=>(Fq nb (B.le (i.m (C.m l))) m3 m4).s ?_⟩;rintro r G H ⟨w,rfl,o⟩;obtain ⟨I,J,K,rfl⟩:=o.shape;have d:∀a:ut,G.Le a->eM a (hF #[Ô .i64 D,Ô .i64 E,dS F,Ô .i64 I,Ô .i64 J,dS K,dB na,dB nb]) (spW b1 xs1 ys1 b2 xs2 ys2 na nb):=λa b=>⟨_,_,_,_,_,_,rfl,j.le (l.m (H.m b)),o.le b⟩;refine qyQ ⟨rfl,λf=>⟨λg a b=>(Be (d a b) hs hk).s ?_,λg L M=>⟨_,?_,d L M⟩⟩,λf N O=>⟨_,?_,d N O⟩⟩;{rintro r U P rfl;exact ⟨_,rfl,λQ R=>⟨_,by simp [okW,f,g],d Q (b.m (P.m R))⟩⟩};{simp [okW,g]};{simp [okW,f]}
def U9 (l:L3)(s:Sp):Prop:=bX l=true/\s.can/\s.emp=false
theorem RE.raw {no:md}(h:RE V v q no)(hc:no=true->q=0):∃b xs ys,O5 V v b xs ys/\BE b xs ys no=true/\SC b xs ys no=q/\(∀k,Sz k q->xs.length<=k/\ys.length<=k):=by (cases no with|true=>{exact ⟨false,[],[],h.1 rfl,rfl,by rw [hc rfl];rfl,λk _=>⟨â _,â _⟩⟩}|false=>{obtain ⟨p,n,c,f,g,i,rfl,d,e⟩:=h.2 rfl;exact ⟨_,_,_,(qyW ⟨rfl,d,e⟩),Oq.1,Oq.2,λk a=>⟨ag a.1,ag a.2⟩⟩})
theorem Pl {s:Sp}(h:X_ V v s)(hc:s.can)(hne:s.emp=false)(hs:s.sz k)(hk:2*k<2^40:=by omega):À 117 #[v] V λr V'=>∃w,r=tN #[w,dB true]/\eM V' w s:=by obtain ⟨b,p,n,c,C,D,E,d,q,m,e,F,G,H,rfl,o,t⟩:=h;have ⟨b1,xs1,ys1,f,u,x,i⟩:=o.raw hc.1;have ⟨b2,xs2,ys2,j,y,z,l⟩:=t.raw hc.2;have A:b=b1:=by{obtain ⟨_,_,_,_,_,_,e,-⟩:=f;injection e with e;simp at e;exact e.1};have B:d=b2:=by{obtain ⟨_,_,_,_,_,_,e,-⟩:=j;injection e with e;simp at e;exact e.1};subst A B;have i:=i k hs.1;have l:=l k hs.2;have es:spW b xs1 ys1 d xs2 ys2 s.a s.b=s:=by{unfold spW;rw [x,z]};refine (LP (V:=V) (b1:=b) (xs1:=xs1) (ys1:=ys1) (b2:=d) (xs2:=xs2) (ys2:=ys2) (na:=s.a) (nb:=s.b) (qxW ⟨rfl,f,j⟩) ω ω ω ω (k:=k) (by rw [es];exact hs) hk).s ?_;rintro r V2 I ⟨w,rfl,g⟩;rw [es] at g;exact ⟨w,by unfold okW;rw [es,u,y,hne];rfl,g⟩
theorem R9 {s:Sp}(h:eM V v s)(hs:s.sz k)(hk:k<=2^40):À 93 #[v] V λr V'=>X_ V' r s:=by obtain ⟨o,u,p,w,y,q,rfl,z,j⟩:=h;have t:∀{V:ut} {v:un} {x:Rat} {no:md},RA V v x->(!no)=true->RE V v x no:=λh e=>by{rw [Ĥ] at e;subst e;exact ⟨κ,λ_=>h⟩};have f:∀{V:ut} {x:Rat} {no:md},(!no)=false->RE V (hF #[dB false,zF none 0 0,zF none 0 0]) x no:=λe=>by{rw [ł] at e;subst e;exact ⟨λ_=>O5.nil,κ⟩};refine EA V _ ⟨λd G l=>(GM (z.le l) hs.1 hk).s ?_,λd=>⟨λc H A=>(GM (j.le A) hs.2 hk).s ?_,λc I B=>?_⟩⟩;{rintro r V2 C i;obtain ⟨_,_,_,_,_,_,_,rfl⟩:=i.shape;refine qyZ ⟨rfl,λc J m=>(GM (j.le (l.m (C.m m))) hs.2 hk).s ?_,λc K D=>?_⟩;{rintro r L E g;obtain ⟨_,_,_,_,_,_,_,rfl⟩:=g.shape;exact qyZ ⟨rfl,λM n=>⟨_,_,_,_,_,_,_,_,_,_,_,_,_,_,rfl,t (i.le (m.m (E.m n))) d,t (g.le n) c⟩⟩};{exact qyK ⟨rfl,t (i.le D) d,f c⟩}};{rintro r N O g;obtain ⟨_,_,_,_,_,_,_,rfl⟩:=g.shape;exact qyZ ⟨rfl,λP F=>⟨_,_,_,_,_,_,_,_,_,_,_,_,_,_,rfl,f d,t (g.le F) c⟩⟩};{exact qyK ⟨rfl,f d,f c⟩}
theorem uw.api {r:un}(h:RL V r ((l.1:Rat)).num ((l.2.1:Rat)).num ((l.2.2:Rat)).num):RL V r l.1 l.2.1 l.2.2:=by simpa [Qf6] using h
theorem IW {s:Sp}(h:uB V v l s)(sl:iH k l)(hs:s.sz k)(hk:k<=2^40:=by omega):À 62 #[v] V λr V'=>O4 V' r l s:=by obtain ⟨m,n,p,u,w,q,x,y,r,z,A,t,B,C,o,rfl,f,g⟩:=h;refine Ez V _ λD a=>(Fp (f.le a) sl.1 sl.2.1 sl.2.2 hk).s ?_;rintro r V2 i b;obtain ⟨_,_,_,_,_,_,_,_,_,_,_,_,rfl⟩:=CD b;refine qxW ⟨rfl,λE c=>(R9 (g.le (a.m (i.m c))) hs hk).s ?_⟩;rintro r F j d;obtain ⟨_,_,_,_,_,_,_,_,_,_,_,_,_,_,rfl,-,-⟩:=id d;exact ⟨_,_,_,_,_,_,_,_,_,_,_,_,_,_,_,_,rfl,λG e=>⟨_,_,_,_,_,_,_,_,_,_,_,_,_,_,_,_,_,_,_,_,_,_,_,_,_,_,rfl,(uw.api b).le (c.m (j.m e)),d.le e⟩⟩
theorem jo (h:bX l=true):Nz l:=by unfold bX at h;intro e;simp [e.1,e.2] at h
theorem TX {a b c:Int}(h:¬(a=0/\b=0)):bX (B_ a b c)=true:=by have p:0<cq a b c:=by{apply Wx9;intro e;have d:=Qr5.1 e;have j:=Qr5.1 d.1;exact h ⟨ω,ω⟩};have f:cq a b c∣a.natAbs:=Qs7 (ľ _ _) (ľ _ _);have g:cq a b c∣b.natAbs:=Qs7 (ľ _ _) (ś _ _);have l:cq a b c∣c.natAbs:=ś _ _;have m:∀{x:Int},cq a b c∣x.natAbs->((cq a b c:Nat):Int)∣x:=λh=>Qp6.1 (by rw [Ğ];exact h);have i:∀{x:Int},cq a b c∣x.natAbs->(x/(cq a b c:Int)).natAbs=x.natAbs/cq a b c:=λh=>by{rw [Qt1 (m h),Ğ]};have nz:∀{x:Int},cq a b c∣x.natAbs->x/(cq a b c:Int)=0->x=0:=λq e=>by{have ⟨k,o⟩:=m q;rw [o,Qh1 _ ω] at e;rw [o,e,Int.mul_zero]};have e:cq (a/(cq a b c:Int)) (b/(cq a b c:Int)) (c/(cq a b c:Int))=1:=by{show Nat.gcd (Nat.gcd (a/(cq a b c:Int)).natAbs (b/(cq a b c:Int)).natAbs) (c/(cq a b c:Int)).natAbs=1;rw [i f,i g,i l,Nat.gcd_div f g,Nat.gcd_div (show cq a b c∣Nat.gcd a.natAbs b.natAbs from ľ _ _) l];exact Nat.div_self p};have n:¬(a/(cq a b c:Int)=0/\b/(cq a b c:Int)=0):=λ⟨d,j⟩=>h ⟨nz f d,nz g j⟩;show (decide (¬(a/(cq a b c:Int)=0/\b/(cq a b c:Int)=0))&&decide (cq (a/(cq a b c:Int)) (b/(cq a b c:Int)) (c/(cq a b c:Int))=1))=true;rw [Ç n,Ç e];rfl
theorem TY (h:¬(a=0/\b=0)):bX (Cg a b c)=true:=by refine TX ?_;have d:(((a.den*b.den*c.den:Nat):Int):Rat)≠0:=by{exact_mod_cast (Ő (Ő a.den_nz b.den_nz) c.den_nz)};rintro ⟨f,g⟩;rw [Ŏ] at f g;exact h ⟨(Qh3.1 f).elim id λe=>Å e d,(Qh3.1 g).elim id λe=>Å e d⟩
theorem TZ (h:¬(px=qx/\py=qy)):bX (mT px py qx qy)=true:=TY (vU h)
theorem Pm {x:L3}(h:RL V v x.1 x.2.1 x.2.2)(ho:bX x=true)(sl:iH k x)(hk:4*k+4<2^40:=by omega):À 37 #[v] V λr V'=>∃w,r=tN #[w,dB true]/\uw V' w x:=by obtain ⟨p,n,s,i,j,s',q,m,e,rfl,c,d,f⟩:=h;have d1:=ag (show x.1.natAbs<2^k from sl.1.1);have d2:=ag (show x.2.1.natAbs<2^k from sl.2.1.1);have d3:=ag (show x.2.2.natAbs<2^k from sl.2.2.1);have b:=tD (V:=V) (decide (x.1<0)) (decide (x.2.1<0)) (decide (x.2.2<0)) c d f ω ω ω (k:=k) (by rw [aL];exact sl.1) (by rw [aL];exact sl.2.1) (by rw [aL];exact sl.2.2) hk;rw [J3,aL,aL,aL] at b;refine b.s ?_;rintro r V2 l ⟨w,rfl,-,g⟩;have a:=ho;exact ⟨w,by rw [a],g a⟩
theorem Fk {s:Sp}(h:O4 V v l s)(ho:U9 l s)(sl:iH k l)(hs:s.sz k)(hk:4*k+4<2^40:=by omega):À 60 #[v] V λr V'=>∃w,r=tN #[w,dB true]/\uB V' w l s:=by obtain ⟨ho,u,f⟩:=ho;obtain ⟨x,y,z,A,B,C,D,E,F,G,H,I,b,p,n,c,J,K,L,d,q,m,e,M,N,O,rfl,P,Q⟩:=h;refine KU V _ λT g=>(Pm (P.le g) ho sl).s ?_;rintro r V2 R ⟨w,rfl,i⟩;obtain ⟨_,_,_,_,_,_,_,_,_,rfl,-,-,-⟩:=id i;refine ⟨_,_,_,_,_,_,_,_,_,_,rfl,λU j=>(Pl (Q.le (g.m (R.m j))) u f hs).s ?_⟩;rintro r W S ⟨w,rfl,o⟩;obtain ⟨_,_,_,_,_,_,rfl,-,-⟩:=id o;refine qyJ ⟨rfl,λ_ X t=>⟨_,rfl,_,_,_,_,_,_,_,_,_,_,_,_,_,_,_,rfl,i.le (j.m (S.m t)),o.le t⟩,κ⟩
theorem Sp.TQ {s:Sp}(h:s.sz k):s.neg.sz k:=by unfold Sp.neg Sp.sz;have z:Sz k (0:Rat):=by{have:=h.1.2;refine ⟨Ń (â _) this,?_⟩;exact Ń (Wx9 s.lo.den_nz) this};constructor;{dsimp only;split;{exact z};{exact h.2.neg}};{dsimp only;split;{exact z};{exact h.1.neg}}
theorem R_ {s:Sp}(h:eM V v s)(hs:s.sz k)(hk:k<=2^40:=by omega):À 118 #[v] V λr V'=>eM V' r s.neg:=by obtain ⟨o,u,p,w,y,q,rfl,j,z⟩:=h;have t:∀{V:ut} {v:un} {x:Rat} {no:md},RR V v (-x)->(!no)=true->RR V v (if no=true then 0 else -x):=λh e=>by{rw [Ĥ] at e;rw [e];exact h};have f:∀{V:ut} {x:Rat} {no:md},(!no)=false->RR V (hF #[Ô .i64 0,Ô .i64 0,dS none]) (if no=true then 0 else -x):=λe=>by{rw [ł] at e;rw [e];exact RR.zero _};refine EB V _ ⟨λd G l=>(iJ (z.le l) hs.2 hk).s ?_,λd=>⟨λc H A=>(iJ (j.le A) hs.1 hk).s ?_,λc I B=>?_⟩⟩;{rintro r V2 C i;obtain ⟨_,_,_,rfl⟩:=i.shape;refine ⟨_,_,_,rfl,λc J m=>(iJ (j.le (l.m (C.m m))) hs.1 hk).s ?_,λc K D=>?_⟩;{rintro r L E g;obtain ⟨_,_,_,rfl⟩:=g.shape;exact ⟨_,_,_,rfl,λM n=>⟨_,_,_,_,_,_,rfl,t (i.le (m.m (E.m n))) d,t (g.le n) c⟩⟩};{exact qyW ⟨rfl,t (i.le D) d,f c⟩}};{rintro r N O g;obtain ⟨_,_,_,rfl⟩:=g.shape;exact ⟨_,_,_,rfl,λP F=>⟨_,_,_,_,_,_,rfl,f d,t (g.le F) c⟩⟩};{exact qyW ⟨rfl,f d,f c⟩}
theorem GJ {s:Sp}(h:uB V v l s)(sl:iH k l)(hs:s.sz k)(hk:1*k+1<2^38:=by omega):À 61 #[v] V λr V'=>uB V' r (Õ l) s.neg:=by obtain ⟨m,n,p,u,w,q,x,y,r,z,A,t,B,C,o,rfl,f,g⟩:=h;refine wg V _ λD a=>(jj (f.le a) sl hk).s ?_;rintro r V2 i b;obtain ⟨_,_,_,_,_,_,_,_,_,rfl,-,-,-⟩:=id b;refine qyJ ⟨rfl,λE c=>(R_ (g.le (a.m (i.m c))) hs).s ?_⟩;rintro r F j d;obtain ⟨_,_,_,_,_,_,rfl,-,-⟩:=id d;exact ⟨_,_,_,_,_,_,_,_,rfl,λG e=>⟨_,_,_,_,_,_,_,_,_,_,_,_,_,_,_,rfl,b.le (c.m (j.m e)),d.le e⟩⟩
def tS (x y:Rat):Rat:=if 0<dO y x then y else x
def tT (x y:Rat):Rat:=if dO y x<0 then y else x
theorem cY (x y:Rat):(x<y/\dO x y=-1)\/(x=y/\dO x y=0)\/(y<x/\dO x y=1):=by grind [G3.1,iM.1,Ao.1]
theorem Sp.gy {s:Sp}:s.emp=false↔(s.a=true\/s.b=true\/s.lo<s.hi):=by unfold Sp.emp;rcases cY s.lo s.hi with ⟨h,e⟩|⟨h,e⟩|⟨h,e⟩<;>rw [e]<;>cases s.a<;>cases s.b<;>simp<;>grind
def Sp.meet (v w:Sp):Sp:=⟨if v.a then w.lo else if w.a then v.lo else tS v.lo w.lo,if v.b then w.hi else if w.b then v.hi else tT v.hi w.hi,if v.a then w.a else false,if v.b then w.b else false⟩
theorem Sp.Cc {v w:Sp}(h1:v.can)(h2:w.can):(v.meet w).can:=by unfold Sp.meet;constructor<;>dsimp only;{(cases hv:v.a with|false=>{intro h;cases h}|true=>exact λh=>h2.1 h)};{(cases hv:v.b with|false=>{intro h;cases h}|true=>exact λh=>h2.2 h)}
def Sp.gN (s:Sp):Rat:=if s.a then (if s.b then 0 else s.hi-((1:Int):Rat)) else if s.b then s.lo+((1:Int):Rat) else (s.lo+s.hi)*((2:Int):Rat)⁻¹
theorem Sp.OP {s:Sp}(h:s.emp=false):(s.a=false->s.lo<s.gN)/\(s.b=false->s.gN<s.hi):=by rw [Sp.gy] at h;unfold Sp.gN;cases ha:s.a<;>cases hb:s.b<;>simp at h⊢<;>grind
def Ú (m l:L3):Rat:=((m.1:Rat)*(l.2.1:Rat))+((m.2.1:Rat)*(-(l.1:Rat)))
def j8 (m l:L3):Rat:=ar m (cT l 0) (cW l 0)
theorem pg (m l:L3)(t:Rat):ar m (cT l t) (cW l t)=j8 m l+Ú m l*t:=by unfold j8 ar Ú cT cW;grind
def Ø (m l:L3):Rat:=-(j8 m l*(Ú m l)⁻¹)
def bu (l:L3)(s:Sp)(m:L3):Sp:=
 if (Ú m l).num.sign==0 then s else if (Ú m l).num.sign==1 then s.meet ⟨Ø m l,0,false,true⟩ else s.meet ⟨0,Ø m l,true,false⟩
def cF (l:L3)(s:Sp)(m:L3):Bool:=
 if (Ú m l).num.sign==0 then decide ((j8 m l).num.sign>0) else !(bu l s m).emp
theorem cM (q:Rat):(q=0/\q.num.sign=0)\/(0<q/\q.num.sign=1)\/(q<0/\q.num.sign=-1):=by have a:=@JZ q;have b:=@J0 q;have c:=@Ŏ q;rcases Qh0 q.num 0 with h|h|h<;>grind
theorem Sr {l:L3}{s:Sp}{m:L3}(he:s.emp=false)(hb:cF l s m=true):(bu l s m).emp=false:=by grind [cF,bu]
theorem Su {l:L3}{s:Sp}{m:L3}(hc:s.can):(bu l s m).can:=by unfold bu;split;{exact hc};{split;{exact Sp.Cc hc ⟨κ,λ_=>rfl⟩};{exact Sp.Cc hc ⟨λ_=>rfl,κ⟩}}
theorem val_rev (m:L3)(x y:Rat):ar (Õ m) x y=-ar m x y:=by unfold ar Õ;simp only [Qh2];grind
def ß (l m:L3):Rat:=((l.1:Rat)*(m.2.1:Rat))-((l.2.1:Rat)*(m.1:Rat))
def meX (l m:L3):Rat:=(((l.2.1:Rat)*(m.2.2:Rat))-((l.2.2:Rat)*(m.2.1:Rat)))*(ß l m)⁻¹
def meY (l m:L3):Rat:=(((l.2.2:Rat)*(m.1:Rat))-((l.1:Rat)*(m.2.2:Rat)))*(ß l m)⁻¹
theorem VD (l:L3)(t:Rat):cT (Õ l) (-t)=cT l t:=by unfold cT fR Õ;simp only [Qh2];grind
theorem VE (l:L3)(t:Rat):cW (Õ l) (-t)=cW l t:=by unfold cW fR Õ;simp only [Qh2];grind
def Sp.inn (s:Sp)(t:Rat):Prop:=(s.a=true\/s.lo<t)/\(s.b=true\/t<s.hi)
def zH (ss:List Sp)(t:Rat):Prop:=∃s∈ss,s.inn t
def Sp.good (s:Sp):Prop:=s.can/\s.emp=false
def Sp.LB (s t:Sp):Prop:=s.b=false/\t.a=false/\s.hi<t.lo
def rW (ss:List Sp):Prop:=(∀s∈ss,s.good)/\ss.Pairwise Sp.LB
theorem pick (E:pz Rat):∀l u:Rat,l<u->∃t,l<t/\t<u/\t∉E:=by
 induction E with
 | nil=>exact λl u h=>⟨(l+u)/2,χ,χ,ψ⟩
 | cons e r ih=>grind
theorem maxL:∀l:pz Rat,l=[]\/∃m∈l,∀x∈l,x<=m:=by
 intro l
 induction l with
 | nil=>exact .inl rfl
 | cons y r ih=>
  rcases ih with rfl|⟨m,hm,h⟩
  ·exact .inr ⟨y,ψ,by intro x a;simp at a;grind⟩
  grind
theorem minL:∀l:pz Rat,l=[]\/∃m∈l,∀x∈l,m<=x:=by
 intro l
 induction l with
 | nil=>exact .inl rfl
 | cons y r ih=>
  rcases ih with rfl|⟨m,hm,h⟩
  ·exact .inr ⟨y,ψ,by intro x a;simp at a;grind⟩
  grind
theorem Kh (E Ls Us:pz Rat)(h:∀l∈Ls,∀u∈Us,l<u):∃t,(∀l∈Ls,l<t)/\(∀u∈Us,t<u)/\t∉E:=by have key:∃a b:Rat,a<b/\(∀l∈Ls,l<=a)/\∀u∈Us,b<=u:=by{rcases maxL Ls with rfl|⟨m,hm,e⟩;{rcases minL Us with rfl|⟨n,f,c⟩;{exact ⟨0,1,φ,ţ,ţ⟩};{exact ⟨n-1,n,χ,ţ,c⟩}};{rcases minL Us with rfl|⟨n,f,c⟩;{exact ⟨m,m+1,χ,e,ţ⟩};grind}};obtain ⟨a,b,d,e,c⟩:=key;have ⟨t,t1,t2,t3⟩:=pick E a b d;grind
def Sp.Iw (s:Sp):List Rat:=if s.a then [] else [s.lo]
def Sp.Hf (s:Sp):List Rat:=if s.b then [] else [s.hi]
variable{r:List Sp}
theorem Aw {s:Sp}{t:Rat}:s.inn t↔(∀l∈s.Iw,l<t)/\∀u∈s.Hf,t<u:=by unfold Sp.inn Sp.Iw Sp.Hf;cases s.a<;>cases s.b<;>simp
theorem mC {s:Sp}{l:Rat}(h:l∈s.Iw):s.a=false/\l=s.lo:=by unfold Sp.Iw at h;cases ha:s.a<;>simp [ha] at h;exact ⟨rfl,h⟩
theorem oN {s:Sp}{l:Rat}(h:l∈s.Hf):s.b=false/\l=s.hi:=by unfold Sp.Hf at h;cases ha:s.b<;>simp [ha] at h;exact ⟨rfl,h⟩
theorem nK {s:Sp}(h:s.emp=false)(ha:s.a=false)(hb:s.b=false):s.lo<s.hi:=by grind [Sp.gy.1]
theorem Oy {s:Sp}(h:s.emp=false)(E:pz Rat):∃t,s.inn t/\t∉E:=by
 have ⟨t,c,d,e⟩:=Kh E s.Iw s.Hf (λl a u hu=>by
  obtain ⟨b,rfl⟩:=mC a;obtain ⟨hb,rfl⟩:=oN hu;exact nK h b hb)
 grind [Aw.2]
theorem rW.tail {s:Sp}(h:rW (s::r)):rW r:=⟨λx a=>h.1 x (by simp [a]),(Ġ.1 h.2).2⟩
theorem rW.LB {s:Sp}(h:rW (s::r)){x:Sp}(hx:x∈r):s.LB x:=(Ġ.1 h.2).1 x hx
theorem Hq {s:Sp}(h:rW (s::r))(ha:s.a=false){t:Rat}(ht:t<=s.lo):¬zH (s::r) t:=by rintro ⟨x,b,d,e⟩;rcases å.1 b with rfl|b;{grind};{have ⟨c,f,g⟩:=h.LB b;have:=nK (h.1 s ψ).2 ha c;grind}
def nl:List Sp->List Rat
 | []=>[]
 | x::_=>[x.lo]
theorem On {s:Sp}(h:rW (s::r))(hb:s.b=false){t:Rat}(h1:s.hi<=t)(h2:∀x∈nl r,t<=x):¬zH (s::r) t:=by rintro ⟨x,a,c,d⟩;rcases å.1 a with rfl|a;{grind};{(cases r with|nil=>{cases a}|cons y r=>{exact Hq h.tail (h.LB ψ).2.1 (h2 y.lo (by simp [nl])) ⟨x,a,c,d⟩})}
section
variable {s s':Sp} {r r':List Sp} {E:List Rat} (h:rW (s :: r)) (h':rW (s' :: r')) (e:∀t,t ∉ E->zH (s :: r) t->zH (s' :: r') t)
include h h' e
theorem un_a (ha:s.a=true):s'.a=true:=by (cases ha':s'.a with|true=>rfl|false=>{obtain ⟨t,-,c,d⟩:=Kh E [] (s'.lo::s.Hf) (λl b=>by cases b);have:=e t d ⟨s,ψ,.inl ha,(Aw.2 ⟨(λl b=>by unfold Sp.Iw at b;rw [Ä ha] at b;cases b),λu hu=>c u (by simp [hu])⟩).2⟩;exact Å this (Hq h' ha' (by have:=c s'.lo ψ;grind))})
theorem Y0 (ha:s.a=false)(ha':s'.a=false):¬s.lo<s'.lo:=by
 intro b
 have ⟨t,f,d,g⟩:=Kh E [s.lo] (s'.lo::s.Hf) (λl c u hu=>by
  obtain rfl:l=s.lo:=by simpa using c
  rcases å.1 hu with rfl|hu
  ·exact b
  ·obtain ⟨i,rfl⟩:=oN hu;exact nK (h.1 s ψ).2 ha i)
 have:=e t g ⟨s,ψ,Aw.2 ⟨(λl c=>by obtain ⟨-,rfl⟩:=mC c;exact f _ ψ),λu hu=>d u (by simp [hu])⟩⟩;exact Å this (Hq h' ha' (by have:=d s'.lo ψ;grind))
theorem un_b (h0 : s.a = false → s'.a = false ∧ s.lo = s'.lo)(hb : s.b = true) : s'.b = true := by
  cases hb' : s'.b with
  | true => rfl
  | false =>
    have g : ∀ u∈nl r', s'.hi<u := λu hu => by
      cases r' with
      | nil => cases hu
      | cons y r' => obtain rfl : u = y.lo := by simpa [nl] using hu
                     exact (h'.LB ψ).2.2
    obtain ⟨t, d, h, i⟩ := Kh E (s'.hi::s.Iw) (nl r') (λl c u hu => by
      rcases å.1 c with rfl|c
      · exact g u hu
      · obtain ⟨f, rfl⟩ := mC c;have := nK (h'.1 s' ψ).2 (h0 f).1 hb';rw [(h0 f).2];grind)
    have := e t i ⟨s, by simp, (Aw.2 ⟨(λl c => d l (by simp [c])), (λu hu => by unfold Sp.Hf at hu;rw [Ä hb] at hu;cases hu)⟩ : s.inn t)⟩;exact Å this (On h' hb' (by have := d s'.hi ψ;grind) (λx j => by have := h x j;grind))
theorem YZ (h0 : s.a = false → s'.a = false ∧ s.lo = s'.lo)(hb : s.b = false)(hb' : s'.b = false) : ¬s'.hi<s.hi := by
  intro c
  have g : ∀ u∈nl r', s'.hi<u := λu hu => by
    cases r' with
    | nil => cases hu
    | cons y r' => obtain rfl : u = y.lo := by simpa [nl] using hu
                   exact (h'.LB ψ).2.2
  obtain ⟨t, h, f, i⟩ := Kh E [s'.hi] (s.hi::nl r') (λl j u hu => by
    obtain rfl : l = s'.hi := by simpa using j
    rcases å.1 hu with rfl|hu
    · exact c
    · exact g u hu)
  have m := h s'.hi ψ
  have d : s.inn t := by
    refine ⟨?_, .inr (f s.hi ψ)⟩
    cases ha : s.a with
    | true => exact .inl rfl
    | false =>
      have := nK (h'.1 s' ψ).2 (h0 ha).1 hb';exact .inr χ
  exact Å (e t i ⟨s, by simp, d⟩) (On h' hb' χ (λx k => by have := f x (by simp [k]);grind))
end
theorem Sp.ext' {s t:Sp}(h1:s.a=t.a)(h2:s.b=t.b)(h3:s.lo=t.lo)(h4:s.hi=t.hi):s=t:=by cases s;cases t;simp at *;exact ⟨h3,h4,h1,h2⟩
theorem MR {E:pz Rat}:∀{xs ys:pz Sp},rW xs->rW ys->(∀t,t∉E->(zH xs t↔zH ys t))->xs=ys:=by
 intro xs
 induction xs with
 | nil=>
  intro ys _ f e
  cases ys with
  | nil=>rfl
  | cons s r=>
   have ⟨t,c,i⟩:=Oy (f.1 s ψ).2 E;obtain ⟨x,d,-⟩:=(e t i).2 ⟨s,ψ,c⟩;cases d
 | cons s r ih=>
  intro ys d f e
  cases ys with
  | nil=>
   have ⟨t,c,i⟩:=Oy (d.1 s ψ).2 E;obtain ⟨x,d,-⟩:=(e t i).1 ⟨s,ψ,c⟩;cases d
  | cons s' r'=>
   have k:=λt j=>(e t j).1;have l:=λt j=>(e t j).2
   have beq:∀{a b:md},(a=true->b=true)->(b=true->a=true)->a=b:=λ{a b} c i=>by cases a<;>cases b<;>simp at c i ⊢
   have g:=beq (un_a d f k) (un_a f d l)
   have y:s.a=false->s.lo=s'.lo:=λc=>by have A:=Y0 d f k c (g▸c);have B:=Y0 f d l (g▸c) c;grind
   have z:s.a=false->s'.a=false/\s.lo=s'.lo:=λh=>⟨g▸h,y h⟩;have n:s'.a=false->s.a=false/\s'.lo=s.lo:=λh=>⟨g.symm▸h,(y (g.symm▸h)).symm⟩;have u:=beq (un_b d f k z) (un_b f d l n)
   have C:s.b=false->s.hi=s'.hi:=λc=>by have A:=YZ d f k z c (u▸c);have B:=YZ f d l n (u▸c) c;grind
   have gs:=(d.1 s ψ).1;have o:=(f.1 s' ψ).1
   have es:s=s':=by refine Sp.ext' g u ?_ ?_;{(cases c:s.a with|false=>exact y c|true=>{rw [gs.1 c,o.1 (g▸c)]})};{(cases c:s.b with|false=>exact C c|true=>{rw [gs.2 c,o.2 (u▸c)]})}
   subst es
   have p:∀{q:pz Sp} {t:Rat},rW (s::q)->zH q t->¬s.inn t:=by rintro q t D ⟨x,d,c,i⟩ ⟨v,w⟩;have ⟨F,G,H⟩:=D.LB d;grind
   rw [ih d.tail f.tail (λt j=>⟨λm=>?_,λm=>?_⟩)]
   ·have ⟨x,hm,hi⟩:=k t j (by obtain ⟨x,v,w⟩:=m;exact ⟨x,by simp [v],w⟩);rcases å.1 hm with rfl|hm;{exact Å hi (p d m)};{exact ⟨x,hm,hi⟩}
   ·have ⟨x,hm,hi⟩:=l t j (by obtain ⟨x,v,w⟩:=m;exact ⟨x,by simp [v],w⟩);rcases å.1 hm with rfl|hm;{exact Å hi (p f m)};{exact ⟨x,hm,hi⟩}
end Go.Proofs.Tryz
namespace Go.Eng
theorem A6 (a:Addr)(m n:Nat):(a.add m).add n=a.add (m+n):=by grind [Addr.add]
variable {α:Type} {sz:Nat} {R:Ó->Value->α->Prop} {V V':Ó}
structure ç (sz:Nat) (R:Ó->Value->α->Prop) (V:Ó) (vs:List Value) (al:List α):Prop where
 at_:∀(i:Nat)(h:i<al.length),∃xs:List Value,xs.length=sz/\R V (.agg xs.toArray) al[i]/\∀j x,xs[j]?=some x->vs[i*sz+j]?=some x
structure bP (sz:Nat) (R:Ó->Value->α->Prop) (V:Ó) (p:OA) (n:Nat) (al:List α):Prop where
 len:n=al.length
 at_:∀(i:Nat)(h:i<al.length),∃ad,ae p (i*sz)=some ad/\∃xs:List Value,xs.length=sz/\R V (.agg xs.toArray) al[i]/\∀j x,xs[j]?=some x->V.at (ad.add j) x
theorem ç.nil {vs:pz un}:ç sz R V vs []:=⟨λi h=>Å h (Ŝ i)⟩
theorem bP.nil {p:OA}:bP sz R V p 0 []:=⟨rfl,λi h=>Å h (Ŝ i)⟩
theorem ç.le {vs:pz un}{al:pz α}(h:ç sz R V vs al)(m:∀v a,R V v a->R V' v a):ç sz R V' vs al:=
 ⟨λi b=>by have ⟨xs,c,d,e⟩:=h.at_ i b;exact ⟨xs,c,m _ _ d,e⟩⟩
theorem bP.le {p:OA}{n:Nat}{al:pz α}(h:bP sz R V p n al)(l:V.Le V')(m:∀v a,R V v a->R V' v a):bP sz R V' p n al:=
 ⟨h.len,λi b=>by have ⟨c,d,xs,e,f,g⟩:=h.at_ i b;exact ⟨c,d,xs,e,m _ _ f,λj x k=>l.at (g j x k)⟩⟩
theorem ç.fP {vs:pz un}{al:pz α}(h:ç sz R V vs al)(hs:0<sz):al.length*sz<=vs.length:=by by_cases a:al.length=0;{rw [a];omega};{obtain ⟨xs,d,-,b⟩:=h.at_ (al.length-1) ω;have c:sz-1<xs.length:=ω;have:=(ĥ.1 (b (sz-1) _ (ô c))).1;have e:al.length*sz=(al.length-1)*sz+sz:=by{obtain ⟨m,hm⟩:∃m,al.length=m+1:=⟨al.length-1,ω⟩;grind [Nat.succ_mul]};omega}
theorem ç.snoc {vs:pz un}{al:pz α}(h:ç sz R V vs al){xs sp:pz un}{a:α}(hx:xs.length=sz)(ha:R V (.agg xs.toArray) a)(hs:0<sz):ç sz R V (vs.take (al.length*sz)++xs++sp) (al++[a]):=by have n:=h.fP hs;have o:(vs.take (al.length*sz)).length=al.length*sz:=by{rw [é];omega};refine ⟨λi c=>?_⟩;rw [í,Qc4] at c;by_cases e:i=al.length;{grind [Nat.add_sub_cancel_left]};{have b:i<al.length:=ω;have ⟨d,f,g,p⟩:=h.at_ i b;refine ⟨d,f,by rw [Qs1 b];exact g,λj x k=>?_⟩;have l:=(ĥ.1 k).1;have m:i*sz+j<al.length*sz:=by{have:(i+1)*sz<=al.length*sz:=ÿ _ b;rw [Ś] at this;omega};grind}
theorem bP.il {bk:Nat}{ty:TypeId}{m:Nat×Nat}{vs:pz un}{al:pz α}(hb:V.bg bk (.cells vs.toArray ty m))(h:ç sz R V vs al):bP sz R V (some ⟨bk,0,none⟩) al.length al:=by refine ⟨rfl,λi a=>?_⟩;have ⟨xs,b,c,d⟩:=h.at_ i a;refine ⟨⟨bk,i*sz,none⟩,by simp [ae,add_zero'],xs,b,c,λj x f=>?_⟩;have e:(⟨bk,i*sz,none⟩:Addr).add j=⟨bk,i*sz+j,none⟩:=by{rw [<-add_zero',A6,add_zero']};grind [dL]
theorem bP.bM {bk c:Nat}{ty:TypeId}{m:Nat×Nat}{vs:pz un}{al:pz α}(hb:vs≠[]->V.bg bk (.cells vs.toArray ty m))(h:ç sz R V vs al)(hs:0<sz)(hc:al.length<=c:=by omega):bP sz R V (mA bk c) al.length al:=by (cases al with|nil=>exact bP.nil|cons a r=>{have b:vs≠[]:=λe=>by{have:=h.fP hs;grind [Nat.succ_mul]};have:mA bk c=some ⟨bk,0,none⟩:=by{unfold mA;rw [Ã];rw [Ą] at hc;omega};grind [bP.il]})
end Go.Eng
namespace Go.Proofs.Tryz
variable{V:Ó}{n:Nat}{vs:List Value}
structure GR {α:Type} (sz:Nat) (R:Ó->Value->α->Prop) (V:Ó) (n c:Nat) (vs:List Value) (l:List α):Prop where
 len:n=l.length
 le:n<=c
 cap:c*sz<=vs.length
 row:ç sz R V vs l
theorem GR.nil {α:Type}{sz:Nat}{R:ut->un->α->Prop}:GR sz R V 0 0 [] []:=⟨rfl,Ù _,ψ,ç.nil⟩
theorem GR.s {α:Type}{sz:Nat}{R:ut->un->α->Prop}{V':ut}{c:Nat}{l:pz α}(h:GR sz R V n c vs l)(m:∀v a,R V v a->R V' v a):GR sz R V' n c vs l:=⟨h.len,h.le,h.cap,h.row.le m⟩
theorem GR.snoc {α:Type}{sz:Nat}{R:ut->un->α->Prop}{c:Nat}{l:pz α}(h:GR sz R V n c vs l){xs:pz un}{a:α}(hx:xs.length=sz)(ha:R V (.agg xs.toArray) a)(h0:0<sz){sp:pz un}{c':Nat}(h1:n+1<=c')(h2:c'*sz<=(n+1)*sz+sp.length):GR sz R V (n+1) c' (vs.take (n*sz)++xs++sp) (l++[a]):=by have b:=h.len;have d:=h.cap;have e:n*sz<=c*sz:=ÿ _ h.le;refine ⟨by rw [í,b];rfl,h1,?_,?_⟩;{have f:(vs.take (n*sz)).length=n*sz:=by{rw [é];omega};grind};{grind [h.row.snoc]}
theorem row_one {α:Type}{sz:Nat}{R:ut->un->α->Prop}{xs:pz un}{a:α}(hx:xs.length=sz)(ha:R V (.agg xs.toArray) a):ç sz R V xs [a]:=by refine ⟨λi b=>?_⟩<;>grind
theorem MW {α:Type}{sz:Nat}{R:ut->un->α->Prop}{ls:pz α}(h:ç sz R V vs ls){k:Nat}(hk:k<=ls.length){xs sp:pz un}{a:α}(hx:xs.length=sz)(ha:R V (.agg xs.toArray) a)(hs:0<sz):ç sz R V (vs.take (k*sz)++(xs++(vs.take (ls.length*sz)).drop (k*sz))++sp) (ls.take k++a::ls.drop k):=by have v:=h.fP hs;have q:k*sz<=ls.length*sz:=ÿ _ hk;have t1:(vs.take (k*sz)).length=k*sz:=by{rw [é];omega};have t2:((vs.take (ls.length*sz)).drop (k*sz)).length=ls.length*sz-k*sz:=by{rw [Ĵ,é];omega};have g:(ls.take k).length=k:=by{rw [é];omega};refine ⟨λi r=>?_⟩;rw [ė];by_cases s:i<k;{have c:i<ls.length:=ω;have ⟨l,n,o,p⟩:=h.at_ i c;have e:(ls.take k++a::ls.drop k)[i]=ls[i]:=by{rw [Qs1 ω,Qt5]};refine ⟨l,n,by rw [e];exact o,λj x b=>?_⟩;have d:=(ĥ.1 b).1;have f:i*sz+j<k*sz:=by{have:(i+1)*sz<=k*sz:=ÿ _ s;rw [Ś] at this;omega};rw [Ī ω,ğ,Ä f];exact p j x b};{by_cases t:i=k;{subst t;have e:(ls.take i++a::ls.drop i)[i]=a:=by{simp [g]};refine ⟨xs,hx,by rw [e];exact ha,λj x b=>?_⟩;have d:=(ĥ.1 b).1;rw [ņ ω,t1,Qn0,ė,Ī d];exact b};{have c:i-1<ls.length:=by{rw [í,g,Ą,Ĵ] at r;omega};have ⟨l,n,o,p⟩:=h.at_ (i-1) c;have e:(ls.take k++a::ls.drop k)[i]=ls[i-1]:=by{rw [Wy4 ω];obtain ⟨m,hm⟩:∃m,i=k+(m+1):=⟨i-k-1,ω⟩;subst hm;simp only [g,Qn0,List.getElem_cons_succ,Qp8];congr 1};refine ⟨l,n,by rw [e];exact o,λj x b=>?_⟩;have d:=(ĥ.1 b).1;obtain ⟨m,hm⟩:∃m,i=k+1+m:=⟨i-k-1,ω⟩;subst hm;have w:(k+1+m)*sz=k*sz+sz+m*sz:=by{rw [đ,đ,ŋ]};have u:(k+1+m-1)*sz=k*sz+m*sz:=by{rw [show k+1+m-1=k+m by omega,đ]};have:=p j x b;rw [u] at this;have f:k*sz+m*sz+j<ls.length*sz:=by{have:(k+m+1)*sz<=ls.length*sz:=ÿ _ ω;rw [đ,đ,ŋ] at this;omega};rw [ņ ω,t1,ė,ņ ω,hx,Ī ω,Qn6,ğ,Ä ω];rw [show k*sz+((k+1+m)*sz+j-k*sz-sz)=k*sz+m*sz+j by omega];exact this}}
theorem eI {α:Type}{sz:Nat}{R:ut->un->α->Prop}{p:OA}{ls:pz α}(h:bP sz R V p n ls)(hs:0<sz):∃xs:pz un,V.sl p xs/\xs.length=ls.length*sz/\ç sz R V xs ls:=by
 have step:∀k,k<=ls.length->∃xs:pz un,V.sl p xs/\xs.length=k*sz/\ç sz R V xs (ls.take k):=by
  intro k
  induction k with
  | zero=>exact λ_=>⟨[],λi v b=>by simp at b,ψ,by rw [Qd4];exact ç.nil⟩
  | succ k ih=>
   intro r;have ⟨xs,d,e,f⟩:=ih ω;have ⟨l,g,m,j,o,s⟩:=h.at_ k ω;have q:(ls.take k).length=k:=by rw [é];omega
   refine ⟨xs++m,λi v b=>?_,by rw [í,e,j,Ś],?_⟩
   ·by_cases c:i<xs.length;{rw [Ī c] at b;exact d i v b};{rw [ņ ω] at b;(cases p with|none=>{cases g}|some a=>{obtain rfl:=ŏ (show some (a.add (k*sz))=some l from g);grind [A6]})}
   ·have:=f.snoc (sp:=[]) j o hs;rw [q,Ć,Qv3 ω] at this;rw [ŀ,ô ω];exact this
 have ⟨xs,d,e,f⟩:=step ls.length (Ù _);grind
theorem im {α:Type}{sz:Nat}{R:ut->un->α->Prop}{V:ut}{vs xs sp:pz un}{ls ms:pz α}(h:ç sz R V vs ls)(h':ç sz R V xs ms)(hs:0<sz):ç sz R V (vs.take (ls.length*sz)++xs++sp) (ls++ms):=by have q:=h.fP hs;have o:=h'.fP hs;have n:(vs.take (ls.length*sz)).length=ls.length*sz:=by{rw [é];omega};refine ⟨λi p=>?_⟩;by_cases c:i<ls.length;{have ⟨d,f,g,k⟩:=h.at_ i c;refine ⟨d,f,by rw [Qs1 c];exact g,λj x a=>?_⟩;have l:=(ĥ.1 a).1;have b:i*sz+j<ls.length*sz:=by{have:(i+1)*sz<=ls.length*sz:=ÿ _ c;rw [Ś] at this;omega};rw [ė,Ī ω,ğ,Ä b];exact k j x a};{rw [í] at p;obtain ⟨m,rfl⟩:∃m,i=ls.length+m:=⟨i-ls.length,ω⟩;have hm:m<ms.length:=ω;have ⟨d,f,g,k⟩:=h'.at_ m hm;refine ⟨d,f,?_,λj x a=>?_⟩;{have e:(ls++ms)[ls.length+m]=ms[m]:=by{rw [Wy4 ω];simp};rw [e];exact g};{have l:=(ĥ.1 a).1;have b:m*sz+j<xs.length:=by{have:(m+1)*sz<=ms.length*sz:=ÿ _ hm;rw [Ś] at this;omega};rw [ė,ņ (by rw [n,đ];omega),n,đ,Ī ω];rw [show ls.length*sz+m*sz+j-ls.length*sz=m*sz+j by omega];exact k j x a}}
theorem kK {α:Type}{sz:Nat}{R:ut->un->α->Prop}{al:pz α}(h:ç sz R V vs al)(hs:0<sz)(hc:∀xs a,R V (.agg (List.toArray xs)) a->∀v∈xs,v.oneCell'=true){m:Nat}(hm:m<al.length*sz){v:un}(hv:vs[m]?=some v):v.oneCell'=true:=by have ⟨xs,b,e,c⟩:=h.at_ (m/sz) (Nat.div_lt_of_lt_mul (by rw [Ķ];exact hm));have d:m%sz<xs.length:=by{rw [b];exact Ė _ hs};grind [Nat.mul_comm,Nat.div_add_mod,List.getElem_mem]
theorem Ax {α:Type}{sz:Nat}{R:ut->un->α->Prop}{V:ut}{w1 w2:Nat}{us:pz un}{O:pz α}(hg:GR sz R V w1 w2 us O)(hs:0<sz)(one:∀xs a,R V (.agg (List.toArray xs)) a->∀v∈xs,v.oneCell'=true){bk:Nat}{ty:TypeId}{m:Nat×Nat}(hb:us≠[]->V.bg bk (.cells us.toArray ty m)){es:pz un}{x:α}(he:es.length=sz)(hx:R V (.agg es.toArray) x){j:Nat}(yF:j<=w1:=by omega):∃xs ys:pz un,V.sl (nS (mA bk w2) w2 j sz) xs/\xs.length=(w1-j)*sz/\(∀v∈xs,v.oneCell'=true)/\V.sl (mA bk w2) ys/\ys.length=j*sz/\((mA bk w2).isNone=true->j=0)/\(∀sp:pz un,aJ (es.take (1*sz)++xs++sp) 0 ((1+(w1-j))*sz)=es++xs)/\(es++xs).length/sz=1+(w1-j)/\(es++xs).length=(1+(w1-j))*sz/\(∀v∈es++xs,v.oneCell'=true)/\∀(sp:pz un)(c':Nat),j+(1+(w1-j))<=c'->c'*sz<=(j+(1+(w1-j)))*sz+sp.length->GR sz R V (j+(1+(w1-j))) c' (ys++(es++xs)++sp) (O.take j++x::O.drop j):=by have n:=hg.len;have s:=hg.le;have o:=hg.cap;have p:=hg.row;have A:w1*sz<=w2*sz:=ÿ _ s;have B:j*sz<=w1*sz:=ÿ _ yF;have C:(w1-j)*sz=w1*sz-j*sz:=Nat.sub_mul ..;have t:(1+(w1-j))*sz=sz+(w1-j)*sz:=by{rw [đ,ŋ]};have t1:(us.take (j*sz)).length=j*sz:=by{rw [é];omega};have t2:((us.take (w1*sz)).drop (j*sz)).length=(w1-j)*sz:=by{rw [Ĵ,é];omega};have q:∀v∈(us.take (w1*sz)).drop (j*sz),v.oneCell'=true:=by{intro v g;have ⟨k,hm,e⟩:=Qm2.1 (Qg5 g);have d:k<w1*sz:=by{rw [é] at hm;omega};have:=ô hm;rw [e,ğ,Ä d] at this;exact kK p hs one (by rw [<-n];exact d) this};have f:0<w2->us≠[]:=λhw e=>by{have:0<w2*sz:=Wz5 hw hs;rw [e] at o;simp at o;omega};have i:0<w2->mA bk w2=some ⟨bk,0,none⟩:=λhw=>by{unfold mA;rw [Ã ω]};have at_:∀k v,0<w2->us[k]?=some v->V.at ⟨bk,k,none⟩ v:=λk v hm g=>dL (hb (f hm)) g;have b:(es++(us.take (w1*sz)).drop (j*sz)).length=(1+(w1-j))*sz:=by{rw [í,t2,he,t]};refine ⟨(us.take (w1*sz)).drop (j*sz),us.take (j*sz),?_,t2,q,?_,t1,?_,λsp=>?_,by rw [b];exact Qg0 _ hs,b,λv u=>(õ.1 u).elim ((one _ _ hx) v) (q v),λsp c' w D=>?_⟩;{intro k v hm;have c:=(ĥ.1 hm).1;rw [t2] at c;rw [Qn6,ğ,Ä ω] at hm;have y:j<w2:=by{rcases ĉ j w2 with h|h;{exact h};{have:w1-j=0:=ω;rw [this,Ō] at c;omega}};have:=at_ (j*sz+k) v ω hm;refine ⟨⟨bk,j*sz,none⟩,?_,?_⟩;{unfold nS;rw [Ã ω,i ω];simp [ae,add_zero']};{rw [<-add_zero',A6,add_zero'];exact this}};{intro k v hm;have c:=(ĥ.1 hm).1;rw [t1] at c;rw [ğ,Ä c] at hm;have hw:0<w2:=by{rcases Ĳ w2 with h|h;{have:j=0:=ω;rw [this,Ō] at c;omega};{exact h}};exact ⟨⟨bk,0,none⟩,i hw,by rw [add_zero'];exact at_ k v hw hm⟩};{intro r;by_cases hw:0<w2;{rw [i hw] at r;cases r};{omega}};{have z:es.take (1*sz)=es:=by{rw [ŋ,<-he,ě]};rw [z];unfold aJ;rw [Nat.ble_eq_true_of_le (by rw [í,b];omega),cond_true,Wy5,Wq3 (by rw [b];exact Ù _),Qv3 (by rw [b];exact Ù _)]};{have l:j<=O.length:=ω;refine ⟨by rw [í,é,Ą,Ĵ];omega,w,?_,?_⟩;{have E:(j+(1+(w1-j)))*sz=j*sz+(1+(w1-j))*sz:=đ ..;rw [í,í,t1,b];omega};{rw [n];exact MW p l he hx hs}}
end Go.Proofs.Tryz
