import Derived.Test.YtmamnfmhdcahmaaGreatDoorW12
import Derived.Test.YtmamnfmhdcahmaaGreatDoorW7
set_option linter.all false
open Go.IntKind (i64 u64 u32)
open Go.Value renaming slice→pT,agg→dB,bool→Õ,int→Ô,tuple→æ,pointer→qvZ
open Go.Eng Go.Big
namespace Go.Proofs.Tryz
variable{V:Ó}{p:OA}{c n:Nat}
theorem fE (b){x}(h:RN V p n c x):À 85 #[Õ b,pT p n c] V λr W=>RI W r (if b then -(x:Int) else x):=by have f:=iM h.len;refine L_ V _ ⟨λa e d=>?_,λa e d=>?_⟩;{rw [Ä a];refine RI.mk ?_ ?_;{rw [ļ,Ñ,Ñ];omega};{rw [Ŧ,ħ];exact h.le d}};{rw [a,Ã φ];refine RI.mk ?_ ?_;{symm;rw [Ò];omega};{rw [ħ];exact h.le d}}
theorem lM {b x z}(h:RN V p n c x)(Z:(if b then -(x:Int) else x)=z):À 85 #[Õ b,pT p n c] V λr W=>∃(F:ut)(M:OA)(N O:Nat),r=dB #[Õ F,pT M N O]/\∀E:un,W.Le E->RI E (dB #[Õ F,pT M N O]) z:=by refine (fE b h).s ?_;rintro r V2 a ⟨d,e,f,rfl,g⟩;rw [Z] at g ⊢;exact qyW ⟨rfl,λE i=>⟨_,_,_,rfl,ra⟩⟩
theorem QF (n)(E:-9223372036854775808<=n)(F:n<=9223372036854775807):À 93 #[Jq n] V λr W=>RI W r n:=by refine OB V _ ⟨λa b c=>?_,λa b c=>?_⟩;{have a:n<0:=by{simpa using a};have e:u64.wrap (0-u64.wrap n)=((-n).toNat:Int):=by{rw [An,An];omega};rw [e];refine (fF _).s ?_;rintro r V2 d ⟨f,g,h,rfl,i⟩;exact ⟨_,_,_,rfl,λj k=>lM ra (by simp;omega)⟩};{have a:0<=n:=by{simpa using a};have e:u64.wrap n=(n.toNat:Int):=by{rw [bq ω];omega};rw [e];refine (fF _).s ?_;rintro r V2 d ⟨f,g,h,rfl,i⟩;exact ⟨_,_,_,rfl,λj k=>lM ra (by simp;omega)⟩}
theorem po (z:Int)(h:RN V p n c z.natAbs):À 164 #[dB #[Õ (decide (z<0)),pT p n c]] V λr W=>r=Jq z.sign:=by have f:=iM h.len;refine Mc V _ ⟨λb d e=>?_,λb=>⟨λa d e=>?_,λa d e=>?_⟩⟩;{have:z=0:=by{simp at b;omega};rw [this];rfl};{rw [Ñ] at a;rw [Qd2 a]};{rw [Ò] at a;have:0<z:=by{simp at b;omega};rw [Qf8 this]}
theorem jN (z:Int)(h:RN V p n c z.natAbs):À 92 #[dB #[Õ (decide (z<0)),pT p n c]] V λr W=>RI W r (-z):=by refine I0 V _ λb d=>lM ra ?_;by_cases a:z<0<;>simp [a]<;>omega
theorem nU (z w:Int){q m e}(E:RN V p n c z.natAbs)(F:RN V q m e w.natAbs)(hm:(ai z.natAbs).length+(ai w.natAbs).length<=2^40:=by omega):À 147 #[dB #[Õ (decide (z<0)),pT p n c],dB #[Õ (decide (w<0)),pT q m e]] V λr W=>RI W r (z*w):=by
 refine OD V _ λb d=>(dy ra ra hm).s ?_;rintro r V2 f ⟨g,h,i,rfl,a⟩;rw [ag,ag] at a;refine ⟨_,_,_,rfl,λj k=>lM ra ?_⟩
 conv=>rhs;rw [((aX z).symm),((aX w).symm)]
 unfold bJ;rw [ag,ag];cases decide (z<0)<;>cases decide (w<0)<;>simp [Wk1,Wx3]
theorem xR (z w:Int){q m e}(F:RN V p n c z.natAbs)(M:RN V q m e w.natAbs)(hm:(ai z.natAbs).length<=2^40)(E:(ai w.natAbs).length<=2^40:=by omega):À 145 #[dB #[Õ (decide (z<0)),pT p n c],dB #[Õ (decide (w<0)),pT q m e]] V λr W=>RI W r (z+w):=by refine Ox V _ ⟨λf l o=>(QG ra ra hm E).s ?_,λf l o=>(kU ra ra hm E).s ?_⟩;{rintro r V2 s ⟨g,h,i,rfl,b⟩;rw [ag,ag] at b;refine ⟨_,_,_,rfl,λj k=>lM ra ?_⟩;by_cases d:z<0<;>by_cases hw:w<0<;>simp [d,hw] at f⊢<;>omega};{rintro r V2 s rfl;refine ⟨_,rfl,λa j k=>?_,λa j k=>?_⟩;{have a:z.natAbs<w.natAbs:=by{simpa [iJ] using a};refine (uK ra ra E (aR (Qs3 a)) (by rw [ag,ag];omega)).s ?_;rintro r t u ⟨g,h,i,rfl,b⟩;rw [ag,ag] at b;refine ⟨_,_,_,rfl,λv x=>lM ra ?_⟩;by_cases d:z<0<;>by_cases hw:w<0<;>simp [d,hw] at f⊢<;>omega};{have a:w.natAbs<=z.natAbs:=by{simpa [<-Ww8,iJ] using a};refine (uK ra ra hm (aR a) (by rw [ag,ag];omega)).s ?_;rintro r t u ⟨g,h,i,rfl,b⟩;rw [ag,ag] at b;refine ⟨_,_,_,rfl,λv x=>lM ra ?_⟩;by_cases d:z<0<;>by_cases hw:w<0<;>simp [d,hw] at f⊢<;>omega}}
end Go.Proofs.Tryz
namespace Go.Eng
def Ac (d:Nat):List Nat:=if d=1 then [] else ai d
def RQ (V:Ó)(v:Value)(q:Rat):Prop:=∃p n c p' n' c',v=.agg #[.bool (decide (q.num<0)),.slice p n c,.slice p' n' c'] /\
 RD V p n c (ai q.num.natAbs)/\RD V p' n' c' (Ac q.den)
theorem RQ.le {V V' v q}(h:RQ V v q)(l:V.Le V'):RQ V' v q:=by obtain ⟨p,n,c,a,b,d,e,g,f⟩:=h;exact ⟨p,n,c,a,b,d,e,ra,f.le l⟩
def Kg {q:Rat}:Ac q.den=[]↔q.den=1:=by unfold Ac;split;{rename_i h;simp [h]};{rename_i h;rw [bR];have:=q.den_nz;omega}
end Go.Eng
namespace Go.Proofs.Tryz
variable{V:Ó}{p p':OA}{c c' k m n n':Nat}{x y:Rat}{v w:Value}
theorem q_ {q:Rat}(h:RD V p n c (Ac q.den)):n=0↔q.den=1:=by rw [<-Kg,h.len,Ĝ]
theorem dP (q:Rat)(b)(E:RD V p' n' c' (Ac q.den)):À 84 #[dB #[Õ b,pT p n c,pT p' n' c']] V λr W=>∃F M c1,r=pT F M c1/\RN W F M c1 q.den:=by have d:=q_ E;refine Oz V _ ⟨λa f h=>sR.s ?_,λa f h=>⟨_,_,_,rfl,?_⟩⟩;{rintro r V2 i ⟨F,M,c1,rfl,g⟩;have:q.den=1:=d.1 (by simp at a;omega);rw [this];exact ⟨_,_,_,rfl,λj k=>⟨_,_,_,rfl,ra⟩⟩};{have:q.den≠1:=λe=>by{have:=d.2 e;simp at a;omega};unfold Ac at E;rw [Ã this] at E;exact ra}
theorem uh {q}{z:Int}{d}(E:q.num=z)(F:q.den=d)(M:RD V p n c (ai z.natAbs))(N:RD V p' n' c' (Ac d)){b}(O:b=decide (z<0)):RQ V (dB #[Õ b,pT p n c,pT p' n' c']) q:=by subst E F O;exact qyZ ⟨rfl,M,N⟩
theorem pj (z){d q e}(hx:RN V p n c z.natAbs)(hy:RN V q m e d)(hm:(ai z.natAbs).length<=2^38)(hn:(ai d).length<=2^38)(hd:d≠0):À 146 #[dB #[Õ (decide (z<0)),pT p n c],pT q m e] V λr W=>RQ W r (mkRat z d):=by refine LY V _ λZ D=>(ph ra ra hm hn).s ?_;rintro r V2 E ⟨p1,n1,c1,rfl,F⟩;have o:=Ń z.natAbs d;have s:0<Nat.gcd z.natAbs d:=Wz7 _ ω;have h:=Ą (aR (Ww5 ω (ŝ z.natAbs d))) hn;have u:(mkRat z d).num=z/(Nat.gcd d z.natAbs:Nat):=by{rw [Qs8,Ã hd]};have a:(mkRat z d).den=d/Nat.gcd d z.natAbs:=by{rw [Ww4,Ã hd]};rw [Ť d] at u a;generalize hG:Nat.gcd z.natAbs d=g at *;generalize mkRat z d=w at *;refine ⟨_,_,_,rfl,λV3 v=>sR.s ?_⟩;rintro r V4 x ⟨p2,n2,c2,rfl,h1⟩;refine ⟨_,_,_,rfl,λV5 y=>(kU ra ra ω φ).s ?_⟩;rintro r V6 A rfl;replace hx:=hx.le (D.m (E.m (v.m (x.m (y.m A)))));replace hy:=hy.le (D.m (E.m (v.m (x.m (y.m A)))));replace F:=F.le (v.m (x.m (y.m A)));refine ⟨_,rfl,λG V7 l7=>(fX ra ra hm h s).s ?_,λG qh iX=>sR.s ?_⟩;{rintro r V8 l8 ⟨p4,n4,c4,p5,n5,c5,rfl,H,-⟩;have I:(mkRat z d).num.natAbs=(mkRat z d).num.natAbs:=rfl;obtain ⟨k,B⟩:=o;have C:z.natAbs/g=k:=by{rw [B,Nat.mul_div_cancel_left _ s]};rw [C] at H;have J:z=(g:Int)*(if z<0 then -(k:Int) else k):=by{split;{rw [Wx3,<-Ř,<-B];omega};{rw [<-Ř,<-B];omega}};have b:w.num=(if z<0 then -(k:Int) else k):=by{rw [u];generalize (if z<0 then -(k:Int) else k)=t at *;rw [J,Qg8 _ ω]};refine qyZ ⟨rfl,λV9 l9=>(fE _ ra).s ?_⟩;have i:(if decide (z<0)=true then -(k:Int) else k)=w.num:=by{rw [b];simp};rw [i];rintro r gx K ⟨p7,n7,c7,rfl,g2⟩;refine qyW ⟨rfl,λfu dM=>(fX ra ra hn h s).s ?_⟩;rintro r iD eN ⟨p8,n8,c8,p9,n9,c9,rfl,L,-⟩;rw [<-a] at L;refine qyZ ⟨rfl,λkE fw=>sR.s ?_⟩;rintro r mg hZ ⟨M,N,O,rfl,P⟩;have Q:(ai w.den).length<=2^38:=by{rw [a];exact Ą (aR (Qc7 _ _)) hn};refine ⟨_,_,_,rfl,λmz eH=>(kU ra ra ω φ).s ?_⟩;rintro r mh fP rfl;refine ⟨_,rfl,λf R S=>uh rfl rfl ra ?_ rfl,λf T U=>uh rfl rfl ra ?_ rfl⟩;{have:w.den=1:=nY.1 (by simpa using f);rw [Kg.2 this];exact RD.nil};{have:w.den≠1:=λe=>by{rw [nY.2 e] at f;simp at f};unfold Ac;rw [Ã this];exact ra}};{have j:=nY.1 (by simpa using G);have b:w.num=z:=by{rw [u,j];simp};have l:w.den=d:=by{rw [a,j];simp};rintro r jZ gG ⟨W,X,Y,rfl,P⟩;refine ⟨_,_,_,rfl,λqN mo=>(kU ra ra ω φ).s ?_⟩;rintro r tR oB rfl;refine ⟨_,rfl,λf R S=>uh b l ra ?_ rfl,λf T U=>uh b l ra ?_ rfl⟩;{have:d=1:=nY.1 (by simpa using f);unfold Ac;rw [Ä this];exact RD.nil};{have:d≠1:=λe=>by{rw [nY.2 e] at f;simp at f};unfold Ac;rw [Ã this];exact ra}}
theorem dR (n)(E:-9223372036854775808<=n)(F:n<=9223372036854775807:=by omega):À 49 #[Jq n] V λr W=>RQ W r (n:Rat):=by refine Si V _ λa b=>(QF n E F).s ?_;rintro r V2 e ⟨p,m,c,rfl,g⟩;exact qyW ⟨rfl,λf h=>uh (z:=n) (d:=1) rfl rfl ra RD.nil rfl⟩
theorem sS (q:Rat)(E:RD V p n c (ai q.num.natAbs)):À 95 #[dB #[Õ (decide (q.num<0)),pT p n c,pT p' n' c']] V λr W=>r=Jq q.num.sign:=by refine Wc V _ λa b=>(po q.num ra).s ?_;rintro r V2 d rfl;exact ⟨_,rfl,λe f=>rfl⟩
theorem nV (q:Rat)(F:RD V p n c (ai q.num.natAbs))(E:RD V p' n' c' (Ac q.den)):À 80 #[dB #[Õ (decide (q.num<0)),pT p n c,pT p' n' c']] V λr W=>RQ W r (-q):=by refine OG V _ λb a=>(jN q.num ra).s ?_;rintro r V2 e ⟨f,h,i,rfl,g⟩;exact qyW ⟨rfl,λj k=>uh (q:=-q) (z:=-q.num) (d:=q.den) (by rfl) (by rfl) ra ((E.le a).le ax) rfl⟩
theorem xS {x}(h:RN V p n c x):À 85 #[Õ false,pT p n c] V λr W=>RI W r (x:Int):=by have:=fE false h;rwa [Ã φ] at this
theorem dz (h:Sz k x):(ai x.num.natAbs).length<=k/\(ai x.den).length<=k/\(ai (x.den:Int).natAbs).length<=k:=⟨ah h.1,ah h.2,ah h.2⟩
theorem dY (hx:RQ V v x)(hy:RQ V w y){k m}(hk:Sz k x)(hm:Sz m y)(hkm:k+m<2^38):À 81 #[v,w] V λr W=>RQ W r (x+y):=by obtain ⟨p,n,c,l,o,s,rfl,t,b⟩:=hx;obtain ⟨q,i,e,u,A,B,rfl,C,f⟩:=hy;obtain ⟨b1,b2,b3,b4⟩:=Bx hk hm;have ⟨d1,d2,d3⟩:=dz hk;have ⟨d4,d5,d6⟩:=dz hm;have a:=Rat.add_def' x y;refine (λtail=>Mb V _ ⟨λD=>⟨λE F G=>?_,λ_=>tail⟩,λ_=>tail⟩) ?_;{clear tail;refine (xR x.num y.num ra ra ω).s ?_;rintro r V2 H ⟨p2,n2,c2,rfl,g⟩;have I:x+y=((x.num+y.num:Int):Rat):=by{rw [a,((q_ b).1 (by simp at D;omega)),((q_ f).1 (by simp at E;omega))];simp [Qh4]};rw [I];exact qyW ⟨rfl,λJ K=>uh (z:=x.num+y.num) (d:=1) rfl rfl ra RD.nil rfl⟩};{intro F G;refine (dP y _ ra).s ?_;rintro r V2 H ⟨p1,n1,c1,rfl,g1⟩;refine ⟨_,_,_,rfl,λJ K=>(xS ra).s ?_⟩;rintro r V4 l4 ⟨p3,n3,c3,rfl,g3⟩;refine qyW ⟨rfl,λV5 l5=>(nU x.num y.den ra ra).s ?_⟩;rintro r V6 l6 ⟨p5,n5,c5,rfl,g5⟩;refine qyW ⟨rfl,λV7 l7=>(dP x _ ra).s ?_⟩;rintro r V8 l8 ⟨p7,n7,c7,rfl,g7⟩;refine ⟨_,_,_,rfl,λV9 l9=>(xS ra).s ?_⟩;rintro r gx L ⟨p9,n9,c9,rfl,g9⟩;refine qyW ⟨rfl,λfu dM=>(nU y.num x.den ra ra).s ?_⟩;rintro r iD eN ⟨M,N,O,rfl,P⟩;refine qyW ⟨rfl,λkE fw=>(xR _ _ ra ra (Ą (ah b1) ω) (Ą (ah b2) ω)).s ?_⟩;rintro r mg hZ ⟨Q,R,S,rfl,T⟩;refine qyW ⟨rfl,λmz eH=>(dP x _ ra).s ?_⟩;rintro r mh fP ⟨U,W,X,rfl,Y⟩;refine ⟨_,_,_,rfl,λmX gX=>(dP y _ ra).s ?_⟩;rintro r nM gy ⟨Z,a0,a1,rfl,a2⟩;refine ⟨_,_,_,rfl,λqh iX=>(dy ra ra).s ?_⟩;rintro r jZ gG ⟨a3,a4,a5,rfl,h⟩;rw [ag,ag] at h;refine ⟨_,_,_,rfl,λqN mo=>(pj _ ra ra (Ą (ah b3) ω) (Ą (ah b4) ω) (Ō x.den_nz y.den_nz)).s ?_⟩;rw [a];rintro r tR oB ⟨a6,a7,a8,a9,b0,b5,rfl,b6,j⟩;exact qyK ⟨rfl,λsO mL=>⟨_,_,_,_,_,_,rfl,ra,j.le mL⟩⟩}
theorem im (Z:RQ V v x)(hy:RQ V w y)(hk:Sz k x)(hm:Sz m y)(hkm:k+m<2^38:=by omega):À 165 #[v,w] V λr W=>RQ W r (x-y):=by obtain ⟨p,n,c,a,b,d,rfl,f,g⟩:=id Z;obtain ⟨q,i,e,h,j,l,rfl,o,s⟩:=hy;refine OH V _ λA B=>(nV y ra ra).s ?_;rintro r V2 C t;obtain ⟨D,E,F,G,H,I,rfl,J,K⟩:=id t;refine qyK ⟨rfl,λL M=>(dY ra ra hk hm.neg hkm).s ?_⟩;rw [<-Qs9];rintro r N O ⟨P,Q,R,S,T,U,rfl,W,u⟩;exact qyK ⟨rfl,λX z=>⟨_,_,_,_,_,_,rfl,ra,u.le z⟩⟩
theorem e_ (Z:RQ V v x)(hy:RQ V w y)(hk:Sz k x)(hm:Sz m y)(hkm:k+m<2^38:=by omega):À 163 #[v,w] V λr W=>r=Jq (cT x y):=by have a:=Z;have b:=hy;obtain ⟨p,n,c,d,f,g,rfl,h,j⟩:=Z;obtain ⟨q,i,e,l,o,s,rfl,t,u⟩:=hy;refine Wb V _ λz A=>(im ra ra hk hm hkm).s ?_;rintro r V2 B ⟨C,D,E,F,G,H,rfl,I,J⟩;refine qyK ⟨rfl,λK L=>(sS (x-y) ra).s ?_⟩;rintro r M N rfl;exact ⟨_,rfl,λO P=>rfl⟩
theorem bF (hx:RQ V v x)(hy:RQ V w y){k m}(hk:Sz k x)(hm:Sz m y)(hkm:k+m<2^38):À 82 #[v,w] V λr W=>RQ W r (x*y):=by obtain ⟨p,n,c,j,l,o,rfl,s,b⟩:=hx;obtain ⟨q,i,e,t,u,A,rfl,B,f⟩:=hy;have ⟨d1,d2,d3⟩:=dz hk;have ⟨d4,d5,d6⟩:=dz hm;have a:=Wj6 x y;have b1:(x.num*y.num).natAbs<2^(k+m):=by{rw [ł];exact cz hk.1 hm.1};refine (λtail=>I2 V _ ⟨λC=>⟨λD E F=>?_,λ_=>tail⟩,λ_=>tail⟩) ?_;{clear tail;refine (nU x.num y.num ra ra).s ?_;rintro r V2 G ⟨H,I,J,rfl,g⟩;have K:x*y=((x.num*y.num:Int):Rat):=by{rw [a,((q_ b).1 (by simp at C;omega)),((q_ f).1 (by simp at D;omega))];simp [Qh4]};rw [K];exact qyW ⟨rfl,λL M=>uh (z:=x.num*y.num) (d:=1) rfl rfl ra RD.nil rfl⟩};{intro E F;refine (nU x.num y.num ra ra).s ?_;rintro r V2 G ⟨H,I,J,rfl,X⟩;refine qyW ⟨rfl,λL M=>(dP x _ ra).s ?_⟩;rintro r Y Z ⟨p4,n4,c4,rfl,g4⟩;refine ⟨_,_,_,rfl,λV5 l5=>(dP y _ ra).s ?_⟩;rintro r V6 l6 ⟨p6,n6,c6,rfl,g6⟩;refine ⟨_,_,_,rfl,λV7 l7=>(dy ra ra).s ?_⟩;rintro r V8 l8 ⟨p8,n8,c8,rfl,N⟩;rw [ag,ag] at N;refine ⟨_,_,_,rfl,λV9 l9=>(pj _ ra ra (Ą (ah b1) ω) (Ą (ah (cz hk.2 hm.2)) ω) (Ō x.den_nz y.den_nz)).s ?_⟩;rw [a];rintro r tR oB ⟨O,P,Q,R,S,T,rfl,U,h⟩;exact qyK ⟨rfl,λsO W=>⟨_,_,_,_,_,_,rfl,ra,h.le W⟩⟩}
end Go.Proofs.Tryz
namespace Go.Eng
variable{V:Ó}
def RP (V:Ó)(v:Value)(x y:Rat):Prop:=∃p n c p' n' c' q m e E F M,v=.agg #[.bool (decide (x.num<0)),.slice p n c,.slice p' n' c',.bool (decide (y.num<0)),.slice q m e,.slice E F M] /\
 RQ V (.agg #[.bool (decide (x.num<0)),.slice p n c,.slice p' n' c']) x/\RQ V (.agg #[.bool (decide (y.num<0)),.slice q m e,.slice E F M]) y
theorem RP.le {V V' v x y}(h:RP V v x y)(l:V.Le V'):RP V' v x y:=by obtain ⟨p,n,c,a,b,d,q,m,e,f,g,i,rfl,j,k⟩:=h;exact ⟨p,n,c,a,b,d,q,m,e,f,g,i,rfl,ra,ra⟩
theorem RQ.shape {v q}(h:RQ V v q):∃p n c p' n' c',v=dB #[Õ (decide (q.num<0)),pT p n c,pT p' n' c']:=by obtain ⟨p,n,c,p',n',c',e,-⟩:=h;exact qyZ e
theorem RQ.ex {r q}{K:ut->OA->Nat->Nat->OA->Nat->Nat->Prop}(g:RQ V r q)(h:∀t:OA×Nat×Nat×OA×Nat×Nat,RQ V (dB #[Õ (decide (q.num<0)),pT t.1 t.2.1 t.2.2.1,pT t.2.2.2.1 t.2.2.2.2.1 t.2.2.2.2.2]) q->K (decide (q.num<0)) t.1 t.2.1 t.2.2.1 t.2.2.2.1 t.2.2.2.2.1 t.2.2.2.2.2):∃b p n c p' n' c',r=dB #[Õ b,pT p n c,pT p' n' c']/\K b p n c p' n' c':=by obtain ⟨_,_,_,_,_,_,rfl⟩:=g.shape;exact qyK ⟨rfl,h (_,_,_,_,_,_) g⟩
theorem RP.ex {r x y}{K:ut->OA->Nat->Nat->OA->Nat->Nat->ut->OA->Nat->Nat->OA->Nat->Nat->Prop}(g:RP V r x y)(h:∀t u:OA×Nat×Nat×OA×Nat×Nat,RP V (dB #[Õ (decide (x.num<0)),pT t.1 t.2.1 t.2.2.1,pT t.2.2.2.1 t.2.2.2.2.1 t.2.2.2.2.2,Õ (decide (y.num<0)),pT u.1 u.2.1 u.2.2.1,pT u.2.2.2.1 u.2.2.2.2.1 u.2.2.2.2.2]) x y ->RQ V (dB #[Õ (decide (x.num<0)),pT t.1 t.2.1 t.2.2.1,pT t.2.2.2.1 t.2.2.2.2.1 t.2.2.2.2.2]) x->RQ V (dB #[Õ (decide (y.num<0)),pT u.1 u.2.1 u.2.2.1,pT u.2.2.2.1 u.2.2.2.2.1 u.2.2.2.2.2]) y->K (decide (x.num<0)) t.1 t.2.1 t.2.2.1 t.2.2.2.1 t.2.2.2.2.1 t.2.2.2.2.2 (decide (y.num<0)) u.1 u.2.1 u.2.2.1 u.2.2.2.1 u.2.2.2.2.1 u.2.2.2.2.2):∃b p n c p' n' c' d q m e E F M,r=dB #[Õ b,pT p n c,pT p' n' c',Õ d,pT q m e,pT E F M]/\K b p n c p' n' c' d q m e E F M:=by obtain ⟨_,_,_,_,_,_,_,_,_,_,_,_,rfl,a,f⟩:=id g;exact qyJ ⟨rfl,h (_,_,_,_,_,_) (_,_,_,_,_,_) g a f⟩
end Go.Eng
namespace Go.Proofs.Tryz
variable{V:Ó}{u w:Value}{px py qx qy:Rat}
theorem zd {p n c ds}(h:RD V p n c ds)(hm:ds.length<=2^40:=by omega):À 155 #[pT p n c] V λr W=>∃E F c1,r=pT E F c1/\RD W E F c1 ds:=by have a:=h.len;refine I4 V _ ⟨aN ds,h.sl,by simp [a],ω,ω,ψ,by simp [a],?_,?_⟩;{intro v e;simp only [aN,ù] at e;obtain ⟨d,-,rfl⟩:=e;rfl};{intro i J sp j f k l m b g;refine ⟨_,_,_,rfl,?_⟩;simp only [Ĉ,œ,Qf4,ŗ] at g f ⊢;exact İ h.gC a f g}
theorem mE {v z}(h:RI V v z)(hm:(ai z.natAbs).length<=2^40:=by omega):À 89 #[v] V λr W=>RI W r z:=by obtain ⟨p,n,c,rfl,h⟩:=h;refine I3 V _ λa b=>(zd ra hm).s ?_;rintro r V2 d ⟨e,f,i,rfl,g⟩;exact ⟨_,_,_,rfl,λj k=>⟨_,_,_,rfl,ra⟩⟩
theorem dG (x y)(E:-9223372036854775808<=x)(F:x<=9223372036854775807)(M:-9223372036854775808<=y)(N:y<=9223372036854775807:=by omega):À 38 #[Jq x,Jq y] V λr W=>RP W r (x:Rat) (y:Rat):=by refine Mk V _ λc d=>(dR x E F).s λr V2 e a=>RQ.ex a λ_ a=>λf g=>(dR y M N).s λr h i b=>RQ.ex b λ_ b=>λj k=>⟨_,_,_,_,_,_,_,_,_,_,_,_,rfl,ra,ra⟩
theorem fG {v c}(hp:RP V u px py)(hc:RQ V v c)(hq:RP V w qx qy){k m}(s1:Sz k px)(s2:Sz k py)(s3:Sz m c)(s4:Sz m qx)(s5:Sz m qy)(hkm:k+(m+m+1)<2^38):À 48 #[u,v,w] V λr W=>RP W r (px+c*qx) (py+c*qy):=by obtain ⟨f,g,h,i,j,l,n,o,p,q,s,t,rfl,x,y⟩:=hp;obtain ⟨z,A,B,C,D,E,rfl⟩:=hc.shape;obtain ⟨F,G,H,I,J,K,L,M,N,O,P,Q,rfl,R,S⟩:=hq;refine I6 V _ λT U=>(bF ra ra s3 s4 ω).s λr V2 W a=>RQ.ex a λ_ a=>λX Y=>(dY ra ra s1 (s3.mul s4) ω).s λr Z l4 b=>RQ.ex b λ_ b=>λV5 l5=>(bF ra ra s3 s5 ω).s λr V6 l6 d=>RQ.ex d λ_ d=>λV7 l7=>(dY ra ra s2 (s3.mul s5) ω).s λr V8 l8 e=>RQ.ex e λ_ e=>λV9 l9=>⟨_,_,_,_,_,_,_,_,_,_,_,_,rfl,ra,ra⟩
theorem YF:Sz 1 ((-1:Int):Rat):=by unfold Sz;decide
theorem qX (hp:RP V u px py)(hq:RP V w qx qy){k m}(s1:Sz k px)(s2:Sz k py)(s4:Sz m qx)(s5:Sz m qy)(hm:1<=m)(hkm:k+(m+m+1)<2^38:=by omega):À 79 #[u,w] V λr W=>RP W r (px-qx) (py-qy):=by have e:=hp;have f:=hq;obtain ⟨g,h,i,j,l,n,o,p,q,s,t,v,rfl,-,-⟩:=hp;obtain ⟨x,y,c,z,A,B,C,D,E,F,G,H,rfl,-,-⟩:=hq;refine Jb V _ λL M=>(dR (-1) ω).s λr V2 N d=>RQ.ex d λ_ d=>λO P=>(fG ra ra ra s1 s2 (YF.s hm) s4 s5 hkm).s ?_;have c:∀a b:Rat,a+((-1:Int):Rat)*b=a-b:=by{intro a b;have:((-1:Int):Rat)=-1:=rfl;rw [this,Rat.neg_mul,Rat.one_mul,Qs9]};rw [c,c];rintro r Q R ⟨b1,b2,b3,b4,S,T,U,W,X,I,J,K,rfl,Y,Z⟩;exact qyJ ⟨rfl,λV5 l5=>⟨_,_,_,_,_,_,_,_,_,_,_,_,rfl,ra,ra⟩⟩
theorem pC (Z:RP V u px py)(hq:RP V w qx qy){k m}(s1:Sz k px)(s2:Sz k py)(s4:Sz m qx)(s5:Sz m qy)(hkm:k+m<2^38:=by omega):À 94 #[u,w] V λr W=>r=Õ (decide (px=qx/\py=qy)):=by obtain ⟨b,c,d,f,g,i,j,l,n,o,p,q,rfl,s,t⟩:=Z;obtain ⟨v,x,y,z,A,B,C,D,E,F,G,H,rfl,I,J⟩:=hq;refine Fi V _ λM N=>(e_ ra ra s1 s4 hkm).s ?_;rintro r V2 O rfl;refine ⟨_,rfl,λa K L=>(e_ ra ra s2 s5 hkm).s ?_,λa K L=>?_⟩;{have a:=iK.2 (by simpa using a);rintro r P Q rfl;refine ⟨_,rfl,λR S=>?_⟩;congr 1;rw [ļ,Ñ,Ë,<-iK];exact ⟨λh=>⟨a,h⟩,λh=>h.2⟩};{have a:¬px=qx:=λe=>by{rw [iK.1 e] at a;simp at a};rw [È λh=>a h.1]}
end Go.Proofs.Tryz
namespace Go.Eng
def RL (V:Ó)(v:Value)(a b c:Int):Prop:=∃p n s p' n' s' q m e,v=.agg #[.bool (decide (a<0)),.slice p n s,.bool (decide (b<0)),.slice p' n' s',.bool (decide (c<0)),.slice q m e] /\
 RD V p n s (ai a.natAbs)/\RD V p' n' s' (ai b.natAbs)/\RD V q m e (ai c.natAbs)
theorem RL.le {V V' v a b c}(h:RL V v a b c)(l:V.Le V'):RL V' v a b c:=by obtain ⟨p,n,s,d,f,g,q,m,e,rfl,j,i,k⟩:=h;exact ⟨p,n,s,d,f,g,q,m,e,rfl,ra,i.le l,ra⟩
end Go.Eng
namespace Go.Proofs.Tryz
variable{V:Ó}{a b c z:Int}{v:Value}
theorem En {p q n c m e xs ys}(E:RD V p n c xs)(F:RD V q m e ys)(hm:xs.length<=2^40):À 154 #[pT p n c,pT q m e] V λr W=>r=Õ (decide (xs=ys)):=by have g:=E.len;have s:=F.len;refine DS V _ ⟨λb t u=>?_,λb=>?_⟩;{have b:n≠m:=by{simp at b;omega};rw [È λh=>b (by rw [g,s,h])]};{have b:n=m:=by{simp at b;omega};(refine ⟨λz V'=>0<=z/\z<=n/\xs.take z.toNat=ys.take z.toNat,λz=>n-z.toNat,⟨0,by and_intros<;>first|exact True.intro|rfl,ω,ω,rfl⟩,?_⟩;rintro i V2 o ⟨j,k,d⟩;dsimp only at k d ⊢;obtain ⟨i,rfl⟩:=č j;simp only [Ü] at d;refine ⟨θ,λf=>?_,λf v x=>?_⟩);{have f:i<n:=by{simpa using f};refine (E.le o).rd i rfl ω ((F.le o).rd i rfl ω ⟨λa y A=>?_,λa=>?_⟩);{have a:xs[i]≠ys[i]:=by{simp at a;omega};rw [È λh=>a (by subst h;rfl)]};{have a:xs[i]=ys[i]:=by{simp at a;omega};have w:i64.wrap ((i:Int)+1)=((i+1:Nat):Int):=by{rw [au ω];omega};simp only [w];(refine ⟨((i+1:Nat):Int),?_,by and_intros<;>first|exact True.intro|rfl,ω,ω,?_⟩);{(try dsimp only);omega};{(try dsimp only);simp only [Ü];rw [Qz3 ω,Qz3 (l:=ys) ω,d,a]}}};{have f:i=n:=by{simp at f;omega};rw [Ŋ ω,Ŋ ω] at d;rw [Ç d]}}
theorem Vx {w:Int}:(decide (z<0)==decide (w<0))=true->(decide (ai z.natAbs=ai w.natAbs)=decide (z=w)):=by intro h;have b:(z<0↔w<0):=by{simpa using h};rw [ļ,Ñ,Ñ];constructor;{intro a;have:=vV a;omega};{intro a;rw [a]}
theorem nf {w:Int}{p q n c m e}(E:RD V p n c (ai z.natAbs))(F:RD V q m e (ai w.natAbs))(hm:(ai z.natAbs).length<=2^40):À 88 #[dB #[Õ (decide (z<0)),pT p n c],dB #[Õ (decide (w<0)),pT q m e]] V λr W=>r=Õ (decide (z=w)):=by refine DR V _ ⟨λa b d=>(En ra ra hm).s ?_,λa b d=>?_⟩;{rintro r V2 f rfl;refine ⟨_,rfl,λg i=>?_⟩;rw [Vx a]};{rw [È λh=>by subst h;simp at a]}
theorem Ev {w Z b' c'}(hx:RL V v a b c)(hy:RL V w Z b' c')(h1:(ai a.natAbs).length<=2^40)(h2:(ai b.natAbs).length<=2^40)(h3:(ai c.natAbs).length<=2^40):À 40 #[v,w] V λr W=>r=Õ (decide (a=Z/\b=b'/\c=c')):=by obtain ⟨p,n,s,g,l,o,q,m,e,rfl,A,B,C⟩:=hx;obtain ⟨i,j,k,t,u,x,i2,y,z,rfl,D,E,F⟩:=hy;refine DY V _ λG H=>(nf ra ra h1).s ?_;rintro r V2 I rfl;refine ⟨_,rfl,λd J K=>(nf ra ra h2).s ?_,λd L M=>?_⟩;{rintro r N O rfl;rw [Ñ] at d;refine ⟨_,rfl,λf P Q=>(nf ra ra h3).s ?_,λf R S=>?_⟩;{rintro r T U rfl;rw [Ñ] at f;refine ⟨_,rfl,λW X=>?_⟩;congr 1;rw [ļ,Ñ,Ñ];exact ⟨λh=>⟨d,f,h⟩,λh=>h.2.2⟩};{rw [Ò] at f;rw [È λh=>f h.2.1]}};{rw [Ò] at d;rw [È λh=>d h.1]}
theorem zg (Z:RL V v a b c)(h1:(ai a.natAbs).length<=2^40)(h2:(ai b.natAbs).length<=2^40)(h3:(ai c.natAbs).length<=2^40:=by omega):À 41 #[v] V λr W=>RL W r a b c:=by obtain ⟨p,n,s,d,f,g,q,m,e,rfl,i,j,k⟩:=Z;refine Jc V _ λl o=>(mE ⟨_,_,_,rfl,ra⟩ h1).s ?_;rintro r V2 t ⟨u,w,x,rfl,y⟩;refine qyW ⟨rfl,λz A=>(mE ⟨_,_,_,rfl,ra⟩ h2).s ?_⟩;rintro r B C ⟨D,E,F,rfl,h⟩;refine qyW ⟨rfl,λG H=>(mE ⟨_,_,_,rfl,ra⟩ h3).s ?_⟩;rintro r I J ⟨K,L,M,rfl,N⟩;exact qyW ⟨rfl,λO P=>⟨_,_,_,_,_,_,_,_,_,rfl,ra,h.le ax,ra⟩⟩
theorem B_ {g:Nat}(E:0<g)(F:g∣z.natAbs):(if decide (z<0)=true then -((z.natAbs/g:Nat):Int) else ((z.natAbs/g:Nat):Int))=z/(g:Int):=by obtain ⟨k,a⟩:=F;have b:z.natAbs/g=k:=by{rw [a,Nat.mul_div_cancel_left _ E]};rw [b];have c:z=(g:Int)*(if decide (z<0)=true then -(k:Int) else k):=by{split;{rename_i h;rw [Ñ] at h;rw [Wx3,<-Ř,<-a];omega};{rename_i h;rw [Ñ] at h;rw [<-Ř,<-a];omega}};generalize (if decide (z<0)=true then -(k:Int) else k)=t at *;rw [c,Qg8 _ ω]
def cj (a b c:Int):Nat:=Nat.gcd (Nat.gcd a.natAbs b.natAbs) c.natAbs
theorem Er {u w}(ha:RI V u a)(hb:RI V v b)(hc:RI V w c)(h1:(ai a.natAbs).length<=2^38)(h2:(ai b.natAbs).length<=2^38)(h3:(ai c.natAbs).length<=2^38):À 86 #[u,v,w] V λr W=>(a=0/\b=0->∃l,r=æ #[l,Õ false]/\RL W l 0 0 0)/\(¬(a=0/\b=0)->∃l,r=æ #[l,Õ true]/\RL W l (a/(cj a b c:Int)) (b/(cj a b c:Int)) (c/(cj a b c:Int))):=by obtain ⟨p,n,s,rfl,ha⟩:=ha;obtain ⟨t,x,y,rfl,hb⟩:=hb;obtain ⟨q,m,e,rfl,hc⟩:=hc;refine DW V _ λP Q=>(ph ra ra h1 h2).s ?_;rintro r V2 R ⟨S,T,U,rfl,z⟩;have W:=iM z.len;have f:Nat.gcd a.natAbs b.natAbs=0↔a=0/\b=0:=by{rw [Qr8];omega};refine ⟨_,_,_,rfl,λk X Y=>⟨λ_=>⟨_,rfl,_,_,_,_,_,_,_,_,_,rfl,RD.nil,RD.nil,RD.nil⟩,λh=>?_⟩,λk Z l4=>?_⟩;{exact Å (f.1 (by simp at k;omega)) h};have o:¬(a=0/\b=0):=λh=>by{have:=f.2 h;simp at k;omega};have i:0<Nat.gcd a.natAbs b.natAbs:=by{have:=f;omega};have j:(ai (Nat.gcd a.natAbs b.natAbs)).length<=2^38:=by{rcases ĵ a.natAbs with h|h;{rw [h,Wz8];exact h2};{exact Ą (aR (Nat.gcd_le_left _ h)) h1}};refine (ph ra ra j h3).s ?_;rintro r V5 l5 ⟨p2,n2,c2,rfl,A⟩;have B:Nat.gcd (Nat.gcd a.natAbs b.natAbs) c.natAbs=cj a b c:=rfl;have d:0<cj a b c:=Nat.gcd_pos_of_pos_left _ i;have g:(ai (cj a b c)).length<=2^38:=Ą (aR (Nat.gcd_le_left _ i)) j;have C:cj a b c∣a.natAbs:=Qt1 (Ń _ _) (Ń _ _);have D:cj a b c∣b.natAbs:=Qt1 (Ń _ _) (ŝ _ _);have E:cj a b c∣c.natAbs:=ŝ _ _;rw [B] at A;generalize cj a b c=G at *;refine ⟨_,_,_,rfl,λV6 l6=>(fX ra ra h1 g d).s ?_⟩;rintro r V7 l7 ⟨p3,n3,c3,p4,n4,c4,rfl,g3,-⟩;refine qyZ ⟨rfl,λV8 l8=>(fX ra ra h2 g d).s ?_⟩;rintro r V9 l9 ⟨p5,n5,c5,p6,n6,c6,rfl,g5,-⟩;refine qyZ ⟨rfl,λgx F=>(fX ra ra h3 g d).s ?_⟩;rintro r fu dM ⟨p7,n7,c7,p8,n8,c8,rfl,g7,-⟩;refine qyZ ⟨rfl,λiD eN=>(fE _ ra).s ?_⟩;rw [(B_ d C)];rintro r kE fw ⟨p9,n9,c9,rfl,g9⟩;refine qyW ⟨rfl,λmg hZ=>(fE _ ra).s ?_⟩;rw [(B_ d D)];rintro r mz eH ⟨H,I,J,rfl,K⟩;refine qyW ⟨rfl,λmh fP=>(fE _ ra).s ?_⟩;rw [(B_ d E)];rintro r mX gX ⟨L,M,N,rfl,O⟩;refine qyW ⟨rfl,λnM gy=>⟨λh=>Å h o,λ_=>⟨_,rfl,_,_,_,_,_,_,_,_,_,rfl,?_,?_,?_⟩⟩⟩;{exact ra};{exact ra};{exact ra}
end Go.Proofs.Tryz
namespace Go.Eng
def xB (V:Ó)(v:Value)(a b c:Rat):Prop:=∃(E F:Int)(p:OA)(M N:Int)(q:OA)(O Z:Int)(r:OA),v=.agg #[.int .i64 E,.int .i64 F,.pointer p,.int .i64 M,.int .i64 N,.pointer q,.int .i64 O,.int .i64 Z,.pointer r] /\
 RR V (.agg #[.int .i64 E,.int .i64 F,.pointer p]) a/\RR V (.agg #[.int .i64 M,.int .i64 N,.pointer q]) b/\RR V (.agg #[.int .i64 O,.int .i64 Z,.pointer r]) c
def Wz (v:Value):Prop:=∃(E F:Int)(M:OA)(N O:Int)(Z:OA)(z1 z2:Int)(z3:OA),v=.agg #[.int .i64 E,.int .i64 F,.pointer M,.int .i64 N,.int .i64 O,.pointer Z,.int .i64 z1,.int .i64 z2,.pointer z3]
theorem xB.le {V V' v a b c}(h:xB V v a b c)(l:V.Le V'):xB V' v a b c:=by obtain ⟨d,e,p,f,g,q,i,j,r,rfl,m,k,n⟩:=h;exact ⟨d,e,p,f,g,q,i,j,r,rfl,ra,k.le l,ra⟩
end Go.Eng
namespace Go.Proofs.Tryz
variable{V:Ó}{l p v w:Value}{EL EM Og a b cN fK jo jq l_1 q x y:Rat}{c k m n:Nat}
theorem QB {c}(h:xB V v a b c)(s1:Sz k a)(s2:Sz k b)(s3:Sz k c)(Z:k<=2^40):À 209 #[v] V λr W=>RL W r a.num b.num c.num:=by obtain ⟨e,f,p,g,i,q,j,l,r,rfl,m,n,o⟩:=h;refine E2 V _ λs t=>(gV ra s1 Z).s ?_;rintro r V2 u ⟨w,x,y,rfl,z⟩;refine qyW ⟨rfl,λA B=>(gV ra s2 Z).s ?_⟩;rintro r C D ⟨E,F,G,rfl,d⟩;refine qyW ⟨rfl,λH I=>(gV ra s3 Z).s ?_⟩;rintro r J K ⟨L,M,N,rfl,O⟩;exact qyW ⟨rfl,λP Q=>⟨_,_,_,_,_,_,_,_,_,rfl,ra,d.le ax,ra⟩⟩
def EI (b1:Bool)(xs:List Nat)(b2:Bool)(ys:List Nat)(b3:Bool)(E:List Nat):Bool:=
 qC b1 xs&&qC b2 ys&&qC b3 E&&!(decide ((bJ b1 xs:Rat)=0)&&decide ((bJ b2 ys:Rat)=0))&&decide (eG (eG (bJ b1 xs) (bJ b2 ys)) (bJ b3 E)=((1:Int):Rat))
theorem yx {ok A B C}(h:ok=false):∃v,Value.tuple #[dB #[Jq 0,Jq 0,qvZ none,Jq 0,Jq 0,qvZ none,Jq 0,Jq 0,qvZ none],Õ false]=æ #[v,Õ ok]/\Wz v/\(ok=true->xB V v A B C):=by subst h;exact ⟨_,rfl,⟨_,_,_,_,_,_,_,_,_,rfl⟩,λh=>nomatch h⟩
theorem Of:Sz 1 ((1:Int):Rat):=by unfold Sz;decide
theorem BP {V}(b1 b2 b3){p q s e i j xs ys zs}(hx:RD V p n c xs)(hy:RD V q m e ys)(hz:RD V s i j zs)(h1:xs.length<=2^40)(h2:ys.length<=2^40)(h3:zs.length<=2^40)(s1:Sz k (bJ b1 xs:Rat))(s2:Sz k (bJ b2 ys:Rat))(s3:Sz k (bJ b3 zs:Rat))(hk:4*k+4<2^40:=by omega):À 174 #[dB #[Õ b1,pT p n c,Õ b2,pT q m e,Õ b3,pT s i j]] V λr W=>∃v,r=æ #[v,Õ (EI b1 xs b2 ys b3 zs)]/\Wz v/\(EI b1 xs b2 ys b3 zs=true->xB W v (bJ b1 xs) (bJ b2 ys) (bJ b3 zs)):=by refine LP V _ λV1 J=>(jh b1 ra h1).s ?_;rintro r V2 K rfl;refine ⟨_,rfl,λd V3 l3=>yx ?_,λd V4 L=>(jh b2 ra h2).s ?_⟩;{have d:qC b1 xs=false:=by{simpa using d};simp [EI,d]};have d:qC b1 xs=true:=by{simpa using d};rintro r V5 M rfl;refine ⟨_,rfl,λf V6 l6=>yx ?_,λf V7 N=>(jh b3 ra h3).s ?_⟩;{have f:qC b2 ys=false:=by{simpa using f};simp [EI,f]};have f:qC b2 ys=true:=by{simpa using f};rintro r V8 O rfl;have u:=J.m (K.m (L.m (M.m (N.m O))));refine ⟨_,rfl,λf0 V9 l9=>yx ?_,λf0 gx P=>(oZ b1 ra h1).s ?_⟩;{have f0:qC b3 zs=false:=by{simpa using f0};simp [EI,f0]};have f0:qC b3 zs=true:=by{simpa using f0};rintro r fu dM ra;obtain ⟨x1,x2,x3,rfl⟩:=ra.shape;have o:=u.m ax;refine ⟨_,_,_,rfl,λiD Q=>(oZ b2 (hy.le ax) h2).s λr kE R b=>RR.ex b λ_ b=>λmg w=>(oZ b3 (hz.le ((o.m ax).m w)) h3).s ?_⟩;rintro r mz H rc;obtain ⟨z1,z2,z3,rfl⟩:=rc.shape;replace ra:=ra.le (Q.m (R.m (w.m H)));replace b:=b.le (w.m H);have t:EI b1 xs b2 ys b3 zs=(!(decide ((bJ b1 xs:Rat)=0)&&decide ((bJ b2 ys:Rat)=0))&&decide (eG (eG (bJ b1 xs) (bJ b2 ys)) (bJ b3 zs)=((1:Int):Rat))):=by{simp only [EI,d,f,f0,Bool.true_and]};rw [t];clear t d f f0 hx hy hz;generalize (bJ b1 xs:Rat)=A at *;generalize (bJ b2 ys:Rat)=B at *;generalize (bJ b3 zs:Rat)=C at *;refine ⟨_,_,_,rfl,λmh x=>(JL (ra.le x)).s ?_⟩;rintro r mX I rfl;refine ⟨_,rfl,λt0 nM S=>(JL (b.le ax)).s ?_,λt0 T y=>?_⟩;{rintro r qh U rfl;refine ⟨_,rfl,λz jZ gG=>yx (by rw [t0,z];rfl),λz T y=>?_⟩;have lb:=x.m (I.m (S.m (U.m y)));have D:(decide (A=0)&&decide (B=0))=false:=by{rw [z,Wv5]};rw [D];refine (k_ (ra.le lb) (b.le lb) s1 s2).s λr W X rg=>RR.ex rg λ_ rg=>λY E=>(k_ (rg.le E) (rc.le ax) (gU s1 s2) s3).s λr Z oC g=>RR.ex g λ_ g=>λBw zC=>(uI 1 ω).s λr Jw yr l=>RR.ex l λ_ l=>λMp F=>(nR (g.le ax) (l.le F) (gU (gU s1 s2) s3) Of).s ?_;rintro r YW Ns rfl;have lz:=lb.m ax;refine ⟨_,rfl,λa G Rl=>yx ?_,λa Wl Nt=>?_⟩;{rw [Ł] at a;rw [a];rfl};{have a:decide (eG (eG A B) C=((1:Int):Rat))=true:=by{cases h:decide (eG (eG A B) C=((1:Int):Rat));{rw [h] at a;cases a};{rfl}};rw [a];exact ⟨_,rfl,⟨_,_,_,_,_,_,_,_,_,rfl⟩,λ_=>⟨_,_,_,_,_,_,_,_,_,rfl,ra.le ax,b.le ax,rc.le ax⟩⟩}};{have lb:=x.m (I.m y);have D:(decide (A=0)&&decide (B=0))=false:=by{rw [t0,Bool.false_and]};rw [D];refine (k_ (ra.le lb) (b.le lb) s1 s2).s λr W X rg=>RR.ex rg λ_ rg=>λY E=>(k_ (rg.le E) (rc.le ax) (gU s1 s2) s3).s λr Z oC g=>RR.ex g λ_ g=>λBw zC=>(uI 1 ω).s λr Jw yr l=>RR.ex l λ_ l=>λMp F=>(nR (g.le ax) (l.le F) (gU (gU s1 s2) s3) Of).s ?_;rintro r YW Ns rfl;have lz:=lb.m ax;refine ⟨_,rfl,λa G Rl=>yx ?_,λa Wl Nt=>?_⟩;{rw [Ł] at a;rw [a];rfl};{have a:decide (eG (eG A B) C=((1:Int):Rat))=true:=by{cases h:decide (eG (eG A B) C=((1:Int):Rat));{rw [h] at a;cases a};{rfl}};rw [a];exact ⟨_,rfl,⟨_,_,_,_,_,_,_,_,_,rfl⟩,λ_=>⟨_,_,_,_,_,_,_,_,_,rfl,ra.le ax,b.le ax,rc.le ax⟩⟩}}
def RH:List Int->Int
 | []=>0
 | x::r=>if x=0 then RH r else x
def XC (l:List Int):List Value:=l.map λx=>Value.int .i64 x
theorem orI_eq {l}:RH l=0↔∀x∈l,x=0:=by
 induction l with
 | nil=>simp [RH]
 | cons x r E=>
  simp only [RH,ç,forall_eq_or_imp];split
  ·rename_i h;simp [h,E]
  ·rename_i h;simp [h]
theorem JQ {p l}(F:n=l.length)(E:V.sl p (XC l))(hm:l.length<=2^40):À 176 #[pT p n c] V λr W=>r=Jq (RH l):=by (refine Sg V _ ⟨λz V'=>0<=z/\z<=n/\RH l=RH (l.drop z.toNat),λz=>n-z.toNat,⟨0,by and_intros<;>first|exact True.intro|rfl,ω,ω,rfl⟩,?_⟩;rintro i m j ⟨e,f,he⟩;dsimp only at f he ⊢;obtain ⟨i,rfl⟩:=č e;simp only [Ü] at he;refine ⟨θ,λb=>?_,λb o q=>?_⟩);{have b:i<n:=by{simpa using b};have d:i<l.length:=ω;obtain ⟨k,h,g⟩:=(j.sl E) i (Jq l[i]) (by simp [XC,d]);rw [Ī d,RH] at he;refine ⟨by rw [h];rfl,ū,l[i],⟨k.add i,by rw [h];simp [af],g⟩,λa V2 s=>?_,λa=>?_⟩;{have a:l[i]≠0:=by{simpa using a};rw [Ã a] at he;rw [he]};{have a:l[i]=0:=by{simpa using a};rw [Ä a] at he;have w:i64.wrap ((i:Int)+1)=((i+1:Nat):Int):=by{rw [au ω];omega};simp only [w];(refine ⟨((i+1:Nat):Int),?_,by and_intros<;>first|exact True.intro|rfl,ω,ω,?_⟩);{(try dsimp only);omega};{exact he}}};{have b:i=n:=by{simp at b;omega};rw [Ŀ ω] at he;rw [he];rfl}
theorem xP {c a' b' c'}(hx:xB V v a b c)(hy:xB V w a' b' c')(s1:Sz k a)(s2:Sz k b)(s3:Sz k c)(t1:Sz m a')(t2:Sz m b')(t3:Sz m c')(hk:k+m<2^40:=by omega):À 109 #[v,w] V λr W=>r=Jq (RH [cT a a',cT b b',cT c c']):=by obtain ⟨f,g,p,h,j,q,n,o,r,rfl,s,t,u⟩:=hx;obtain ⟨x,y,z,A,B,C,D,E,F,rfl,G,H,I⟩:=hy;refine E3 V _ λJ K=>(fU ra ra s1 t1 hk).s ?_;rintro r V2 L rfl;refine ⟨_,rfl,λM N=>(fU ra ra s2 t2 hk).s ?_⟩;rintro r O P rfl;refine ⟨_,rfl,λQ R=>(fU ra ra s3 t3 hk).s ?_⟩;rintro r S T rfl;refine ⟨_,rfl,λU W X d=>(JQ (l:=[cT a a',cT b b',cT c c']) rfl (λi v e=>⟨_,rfl,by rw [add_zero'];exact dX (xs:=XC [cT a a',cT b b',cT c c']) d e⟩) ψ).s ?_⟩;rintro r Y Z rfl;exact ⟨_,rfl,λ_ V9 l9=>rfl⟩
theorem y_ {c M b' c'}(N:xB V v a b c)(O:xB V w M b' c')(s1:Sz k a)(s2:Sz k b)(s3:Sz k c)(t1:Sz m M)(t2:Sz m b')(t3:Sz m c')(Z:k+m<2^40:=by omega):À 111 #[v,w] V λr W=>r=Õ (decide (a=M/\b=b'/\c=c')):=by have d:=N;have e:=O;obtain ⟨f,g,p,h,i,q,j,l,r,rfl,-,-,-⟩:=N;obtain ⟨n,o,s,t,u,x,y,z,A,rfl,-,-,-⟩:=O;refine Av V _ λB C=>(xP ra ra s1 s2 s3 t1 t2 t3 Z).s λr V2 D rfl=>⟨_,rfl,λE F=>?_⟩;congr 1;rw [ļ,Ñ,Ë,orI_eq];simp [<-iK]
def ja (V:Ó)(v:Value)(x y:Rat):Prop:=∃(E F:Int)(p:OA)(M N:Int)(q:OA),v=.agg #[.int .i64 E,.int .i64 F,.pointer p,.int .i64 M,.int .i64 N,.pointer q] /\
 RR V (.agg #[.int .i64 E,.int .i64 F,.pointer p]) x/\RR V (.agg #[.int .i64 M,.int .i64 N,.pointer q]) y
theorem ja.le {V V'}(h:ja V v x y)(l:V.Le V'):ja V' v x y:=by obtain ⟨a,b,p,c,d,q,e,g,f⟩:=h;exact ⟨a,b,p,c,d,q,e,ra,f.le l⟩
theorem ja.ex {r}{K:Int->Int->OA->Int->Int->OA->Prop}(g:ja V r x y)(h:∀t u:Int×Int×OA,ja V (dB #[Jq t.1,Jq t.2.1,qvZ t.2.2,Jq u.1,Jq u.2.1,qvZ u.2.2]) x y->RR V (dB #[Jq t.1,Jq t.2.1,qvZ t.2.2]) x->RR V (dB #[Jq u.1,Jq u.2.1,qvZ u.2.2]) y->K t.1 t.2.1 t.2.2 u.1 u.2.1 u.2.2):∃a b c d e f,r=dB #[Jq a,Jq b,qvZ c,Jq d,Jq e,qvZ f]/\K a b c d e f:=by obtain ⟨_,_,_,_,_,_,rfl,i,j⟩:=id g;exact qyZ ⟨rfl,h (_,_,_) (_,_,_) g i j⟩
theorem st {p:Prop}(h:p:=by repeat' (intro V l;first|exact RR.le ξ ax|refine (qyZ ⟨rfl,RR.le ξ ax,RR.le ξ ax⟩)|refine ⟨_,_,_,_,_,_,_,_,_,rfl,RR.le ξ ax,RR.le ξ ax,RR.le ξ ax⟩|(apply ae.s;(with_reducible first|apply Hk (k:=549755813887) (m:=549755813887)|apply O1 (k:=549755813887) (m:=549755813887)|apply O2 (k:=549755813887) (m:=549755813887)|apply A6 (k:=549755813887) (m:=549755813887)|apply oX (k:=2^40));(any_goals first|exact RR.le ξ ax);(any_goals first|exact sz|decide);intro r W m g;refine RR.ex g λa h=>?_))):p:=h
theorem Hp {q}(E:ja V p jo jq)(F:ja V q EL EM){k}(M:Sz k jo)(N:Sz k jq)(O:Sz k EL)(Z:Sz k EM)(hk:2*k+1<2^38):À 119 #[p,q] V λr W=>ja W r ((jo)+(EL)) ((jq)+(EM)):=by obtain ⟨_,_,_,_,_,_,rfl,_,_⟩:=id E;obtain ⟨_,_,_,_,_,_,rfl,_,_⟩:=id F;exact E7 V _ st
theorem qV {c c_0}(E:ja V p jo jq)(F:RR V c c_0){k}(M:Sz k jo)(N:Sz k jq)(sc_0:Sz k c_0)(O:2*k+1<2^38):À 72 #[p,c] V λr W=>ja W r ((jo)*(c_0)) ((jq)*(c_0)):=by obtain ⟨_,_,_,_,_,_,rfl,_,_⟩:=id E;obtain ⟨_,_,_,rfl⟩:=F.shape;exact AA V _ st
theorem vI {q}(E:ja V p jo jq)(F:ja V q EL EM){k}(M:Sz k jo)(N:Sz k jq)(O:Sz k EL)(Z:Sz k EM)(hk:4*k+3<2^38):À 134 #[p,q] V λr W=>RR W r (((jo)*(EL))+((jq)*(EM))):=by obtain ⟨_,_,_,_,_,_,rfl,_,_⟩:=id E;obtain ⟨_,_,_,_,_,_,rfl,_,_⟩:=id F;exact E9 V _ st
theorem D_ (E:Sz k jo)(F:Sz k jq)(M:Sz k EL)(N:Sz k EM):Sz (4*k+3) (((jo)*(EL))+((jq)*(EM))):=sz
theorem BR {q}(E:ja V p jo jq)(F:ja V q EL EM)(M:Sz k jo)(N:Sz k jq)(O:Sz k EL)(Z:Sz k EM)(hk:4*k+3<2^38):À 77 #[p,q] V λr W=>RR W r (((jo)*(EM))-((jq)*(EL))):=by obtain ⟨_,_,_,_,_,_,rfl,_,_⟩:=id E;obtain ⟨_,_,_,_,_,_,rfl,_,_⟩:=id F;exact Ay V _ st
theorem yW (E:Sz k jo)(F:Sz k jq)(M:Sz k EL)(N:Sz k EM):Sz (4*k+3) (((jo)*(EM))-((jq)*(EL))):=sz
theorem o_ (E:xB V l cN l_1 fK){k}(F:Sz k cN)(M:Sz k l_1)(N:Sz k fK)(O:1*k+1<2^38):À 32 #[l] V λr W=>ja W r (l_1) (-(cN)):=by obtain ⟨_,_,_,_,_,_,_,_,_,rfl,_,_,_⟩:=id E;exact E5 V _ st
theorem qj (E:xB V l cN l_1 fK){k}(F:Sz k cN)(M:Sz k l_1)(N:Sz k fK)(O:1*k+1<2^38):À 184 #[l] V λr W=>ja W r (cN) (l_1):=by obtain ⟨_,_,_,_,_,_,_,_,_,rfl,_,_,_⟩:=id E;exact yM V _ st
theorem xQ (E:xB V l cN l_1 fK)(F:Sz k cN)(M:Sz k l_1)(N:Sz k fK)(O:1*k+1<2^38):À 58 #[l] V λr W=>xB W r (-(cN)) (-(l_1)) (-(fK)):=by obtain ⟨_,_,_,_,_,_,_,_,_,rfl,_,_,_⟩:=id E;exact xl V _ st
theorem ik {p:Prop}(h:p:=by repeat' (intro V l;first|exact RR.le ξ ax|refine (qyZ ⟨rfl,RR.le ξ ax,RR.le ξ ax⟩)|(apply ae.s;(with_reducible first|apply Hk (k:=549755813887) (m:=549755813887)|apply A6 (k:=549755813887) (m:=549755813887)|apply oX (k:=2^40)|apply Hp (k:=137438953471)|apply qV (k:=137438953471)|apply vI (k:=68719476735)|apply o_ (k:=274877906942)|apply qj (k:=274877906942)|apply_assumption);(any_goals first|exact RR.le ξ ax|exact ja.le ξ ax|exact xB.le ξ ax);(any_goals first|exact sz|decide);intro r W m g;(first|refine RR.ex g λa h=>?_|refine ja.ex g λa b h i j=>?_)))):p:=h
theorem qU (E:xB V l cN l_1 fK)(F:ja V p jo jq){k}(M:Sz k cN)(N:Sz k l_1)(O:Sz k fK)(Z:Sz k jo)(Aj:Sz k jq)(hk:5*k+4<2^38:=by omega):À 133 #[l,p] V λr W=>RR W r ((((cN)*(jo))+((l_1)*(jq)))+(fK)):=by obtain ⟨_,_,_,_,_,_,_,_,_,rfl,_,_,_⟩:=id E;obtain ⟨_,_,_,_,_,_,rfl,_,_⟩:=id F;exact Ax V _ ik
theorem oR {k}(E:Sz k cN)(F:Sz k l_1)(M:Sz k fK)(N:Sz k jo)(O:Sz k jq):Sz (5*k+4) ((((cN)*(jo))+((l_1)*(jq)))+(fK)):=sz
theorem tT (E:xB V l cN l_1 fK){k}(F:Sz k cN)(M:Sz k l_1)(N:Sz k fK)(O:10*k+9<2^38:=by omega):À 118 #[l] V λr W=>ja W r ((cN)*((-(fK))*(((cN)*(cN))+((l_1)*(l_1)))⁻¹)) ((l_1)*((-(fK))*(((cN)*(cN))+((l_1)*(l_1)))⁻¹)):=by obtain ⟨_,_,_,_,_,_,_,_,_,rfl,_,_,_⟩:=id E;exact DD V _ ik
theorem qA (E:Sz k cN)(F:Sz k l_1)(M:Sz k fK):Sz (10*k+9) ((cN)*((-(fK))*(((cN)*(cN))+((l_1)*(l_1)))⁻¹)):=sz
theorem qB (E:Sz k cN)(F:Sz k l_1)(M:Sz k fK):Sz (10*k+9) ((l_1)*((-(fK))*(((cN)*(cN))+((l_1)*(l_1)))⁻¹)):=sz
theorem JT {t}(E:xB V l cN l_1 fK)(F:RR V t Og)(M:Sz k cN)(N:Sz k l_1)(O:Sz k fK)(st_0:Sz k Og)(Z:20*k+19<2^38):À 61 #[l,t] V λr W=>ja W r (((cN)*((-(fK))*(((cN)*(cN))+((l_1)*(l_1)))⁻¹))+((l_1)*(Og))) (((l_1)*((-(fK))*(((cN)*(cN))+((l_1)*(l_1)))⁻¹))+((-(cN))*(Og))):=by obtain ⟨_,_,_,_,_,_,_,_,_,rfl,_,_,_⟩:=id E;obtain ⟨_,_,_,rfl⟩:=F.shape;have d {V l a b c} (h:xB V l a b c) s1 s2 s3:=tT (k:=27487790693) h s1 s2 s3 φ;exact IX V _ ik
theorem Fy (E:Sz k cN)(F:Sz k l_1)(M:Sz k fK)(st_0:Sz k Og):Sz (20*k+19) (((cN)*((-(fK))*(((cN)*(cN))+((l_1)*(l_1)))⁻¹))+((l_1)*(Og))):=sz
theorem Fz (E:Sz k cN)(F:Sz k l_1)(M:Sz k fK)(st_0:Sz k Og):Sz (20*k+19) (((l_1)*((-(fK))*(((cN)*(cN))+((l_1)*(l_1)))⁻¹))+((-(cN))*(Og))):=sz
theorem BQ (E:xB V l cN l_1 fK)(F:ja V p jo jq)(M:Sz k cN)(N:Sz k l_1)(O:Sz k fK)(Z:Sz k jo)(Aj:Sz k jq)(hk:8*k+7<2^38):À 70 #[l,p] V λr W=>RR W r ((((l_1)*(jo))+((-(cN))*(jq)))*(((l_1)*(l_1))+((-(cN))*(-(cN))))⁻¹):=by obtain ⟨_,_,_,_,_,_,_,_,_,rfl,_,_,_⟩:=id E;obtain ⟨_,_,_,_,_,_,rfl,_,_⟩:=id F;exact Aw V _ ik
theorem yV (E:Sz k cN)(F:Sz k l_1)(M:Sz k fK)(N:Sz k jo)(O:Sz k jq):Sz (8*k+7) ((((l_1)*(jo))+((-(cN))*(jq)))*(((l_1)*(l_1))+((-(cN))*(-(cN))))⁻¹):=sz
theorem jj (hx:RQ V v x)(hy:RQ V w y)(hy0:y.num≠0){k m}(hk:Sz k x)(hm:Sz m y)(hkm:k+m<2^38):À 218 #[v,w] V λr W=>RQ W r (x*y⁻¹):=by obtain ⟨p,n,c,g,j,l,rfl,o,s⟩:=hx;obtain ⟨q,i,e,t,u,z,rfl,A,B⟩:=hy;have a:=il hm;have P:=ah hk.1;have Q:=ah hk.2;have R:=ah hm.1;have S:=ah a.1;have f:(y⁻¹).num=(if decide (y.num<0)=true then -((y.den:Nat):Int) else ((y.den:Nat):Int))/\(y⁻¹).den=y.num.natAbs:=by{rcases Int.lt_or_gt_of_ne hy0 with h|h;{rw [Ä (Ç h)];exact inv_neg h};{rw [Ã (λC=>by have:=Á C;omega)];exact inv_pos h}};have b1:(x.num*(y⁻¹).num).natAbs<2^(k+m):=by{rw [ł];exact cz hk.1 a.1};refine Ma V _ λT U=>(dP y _ ra).s ?_;rintro r V2 W ⟨X,Y,Z,rfl,g1⟩;refine ⟨_,_,_,rfl,λV3 l3=>(fE _ ra).s ?_⟩;rw [<-f.1];rintro r V4 l4 ⟨p4,n4,c4,rfl,g4⟩;refine qyW ⟨rfl,λV5 l5=>(nU x.num (y⁻¹).num ra ra).s ?_⟩;rintro r V6 l6 ⟨p6,n6,c6,rfl,g6⟩;refine qyW ⟨rfl,λV7 l7=>(dP x _ ra).s ?_⟩;rintro r V8 l8 ⟨p8,n8,c8,rfl,g8⟩;refine ⟨_,_,_,rfl,λV9 l9=>(dy ra ra).s ?_⟩;rintro r gx D ⟨E,F,G,rfl,b⟩;rw [ag,ag,<-f.2] at b;refine ⟨_,_,_,rfl,λfu dM=>(pj _ ra ra (Ą (ah b1) ω) (Ą (ah (cz hk.2 a.2)) ω) (Ō x.den_nz (y⁻¹).den_nz)).s ?_⟩;rw [(Wj6 x y⁻¹)];rintro r tR oB ⟨H,I,J,K,L,M,rfl,N,d⟩;exact qyK ⟨rfl,λsO O=>⟨_,_,_,_,_,_,rfl,ra,d.le O⟩⟩
theorem QJ (z:Int){p}(h:RD V p n c (ai z.natAbs)):À 216 #[dB #[Õ (decide (z<0)),pT p n c]] V λr W=>RQ W r (z:Rat):=
 ON V _ λa b=>uh (z:=z) (d:=1) rfl rfl ra RD.nil rfl
theorem RQ.ofNat {p x}(h:RN V p n c x){b}(E:b=decide ((x:Int)<0)):RQ V (dB #[Õ b,pT p n c,pT none 0 0]) ((x:Int):Rat):=
 uh (z:=(x:Int)) (d:=1) rfl rfl h RD.nil E
theorem RQ.int {b p p' n' c'}(h:RQ V (dB #[Õ b,pT p n c,pT p' n' c']) q):RI V (dB #[Õ b,pT p n c]) q.num:=by obtain ⟨d,f,g,i,j,k,e,a,l⟩:=h;cases e;exact ⟨_,_,_,rfl,a⟩
theorem RQ.den {b p p' n' c'}(h:RQ V (dB #[Õ b,pT p n c,pT p' n' c']) q):RD V p' n' c' (Ac q.den):=by obtain ⟨d,f,g,i,j,k,e,l,a⟩:=h;cases e;exact a
def qv (px py qx qy:Rat):Rat×Rat×Rat:=
 let a:=-(qy-py);let b:=qx-px;let c:=-(a*px+b*py)
 let f:Rat:=(((a.den*b.den*c.den:Nat):Int):Rat)
 (a*f,b*f,c*f)
theorem sz_nat (h:n<2^k)(E:0<k:=by omega):Sz k (((n:Nat):Int):Rat):=by refine ⟨?_,?_⟩;{show ((n:Nat):Int).natAbs<_;simpa using h};{show 1<2^k;exact Qd8 ω}
theorem kd {u px py qx qy}(hp:RP V u px py)(hq:RP V w qx qy)(s1:Sz k px)(s2:Sz k py)(s3:Sz k qx)(s4:Sz k qy)(hk1:1<=k)(hk:64*k+64<2^38:=by omega):À 37 #[u,w] V λr W=>((qv px py qx qy).1.num=0/\(qv px py qx qy).2.1.num=0->∃l,r=æ #[l,Õ false]/\RL W l 0 0 0)/\(¬((qv px py qx qy).1.num=0/\(qv px py qx qy).2.1.num=0)->∃l,r=æ #[l,Õ true]/\RL W l ((qv px py qx qy).1.num/(cj (qv px py qx qy).1.num (qv px py qx qy).2.1.num (qv px py qx qy).2.2.num:Int)) ((qv px py qx qy).2.1.num/(cj (qv px py qx qy).1.num (qv px py qx qy).2.1.num (qv px py qx qy).2.2.num:Int)) ((qv px py qx qy).2.2.num/(cj (qv px py qx qy).1.num (qv px py qx qy).2.1.num (qv px py qx qy).2.2.num:Int))):=by have U:=hp;have W:=hq;obtain ⟨X,Y,Z,p2,n2,c2,p3,n3,c3,p4,n4,c4,rfl,j,m⟩:=hp;obtain ⟨q1,m1,e1,q2,m2,e2,q3,m3,e3,q4,m4,e4,rfl,-,-⟩:=hq;refine yQ V _ λV1 l1=>(qX ra ra s3 s4 s1 s2 hk1).s ?_;rintro r V2 l2 ⟨a1,a2,a3,a4,a5,a6,a7,a8,a9,WG,WH,a0,rfl,n,hd⟩;have c:=s3.sub s1;have x:=l1.m l2;refine qyJ ⟨rfl,λV3 y=>(nV (qy-py) (by have ⟨_,_,_,_,_,_,e,z,h2⟩:=hd.le y;cases e;exact z) (RQ.den ra)).s ?_⟩;rintro r V4 K s;obtain ⟨b1,b2,b3,b4,b5,b6,rfl⟩:=s.shape;have d:=(s4.sub s2).neg;have o:qv px py qx qy=(-(qy-py)*((((-(qy-py)).den*(qx-px).den*(-(-(qy-py)*px+(qx-px)*py)).den:Nat):Int):Rat),(qx-px)*((((-(qy-py)).den*(qx-px).den*(-(-(qy-py)*px+(qx-px)*py)).den:Nat):Int):Rat),(-(-(qy-py)*px+(qx-px)*py))*((((-(qy-py)).den*(qx-px).den*(-(-(qy-py)*px+(qx-px)*py)).den:Nat):Int):Rat)):=rfl;rw [o];generalize -(qy-py)=A at *;generalize qx-px=B at *;replace n:=n.le (y.m K);replace j:=j.le (x.m (y.m K));replace m:=m.le ax;refine qyK ⟨rfl,λV5 l5=>(bF ra ra d s1 ω).s λr V6 l6 L=>RQ.ex L λ_ L=>λV7 l7=>(bF ra ra c s2 ω).s λr V8 l8 N=>RQ.ex N λ_ N=>λV9 l9=>(dY ra ra (d.mul s1) (c.mul s2) ω).s ?_⟩;rintro r gx D p;have t:=((d.mul s1).add (c.mul s2)).neg;obtain ⟨i1,i2,i3,i4,i5,i6,rfl⟩:=p.shape;refine qyK ⟨rfl,λfu O=>(nV (A*px+B*py) (by have ⟨_,_,_,_,_,_,e,z,h2⟩:=p.le O;cases e;exact z) (RQ.den ra)).s ?_⟩;rintro r iD eN P;generalize -(A*px+B*py)=C at *;obtain ⟨j1,j2,j3,j4,j5,j6,rfl⟩:=P.shape;have Q:=l5.m (l6.m (l7.m (l8.m (l9.m (D.m (O.m eN))))));replace s:=s.le Q;replace n:=n.le Q;refine qyK ⟨rfl,λkE fw=>(dP A _ (RQ.den ra)).s ?_⟩;rintro r mg hZ ⟨k1,k2,k3,rfl,b0⟩;refine ⟨_,_,_,rfl,λmz eH=>(dP B _ (RQ.den ra)).s ?_⟩;rintro r mh fP ⟨k4,k5,k6,rfl,b7⟩;obtain ⟨-,da,-⟩:=dz d;obtain ⟨-,db,-⟩:=dz c;obtain ⟨-,dc,-⟩:=dz t;refine ⟨_,_,_,rfl,λmX gX=>(dy ra ra).s ?_⟩;rintro r nM gy ⟨k7,k8,k9,rfl,E⟩;rw [ag,ag] at E;refine ⟨_,_,_,rfl,λqh iX=>(dP C _ (RQ.den ra)).s ?_⟩;rintro r jZ gG ⟨b8,b9,c0,rfl,c5⟩;have c6:=kI (a:=A.den) (b:=B.den);refine ⟨_,_,_,rfl,λqN mo=>(dy ra ra).s ?_⟩;rintro r tR oB ⟨c7,c8,c9,rfl,F⟩;rw [ag,ag] at F;have i:=sz_nat (cz (cz d.2 c.2) t.2);generalize A.den*B.den*C.den=M at *;refine ⟨_,_,_,rfl,λsO mL=>(xS ra).s ?_⟩;rintro r Ec oC ⟨d0,d1,d2,rfl,G⟩;have H:=RQ.ofNat G rfl;have R:=fw.m ax;refine qyW ⟨rfl,λBw zC=>(bF (s.le ax) (H.le zC) d i ω).s λr Jw yr f=>RQ.ex f λ_ f=>λMp Bf=>(bF (n.le ax) (H.le ax) c i ω).s λr YW Ns g=>RQ.ex g λ_ g=>λd3 Rl=>(bF (P.le ax) (H.le ax) t i ω).s λr Wl Nt I=>RQ.ex I λ_ I=>λd4 Jj=>(Er (RQ.int (f.le ax)) (RQ.int (g.le ax)) (RQ.int (I.le Jj)) (Ą (dz (d.mul i)).1 ω) (Ą (dz (c.mul i)).1 ω) (Ą (dz (t.mul i)).1 ω)).s ?_⟩;rintro r d5 KF ⟨z1,z2⟩;by_cases v:(A*((M:Int):Rat)).num=0/\(B*((M:Int):Rat)).num=0;{obtain ⟨l,rfl,y1,y2,y3,y4,y5,y6,y7,y8,y9,rfl,S,J,T⟩:=z1 v;exact ⟨_,_,_,_,_,_,_,_,_,_,_,_,_,rfl,λWC q=>⟨λ_=>⟨_,rfl,_,_,_,_,_,_,_,_,_,rfl,ra,J.le q,ra⟩,λh=>Å v h⟩⟩};{obtain ⟨l,rfl,y1,y2,y3,y4,y5,y6,y7,y8,y9,rfl,S,J,T⟩:=z2 v;exact ⟨_,_,_,_,_,_,_,_,_,_,_,_,_,rfl,λWC q=>⟨λh=>Å h v,λ_=>⟨_,rfl,_,_,_,_,_,_,_,_,_,rfl,S.le q,J.le q,T.le q⟩⟩⟩}
theorem uL (h:RQ V v q){k}(_s:Sz k q)(_hk:k<=2^40):À 80 #[v] V λr W=>RQ W r (-q):=by obtain ⟨p,n,c,d,e,f,rfl,a,b⟩:=h;exact nV q a b
theorem cu {z:Int}{p}(h:RD V p n c (ai z.natAbs)){k}(_s:Sz k (z:Rat))(_hk:k<=2^40):À 216 #[dB #[Õ (decide (z<0)),pT p n c]] V λr W=>RQ W r (z:Rat):=QJ z h
theorem sr {p:Prop}(h:p:=by repeat' (intro V l;first|exact RQ.le ξ ax|refine (qxZ ⟨rfl,RQ.le ξ ax,RQ.le ξ ax⟩)|(apply ae.s;(with_reducible first|apply dY (k:=137438953471) (m:=137438953471)|apply bF (k:=137438953471) (m:=137438953471)|apply jj (k:=137438953471) (m:=137438953471)|apply uL (k:=2^40)|apply cu (k:=2^40));(any_goals first|with_reducible assumption|exact RQ.le ξ ax|exact RD.le ξ ax|exact RP.le ξ ax|exact RL.le ξ ax);(any_goals first|exact sz|decide);intro r W m g;(first|refine RQ.ex g λa h=>?_|refine RP.ex g λa b h i j=>?_)))):p:=h
theorem iq {cN l_1 fK}(E:RL V l cN l_1 fK){k}(F:Sz k ((cN:Int):Rat))(M:Sz k ((l_1:Int):Rat))(N:Sz k ((fK:Int):Rat))(O:1*k+1<2^38):À 157 #[l] V λr W=>RP W r ((l_1:Int):Rat) (-((cN:Int):Rat)):=by obtain ⟨_,_,_,_,_,_,_,_,_,rfl,_,_,_⟩:=id E;exact I8 V _ sr
theorem JW {q}(E:RP V p jo jq)(F:RP V q EL EM){k}(M:Sz k jo)(N:Sz k jq)(O:Sz k EL)(Z:Sz k EM)(hk:4*k+3<2^38):À 262 #[p,q] V λr W=>RQ W r (((jo)*(EL))+((jq)*(EM))):=by obtain ⟨_,_,_,_,_,_,_,_,_,_,_,_,rfl,_,_⟩:=id E;obtain ⟨_,_,_,_,_,_,_,_,_,_,_,_,rfl,_,_⟩:=id F;exact I9 V _ sr
theorem jF {cN l_1 fK}(E:RL V l cN l_1 fK)(F:RP V p jo jq){k}(M:Sz k ((cN:Int):Rat))(N:Sz k ((l_1:Int):Rat))(O:Sz k ((fK:Int):Rat))(Z:Sz k jo)(Aj:Sz k jq)(hk:8*k+8<2^38:=by omega):À 217 #[l,p] V λr W=>RQ W r (((((cN:Int):Rat)*(jo))+(((l_1:Int):Rat)*(jq)))+((fK:Int):Rat)):=by obtain ⟨_,_,_,_,_,_,_,_,_,rfl,_,_,_⟩:=id E;obtain ⟨_,_,_,_,_,_,_,_,_,_,_,_,rfl,_,_⟩:=id F;exact DZ V _ sr
theorem sr2 {p:Prop}(h:p:=by repeat' (intro V l;first|exact RQ.le ξ ax|refine (qxZ ⟨rfl,RQ.le ξ ax,RQ.le ξ ax⟩)|(apply ae.s;(with_reducible first|apply dY (k:=137438953471) (m:=137438953471)|apply bF (k:=137438953471) (m:=137438953471)|apply jj (k:=137438953471) (m:=137438953471)|apply uL (k:=2^40)|apply cu (k:=2^40)|apply iq (k:=274877906942)|apply JW (k:=68719476735)|apply fG (k:=130000000000) (m:=70000000000));(any_goals first|with_reducible assumption|exact RQ.le ξ ax|exact RD.le ξ ax|exact RP.le ξ ax|exact RL.le ξ ax);(any_goals first|exact sz|decide);intro r W m g;(first|refine RQ.ex g λa h=>?_|refine RP.ex g λa b h i j=>?_)))):p:=h
theorem Eu {cN l_1 fK}(E:RL V l cN l_1 fK)(F:RP V p jo jq)(M:((((l_1:Int):Rat)*((l_1:Int):Rat))+((-((cN:Int):Rat))*(-((cN:Int):Rat)))).num≠0)(N:Sz k ((cN:Int):Rat))(O:Sz k ((l_1:Int):Rat))(Z:Sz k ((fK:Int):Rat))(Ai:Sz k jo)(Aj:Sz k jq)(hk:8*k+7<2^38):À 215 #[l,p] V λr W=>RQ W r ((((jo)*((l_1:Int):Rat))+((jq)*(-((cN:Int):Rat))))*((((l_1:Int):Rat)*((l_1:Int):Rat))+((-((cN:Int):Rat))*(-((cN:Int):Rat))))⁻¹):=by obtain ⟨_,_,_,_,_,_,_,_,_,rfl,_,_,_⟩:=id E;obtain ⟨_,_,_,_,_,_,_,_,_,_,_,_,rfl,_,_⟩:=id F;exact DX V _ sr2
theorem vJ {cN l_1 fK}(E:RL V l cN l_1 fK)(F:((((l_1:Int):Rat)*((l_1:Int):Rat))+((-((cN:Int):Rat))*(-((cN:Int):Rat)))).num≠0){k}(M:Sz k ((cN:Int):Rat))(N:Sz k ((l_1:Int):Rat))(O:Sz k ((fK:Int):Rat))(Z:10*k+8<2^38:=by omega):À 214 #[l] V λr W=>RP W r ((-(((fK:Int):Rat)*((((l_1:Int):Rat)*((l_1:Int):Rat))+((-((cN:Int):Rat))*(-((cN:Int):Rat))))⁻¹))*((cN:Int):Rat)) ((-(((fK:Int):Rat)*((((l_1:Int):Rat)*((l_1:Int):Rat))+((-((cN:Int):Rat))*(-((cN:Int):Rat))))⁻¹))*((l_1:Int):Rat)):=by obtain ⟨_,_,_,_,_,_,_,_,_,rfl,_,_,_⟩:=id E;exact Ff V _ sr2
theorem MX {cN l_1 fK t}(F:RL V l cN l_1 fK)(M:RQ V t Og)(E:((((l_1:Int):Rat)*((l_1:Int):Rat))+((-((cN:Int):Rat))*(-((cN:Int):Rat)))).num≠0)(N:Sz k ((cN:Int):Rat))(O:Sz k ((l_1:Int):Rat))(Z:Sz k ((fK:Int):Rat))(st_0:Sz k Og)(hk:18*k+16<2^38):À 159 #[l,t] V λr W=>RP W r (((-(((fK:Int):Rat)*((((l_1:Int):Rat)*((l_1:Int):Rat))+((-((cN:Int):Rat))*(-((cN:Int):Rat))))⁻¹))*((cN:Int):Rat))+(Og)*((l_1:Int):Rat)) (((-(((fK:Int):Rat)*((((l_1:Int):Rat)*((l_1:Int):Rat))+((-((cN:Int):Rat))*(-((cN:Int):Rat))))⁻¹))*((l_1:Int):Rat))+(Og)*(-((cN:Int):Rat))):=by obtain ⟨_,_,_,_,_,_,_,_,_,rfl,_,_,_⟩:=id F;obtain ⟨_,_,_,_,_,_,rfl⟩:=M.shape;refine Mi V _ λc d=>(vJ (k:=27487790692) ra E sz sz sz φ).s λr W m g=>RP.ex g λa b h i j=>?_;exact sr2
theorem RA.shape (h:RA V v q):∃b p n c p' n' c',v=dB #[Õ b,pT p n c,pT p' n' c']:=by obtain ⟨p,n,c,p',n',c',e,-⟩:=h;exact qyK e
def xE (V:Ó)(v:Value)(x y:Rat):Prop:=∃b p n c p' n' c' d q m e E F M,v=.agg #[.bool b,.slice p n c,.slice p' n' c',.bool d,.slice q m e,.slice E F M] /\
 RA V (.agg #[.bool b,.slice p n c,.slice p' n' c']) x/\RA V (.agg #[.bool d,.slice q m e,.slice E F M]) y
theorem xE.le {V V'}(h:xE V v x y)(l:V.Le V'):xE V' v x y:=by obtain ⟨b,p,n,c,a,f,g,d,q,m,e,i,j,k,rfl,o,r⟩:=h;exact qyJ ⟨rfl,ra,ra⟩
theorem lf (h:xE V v x y)(s1:Sz k x)(s2:Sz k y)(M:k<=2^40:=by omega):À 30 #[v] V λr W=>ja W r x y:=by obtain ⟨b,p,n,c,g,i,j,d,q,m,e,l,o,s,rfl,t,u⟩:=h;refine LQ V _ λw z=>(FQ ra s1 M).s λr V2 A a=>RR.ex a λ_ a=>λB C=>(FQ ra s2 M).s λr D E f=>RR.ex f λ_ f=>λF G=>⟨_,_,_,_,_,_,rfl,ra,ra⟩
theorem Ho (h:ja V v x y)(s1:Sz k x)(s2:Sz k y)(E:k<=2^40):À 65 #[v] V λr W=>xE W r x y:=by obtain ⟨a,b,c,d,e,f,rfl,j,l⟩:=h;refine E6 V _ λm n=>(vG ra s1 E).s ?_;rintro r V2 o g;obtain ⟨_,_,_,_,_,_,_,rfl⟩:=g.shape;refine qyK ⟨rfl,λp q=>(vG ra s2 E).s ?_⟩;rintro r s t i;obtain ⟨_,_,_,_,_,_,_,rfl⟩:=i.shape;exact qyK ⟨rfl,λu w=>⟨_,_,_,_,_,_,_,_,_,_,_,_,_,_,rfl,ra,ra⟩⟩
theorem iI {M N}(h:ja V v x y)(O:ja V w M N){k}(s1:Sz k x)(s2:Sz k y)(s3:Sz k M)(s4:Sz k N)(Z:2*k<2^40:=by omega):À 29 #[v,w] V λr W=>r=Õ (decide (x=M/\y=N)):=by obtain ⟨a,b,c,d,e,f,rfl,p,q⟩:=h;obtain ⟨i,j,l,m,n,o,rfl,s,t⟩:=O;refine Az V _ λu z=>(nR ra ra s1 s3).s ?_;rintro r V2 A rfl;refine ⟨_,rfl,λg B C=>(nR ra ra s2 s4).s ?_,λg D E=>?_⟩;{have g:=Á g;rintro r F G rfl;exact ⟨_,rfl,λH I=>by simp [g]⟩};{have g:=Â g;simp [g]}
theorem Ek (F:xB V l cN l_1 fK)(M:ja V p jo jq)(N:Sz k cN)(s1:Sz k l_1)(s2:Sz k fK)(s3:Sz k jo)(s4:Sz k jq)(O:16*k+16<2^38):À 68 #[l,p] V λr W=>r=Jq (cN*jo+l_1*jq+fK).num.sign:=by have b:=F;have c:=M;obtain ⟨d,e,f,g,h,i,j,m,n,rfl,-,-,-⟩:=F;obtain ⟨o,q,s,t,u,v,rfl,-,-⟩:=M;refine DF V _ λw x=>(qU ra ra N s1 s2 s3 s4).s λr V2 y a=>RR.ex a λ_ a=>λz A=>(fC ra (oR N s1 s2 s3 s4)).s ?_;rintro r B C rfl;exact ⟨_,rfl,λD E=>rfl⟩
theorem zf (h:RQ V v q)(s:Sz k q)(Z:k<=2^40):À 228 #[v] V λr W=>RA W r q:=by obtain ⟨p,n,c,a,b,d,rfl,e,f⟩:=h;have g:=ah s.1;have i:=ah s.2;refine I5 V _ λj l=>(mE ⟨_,_,_,rfl,ra⟩).s ?_;rintro r V2 m ⟨o,t,u,rfl,w⟩;refine qyW ⟨rfl,λx y=>(dP q _ ra).s ?_⟩;rintro r z A ⟨B,C,D,rfl,E⟩;refine ⟨_,_,_,rfl,λF G=>(zd ra).s ?_⟩;rintro r H I ⟨J,K,L,rfl,M⟩;exact ⟨_,_,_,rfl,λN O=>⟨_,_,_,_,_,_,rfl,ra,ra⟩⟩
theorem JY (h:RP V v x y)(s1:Sz k x)(s2:Sz k y)(F:k<=2^40):À 172 #[v] V λr W=>xE W r x y:=by obtain ⟨a,b,c,d,e,f,g,i,j,l,m,n,rfl,q,s⟩:=h;refine Jd V _ λt u=>(zf ra s1 F).s ?_;rintro r V2 w o;obtain ⟨_,_,_,_,_,_,_,rfl⟩:=o.shape;refine qyK ⟨rfl,λz A=>(zf ra s2 F).s ?_⟩;rintro r B C p;obtain ⟨_,_,_,_,_,_,_,rfl⟩:=p.shape;exact qyK ⟨rfl,λD E=>⟨_,_,_,_,_,_,_,_,_,_,_,_,_,_,rfl,ra,ra⟩⟩
abbrev L3:=Int×Int×Int
variable{a:Int}{x:L3}
def bX (x:L3):Bool:=decide (¬(x.1=0/\x.2.1=0))&&decide (cj x.1 x.2.1 x.2.2=1)
def Bd (x:L3):Prop:=x.1.natAbs<2^1000/\x.2.1.natAbs<2^1000/\x.2.2.natAbs<2^1000
inductive Tr where
 | leaf (i:Bool)|node (l:L3) (a b:Tr)
 deriving DecidableEq
structure Nd where
 ln:L3
 left:Int
 right:Int
 deriving DecidableEq
def Tr.size:Tr->Nat
 | .leaf _=>0
 | .node _ a b=>a.size+b.size+1
def Tr.rB:Tr->Bool
 | .leaf _=>true
 | .node ..=>false
def Tr.eu (p:L3->Prop):Tr->Prop
 | .leaf _=>True
 | .node l a b=>p l/\a.eu p/\b.eu p
theorem Tr.eu.imp {p q:L3->Prop}(h:∀x,p x->q x):∀{t:Tr},t.eu p->t.eu q
 | .leaf _,_=>trivial
 | .node _ _ _,⟨E,F,M⟩=>⟨h _ E,Tr.eu.imp h F,Tr.eu.imp h M⟩
def rt (k:Nat):Tr->Int
 | .leaf i=>if i then -2 else -1
 | .node ..=>(k:Int)
def wr:Nat->Tr->List Nd
 | _,.leaf _=>[]
 | k,.node l a b=>⟨l,rt (k+1) a,rt (k+1+a.size) b⟩::(wr (k+1) a++wr (k+1+a.size) b)
theorem jB:∀(t:Tr)(k:Nat),(wr k t).length=t.size
 | .leaf _,_=>rfl
 | .node _ a b,k=>by simp only [wr,Ā,î,jB a,jB b,Tr.size]
def Rep (l:List Nd):Int->Tr->List Nat->Prop
 | n,.leaf i,I=>n=(if i then -2 else -1)/\I=[]
 | n,.node ln a b,I=>∃(k:Nat)(x:Nd)(A B:List Nat),n=(k:Int)/\l[k]?=some x/\x.ln=ln/\Rep l x.left a A/\Rep l x.right b B/\I=k::(A++B)
theorem NY:∀(t:Tr)(l pre post:zA Nd)(k:Nat),l=pre++(wr k t++post)->pre.length=k->Rep l (rt k t) t (List.range' k t.size)
 | .leaf i,l,pre,post,k,_,_=>⟨rfl,rfl⟩
 | .node ln a b,l,pre,post,k,F,E=>by
  refine ⟨k,⟨ln,rt (k+1) a,rt (k+1+a.size) b⟩,List.range' (k+1) a.size,List.range' (k+1+a.size) b.size,rfl,?_,rfl,?_,?_,?_⟩
  ·subst F;simp [E,wr]
  ·refine NY a l (pre++[⟨ln,rt (k+1) a,rt (k+1+a.size) b⟩]) (wr (k+1+a.size) b++post) (k+1) ?_ (by simp [E])<;>grind [wr]
  ·refine NY b l (pre++(⟨ln,rt (k+1) a,rt (k+1+a.size) b⟩::wr (k+1) a)) post (k+1+a.size) ?_ (by simp [jB];omega)<;>grind [wr]
  ·simp only [Tr.size];rw [List.range'_succ,<-List.range'_append_1]
structure RS where
 seen:List Bool
 qI:Nat
 bad:Bool
def js (l:List Nd):Nat->Int->RS->Tr×RS
 | 0,_,s=>(.leaf false,s)
 | f+1,n,s=>
  if n=-2 then (.leaf true,s) else if n=-1 then (.leaf false,s) else if n<0 then (.leaf false,{ s with bad:=true })
  else match l[n.toNat]?,s.seen[n.toNat]? with
   | some x,some false=>
    if bX x.ln then
     let E:=js l f x.left ⟨s.seen.set n.toNat true,s.qI+1,s.bad⟩
     let F:=js l f x.right E.2
     (.node x.ln E.1 F.1,F.2)
    else (.leaf false,⟨s.seen.set n.toNat true,s.qI+1,true⟩)
   | _,_=>(.leaf false,{ s with bad:=true })
theorem count_set {l:zA ut}{k}(h:l[k]?=some false):(l.set k true).count false+1=l.count false:=χ
theorem CX (l):∀(f:Nat)(n:Int)(s:RS),(js l f n s).2.seen.count false<=s.seen.count false/\(js l f n s).2.seen.length=s.seen.length
 | 0,_,_=>⟨Ù _,rfl⟩
 | f+1,n,s=>by
  simp only [js];split
  ·exact ⟨Ù _,rfl⟩
  ·split
   ·exact ⟨Ù _,rfl⟩
   ·split
    ·exact ⟨Ù _,rfl⟩
    ·split
     ·rename_i x F E;have M:=count_set E;split
      ·have ⟨a,b⟩:=CX l f x.left ⟨s.seen.set n.toNat true,s.qI+1,s.bad⟩;have ⟨c,d⟩:=CX l f x.right (js l f x.left ⟨s.seen.set n.toNat true,s.qI+1,s.bad⟩).2;grind
      grind
     grind
theorem Ij (l):∀(f:Nat)(n:Int)(s:RS),(js l f n s).2.qI+(js l f n s).2.seen.count false=s.qI+s.seen.count false
 | 0,_,_=>rfl
 | f+1,n,s=>by
  simp only [js];split
  ·rfl
  ·split
   ·rfl
   ·split
    ·rfl
    ·split
     ·rename_i x F E;have M:=count_set E;split
      ·have a:=Ij l f x.left ⟨s.seen.set n.toNat true,s.qI+1,s.bad⟩;have b:=Ij l f x.right (js l f x.left ⟨s.seen.set n.toNat true,s.qI+1,s.bad⟩).2;grind
      ·dsimp only;omega
     ·rfl
theorem CY (l):∀(f:Nat)(n:Int)(s:RS),(js l f n s).1.size+s.qI<=(js l f n s).2.qI
 | 0,_,_=>by simp [js,Tr.size]
 | f+1,n,s=>by
  simp only [js];split
  ·simp [Tr.size]
  ·split
   ·simp [Tr.size]
   ·split
    ·simp [Tr.size]
    ·split
     ·split
      ·rename_i x E F hok;have M:=CY l f x.left ⟨s.seen.set n.toNat true,s.qI+1,s.bad⟩;have a:=CY l f x.right (js l f x.left ⟨s.seen.set n.toNat true,s.qI+1,s.bad⟩).2;grind [Tr.size]
      ·simp [Tr.size]
     ·simp [Tr.size]
def vd (s:List Bool)(I:List Nat):List Bool:=I.foldl (λs k=>s.set k true) s
theorem Dd:∀(I:zA Nat)(s:zA ut)(k:Nat),k∉I->(vd s I)[k]?=s[k]?
 | [],_,_,_=>rfl
 | i::r,s,k,h=>by
  have:=Dd r (s.set i true) k (λa=>h (ø _ a));grind [vd]
theorem Ik (l):∀(t:Tr)(f:Nat)(n:Int)(s:RS)(I:zA Nat),Rep l n t I->I.Nodup->(∀k∈I,s.seen[k]?=some false)->t.eu (λx=>bX x=true)->t.size<f->js l f n s=(t,⟨vd s.seen I,s.qI+t.size,s.bad⟩)
 | .leaf i,f,n,s,I,⟨E,M⟩,_,_,_,F=>by
  subst M;obtain ⟨f,rfl⟩:∃g,f=g+1:=⟨f-1,by simp [Tr.size] at F;omega⟩
  cases i with
  | true=>simp only at E;subst E;simp [js,vd,Tr.size]
  | false=>
   subst E;simp [js,vd,Tr.size]
 | .node ln a b,f,n,s,I,⟨k,x,A,B,E,M,N,O,Z,h6⟩,hnd,hun,hok,F=>by
  subst E N h6;obtain ⟨f,rfl⟩:∃g,f=g+1:=⟨f-1,by simp [Tr.size] at F;omega⟩;rw [Wj8,List.nodup_append] at hnd;obtain ⟨q,r,u,d⟩:=hnd;simp only [Tr.size] at F
  have v:=Ik l a f x.left ⟨s.seen.set k true,s.qI+1,s.bad⟩ A O r (λj c=>by
   have:k≠j:=λe=>q (by rw [e];simp [c]);rw [Qb3 this];exact hun j (by simp [c])) hok.2.1 ω
  have w:=Ik l b f x.right ⟨vd (s.seen.set k true) A,s.qI+1+a.size,s.bad⟩ B Z u (λj c=>by
   have:k≠j:=λe=>q (by rw [e];simp [c]);rw [Dd A _ j (λh=>d j h j c rfl),Qb3 this];exact hun j (by simp [c])) hok.2.2 ω
  have m:¬((k:Int)=-2):=ω
  have o:¬((k:Int)=-1):=ω
  have p:¬((k:Int)<0):=ω
  have y:js l (f+1) (k:Int) s=(.node x.ln (js l f x.left ⟨s.seen.set k true,s.qI+1,s.bad⟩).1 (js l f x.right (js l f x.left ⟨s.seen.set k true,s.qI+1,s.bad⟩).2).1,(js l f x.right (js l f x.left ⟨s.seen.set k true,s.qI+1,s.bad⟩).2).2):=by
   rw [js];rw [Ã m,Ã o,Ã p];simp only [Ü,M,(hun k ψ),hok.1,Ï]
  grind [vd,Tr.size]
def Gv (l:List Nd)(root:Int):Option Tr:=
 if 65536<l.length then none else
 let r:=js l (l.length+1) root ⟨List.replicate l.length false,0,false⟩
 if r.2.bad=true\/r.2.qI≠l.length then none else some r.1
theorem X1 {l n t I}(h:Rep l n t I)(E:I.Nodup)(F:∀k∈I,k<l.length)(M:t.size=l.length)(hok:t.eu λx=>bX x=true)(N:l.length<=65536):Gv l n=some t:=by unfold Gv;rw [Ã ω];rw [Ik l t (l.length+1) n _ I h E (λk a=>by simp [F k a]) hok ω];simp [M]
theorem NG {t}(hok:t.eu λx=>bX x=true)(E:t.size<=65536:=by omega):Gv (wr 0 t) (rt 0 t)=some t:=by have h:=NY t (wr 0 t) [] [] 0 ψ rfl;grind [X1,jB]
theorem UP {l n t}(h:Gv l n=some t):t.size<=65536:=by unfold Gv at h;split at h;{cases h};{dsimp only at h;split at h;{cases h};{rename_i a b;cases h;have:=CY l (l.length+1) n ⟨List.replicate l.length false,0,false⟩;grind}}
theorem MA (a:Addr)(i j):(a.add i).add j=a.add (i+j):=by grind [Addr.add]
theorem Is {V:un}{b}{xs:zA um}{ty m}(h:V.bh b (.cells xs.toArray ty m))(i){v}(E:xs[i]?=some v):∃a,af (some ⟨b,0,none⟩) i=some a/\V.at a v:=
 ⟨⟨b,i,none⟩,by simp [af,add_zero'],dX h E⟩
theorem UU {b c:Int}:EI (decide (a<0)) (ai a.natAbs) (decide (b<0)) (ai b.natAbs) (decide (c<0)) (ai c.natAbs)=bX (a,b,c):=by have d:∀z:Int,qC (decide (z<0)) (ai z.natAbs)=true:=by{intro z;unfold qC;grind [ag,bR.1]};have f:eG (eG (a:Rat) (b:Rat)) (c:Rat)=((cj a b c:Nat):Int):=by{have e:∀x y:Int,eG (x:Rat) (y:Rat)=((Nat.gcd x.natAbs y.natAbs:Nat):Int):=by{intro x y;unfold eG;have g:(x:Rat).num=x:=rfl;have h:(y:Rat).num=y:=rfl;have i:(x:Rat).den=1:=rfl;have j:(y:Rat).den=1:=rfl;rw [g,h,i,j];simp only [ĝ];exact Qh4 _};rw [e,e];rfl};unfold EI bX;rw [d,d,d,aX,aX,aX,f];have k:∀z:Int,((z:Rat)=0)↔z=0:=λz=>by{exact Rat.intCast_eq_zero_iff};simp only [Bool.true_and,k];rw [ļ];simp only [Ċ,Ł,Bool.and_eq_false_iff,Ò,Ñ];have l:(((cj a b c:Nat):Int):Rat)=((1:Int):Rat)↔cj a b c=1:=by{rw [Qg9];omega};grind
theorem IJ {z:Int}{k}(h:z.natAbs<2^k)(E:0<k:=by omega):Sz k (z:Rat):=⟨h,Qd8 ω⟩
theorem Bd.ai (h:Bd x):(ai x.1.natAbs).length<=1000/\(ai x.2.1.natAbs).length<=1000/\(ai x.2.2.natAbs).length<=1000:=⟨ah h.1,ah h.2.1,ah h.2.2⟩
theorem Bd.sz (h:Bd x):Sz 1000 (x.1:Rat)/\Sz 1000 (x.2.1:Rat)/\Sz 1000 (x.2.2:Rat):=⟨IJ h.1,IJ h.2.1,IJ h.2.2⟩
theorem JS {V v}(h:RL V v x.1 x.2.1 x.2.2)(E:Bd x):À 174 #[v] V λr W=>∃w,r=æ #[w,Õ (bX x)]/\Wz w/\(bX x=true->xB W w x.1 x.2.1 x.2.2):=by obtain ⟨p,n,s,f,g,i,q,m,e,rfl,b,c,d⟩:=h;obtain ⟨d1,d2,d3⟩:=E.ai;obtain ⟨s1,s2,s3⟩:=E.sz;have a:=BP (V:=V) (decide (x.1<0)) (decide (x.2.1<0)) (decide (x.2.2<0)) b c d ω ω ω (k:=1000) (by rw [aX];exact s1) (by rw [aX];exact s2) (by rw [aX];exact s3);rw [UU,aX,aX,aX] at a;exact a
theorem YK (x y u w:Int):qv (x:Rat) (y:Rat) ((x:Rat)+((1:Int):Rat)*(u:Rat)) ((y:Rat)+((1:Int):Rat)*(w:Rat))=(((-w:Int):Rat),((u:Int):Rat),((w*x-u*y:Int):Rat)):=by have a:(x:Rat)+((1:Int):Rat)*(u:Rat)=((x+u:Int):Rat):=by{rw [<-Qf7,<-Qt2,Wk3]};have b:(y:Rat)+((1:Int):Rat)*(w:Rat)=((y+w:Int):Rat):=by{rw [<-Qf7,<-Qt2,Wk3]};rw [a,b];have c:-(((y+w:Int):Rat)-(y:Rat))=((-w:Int):Rat):=by{rw [<-Wj9,<-Qh0];congr 1;omega};have d:((x+u:Int):Rat)-(x:Rat)=((u:Int):Rat):=by{rw [<-Wj9];congr 1;omega};have e:-(((-w:Int):Rat)*(x:Rat)+((u:Int):Rat)*(y:Rat))=((w*x-u*y:Int):Rat):=χ;have f:(((((-w:Int):Rat).den*((u:Int):Rat).den*((w*x-u*y:Int):Rat).den:Nat):Int):Rat)=1:=rfl;unfold qv;grind
def CB (a b c:Int):L3:=(a/(cj a b c:Int),b/(cj a b c:Int),c/(cj a b c:Int))
def small (z:Int)(k:Nat):Bool:=decide (z.natAbs<=k)
theorem Un:∀i:Fin 9,∀j:Fin 9,∀k:Fin 65,(i.1=4/\j.1=4)\/(bX (CB ((i.1:Int)-4) ((j.1:Int)-4) ((k.1:Int)-32))&&small (CB ((i.1:Int)-4) ((j.1:Int)-4) ((k.1:Int)-32)).1 32&&small (CB ((i.1:Int)-4) ((j.1:Int)-4) ((k.1:Int)-32)).2.1 32&&small (CB ((i.1:Int)-4) ((j.1:Int)-4) ((k.1:Int)-32)).2.2 32)=true:=κ
theorem bd32 (k:Nat)(E:6<=k){z:Int}(h:z.natAbs<=32):z.natAbs<2^k:=ś h (ľ (by decide:32<2^6) (ķ φ E))
theorem bd32' (k:Nat)(E:6<=k)(F:x.1.natAbs<=32)(M:x.2.1.natAbs<=32)(N:x.2.2.natAbs<=32):x.1.natAbs<2^k/\x.2.1.natAbs<2^k/\x.2.2.natAbs<2^k:=⟨bd32 k E F,bd32 k E M,bd32 k E N⟩
theorem XS {a b c}(E:-4<=a/\a<=4)(F:-4<=b/\b<=4)(M:-32<=c/\c<=32)(h:¬(a=0/\b=0):=by omega):bX (CB a b c)=true/\Bd (CB a b c):=by have:=Un ⟨(a+4).toNat,ω⟩ ⟨(b+4).toNat,ω⟩ ⟨(c+32).toNat,ω⟩;dsimp only at this;rw [show (((a+4).toNat:Nat):Int)-4=a from ω,show (((b+4).toNat:Nat):Int)-4=b from ω,show (((c+32).toNat:Nat):Int)-32=c from ω] at this;rcases this with d|d;{omega};{simp only [Ċ,small,Ñ] at d;exact ⟨d.1.1.1,bd32' 1000 φ d.1.1.2 d.1.2 d.2⟩}
theorem UA {x y:Int}(E:-4<=x/\x<=4)(F:-4<=y/\y<=4):-16<=x*y/\x*y<=16:=by have:(x*y).natAbs<=4*4:=by{rw [ł];exact Qg2 ω ω};omega
theorem num_mul {r:Rat}{f:Nat}(E:f≠0)(h:r*((f:Nat):Int)=(a:Rat)):r.num*f=a*r.den:=by rw [<-Qr2 r,<-Qh4 f,<-Qh4 a,Wx6,Wk8 (by simpa using r.den_nz) ω] at h;simpa using h
theorem Cj {r s}{f:Nat}{b:Int}(E:f≠0)(F:r*((f:Nat):Int)=(a:Rat))(M:s*((f:Nat):Int)=(b:Rat)):eG r s*((f:Nat):Int)=(((Nat.gcd a.natAbs b.natAbs:Nat):Int):Rat):=by have c:r.num.natAbs*f=a.natAbs*r.den:=by{have:=Æ Int.natAbs (num_mul E F);rwa [ł,ł,ħ,ħ] at this};have d:s.num.natAbs*f=b.natAbs*s.den:=by{have:=Æ Int.natAbs (num_mul E M);rwa [ł,ł,ħ,ħ] at this};have e:Nat.gcd (r.num.natAbs*s.den) (s.num.natAbs*r.den)*f=Nat.gcd a.natAbs b.natAbs*(r.den*s.den):=by{rw [<-Nat.gcd_mul_right,<-Nat.gcd_mul_right];congr 1;{rw [Nat.mul_right_comm,c,ń]};{rw [Nat.mul_right_comm,d,ń,Ľ s.den]}};unfold eG;rw [<-Qh4 ((f:Nat):Int),Wx6,<-Qh4 ((Nat.gcd a.natAbs b.natAbs:Nat):Int),Wk8 (by simpa using Ō r.den_nz s.den_nz) ω];have:=Æ (Nat.cast (R:=Int)) e;simpa using this
theorem rI (q:Rat)(m:Nat):q*(((q.den*m:Nat):Int):Rat)=((q.num*m:Int):Rat):=by have e:q*(((q.den:Nat):Int):Rat)=((q.num:Int):Rat):=by{have h:=q.den_nz;have a:mkRat q.num q.den*mkRat ((q.den:Nat):Int) 1=mkRat q.num 1:=by{grind [Rat.mkRat_mul_mkRat,Rat.mkRat_eq_iff]};grind [Rat.mkRat_self,Rat.mkRat_one]};rw [Ř,Qf7,<-Wk4,e,<-Qf7]
theorem HW {g:Nat}(E:g≠0)(h:(g:Int)∣a):((a/(g:Int):Int):Rat)=(a:Rat)/((g:Int):Rat):=by obtain ⟨k,rfl⟩:=h;have b:((g:Int):Rat)≠0:=by{exact_mod_cast E};rw [Qg8 _ ω,Qf7,Rat.div_def,Wv0 ((g:Int):Rat),Wk4,Qn7 _ b,Rat.mul_one]
def CH (a b c:Rat):L3:=
 let f:Nat:=a.den*b.den*c.den
 CB (a*((f:Int):Rat)).num (b*((f:Int):Rat)).num (c*((f:Int):Rat)).num
theorem tv {a b c:Rat}(h:¬(a=0/\b=0)):let g:=eG (eG a b) c
  g≠0/\a*g⁻¹=((CH a b c).1:Rat)/\b*g⁻¹=((CH a b c).2.1:Rat)/\c*g⁻¹=((CH a b c).2.2:Rat):=by intro g;have m:=Ō (Ō a.den_nz b.den_nz) c.den_nz;have i:a*(((a.den*b.den*c.den:Nat):Int):Rat)=((a.num*(b.den*c.den:Nat):Int):Rat):=by{rw [ń,rI]};have j:b*(((a.den*b.den*c.den:Nat):Int):Rat)=((b.num*(a.den*c.den:Nat):Int):Rat):=by{rw [Ľ a.den,ń,rI]};have k:c*(((a.den*b.den*c.den:Nat):Int):Rat)=((c.num*(a.den*b.den:Nat):Int):Rat):=by{rw [Ľ (a.den*b.den),rI]};have hm:CH a b c=CB (a.num*(b.den*c.den:Nat)) (b.num*(a.den*c.den:Nat)) (c.num*(a.den*b.den:Nat)):=by{unfold CH;dsimp only;rw [i,j,k,Qh1,Qh1,Qh1]};have d:=Cj m (Cj m i j) k;rw [hm];have s:a.num*(b.den*c.den:Nat)=0↔a=0:=by{grind [Int.mul_eq_zero,Rat.num_eq_zero]};have t:b.num*(a.den*c.den:Nat)=0↔b=0:=by{grind [Int.mul_eq_zero,Rat.num_eq_zero]};generalize a.num*(b.den*c.den:Nat)=A at *;generalize b.num*(a.den*c.den:Nat)=B at *;generalize c.num*(a.den*b.den:Nat)=C at *;generalize a.den*b.den*c.den=f at *;have n:Nat.gcd ((Nat.gcd A.natAbs B.natAbs:Nat):Int).natAbs C.natAbs=cj A B C:=by{unfold cj;rw [ħ]};rw [n] at d;change g*((f:Int):Rat)=_ at d;have o:cj A B C≠0:=by{intro e;have:=Qr8.1 e;grind};have l:((cj A B C:Int):Rat)≠0:=by{exact_mod_cast o};have p:g≠0:=by{intro e;rw [e,Rat.zero_mul] at d;exact l d.symm};have q:((cj A B C:Nat):Int)∣A:=Qp4.1 (by rw [ħ];exact Qt1 (Ń _ _) (Ń _ _));have r:((cj A B C:Nat):Int)∣B:=Qp4.1 (by rw [ħ];exact Qt1 (Ń _ _) (ŝ _ _));have dC:((cj A B C:Nat):Int)∣C:=Qp4.1 (by rw [ħ];exact ŝ _ _);have key:∀{x:Rat} {X:Int},x*((f:Int):Rat)=(X:Rat)->((cj A B C:Nat):Int)∣X->x*g⁻¹=((X/(cj A B C:Int):Int):Rat):=by{grind [HW]};exact ⟨p,key i q,key j r,key k dC⟩
theorem XX {a b c}(h:¬(a=0/\b=0)):¬((CH a b c).1=0/\(CH a b c).2.1=0):=by obtain ⟨i,d,e,-⟩:=tv (c:=c) h;rintro ⟨f,g⟩;rw [f] at d;rw [g] at e;grind
end Go.Proofs.Tryz
