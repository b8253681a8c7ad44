import Derived.Test.YtbdlbajodgoneaaGreatDoorS14
import Derived.Test.YtbdlbajodgoneaaGreatDoorS7
set_option linter.all false
open Go.IntKind (i64 u64 u32)
open Go.Value renaming slice→yD,agg→dB,bool→gF,int→Ô,tuple→ê,pointer→Õ
open Go.Eng Go.Big
namespace Go.Proofs.Tryz
variable{V:Ó}{p:OA}{c n:Nat}
theorem di (b:md){x:Nat}(h:RN V p n c x):À 120 #[gF b,yD p n c] V λr W=>RI W r (if b then -(x:Int) else x):=by have f:=iV h.len;refine Mh V _ ⟨λa e d=>?_,λa e d=>?_⟩;{rw [Ä a];refine RI.mk ?_ ?_;{rw [ĵ,Ñ,Ñ];omega};rw [Ů,ē];exact h.le d};rw [a,Ã φ];refine RI.mk ?_ ?_;{symm;rw [Ò];omega};rw [ē];exact h.le d
theorem me {b:md}{x:Nat}{z:Int}(h:RN V p n c x)(O:(if b then -(x:Int) else x)=z):À 120 #[gF b,yD p n c] V λr W=>∃(E:md)(F:OA)(M N:Nat),r=dB #[gF E,yD F M N]/\∀D:ut,W.Le D->RI D (dB #[gF E,yD F M N]) z:=by refine (di b h).s ?_;rintro r V2 a ⟨d,e,f,rfl,g⟩;rw [O] at g ⊢;exact qyK ⟨rfl,λD i=>⟨_,_,_,rfl,ra⟩⟩
theorem Gg (n:Int)(D:-9223372036854775808<=n)(E:n<=9223372036854775807:=by omega):À 133 #[Ô .i64 n] V λr W=>RI W r n:=by refine OM V _ ⟨λa b c=>?_,λa b c=>?_⟩;{have a:n<0:=by{simpa using a};have e:u64.wrap (0-u64.wrap n)=((-n).toNat:Int):=by{rw [Ar,Ar];omega};rw [e];refine (fo _).s ?_;rintro r V2 d ⟨f,g,h,rfl,i⟩;exact ⟨_,_,_,rfl,λj k=>me ra (by simp;omega)⟩};have a:0<=n:=by{simpa using a};have e:u64.wrap n=(n.toNat:Int):=by{rw [bw ω];omega};rw [e];refine (fo _).s ?_;rintro r V2 d ⟨f,g,h,rfl,i⟩;exact ⟨_,_,_,rfl,λj k=>me ra (by simp;omega)⟩
theorem oY (z:Int)(h:RN V p n c z.natAbs):À 145 #[dB #[gF (decide (z<0)),yD p n c]] V λr W=>r=Ô .i64 z.sign:=by have f:=iV h.len;refine Ml V _ ⟨λb d e=>?_,λb=>⟨λa d e=>?_,λa d e=>?_⟩⟩;{have:z=0:=by{simp at b;omega};rw [this];rfl};{rw [Ñ] at a;rw [Qd2 a]};rw [Ò] at a;have:0<z:=by{simp at b;omega};rw [Qf7 this]
theorem jX (z:Int)(h:RN V p n c z.natAbs):À 75 #[dB #[gF (decide (z<0)),yD p n c]] V λr W=>RI W r (-z):=by refine I7 V _ λb d=>me ra ?_;by_cases a:z<0<;>simp [a]<;>omega
theorem lg (z w:Int){q:OA}{m e:Nat}(D:RN V p n c z.natAbs)(E:RN V q m e w.natAbs)(hm:(ah z.natAbs).length+(ah w.natAbs).length<=2^40:=by omega):À 119 #[dB #[gF (decide (z<0)),yD p n c],dB #[gF (decide (w<0)),yD q m e]] V λr W=>RI W r (z*w):=by
 refine OO V _ λb d=>(dF ra ra hm).s ?_;rintro r V2 f ⟨g,h,i,rfl,a⟩;rw [ag,ag] at a;refine ⟨_,_,_,rfl,λj k=>me ra ?_⟩
 conv=>rhs;rw [((aY z).symm),((aY w).symm)]
 unfold bK;rw [ag,ag];cases decide (z<0)<;>cases decide (w<0)<;>simp [Wk0,Wx4]
theorem yf (z w:Int){q:OA}{m e:Nat}(E:RN V p n c z.natAbs)(F:RN V q m e w.natAbs)(hm:(ah z.natAbs).length<=2^40)(D:(ah w.natAbs).length<=2^40:=by omega):À 190 #[dB #[gF (decide (z<0)),yD p n c],dB #[gF (decide (w<0)),yD q m e]] V λr W=>RI W r (z+w):=by refine OJ V _ ⟨λf l o=>(QL ra ra hm D).s ?_,λf l o=>(lf ra ra hm D).s ?_⟩;{rintro r V2 s ⟨g,h,i,rfl,b⟩;rw [ag,ag] at b;refine ⟨_,_,_,rfl,λj k=>me ra ?_⟩;by_cases d:z<0<;>by_cases hw:w<0<;>simp [d,hw] at f⊢<;>omega};rintro r V2 s rfl;refine ⟨_,rfl,λa j k=>?_,λa j k=>?_⟩;{have a:z.natAbs<w.natAbs:=by{simpa [iR] using a};refine (uL ra ra D (aS (Qs4 a)) (by rw [ag,ag];omega)).s ?_;rintro r t u ⟨g,h,i,rfl,b⟩;rw [ag,ag] at b;refine ⟨_,_,_,rfl,λv x=>me ra ?_⟩;by_cases d:z<0<;>by_cases hw:w<0<;>simp [d,hw] at f⊢<;>omega};have a:w.natAbs<=z.natAbs:=by{simpa [<-Ww7,iR] using a};refine (uL ra ra hm (aS a) (by rw [ag,ag];omega)).s ?_;rintro r t u ⟨g,h,i,rfl,b⟩;rw [ag,ag] at b;refine ⟨_,_,_,rfl,λv x=>me ra ?_⟩;by_cases d:z<0<;>by_cases hw:w<0<;>simp [d,hw] at f⊢<;>omega
end Go.Proofs.Tryz
namespace Go.Eng
def Ag (d:Nat):List Nat:=if d=1 then [] else ah d
def RQ (V:Ó)(v:Value)(q:Rat):Prop:=∃p n c p' n' c',v=.agg #[.bool (decide (q.num<0)),.slice p n c,.slice p' n' c'] /\
 RD V p n c (ah q.num.natAbs)/\RD V p' n' c' (Ag q.den)
theorem RQ.le {V V':ut}{v:un}{q:Rat}(h:RQ V v q)(l:V.Le V'):RQ V' v q:=by obtain ⟨p,n,c,a,b,d,e,f,g⟩:=h;exact ⟨p,n,c,a,b,d,e,ra,ra⟩
def Kk {q:Rat}:Ag q.den=[]↔q.den=1:=by unfold Ag;split;{rename_i h;simp [h]};rename_i h;rw [bS];have:=q.den_nz;omega
end Go.Eng
namespace Go.Proofs.Tryz
variable{V:Ó}{p p':OA}{c c' k m n n':Nat}{x y:Rat}{v w:Value}
theorem rz {q:Rat}(h:RD V p n c (Ag q.den)):n=0↔q.den=1:=by rw [<-Kk,h.len,Ĥ]
theorem cZ (q:Rat)(b:md)(D:RD V p' n' c' (Ag q.den)):À 114 #[dB #[gF b,yD p n c,yD p' n' c']] V λr W=>∃E F c1,r=yD E F c1/\RN W E F c1 q.den:=by have d:=rz D;refine OL V _ ⟨λa f h=>sW.s ?_,λa f h=>⟨_,_,_,rfl,?_⟩⟩;{rintro r V2 i ⟨E,F,c1,rfl,g⟩;have:q.den=1:=d.1 (by simp at a;omega);rw [this];exact ⟨_,_,_,rfl,λj k=>⟨_,_,_,rfl,ra⟩⟩};{have:q.den≠1:=λe=>by{have:=d.2 e;simp at a;omega};unfold Ag at D;rw [Ã this] at D;exact ra}
theorem qo {q:Rat}{z:Int}{d:Nat}(D:q.num=z)(E:q.den=d)(F:RD V p n c (ah z.natAbs))(M:RD V p' n' c' (Ag d)){b:md}(N:b=decide (z<0)):RQ V (dB #[gF b,yD p n c,yD p' n' c']) q:=by subst D E N;exact qyJ ⟨rfl,F,M⟩
theorem lJ (z:Int){d:Nat}{q:OA}{e:Nat}(hx:RN V p n c z.natAbs)(hy:RN V q m e d)(hm:(ah z.natAbs).length<=2^38)(hn:(ah d).length<=2^38)(hd:d≠0):À 144 #[dB #[gF (decide (z<0)),yD p n c],yD q m e] V λr W=>RQ W r (mkRat z d):=by refine Md V _ λZ D=>(kM ra ra hm hn).s ?_;rintro r V2 E ⟨p1,n1,c1,rfl,F⟩;have o:=Ŋ z.natAbs d;have s:0<Nat.gcd z.natAbs d:=Wz5 _ ω;have h:=Ā (aS (Qr0 ω (ŧ z.natAbs d))) hn;have u:(mkRat z d).num=z/(Nat.gcd d z.natAbs:Nat):=by{rw [Qs8,Ã hd]};have a:(mkRat z d).den=d/Nat.gcd d z.natAbs:=by{rw [Ww5,Ã hd]};rw [ŭ d] at u a;generalize hG:Nat.gcd z.natAbs d=g at *;generalize mkRat z d=w at *;refine ⟨_,_,_,rfl,λV3 v=>sW.s ?_⟩;rintro r V4 x ⟨p2,n2,c2,rfl,h1⟩;refine ⟨_,_,_,rfl,λV5 y=>(lf ra ra ω φ).s ?_⟩;rintro r V6 A rfl;replace hx:=hx.le (D.m (E.m (v.m (x.m (y.m A)))));replace hy:=hy.le (D.m (E.m (v.m (x.m (y.m A)))));replace F:=F.le (v.m (x.m (y.m A)));refine ⟨_,rfl,λG V7 l7=>(dY ra ra hm h s).s ?_,λG nf je=>sW.s ?_⟩;{rintro r V8 l8 ⟨p4,n4,c4,p5,n5,c5,rfl,H,-⟩;have I:(mkRat z d).num.natAbs=(mkRat z d).num.natAbs:=rfl;obtain ⟨k,B⟩:=o;have C:z.natAbs/g=k:=by{rw [B,Nat.mul_div_cancel_left _ s]};rw [C] at H;have J:z=(g:Int)*(if z<0 then -(k:Int) else k):=by{split;{rw [Wx4,<-Ť,<-B];omega};rw [<-Ť,<-B];omega};have b:w.num=(if z<0 then -(k:Int) else k):=by{rw [u];generalize (if z<0 then -(k:Int) else k)=t at *;rw [J,Qh0 _ ω]};refine qyJ ⟨rfl,λV9 l9=>(di _ ra).s ?_⟩;have i:(if decide (z<0)=true then -(k:Int) else k)=w.num:=by{rw [b];simp};rw [i];rintro r eV K ⟨p7,n7,c7,rfl,g2⟩;refine qyK ⟨rfl,λeW cU=>(dY ra ra hn h s).s ?_⟩;rintro r gC dI ⟨p8,n8,c8,p9,n9,c9,rfl,L,-⟩;rw [<-a] at L;refine qyJ ⟨rfl,λiI dS=>sW.s ?_⟩;rintro r kK fH ⟨M,N,O,rfl,P⟩;have Q:(ah w.den).length<=2^38:=by{rw [a];exact Ā (aS (Qc8 _ _)) hn};refine ⟨_,_,_,rfl,λke fB=>(lf ra ra ω φ).s ?_⟩;rintro r kf e_ rfl;refine ⟨_,rfl,λf R S=>qo rfl rfl ra ?_ rfl,λf T U=>qo rfl rfl ra ?_ rfl⟩;{have:w.den=1:=oe.1 (by simpa using f);rw [Kk.2 this];exact RD.nil};{have:w.den≠1:=λe=>by{rw [oe.2 e] at f;simp at f};unfold Ag;rw [Ã this];exact ra}};have j:=oe.1 (by simpa using G);have b:w.num=z:=by{rw [u,j];simp};have l:w.den=d:=by{rw [a,j];simp};rintro r kg il ⟨W,X,Y,rfl,P⟩;refine ⟨_,_,_,rfl,λqC nQ=>(lf ra ra ω φ).s ?_⟩;rintro r qN lZ rfl;refine ⟨_,rfl,λf R S=>qo b l ra ?_ rfl,λf T U=>qo b l ra ?_ rfl⟩;{have:d=1:=oe.1 (by simpa using f);unfold Ag;rw [Ä this];exact RD.nil};{have:d≠1:=λe=>by{rw [oe.2 e] at f;simp at f};unfold Ag;rw [Ã this];exact ra}
theorem dM (n:Int)(D:-9223372036854775808<=n)(E:n<=9223372036854775807:=by omega):À 67 #[Ô .i64 n] V λr W=>RQ W r (n:Rat):=by refine Sg V _ λa b=>(Gg n D E).s ?_;rintro r V2 e ⟨p,m,c,rfl,g⟩;exact qyK ⟨rfl,λf h=>qo (z:=n) (d:=1) rfl rfl ra RD.nil rfl⟩
theorem sZ (q:Rat)(D:RD V p n c (ah q.num.natAbs)):À 86 #[dB #[gF (decide (q.num<0)),yD p n c,yD p' n' c']] V λr W=>r=Ô .i64 q.num.sign:=by refine VO V _ λa b=>(oY q.num ra).s ?_;rintro r V2 d rfl;exact ⟨_,rfl,λe f=>rfl⟩
theorem nZ (q:Rat)(E:RD V p n c (ah q.num.natAbs))(D:RD V p' n' c' (Ag q.den)):À 77 #[dB #[gF (decide (q.num<0)),yD p n c,yD p' n' c']] V λr W=>RQ W r (-q):=by refine OQ V _ λb a=>(jX q.num ra).s ?_;rintro r V2 e ⟨f,h,i,rfl,g⟩;exact qyK ⟨rfl,λj k=>qo (q:=-q) (z:=-q.num) (d:=q.den) (by rfl) (by rfl) ra ((D.le a).le au) rfl⟩
theorem yg {x:Nat}(h:RN V p n c x):À 120 #[gF false,yD p n c] V λr W=>RI W r (x:Int):=by have:=di false h;rwa [Ã φ] at this
theorem dG (h:Sz k x):(ah x.num.natAbs).length<=k/\(ah x.den).length<=k/\(ah (x.den:Int).natAbs).length<=k:=⟨af h.1,af h.2,af h.2⟩
theorem eE (hx:RQ V v x)(hy:RQ V w y){k m:Nat}(hk:Sz k x)(hm:Sz m y)(hkm:k+m<2^38):À 125 #[v,w] V λr W=>RQ W r (x+y):=by obtain ⟨p,n,c,j,l,o,rfl,s,b⟩:=hx;obtain ⟨q,i,e,t,u,A,rfl,B,f⟩:=hy;obtain ⟨C,D,E,F⟩:=BC hk hm;have ⟨d1,d2,d3⟩:=dG hk;have ⟨d4,d5,d6⟩:=dG hm;have a:=Rat.add_def' x y;refine (λtail=>Mk V _ ⟨λG=>⟨λH I J=>?_,λ_=>tail⟩,λ_=>tail⟩) ?_;{clear tail;refine (yf x.num y.num ra ra ω).s ?_;rintro r V2 K ⟨p2,n2,c2,rfl,g⟩;have L:x+y=((x.num+y.num:Int):Rat):=by{rw [a,((rz b).1 (by simp at G;omega)),((rz f).1 (by simp at H;omega))];simp [Qh4]};rw [L];exact qyK ⟨rfl,λM N=>qo (z:=x.num+y.num) (d:=1) rfl rfl ra RD.nil rfl⟩};intro I J;refine (cZ y _ ra).s ?_;rintro r V2 K ⟨p1,n1,c1,rfl,g1⟩;refine ⟨_,_,_,rfl,λM N=>(yg ra).s ?_⟩;rintro r V4 l4 ⟨p3,n3,c3,rfl,g3⟩;refine qyK ⟨rfl,λV5 l5=>(lg x.num y.den ra ra).s ?_⟩;rintro r V6 l6 ⟨p5,n5,c5,rfl,g5⟩;refine qyK ⟨rfl,λV7 l7=>(cZ x _ ra).s ?_⟩;rintro r V8 l8 ⟨p7,n7,c7,rfl,g7⟩;refine ⟨_,_,_,rfl,λV9 l9=>(yg ra).s ?_⟩;rintro r eV O ⟨p9,n9,c9,rfl,g9⟩;refine qyK ⟨rfl,λeW cU=>(lg y.num x.den ra ra).s ?_⟩;rintro r gC dI ⟨P,Q,R,rfl,S⟩;refine qyK ⟨rfl,λiI dS=>(yf _ _ ra ra (Ā (af C) ω) (Ā (af D) ω)).s ?_⟩;rintro r kK fH ⟨T,U,W,rfl,X⟩;refine qyK ⟨rfl,λke fB=>(cZ x _ ra).s ?_⟩;rintro r kf e_ ⟨Y,Z,a0,rfl,a1⟩;refine ⟨_,_,_,rfl,λlu gX=>(cZ y _ ra).s ?_⟩;rintro r mD gj ⟨a2,a3,a4,rfl,a5⟩;refine ⟨_,_,_,rfl,λnf je=>(dF ra ra).s ?_⟩;rintro r kg il ⟨a6,a7,a8,rfl,h⟩;rw [ag,ag] at h;refine ⟨_,_,_,rfl,λqC nQ=>(lJ _ ra ra (Ā (af E) ω) (Ā (af F) ω) (Ņ x.den_nz y.den_nz)).s ?_⟩;rw [a];rintro r qN lZ ⟨a9,b0,b5,b6,b7,b8,rfl,b9,c0⟩;exact qxQ ⟨rfl,λqD l_=>⟨_,_,_,_,_,_,rfl,ra,ra⟩⟩
theorem iB (Z:RQ V v x)(hy:RQ V w y)(hk:Sz k x)(hm:Sz m y)(hkm:k+m<2^38:=by omega):À 83 #[v,w] V λr W=>RQ W r (x-y):=by obtain ⟨p,n,c,a,b,d,rfl,f,g⟩:=id Z;obtain ⟨q,i,e,h,j,l,rfl,o,s⟩:=hy;refine OR V _ λu z=>(nZ y ra ra).s ?_;rintro r V2 A t;obtain ⟨B,C,D,E,F,G,rfl,H,I⟩:=id t;refine qxQ ⟨rfl,λJ K=>(eE ra ra hk hm.neg hkm).s ?_⟩;rw [<-Qs9];rintro r L M ⟨N,O,P,Q,R,S,rfl,T,U⟩;exact qxQ ⟨rfl,λW X=>⟨_,_,_,_,_,_,rfl,ra,ra⟩⟩
theorem dR (Z:RQ V v x)(hy:RQ V w y)(hk:Sz k x)(hm:Sz m y)(hkm:k+m<2^38:=by omega):À 52 #[v,w] V λr W=>r=Ô .i64 (ç x y):=by have a:=Z;have b:=hy;obtain ⟨p,n,c,d,f,g,rfl,h,j⟩:=Z;obtain ⟨q,i,e,l,o,s,rfl,t,u⟩:=hy;refine VN V _ λz A=>(iB ra ra hk hm hkm).s ?_;rintro r V2 B ⟨C,D,E,F,G,H,rfl,I,J⟩;refine qxQ ⟨rfl,λK L=>(sZ (x-y) ra).s ?_⟩;rintro r M N rfl;exact ⟨_,rfl,λO P=>rfl⟩
theorem bH (hx:RQ V v x)(hy:RQ V w y){k m:Nat}(hk:Sz k x)(hm:Sz m y)(hkm:k+m<2^38):À 84 #[v,w] V λr W=>RQ W r (x*y):=by obtain ⟨p,n,c,h,j,l,rfl,o,b⟩:=hx;obtain ⟨q,i,e,s,t,u,rfl,A,f⟩:=hy;have ⟨d1,d2,d3⟩:=dG hk;have ⟨d4,d5,d6⟩:=dG hm;have a:=Wj2 x y;have B:(x.num*y.num).natAbs<2^(k+m):=by{rw [Ĭ];exact bX hk.1 hm.1};refine (λtail=>I9 V _ ⟨λC=>⟨λD E F=>?_,λ_=>tail⟩,λ_=>tail⟩) ?_;{clear tail;refine (lg x.num y.num ra ra).s ?_;rintro r V2 G ⟨H,I,J,rfl,g⟩;have K:x*y=((x.num*y.num:Int):Rat):=by{rw [a,((rz b).1 (by simp at C;omega)),((rz f).1 (by simp at D;omega))];simp [Qh4]};rw [K];exact qyK ⟨rfl,λL M=>qo (z:=x.num*y.num) (d:=1) rfl rfl ra RD.nil rfl⟩};intro E F;refine (lg x.num y.num ra ra).s ?_;rintro r V2 G ⟨H,I,J,rfl,X⟩;refine qyK ⟨rfl,λL M=>(cZ x _ ra).s ?_⟩;rintro r Y Z ⟨p4,n4,c4,rfl,g4⟩;refine ⟨_,_,_,rfl,λV5 l5=>(cZ y _ ra).s ?_⟩;rintro r V6 l6 ⟨p6,n6,c6,rfl,g6⟩;refine ⟨_,_,_,rfl,λV7 l7=>(dF ra ra).s ?_⟩;rintro r V8 l8 ⟨p8,n8,c8,rfl,N⟩;rw [ag,ag] at N;refine ⟨_,_,_,rfl,λV9 l9=>(lJ _ ra ra (Ā (af B) ω) (Ā (af (bX hk.2 hm.2)) ω) (Ņ x.den_nz y.den_nz)).s ?_⟩;rw [a];rintro r qN lZ ⟨O,P,Q,R,S,T,rfl,U,W⟩;exact qxQ ⟨rfl,λqD l_=>⟨_,_,_,_,_,_,rfl,ra,ra⟩⟩
end Go.Proofs.Tryz
namespace Go.Eng
variable{V:Ó}
def RP (V:Ó)(v:Value)(x y:Rat):Prop:=∃p n c p' n' c' q m e D E F,v=.agg #[.bool (decide (x.num<0)),.slice p n c,.slice p' n' c',.bool (decide (y.num<0)),.slice q m e,.slice D E F] /\
 RQ V (.agg #[.bool (decide (x.num<0)),.slice p n c,.slice p' n' c']) x/\RQ V (.agg #[.bool (decide (y.num<0)),.slice q m e,.slice D E F]) y
theorem RP.le {V V':ut}{v:un}{x y:Rat}(h:RP V v x y)(l:V.Le V'):RP V' v x y:=by obtain ⟨p,n,c,a,b,d,q,m,e,f,g,i,rfl,j,k⟩:=h;exact ⟨p,n,c,a,b,d,q,m,e,f,g,i,rfl,ra,ra⟩
theorem RQ.shape {v:un}{q:Rat}(h:RQ V v q):∃p n c p' n' c',v=dB #[gF (decide (q.num<0)),yD p n c,yD p' n' c']:=by obtain ⟨p,n,c,p',n',c',e,-⟩:=h;exact qyJ e
theorem RQ.ex {r:un}{q:Rat}{K:md->OA->Nat->Nat->OA->Nat->Nat->Prop}(g:RQ V r q)(h:∀t:OA×Nat×Nat×OA×Nat×Nat,RQ V (dB #[gF (decide (q.num<0)),yD t.1 t.2.1 t.2.2.1,yD t.2.2.2.1 t.2.2.2.2.1 t.2.2.2.2.2]) q->K (decide (q.num<0)) t.1 t.2.1 t.2.2.1 t.2.2.2.1 t.2.2.2.2.1 t.2.2.2.2.2):∃b p n c p' n' c',r=dB #[gF b,yD p n c,yD p' n' c']/\K b p n c p' n' c':=by obtain ⟨_,_,_,_,_,_,rfl⟩:=g.shape;exact qxQ ⟨rfl,h (_,_,_,_,_,_) g⟩
theorem RP.ex {r:un}{x y:Rat}{K:md->OA->Nat->Nat->OA->Nat->Nat->md->OA->Nat->Nat->OA->Nat->Nat->Prop}(g:RP V r x y)(h:∀t u:OA×Nat×Nat×OA×Nat×Nat,RP V (dB #[gF (decide (x.num<0)),yD t.1 t.2.1 t.2.2.1,yD t.2.2.2.1 t.2.2.2.2.1 t.2.2.2.2.2,gF (decide (y.num<0)),yD u.1 u.2.1 u.2.2.1,yD u.2.2.2.1 u.2.2.2.2.1 u.2.2.2.2.2]) x y ->RQ V (dB #[gF (decide (x.num<0)),yD t.1 t.2.1 t.2.2.1,yD t.2.2.2.1 t.2.2.2.2.1 t.2.2.2.2.2]) x->RQ V (dB #[gF (decide (y.num<0)),yD u.1 u.2.1 u.2.2.1,yD u.2.2.2.1 u.2.2.2.2.1 u.2.2.2.2.2]) y->K (decide (x.num<0)) t.1 t.2.1 t.2.2.1 t.2.2.2.1 t.2.2.2.2.1 t.2.2.2.2.2 (decide (y.num<0)) u.1 u.2.1 u.2.2.1 u.2.2.2.1 u.2.2.2.2.1 u.2.2.2.2.2):∃b p n c p' n' c' d q m e D E F,r=dB #[gF b,yD p n c,yD p' n' c',gF d,yD q m e,yD D E F]/\K b p n c p' n' c' d q m e D E F:=by obtain ⟨_,_,_,_,_,_,_,_,_,_,_,_,rfl,a,f⟩:=id g;exact qxW ⟨rfl,h (_,_,_,_,_,_) (_,_,_,_,_,_) g a f⟩
end Go.Eng
namespace Go.Proofs.Tryz
variable{V:Ó}{u w:Value}{px py qx qy:Rat}
theorem zx {p:OA}{n c:Nat}{ds:zA Nat}(h:RD V p n c ds)(hm:ds.length<=2^40:=by omega):À 113 #[yD p n c] V λr W=>∃D E c1,r=yD D E c1/\RD W D E c1 ds:=by have a:=h.len;refine Ja V _ ⟨aO ds,h.sl,by simp [a],ω,ω,ψ,by simp [a],?_,?_⟩;{intro v e;simp only [aO,ÿ] at e;obtain ⟨d,-,rfl⟩:=e;rfl};intro i J sp j f k l m b g;refine ⟨_,_,_,rfl,?_⟩;simp only [č,ť,Qd4,Ŝ] at g f ⊢;exact Ķ h.gT a f g
theorem mL {v:un}{z:Int}(h:RI V v z)(hm:(ah z.natAbs).length<=2^40:=by omega):À 112 #[v] V λr W=>RI W r z:=by obtain ⟨p,n,c,rfl,h⟩:=h;refine I_ V _ λa b=>(zx ra hm).s ?_;rintro r V2 d ⟨e,f,i,rfl,g⟩;exact ⟨_,_,_,rfl,λj k=>⟨_,_,_,rfl,ra⟩⟩
theorem dN (x y:Int)(D:-9223372036854775808<=x)(E:x<=9223372036854775807)(F:-9223372036854775808<=y)(M:y<=9223372036854775807:=by omega):À 56 #[Ô .i64 x,Ô .i64 y] V λr W=>RP W r (x:Rat) (y:Rat):=by refine Mt V _ λc d=>(dM x D E).s λr V2 e a=>RQ.ex a λ_ a=>λf g=>(dM y F M).s λr h i b=>RQ.ex b λ_ b=>λj k=>⟨_,_,_,_,_,_,_,_,_,_,_,_,rfl,ra,ra⟩
theorem fR {v:un}{c:Rat}(hp:RP V u px py)(hc:RQ V v c)(hq:RP V w qx qy){k m:Nat}(s1:Sz k px)(s2:Sz k py)(s3:Sz m c)(s4:Sz m qx)(s5:Sz m qy)(hkm:k+(m+m+1)<2^38):À 66 #[u,v,w] V λr W=>RP W r (px+c*qx) (py+c*qy):=by obtain ⟨f,g,h,i,j,l,n,o,p,q,s,t,rfl,x,y⟩:=hp;obtain ⟨z,A,B,C,D,E,rfl⟩:=hc.shape;obtain ⟨F,G,H,I,J,K,L,M,N,O,P,Q,rfl,R,S⟩:=hq;refine Jc V _ λT U=>(bH ra ra s3 s4 ω).s λr V2 W a=>RQ.ex a λ_ a=>λX Y=>(eE ra ra s1 (s3.mul s4) ω).s λr Z l4 b=>RQ.ex b λ_ b=>λV5 l5=>(bH ra ra s3 s5 ω).s λr V6 l6 d=>RQ.ex d λ_ d=>λV7 l7=>(eE ra ra s2 (s3.mul s5) ω).s λr V8 l8 e=>RQ.ex e λ_ e=>λV9 l9=>⟨_,_,_,_,_,_,_,_,_,_,_,_,rfl,ra,ra⟩
theorem YE:Sz 1 ((-1:Int):Rat):=by unfold Sz;decide
theorem qZ (hp:RP V u px py)(hq:RP V w qx qy){k m:Nat}(s1:Sz k px)(s2:Sz k py)(s4:Sz m qx)(s5:Sz m qy)(hm:1<=m)(hkm:k+(m+m+1)<2^38:=by omega):À 124 #[u,w] V λr W=>RP W r (px-qx) (py-qy):=by have e:=hp;have f:=hq;obtain ⟨g,h,i,j,l,n,o,p,q,s,t,v,rfl,-,-⟩:=hp;obtain ⟨x,y,c,z,A,B,C,D,E,F,G,H,rfl,-,-⟩:=hq;refine Jj V _ λL M=>(dM (-1) ω).s λr V2 N d=>RQ.ex d λ_ d=>λO P=>(fR ra ra ra s1 s2 (YE.s hm) s4 s5 hkm).s ?_;have c:∀a b:Rat,a+((-1:Int):Rat)*b=a-b:=by{intro a b;have:((-1:Int):Rat)=-1:=rfl;rw [this,Rat.neg_mul,Rat.one_mul,Qs9]};rw [c,c];rintro r Q R ⟨S,T,U,W,X,Y,Z,b8,b9,I,J,K,rfl,g2,g3⟩;exact qxW ⟨rfl,λV5 l5=>⟨_,_,_,_,_,_,_,_,_,_,_,_,rfl,ra,ra⟩⟩
theorem o_ (Z:RP V u px py)(hq:RP V w qx qy){k m:Nat}(s1:Sz k px)(s2:Sz k py)(s4:Sz m qx)(s5:Sz m qy)(hkm:k+m<2^38:=by omega):À 134 #[u,w] V λr W=>r=gF (decide (px=qx/\py=qy)):=by obtain ⟨b,c,d,f,g,i,j,l,n,o,p,q,rfl,s,t⟩:=Z;obtain ⟨v,x,y,z,A,B,C,D,E,F,G,H,rfl,I,J⟩:=hq;refine Fz V _ λM N=>(dR ra ra s1 s4 hkm).s ?_;rintro r V2 O rfl;refine ⟨_,rfl,λa K L=>(dR ra ra s2 s5 hkm).s ?_,λa K L=>?_⟩;{have a:=fI.2 (by simpa using a);rintro r P Q rfl;refine ⟨_,rfl,λR S=>?_⟩;congr 1;rw [ĵ,Ñ,Ë,<-fI];exact ⟨λh=>⟨a,h⟩,λh=>h.2⟩};have a:¬px=qx:=λe=>by{rw [fI.1 e] at a;simp at a};rw [È λh=>a h.1]
end Go.Proofs.Tryz
namespace Go.Eng
def RL (V:Ó)(v:Value)(a b c:Int):Prop:=∃p n s p' n' s' q m e,v=.agg #[.bool (decide (a<0)),.slice p n s,.bool (decide (b<0)),.slice p' n' s',.bool (decide (c<0)),.slice q m e] /\
 RD V p n s (ah a.natAbs)/\RD V p' n' s' (ah b.natAbs)/\RD V q m e (ah c.natAbs)
theorem RL.le {V V':ut}{v:un}{a b c:Int}(h:RL V v a b c)(l:V.Le V'):RL V' v a b c:=by obtain ⟨p,n,s,d,f,g,q,m,e,rfl,i,j,k⟩:=h;exact ⟨p,n,s,d,f,g,q,m,e,rfl,ra,ra,ra⟩
end Go.Eng
namespace Go.Proofs.Tryz
variable{V:Ó}{a b c z:Int}{v:Value}
theorem tY {p q:OA}{n c m e:Nat}{xs ys:zA Nat}(D:RD V p n c xs)(E:RD V q m e ys)(hm:xs.length<=2^40:=by omega):À 192 #[yD p n c,yD q m e] V λr W=>r=gF (decide (xs=ys)):=by have g:=D.len;have s:=E.len;refine D3 V _ ⟨λb t u=>?_,λb=>?_⟩;{have b:n≠m:=by{simp at b;omega};rw [È λh=>b (by rw [g,s,h])]};have b:n=m:=by{simp at b;omega};(refine ⟨λz V'=>0<=z/\z<=n/\xs.take z.toNat=ys.take z.toNat,λz=>n-z.toNat,⟨0,Ÿ,ω,ω,rfl⟩,?_⟩;rintro i V2 o ⟨j,k,d⟩;dsimp only at k d ⊢;obtain ⟨i,rfl⟩:=đ j;simp only [ß] at d;refine ⟨θ,λf=>?_,λf v x=>?_⟩);{have f:i<n:=by{simpa using f};refine (D.le o).rd i rfl ω ((E.le o).rd i rfl ω ⟨λa y A=>?_,λa=>?_⟩);{have a:xs[i]≠ys[i]:=by{simp at a;omega};rw [È λh=>a (by subst h;rfl)]};have a:xs[i]=ys[i]:=by{simp at a;omega};have w:i64.wrap ((i:Int)+1)=((i+1:Nat):Int):=by{rw [aq ω];omega};simp only [w];(refine ⟨((i+1:Nat):Int),?_,Ÿ,ω,ω,?_⟩);{(try dsimp only);omega};(try dsimp only);simp only [ß];rw [Qz0 ω,Qz0 (l:=ys) ω,d,a]};have f:i=n:=by{simp at f;omega};rw [ō ω,ō ω] at d;rw [Ç d]
theorem Vl {w:Int}:(decide (z<0)==decide (w<0))=true->(decide (ah z.natAbs=ah w.natAbs)=decide (z=w)):=by intro h;have b:(z<0↔w<0):=by{simpa using h};rw [ĵ,Ñ,Ñ];constructor;{intro a;have:=wm a;omega};intro a;rw [a]
theorem jJ {w:Int}{p q:OA}{n c m e:Nat}(D:RD V p n c (ah z.natAbs))(E:RD V q m e (ah w.natAbs))(hm:(ah z.natAbs).length<=2^40:=by omega):À 129 #[dB #[gF (decide (z<0)),yD p n c],dB #[gF (decide (w<0)),yD q m e]] V λr W=>r=gF (decide (z=w)):=by refine D2 V _ ⟨λa b d=>(tY ra ra hm).s ?_,λa b d=>?_⟩;{rintro r V2 f rfl;refine ⟨_,rfl,λg i=>?_⟩;rw [Vl a]};rw [È λh=>by subst h;simp at a]
theorem EG {w:un}{Z b' c':Int}(hx:RL V v a b c)(hy:RL V w Z b' c')(h1:(ah a.natAbs).length<=2^40)(h2:(ah b.natAbs).length<=2^40)(h3:(ah c.natAbs).length<=2^40):À 58 #[v,w] V λr W=>r=gF (decide (a=Z/\b=b'/\c=c')):=by obtain ⟨p,n,s,g,l,o,q,m,e,rfl,A,B,C⟩:=hx;obtain ⟨i,j,k,t,u,x,i2,y,z,rfl,D,E,F⟩:=hy;refine D_ V _ λG H=>(jJ ra ra h1).s ?_;rintro r V2 I rfl;refine ⟨_,rfl,λd J K=>(jJ ra ra h2).s ?_,λd L M=>?_⟩;{rintro r N O rfl;rw [Ñ] at d;refine ⟨_,rfl,λf P Q=>(jJ ra ra h3).s ?_,λf R S=>?_⟩;{rintro r T U rfl;rw [Ñ] at f;refine ⟨_,rfl,λW X=>?_⟩;congr 1;rw [ĵ,Ñ,Ñ];exact ⟨λh=>⟨d,f,h⟩,λh=>h.2.2⟩};rw [Ò] at f;rw [È λh=>f h.2.1]};rw [Ò] at d;rw [È λh=>d h.1]
theorem zz (Z:RL V v a b c)(h1:(ah a.natAbs).length<=2^40)(h2:(ah b.natAbs).length<=2^40)(h3:(ah c.natAbs).length<=2^40:=by omega):À 59 #[v] V λr W=>RL W r a b c:=by obtain ⟨p,n,s,d,f,g,q,m,e,rfl,h,i,j⟩:=Z;refine Jk V _ λk l=>(mL ⟨_,_,_,rfl,ra⟩ h1).s ?_;rintro r V2 o ⟨t,u,w,rfl,x⟩;refine qyK ⟨rfl,λy z=>(mL ⟨_,_,_,rfl,ra⟩ h2).s ?_⟩;rintro r A B ⟨C,D,E,rfl,F⟩;refine qyK ⟨rfl,λG H=>(mL ⟨_,_,_,rfl,ra⟩ h3).s ?_⟩;rintro r I J ⟨K,L,M,rfl,N⟩;exact qyK ⟨rfl,λO P=>⟨_,_,_,_,_,_,_,_,_,rfl,ra,ra,ra⟩⟩
theorem rB {g:Nat}(D:0<g)(E:g∣z.natAbs):(if decide (z<0)=true then -((z.natAbs/g:Nat):Int) else ((z.natAbs/g:Nat):Int))=z/(g:Int):=by obtain ⟨k,a⟩:=E;have b:z.natAbs/g=k:=by{rw [a,Nat.mul_div_cancel_left _ D]};rw [b];have c:z=(g:Int)*(if decide (z<0)=true then -(k:Int) else k):=by{split;{rename_i h;rw [Ñ] at h;rw [Wx4,<-Ť,<-a];omega};rename_i h;rw [Ñ] at h;rw [<-Ť,<-a];omega};generalize (if decide (z<0)=true then -(k:Int) else k)=t at *;rw [c,Qh0 _ ω]
def cj (a b c:Int):Nat:=Nat.gcd (Nat.gcd a.natAbs b.natAbs) c.natAbs
theorem ED {u w:un}(ha:RI V u a)(hb:RI V v b)(hc:RI V w c)(h1:(ah a.natAbs).length<=2^38)(h2:(ah b.natAbs).length<=2^38)(h3:(ah c.natAbs).length<=2^38):À 127 #[u,v,w] V λr W=>(a=0/\b=0->∃l,r=ê #[l,gF false]/\RL W l 0 0 0)/\(¬(a=0/\b=0)->∃l,r=ê #[l,gF true]/\RL W l (a/(cj a b c:Int)) (b/(cj a b c:Int)) (c/(cj a b c:Int))):=by obtain ⟨p,n,s,rfl,ha⟩:=ha;obtain ⟨t,x,y,rfl,hb⟩:=hb;obtain ⟨q,m,e,rfl,hc⟩:=hc;refine D8 V _ λP Q=>(kM ra ra h1 h2).s ?_;rintro r V2 R ⟨S,T,U,rfl,z⟩;have W:=iV z.len;have f:Nat.gcd a.natAbs b.natAbs=0↔a=0/\b=0:=by{rw [Qh5];omega};refine ⟨_,_,_,rfl,λk X Y=>⟨λ_=>⟨_,rfl,_,_,_,_,_,_,_,_,_,rfl,RD.nil,RD.nil,RD.nil⟩,λh=>?_⟩,λk Z l4=>?_⟩;{exact Å (f.1 (by simp at k;omega)) h};have o:¬(a=0/\b=0):=λh=>by{have:=f.2 h;simp at k;omega};have i:0<Nat.gcd a.natAbs b.natAbs:=by{have:=f;omega};have j:(ah (Nat.gcd a.natAbs b.natAbs)).length<=2^38:=by{rcases Ŀ a.natAbs with h|h;{rw [h,Wz6];exact h2};exact Ā (aS (Nat.gcd_le_left _ h)) h1};refine (kM ra ra j h3).s ?_;rintro r V5 l5 ⟨p2,n2,c2,rfl,A⟩;have B:Nat.gcd (Nat.gcd a.natAbs b.natAbs) c.natAbs=cj a b c:=rfl;have d:0<cj a b c:=Nat.gcd_pos_of_pos_left _ i;have g:(ah (cj a b c)).length<=2^38:=Ā (aS (Nat.gcd_le_left _ i)) j;have C:cj a b c∣a.natAbs:=Qt0 (Ŋ _ _) (Ŋ _ _);have D:cj a b c∣b.natAbs:=Qt0 (Ŋ _ _) (ŧ _ _);have E:cj a b c∣c.natAbs:=ŧ _ _;rw [B] at A;generalize cj a b c=G at *;refine ⟨_,_,_,rfl,λV6 l6=>(dY ra ra h1 g d).s ?_⟩;rintro r V7 l7 ⟨p3,n3,c3,p4,n4,c4,rfl,g3,-⟩;refine qyJ ⟨rfl,λV8 l8=>(dY ra ra h2 g d).s ?_⟩;rintro r V9 l9 ⟨p5,n5,c5,p6,n6,c6,rfl,g5,-⟩;refine qyJ ⟨rfl,λeV F=>(dY ra ra h3 g d).s ?_⟩;rintro r eW cU ⟨p7,n7,c7,p8,n8,c8,rfl,g7,-⟩;refine qyJ ⟨rfl,λgC dI=>(di _ ra).s ?_⟩;rw [(rB d C)];rintro r iI dS ⟨p9,n9,c9,rfl,g9⟩;refine qyK ⟨rfl,λkK fH=>(di _ ra).s ?_⟩;rw [(rB d D)];rintro r ke fB ⟨H,I,J,rfl,K⟩;refine qyK ⟨rfl,λkf e_=>(di _ ra).s ?_⟩;rw [(rB d E)];rintro r lu gX ⟨L,M,N,rfl,O⟩;refine qyK ⟨rfl,λmD gj=>⟨λh=>Å h o,λ_=>⟨_,rfl,_,_,_,_,_,_,_,_,_,rfl,?_,?_,?_⟩⟩⟩;{exact ra};{exact ra};exact ra
end Go.Proofs.Tryz
namespace Go.Eng
def xM (V:Ó)(v:Value)(a b c:Rat):Prop:=∃(D E:Int)(p:OA)(F M:Int)(q:OA)(N O:Int)(r:OA),v=.agg #[.int .i64 D,.int .i64 E,.pointer p,.int .i64 F,.int .i64 M,.pointer q,.int .i64 N,.int .i64 O,.pointer r] /\
 RR V (.agg #[.int .i64 D,.int .i64 E,.pointer p]) a/\RR V (.agg #[.int .i64 F,.int .i64 M,.pointer q]) b/\RR V (.agg #[.int .i64 N,.int .i64 O,.pointer r]) c
def Wv (v:Value):Prop:=∃(D E:Int)(F:OA)(M N:Int)(O:OA)(Z z2:Int)(z3:OA),v=.agg #[.int .i64 D,.int .i64 E,.pointer F,.int .i64 M,.int .i64 N,.pointer O,.int .i64 Z,.int .i64 z2,.pointer z3]
theorem xM.le {V V':ut}{v:un}{a b c:Rat}(h:xM V v a b c)(l:V.Le V'):xM V' v a b c:=by obtain ⟨d,e,p,f,g,q,i,j,r,rfl,k,m,n⟩:=h;exact ⟨d,e,p,f,g,q,i,j,r,rfl,ra,ra,ra⟩
end Go.Eng
namespace Go.Proofs.Tryz
variable{V:Ó}{l p v w:Value}{E0 E1 Oq a b jv jw l_0 l_1 l_2 q x y:Rat}{c k m n:Nat}
theorem QH {c:Rat}(h:xM V v a b c)(s1:Sz k a)(s2:Sz k b)(s3:Sz k c)(Z:k<=2^40):À 244 #[v] V λr W=>RL W r a.num b.num c.num:=by obtain ⟨d,e,p,f,g,q,i,j,r,rfl,l,m,n⟩:=h;refine Fh V _ λo s=>(ij ra s1 Z).s ?_;rintro r V2 t ⟨u,w,x,rfl,y⟩;refine qyK ⟨rfl,λz A=>(ij ra s2 Z).s ?_⟩;rintro r B C ⟨D,E,F,rfl,G⟩;refine qyK ⟨rfl,λH I=>(ij ra s3 Z).s ?_⟩;rintro r J K ⟨L,M,N,rfl,O⟩;exact qyK ⟨rfl,λP Q=>⟨_,_,_,_,_,_,_,_,_,rfl,ra,ra,ra⟩⟩
def EX (b1:Bool)(xs:List Nat)(D:Bool)(ys:List Nat)(E:Bool)(F:List Nat):Bool:=
 qA b1 xs&&qA D ys&&qA E F&&!(decide ((bK b1 xs:Rat)=0)&&decide ((bK D ys:Rat)=0))&&decide (eG (eG (bK b1 xs) (bK D ys)) (bK E F)=((1:Int):Rat))
theorem yI {ok:md}{A B C:Rat}(h:ok=false):∃v,Value.tuple #[dB #[Ô .i64 0,Ô .i64 0,Õ none,Ô .i64 0,Ô .i64 0,Õ none,Ô .i64 0,Ô .i64 0,Õ none],gF false]=ê #[v,gF ok]/\Wv v/\(ok=true->xM V v A B C):=by subst h;exact ⟨_,rfl,⟨_,_,_,_,_,_,_,_,_,rfl⟩,λh=>nomatch h⟩
theorem Oo:Sz 1 ((1:Int):Rat):=by unfold Sz;decide
theorem BU {V:ut}(b1 b2 b3:md){p q s:OA}{e i j:Nat}{xs ys zs:zA Nat}(hx:RD V p n c xs)(hy:RD V q m e ys)(hz:RD V s i j zs)(h1:xs.length<=2^40)(h2:ys.length<=2^40)(h3:zs.length<=2^40)(s1:Sz k (bK b1 xs:Rat))(s2:Sz k (bK b2 ys:Rat))(s3:Sz k (bK b3 zs:Rat))(hk:4*k+4<2^40:=by omega):À 202 #[dB #[gF b1,yD p n c,gF b2,yD q m e,gF b3,yD s i j]] V λr W=>∃v,r=ê #[v,gF (EX b1 xs b2 ys b3 zs)]/\Wv v/\(EX b1 xs b2 ys b3 zs=true->xM W v (bK b1 xs) (bK b2 ys) (bK b3 zs)):=by refine LY V _ λV1 H=>(jj b1 ra h1).s ?_;rintro r V2 I rfl;refine ⟨_,rfl,λd V3 l3=>yI ?_,λd V4 J=>(jj b2 ra h2).s ?_⟩;{have d:qA b1 xs=false:=by{simpa using d};simp [EX,d]};have d:qA b1 xs=true:=by{simpa using d};rintro r V5 K rfl;refine ⟨_,rfl,λf V6 l6=>yI ?_,λf V7 L=>(jj b3 ra h3).s ?_⟩;{have f:qA b2 ys=false:=by{simpa using f};simp [EX,f]};have f:qA b2 ys=true:=by{simpa using f};rintro r V8 M rfl;have t:=H.m (I.m (J.m (K.m (L.m M))));refine ⟨_,rfl,λf0 V9 l9=>yI ?_,λf0 eV N=>(oT b1 ra h1).s ?_⟩;{have f0:qA b3 zs=false:=by{simpa using f0};simp [EX,f0]};have f0:qA b3 zs=true:=by{simpa using f0};rintro r eW cU ra;obtain ⟨x1,x2,x3,rfl⟩:=ra.shape;have O:=t.m au;refine ⟨_,_,_,rfl,λgC P=>(oT b2 (hy.le au) h2).s λr iI Q b=>RR.ex b λ_ b=>λkK u=>(oT b3 (hz.le ((O.m au).m u)) h3).s ?_⟩;rintro r ke F rc;obtain ⟨z1,z2,z3,rfl⟩:=rc.shape;replace ra:=ra.le (P.m (Q.m (u.m F)));replace b:=b.le (u.m F);have o:EX b1 xs b2 ys b3 zs=(!(decide ((bK b1 xs:Rat)=0)&&decide ((bK b2 ys:Rat)=0))&&decide (eG (eG (bK b1 xs) (bK b2 ys)) (bK b3 zs)=((1:Int):Rat))):=by{simp only [EX,d,f,f0,Bool.true_and]};rw [o];clear o d f f0 hx hy hz;generalize (bK b1 xs:Rat)=A at *;generalize (bK b2 ys:Rat)=B at *;generalize (bK b3 zs:Rat)=C at *;refine ⟨_,_,_,rfl,λkf w=>(JP (ra.le w)).s ?_⟩;rintro r lu G rfl;refine ⟨_,rfl,λt0 mD R=>(JP (b.le au)).s ?_,λt0 S x=>?_⟩;{rintro r nf T rfl;refine ⟨_,rfl,λy kg il=>yI (by rw [t0,y];rfl),λy S x=>?_⟩;have lb:=w.m (G.m (R.m (T.m x)));have z:(decide (A=0)&&decide (B=0))=false:=by{rw [y,Wj9]};rw [z];refine (lD (ra.le lb) (b.le lb) s1 s2).s λr U W rg=>RR.ex rg λ_ rg=>λX D=>(lD (rg.le D) (rc.le au) (ig s1 s2) s3).s λr Y Z g=>RR.ex g λ_ g=>λA8 uV=>(uJ 1 ω).s λr MD Bj l=>RR.ex l λ_ l=>λMQ E=>(nV (g.le au) (l.le E) (ig (ig s1 s2) s3) Oo).s ?_;rintro r Wx KI rfl;have lz:=lb.m au;refine ⟨_,rfl,λa YV H5=>yI ?_,λa SH MJ=>?_⟩;{rw [ŋ] at a;rw [a];rfl};have a:decide (eG (eG A B) C=((1:Int):Rat))=true:=by{cases h:decide (eG (eG A B) C=((1:Int):Rat));{rw [h] at a;cases a};rfl};rw [a];exact ⟨_,rfl,⟨_,_,_,_,_,_,_,_,_,rfl⟩,λ_=>⟨_,_,_,_,_,_,_,_,_,rfl,ra.le au,b.le au,rc.le au⟩⟩};have lb:=w.m (G.m x);have z:(decide (A=0)&&decide (B=0))=false:=by{rw [t0,Bool.false_and]};rw [z];refine (lD (ra.le lb) (b.le lb) s1 s2).s λr U W rg=>RR.ex rg λ_ rg=>λX D=>(lD (rg.le D) (rc.le au) (ig s1 s2) s3).s λr Y Z g=>RR.ex g λ_ g=>λA8 uV=>(uJ 1 ω).s λr MD Bj l=>RR.ex l λ_ l=>λMQ E=>(nV (g.le au) (l.le E) (ig (ig s1 s2) s3) Oo).s ?_;rintro r Wx KI rfl;have lz:=lb.m au;refine ⟨_,rfl,λa YV H5=>yI ?_,λa SH MJ=>?_⟩;{rw [ŋ] at a;rw [a];rfl};have a:decide (eG (eG A B) C=((1:Int):Rat))=true:=by{cases h:decide (eG (eG A B) C=((1:Int):Rat));{rw [h] at a;cases a};rfl};rw [a];exact ⟨_,rfl,⟨_,_,_,_,_,_,_,_,_,rfl⟩,λ_=>⟨_,_,_,_,_,_,_,_,_,rfl,ra.le au,b.le au,rc.le au⟩⟩
def RH:List Int->Int
 | []=>0
 | x::r=>if x=0 then RH r else x
def XB (l:List Int):List Value:=l.map λx=>Value.int .i64 x
theorem orI_eq {l:zA Int}:RH l=0↔∀x∈l,x=0:=by
 induction l with
 | nil=>simp [RH]
 | cons x r D=>
  simp only [RH,í,forall_eq_or_imp];split
  ·rename_i h;simp [h,D]
  ·rename_i h;simp [h]
theorem JT {p:OA}{l:zA Int}(E:n=l.length)(D:V.sl p (XB l))(hm:l.length<=2^40):À 211 #[yD p n c] V λr W=>r=Ô .i64 (RH l):=by (refine Sf V _ ⟨λz V'=>0<=z/\z<=n/\RH l=RH (l.drop z.toNat),λz=>n-z.toNat,⟨0,Ÿ,ω,ω,rfl⟩,?_⟩;rintro i m j ⟨e,f,he⟩;dsimp only at f he ⊢;obtain ⟨i,rfl⟩:=đ e;simp only [ß] at he;refine ⟨θ,λb=>?_,λb o q=>?_⟩);{have b:i<n:=by{simpa using b};have d:i<l.length:=ω;obtain ⟨k,h,g⟩:=(j.sl D) i (Ô .i64 l[i]) (by simp [XB,d]);rw [ī d,RH] at he;refine ⟨by rw [h];rfl,Ź,l[i],⟨k.add i,by rw [h];simp [ae],g⟩,λa V2 s=>?_,λa=>?_⟩;{have a:l[i]≠0:=by{simpa using a};rw [Ã a] at he;rw [he]};have a:l[i]=0:=by{simpa using a};rw [Ä a] at he;have w:i64.wrap ((i:Int)+1)=((i+1:Nat):Int):=by{rw [aq ω];omega};simp only [w];(refine ⟨((i+1:Nat):Int),?_,Ÿ,ω,ω,?_⟩);{(try dsimp only);omega};exact he};have b:i=n:=by{simp at b;omega};rw [ń ω] at he;rw [he];rfl
theorem xZ {c a' b' c':Rat}(hx:xM V v a b c)(hy:xM V w a' b' c')(s1:Sz k a)(s2:Sz k b)(s3:Sz k c)(t1:Sz m a')(t2:Sz m b')(t3:Sz m c')(hk:k+m<2^40:=by omega):À 154 #[v,w] V λr W=>r=Ô .i64 (RH [ç a a',ç b b',ç c c']):=by obtain ⟨f,g,p,h,j,q,n,o,r,rfl,s,t,u⟩:=hx;obtain ⟨x,y,z,A,B,C,D,E,F,rfl,G,H,I⟩:=hy;refine Fi V _ λJ K=>(iO ra ra s1 t1 hk).s ?_;rintro r V2 L rfl;refine ⟨_,rfl,λM N=>(iO ra ra s2 t2 hk).s ?_⟩;rintro r O P rfl;refine ⟨_,rfl,λQ R=>(iO ra ra s3 t3 hk).s ?_⟩;rintro r S T rfl;refine ⟨_,rfl,λU W X d=>(JT (l:=[ç a a',ç b b',ç c c']) rfl (λi v e=>⟨_,rfl,by rw [add_zero'];exact dK (xs:=XB [ç a a',ç b b',ç c c']) d e⟩) ψ).s ?_⟩;rintro r Y Z rfl;exact ⟨_,rfl,λ_ V9 l9=>rfl⟩
theorem zw {c M b' c':Rat}(N:xM V v a b c)(O:xM V w M b' c')(s1:Sz k a)(s2:Sz k b)(s3:Sz k c)(t1:Sz m M)(t2:Sz m b')(t3:Sz m c')(Z:k+m<2^40:=by omega):À 156 #[v,w] V λr W=>r=gF (decide (a=M/\b=b'/\c=c')):=by have d:=N;have e:=O;obtain ⟨f,g,p,h,i,q,j,l,r,rfl,-,-,-⟩:=N;obtain ⟨n,o,s,t,u,x,y,z,A,rfl,-,-,-⟩:=O;refine Az V _ λB C=>(xZ ra ra s1 s2 s3 t1 t2 t3 Z).s λr V2 D rfl=>⟨_,rfl,λE F=>?_⟩;congr 1;rw [ĵ,Ñ,Ë,orI_eq];simp [<-fI]
def kd (V:Ó)(v:Value)(x y:Rat):Prop:=∃(D E:Int)(p:OA)(F M:Int)(q:OA),v=.agg #[.int .i64 D,.int .i64 E,.pointer p,.int .i64 F,.int .i64 M,.pointer q] /\
 RR V (.agg #[.int .i64 D,.int .i64 E,.pointer p]) x/\RR V (.agg #[.int .i64 F,.int .i64 M,.pointer q]) y
theorem kd.le {V V':ut}(h:kd V v x y)(l:V.Le V'):kd V' v x y:=by obtain ⟨a,b,p,c,d,q,e,g,f⟩:=h;exact ⟨a,b,p,c,d,q,e,ra,f.le l⟩
theorem kd.ex {r:un}{K:Int->Int->OA->Int->Int->OA->Prop}(g:kd V r x y)(h:∀t u:Int×Int×OA,kd V (dB #[Ô .i64 t.1,Ô .i64 t.2.1,Õ t.2.2,Ô .i64 u.1,Ô .i64 u.2.1,Õ u.2.2]) x y->RR V (dB #[Ô .i64 t.1,Ô .i64 t.2.1,Õ t.2.2]) x->RR V (dB #[Ô .i64 u.1,Ô .i64 u.2.1,Õ u.2.2]) y->K t.1 t.2.1 t.2.2 u.1 u.2.1 u.2.2):∃a b c d e f,r=dB #[Ô .i64 a,Ô .i64 b,Õ c,Ô .i64 d,Ô .i64 e,Õ f]/\K a b c d e f:=by obtain ⟨_,_,_,_,_,_,rfl,i,j⟩:=id g;exact qyJ ⟨rfl,h (_,_,_) (_,_,_) g i j⟩
theorem st {p:Prop}(h:p:=by repeat' (intro V l;first|exact RR.le ξ au|refine (qyJ ⟨rfl,RR.le ξ au,RR.le ξ au⟩)|refine ⟨_,_,_,_,_,_,_,_,_,rfl,RR.le ξ au,RR.le ξ au,RR.le ξ au⟩|(apply aa.s;(with_reducible first|apply Hz (k:=549755813887) (m:=549755813887)|apply O9 (k:=549755813887) (m:=549755813887)|apply O_ (k:=549755813887) (m:=549755813887)|apply Ba (k:=549755813887) (m:=549755813887)|apply oR (k:=2^40));(any_goals exact RR.le ξ au);(any_goals first|exact sz|decide);intro r W m g;refine RR.ex g λa h=>?_))):p:=h
theorem HE {q:un}(D:kd V p jv jw)(E:kd V q E0 E1){k:Nat}(F:Sz k jv)(M:Sz k jw)(N:Sz k E0)(O:Sz k E1)(Z:2*k+1<2^38):À 177 #[p,q] V λr W=>kd W r ((jv)+(E0)) ((jw)+(E1)):=by obtain ⟨_,_,_,_,_,_,rfl,_,_⟩:=id D;obtain ⟨_,_,_,_,_,_,rfl,_,_⟩:=id E;exact Fm V _ st
theorem qU {c:un}{c_0:Rat}(D:kd V p jv jw)(E:RR V c c_0){k:Nat}(F:Sz k jv)(M:Sz k jw)(sc_0:Sz k c_0)(N:2*k+1<2^38):À 102 #[p,c] V λr W=>kd W r ((jv)*(c_0)) ((jw)*(c_0)):=by obtain ⟨_,_,_,_,_,_,rfl,_,_⟩:=id D;obtain ⟨_,_,_,rfl⟩:=E.shape;exact AF V _ st
theorem vR {q:un}(D:kd V p jv jw)(E:kd V q E0 E1){k:Nat}(F:Sz k jv)(M:Sz k jw)(N:Sz k E0)(O:Sz k E1)(Z:4*k+3<2^38):À 166 #[p,q] V λr W=>RR W r (((jv)*(E0))+((jw)*(E1))):=by obtain ⟨_,_,_,_,_,_,rfl,_,_⟩:=id D;obtain ⟨_,_,_,_,_,_,rfl,_,_⟩:=id E;exact Fo V _ st
theorem Eo (D:Sz k jv)(E:Sz k jw)(F:Sz k E0)(M:Sz k E1):Sz (4*k+3) (((jv)*(E0))+((jw)*(E1))):=sz
theorem BW {q:un}(D:kd V p jv jw)(E:kd V q E0 E1)(F:Sz k jv)(M:Sz k jw)(N:Sz k E0)(O:Sz k E1)(Z:4*k+3<2^38):À 182 #[p,q] V λr W=>RR W r (((jv)*(E1))-((jw)*(E0))):=by obtain ⟨_,_,_,_,_,_,rfl,_,_⟩:=id D;obtain ⟨_,_,_,_,_,_,rfl,_,_⟩:=id E;exact AD V _ st
theorem zo (D:Sz k jv)(E:Sz k jw)(F:Sz k E0)(M:Sz k E1):Sz (4*k+3) (((jv)*(E1))-((jw)*(E0))):=sz
theorem oU (D:xM V l l_0 l_1 l_2){k:Nat}(E:Sz k l_0)(r_:Sz k l_1)(F:Sz k l_2)(M:1*k+1<2^38):À 38 #[l] V λr W=>kd W r (l_1) (-(l_0)):=by obtain ⟨_,_,_,_,_,_,_,_,_,rfl,_,_,_⟩:=id D;exact Fk V _ st
theorem qi (D:xM V l l_0 l_1 l_2){k:Nat}(E:Sz k l_0)(r_:Sz k l_1)(F:Sz k l_2)(M:1*k+1<2^38):À 219 #[l] V λr W=>kd W r (l_0) (l_1):=by obtain ⟨_,_,_,_,_,_,_,_,_,rfl,_,_,_⟩:=id D;exact yW V _ st
theorem x_ (D:xM V l l_0 l_1 l_2)(E:Sz k l_0)(r_:Sz k l_1)(F:Sz k l_2)(M:1*k+1<2^38):À 95 #[l] V λr W=>xM W r (-(l_0)) (-(l_1)) (-(l_2)):=by obtain ⟨_,_,_,_,_,_,_,_,_,rfl,_,_,_⟩:=id D;exact xC V _ st
theorem iw {p:Prop}(h:p:=by repeat' (intro V l;first|exact RR.le ξ au|refine (qyJ ⟨rfl,RR.le ξ au,RR.le ξ au⟩)|(apply aa.s;(with_reducible first|apply Hz (k:=549755813887) (m:=549755813887)|apply Ba (k:=549755813887) (m:=549755813887)|apply oR (k:=2^40)|apply HE (k:=137438953471)|apply qU (k:=137438953471)|apply vR (k:=68719476735)|apply oU (k:=274877906942)|apply qi (k:=274877906942)|apply_assumption);(any_goals first|exact RR.le ξ au|exact kd.le ξ au|exact xM.le ξ au);(any_goals first|exact sz|decide);intro r W m g;(first|refine RR.ex g λa h=>?_|refine kd.ex g λa b h i j=>?_)))):p:=h
theorem qT (D:xM V l l_0 l_1 l_2)(E:kd V p jv jw){k:Nat}(F:Sz k l_0)(r_:Sz k l_1)(M:Sz k l_2)(N:Sz k jv)(O:Sz k jw)(Z:5*k+4<2^38:=by omega):À 163 #[l,p] V λr W=>RR W r ((((l_0)*(jv))+((l_1)*(jw)))+(l_2)):=by obtain ⟨_,_,_,_,_,_,_,_,_,rfl,_,_,_⟩:=id D;obtain ⟨_,_,_,_,_,_,rfl,_,_⟩:=id E;exact AB V _ iw
theorem oN {k:Nat}(D:Sz k l_0)(r_:Sz k l_1)(E:Sz k l_2)(F:Sz k jv)(M:Sz k jw):Sz (5*k+4) ((((l_0)*(jv))+((l_1)*(jw)))+(l_2)):=sz
theorem tX (D:xM V l l_0 l_1 l_2){k:Nat}(E:Sz k l_0)(r_:Sz k l_1)(F:Sz k l_2)(M:10*k+9<2^38:=by omega):À 176 #[l] V λr W=>kd W r ((l_0)*(((-(l_2))*(((l_0)*(l_0))+((l_1)*(l_1)))⁻¹))) ((l_1)*(((-(l_2))*(((l_0)*(l_0))+((l_1)*(l_1)))⁻¹))):=by obtain ⟨_,_,_,_,_,_,_,_,_,rfl,_,_,_⟩:=id D;exact DQ V _ iw
theorem qv (D:Sz k l_0)(r_:Sz k l_1)(E:Sz k l_2):Sz (10*k+9) ((l_0)*(((-(l_2))*(((l_0)*(l_0))+((l_1)*(l_1)))⁻¹))):=sz
theorem qw (D:Sz k l_0)(r_:Sz k l_1)(E:Sz k l_2):Sz (10*k+9) ((l_1)*(((-(l_2))*(((l_0)*(l_0))+((l_1)*(l_1)))⁻¹))):=sz
theorem JX {t:un}(D:xM V l l_0 l_1 l_2)(E:RR V t Oq)(F:Sz k l_0)(r_:Sz k l_1)(M:Sz k l_2)(st_0:Sz k Oq)(N:20*k+19<2^38):À 105 #[l,t] V λr W=>kd W r ((((l_0)*(((-(l_2))*(((l_0)*(l_0))+((l_1)*(l_1)))⁻¹))))+(((l_1)*(Oq)))) ((((l_1)*(((-(l_2))*(((l_0)*(l_0))+((l_1)*(l_1)))⁻¹))))+((((-(l_0)))*(Oq)))):=by obtain ⟨_,_,_,_,_,_,_,_,_,rfl,_,_,_⟩:=id D;obtain ⟨_,_,_,rfl⟩:=E.shape;have d {V l a b c} (h:xM V l a b c) s1 s2 s3:=tX (k:=27487790693) h s1 s2 s3 φ;exact I4 V _ iw
theorem FR (D:Sz k l_0)(r_:Sz k l_1)(E:Sz k l_2)(st_0:Sz k Oq):Sz (20*k+19) ((((l_0)*(((-(l_2))*(((l_0)*(l_0))+((l_1)*(l_1)))⁻¹))))+(((l_1)*(Oq)))):=sz
theorem FU (D:Sz k l_0)(r_:Sz k l_1)(E:Sz k l_2)(st_0:Sz k Oq):Sz (20*k+19) ((((l_1)*(((-(l_2))*(((l_0)*(l_0))+((l_1)*(l_1)))⁻¹))))+((((-(l_0)))*(Oq)))):=sz
theorem BV (D:xM V l l_0 l_1 l_2)(E:kd V p jv jw)(F:Sz k l_0)(r_:Sz k l_1)(M:Sz k l_2)(N:Sz k jv)(O:Sz k jw)(Z:8*k+7<2^38):À 100 #[l,p] V λr W=>RR W r ((((l_1)*(jv))+(((-(l_0)))*(jw)))*(((l_1)*(l_1))+(((-(l_0)))*((-(l_0)))))⁻¹):=by obtain ⟨_,_,_,_,_,_,_,_,_,rfl,_,_,_⟩:=id D;obtain ⟨_,_,_,_,_,_,rfl,_,_⟩:=id E;exact AA V _ iw
theorem zk (D:Sz k l_0)(r_:Sz k l_1)(E:Sz k l_2)(F:Sz k jv)(M:Sz k jw):Sz (8*k+7) ((((l_1)*(jv))+(((-(l_0)))*(jw)))*(((l_1)*(l_1))+(((-(l_0)))*((-(l_0)))))⁻¹):=sz
theorem jo (hx:RQ V v x)(hy:RQ V w y)(hy0:y.num≠0){k m:Nat}(hk:Sz k x)(hm:Sz m y)(hkm:k+m<2^38):À 87 #[v,w] V λr W=>RQ W r (x*y⁻¹):=by obtain ⟨p,n,c,f,g,j,rfl,l,o⟩:=hx;obtain ⟨q,i,e,s,t,u,rfl,z,A⟩:=hy;have a:=iA hm;have P:=af hk.1;have Q:=af hk.2;have R:=af hm.1;have S:=af a.1;have d:(y⁻¹).num=(if decide (y.num<0)=true then -((y.den:Nat):Int) else ((y.den:Nat):Int))/\(y⁻¹).den=y.num.natAbs:=by{rcases Int.lt_or_gt_of_ne hy0 with h|h;{rw [Ä (Ç h)];exact inv_neg h};rw [Ã (λB=>by have:=Á B;omega)];exact inv_pos h};have C:(x.num*(y⁻¹).num).natAbs<2^(k+m):=by{rw [Ĭ];exact bX hk.1 a.1};refine Mi V _ λT U=>(cZ y _ ra).s ?_;rintro r V2 W ⟨X,Y,Z,rfl,g1⟩;refine ⟨_,_,_,rfl,λV3 l3=>(di _ ra).s ?_⟩;rw [<-d.1];rintro r V4 l4 ⟨p4,n4,c4,rfl,g4⟩;refine qyK ⟨rfl,λV5 l5=>(lg x.num (y⁻¹).num ra ra).s ?_⟩;rintro r V6 l6 ⟨p6,n6,c6,rfl,g6⟩;refine qyK ⟨rfl,λV7 l7=>(cZ x _ ra).s ?_⟩;rintro r V8 l8 ⟨p8,n8,c8,rfl,g8⟩;refine ⟨_,_,_,rfl,λV9 l9=>(dF ra ra).s ?_⟩;rintro r eV D ⟨E,F,G,rfl,b⟩;rw [ag,ag,<-d.2] at b;refine ⟨_,_,_,rfl,λeW cU=>(lJ _ ra ra (Ā (af C) ω) (Ā (af (bX hk.2 a.2)) ω) (Ņ x.den_nz (y⁻¹).den_nz)).s ?_⟩;rw [(Wj2 x y⁻¹)];rintro r qN lZ ⟨H,I,J,K,L,M,rfl,N,O⟩;exact qxQ ⟨rfl,λqD l_=>⟨_,_,_,_,_,_,rfl,ra,ra⟩⟩
theorem QO (z:Int){p:OA}(h:RD V p n c (ah z.natAbs)):À 85 #[dB #[gF (decide (z<0)),yD p n c]] V λr W=>RQ W r (z:Rat):=
 OW V _ λa b=>qo (z:=z) (d:=1) rfl rfl ra RD.nil rfl
theorem RQ.ofNat {p:OA}{x:Nat}(h:RN V p n c x){b:md}(D:b=decide ((x:Int)<0)):RQ V (dB #[gF b,yD p n c,yD none 0 0]) ((x:Int):Rat):=
 qo (z:=(x:Int)) (d:=1) rfl rfl h RD.nil D
theorem RQ.int {b:md}{p:OA}{p':OA}{n' c':Nat}(h:RQ V (dB #[gF b,yD p n c,yD p' n' c']) q):RI V (dB #[gF b,yD p n c]) q.num:=by obtain ⟨d,f,g,i,j,k,e,a,l⟩:=h;cases e;exact ⟨_,_,_,rfl,a⟩
theorem RQ.den {b:md}{p:OA}{p':OA}{n' c':Nat}(h:RQ V (dB #[gF b,yD p n c,yD p' n' c']) q):RD V p' n' c' (Ag q.den):=by obtain ⟨d,f,g,i,j,k,e,l,a⟩:=h;cases e;exact a
def qt (px py qx qy:Rat):Rat×Rat×Rat:=
 let a:=-(qy-py);let b:=qx-px;let c:=-(a*px+b*py)
 let f:Rat:=(((a.den*b.den*c.den:Nat):Int):Rat)
 (a*f,b*f,c*f)
theorem sz_nat (h:n<2^k)(D:0<k:=by omega):Sz k (((n:Nat):Int):Rat):=by refine ⟨?_,?_⟩;{show ((n:Nat):Int).natAbs<_;simpa using h};show 1<2^k;exact Qf1 ω
theorem kj {u:un}{px py qx qy:Rat}(hp:RP V u px py)(hq:RP V w qx qy)(s1:Sz k px)(s2:Sz k py)(s3:Sz k qx)(s4:Sz k qy)(hk1:1<=k)(hk:64*k+64<2^38:=by omega):À 55 #[u,w] V λr W=>((qt px py qx qy).1.num=0/\(qt px py qx qy).2.1.num=0->∃l,r=ê #[l,gF false]/\RL W l 0 0 0)/\(¬((qt px py qx qy).1.num=0/\(qt px py qx qy).2.1.num=0)->∃l,r=ê #[l,gF true]/\RL W l ((qt px py qx qy).1.num/(cj (qt px py qx qy).1.num (qt px py qx qy).2.1.num (qt px py qx qy).2.2.num:Int)) ((qt px py qx qy).2.1.num/(cj (qt px py qx qy).1.num (qt px py qx qy).2.1.num (qt px py qx qy).2.2.num:Int)) ((qt px py qx qy).2.2.num/(cj (qt px py qx qy).1.num (qt px py qx qy).2.1.num (qt px py qx qy).2.2.num:Int))):=by have T:=hp;have U:=hq;obtain ⟨W,X,Y,Z,n2,c2,p3,n3,c3,p4,n4,c4,rfl,j,m⟩:=hp;obtain ⟨q1,m1,e1,q2,m2,e2,q3,m3,e3,q4,m4,e4,rfl,-,-⟩:=hq;refine yZ V _ λV1 l1=>(qZ ra ra s3 s4 s1 s2 hk1).s ?_;rintro r V2 l2 ⟨a1,a2,a3,a4,a5,a6,a7,a8,a9,ME,MF,a0,rfl,n,hd⟩;have c:=s3.sub s1;have Ju:=l1.m l2;refine qxW ⟨rfl,λV3 x=>(nZ (qy-py) (by have ⟨_,_,_,_,_,_,e,y,h2⟩:=hd.le x;cases e;exact y) (RQ.den ra)).s ?_⟩;rintro r V4 J s;obtain ⟨b1,b2,b3,b4,b5,b6,rfl⟩:=s.shape;have d:=(s4.sub s2).neg;have o:qt px py qx qy=(-(qy-py)*(((((-(qy-py)).den*(qx-px).den*(-(-(qy-py)*px+(qx-px)*py)).den:Nat):Int):Rat)),(qx-px)*(((((-(qy-py)).den*(qx-px).den*(-(-(qy-py)*px+(qx-px)*py)).den:Nat):Int):Rat)),(-(-(qy-py)*px+(qx-px)*py))*(((((-(qy-py)).den*(qx-px).den*(-(-(qy-py)*px+(qx-px)*py)).den:Nat):Int):Rat))):=rfl;rw [o];generalize -(qy-py)=A at *;generalize qx-px=B at *;replace n:=n.le (x.m J);replace j:=j.le (Ju.m (x.m J));replace m:=m.le au;refine qxQ ⟨rfl,λV5 l5=>(bH ra ra d s1 ω).s λr V6 l6 K=>RQ.ex K λ_ K=>λV7 l7=>(bH ra ra c s2 ω).s λr V8 l8 L=>RQ.ex L λ_ L=>λV9 l9=>(eE ra ra (d.mul s1) (c.mul s2) ω).s ?_⟩;rintro r eV z p;have t:=((d.mul s1).add (c.mul s2)).neg;obtain ⟨i1,i2,i3,i4,i5,i6,rfl⟩:=p.shape;refine qxQ ⟨rfl,λeW N=>(nZ (A*px+B*py) (by have ⟨_,_,_,_,_,_,e,y,h2⟩:=p.le N;cases e;exact y) (RQ.den ra)).s ?_⟩;rintro r gC dI O;generalize -(A*px+B*py)=C at *;obtain ⟨j1,j2,j3,j4,j5,j6,rfl⟩:=O.shape;have P:=l5.m (l6.m (l7.m (l8.m (l9.m (z.m (N.m dI))))));replace s:=s.le P;replace n:=n.le P;refine qxQ ⟨rfl,λiI dS=>(cZ A _ (RQ.den ra)).s ?_⟩;rintro r kK fH ⟨k1,k2,k3,rfl,b0⟩;refine ⟨_,_,_,rfl,λke fB=>(cZ B _ (RQ.den ra)).s ?_⟩;rintro r kf e_ ⟨k4,k5,k6,rfl,b7⟩;obtain ⟨-,da,-⟩:=dG d;obtain ⟨-,db,-⟩:=dG c;obtain ⟨-,dc,-⟩:=dG t;refine ⟨_,_,_,rfl,λlu gX=>(dF ra ra).s ?_⟩;rintro r mD gj ⟨k7,k8,k9,rfl,D⟩;rw [ag,ag] at D;refine ⟨_,_,_,rfl,λnf je=>(cZ C _ (RQ.den ra)).s ?_⟩;rintro r kg il ⟨b8,b9,c0,rfl,c5⟩;have c6:=kQ (a:=A.den) (b:=B.den);refine ⟨_,_,_,rfl,λqC nQ=>(dF ra ra).s ?_⟩;rintro r qN lZ ⟨c7,c8,c9,rfl,E⟩;rw [ag,ag] at E;have i:=sz_nat (bX (bX d.2 c.2) t.2);generalize A.den*B.den*C.den=M at *;refine ⟨_,_,_,rfl,λqD l_=>(yg ra).s ?_⟩;rintro r Aa nt ⟨d0,d1,d2,rfl,F⟩;have G:=RQ.ofNat F rfl;have Q:=dS.m au;refine qyK ⟨rfl,λA8 uV=>(bH (s.le au) (G.le uV) d i ω).s λr MD Bj f=>RQ.ex f λ_ f=>λMQ yF=>(bH (n.le au) (G.le au) c i ω).s λr Wx KI g=>RQ.ex g λ_ g=>λYV H5=>(bH (O.le au) (G.le au) t i ω).s λr SH MJ H=>RQ.ex H λ_ H=>λZ_ H6=>(ED (RQ.int (f.le au)) (RQ.int (g.le au)) (RQ.int (H.le H6)) (Ā (dG (d.mul i)).1 ω) (Ā (dG (c.mul i)).1 ω) (Ā (dG (t.mul i)).1 ω)).s ?_⟩;rintro r d3 H7 ⟨z1,z2⟩;by_cases v:(A*((M:Int):Rat)).num=0/\(B*((M:Int):Rat)).num=0;{obtain ⟨l,rfl,y1,y2,y3,y4,y5,y6,y7,y8,y9,rfl,R,I,S⟩:=z1 v;exact ⟨_,_,_,_,_,_,_,_,_,_,_,_,_,rfl,λV_ q=>⟨λ_=>⟨_,rfl,_,_,_,_,_,_,_,_,_,rfl,ra,I.le q,ra⟩,λh=>Å v h⟩⟩};obtain ⟨l,rfl,y1,y2,y3,y4,y5,y6,y7,y8,y9,rfl,R,I,S⟩:=z2 v;exact ⟨_,_,_,_,_,_,_,_,_,_,_,_,_,rfl,λV_ q=>⟨λh=>Å h v,λ_=>⟨_,rfl,_,_,_,_,_,_,_,_,_,rfl,R.le q,I.le q,S.le q⟩⟩⟩
theorem lK (h:RQ V v q){k:Nat}(_s:Sz k q)(_hk:k<=2^40):À 77 #[v] V λr W=>RQ W r (-q):=by obtain ⟨p,n,c,d,e,f,rfl,a,b⟩:=h;exact nZ q a b
theorem cD {z:Int}{p:OA}(h:RD V p n c (ah z.natAbs)){k:Nat}(_s:Sz k (z:Rat))(_hk:k<=2^40):À 85 #[dB #[gF (decide (z<0)),yD p n c]] V λr W=>RQ W r (z:Rat):=QO z h
theorem sr {p:Prop}(h:p:=by repeat' (intro V l;first|exact RQ.le ξ au|refine (qxJ ⟨rfl,RQ.le ξ au,RQ.le ξ au⟩)|(apply aa.s;(with_reducible first|apply eE (k:=137438953471) (m:=137438953471)|apply bH (k:=137438953471) (m:=137438953471)|apply jo (k:=137438953471) (m:=137438953471)|apply lK (k:=2^40)|apply cD (k:=2^40));(any_goals first|with_reducible assumption|exact RQ.le ξ au|exact RD.le ξ au|exact RP.le ξ au|exact RL.le ξ au);(any_goals first|exact sz|decide);intro r W m g;(first|refine RQ.ex g λa h=>?_|refine RP.ex g λa b h i j=>?_)))):p:=h
theorem dZ {l_0 l_1 l_2:Int}(D:RL V l l_0 l_1 l_2){k:Nat}(E:Sz k ((l_0:Int):Rat))(r_:Sz k ((l_1:Int):Rat))(F:Sz k ((l_2:Int):Rat))(M:1*k+1<2^38):À 51 #[l] V λr W=>RP W r (((l_1:Int):Rat)) (-(((l_0:Int):Rat))):=by obtain ⟨_,_,_,_,_,_,_,_,_,rfl,_,_,_⟩:=id D;exact Je V _ sr
theorem J0 {q:un}(D:RP V p jv jw)(E:RP V q E0 E1){k:Nat}(F:Sz k jv)(M:Sz k jw)(N:Sz k E0)(O:Sz k E1)(Z:4*k+3<2^38):À 117 #[p,q] V λr W=>RQ W r (((jv)*(E0))+((jw)*(E1))):=by obtain ⟨_,_,_,_,_,_,_,_,_,_,_,_,rfl,_,_⟩:=id D;obtain ⟨_,_,_,_,_,_,_,_,_,_,_,_,rfl,_,_⟩:=id E;exact Jf V _ sr
theorem jK {l_0 l_1 l_2:Int}(D:RL V l l_0 l_1 l_2)(E:RP V p jv jw){k:Nat}(F:Sz k ((l_0:Int):Rat))(r_:Sz k ((l_1:Int):Rat))(M:Sz k ((l_2:Int):Rat))(N:Sz k jv)(O:Sz k jw)(Z:8*k+8<2^38:=by omega):À 184 #[l,p] V λr W=>RQ W r ((((((l_0:Int):Rat))*(jv))+((((l_1:Int):Rat))*(jw)))+(((l_2:Int):Rat))):=by obtain ⟨_,_,_,_,_,_,_,_,_,rfl,_,_,_⟩:=id D;obtain ⟨_,_,_,_,_,_,_,_,_,_,_,_,rfl,_,_⟩:=id E;exact Eb V _ sr
theorem sr2 {p:Prop}(h:p:=by repeat' (intro V l;first|exact RQ.le ξ au|refine (qxJ ⟨rfl,RQ.le ξ au,RQ.le ξ au⟩)|(apply aa.s;(with_reducible first|apply eE (k:=137438953471) (m:=137438953471)|apply bH (k:=137438953471) (m:=137438953471)|apply jo (k:=137438953471) (m:=137438953471)|apply lK (k:=2^40)|apply cD (k:=2^40)|apply dZ (k:=274877906942)|apply J0 (k:=68719476735)|apply fR (k:=130000000000) (m:=70000000000));(any_goals first|with_reducible assumption|exact RQ.le ξ au|exact RD.le ξ au|exact RP.le ξ au|exact RL.le ξ au);(any_goals first|exact sz|decide);intro r W m g;(first|refine RQ.ex g λa h=>?_|refine RP.ex g λa b h i j=>?_)))):p:=h
theorem EF {l_0 l_1 l_2:Int}(D:RL V l l_0 l_1 l_2)(E:RP V p jv jw)(F:((((((l_1:Int):Rat)))*((((l_1:Int):Rat))))+(((-(((l_0:Int):Rat))))*((-(((l_0:Int):Rat)))))).num≠0)(M:Sz k ((l_0:Int):Rat))(r_:Sz k ((l_1:Int):Rat))(N:Sz k ((l_2:Int):Rat))(O:Sz k jv)(Z:Sz k jw)(hk:8*k+7<2^38):À 49 #[l,p] V λr W=>RQ W r ((((jv)*((((l_1:Int):Rat))))+((jw)*((-(((l_0:Int):Rat))))))*((((((l_1:Int):Rat)))*((((l_1:Int):Rat))))+(((-(((l_0:Int):Rat))))*((-(((l_0:Int):Rat))))))⁻¹):=by obtain ⟨_,_,_,_,_,_,_,_,_,rfl,_,_,_⟩:=id D;obtain ⟨_,_,_,_,_,_,_,_,_,_,_,_,rfl,_,_⟩:=id E;exact D9 V _ sr2
theorem vS {l_0 l_1 l_2:Int}(D:RL V l l_0 l_1 l_2)(E:((((((l_1:Int):Rat)))*((((l_1:Int):Rat))))+(((-(((l_0:Int):Rat))))*((-(((l_0:Int):Rat)))))).num≠0){k:Nat}(F:Sz k ((l_0:Int):Rat))(r_:Sz k ((l_1:Int):Rat))(M:Sz k ((l_2:Int):Rat))(N:10*k+8<2^38:=by omega):À 88 #[l] V λr W=>RP W r ((-((((l_2:Int):Rat))*((((((l_1:Int):Rat)))*((((l_1:Int):Rat))))+(((-(((l_0:Int):Rat))))*((-(((l_0:Int):Rat))))))⁻¹))*(((l_0:Int):Rat))) ((-((((l_2:Int):Rat))*((((((l_1:Int):Rat)))*((((l_1:Int):Rat))))+(((-(((l_0:Int):Rat))))*((-(((l_0:Int):Rat))))))⁻¹))*(((l_1:Int):Rat))):=by obtain ⟨_,_,_,_,_,_,_,_,_,rfl,_,_,_⟩:=id D;exact Fw V _ sr2
theorem Ng {l_0 l_1 l_2:Int}{t:un}(E:RL V l l_0 l_1 l_2)(F:RQ V t Oq)(D:((((((l_1:Int):Rat)))*((((l_1:Int):Rat))))+(((-(((l_0:Int):Rat))))*((-(((l_0:Int):Rat)))))).num≠0)(M:Sz k ((l_0:Int):Rat))(r_:Sz k ((l_1:Int):Rat))(N:Sz k ((l_2:Int):Rat))(st_0:Sz k Oq)(O:18*k+16<2^38):À 30 #[l,t] V λr W=>RP W r (((-((((l_2:Int):Rat))*((((((l_1:Int):Rat)))*((((l_1:Int):Rat))))+(((-(((l_0:Int):Rat))))*((-(((l_0:Int):Rat))))))⁻¹))*(((l_0:Int):Rat)))+(Oq)*(((l_1:Int):Rat))) (((-((((l_2:Int):Rat))*((((((l_1:Int):Rat)))*((((l_1:Int):Rat))))+(((-(((l_0:Int):Rat))))*((-(((l_0:Int):Rat))))))⁻¹))*(((l_1:Int):Rat)))+(Oq)*(-(((l_0:Int):Rat)))):=by obtain ⟨_,_,_,_,_,_,_,_,_,rfl,_,_,_⟩:=id E;obtain ⟨_,_,_,_,_,_,rfl⟩:=F.shape;refine Mr V _ λc d=>(vS (k:=27487790692) ra D sz sz sz φ).s λr W m g=>RP.ex g λa b h i j=>?_;exact sr2
theorem RA.shape (h:RA V v q):∃b p n c p' n' c',v=dB #[gF b,yD p n c,yD p' n' c']:=by obtain ⟨p,n,c,p',n',c',e,-⟩:=h;exact qxQ e
def Qs (V:Ó)(v:Value)(x y:Rat):Prop:=∃b p n c p' n' c' d q m e D E F,v=.agg #[.bool b,.slice p n c,.slice p' n' c',.bool d,.slice q m e,.slice D E F] /\
 RA V (.agg #[.bool b,.slice p n c,.slice p' n' c']) x/\RA V (.agg #[.bool d,.slice q m e,.slice D E F]) y
theorem Qs.le {V V':ut}(h:Qs V v x y)(l:V.Le V'):Qs V' v x y:=by obtain ⟨b,p,n,c,a,f,g,d,q,m,e,i,j,k,rfl,o,r⟩:=h;exact qxW ⟨rfl,ra,ra⟩
theorem M_ (h:Qs V v x y)(s1:Sz k x)(s2:Sz k y)(M:k<=2^40:=by omega):À 35 #[v] V λr W=>kd W r x y:=by obtain ⟨b,p,n,c,g,i,j,d,q,m,e,l,o,s,rfl,t,u⟩:=h;refine LZ V _ λw z=>(Gb ra s1 M).s λr V2 A a=>RR.ex a λ_ a=>λB C=>(Gb ra s2 M).s λr D E f=>RR.ex f λ_ f=>λF G=>⟨_,_,_,_,_,_,rfl,ra,ra⟩
theorem HD (h:kd V v x y)(s1:Sz k x)(s2:Sz k y)(D:k<=2^40):À 107 #[v] V λr W=>Qs W r x y:=by obtain ⟨a,b,c,d,e,f,rfl,j,l⟩:=h;refine Fl V _ λm n=>(vP ra s1 D).s ?_;rintro r V2 o g;obtain ⟨_,_,_,_,_,_,_,rfl⟩:=g.shape;refine qxQ ⟨rfl,λp q=>(vP ra s2 D).s ?_⟩;rintro r s t i;obtain ⟨_,_,_,_,_,_,_,rfl⟩:=i.shape;exact qxQ ⟨rfl,λu w=>⟨_,_,_,_,_,_,_,_,_,_,_,_,_,_,rfl,ra,ra⟩⟩
theorem lF {M N:Rat}(h:kd V v x y)(O:kd V w M N){k:Nat}(s1:Sz k x)(s2:Sz k y)(s3:Sz k M)(s4:Sz k N)(Z:2*k<2^40:=by omega):À 41 #[v,w] V λr W=>r=gF (decide (x=M/\y=N)):=by obtain ⟨a,b,c,d,e,f,rfl,p,q⟩:=h;obtain ⟨i,j,l,m,n,o,rfl,s,t⟩:=O;refine AE V _ λu z=>(nV ra ra s1 s3).s ?_;rintro r V2 A rfl;refine ⟨_,rfl,λg B C=>(nV ra ra s2 s4).s ?_,λg D E=>?_⟩;{have g:=Á g;rintro r F G rfl;exact ⟨_,rfl,λH I=>by simp [g]⟩};have g:=Â g;simp [g]
theorem Ez (F:xM V l l_0 l_1 l_2)(M:kd V p jv jw)(N:Sz k l_0)(s1:Sz k l_1)(s2:Sz k l_2)(s3:Sz k jv)(s4:Sz k jw)(O:16*k+16<2^38):À 98 #[l,p] V λr W=>r=Ô .i64 (l_0*jv+l_1*jw+l_2).num.sign:=by have b:=F;have c:=M;obtain ⟨d,e,f,g,h,i,j,m,n,rfl,-,-,-⟩:=F;obtain ⟨o,q,s,t,u,v,rfl,-,-⟩:=M;refine DS V _ λw x=>(qT ra ra N s1 s2 s3 s4).s λr V2 y a=>RR.ex a λ_ a=>λz A=>(fP ra (oN N s1 s2 s3 s4)).s ?_;rintro r B C rfl;exact ⟨_,rfl,λD E=>rfl⟩
theorem zy (h:RQ V v q)(s:Sz k q)(Z:k<=2^40):À 47 #[v] V λr W=>RA W r q:=by obtain ⟨p,n,c,a,b,d,rfl,e,f⟩:=h;have g:=af s.1;have i:=af s.2;refine Jb V _ λj l=>(mL ⟨_,_,_,rfl,ra⟩).s ?_;rintro r V2 m ⟨o,t,u,rfl,w⟩;refine qyK ⟨rfl,λx y=>(cZ q _ ra).s ?_⟩;rintro r z A ⟨B,C,D,rfl,E⟩;refine ⟨_,_,_,rfl,λF G=>(zx ra).s ?_⟩;rintro r H I ⟨J,K,L,rfl,M⟩;exact ⟨_,_,_,rfl,λN O=>⟨_,_,_,_,_,_,rfl,ra,ra⟩⟩
theorem zC (h:RP V v x y)(s1:Sz k x)(s2:Sz k y)(F:k<=2^40:=by omega):À 12 #[v] V λr W=>Qs W r x y:=by obtain ⟨a,b,c,d,e,f,g,i,j,l,m,n,rfl,q,s⟩:=h;refine Jl V _ λt u=>(zy ra s1 F).s ?_;rintro r V2 w o;obtain ⟨_,_,_,_,_,_,_,rfl⟩:=o.shape;refine qxQ ⟨rfl,λz A=>(zy ra s2 F).s ?_⟩;rintro r B C p;obtain ⟨_,_,_,_,_,_,_,rfl⟩:=p.shape;exact qxQ ⟨rfl,λD E=>⟨_,_,_,_,_,_,_,_,_,_,_,_,_,_,rfl,ra,ra⟩⟩
theorem tZ (M:RA V v x)(N:RA V w y)(s:Sz k x)(O:k<=2^40):À 130 #[v,w] V λr W=>r=gF (decide (x=y)):=by obtain ⟨p,n,c,f,i,j,rfl,l,o⟩:=M;obtain ⟨q,m,e,t,u,z,rfl,A,B⟩:=N;have C:=af s.1;have D:=af s.2;refine D4 V _ λE a=>(jJ (l.le a) (A.le a)).s ?_;rintro r V2 b rfl;refine ⟨_,rfl,λg F d=>(tY (o.le (a.m (b.m d))) (B.le (a.m (b.m d)))).s ?_,λg G H=>?_⟩;{have g:=Á g;rintro r I J rfl;refine ⟨_,rfl,λK L=>?_⟩;have e:ah x.den=ah y.den↔x=y:=⟨λh=>Rat.ext g (by have:=Æ val h;rwa [ag,ag] at this),λh=>by rw [h]⟩;rw [show decide (ah x.den=ah y.den)=decide (x=y) from by rw [É];exact e]};have g:=Â g;rw [È (λh=>g (by rw [h]))]
theorem EH {Z y':Rat}(h:Qs V v x y)(h':Qs V w Z y')(s1:Sz k x)(s2:Sz k y)(hk:k<=2^40):À 60 #[v,w] V λr W=>r=gF (decide (x=Z/\y=y')):=by obtain ⟨b,p,n,c,u,z,A,d,q,m,e,B,C,D,rfl,E,F⟩:=h;obtain ⟨G,H,I,J,K,f,i,d1,L,M,N,j,l,o,rfl,O,P⟩:=h';refine Ea V _ λQ a=>(tZ (E.le a) (O.le a) s1 hk).s ?_;rintro r V2 s rfl;refine ⟨_,rfl,λg R t=>(tZ (F.le (a.m (s.m t))) (P.le (a.m (s.m t))) s2 hk).s ?_,λg S T=>?_⟩;{have g:=Á g;rintro r U W rfl;exact ⟨_,rfl,λX Y=>by simp [g]⟩};have g:=Â g;simp [g]
abbrev L3:=Int×Int×Int
variable{a:Int}{x:L3}
def cq (x:L3):Bool:=decide (¬(x.1=0/\x.2.1=0))&&decide (cj x.1 x.2.1 x.2.2=1)
def Bd (x:L3):Prop:=x.1.natAbs<2^1000/\x.2.1.natAbs<2^1000/\x.2.2.natAbs<2^1000
inductive Tr where
 | leaf (i:Bool)|node (l:L3) (a b:Tr)
 deriving DecidableEq
structure Nd where
 ln:L3
 left:Int
 right:Int
 deriving DecidableEq
def Tr.size:Tr->Nat
 | .leaf _=>0
 | .node _ a b=>a.size+b.size+1
def Tr.rI:Tr->Bool
 | .leaf _=>true
 | .node ..=>false
def Tr.dU (p:L3->Prop):Tr->Prop
 | .leaf _=>True
 | .node l a b=>p l/\a.dU p/\b.dU p
theorem Tr.dU.imp {p q:L3->Prop}(h:∀x,p x->q x):∀{t:Tr},t.dU p->t.dU q
 | .leaf _,_=>trivial
 | .node _ _ _,⟨D,E,F⟩=>⟨h _ D,Tr.dU.imp h E,Tr.dU.imp h F⟩
def rt (k:Nat):Tr->Int
 | .leaf i=>if i then -2 else -1
 | .node ..=>(k:Int)
def wr:Nat->Tr->List Nd
 | _,.leaf _=>[]
 | k,.node l a b=>⟨l,rt (k+1) a,rt (k+1+a.size) b⟩::(wr (k+1) a++wr (k+1+a.size) b)
theorem jH:∀(t:Tr)(k:Nat),(wr k t).length=t.size
 | .leaf _,_=>rfl
 | .node _ a b,k=>by simp only [wr,Ĉ,ï,jH a,jH b,Tr.size]
def Rep (l:List Nd):Int->Tr->List Nat->Prop
 | n,.leaf i,I=>n=(if i then -2 else -1)/\I=[]
 | n,.node ln a b,I=>∃(k:Nat)(x:Nd)(A B:List Nat),n=(k:Int)/\l[k]?=some x/\x.ln=ln/\Rep l x.left a A/\Rep l x.right b B/\I=k::(A++B)
theorem Ob:∀(t:Tr)(l pre post:zA Nd)(k:Nat),l=pre++(wr k t++post)->pre.length=k->Rep l (rt k t) t (List.range' k t.size)
 | .leaf i,l,pre,post,k,_,_=>⟨rfl,rfl⟩
 | .node ln a b,l,pre,post,k,E,D=>by
  refine ⟨k,⟨ln,rt (k+1) a,rt (k+1+a.size) b⟩,List.range' (k+1) a.size,List.range' (k+1+a.size) b.size,rfl,?_,rfl,?_,?_,?_⟩
  ·subst E;simp [D,wr]
  ·refine Ob a l (pre++[⟨ln,rt (k+1) a,rt (k+1+a.size) b⟩]) (wr (k+1+a.size) b++post) (k+1) ?_ (by simp [D])<;>grind [wr]
  ·refine Ob b l (pre++(⟨ln,rt (k+1) a,rt (k+1+a.size) b⟩::wr (k+1) a)) post (k+1+a.size) ?_ (by simp [jH];omega)<;>grind [wr]
  ·simp only [Tr.size];rw [List.range'_succ,<-List.range'_append_1]
structure RS where
 seen:List Bool
 qJ:Nat
 bad:Bool
def jx (l:List Nd):Nat->Int->RS->Tr×RS
 | 0,_,s=>(.leaf false,s)
 | f+1,n,s=>
  if n=-2 then (.leaf true,s) else if n=-1 then (.leaf false,s) else if n<0 then (.leaf false,{ s with bad:=true })
  else match l[n.toNat]?,s.seen[n.toNat]? with
   | some x,some false=>
    if cq x.ln then
     let D:=jx l f x.left ⟨s.seen.set n.toNat true,s.qJ+1,s.bad⟩
     let E:=jx l f x.right D.2
     (.node x.ln D.1 E.1,E.2)
    else (.leaf false,⟨s.seen.set n.toNat true,s.qJ+1,true⟩)
   | _,_=>(.leaf false,{ s with bad:=true })
theorem count_set {l:zA md}{k:Nat}(h:l[k]?=some false):(l.set k true).count false+1=l.count false:=χ
theorem Db (l:zA Nd):∀(f:Nat)(n:Int)(s:RS),(jx l f n s).2.seen.count false<=s.seen.count false/\(jx l f n s).2.seen.length=s.seen.length
 | 0,_,_=>⟨Ú _,rfl⟩
 | f+1,n,s=>by
  simp only [jx];split
  ·exact ⟨Ú _,rfl⟩
  ·split
   ·exact ⟨Ú _,rfl⟩
   ·split
    ·exact ⟨Ú _,rfl⟩
    ·split
     ·rename_i x E D;have F:=count_set D;split
      ·have ⟨a,b⟩:=Db l f x.left ⟨s.seen.set n.toNat true,s.qJ+1,s.bad⟩;have ⟨c,d⟩:=Db l f x.right (jx l f x.left ⟨s.seen.set n.toNat true,s.qJ+1,s.bad⟩).2;grind
      grind
     grind
theorem It (l:zA Nd):∀(f:Nat)(n:Int)(s:RS),(jx l f n s).2.qJ+(jx l f n s).2.seen.count false=s.qJ+s.seen.count false
 | 0,_,_=>rfl
 | f+1,n,s=>by
  simp only [jx];split
  ·rfl
  ·split
   ·rfl
   ·split
    ·rfl
    ·split
     ·rename_i x E D;have F:=count_set D;split
      ·have a:=It l f x.left ⟨s.seen.set n.toNat true,s.qJ+1,s.bad⟩;have b:=It l f x.right (jx l f x.left ⟨s.seen.set n.toNat true,s.qJ+1,s.bad⟩).2;grind
      ·dsimp only;omega
     ·rfl
theorem Dc (l:zA Nd):∀(f:Nat)(n:Int)(s:RS),(jx l f n s).1.size+s.qJ<=(jx l f n s).2.qJ
 | 0,_,_=>by simp [jx,Tr.size]
 | f+1,n,s=>by
  simp only [jx];split
  ·simp [Tr.size]
  ·split
   ·simp [Tr.size]
   ·split
    ·simp [Tr.size]
    ·split
     ·split
      ·rename_i x D E hok;have F:=Dc l f x.left ⟨s.seen.set n.toNat true,s.qJ+1,s.bad⟩;have a:=Dc l f x.right (jx l f x.left ⟨s.seen.set n.toNat true,s.qJ+1,s.bad⟩).2;grind [Tr.size]
      ·simp [Tr.size]
     ·simp [Tr.size]
def vi (s:List Bool)(I:List Nat):List Bool:=I.foldl (λs k=>s.set k true) s
theorem Dn:∀(I:zA Nat)(s:zA md)(k:Nat),k∉I->(vi s I)[k]?=s[k]?
 | [],_,_,_=>rfl
 | i::r,s,k,h=>by
  have:=Dn r (s.set i true) k (λa=>h (ā _ a));grind [vi]
theorem Iu (l:zA Nd):∀(t:Tr)(f:Nat)(n:Int)(s:RS)(I:zA Nat),Rep l n t I->I.Nodup->(∀k∈I,s.seen[k]?=some false)->t.dU (λx=>cq x=true)->t.size<f->jx l f n s=(t,⟨vi s.seen I,s.qJ+t.size,s.bad⟩)
 | .leaf i,f,n,s,I,⟨D,F⟩,_,_,_,E=>by
  subst F;obtain ⟨f,rfl⟩:∃g,f=g+1:=⟨f-1,by simp [Tr.size] at E;omega⟩
  cases i with
  | true=>simp only at D;subst D;simp [jx,vi,Tr.size]
  | false=>
   subst D;simp [jx,vi,Tr.size]
 | .node ln a b,f,n,s,I,⟨k,x,A,B,D,F,M,N,O,Z⟩,hnd,hun,hok,E=>by
  subst D M Z;obtain ⟨f,rfl⟩:∃g,f=g+1:=⟨f-1,by simp [Tr.size] at E;omega⟩;rw [List.nodup_cons,List.nodup_append] at hnd;obtain ⟨p,q,r,d⟩:=hnd;simp only [Tr.size] at E
  have v:=Iu l a f x.left ⟨s.seen.set k true,s.qJ+1,s.bad⟩ A N q (λj c=>by
   have:k≠j:=λe=>p (by rw [e];simp [c]);rw [Qm2 this];exact hun j (by simp [c])) hok.2.1 ω
  have w:=Iu l b f x.right ⟨vi (s.seen.set k true) A,s.qJ+1+a.size,s.bad⟩ B O r (λj c=>by
   have:k≠j:=λe=>p (by rw [e];simp [c]);rw [Dn A _ j (λh=>d j h j c rfl),Qm2 this];exact hun j (by simp [c])) hok.2.2 ω
  have m:¬((k:Int)=-2):=ω
  have o:¬((k:Int)=-1):=ω
  have u:¬((k:Int)<0):=ω
  have y:jx l (f+1) (k:Int) s=(.node x.ln (jx l f x.left ⟨s.seen.set k true,s.qJ+1,s.bad⟩).1 (jx l f x.right (jx l f x.left ⟨s.seen.set k true,s.qJ+1,s.bad⟩).2).1,(jx l f x.right (jx l f x.left ⟨s.seen.set k true,s.qJ+1,s.bad⟩).2).2):=by
   rw [jx];rw [Ã m,Ã o,Ã u];simp only [ß,F,(hun k ψ),hok.1,Ï]
  grind [vi,Tr.size]
def GU (l:List Nd)(root:Int):Option Tr:=
 if 65536<l.length then none else
 let r:=jx l (l.length+1) root ⟨List.replicate l.length false,0,false⟩
 if r.2.bad=true\/r.2.qJ≠l.length then none else some r.1
theorem XZ {l:zA Nd}{n:Int}{t:Tr}{I:zA Nat}(h:Rep l n t I)(D:I.Nodup)(E:∀k∈I,k<l.length)(F:t.size=l.length)(hok:t.dU λx=>cq x=true)(M:l.length<=65536):GU l n=some t:=by unfold GU;rw [Ã ω];rw [Iu l t (l.length+1) n _ I h D (λk a=>by simp [E k a]) hok ω];simp [F]
theorem UF {t:Tr}(hok:t.dU λx=>cq x=true)(D:t.size<=65536:=by omega):GU (wr 0 t) (rt 0 t)=some t:=by have h:=Ob t (wr 0 t) [] [] 0 ψ rfl;grind [XZ,jH]
theorem UE {l:zA Nd}{n:Int}{t:Tr}(h:GU l n=some t):t.size<=65536:=by unfold GU at h;split at h;{cases h};dsimp only at h;split at h;{cases h};rename_i a b;cases h;have:=Dc l (l.length+1) n ⟨List.replicate l.length false,0,false⟩;grind
theorem BE (a:Addr)(i j:Nat):(a.add i).add j=a.add (i+j):=by grind [Addr.add]
theorem Ao {V:ut}{b:Nat}{xs:zA un}{ty:TypeId}{m:Nat×Nat}(h:V.aX b (.cells xs.toArray ty m))(i:Nat){v:un}(D:xs[i]?=some v):∃a,ae (some ⟨b,0,none⟩) i=some a/\V.at a v:=
 ⟨⟨b,i,none⟩,by simp [ae,add_zero'],dK h D⟩
theorem UJ {b c:Int}:EX (decide (a<0)) (ah a.natAbs) (decide (b<0)) (ah b.natAbs) (decide (c<0)) (ah c.natAbs)=cq (a,b,c):=by have d:∀z:Int,qA (decide (z<0)) (ah z.natAbs)=true:=by{intro z;unfold qA;grind [ag,bS.1]};have f:eG (eG (a:Rat) (b:Rat)) (c:Rat)=((cj a b c:Nat):Int):=by{have e:∀x y:Int,eG (x:Rat) (y:Rat)=((Nat.gcd x.natAbs y.natAbs:Nat):Int):=by{intro x y;unfold eG;have g:((x:Rat)).num=x:=rfl;have h:((y:Rat)).num=y:=rfl;have i:((x:Rat)).den=1:=rfl;have j:((y:Rat)).den=1:=rfl;rw [g,h,i,j];simp only [Ġ];exact Qh4 _};rw [e,e];rfl};unfold EX cq;rw [d,d,d,aY,aY,aY,f];have k:∀z:Int,((z:Rat)=0)↔z=0:=λz=>by{exact Rat.intCast_eq_zero_iff};simp only [Bool.true_and,k];rw [ĵ];simp only [Đ,ŋ,Bool.and_eq_false_iff,Ò,Ñ];have l:(((cj a b c:Nat):Int):Rat)=((1:Int):Rat)↔cj a b c=1:=by{rw [Qh1];omega};grind
theorem yS {z:Int}{k:Nat}(h:z.natAbs<2^k)(D:0<k:=by omega):Sz k (z:Rat):=⟨h,Qf1 ω⟩
theorem Bd.ah (h:Bd x):(ah x.1.natAbs).length<=1000/\(ah x.2.1.natAbs).length<=1000/\(ah x.2.2.natAbs).length<=1000:=⟨af h.1,af h.2.1,af h.2.2⟩
theorem Bd.sz (h:Bd x):Sz 1000 (x.1:Rat)/\Sz 1000 (x.2.1:Rat)/\Sz 1000 (x.2.2:Rat):=⟨yS h.1,yS h.2.1,yS h.2.2⟩
theorem JW {V:ut}{v:un}(h:RL V v x.1 x.2.1 x.2.2)(D:Bd x):À 202 #[v] V λr W=>∃w,r=ê #[w,gF (cq x)]/\Wv w/\(cq x=true->xM W w x.1 x.2.1 x.2.2):=by obtain ⟨p,n,s,f,g,i,q,m,e,rfl,b,c,d⟩:=h;obtain ⟨d1,d2,d3⟩:=D.ah;obtain ⟨s1,s2,s3⟩:=D.sz;have a:=BU (V:=V) (decide (x.1<0)) (decide (x.2.1<0)) (decide (x.2.2<0)) b c d ω ω ω (k:=1000) (by rw [aY];exact s1) (by rw [aY];exact s2) (by rw [aY];exact s3);rw [UJ,aY,aY,aY] at a;exact a
theorem YJ (x y u w:Int):qt (x:Rat) (y:Rat) ((x:Rat)+((1:Int):Rat)*(u:Rat)) ((y:Rat)+((1:Int):Rat)*(w:Rat))=(((-w:Int):Rat),((u:Int):Rat),((w*x-u*y:Int):Rat)):=by have a:(x:Rat)+((1:Int):Rat)*(u:Rat)=((x+u:Int):Rat):=by{rw [<-Qf5,<-Qt1,Wk1]};have b:(y:Rat)+((1:Int):Rat)*(w:Rat)=((y+w:Int):Rat):=by{rw [<-Qf5,<-Qt1,Wk1]};rw [a,b];have c:-(((y+w:Int):Rat)-(y:Rat))=((-w:Int):Rat):=by{rw [<-Wj4,<-Qt2];congr 1;omega};have d:((x+u:Int):Rat)-(x:Rat)=((u:Int):Rat):=by{rw [<-Wj4];congr 1;omega};have e:-(((-w:Int):Rat)*(x:Rat)+((u:Int):Rat)*(y:Rat))=((w*x-u*y:Int):Rat):=χ;have f:(((((-w:Int):Rat).den*((u:Int):Rat).den*((w*x-u*y:Int):Rat).den:Nat):Int):Rat)=1:=rfl;unfold qt;grind
def CN (a b c:Int):L3:=(a/(cj a b c:Int),b/(cj a b c:Int),c/(cj a b c:Int))
def small (z:Int)(k:Nat):Bool:=decide (z.natAbs<=k)
theorem Ug:∀i:Fin 9,∀j:Fin 9,∀k:Fin 65,(i.1=4/\j.1=4)\/(cq (CN ((i.1:Int)-4) ((j.1:Int)-4) ((k.1:Int)-32))&&small (CN ((i.1:Int)-4) ((j.1:Int)-4) ((k.1:Int)-32)).1 32&&small (CN ((i.1:Int)-4) ((j.1:Int)-4) ((k.1:Int)-32)).2.1 32&&small (CN ((i.1:Int)-4) ((j.1:Int)-4) ((k.1:Int)-32)).2.2 32)=true:=κ
theorem bd32 (k:Nat)(D:6<=k){z:Int}(h:z.natAbs<=32):z.natAbs<2^k:=ň h (ł (by decide:32<2^6) (ŀ φ D))
theorem bd32' (k:Nat)(D:6<=k)(E:x.1.natAbs<=32)(F:x.2.1.natAbs<=32)(M:x.2.2.natAbs<=32):x.1.natAbs<2^k/\x.2.1.natAbs<2^k/\x.2.2.natAbs<2^k:=⟨bd32 k D E,bd32 k D F,bd32 k D M⟩
theorem XR {a b c:Int}(D:-4<=a/\a<=4)(E:-4<=b/\b<=4)(F:-32<=c/\c<=32)(h:¬(a=0/\b=0):=by omega):cq (CN a b c)=true/\Bd (CN a b c):=by have:=Ug ⟨(a+4).toNat,ω⟩ ⟨(b+4).toNat,ω⟩ ⟨(c+32).toNat,ω⟩;dsimp only at this;rw [show (((a+4).toNat:Nat):Int)-4=a from by omega,show (((b+4).toNat:Nat):Int)-4=b from by omega,show (((c+32).toNat:Nat):Int)-32=c from by omega] at this;rcases this with d|d;{omega};simp only [Đ,small,Ñ] at d;exact ⟨d.1.1.1,bd32' 1000 φ d.1.1.2 d.1.2 d.2⟩
theorem Uq {x y:Int}(D:-4<=x/\x<=4)(E:-4<=y/\y<=4):-16<=x*y/\x*y<=16:=by have:(x*y).natAbs<=4*4:=by{rw [Ĭ];exact Qg3 ω ω};omega
theorem num_mul {r:Rat}{f:Nat}(D:f≠0)(h:r*((f:Nat):Int)=(a:Rat)):r.num*f=a*r.den:=by rw [<-Qr5 r,<-Qh4 f,<-Qh4 a,Wx7,Wk5 (by simpa using r.den_nz) ω] at h;simpa using h
theorem Cs {r s:Rat}{f:Nat}{b:Int}(D:f≠0)(E:r*((f:Nat):Int)=(a:Rat))(F:s*((f:Nat):Int)=(b:Rat)):eG r s*((f:Nat):Int)=(((Nat.gcd a.natAbs b.natAbs:Nat):Int):Rat):=by have c:r.num.natAbs*f=a.natAbs*r.den:=by{have:=Æ Int.natAbs (num_mul D E);rwa [Ĭ,Ĭ,ē,ē] at this};have d:s.num.natAbs*f=b.natAbs*s.den:=by{have:=Æ Int.natAbs (num_mul D F);rwa [Ĭ,Ĭ,ē,ē] at this};have e:Nat.gcd (r.num.natAbs*s.den) (s.num.natAbs*r.den)*f=Nat.gcd a.natAbs b.natAbs*(r.den*s.den):=by{rw [<-Nat.gcd_mul_right,<-Nat.gcd_mul_right];congr 1;{rw [Nat.mul_right_comm,c,ŏ]};rw [Nat.mul_right_comm,d,ŏ,Ľ s.den]};unfold eG;rw [<-Qh4 ((f:Nat):Int),Wx7,<-Qh4 (((Nat.gcd a.natAbs b.natAbs:Nat):Int)),Wk5 (by simpa using Ņ r.den_nz s.den_nz) ω];have:=Æ (Nat.cast (R:=Int)) e;simpa using this
theorem j8 (q:Rat)(m:Nat):q*(((q.den*m:Nat):Int):Rat)=((q.num*m:Int):Rat):=by have e:q*(((q.den:Nat):Int):Rat)=((q.num:Int):Rat):=by{have h:=q.den_nz;have a:mkRat q.num q.den*mkRat ((q.den:Nat):Int) 1=mkRat q.num 1:=by{grind [Rat.mkRat_mul_mkRat,Rat.mkRat_eq_iff]};grind [Rat.mkRat_self,Rat.mkRat_one]};rw [Ť,Qf5,<-Rat.mul_assoc,e,<-Qf5]
theorem H4 {g:Nat}(D:g≠0)(h:(g:Int)∣a):((a/(g:Int):Int):Rat)=(a:Rat)/((g:Int):Rat):=by obtain ⟨k,rfl⟩:=h;have b:((g:Int):Rat)≠0:=by{exact_mod_cast D};rw [Qh0 _ ω,Qf5,Rat.div_def,Wq4 ((g:Int):Rat),Rat.mul_assoc,Ŭ _ b,Rat.mul_one]
def CV (a b c:Rat):L3:=
 let f:Nat:=a.den*b.den*c.den
 CN (a*((f:Int):Rat)).num (b*((f:Int):Rat)).num (c*((f:Int):Rat)).num
theorem tE {a b c:Rat}(h:¬(a=0/\b=0)):let g:=eG (eG a b) c
  g≠0/\a*g⁻¹=((CV a b c).1:Rat)/\b*g⁻¹=((CV a b c).2.1:Rat)/\c*g⁻¹=((CV a b c).2.2:Rat):=by intro g;have m:=Ņ (Ņ a.den_nz b.den_nz) c.den_nz;have i:a*(((a.den*b.den*c.den:Nat):Int):Rat)=((a.num*(b.den*c.den:Nat):Int):Rat):=by{rw [ŏ,j8]};have j:b*(((a.den*b.den*c.den:Nat):Int):Rat)=((b.num*(a.den*c.den:Nat):Int):Rat):=by{rw [Ľ a.den,ŏ,j8]};have k:c*(((a.den*b.den*c.den:Nat):Int):Rat)=((c.num*(a.den*b.den:Nat):Int):Rat):=by{rw [Ľ (a.den*b.den),j8]};have hm:CV a b c=CN (a.num*(b.den*c.den:Nat)) (b.num*(a.den*c.den:Nat)) (c.num*(a.den*b.den:Nat)):=by{unfold CV;dsimp only;rw [i,j,k,Qh2,Qh2,Qh2]};have d:=Cs m (Cs m i j) k;rw [hm];have s:a.num*(b.den*c.den:Nat)=0↔a=0:=by{grind [Int.mul_eq_zero,Rat.num_eq_zero]};have t:b.num*(a.den*c.den:Nat)=0↔b=0:=by{grind [Int.mul_eq_zero,Rat.num_eq_zero]};generalize a.num*(b.den*c.den:Nat)=A at *;generalize b.num*(a.den*c.den:Nat)=B at *;generalize c.num*(a.den*b.den:Nat)=C at *;generalize a.den*b.den*c.den=f at *;have n:Nat.gcd (((Nat.gcd A.natAbs B.natAbs:Nat):Int)).natAbs C.natAbs=cj A B C:=by{unfold cj;rw [ē]};rw [n] at d;change g*((f:Int):Rat)=_ at d;have o:cj A B C≠0:=by{intro e;have:=Qh5.1 e;grind};have l:((cj A B C:Int):Rat)≠0:=by{exact_mod_cast o};have p:g≠0:=by{intro e;rw [e,Rat.zero_mul] at d;exact l d.symm};have q:((cj A B C:Nat):Int)∣A:=Qp5.1 (by rw [ē];exact Qt0 (Ŋ _ _) (Ŋ _ _));have r:((cj A B C:Nat):Int)∣B:=Qp5.1 (by rw [ē];exact Qt0 (Ŋ _ _) (ŧ _ _));have dC:((cj A B C:Nat):Int)∣C:=Qp5.1 (by rw [ē];exact ŧ _ _);have key:∀{x:Rat} {X:Int},x*((f:Int):Rat)=(X:Rat)->((cj A B C:Nat):Int)∣X->x*g⁻¹=((X/(cj A B C:Int):Int):Rat):=by{grind [H4]};exact ⟨p,key i q,key j r,key k dC⟩
theorem XW {a b c:Rat}(h:¬(a=0/\b=0)):¬((CV a b c).1=0/\(CV a b c).2.1=0):=by obtain ⟨i,d,e,-⟩:=tE (c:=c) h;rintro ⟨f,g⟩;rw [f] at d;rw [g] at e;grind
end Go.Proofs.Tryz
