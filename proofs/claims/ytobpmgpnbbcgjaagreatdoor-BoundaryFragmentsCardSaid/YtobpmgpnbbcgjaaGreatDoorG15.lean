import Derived.Test.YtobpmgpnbbcgjaaGreatDoorG14
import Derived.Test.YtobpmgpnbbcgjaaGreatDoorG7
set_option linter.all false
open Go.IntKind (i64 u64 u32)
open Go.Value renaming slice→dB,agg→qvK,bool→Õ,int→Ô,tuple→æ,pointer→qyQ
open Go.Eng Go.Big
namespace Go.Proofs.Tryz
variable{V:Ó}{p:OA}{c n:Nat}
theorem fE (b:md){x:Nat}(h:RN V p n c x):À 111 #[Õ b,dB p n c] V λr W=>RI W r (if b then -(x:Int) else x):=by have f:=iA h.len;refine KD V _ ⟨λa e d=>?_,λa e d=>?_⟩;{rw [Ä a];refine RI.mk ?_ ?_;{rw [ķ,Ñ,Ñ];omega};{rw [ť,ģ];exact h.le d}};{rw [a,Ã φ];refine RI.mk ?_ ?_;{symm;rw [Ò];omega};{rw [ģ];exact h.le d}}
theorem lB {b:md}{x:Nat}{z:Int}(h:RN V p n c x)(O:(if b then -(x:Int) else x)=z):À 111 #[Õ b,dB p n c] V λr W=>∃(E:md)(F:OA)(M N:Nat),r=qvK #[Õ E,dB F M N]/\∀D:ut,W.Le D->RI D (qvK #[Õ E,dB F M N]) z:=by refine (fE b h).s ?_;rintro r V2 a ⟨d,e,f,rfl,g⟩;rw [O] at g ⊢;exact qyJ ⟨rfl,λD i=>⟨_,_,_,rfl,ra⟩⟩
theorem OZ (n:Int)(D:-9223372036854775808<=n)(E:n<=9223372036854775807):À 146 #[Ô .i64 n] V λr W=>RI W r n:=by refine MS V _ ⟨λa b c=>?_,λa b c=>?_⟩;{have a:n<0:=by{simpa using a};have e:u64.wrap (0-u64.wrap n)=((-n).toNat:Int):=by{rw [y_,y_];omega};rw [e];refine (fF _).s ?_;rintro r V2 d ⟨f,g,h,rfl,i⟩;exact ⟨_,_,_,rfl,λj k=>lB ra (by simp;omega)⟩};{have a:0<=n:=by{simpa using a};have e:u64.wrap n=(n.toNat:Int):=by{rw [br ω];omega};rw [e];refine (fF _).s ?_;rintro r V2 d ⟨f,g,h,rfl,i⟩;exact ⟨_,_,_,rfl,λj k=>lB ra (by simp;omega)⟩}
theorem oz (z:Int)(h:RN V p n c z.natAbs):À 195 #[qvK #[Õ (decide (z<0)),dB p n c]] V λr W=>r=Ô .i64 z.sign:=by have f:=iA h.len;refine KG V _ ⟨λb d e=>?_,λb=>⟨λa d e=>?_,λa d e=>?_⟩⟩;{have:z=0:=by{simp at b;omega};rw [this];rfl};{rw [Ñ] at a;rw [Qf5 a]};{rw [Ò] at a;have:0<z:=by{simp at b;omega};rw [Qh6 this]}
theorem jD (z:Int)(h:RN V p n c z.natAbs):À 98 #[qvK #[Õ (decide (z<0)),dB p n c]] V λr W=>RI W r (-z):=by refine HF V _ λb d=>lB ra ?_;by_cases a:z<0<;>simp [a]<;>omega
theorem nr (z w:Int){q:OA}{m e:Nat}(D:RN V p n c z.natAbs)(E:RN V q m e w.natAbs)(hm:(ah z.natAbs).length+(ah w.natAbs).length<=2^40:=by omega):À 140 #[qvK #[Õ (decide (z<0)),dB p n c],qvK #[Õ (decide (w<0)),dB q m e]] V λr W=>RI W r (z*w):=by
 refine MU V _ λb d=>(dt ra ra hm).s ?_;rintro r V2 f ⟨g,h,i,rfl,a⟩;rw [af,af] at a;refine ⟨_,_,_,rfl,λj k=>lB ra ?_⟩
 conv=>rhs;rw [((bf z).symm),((bf w).symm)]
 unfold bI;rw [af,af];cases decide (z<0)<;>cases decide (w<0)<;>simp [Wz1,Ww8]
theorem wV (z w:Int){q:OA}{m e:Nat}(E:RN V p n c z.natAbs)(F:RN V q m e w.natAbs)(hm:(ah z.natAbs).length<=2^40)(D:(ah w.natAbs).length<=2^40:=by omega):À 189 #[qvK #[Õ (decide (z<0)),dB p n c],qvK #[Õ (decide (w<0)),dB q m e]] V λr W=>RI W r (z+w):=by refine MP V _ ⟨λf l o=>(O0 ra ra hm D).s ?_,λf l o=>(kI ra ra hm D).s ?_⟩;{rintro r V2 s ⟨g,h,i,rfl,b⟩;rw [af,af] at b;refine ⟨_,_,_,rfl,λj k=>lB ra ?_⟩;by_cases d:z<0<;>by_cases hw:w<0<;>simp [d,hw] at f⊢<;>omega};{rintro r V2 s rfl;refine ⟨_,rfl,λa j k=>?_,λa j k=>?_⟩;{have a:z.natAbs<w.natAbs:=by{simpa [ir] using a};refine (tN ra ra D (aQ (Qr7 a)) (by rw [af,af];omega)).s ?_;rintro r t u ⟨g,h,i,rfl,b⟩;rw [af,af] at b;refine ⟨_,_,_,rfl,λv x=>lB ra ?_⟩;by_cases d:z<0<;>by_cases hw:w<0<;>simp [d,hw] at f⊢<;>omega};{have a:w.natAbs<=z.natAbs:=by{simpa [<-Ww0,ir] using a};refine (tN ra ra hm (aQ a) (by rw [af,af];omega)).s ?_;rintro r t u ⟨g,h,i,rfl,b⟩;rw [af,af] at b;refine ⟨_,_,_,rfl,λv x=>lB ra ?_⟩;by_cases d:z<0<;>by_cases hw:w<0<;>simp [d,hw] at f⊢<;>omega}}
end Go.Proofs.Tryz
namespace Go.Eng
def yR (d:Nat):List Nat:=if d=1 then [] else ah d
def RQ (V:Ó)(v:Value)(q:Rat):Prop:=∃p n c p' n' c',v=.agg #[.bool (decide (q.num<0)),.slice p n c,.slice p' n' c'] /\
 RD V p n c (ah q.num.natAbs)/\RD V p' n' c' (yR q.den)
theorem RQ.le {V V':ut}{v:un}{q:Rat}(h:RQ V v q)(l:V.Le V'):RQ V' v q:=by obtain ⟨p,n,c,a,b,d,e,f,g⟩:=h;exact ⟨p,n,c,a,b,d,e,ra,ra⟩
def IZ {q:Rat}:yR q.den=[]↔q.den=1:=by unfold yR;split;{rename_i h;simp [h]};{rename_i h;rw [bR];have:=q.den_nz;omega}
end Go.Eng
namespace Go.Proofs.Tryz
variable{V:Ó}{p p':OA}{c c' k m n n':Nat}{x y:Rat}{v w:Value}
theorem qi {q:Rat}(h:RD V p n c (yR q.den)):n=0↔q.den=1:=by rw [<-IZ,h.len,ĝ]
theorem dM (q:Rat)(b:md)(D:RD V p' n' c' (yR q.den)):À 110 #[qvK #[Õ b,dB p n c,dB p' n' c']] V λr W=>∃E F c1,r=dB E F c1/\RN W E F c1 q.den:=by have d:=qi D;refine MR V _ ⟨λa f h=>rF.s ?_,λa f h=>⟨_,_,_,rfl,?_⟩⟩;{rintro r V2 i ⟨E,F,c1,rfl,g⟩;have:q.den=1:=d.1 (by simp at a;omega);rw [this];exact ⟨_,_,_,rfl,λj k=>⟨_,_,_,rfl,ra⟩⟩};{have:q.den≠1:=λe=>by{have:=d.2 e;simp at a;omega};unfold yR at D;rw [Ã this] at D;exact ra}
theorem tv {q:Rat}{z:Int}{d:Nat}(D:q.num=z)(E:q.den=d)(F:RD V p n c (ah z.natAbs))(M:RD V p' n' c' (yR d)){b:md}(N:b=decide (z<0)):RQ V (qvK #[Õ b,dB p n c,dB p' n' c']) q:=by subst D E N;exact ⟨_,_,_,_,_,_,rfl,F,M⟩
theorem oq (z:Int){d:Nat}{q:OA}{e:Nat}(hx:RN V p n c z.natAbs)(hy:RN V q m e d)(hm:(ah z.natAbs).length<=2^38)(hn:(ah d).length<=2^38)(hd:d≠0):À 190 #[qvK #[Õ (decide (z<0)),dB p n c],dB q m e] V λr W=>RQ W r (mkRat z d):=by refine Kz V _ λZ D=>(oo ra ra hm hn).s ?_;rintro r V2 E ⟨p1,n1,c1,rfl,F⟩;have o:=ņ z.natAbs d;have s:0<Nat.gcd z.natAbs d:=Wy7 _ ω;have h:=ü (aQ (Wq8 ω (Ţ z.natAbs d))) hn;have u:(mkRat z d).num=z/(Nat.gcd d z.natAbs:Nat):=by{rw [Qs1,Ã hd]};have a:(mkRat z d).den=d/Nat.gcd d z.natAbs:=by{rw [Wq7,Ã hd]};rw [Ť d] at u a;generalize hG:Nat.gcd z.natAbs d=g at *;generalize mkRat z d=w at *;refine ⟨_,_,_,rfl,λV3 v=>rF.s ?_⟩;rintro r V4 x ⟨p2,n2,c2,rfl,h1⟩;refine ⟨_,_,_,rfl,λV5 y=>(kI ra ra ω φ).s ?_⟩;rintro r V6 A rfl;replace hx:=hx.le (D.m (E.m (v.m (x.m (y.m A)))));replace hy:=hy.le (D.m (E.m (v.m (x.m (y.m A)))));replace F:=F.le (v.m (x.m (y.m A)));refine ⟨_,rfl,λG V7 l7=>(fU ra ra hm h s).s ?_,λG pS jN=>rF.s ?_⟩;{rintro r V8 l8 ⟨p4,n4,c4,p5,n5,c5,rfl,H,-⟩;have I:(mkRat z d).num.natAbs=(mkRat z d).num.natAbs:=rfl;obtain ⟨k,B⟩:=o;have C:z.natAbs/g=k:=by{rw [B,Nat.mul_div_cancel_left _ s]};rw [C] at H;have J:z=(g:Int)*(if z<0 then -(k:Int) else k):=by{split;{rw [Ww8,<-Ŝ,<-B];omega};{rw [<-Ŝ,<-B];omega}};have b:w.num=(if z<0 then -(k:Int) else k):=by{rw [u];generalize (if z<0 then -(k:Int) else k)=t at *;rw [J,Qg7 _ ω]};refine ⟨_,_,_,_,_,_,rfl,λV9 l9=>(fE _ ra).s ?_⟩;have i:(if decide (z<0)=true then -(k:Int) else k)=w.num:=by{rw [b];simp};rw [i];rintro r fo K ⟨p7,n7,c7,rfl,g2⟩;refine qyJ ⟨rfl,λfg dy=>(fU ra ra hn h s).s ?_⟩;rintro r gT dX ⟨p8,n8,c8,p9,n9,c9,rfl,L,-⟩;rw [<-a] at L;refine ⟨_,_,_,_,_,_,rfl,λiL dS=>rF.s ?_⟩;rintro r lR gj ⟨M,N,O,rfl,P⟩;have Q:(ah w.den).length<=2^38:=by{rw [a];exact ü (aQ (Qc7 _ _)) hn};refine ⟨_,_,_,rfl,λlS gC=>(kI ra ra ω φ).s ?_⟩;rintro r kH fy rfl;refine ⟨_,rfl,λf R S=>tv rfl rfl ra ?_ rfl,λf T U=>tv rfl rfl ra ?_ rfl⟩;{have:w.den=1:=nw.1 (by simpa using f);rw [IZ.2 this];exact RD.nil};{have:w.den≠1:=λe=>by{rw [nw.2 e] at f;simp at f};unfold yR;rw [Ã this];exact ra}};{have j:=nw.1 (by simpa using G);have b:w.num=z:=by{rw [u,j];simp};have l:w.den=d:=by{rw [a,j];simp};rintro r sC kt ⟨W,X,Y,rfl,P⟩;refine ⟨_,_,_,rfl,λsE qB=>(kI ra ra ω φ).s ?_⟩;rintro r sN nH rfl;refine ⟨_,rfl,λf R S=>tv b l ra ?_ rfl,λf T U=>tv b l ra ?_ rfl⟩;{have:d=1:=nw.1 (by simpa using f);unfold yR;rw [Ä this];exact RD.nil};{have:d≠1:=λe=>by{rw [nw.2 e] at f;simp at f};unfold yR;rw [Ã this];exact ra}}
theorem dO (n:Int)(D:-9223372036854775808<=n)(E:n<=9223372036854775807:=by omega):À 77 #[Ô .i64 n] V λr W=>RQ W r (n:Rat):=by refine Ql V _ λa b=>(OZ n D E).s ?_;rintro r V2 e ⟨p,m,c,rfl,g⟩;exact qyJ ⟨rfl,λf h=>tv (z:=n) (d:=1) rfl rfl ra RD.nil rfl⟩
theorem rG (q:Rat)(D:RD V p n c (ah q.num.natAbs)):À 121 #[qvK #[Õ (decide (q.num<0)),dB p n c,dB p' n' c']] V λr W=>r=Ô .i64 q.num.sign:=by refine Uc V _ λa b=>(oz q.num ra).s ?_;rintro r V2 d rfl;exact ⟨_,rfl,λe f=>rfl⟩
theorem nt (q:Rat)(E:RD V p n c (ah q.num.natAbs))(D:RD V p' n' c' (yR q.den)):À 100 #[qvK #[Õ (decide (q.num<0)),dB p n c,dB p' n' c']] V λr W=>RQ W r (-q):=by refine MW V _ λb a=>(jD q.num ra).s ?_;rintro r V2 e ⟨f,h,i,rfl,g⟩;exact qyJ ⟨rfl,λj k=>tv (q:=-q) (z:=-q.num) (d:=q.den) (by rfl) (by rfl) ra ((D.le a).le au) rfl⟩
theorem wW {x:Nat}(h:RN V p n c x):À 111 #[Õ false,dB p n c] V λr W=>RI W r (x:Int):=by have:=fE false h;rwa [Ã φ] at this
theorem du (h:Sz k x):(ah x.num.natAbs).length<=k/\(ah x.den).length<=k/\(ah (x.den:Int).natAbs).length<=k:=⟨ag h.1,ag h.2,ag h.2⟩
theorem dV (hx:RQ V v x)(hy:RQ V w y){k m:Nat}(hk:Sz k x)(hm:Sz m y)(hkm:k+m<2^38):À 107 #[v,w] V λr W=>RQ W r (x+y):=by obtain ⟨p,n,c,j,l,o,rfl,s,b⟩:=hx;obtain ⟨q,i,e,t,u,A,rfl,B,f⟩:=hy;obtain ⟨C,D,E,F⟩:=As hk hm;have ⟨d1,d2,d3⟩:=du hk;have ⟨d4,d5,d6⟩:=du hm;have a:=Rat.add_def' x y;refine (λtail=>KF V _ ⟨λG=>⟨λH I J=>?_,λ_=>tail⟩,λ_=>tail⟩) ?_;{clear tail;refine (wV x.num y.num ra ra ω).s ?_;rintro r V2 K ⟨p2,n2,c2,rfl,g⟩;have L:x+y=((x.num+y.num:Int):Rat):=by{rw [a,((qi b).1 (by simp at G;omega)),((qi f).1 (by simp at H;omega))];simp [Qh1]};rw [L];exact qyJ ⟨rfl,λM N=>tv (z:=x.num+y.num) (d:=1) rfl rfl ra RD.nil rfl⟩};{intro I J;refine (dM y _ ra).s ?_;rintro r V2 K ⟨p1,n1,c1,rfl,g1⟩;refine ⟨_,_,_,rfl,λM N=>(wW ra).s ?_⟩;rintro r V4 l4 ⟨p3,n3,c3,rfl,g3⟩;refine qyJ ⟨rfl,λV5 l5=>(nr x.num y.den ra ra).s ?_⟩;rintro r V6 l6 ⟨p5,n5,c5,rfl,g5⟩;refine qyJ ⟨rfl,λV7 l7=>(dM x _ ra).s ?_⟩;rintro r V8 l8 ⟨p7,n7,c7,rfl,g7⟩;refine ⟨_,_,_,rfl,λV9 l9=>(wW ra).s ?_⟩;rintro r fo O ⟨p9,n9,c9,rfl,g9⟩;refine qyJ ⟨rfl,λfg dy=>(nr y.num x.den ra ra).s ?_⟩;rintro r gT dX ⟨P,Q,R,rfl,S⟩;refine qyJ ⟨rfl,λiL dS=>(wV _ _ ra ra (ü (ag C) ω) (ü (ag D) ω)).s ?_⟩;rintro r lR gj ⟨T,U,W,rfl,X⟩;refine qyJ ⟨rfl,λlS gC=>(dM x _ ra).s ?_⟩;rintro r kH fy ⟨Y,Z,a0,rfl,a1⟩;refine ⟨_,_,_,rfl,λlT ij=>(dM y _ ra).s ?_⟩;rintro r mZ hU ⟨a2,a3,a4,rfl,a5⟩;refine ⟨_,_,_,rfl,λpS jN=>(dt ra ra).s ?_⟩;rintro r sC kt ⟨a6,a7,a8,rfl,h⟩;rw [af,af] at h;refine ⟨_,_,_,rfl,λsE qB=>(oq _ ra ra (ü (ag E) ω) (ü (ag F) ω) (ŏ x.den_nz y.den_nz)).s ?_⟩;rw [a];rintro r sN nH ⟨a9,b0,b5,b6,b7,b8,rfl,b9,c0⟩;exact qxW ⟨rfl,λuF pk=>⟨_,_,_,_,_,_,rfl,ra,ra⟩⟩}
theorem gW (Z:RQ V v x)(hy:RQ V w y)(hk:Sz k x)(hm:Sz m y)(hkm:k+m<2^38:=by omega):À 119 #[v,w] V λr W=>RQ W r (x-y):=by obtain ⟨p,n,c,a,b,d,rfl,f,g⟩:=id Z;obtain ⟨q,i,e,h,j,l,rfl,o,s⟩:=hy;refine MX V _ λu z=>(nt y ra ra).s ?_;rintro r V2 A t;obtain ⟨B,C,D,E,F,G,rfl,H,I⟩:=id t;refine qxW ⟨rfl,λJ K=>(dV ra ra hk hm.neg hkm).s ?_⟩;rw [<-Qs2];rintro r L M ⟨N,O,P,Q,R,S,rfl,T,U⟩;exact qxW ⟨rfl,λW X=>⟨_,_,_,_,_,_,rfl,ra,ra⟩⟩
theorem ew (Z:RQ V v x)(hy:RQ V w y)(hk:Sz k x)(hm:Sz m y)(hkm:k+m<2^38:=by omega):À 68 #[v,w] V λr W=>r=Ô .i64 (cY x y):=by have a:=Z;have b:=hy;obtain ⟨p,n,c,d,f,g,rfl,h,j⟩:=Z;obtain ⟨q,i,e,l,o,s,rfl,t,u⟩:=hy;refine Ub V _ λz A=>(gW ra ra hk hm hkm).s ?_;rintro r V2 B ⟨C,D,E,F,G,H,rfl,I,J⟩;refine qxW ⟨rfl,λK L=>(rG (x-y) ra).s ?_⟩;rintro r M N rfl;exact ⟨_,rfl,λO P=>rfl⟩
theorem bE (hx:RQ V v x)(hy:RQ V w y){k m:Nat}(hk:Sz k x)(hm:Sz m y)(hkm:k+m<2^38):À 108 #[v,w] V λr W=>RQ W r (x*y):=by obtain ⟨p,n,c,h,j,l,rfl,o,b⟩:=hx;obtain ⟨q,i,e,s,t,u,rfl,A,f⟩:=hy;have ⟨d1,d2,d3⟩:=du hk;have ⟨d4,d5,d6⟩:=du hm;have a:=Wk7 x y;have B:(x.num*y.num).natAbs<2^(k+m):=by{rw [Ŀ];exact cw hk.1 hm.1};refine (λtail=>HH V _ ⟨λC=>⟨λD E F=>?_,λ_=>tail⟩,λ_=>tail⟩) ?_;{clear tail;refine (nr x.num y.num ra ra).s ?_;rintro r V2 G ⟨H,I,J,rfl,g⟩;have K:x*y=((x.num*y.num:Int):Rat):=by{rw [a,((qi b).1 (by simp at C;omega)),((qi f).1 (by simp at D;omega))];simp [Qh1]};rw [K];exact qyJ ⟨rfl,λL M=>tv (z:=x.num*y.num) (d:=1) rfl rfl ra RD.nil rfl⟩};{intro E F;refine (nr x.num y.num ra ra).s ?_;rintro r V2 G ⟨H,I,J,rfl,X⟩;refine qyJ ⟨rfl,λL M=>(dM x _ ra).s ?_⟩;rintro r Y Z ⟨p4,n4,c4,rfl,g4⟩;refine ⟨_,_,_,rfl,λV5 l5=>(dM y _ ra).s ?_⟩;rintro r V6 l6 ⟨p6,n6,c6,rfl,g6⟩;refine ⟨_,_,_,rfl,λV7 l7=>(dt ra ra).s ?_⟩;rintro r V8 l8 ⟨p8,n8,c8,rfl,N⟩;rw [af,af] at N;refine ⟨_,_,_,rfl,λV9 l9=>(oq _ ra ra (ü (ag B) ω) (ü (ag (cw hk.2 hm.2)) ω) (ŏ x.den_nz y.den_nz)).s ?_⟩;rw [a];rintro r sN nH ⟨O,P,Q,R,S,T,rfl,U,W⟩;exact qxW ⟨rfl,λuF pk=>⟨_,_,_,_,_,_,rfl,ra,ra⟩⟩}
end Go.Proofs.Tryz
namespace Go.Eng
variable{V:Ó}
def RP (V:Ó)(v:Value)(x y:Rat):Prop:=∃p n c p' n' c' q m e D E F,v=.agg #[.bool (decide (x.num<0)),.slice p n c,.slice p' n' c',.bool (decide (y.num<0)),.slice q m e,.slice D E F] /\
 RQ V (.agg #[.bool (decide (x.num<0)),.slice p n c,.slice p' n' c']) x/\RQ V (.agg #[.bool (decide (y.num<0)),.slice q m e,.slice D E F]) y
theorem RP.le {V V':ut}{v:un}{x y:Rat}(h:RP V v x y)(l:V.Le V'):RP V' v x y:=by obtain ⟨p,n,c,a,b,d,q,m,e,f,g,i,rfl,j,k⟩:=h;exact ⟨p,n,c,a,b,d,q,m,e,f,g,i,rfl,ra,ra⟩
theorem RQ.shape {v:un}{q:Rat}(h:RQ V v q):∃p n c p' n' c',v=qvK #[Õ (decide (q.num<0)),dB p n c,dB p' n' c']:=by obtain ⟨p,n,c,p',n',c',e,-⟩:=h;exact ⟨_,_,_,_,_,_,e⟩
theorem RQ.ex {r:un}{q:Rat}{K:md->OA->Nat->Nat->OA->Nat->Nat->Prop}(g:RQ V r q)(h:∀t:OA×Nat×Nat×OA×Nat×Nat,RQ V (qvK #[Õ (decide (q.num<0)),dB t.1 t.2.1 t.2.2.1,dB t.2.2.2.1 t.2.2.2.2.1 t.2.2.2.2.2]) q->K (decide (q.num<0)) t.1 t.2.1 t.2.2.1 t.2.2.2.1 t.2.2.2.2.1 t.2.2.2.2.2):∃b p n c p' n' c',r=qvK #[Õ b,dB p n c,dB p' n' c']/\K b p n c p' n' c':=by obtain ⟨_,_,_,_,_,_,rfl⟩:=g.shape;exact qxW ⟨rfl,h (_,_,_,_,_,_) g⟩
theorem RP.ex {r:un}{x y:Rat}{K:md->OA->Nat->Nat->OA->Nat->Nat->md->OA->Nat->Nat->OA->Nat->Nat->Prop}(g:RP V r x y)(h:∀t u:OA×Nat×Nat×OA×Nat×Nat,RP V (qvK #[Õ (decide (x.num<0)),dB t.1 t.2.1 t.2.2.1,dB t.2.2.2.1 t.2.2.2.2.1 t.2.2.2.2.2,Õ (decide (y.num<0)),dB u.1 u.2.1 u.2.2.1,dB u.2.2.2.1 u.2.2.2.2.1 u.2.2.2.2.2]) x y ->RQ V (qvK #[Õ (decide (x.num<0)),dB t.1 t.2.1 t.2.2.1,dB t.2.2.2.1 t.2.2.2.2.1 t.2.2.2.2.2]) x->RQ V (qvK #[Õ (decide (y.num<0)),dB u.1 u.2.1 u.2.2.1,dB u.2.2.2.1 u.2.2.2.2.1 u.2.2.2.2.2]) y->K (decide (x.num<0)) t.1 t.2.1 t.2.2.1 t.2.2.2.1 t.2.2.2.2.1 t.2.2.2.2.2 (decide (y.num<0)) u.1 u.2.1 u.2.2.1 u.2.2.2.1 u.2.2.2.2.1 u.2.2.2.2.2):∃b p n c p' n' c' d q m e D E F,r=qvK #[Õ b,dB p n c,dB p' n' c',Õ d,dB q m e,dB D E F]/\K b p n c p' n' c' d q m e D E F:=by obtain ⟨_,_,_,_,_,_,_,_,_,_,_,_,rfl,a,f⟩:=id g;exact qxZ ⟨rfl,h (_,_,_,_,_,_) (_,_,_,_,_,_) g a f⟩
end Go.Eng
namespace Go.Proofs.Tryz
variable{V:Ó}{u w:Value}{px py qx qy:Rat}
theorem yh {p:OA}{n c:Nat}{ds:zA Nat}(h:RD V p n c ds)(hm:ds.length<=2^40:=by omega):À 135 #[dB p n c] V λr W=>∃D E c1,r=dB D E c1/\RD W D E c1 ds:=by have a:=h.len;refine HJ V _ ⟨aM ds,h.sl,by simp [a],ω,ω,ψ,by simp [a],?_,?_⟩;{intro v e;simp only [aM,ă] at e;obtain ⟨d,-,rfl⟩:=e;rfl};{intro i J sp j f k l m b g;refine ⟨_,_,_,rfl,?_⟩;simp only [Ĉ,Ŗ,Qd2,Ŏ] at g f ⊢;exact Į h.gg a f g}
theorem mg {v:un}{z:Int}(h:RI V v z)(hm:(ah z.natAbs).length<=2^40:=by omega):À 114 #[v] V λr W=>RI W r z:=by obtain ⟨p,n,c,rfl,h⟩:=h;refine HI V _ λa b=>(yh ra hm).s ?_;rintro r V2 d ⟨e,f,i,rfl,g⟩;exact ⟨_,_,_,rfl,λj k=>⟨_,_,_,rfl,ra⟩⟩
theorem dE (x y:Int)(D:-9223372036854775808<=x)(E:x<=9223372036854775807)(F:-9223372036854775808<=y)(M:y<=9223372036854775807:=by omega):À 45 #[Ô .i64 x,Ô .i64 y] V λr W=>RP W r (x:Rat) (y:Rat):=by refine KO V _ λc d=>(dO x D E).s λr V2 e a=>RQ.ex a λ_ a=>λf g=>(dO y F M).s λr h i b=>RQ.ex b λ_ b=>λj k=>⟨_,_,_,_,_,_,_,_,_,_,_,_,rfl,ra,ra⟩
theorem fG {v:un}{c:Rat}(hp:RP V u px py)(hc:RQ V v c)(hq:RP V w qx qy){k m:Nat}(s1:Sz k px)(s2:Sz k py)(s3:Sz m c)(s4:Sz m qx)(s5:Sz m qy)(hkm:k+(m+m+1)<2^38):À 76 #[u,v,w] V λr W=>RP W r (px+c*qx) (py+c*qy):=by obtain ⟨f,g,h,i,j,l,n,o,p,q,s,t,rfl,x,y⟩:=hp;obtain ⟨z,A,B,C,D,E,rfl⟩:=hc.shape;obtain ⟨F,G,H,I,J,K,L,M,N,O,P,Q,rfl,R,S⟩:=hq;refine HL V _ λT U=>(bE ra ra s3 s4 ω).s λr V2 W a=>RQ.ex a λ_ a=>λX Y=>(dV ra ra s1 (s3.mul s4) ω).s λr Z l4 b=>RQ.ex b λ_ b=>λV5 l5=>(bE ra ra s3 s5 ω).s λr V6 l6 d=>RQ.ex d λ_ d=>λV7 l7=>(dV ra ra s2 (s3.mul s5) ω).s λr V8 l8 e=>RQ.ex e λ_ e=>λV9 l9=>⟨_,_,_,_,_,_,_,_,_,_,_,_,rfl,ra,ra⟩
theorem WJ:Sz 1 ((-1:Int):Rat):=by unfold Sz;decide
theorem p_ (hp:RP V u px py)(hq:RP V w qx qy){k m:Nat}(s1:Sz k px)(s2:Sz k py)(s4:Sz m qx)(s5:Sz m qy)(hm:1<=m)(hkm:k+(m+m+1)<2^38:=by omega):À 106 #[u,w] V λr W=>RP W r (px-qx) (py-qy):=by have e:=hp;have f:=hq;obtain ⟨g,h,i,j,l,n,o,p,q,s,t,v,rfl,-,-⟩:=hp;obtain ⟨x,y,c,z,A,B,C,D,E,F,G,H,rfl,-,-⟩:=hq;refine HS V _ λL M=>(dO (-1) ω).s λr V2 N d=>RQ.ex d λ_ d=>λO P=>(fG ra ra ra s1 s2 (WJ.s hm) s4 s5 hkm).s ?_;have c:∀a b:Rat,a+((-1:Int):Rat)*b=a-b:=by{intro a b;have:((-1:Int):Rat)=-1:=rfl;rw [this,Rat.neg_mul,Rat.one_mul,Qs2]};rw [c,c];rintro r Q R ⟨S,T,U,W,X,Y,Z,b8,b9,I,J,K,rfl,g2,g3⟩;exact qxZ ⟨rfl,λV5 l5=>⟨_,_,_,_,_,_,_,_,_,_,_,_,rfl,ra,ra⟩⟩
theorem oB (Z:RP V u px py)(hq:RP V w qx qy){k m:Nat}(s1:Sz k px)(s2:Sz k py)(s4:Sz m qx)(s5:Sz m qy)(hkm:k+m<2^38:=by omega):À 147 #[u,w] V λr W=>r=Õ (decide (px=qx/\py=qy)):=by obtain ⟨b,c,d,f,g,i,j,l,n,o,p,q,rfl,s,t⟩:=Z;obtain ⟨v,x,y,z,A,B,C,D,E,F,G,H,rfl,I,J⟩:=hq;refine Er V _ λM N=>(ew ra ra s1 s4 hkm).s ?_;rintro r V2 O rfl;refine ⟨_,rfl,λa K L=>(ew ra ra s2 s5 hkm).s ?_,λa K L=>?_⟩;{have a:=fh.2 (by simpa using a);rintro r P Q rfl;refine ⟨_,rfl,λR S=>?_⟩;congr 1;rw [ķ,Ñ,Ë,<-fh];exact ⟨λh=>⟨a,h⟩,λh=>h.2⟩};{have a:¬px=qx:=λe=>by{rw [fh.1 e] at a;simp at a};rw [È λh=>a h.1]}
end Go.Proofs.Tryz
namespace Go.Eng
def RL (V:Ó)(v:Value)(a b c:Int):Prop:=∃p n s p' n' s' q m e,v=.agg #[.bool (decide (a<0)),.slice p n s,.bool (decide (b<0)),.slice p' n' s',.bool (decide (c<0)),.slice q m e] /\
 RD V p n s (ah a.natAbs)/\RD V p' n' s' (ah b.natAbs)/\RD V q m e (ah c.natAbs)
theorem RL.le {V V':ut}{v:un}{a b c:Int}(h:RL V v a b c)(l:V.Le V'):RL V' v a b c:=by obtain ⟨p,n,s,d,f,g,q,m,e,rfl,i,j,k⟩:=h;exact ⟨p,n,s,d,f,g,q,m,e,rfl,ra,ra,ra⟩
end Go.Eng
namespace Go.Proofs.Tryz
variable{V:Ó}{a b c z:Int}{v:Value}
theorem sQ {p q:OA}{n c m e:Nat}{xs ys:zA Nat}(D:RD V p n c xs)(E:RD V q m e ys)(hm:xs.length<=2^40:=by omega):À 194 #[dB p n c,dB q m e] V λr W=>r=Õ (decide (xs=ys)):=by have g:=D.len;have s:=E.len;refine CY V _ ⟨λb t u=>?_,λb=>?_⟩;{have b:n≠m:=by{simp at b;omega};rw [È λh=>b (by rw [g,s,h])]};{have b:n=m:=by{simp at b;omega};(refine ⟨λz V'=>0<=z/\z<=n/\xs.take z.toNat=ys.take z.toNat,λz=>n-z.toNat,⟨0,by and_intros<;>first|exact True.intro|rfl,ω,ω,rfl⟩,?_⟩;rintro i V2 o ⟨j,k,d⟩;dsimp only at k d ⊢;obtain ⟨i,rfl⟩:=ċ j;simp only [Ü] at d;refine ⟨θ,λf=>?_,λf v x=>?_⟩);{have f:i<n:=by{simpa using f};refine (D.le o).rd i rfl ω ((E.le o).rd i rfl ω ⟨λa y A=>?_,λa=>?_⟩);{have a:xs[i]≠ys[i]:=by{simp at a;omega};rw [È λh=>a (by subst h;rfl)]};{have a:xs[i]=ys[i]:=by{simp at a;omega};have w:i64.wrap ((i:Int)+1)=((i+1:Nat):Int):=by{rw [ao ω];omega};simp only [w];(refine ⟨((i+1:Nat):Int),?_,by and_intros<;>first|exact True.intro|rfl,ω,ω,?_⟩);{(try dsimp only);omega};{(try dsimp only);simp only [Ü];rw [Qz1 ω,Qz1 (l:=ys) ω,d,a]}}};{have f:i=n:=by{simp at f;omega};rw [Ŕ ω,Ŕ ω] at d;rw [Ç d]}}
theorem TO {w:Int}:(decide (z<0)==decide (w<0))=true->(decide (ah z.natAbs=ah w.natAbs)=decide (z=w)):=by intro h;have b:(z<0↔w<0):=by{simpa using h};rw [ķ,Ñ,Ñ];constructor;{intro a;have:=vg a;omega};{intro a;rw [a]}
theorem ji {w:Int}{p q:OA}{n c m e:Nat}(D:RD V p n c (ah z.natAbs))(E:RD V q m e (ah w.natAbs))(hm:(ah z.natAbs).length<=2^40:=by omega):À 113 #[qvK #[Õ (decide (z<0)),dB p n c],qvK #[Õ (decide (w<0)),dB q m e]] V λr W=>r=Õ (decide (z=w)):=by refine CX V _ ⟨λa b d=>(sQ ra ra hm).s ?_,λa b d=>?_⟩;{rintro r V2 f rfl;refine ⟨_,rfl,λg i=>?_⟩;rw [TO a]};{rw [È λh=>by subst h;simp at a]}
theorem sR {w:un}{Z b' c':Int}(hx:RL V v a b c)(hy:RL V w Z b' c')(h1:(ah a.natAbs).length<=2^40)(h2:(ah b.natAbs).length<=2^40)(h3:(ah c.natAbs).length<=2^40):À 46 #[v,w] V λr W=>r=Õ (decide (a=Z/\b=b'/\c=c')):=by obtain ⟨p,n,s,g,l,o,q,m,e,rfl,A,B,C⟩:=hx;obtain ⟨i,j,k,t,u,x,i2,y,z,rfl,D,E,F⟩:=hy;refine C9 V _ λG H=>(ji ra ra h1).s ?_;rintro r V2 I rfl;refine ⟨_,rfl,λd J K=>(ji ra ra h2).s ?_,λd L M=>?_⟩;{rintro r N O rfl;rw [Ñ] at d;refine ⟨_,rfl,λf P Q=>(ji ra ra h3).s ?_,λf R S=>?_⟩;{rintro r T U rfl;rw [Ñ] at f;refine ⟨_,rfl,λW X=>?_⟩;congr 1;rw [ķ,Ñ,Ñ];exact ⟨λh=>⟨d,f,h⟩,λh=>h.2.2⟩};{rw [Ò] at f;rw [È λh=>f h.2.1]}};{rw [Ò] at d;rw [È λh=>d h.1]}
theorem qc (Z:RL V v a b c)(h1:(ah a.natAbs).length<=2^40)(h2:(ah b.natAbs).length<=2^40)(h3:(ah c.natAbs).length<=2^40:=by omega):À 47 #[v] V λr W=>RL W r a b c:=by obtain ⟨p,n,s,d,f,g,q,m,e,rfl,h,i,j⟩:=Z;refine HT V _ λk l=>(mg ⟨_,_,_,rfl,ra⟩ h1).s ?_;rintro r V2 o ⟨t,u,w,rfl,x⟩;refine qyJ ⟨rfl,λy z=>(mg ⟨_,_,_,rfl,ra⟩ h2).s ?_⟩;rintro r A B ⟨C,D,E,rfl,F⟩;refine qyJ ⟨rfl,λG H=>(mg ⟨_,_,_,rfl,ra⟩ h3).s ?_⟩;rintro r I J ⟨K,L,M,rfl,N⟩;exact qyJ ⟨rfl,λO P=>⟨_,_,_,_,_,_,_,_,_,rfl,ra,ra,ra⟩⟩
theorem Be {g:Nat}(D:0<g)(E:g∣z.natAbs):(if decide (z<0)=true then -((z.natAbs/g:Nat):Int) else ((z.natAbs/g:Nat):Int))=z/(g:Int):=by obtain ⟨k,a⟩:=E;have b:z.natAbs/g=k:=by{rw [a,Nat.mul_div_cancel_left _ D]};rw [b];have c:z=(g:Int)*(if decide (z<0)=true then -(k:Int) else k):=by{split;{rename_i h;rw [Ñ] at h;rw [Ww8,<-Ŝ,<-a];omega};{rename_i h;rw [Ñ] at h;rw [<-Ŝ,<-a];omega}};generalize (if decide (z<0)=true then -(k:Int) else k)=t at *;rw [c,Qg7 _ ω]
def bZ (a b c:Int):Nat:=Nat.gcd (Nat.gcd a.natAbs b.natAbs) c.natAbs
theorem DE {u w:un}(ha:RI V u a)(hb:RI V v b)(hc:RI V w c)(h1:(ah a.natAbs).length<=2^38)(h2:(ah b.natAbs).length<=2^38)(h3:(ah c.natAbs).length<=2^38):À 112 #[u,v,w] V λr W=>(a=0/\b=0->∃l,r=æ #[l,Õ false]/\RL W l 0 0 0)/\(¬(a=0/\b=0)->∃l,r=æ #[l,Õ true]/\RL W l (a/(bZ a b c:Int)) (b/(bZ a b c:Int)) (c/(bZ a b c:Int))):=by obtain ⟨p,n,s,rfl,ha⟩:=ha;obtain ⟨t,x,y,rfl,hb⟩:=hb;obtain ⟨q,m,e,rfl,hc⟩:=hc;refine C7 V _ λP Q=>(oo ra ra h1 h2).s ?_;rintro r V2 R ⟨S,T,U,rfl,z⟩;have W:=iA z.len;have f:Nat.gcd a.natAbs b.natAbs=0↔a=0/\b=0:=by{rw [Wx0];omega};refine ⟨_,_,_,rfl,λk X Y=>⟨λ_=>⟨_,rfl,_,_,_,_,_,_,_,_,_,rfl,RD.nil,RD.nil,RD.nil⟩,λh=>?_⟩,λk Z l4=>?_⟩;{exact Å (f.1 (by simp at k;omega)) h};have o:¬(a=0/\b=0):=λh=>by{have:=f.2 h;simp at k;omega};have i:0<Nat.gcd a.natAbs b.natAbs:=by{have:=f;omega};have j:(ah (Nat.gcd a.natAbs b.natAbs)).length<=2^38:=by{rcases Ĵ a.natAbs with h|h;{rw [h,Wy8];exact h2};{exact ü (aQ (Nat.gcd_le_left _ h)) h1}};refine (oo ra ra j h3).s ?_;rintro r V5 l5 ⟨p2,n2,c2,rfl,A⟩;have B:Nat.gcd (Nat.gcd a.natAbs b.natAbs) c.natAbs=bZ a b c:=rfl;have d:0<bZ a b c:=Nat.gcd_pos_of_pos_left _ i;have g:(ah (bZ a b c)).length<=2^38:=ü (aQ (Nat.gcd_le_left _ i)) j;have C:bZ a b c∣a.natAbs:=Qs3 (ņ _ _) (ņ _ _);have D:bZ a b c∣b.natAbs:=Qs3 (ņ _ _) (Ţ _ _);have E:bZ a b c∣c.natAbs:=Ţ _ _;rw [B] at A;generalize bZ a b c=G at *;refine ⟨_,_,_,rfl,λV6 l6=>(fU ra ra h1 g d).s ?_⟩;rintro r V7 l7 ⟨p3,n3,c3,p4,n4,c4,rfl,g3,-⟩;refine ⟨_,_,_,_,_,_,rfl,λV8 l8=>(fU ra ra h2 g d).s ?_⟩;rintro r V9 l9 ⟨p5,n5,c5,p6,n6,c6,rfl,g5,-⟩;refine ⟨_,_,_,_,_,_,rfl,λfo F=>(fU ra ra h3 g d).s ?_⟩;rintro r fg dy ⟨p7,n7,c7,p8,n8,c8,rfl,g7,-⟩;refine ⟨_,_,_,_,_,_,rfl,λgT dX=>(fE _ ra).s ?_⟩;rw [(Be d C)];rintro r iL dS ⟨p9,n9,c9,rfl,g9⟩;refine qyJ ⟨rfl,λlR gj=>(fE _ ra).s ?_⟩;rw [(Be d D)];rintro r lS gC ⟨H,I,J,rfl,K⟩;refine qyJ ⟨rfl,λkH fy=>(fE _ ra).s ?_⟩;rw [(Be d E)];rintro r lT ij ⟨L,M,N,rfl,O⟩;refine qyJ ⟨rfl,λmZ hU=>⟨λh=>Å h o,λ_=>⟨_,rfl,_,_,_,_,_,_,_,_,_,rfl,?_,?_,?_⟩⟩⟩;{exact ra};{exact ra};{exact ra}
end Go.Proofs.Tryz
namespace Go.Eng
def xZ (V:Ó)(v:Value)(a b c:Rat):Prop:=∃(D E:Int)(p:OA)(F M:Int)(q:OA)(N O:Int)(r:OA),v=.agg #[.int .i64 D,.int .i64 E,.pointer p,.int .i64 F,.int .i64 M,.pointer q,.int .i64 N,.int .i64 O,.pointer r] /\
 RR V (.agg #[.int .i64 D,.int .i64 E,.pointer p]) a/\RR V (.agg #[.int .i64 F,.int .i64 M,.pointer q]) b/\RR V (.agg #[.int .i64 N,.int .i64 O,.pointer r]) c
def Uz (v:Value):Prop:=∃(D E:Int)(F:OA)(M N:Int)(O:OA)(Z z2:Int)(z3:OA),v=.agg #[.int .i64 D,.int .i64 E,.pointer F,.int .i64 M,.int .i64 N,.pointer O,.int .i64 Z,.int .i64 z2,.pointer z3]
theorem xZ.le {V V':ut}{v:un}{a b c:Rat}(h:xZ V v a b c)(l:V.Le V'):xZ V' v a b c:=by obtain ⟨d,e,p,f,g,q,i,j,r,rfl,k,m,n⟩:=h;exact ⟨d,e,p,f,g,q,i,j,r,rfl,ra,ra,ra⟩
end Go.Eng
namespace Go.Proofs.Tryz
variable{V:Ó}{l v w:Value}{MC N6 N7 a b l_0 l_1 l_2 nV nW q x y:Rat}{c k m n:Nat}{p:OA}
theorem OV {c:Rat}(h:xZ V v a b c)(s1:Sz k a)(s2:Sz k b)(s3:Sz k c)(Z:k<=2^40):À 154 #[v] V λr W=>RL W r a.num b.num c.num:=by obtain ⟨d,e,p,f,g,q,i,j,r,rfl,l,m,n⟩:=h;refine Eb V _ λo s=>(gQ ra s1 Z).s ?_;rintro r V2 t ⟨u,w,x,rfl,y⟩;refine qyJ ⟨rfl,λz A=>(gQ ra s2 Z).s ?_⟩;rintro r B C ⟨D,E,F,rfl,G⟩;refine qyJ ⟨rfl,λH I=>(gQ ra s3 Z).s ?_⟩;rintro r J K ⟨L,M,N,rfl,O⟩;exact qyJ ⟨rfl,λP Q=>⟨_,_,_,_,_,_,_,_,_,rfl,ra,ra,ra⟩⟩
def DX (b1:Bool)(xs:List Nat)(D:Bool)(ys:List Nat)(E:Bool)(F:List Nat):Bool:=
 pG b1 xs&&pG D ys&&pG E F&&!(decide ((bI b1 xs:Rat)=0)&&decide ((bI D ys:Rat)=0))&&decide (fu (fu (bI b1 xs) (bI D ys)) (bI E F)=((1:Int):Rat))
theorem xA {ok:md}{A B C:Rat}(h:ok=false):∃v,Value.tuple #[qvK #[Ô .i64 0,Ô .i64 0,qyQ none,Ô .i64 0,Ô .i64 0,qyQ none,Ô .i64 0,Ô .i64 0,qyQ none],Õ false]=æ #[v,Õ ok]/\Uz v/\(ok=true->xZ V v A B C):=by subst h;exact ⟨_,rfl,⟨_,_,_,_,_,_,_,_,_,rfl⟩,λh=>nomatch h⟩
theorem MB:Sz 1 ((1:Int):Rat):=by unfold Sz;decide
theorem AK {V:ut}(b1 b2 b3:md){q s:OA}{e i j:Nat}{xs ys zs:zA Nat}(hx:RD V p n c xs)(hy:RD V q m e ys)(hz:RD V s i j zs)(h1:xs.length<=2^40)(h2:ys.length<=2^40)(h3:zs.length<=2^40)(s1:Sz k (bI b1 xs:Rat))(s2:Sz k (bI b2 ys:Rat))(s3:Sz k (bI b3 zs:Rat))(hk:4*k+4<2^40:=by omega):À 223 #[qvK #[Õ b1,dB p n c,Õ b2,dB q m e,Õ b3,dB s i j]] V λr W=>∃v,r=æ #[v,Õ (DX b1 xs b2 ys b3 zs)]/\Uz v/\(DX b1 xs b2 ys b3 zs=true->xZ W v (bI b1 xs) (bI b2 ys) (bI b3 zs)):=by refine Ks V _ λV1 H=>(iP b1 ra h1).s ?_;rintro r V2 I rfl;refine ⟨_,rfl,λd V3 l3=>xA ?_,λd V4 J=>(iP b2 ra h2).s ?_⟩;{have d:pG b1 xs=false:=by{simpa using d};simp [DX,d]};have d:pG b1 xs=true:=by{simpa using d};rintro r V5 K rfl;refine ⟨_,rfl,λf V6 l6=>xA ?_,λf V7 L=>(iP b3 ra h3).s ?_⟩;{have f:pG b2 ys=false:=by{simpa using f};simp [DX,f]};have f:pG b2 ys=true:=by{simpa using f};rintro r V8 M rfl;have t:=H.m (I.m (J.m (K.m (L.m M))));refine ⟨_,rfl,λf0 V9 l9=>xA ?_,λf0 fo N=>(oa b1 ra h1).s ?_⟩;{have f0:pG b3 zs=false:=by{simpa using f0};simp [DX,f0]};have f0:pG b3 zs=true:=by{simpa using f0};rintro r fg dy ra;obtain ⟨x1,x2,x3,rfl⟩:=ra.shape;have O:=t.m au;refine ⟨_,_,_,rfl,λgT P=>(oa b2 (hy.le au) h2).s λr iL Q b=>RR.ex b λ_ b=>λlR u=>(oa b3 (hz.le ((O.m au).m u)) h3).s ?_⟩;rintro r lS F rc;obtain ⟨z1,z2,z3,rfl⟩:=rc.shape;replace ra:=ra.le (P.m (Q.m (u.m F)));replace b:=b.le (u.m F);have o:DX b1 xs b2 ys b3 zs=(!(decide ((bI b1 xs:Rat)=0)&&decide ((bI b2 ys:Rat)=0))&&decide (fu (fu (bI b1 xs) (bI b2 ys)) (bI b3 zs)=((1:Int):Rat))):=by{simp only [DX,d,f,f0,Bool.true_and]};rw [o];clear o d f f0 hx hy hz;generalize (bI b1 xs:Rat)=A at *;generalize (bI b2 ys:Rat)=B at *;generalize (bI b3 zs:Rat)=C at *;refine ⟨_,_,_,rfl,λkH w=>(Iu (ra.le w)).s ?_⟩;rintro r lT G rfl;refine ⟨_,rfl,λt0 mZ R=>(Iu (b.le au)).s ?_,λt0 S x=>?_⟩;{rintro r pS T rfl;refine ⟨_,rfl,λy sC kt=>xA (by rw [t0,y];rfl),λy S x=>?_⟩;have lb:=w.m (G.m (R.m (T.m x)));have z:(decide (A=0)&&decide (B=0))=false:=by{rw [y,Wj4]};rw [z];refine (n_ (ra.le lb) (b.le lb) s1 s2).s λr U W rg=>RR.ex rg λ_ rg=>λX D=>(n_ (rg.le D) (rc.le au) (mc s1 s2) s3).s λr Y Z g=>RR.ex g λ_ g=>λHZ Bz=>(tL 1 ω).s λr Nb Jl l=>RR.ex l λ_ l=>λUB E=>(ni (g.le au) (l.le E) (mc (mc s1 s2) s3) MB).s ?_;rintro r UC H4 rfl;have lz:=lb.m au;refine ⟨_,rfl,λa W3 NI=>xA ?_,λa QF H5=>?_⟩;{rw [Ľ] at a;rw [a];rfl};{have a:decide (fu (fu A B) C=((1:Int):Rat))=true:=by{cases h:decide (fu (fu A B) C=((1:Int):Rat));{rw [h] at a;cases a};{rfl}};rw [a];exact ⟨_,rfl,⟨_,_,_,_,_,_,_,_,_,rfl⟩,λ_=>⟨_,_,_,_,_,_,_,_,_,rfl,ra.le au,b.le au,rc.le au⟩⟩}};{have lb:=w.m (G.m x);have z:(decide (A=0)&&decide (B=0))=false:=by{rw [t0,Bool.false_and]};rw [z];refine (n_ (ra.le lb) (b.le lb) s1 s2).s λr U W rg=>RR.ex rg λ_ rg=>λX D=>(n_ (rg.le D) (rc.le au) (mc s1 s2) s3).s λr Y Z g=>RR.ex g λ_ g=>λHZ Bz=>(tL 1 ω).s λr Nb Jl l=>RR.ex l λ_ l=>λUB E=>(ni (g.le au) (l.le E) (mc (mc s1 s2) s3) MB).s ?_;rintro r UC H4 rfl;have lz:=lb.m au;refine ⟨_,rfl,λa W3 NI=>xA ?_,λa QF H5=>?_⟩;{rw [Ľ] at a;rw [a];rfl};{have a:decide (fu (fu A B) C=((1:Int):Rat))=true:=by{cases h:decide (fu (fu A B) C=((1:Int):Rat));{rw [h] at a;cases a};{rfl}};rw [a];exact ⟨_,rfl,⟨_,_,_,_,_,_,_,_,_,rfl⟩,λ_=>⟨_,_,_,_,_,_,_,_,_,rfl,ra.le au,b.le au,rc.le au⟩⟩}}
def PN:List Int->Int
 | []=>0
 | x::r=>if x=0 then PN r else x
def Vy (l:List Int):List Value:=l.map λx=>Value.int .i64 x
theorem ZF {l:zA Int}:PN l=0↔∀x∈l,x=0:=by
 induction l with
 | nil=>simp [PN]
 | cons x r D=>
  simp only [PN,ê,forall_eq_or_imp];split
  ·rename_i h;simp [h,D]
  ·rename_i h;simp [h]
theorem Iy {l:zA Int}(E:n=l.length)(D:V.sl p (Vy l))(hm:l.length<=2^40):À 225 #[dB p n c] V λr W=>r=Ô .i64 (PN l):=by (refine Qk V _ ⟨λz V'=>0<=z/\z<=n/\PN l=PN (l.drop z.toNat),λz=>n-z.toNat,⟨0,by and_intros<;>first|exact True.intro|rfl,ω,ω,rfl⟩,?_⟩;rintro i m j ⟨e,f,he⟩;dsimp only at f he ⊢;obtain ⟨i,rfl⟩:=ċ e;simp only [Ü] at he;refine ⟨θ,λb=>?_,λb o q=>?_⟩);{have b:i<n:=by{simpa using b};have d:i<l.length:=ω;obtain ⟨k,h,g⟩:=(j.sl D) i (Ô .i64 l[i]) (by simp [Vy,d]);rw [Ĥ d,PN] at he;refine ⟨by rw [h];rfl,⟨ω,ω⟩,l[i],⟨k.add i,by rw [h];simp [ae],g⟩,λa V2 s=>?_,λa=>?_⟩;{have a:l[i]≠0:=by{simpa using a};rw [Ã a] at he;rw [he]};{have a:l[i]=0:=by{simpa using a};rw [Ä a] at he;have w:i64.wrap ((i:Int)+1)=((i+1:Nat):Int):=by{rw [ao ω];omega};simp only [w];(refine ⟨((i+1:Nat):Int),?_,by and_intros<;>first|exact True.intro|rfl,ω,ω,?_⟩);{(try dsimp only);omega};{exact he}}};{have b:i=n:=by{simp at b;omega};rw [ļ ω] at he;rw [he];rfl}
theorem wT {c a' b' c':Rat}(hx:xZ V v a b c)(hy:xZ V w a' b' c')(s1:Sz k a)(s2:Sz k b)(s3:Sz k c)(t1:Sz m a')(t2:Sz m b')(t3:Sz m c')(hk:k+m<2^40:=by omega):À 160 #[v,w] V λr W=>r=Ô .i64 (PN [cY a a',cY b b',cY c c']):=by obtain ⟨f,g,p,h,j,q,n,o,r,rfl,s,t,u⟩:=hx;obtain ⟨x,y,z,A,B,C,D,E,F,rfl,G,H,I⟩:=hy;refine Ec V _ λJ K=>(jg ra ra s1 t1 hk).s ?_;rintro r V2 L rfl;refine ⟨_,rfl,λM N=>(jg ra ra s2 t2 hk).s ?_⟩;rintro r O P rfl;refine ⟨_,rfl,λQ R=>(jg ra ra s3 t3 hk).s ?_⟩;rintro r S T rfl;refine ⟨_,rfl,λU W X d=>(Iy (l:=[cY a a',cY b b',cY c c']) rfl (λi v e=>⟨_,rfl,by rw [add_zero'];exact dD (xs:=Vy [cY a a',cY b b',cY c c']) d e⟩) ψ).s ?_⟩;rintro r Y Z rfl;exact ⟨_,rfl,λ_ V9 l9=>rfl⟩
theorem yg {c M b' c':Rat}(N:xZ V v a b c)(O:xZ V w M b' c')(s1:Sz k a)(s2:Sz k b)(s3:Sz k c)(t1:Sz m M)(t2:Sz m b')(t3:Sz m c')(Z:k+m<2^40:=by omega):À 162 #[v,w] V λr W=>r=Õ (decide (a=M/\b=b'/\c=c')):=by have d:=N;have e:=O;obtain ⟨f,g,p,h,i,q,j,l,r,rfl,-,-,-⟩:=N;obtain ⟨n,o,s,t,u,x,y,z,A,rfl,-,-,-⟩:=O;refine zv V _ λB C=>(wT ra ra s1 s2 s3 t1 t2 t3 Z).s λr V2 D rfl=>⟨_,rfl,λE F=>?_⟩;congr 1;rw [ķ,Ñ,Ë,ZF];simp [<-fh]
def pP (V:Ó)(v:Value)(x y:Rat):Prop:=∃(D E:Int)(p:OA)(F M:Int)(q:OA),v=.agg #[.int .i64 D,.int .i64 E,.pointer p,.int .i64 F,.int .i64 M,.pointer q] /\
 RR V (.agg #[.int .i64 D,.int .i64 E,.pointer p]) x/\RR V (.agg #[.int .i64 F,.int .i64 M,.pointer q]) y
theorem pP.le {V V':ut}(h:pP V v x y)(l:V.Le V'):pP V' v x y:=by obtain ⟨a,b,p,c,d,q,e,g,f⟩:=h;exact ⟨a,b,p,c,d,q,e,ra,f.le l⟩
theorem pP.ex {r:un}{K:Int->Int->OA->Int->Int->OA->Prop}(g:pP V r x y)(h:∀t u:Int×Int×OA,pP V (qvK #[Ô .i64 t.1,Ô .i64 t.2.1,qyQ t.2.2,Ô .i64 u.1,Ô .i64 u.2.1,qyQ u.2.2]) x y->RR V (qvK #[Ô .i64 t.1,Ô .i64 t.2.1,qyQ t.2.2]) x->RR V (qvK #[Ô .i64 u.1,Ô .i64 u.2.1,qyQ u.2.2]) y->K t.1 t.2.1 t.2.2 u.1 u.2.1 u.2.2):∃a b c d e f,r=qvK #[Ô .i64 a,Ô .i64 b,qyQ c,Ô .i64 d,Ô .i64 e,qyQ f]/\K a b c d e f:=by obtain ⟨_,_,_,_,_,_,rfl,i,j⟩:=id g;exact ⟨_,_,_,_,_,_,rfl,h (_,_,_) (_,_,_) g i j⟩
theorem st {p:Prop}(h:p:=by repeat' (intro V l;first|exact RR.le ξ au|refine ⟨_,_,_,_,_,_,rfl,RR.le ξ au,RR.le ξ au⟩|refine ⟨_,_,_,_,_,_,_,_,_,rfl,RR.le ξ au,RR.le ξ au,RR.le ξ au⟩|(apply aa.s;(with_reducible first|apply Gd (k:=549755813887) (m:=549755813887)|apply Nm (k:=549755813887) (m:=549755813887)|apply Nn (k:=549755813887) (m:=549755813887)|apply zX (k:=549755813887) (m:=549755813887)|apply uJ (k:=2^40));(any_goals exact RR.le ξ au);(any_goals first|exact sz|decide);intro r W m g;refine RR.ex g λa h=>?_))):p:=h
theorem Gi {p:un}{q:un}(D:pP V p nV nW)(E:pP V q N6 N7){k:Nat}(F:Sz k nV)(M:Sz k nW)(N:Sz k N6)(O:Sz k N7)(Z:2*k+1<2^38):À 170 #[p,q] V λr W=>pP W r ((nV)+(N6)) ((nW)+(N7)):=by obtain ⟨_,_,_,_,_,_,rfl,_,_⟩:=id D;obtain ⟨_,_,_,_,_,_,rfl,_,_⟩:=id E;exact Eg V _ st
theorem AO {p:un}{c:un}{c_0:Rat}(D:pP V p nV nW)(E:RR V c c_0){k:Nat}(F:Sz k nV)(M:Sz k nW)(sc_0:Sz k c_0)(N:2*k+1<2^38):À 130 #[p,c] V λr W=>pP W r ((nV)*(c_0)) ((nW)*(c_0)):=by obtain ⟨_,_,_,_,_,_,rfl,_,_⟩:=id D;obtain ⟨_,_,_,rfl⟩:=E.shape;exact zy V _ st
theorem uM {p:un}{q:un}(D:pP V p nV nW)(E:pP V q N6 N7){k:Nat}(F:Sz k nV)(M:Sz k nW)(N:Sz k N6)(O:Sz k N7)(Z:4*k+3<2^38):À 198 #[p,q] V λr W=>RR W r (((nV)*(N6))+((nW)*(N7))):=by obtain ⟨_,_,_,_,_,_,rfl,_,_⟩:=id D;obtain ⟨_,_,_,_,_,_,rfl,_,_⟩:=id E;exact Ei V _ st
theorem Dn (D:Sz k nV)(E:Sz k nW)(F:Sz k N6)(M:Sz k N7):Sz (4*k+3) (((nV)*(N6))+((nW)*(N7))):=sz
theorem uL (D:xZ V l l_0 l_1 l_2){k:Nat}(E:Sz k l_0)(F:Sz k l_1)(M:Sz k l_2)(N:1*k+1<2^38):À 59 #[l] V λr W=>pP W r (l_1) (-(l_0)):=by obtain ⟨_,_,_,_,_,_,_,_,_,rfl,_,_,_⟩:=id D;exact Ee V _ st
theorem pg (D:xZ V l l_0 l_1 l_2){k:Nat}(E:Sz k l_0)(F:Sz k l_1)(M:Sz k l_2)(N:1*k+1<2^38):À 233 #[l] V λr W=>pP W r (l_0) (l_1):=by obtain ⟨_,_,_,_,_,_,_,_,_,rfl,_,_,_⟩:=id D;exact xO V _ st
theorem wU (D:xZ V l l_0 l_1 l_2)(E:Sz k l_0)(F:Sz k l_1)(M:Sz k l_2)(N:1*k+1<2^38):À 87 #[l] V λr W=>xZ W r (-(l_0)) (-(l_1)) (-(l_2)):=by obtain ⟨_,_,_,_,_,_,_,_,_,rfl,_,_,_⟩:=id D;exact wm V _ st
theorem ia {p:Prop}(h:p:=by repeat' (intro V l;first|exact RR.le ξ au|refine ⟨_,_,_,_,_,_,rfl,RR.le ξ au,RR.le ξ au⟩|(apply aa.s;(with_reducible first|apply Gd (k:=549755813887) (m:=549755813887)|apply zX (k:=549755813887) (m:=549755813887)|apply uJ (k:=2^40)|apply Gi (k:=137438953471)|apply AO (k:=137438953471)|apply uM (k:=68719476735)|apply uL (k:=274877906942)|apply pg (k:=274877906942)|apply_assumption);(any_goals first|exact RR.le ξ au|exact pP.le ξ au|exact xZ.le ξ au);(any_goals first|exact sz|decide);intro r W m g;(first|refine RR.ex g λa h=>?_|refine pP.ex g λa b h i j=>?_)))):p:=h
theorem AL {p:un}(D:xZ V l l_0 l_1 l_2)(E:pP V p nV nW){k:Nat}(F:Sz k l_0)(M:Sz k l_1)(N:Sz k l_2)(O:Sz k nV)(Z:Sz k nW)(hk:5*k+4<2^38:=by omega):À 197 #[l,p] V λr W=>RR W r ((((l_0)*(nV))+((l_1)*(nW)))+(l_2)):=by obtain ⟨_,_,_,_,_,_,_,_,_,rfl,_,_,_⟩:=id D;obtain ⟨_,_,_,_,_,_,rfl,_,_⟩:=id E;exact zw V _ ia
theorem xY {k:Nat}(D:Sz k l_0)(E:Sz k l_1)(F:Sz k l_2)(M:Sz k nV)(N:Sz k nW):Sz (5*k+4) ((((l_0)*(nV))+((l_1)*(nW)))+(l_2)):=sz
theorem sP (D:xZ V l l_0 l_1 l_2){k:Nat}(E:Sz k l_0)(F:Sz k l_1)(M:Sz k l_2)(N:10*k+9<2^38:=by omega):À 169 #[l] V λr W=>pP W r ((l_0)*(((-(l_2))*(((l_0)*(l_0))+((l_1)*(l_1)))⁻¹))) ((l_1)*(((-(l_2))*(((l_0)*(l_0))+((l_1)*(l_1)))⁻¹))):=by obtain ⟨_,_,_,_,_,_,_,_,_,rfl,_,_,_⟩:=id D;exact CL V _ ia
theorem pE (D:Sz k l_0)(E:Sz k l_1)(F:Sz k l_2):Sz (10*k+9) ((l_0)*(((-(l_2))*(((l_0)*(l_0))+((l_1)*(l_1)))⁻¹))):=sz
theorem pF (D:Sz k l_0)(E:Sz k l_1)(F:Sz k l_2):Sz (10*k+9) ((l_1)*(((-(l_2))*(((l_0)*(l_0))+((l_1)*(l_1)))⁻¹))):=sz
theorem IB {t:un}(D:xZ V l l_0 l_1 l_2)(E:RR V t MC)(F:Sz k l_0)(M:Sz k l_1)(N:Sz k l_2)(O:Sz k MC)(Z:20*k+19<2^38):À 90 #[l,t] V λr W=>pP W r ((((l_0)*(((-(l_2))*(((l_0)*(l_0))+((l_1)*(l_1)))⁻¹))))+(((l_1)*(MC)))) ((((l_1)*(((-(l_2))*(((l_0)*(l_0))+((l_1)*(l_1)))⁻¹))))+((((-(l_0)))*(MC)))):=by obtain ⟨_,_,_,_,_,_,_,_,_,rfl,_,_,_⟩:=id D;obtain ⟨_,_,_,rfl⟩:=E.shape;have d {V l a b c} (h:xZ V l a b c) s1 s2 s3:=sP (k:=27487790693) h s1 s2 s3 φ;exact HC V _ ia
theorem EK (D:Sz k l_0)(E:Sz k l_1)(F:Sz k l_2)(M:Sz k MC):Sz (20*k+19) ((((l_0)*(((-(l_2))*(((l_0)*(l_0))+((l_1)*(l_1)))⁻¹))))+(((l_1)*(MC)))):=sz
theorem EL (D:Sz k l_0)(E:Sz k l_1)(F:Sz k l_2)(M:Sz k MC):Sz (20*k+19) ((((l_1)*(((-(l_2))*(((l_0)*(l_0))+((l_1)*(l_1)))⁻¹))))+((((-(l_0)))*(MC)))):=sz
theorem xX (D:Sz k l_0)(E:Sz k l_1)(F:Sz k l_2)(M:Sz k nV)(N:Sz k nW):Sz (8*k+7) ((((l_1)*(nV))+(((-(l_0)))*(nW)))*(((l_1)*(l_1))+(((-(l_0)))*((-(l_0)))))⁻¹):=sz
theorem iR (hx:RQ V v x)(hy:RQ V w y)(hy0:y.num≠0){k m:Nat}(hk:Sz k x)(hm:Sz m y)(hkm:k+m<2^38):À 122 #[v,w] V λr W=>RQ W r (x*y⁻¹):=by obtain ⟨p,n,c,f,g,j,rfl,l,o⟩:=hx;obtain ⟨q,i,e,s,t,u,rfl,z,A⟩:=hy;have a:=jW hm;have P:=ag hk.1;have Q:=ag hk.2;have R:=ag hm.1;have S:=ag a.1;have d:(y⁻¹).num=(if decide (y.num<0)=true then -((y.den:Nat):Int) else ((y.den:Nat):Int))/\(y⁻¹).den=y.num.natAbs:=by{rcases Int.lt_or_gt_of_ne hy0 with h|h;{rw [Ä (Ç h)];exact inv_neg h};{rw [Ã (λB=>by have:=Á B;omega)];exact inv_pos h}};have C:(x.num*(y⁻¹).num).natAbs<2^(k+m):=by{rw [Ŀ];exact cw hk.1 a.1};refine KE V _ λT U=>(dM y _ ra).s ?_;rintro r V2 W ⟨X,Y,Z,rfl,g1⟩;refine ⟨_,_,_,rfl,λV3 l3=>(fE _ ra).s ?_⟩;rw [<-d.1];rintro r V4 l4 ⟨p4,n4,c4,rfl,g4⟩;refine qyJ ⟨rfl,λV5 l5=>(nr x.num (y⁻¹).num ra ra).s ?_⟩;rintro r V6 l6 ⟨p6,n6,c6,rfl,g6⟩;refine qyJ ⟨rfl,λV7 l7=>(dM x _ ra).s ?_⟩;rintro r V8 l8 ⟨p8,n8,c8,rfl,g8⟩;refine ⟨_,_,_,rfl,λV9 l9=>(dt ra ra).s ?_⟩;rintro r fo D ⟨E,F,G,rfl,b⟩;rw [af,af,<-d.2] at b;refine ⟨_,_,_,rfl,λfg dy=>(oq _ ra ra (ü (ag C) ω) (ü (ag (cw hk.2 a.2)) ω) (ŏ x.den_nz (y⁻¹).den_nz)).s ?_⟩;rw [(Wk7 x y⁻¹)];rintro r sN nH ⟨H,I,J,K,L,M,rfl,N,O⟩;exact qxW ⟨rfl,λuF pk=>⟨_,_,_,_,_,_,rfl,ra,ra⟩⟩
theorem O3 (z:Int)(h:RD V p n c (ah z.natAbs)):À 120 #[qvK #[Õ (decide (z<0)),dB p n c]] V λr W=>RQ W r (z:Rat):=
 M6 V _ λa b=>tv (z:=z) (d:=1) rfl rfl ra RD.nil rfl
theorem RQ.ofNat {x:Nat}(h:RN V p n c x){b:md}(D:b=decide ((x:Int)<0)):RQ V (qvK #[Õ b,dB p n c,dB none 0 0]) ((x:Int):Rat):=
 tv (z:=(x:Int)) (d:=1) rfl rfl h RD.nil D
theorem RQ.int {b:md}{p':OA}{n' c':Nat}(h:RQ V (qvK #[Õ b,dB p n c,dB p' n' c']) q):RI V (qvK #[Õ b,dB p n c]) q.num:=by obtain ⟨d,f,g,i,j,k,e,a,l⟩:=h;cases e;exact ⟨_,_,_,rfl,a⟩
theorem RQ.den {b:md}{p':OA}{n' c':Nat}(h:RQ V (qvK #[Õ b,dB p n c,dB p' n' c']) q):RD V p' n' c' (yR q.den):=by obtain ⟨d,f,g,i,j,k,e,l,a⟩:=h;cases e;exact a
def pz (px py qx qy:Rat):Rat×Rat×Rat:=
 let a:=-(qy-py);let b:=qx-px;let c:=-(a*px+b*py)
 let f:Rat:=(((a.den*b.den*c.den:Nat):Int):Rat)
 (a*f,b*f,c*f)
theorem ZY (h:n<2^k)(D:0<k:=by omega):Sz k (((n:Nat):Int):Rat):=by refine ⟨?_,?_⟩;{show ((n:Nat):Int).natAbs<_;simpa using h};{show 1<2^k;exact Qd7 ω}
theorem jQ {u:un}{px py qx qy:Rat}(hp:RP V u px py)(hq:RP V w qx qy)(s1:Sz k px)(s2:Sz k py)(s3:Sz k qx)(s4:Sz k qy)(hk1:1<=k)(hk:64*k+64<2^38:=by omega):À 44 #[u,w] V λr W=>((pz px py qx qy).1.num=0/\(pz px py qx qy).2.1.num=0->∃l,r=æ #[l,Õ false]/\RL W l 0 0 0)/\(¬((pz px py qx qy).1.num=0/\(pz px py qx qy).2.1.num=0)->∃l,r=æ #[l,Õ true]/\RL W l ((pz px py qx qy).1.num/(bZ (pz px py qx qy).1.num (pz px py qx qy).2.1.num (pz px py qx qy).2.2.num:Int)) ((pz px py qx qy).2.1.num/(bZ (pz px py qx qy).1.num (pz px py qx qy).2.1.num (pz px py qx qy).2.2.num:Int)) ((pz px py qx qy).2.2.num/(bZ (pz px py qx qy).1.num (pz px py qx qy).2.1.num (pz px py qx qy).2.2.num:Int))):=by have T:=hp;have U:=hq;obtain ⟨W,X,Y,Z,n2,c2,p3,n3,c3,p4,n4,c4,rfl,m,n⟩:=hp;obtain ⟨q1,m1,e1,q2,m2,e2,q3,m3,e3,q4,m4,e4,rfl,-,-⟩:=hq;refine xR V _ λV1 l1=>(p_ ra ra s3 s4 s1 s2 hk1).s ?_;rintro r V2 l2 ⟨a1,a2,a3,a4,a5,a6,a7,a8,a9,Nc,Nf,a0,rfl,o,hd⟩;have c:=s3.sub s1;have Zj:=l1.m l2;refine qxZ ⟨rfl,λV3 y=>(nt (qy-py) (by have ⟨_,_,_,_,_,_,e,z,h2⟩:=hd.le y;cases e;exact z) (RQ.den ra)).s ?_⟩;rintro r V4 J t;obtain ⟨b1,b2,b3,b4,b5,b6,rfl⟩:=t.shape;have d:=(s4.sub s2).neg;have p:pz px py qx qy=(-(qy-py)*(((((-(qy-py)).den*(qx-px).den*(-(-(qy-py)*px+(qx-px)*py)).den:Nat):Int):Rat)),(qx-px)*(((((-(qy-py)).den*(qx-px).den*(-(-(qy-py)*px+(qx-px)*py)).den:Nat):Int):Rat)),(-(-(qy-py)*px+(qx-px)*py))*(((((-(qy-py)).den*(qx-px).den*(-(-(qy-py)*px+(qx-px)*py)).den:Nat):Int):Rat))):=rfl;rw [p];generalize -(qy-py)=A at *;generalize qx-px=B at *;replace o:=o.le (y.m J);replace m:=m.le (Zj.m (y.m J));replace n:=n.le au;refine qxW ⟨rfl,λV5 l5=>(bE ra ra d s1 ω).s λr V6 l6 K=>RQ.ex K λ_ K=>λV7 l7=>(bE ra ra c s2 ω).s λr V8 l8 L=>RQ.ex L λ_ L=>λV9 l9=>(dV ra ra (d.mul s1) (c.mul s2) ω).s ?_⟩;rintro r fo D q;have v:=((d.mul s1).add (c.mul s2)).neg;obtain ⟨i1,i2,i3,i4,i5,i6,rfl⟩:=q.shape;refine qxW ⟨rfl,λfg N=>(nt (A*px+B*py) (by have ⟨_,_,_,_,_,_,e,z,h2⟩:=q.le N;cases e;exact z) (RQ.den ra)).s ?_⟩;rintro r gT dX O;generalize -(A*px+B*py)=C at *;obtain ⟨j1,j2,j3,j4,j5,j6,rfl⟩:=O.shape;have P:=l5.m (l6.m (l7.m (l8.m (l9.m (D.m (N.m dX))))));replace t:=t.le P;replace o:=o.le P;refine qxW ⟨rfl,λiL dS=>(dM A _ (RQ.den ra)).s ?_⟩;rintro r lR gj ⟨k1,k2,k3,rfl,b0⟩;refine ⟨_,_,_,rfl,λlS gC=>(dM B _ (RQ.den ra)).s ?_⟩;rintro r kH fy ⟨k4,k5,k6,rfl,b7⟩;obtain ⟨-,da,-⟩:=du d;obtain ⟨-,db,-⟩:=du c;obtain ⟨-,dc,-⟩:=du v;refine ⟨_,_,_,rfl,λlT ij=>(dt ra ra).s ?_⟩;rintro r mZ hU ⟨k7,k8,k9,rfl,E⟩;rw [af,af] at E;refine ⟨_,_,_,rfl,λpS jN=>(dM C _ (RQ.den ra)).s ?_⟩;rintro r sC kt ⟨b8,b9,c0,rfl,c5⟩;have c6:=kh (a:=A.den) (b:=B.den);refine ⟨_,_,_,rfl,λsE qB=>(dt ra ra).s ?_⟩;rintro r sN nH ⟨c7,c8,c9,rfl,F⟩;rw [af,af] at F;have j:=ZY (cw (cw d.2 c.2) v.2);generalize A.den*B.den*C.den=M at *;refine ⟨_,_,_,rfl,λuF pk=>(wW ra).s ?_⟩;rintro r Dx pM ⟨d0,d1,d2,rfl,G⟩;have H:=RQ.ofNat G rfl;have Q:=dS.m au;refine qyJ ⟨rfl,λHZ Bz=>(bE (t.le au) (H.le Bz) d j ω).s λr Nb Jl f=>RQ.ex f λ_ f=>λUB GN=>(bE (o.le au) (H.le au) c j ω).s λr UC H4 g=>RQ.ex g λ_ g=>λW3 NI=>(bE (O.le au) (H.le au) v j ω).s λr QF H5 i=>RQ.ex i λ_ i=>λYi GO=>(DE (RQ.int (f.le au)) (RQ.int (g.le au)) (RQ.int (i.le GO)) (ü (du (d.mul j)).1 ω) (ü (du (c.mul j)).1 ω) (ü (du (v.mul j)).1 ω)).s ?_⟩;rintro r Yj H6 ⟨z1,z2⟩;by_cases x:(A*((M:Int):Rat)).num=0/\(B*((M:Int):Rat)).num=0;{obtain ⟨l,rfl,y1,y2,y3,y4,y5,y6,y7,y8,y9,rfl,R,I,S⟩:=z1 x;exact ⟨_,_,_,_,_,_,_,_,_,_,_,_,_,rfl,λUD s=>⟨λ_=>⟨_,rfl,_,_,_,_,_,_,_,_,_,rfl,ra,I.le s,ra⟩,λh=>Å x h⟩⟩};{obtain ⟨l,rfl,y1,y2,y3,y4,y5,y6,y7,y8,y9,rfl,R,I,S⟩:=z2 x;exact ⟨_,_,_,_,_,_,_,_,_,_,_,_,_,rfl,λUD s=>⟨λh=>Å h x,λ_=>⟨_,rfl,_,_,_,_,_,_,_,_,_,rfl,R.le s,I.le s,S.le s⟩⟩⟩}
theorem kV (h:RQ V v q){k:Nat}(_s:Sz k q)(_hk:k<=2^40):À 100 #[v] V λr W=>RQ W r (-q):=by obtain ⟨p,n,c,d,e,f,rfl,a,b⟩:=h;exact nt q a b
theorem cq {z:Int}(h:RD V p n c (ah z.natAbs)){k:Nat}(_s:Sz k (z:Rat))(_hk:k<=2^40):À 120 #[qvK #[Õ (decide (z<0)),dB p n c]] V λr W=>RQ W r (z:Rat):=O3 z h
theorem sr {p:Prop}(h:p:=by repeat' (intro V l;first|exact RQ.le ξ au|refine (wqQ ⟨rfl,RQ.le ξ au,RQ.le ξ au⟩)|(apply aa.s;(with_reducible first|apply dV (k:=137438953471) (m:=137438953471)|apply bE (k:=137438953471) (m:=137438953471)|apply iR (k:=137438953471) (m:=137438953471)|apply kV (k:=2^40)|apply cq (k:=2^40));(any_goals first|with_reducible assumption|exact RQ.le ξ au|exact RD.le ξ au|exact RP.le ξ au|exact RL.le ξ au);(any_goals first|exact sz|decide);intro r W m g;(first|refine RQ.ex g λa h=>?_|refine RP.ex g λa b h i j=>?_)))):p:=h
theorem eE {l_0 l_1 l_2:Int}(D:RL V l l_0 l_1 l_2){k:Nat}(E:Sz k ((l_0:Int):Rat))(F:Sz k ((l_1:Int):Rat))(M:Sz k ((l_2:Int):Rat))(N:1*k+1<2^38):À 67 #[l] V λr W=>RP W r (((l_1:Int):Rat)) (-(((l_0:Int):Rat))):=by obtain ⟨_,_,_,_,_,_,_,_,_,rfl,_,_,_⟩:=id D;exact HN V _ sr
theorem IE {p:un}{q:un}(D:RP V p nV nW)(E:RP V q N6 N7){k:Nat}(F:Sz k nV)(M:Sz k nW)(N:Sz k N6)(O:Sz k N7)(Z:4*k+3<2^38):À 138 #[p,q] V λr W=>RQ W r (((nV)*(N6))+((nW)*(N7))):=by obtain ⟨_,_,_,_,_,_,_,_,_,_,_,_,rfl,_,_⟩:=id D;obtain ⟨_,_,_,_,_,_,_,_,_,_,_,_,rfl,_,_⟩:=id E;exact HO V _ sr
theorem jm {l_0 l_1 l_2:Int}{p:un}(D:RL V l l_0 l_1 l_2)(E:RP V p nV nW){k:Nat}(F:Sz k ((l_0:Int):Rat))(M:Sz k ((l_1:Int):Rat))(N:Sz k ((l_2:Int):Rat))(O:Sz k nV)(Z:Sz k nW)(hk:8*k+8<2^38:=by omega):À 210 #[l,p] V λr W=>RQ W r ((((((l_0:Int):Rat))*(nV))+((((l_1:Int):Rat))*(nW)))+(((l_2:Int):Rat))):=by obtain ⟨_,_,_,_,_,_,_,_,_,rfl,_,_,_⟩:=id D;obtain ⟨_,_,_,_,_,_,_,_,_,_,_,_,rfl,_,_⟩:=id E;exact Da V _ sr
theorem sr2 {p:Prop}(h:p:=by repeat' (intro V l;first|exact RQ.le ξ au|refine (wqQ ⟨rfl,RQ.le ξ au,RQ.le ξ au⟩)|(apply aa.s;(with_reducible first|apply dV (k:=137438953471) (m:=137438953471)|apply bE (k:=137438953471) (m:=137438953471)|apply iR (k:=137438953471) (m:=137438953471)|apply kV (k:=2^40)|apply cq (k:=2^40)|apply eE (k:=274877906942)|apply IE (k:=68719476735)|apply fG (k:=130000000000) (m:=70000000000));(any_goals first|with_reducible assumption|exact RQ.le ξ au|exact RD.le ξ au|exact RP.le ξ au|exact RL.le ξ au);(any_goals first|exact sz|decide);intro r W m g;(first|refine RQ.ex g λa h=>?_|refine RP.ex g λa b h i j=>?_)))):p:=h
theorem DG {l_0 l_1 l_2:Int}{p:un}(D:RL V l l_0 l_1 l_2)(E:RP V p nV nW)(F:((((((l_1:Int):Rat)))*((((l_1:Int):Rat))))+(((-(((l_0:Int):Rat))))*((-(((l_0:Int):Rat)))))).num≠0)(M:Sz k ((l_0:Int):Rat))(N:Sz k ((l_1:Int):Rat))(O:Sz k ((l_2:Int):Rat))(Z:Sz k nV)(Hm:Sz k nW)(hk:8*k+7<2^38):À 65 #[l,p] V λr W=>RQ W r ((((nV)*((((l_1:Int):Rat))))+((nW)*((-(((l_0:Int):Rat))))))*((((((l_1:Int):Rat)))*((((l_1:Int):Rat))))+(((-(((l_0:Int):Rat))))*((-(((l_0:Int):Rat))))))⁻¹):=by obtain ⟨_,_,_,_,_,_,_,_,_,rfl,_,_,_⟩:=id D;obtain ⟨_,_,_,_,_,_,_,_,_,_,_,_,rfl,_,_⟩:=id E;exact C8 V _ sr2
theorem uN {l_0 l_1 l_2:Int}(D:RL V l l_0 l_1 l_2)(E:((((((l_1:Int):Rat)))*((((l_1:Int):Rat))))+(((-(((l_0:Int):Rat))))*((-(((l_0:Int):Rat)))))).num≠0){k:Nat}(F:Sz k ((l_0:Int):Rat))(M:Sz k ((l_1:Int):Rat))(N:Sz k ((l_2:Int):Rat))(O:10*k+8<2^38:=by omega):À 123 #[l] V λr W=>RP W r ((-((((l_2:Int):Rat))*((((((l_1:Int):Rat)))*((((l_1:Int):Rat))))+(((-(((l_0:Int):Rat))))*((-(((l_0:Int):Rat))))))⁻¹))*(((l_0:Int):Rat))) ((-((((l_2:Int):Rat))*((((((l_1:Int):Rat)))*((((l_1:Int):Rat))))+(((-(((l_0:Int):Rat))))*((-(((l_0:Int):Rat))))))⁻¹))*(((l_1:Int):Rat))):=by obtain ⟨_,_,_,_,_,_,_,_,_,rfl,_,_,_⟩:=id D;exact En V _ sr2
theorem Lp {l_0 l_1 l_2:Int}{t:un}(E:RL V l l_0 l_1 l_2)(F:RQ V t MC)(D:((((((l_1:Int):Rat)))*((((l_1:Int):Rat))))+(((-(((l_0:Int):Rat))))*((-(((l_0:Int):Rat)))))).num≠0)(M:Sz k ((l_0:Int):Rat))(N:Sz k ((l_1:Int):Rat))(O:Sz k ((l_2:Int):Rat))(Z:Sz k MC)(hk:18*k+16<2^38):À 55 #[l,t] V λr W=>RP W r (((-((((l_2:Int):Rat))*((((((l_1:Int):Rat)))*((((l_1:Int):Rat))))+(((-(((l_0:Int):Rat))))*((-(((l_0:Int):Rat))))))⁻¹))*(((l_0:Int):Rat)))+(MC)*(((l_1:Int):Rat))) (((-((((l_2:Int):Rat))*((((((l_1:Int):Rat)))*((((l_1:Int):Rat))))+(((-(((l_0:Int):Rat))))*((-(((l_0:Int):Rat))))))⁻¹))*(((l_1:Int):Rat)))+(MC)*(-(((l_0:Int):Rat)))):=by obtain ⟨_,_,_,_,_,_,_,_,_,rfl,_,_,_⟩:=id E;obtain ⟨_,_,_,_,_,_,rfl⟩:=F.shape;refine KM V _ λc d=>(uN (k:=27487790692) ra D sz sz sz φ).s λr W m g=>RP.ex g λa b h i j=>?_;exact sr2
theorem RA.shape (h:RA V v q):∃b p n c p' n' c',v=qvK #[Õ b,dB p n c,dB p' n' c']:=by obtain ⟨p,n,c,p',n',c',e,-⟩:=h;exact qxW e
def Uk (V:Ó)(v:Value)(x y:Rat):Prop:=∃b p n c p' n' c' d q m e D E F,v=.agg #[.bool b,.slice p n c,.slice p' n' c',.bool d,.slice q m e,.slice D E F] /\
 RA V (.agg #[.bool b,.slice p n c,.slice p' n' c']) x/\RA V (.agg #[.bool d,.slice q m e,.slice D E F]) y
theorem Uk.le {V V':ut}(h:Uk V v x y)(l:V.Le V'):Uk V' v x y:=by obtain ⟨b,p,n,c,a,f,g,d,q,m,e,i,j,k,rfl,o,r⟩:=h;exact qxZ ⟨rfl,ra,ra⟩
theorem Gh (h:pP V v x y)(s1:Sz k x)(s2:Sz k y)(D:k<=2^40):À 94 #[v] V λr W=>Uk W r x y:=by obtain ⟨a,b,c,d,e,f,rfl,j,l⟩:=h;refine Ef V _ λm n=>(uI ra s1 D).s ?_;rintro r V2 o g;obtain ⟨_,_,_,_,_,_,_,rfl⟩:=g.shape;refine qxW ⟨rfl,λp q=>(uI ra s2 D).s ?_⟩;rintro r s t i;obtain ⟨_,_,_,_,_,_,_,rfl⟩:=i.shape;exact qxW ⟨rfl,λu w=>⟨_,_,_,_,_,_,_,_,_,_,_,_,_,_,rfl,ra,ra⟩⟩
theorem AM {M N:Rat}(h:pP V v x y)(O:pP V w M N)(s1:Sz k x)(s2:Sz k y)(s3:Sz k M)(s4:Sz k N)(Z:2*k<2^40:=by omega):À 39 #[v,w] V λr W=>r=Õ (decide (x=M/\y=N)):=by obtain ⟨a,b,c,d,e,f,rfl,p,q⟩:=h;obtain ⟨i,j,l,m,n,o,rfl,s,t⟩:=O;refine zx V _ λu z=>(ni ra ra s1 s3).s ?_;rintro r V2 A rfl;refine ⟨_,rfl,λg B C=>(ni ra ra s2 s4).s ?_,λg D E=>?_⟩;{have g:=Á g;rintro r F G rfl;exact ⟨_,rfl,λH I=>by simp [g]⟩};{have g:=Â g;simp [g]}
theorem jE (h:RQ V v q)(s:Sz k q)(Z:k<=2^40):À 63 #[v] V λr W=>RA W r q:=by obtain ⟨p,n,c,a,b,d,rfl,e,f⟩:=h;have g:=ag s.1;have i:=ag s.2;refine HK V _ λj l=>(mg ⟨_,_,_,rfl,ra⟩).s ?_;rintro r V2 m ⟨o,t,u,rfl,w⟩;refine qyJ ⟨rfl,λx y=>(dM q _ ra).s ?_⟩;rintro r z A ⟨B,C,D,rfl,E⟩;refine ⟨_,_,_,rfl,λF G=>(yh ra).s ?_⟩;rintro r H I ⟨J,K,L,rfl,M⟩;exact ⟨_,_,_,rfl,λN O=>⟨_,_,_,_,_,_,rfl,ra,ra⟩⟩
theorem IH (h:RP V v x y)(s1:Sz k x)(s2:Sz k y)(F:k<=2^40):À 21 #[v] V λr W=>Uk W r x y:=by obtain ⟨a,b,c,d,e,f,g,i,j,l,m,n,rfl,q,s⟩:=h;refine HU V _ λt u=>(jE ra s1 F).s ?_;rintro r V2 w o;obtain ⟨_,_,_,_,_,_,_,rfl⟩:=o.shape;refine qxW ⟨rfl,λz A=>(jE ra s2 F).s ?_⟩;rintro r B C p;obtain ⟨_,_,_,_,_,_,_,rfl⟩:=p.shape;exact qxW ⟨rfl,λD E=>⟨_,_,_,_,_,_,_,_,_,_,_,_,_,_,rfl,ra,ra⟩⟩
theorem jj (M:RA V v x)(N:RA V w y)(s:Sz k x)(O:k<=2^40):À 116 #[v,w] V λr W=>r=Õ (decide (x=y)):=by obtain ⟨p,n,c,f,i,j,rfl,l,o⟩:=M;obtain ⟨q,m,e,t,u,z,rfl,A,B⟩:=N;have C:=ag s.1;have D:=ag s.2;refine CZ V _ λE a=>(ji (l.le a) (A.le a)).s ?_;rintro r V2 b rfl;refine ⟨_,rfl,λg F d=>(sQ (o.le (a.m (b.m d))) (B.le (a.m (b.m d)))).s ?_,λg G H=>?_⟩;{have g:=Á g;rintro r I J rfl;refine ⟨_,rfl,λK L=>?_⟩;have e:ah x.den=ah y.den↔x=y:=⟨λh=>Rat.ext g (by have:=Æ val h;rwa [af,af] at this),λh=>by rw [h]⟩;rw [show decide (ah x.den=ah y.den)=decide (x=y) from by rw [É];exact e]};{have g:=Â g;rw [È (λh=>g (by rw [h]))]}
theorem DH {Z y':Rat}(h:Uk V v x y)(h':Uk V w Z y')(s1:Sz k x)(s2:Sz k y)(hk:k<=2^40):À 50 #[v,w] V λr W=>r=Õ (decide (x=Z/\y=y')):=by obtain ⟨b,p,n,c,u,z,A,d,q,m,e,B,C,D,rfl,E,F⟩:=h;obtain ⟨G,H,I,J,K,f,i,d1,L,M,N,j,l,o,rfl,O,P⟩:=h';refine C_ V _ λQ a=>(jj (E.le a) (O.le a) s1 hk).s ?_;rintro r V2 s rfl;refine ⟨_,rfl,λg R t=>(jj (F.le (a.m (s.m t))) (P.le (a.m (s.m t))) s2 hk).s ?_,λg S T=>?_⟩;{have g:=Á g;rintro r U W rfl;exact ⟨_,rfl,λX Y=>by simp [g]⟩};{have g:=Â g;simp [g]}
abbrev L3:=Int×Int×Int
variable{a:Int}{x:L3}
def ch (x:L3):Bool:=decide (¬(x.1=0/\x.2.1=0))&&decide (bZ x.1 x.2.1 x.2.2=1)
def Bd (x:L3):Prop:=x.1.natAbs<2^1000/\x.2.1.natAbs<2^1000/\x.2.2.natAbs<2^1000
inductive Tr where
 | leaf (i:Bool)|node (l:L3) (a b:Tr)
 deriving DecidableEq
structure Nd where
 ln:L3
 left:Int
 right:Int
 deriving DecidableEq
def Tr.size:Tr->Nat
 | .leaf _=>0
 | .node _ a b=>a.size+b.size+1
def Tr.qw:Tr->Bool
 | .leaf _=>true
 | .node ..=>false
def Tr.dJ (p:L3->Prop):Tr->Prop
 | .leaf _=>True
 | .node l a b=>p l/\a.dJ p/\b.dJ p
theorem Tr.dJ.imp {p q:L3->Prop}(h:∀x,p x->q x):∀{t:Tr},t.dJ p->t.dJ q
 | .leaf _,_=>trivial
 | .node _ _ _,⟨D,E,F⟩=>⟨h _ D,Tr.dJ.imp h E,Tr.dJ.imp h F⟩
def rt (k:Nat):Tr->Int
 | .leaf i=>if i then -2 else -1
 | .node ..=>(k:Int)
def wr:Nat->Tr->List Nd
 | _,.leaf _=>[]
 | k,.node l a b=>⟨l,rt (k+1) a,rt (k+1+a.size) b⟩::(wr (k+1) a++wr (k+1+a.size) b)
theorem jf:∀(t:Tr)(k:Nat),(wr k t).length=t.size
 | .leaf _,_=>rfl
 | .node _ a b,k=>by simp only [wr,Ą,ë,jf a,jf b,Tr.size]
def Rep (l:List Nd):Int->Tr->List Nat->Prop
 | n,.leaf i,I=>n=(if i then -2 else -1)/\I=[]
 | n,.node ln a b,I=>∃(k:Nat)(x:Nd)(A B:List Nat),n=(k:Int)/\l[k]?=some x/\x.ln=ln/\Rep l x.left a A/\Rep l x.right b B/\I=k::(A++B)
theorem Mo:∀(t:Tr)(l pre post:zA Nd)(k:Nat),l=pre++(wr k t++post)->pre.length=k->Rep l (rt k t) t (List.range' k t.size)
 | .leaf i,l,pre,post,k,_,_=>⟨rfl,rfl⟩
 | .node ln a b,l,pre,post,k,E,D=>by
  refine ⟨k,⟨ln,rt (k+1) a,rt (k+1+a.size) b⟩,List.range' (k+1) a.size,List.range' (k+1+a.size) b.size,rfl,?_,rfl,?_,?_,?_⟩
  ·subst E;simp [D,wr]
  ·refine Mo a l (pre++[⟨ln,rt (k+1) a,rt (k+1+a.size) b⟩]) (wr (k+1+a.size) b++post) (k+1) ?_ (by simp [D])<;>grind [wr]
  ·refine Mo b l (pre++(⟨ln,rt (k+1) a,rt (k+1+a.size) b⟩::wr (k+1) a)) post (k+1+a.size) ?_ (by simp [jf];omega)<;>grind [wr]
  ·simp only [Tr.size];rw [List.range'_succ,<-List.range'_append_1]
structure RS where
 seen:List Bool
 pL:Nat
 bad:Bool
def iW (l:List Nd):Nat->Int->RS->Tr×RS
 | 0,_,s=>(.leaf false,s)
 | f+1,n,s=>
  if n=-2 then (.leaf true,s) else if n=-1 then (.leaf false,s) else if n<0 then (.leaf false,{ s with bad:=true })
  else match l[n.toNat]?,s.seen[n.toNat]? with
   | some x,some false=>
    if ch x.ln then
     let D:=iW l f x.left ⟨s.seen.set n.toNat true,s.pL+1,s.bad⟩
     let E:=iW l f x.right D.2
     (.node x.ln D.1 E.1,E.2)
    else (.leaf false,⟨s.seen.set n.toNat true,s.pL+1,true⟩)
   | _,_=>(.leaf false,{ s with bad:=true })
theorem count_set {l:zA md}{k:Nat}(h:l[k]?=some false):(l.set k true).count false+1=l.count false:=χ
theorem B5 (l:zA Nd):∀(f:Nat)(n:Int)(s:RS),(iW l f n s).2.seen.count false<=s.seen.count false/\(iW l f n s).2.seen.length=s.seen.length
 | 0,_,_=>⟨Ù _,rfl⟩
 | f+1,n,s=>by
  simp only [iW];split
  ·exact ⟨Ù _,rfl⟩
  ·split
   ·exact ⟨Ù _,rfl⟩
   ·split
    ·exact ⟨Ù _,rfl⟩
    ·split
     ·rename_i x E D;have F:=count_set D;split
      ·have ⟨a,b⟩:=B5 l f x.left ⟨s.seen.set n.toNat true,s.pL+1,s.bad⟩;have ⟨c,d⟩:=B5 l f x.right (iW l f x.left ⟨s.seen.set n.toNat true,s.pL+1,s.bad⟩).2;grind
      grind
     grind
theorem G6 (l:zA Nd):∀(f:Nat)(n:Int)(s:RS),(iW l f n s).2.pL+(iW l f n s).2.seen.count false=s.pL+s.seen.count false
 | 0,_,_=>rfl
 | f+1,n,s=>by
  simp only [iW];split
  ·rfl
  ·split
   ·rfl
   ·split
    ·rfl
    ·split
     ·rename_i x E D;have F:=count_set D;split
      ·have a:=G6 l f x.left ⟨s.seen.set n.toNat true,s.pL+1,s.bad⟩;have b:=G6 l f x.right (iW l f x.left ⟨s.seen.set n.toNat true,s.pL+1,s.bad⟩).2;grind
      ·dsimp only;omega
     ·rfl
theorem B6 (l:zA Nd):∀(f:Nat)(n:Int)(s:RS),(iW l f n s).1.size+s.pL<=(iW l f n s).2.pL
 | 0,_,_=>by simp [iW,Tr.size]
 | f+1,n,s=>by
  simp only [iW];split
  ·simp [Tr.size]
  ·split
   ·simp [Tr.size]
   ·split
    ·simp [Tr.size]
    ·split
     ·split
      ·rename_i x D E hok;have F:=B6 l f x.left ⟨s.seen.set n.toNat true,s.pL+1,s.bad⟩;have a:=B6 l f x.right (iW l f x.left ⟨s.seen.set n.toNat true,s.pL+1,s.bad⟩).2;grind [Tr.size]
      ·simp [Tr.size]
     ·simp [Tr.size]
def uh (s:List Bool)(I:List Nat):List Bool:=I.foldl (λs k=>s.set k true) s
theorem Ci:∀(I:zA Nat)(s:zA md)(k:Nat),k∉I->(uh s I)[k]?=s[k]?
 | [],_,_,_=>rfl
 | i::r,s,k,h=>by
  have:=Ci r (s.set i true) k (λa=>h (Ă _ a));grind [uh]
theorem G7 (l:zA Nd):∀(t:Tr)(f:Nat)(n:Int)(s:RS)(I:zA Nat),Rep l n t I->I.Nodup->(∀k∈I,s.seen[k]?=some false)->t.dJ (λx=>ch x=true)->t.size<f->iW l f n s=(t,⟨uh s.seen I,s.pL+t.size,s.bad⟩)
 | .leaf i,f,n,s,I,⟨D,F⟩,_,_,_,E=>by
  subst F;obtain ⟨f,rfl⟩:∃g,f=g+1:=⟨f-1,by simp [Tr.size] at E;omega⟩
  cases i with
  | true=>simp only at D;subst D;simp [iW,uh,Tr.size]
  | false=>
   subst D;simp [iW,uh,Tr.size]
 | .node ln a b,f,n,s,I,⟨k,x,A,B,D,F,M,N,O,Z⟩,hnd,hun,hok,E=>by
  subst D M Z;obtain ⟨f,rfl⟩:∃g,f=g+1:=⟨f-1,by simp [Tr.size] at E;omega⟩;rw [List.nodup_cons,List.nodup_append] at hnd;obtain ⟨p,q,r,d⟩:=hnd;simp only [Tr.size] at E
  have v:=G7 l a f x.left ⟨s.seen.set k true,s.pL+1,s.bad⟩ A N q (λj c=>by
   have:k≠j:=λe=>p (by rw [e];simp [c]);rw [Qm3 this];exact hun j (by simp [c])) hok.2.1 ω
  have w:=G7 l b f x.right ⟨uh (s.seen.set k true) A,s.pL+1+a.size,s.bad⟩ B O r (λj c=>by
   have:k≠j:=λe=>p (by rw [e];simp [c]);rw [Ci A _ j (λh=>d j h j c rfl),Qm3 this];exact hun j (by simp [c])) hok.2.2 ω
  have m:¬((k:Int)=-2):=ω
  have o:¬((k:Int)=-1):=ω
  have u:¬((k:Int)<0):=ω
  have y:iW l (f+1) (k:Int) s=(.node x.ln (iW l f x.left ⟨s.seen.set k true,s.pL+1,s.bad⟩).1 (iW l f x.right (iW l f x.left ⟨s.seen.set k true,s.pL+1,s.bad⟩).2).1,(iW l f x.right (iW l f x.left ⟨s.seen.set k true,s.pL+1,s.bad⟩).2).2):=by
   rw [iW];rw [Ã m,Ã o,Ã u];simp only [Ü,F,(hun k ψ),hok.1,Ï]
  grind [uh,Tr.size]
def Fx (l:List Nd)(root:Int):Option Tr:=
 if 65536<l.length then none else
 let r:=iW l (l.length+1) root ⟨List.replicate l.length false,0,false⟩
 if r.2.bad=true\/r.2.pL≠l.length then none else some r.1
theorem VV {l:zA Nd}{n:Int}{t:Tr}{I:zA Nat}(h:Rep l n t I)(D:I.Nodup)(E:∀k∈I,k<l.length)(F:t.size=l.length)(hok:t.dJ λx=>ch x=true)(M:l.length<=65536):Fx l n=some t:=by unfold Fx;rw [Ã ω];rw [G7 l t (l.length+1) n _ I h D (λk a=>by simp [E k a]) hok ω];simp [F]
theorem L9 {t:Tr}(hok:t.dJ λx=>ch x=true)(D:t.size<=65536:=by omega):Fx (wr 0 t) (rt 0 t)=some t:=by have h:=Mo t (wr 0 t) [] [] 0 ψ rfl;grind [VV,jf]
theorem S4 {l:zA Nd}{n:Int}{t:Tr}(h:Fx l n=some t):t.size<=65536:=by unfold Fx at h;split at h;{cases h};{dsimp only at h;split at h;{cases h};{rename_i a b;cases h;have:=B6 l (l.length+1) n ⟨List.replicate l.length false,0,false⟩;grind}}
theorem Au (a:Addr)(i j:Nat):(a.add i).add j=a.add (i+j):=by grind [Addr.add]
theorem yY {V:ut}{b:Nat}{xs:zA un}{ty:TypeId}{m:Nat×Nat}(h:V.aW b (.cells xs.toArray ty m))(i:Nat){v:un}(D:xs[i]?=some v):∃a,ae (some ⟨b,0,none⟩) i=some a/\V.at a v:=
 ⟨⟨b,i,none⟩,by simp [ae,add_zero'],dD h D⟩
theorem S8 {b c:Int}:DX (decide (a<0)) (ah a.natAbs) (decide (b<0)) (ah b.natAbs) (decide (c<0)) (ah c.natAbs)=ch (a,b,c):=by have d:∀z:Int,pG (decide (z<0)) (ah z.natAbs)=true:=by{intro z;unfold pG;grind [af,bR.1]};have f:fu (fu (a:Rat) (b:Rat)) (c:Rat)=((bZ a b c:Nat):Int):=by{have e:∀x y:Int,fu (x:Rat) (y:Rat)=((Nat.gcd x.natAbs y.natAbs:Nat):Int):=by{intro x y;unfold fu;have g:((x:Rat)).num=x:=rfl;have h:((y:Rat)).num=y:=rfl;have i:((x:Rat)).den=1:=rfl;have j:((y:Rat)).den=1:=rfl;rw [g,h,i,j];simp only [Ĝ];exact Qh1 _};rw [e,e];rfl};unfold DX ch;rw [d,d,d,bf,bf,bf,f];have k:∀z:Int,((z:Rat)=0)↔z=0:=λz=>by{exact Rat.intCast_eq_zero_iff};simp only [Bool.true_and,k];rw [ķ];simp only [Č,Ľ,Bool.and_eq_false_iff,Ò,Ñ];have l:(((bZ a b c:Nat):Int):Rat)=((1:Int):Rat)↔bZ a b c=1:=by{rw [Qg8];omega};grind
theorem Ht {z:Int}{k:Nat}(h:z.natAbs<2^k)(D:0<k:=by omega):Sz k (z:Rat):=⟨h,Qd7 ω⟩
theorem Bd.ah (h:Bd x):(ah x.1.natAbs).length<=1000/\(ah x.2.1.natAbs).length<=1000/\(ah x.2.2.natAbs).length<=1000:=⟨ag h.1,ag h.2.1,ag h.2.2⟩
theorem Bd.sz (h:Bd x):Sz 1000 (x.1:Rat)/\Sz 1000 (x.2.1:Rat)/\Sz 1000 (x.2.2:Rat):=⟨Ht h.1,Ht h.2.1,Ht h.2.2⟩
theorem IA {V:ut}{v:un}(h:RL V v x.1 x.2.1 x.2.2)(D:Bd x):À 223 #[v] V λr W=>∃w,r=æ #[w,Õ (ch x)]/\Uz w/\(ch x=true->xZ W w x.1 x.2.1 x.2.2):=by obtain ⟨p,n,s,f,g,i,q,m,e,rfl,b,c,d⟩:=h;obtain ⟨d1,d2,d3⟩:=D.ah;obtain ⟨s1,s2,s3⟩:=D.sz;have a:=AK (V:=V) (decide (x.1<0)) (decide (x.2.1<0)) (decide (x.2.2<0)) b c d ω ω ω (k:=1000) (by rw [bf];exact s1) (by rw [bf];exact s2) (by rw [bf];exact s3);rw [S8,bf,bf,bf] at a;exact a
theorem WO (x y u w:Int):pz (x:Rat) (y:Rat) ((x:Rat)+((1:Int):Rat)*(u:Rat)) ((y:Rat)+((1:Int):Rat)*(w:Rat))=(((-w:Int):Rat),((u:Int):Rat),((w*x-u*y:Int):Rat)):=by have a:(x:Rat)+((1:Int):Rat)*(u:Rat)=((x+u:Int):Rat):=by{rw [<-Qf2,<-Qs4,Wz4]};have b:(y:Rat)+((1:Int):Rat)*(w:Rat)=((y+w:Int):Rat):=by{rw [<-Qf2,<-Qs4,Wz4]};rw [a,b];have c:-(((y+w:Int):Rat)-(y:Rat))=((-w:Int):Rat):=by{rw [<-Wk9,<-Qs5];congr 1;omega};have d:((x+u:Int):Rat)-(x:Rat)=((u:Int):Rat):=by{rw [<-Wk9];congr 1;omega};have e:-(((-w:Int):Rat)*(x:Rat)+((u:Int):Rat)*(y:Rat))=((w*x-u*y:Int):Rat):=χ;have f:(((((-w:Int):Rat).den*((u:Int):Rat).den*((w*x-u*y:Int):Rat).den:Nat):Int):Rat)=1:=rfl;unfold pz;grind
def BH (a b c:Int):L3:=(a/(bZ a b c:Int),b/(bZ a b c:Int),c/(bZ a b c:Int))
def small (z:Int)(k:Nat):Bool:=decide (z.natAbs<=k)
theorem SA:∀i:Fin 9,∀j:Fin 9,∀k:Fin 65,(i.1=4/\j.1=4)\/(ch (BH ((i.1:Int)-4) ((j.1:Int)-4) ((k.1:Int)-32))&&small (BH ((i.1:Int)-4) ((j.1:Int)-4) ((k.1:Int)-32)).1 32&&small (BH ((i.1:Int)-4) ((j.1:Int)-4) ((k.1:Int)-32)).2.1 32&&small (BH ((i.1:Int)-4) ((j.1:Int)-4) ((k.1:Int)-32)).2.2 32)=true:=κ
theorem Yq (k:Nat)(D:6<=k){z:Int}(h:z.natAbs<=32):z.natAbs<2^k:=ō h (ĺ (by decide:32<2^6) (ĵ φ D))
theorem bd32' (k:Nat)(D:6<=k)(E:x.1.natAbs<=32)(F:x.2.1.natAbs<=32)(M:x.2.2.natAbs<=32):x.1.natAbs<2^k/\x.2.1.natAbs<2^k/\x.2.2.natAbs<2^k:=⟨Yq k D E,Yq k D F,Yq k D M⟩
theorem VK {a b c:Int}(D:-4<=a/\a<=4)(E:-4<=b/\b<=4)(F:-32<=c/\c<=32)(h:¬(a=0/\b=0):=by omega):ch (BH a b c)=true/\Bd (BH a b c):=by have:=SA ⟨(a+4).toNat,ω⟩ ⟨(b+4).toNat,ω⟩ ⟨(c+32).toNat,ω⟩;dsimp only at this;rw [show (((a+4).toNat:Nat):Int)-4=a from by omega,show (((b+4).toNat:Nat):Int)-4=b from by omega,show (((c+32).toNat:Nat):Int)-32=c from by omega] at this;rcases this with d|d;{omega};{simp only [Č,small,Ñ] at d;exact ⟨d.1.1.1,bd32' 1000 φ d.1.1.2 d.1.2 d.2⟩}
theorem SM {x y:Int}(D:-4<=x/\x<=4)(E:-4<=y/\y<=4):-16<=x*y/\x*y<=16:=by have:(x*y).natAbs<=4*4:=by{rw [Ŀ];exact Qg0 ω ω};omega
theorem num_mul {r:Rat}{f:Nat}(D:f≠0)(h:r*((f:Nat):Int)=(a:Rat)):r.num*f=a*r.den:=by rw [<-Qt4 r,<-Qh1 f,<-Qh1 a,Wx1,Wz9 (by simpa using r.den_nz) ω] at h;simpa using h
theorem Bo {r s:Rat}{f:Nat}{b:Int}(D:f≠0)(E:r*((f:Nat):Int)=(a:Rat))(F:s*((f:Nat):Int)=(b:Rat)):fu r s*((f:Nat):Int)=(((Nat.gcd a.natAbs b.natAbs:Nat):Int):Rat):=by have c:r.num.natAbs*f=a.natAbs*r.den:=by{have:=Æ Int.natAbs (num_mul D E);rwa [Ŀ,Ŀ,ģ,ģ] at this};have d:s.num.natAbs*f=b.natAbs*s.den:=by{have:=Æ Int.natAbs (num_mul D F);rwa [Ŀ,Ŀ,ģ,ģ] at this};have e:Nat.gcd (r.num.natAbs*s.den) (s.num.natAbs*r.den)*f=Nat.gcd a.natAbs b.natAbs*(r.den*s.den):=by{rw [<-Nat.gcd_mul_right,<-Nat.gcd_mul_right];congr 1;{rw [Nat.mul_right_comm,c,ń]};{rw [Nat.mul_right_comm,d,ń,Ĺ s.den]}};unfold fu;rw [<-Qh1 ((f:Nat):Int),Wx1,<-Qh1 (((Nat.gcd a.natAbs b.natAbs:Nat):Int)),Wz9 (by simpa using ŏ r.den_nz s.den_nz) ω];have:=Æ (Nat.cast (R:=Int)) e;simpa using this
theorem qH (q:Rat)(m:Nat):q*(((q.den*m:Nat):Int):Rat)=((q.num*m:Int):Rat):=by have e:q*(((q.den:Nat):Int):Rat)=((q.num:Int):Rat):=by{have h:=q.den_nz;have a:mkRat q.num q.den*mkRat ((q.den:Nat):Int) 1=mkRat q.num 1:=by{grind [Rat.mkRat_mul_mkRat,Rat.mkRat_eq_iff]};grind [Rat.mkRat_self,Rat.mkRat_one]};rw [Ŝ,Qf2,<-Rat.mul_assoc,e,<-Qf2]
theorem GM {g:Nat}(D:g≠0)(h:(g:Int)∣a):((a/(g:Int):Int):Rat)=(a:Rat)/((g:Int):Rat):=by obtain ⟨k,rfl⟩:=h;have b:((g:Int):Rat)≠0:=by{exact_mod_cast D};rw [Qg7 _ ω,Qf2,Rat.div_def,Rat.mul_comm ((g:Int):Rat),Rat.mul_assoc,Ŧ _ b,Rat.mul_one]
def BN (a b c:Rat):L3:=
 let f:Nat:=a.den*b.den*c.den
 BH (a*((f:Int):Rat)).num (b*((f:Int):Rat)).num (c*((f:Int):Rat)).num
theorem rR {a b c:Rat}(h:¬(a=0/\b=0)):let g:=fu (fu a b) c
  g≠0/\a*g⁻¹=((BN a b c).1:Rat)/\b*g⁻¹=((BN a b c).2.1:Rat)/\c*g⁻¹=((BN a b c).2.2:Rat):=by intro g;have m:=ŏ (ŏ a.den_nz b.den_nz) c.den_nz;have i:a*(((a.den*b.den*c.den:Nat):Int):Rat)=((a.num*(b.den*c.den:Nat):Int):Rat):=by{rw [ń,qH]};have j:b*(((a.den*b.den*c.den:Nat):Int):Rat)=((b.num*(a.den*c.den:Nat):Int):Rat):=by{rw [Ĺ a.den,ń,qH]};have k:c*(((a.den*b.den*c.den:Nat):Int):Rat)=((c.num*(a.den*b.den:Nat):Int):Rat):=by{rw [Ĺ (a.den*b.den),qH]};have hm:BN a b c=BH (a.num*(b.den*c.den:Nat)) (b.num*(a.den*c.den:Nat)) (c.num*(a.den*b.den:Nat)):=by{unfold BN;dsimp only;rw [i,j,k,Qg9,Qg9,Qg9]};have d:=Bo m (Bo m i j) k;rw [hm];have s:a.num*(b.den*c.den:Nat)=0↔a=0:=by{grind [Int.mul_eq_zero,Rat.num_eq_zero]};have t:b.num*(a.den*c.den:Nat)=0↔b=0:=by{grind [Int.mul_eq_zero,Rat.num_eq_zero]};generalize a.num*(b.den*c.den:Nat)=A at *;generalize b.num*(a.den*c.den:Nat)=B at *;generalize c.num*(a.den*b.den:Nat)=C at *;generalize a.den*b.den*c.den=f at *;have n:Nat.gcd (((Nat.gcd A.natAbs B.natAbs:Nat):Int)).natAbs C.natAbs=bZ A B C:=by{unfold bZ;rw [ģ]};rw [n] at d;change g*((f:Int):Rat)=_ at d;have o:bZ A B C≠0:=by{intro e;have:=Wx0.1 e;grind};have l:((bZ A B C:Int):Rat)≠0:=by{exact_mod_cast o};have p:g≠0:=by{intro e;rw [e,Rat.zero_mul] at d;exact l d.symm};have q:((bZ A B C:Nat):Int)∣A:=Qp1.1 (by rw [ģ];exact Qs3 (ņ _ _) (ņ _ _));have r:((bZ A B C:Nat):Int)∣B:=Qp1.1 (by rw [ģ];exact Qs3 (ņ _ _) (Ţ _ _));have dC:((bZ A B C:Nat):Int)∣C:=Qp1.1 (by rw [ģ];exact Ţ _ _);have key:∀{x:Rat} {X:Int},x*((f:Int):Rat)=(X:Rat)->((bZ A B C:Nat):Int)∣X->x*g⁻¹=((X/(bZ A B C:Int):Int):Rat):=by{grind [GM]};exact ⟨p,key i q,key j r,key k dC⟩
theorem VQ {a b c:Rat}(h:¬(a=0/\b=0)):¬((BN a b c).1=0/\(BN a b c).2.1=0):=by obtain ⟨i,d,e,-⟩:=rR (c:=c) h;rintro ⟨f,g⟩;rw [f] at d;rw [g] at e;grind
end Go.Proofs.Tryz
