import Derived.Test.YtbdlbajodgoneaaGreatDoorS23
import Derived.Test.YtbdlbajodgoneaaGreatDoorS11
set_option linter.all false
open Go.IntKind (i64 u64 u32)
open Go.Value renaming slice→yD,agg→dB,bool→gF,pointer→Õ,int→Ô,tuple→ê
namespace Go.Proofs.Tryz
open Go.Eng Go.Big
section
variable{V:Ó}{c n:Nat}
theorem vY {p:OA}{L:zA (zA (Rat×Rat))}(fill:Int)(h:aZ 1 (OZ gS) V p n L)(hn:L.length<=1000)(hL:∀l∈L,Pg l):À 71 #[yD p n c,Ô .i64 fill] V λr W=>∃p n c q m e,r=dB #[yD p n c,Ô .i64 fill,yD q m e]/\aZ 1 Qt W p n L:=by
 obtain rfl:=h.len
 refine FM V _ ⟨λz V'=>∃(j:Nat)(ls:zA L3),z.2.2.2.1=(j:Int)/\j<=L.length/\z.2.2.2.2.2.2.1=fill/\GR 6 bW V' z.1 z.2.1 z.2.2.1 ls/\ls.length<=6*j/\(∀l∈ls,Bd l)/\GR 1 Qt V' z.2.2.2.2.1 z.2.2.2.2.2.1 z.2.2.2.2.2.2.2.2.2.2 (L.take j),λz=>L.length-z.2.2.2.1.toNat,
  ⟨(0,0,[],0,0,0,fill,none,0,0,[]),σ,0,[],rfl,å _,rfl,GR.nil,ψ,(λl h=>nomatch h),GR.nil⟩,?_⟩
 rintro ⟨Z,z2,vs,z4,B,r2,z7,z8,z9,C,us⟩ V1 D ⟨j,ls,Q,pH,R,v,E,S,t⟩;dsimp only at Q R v t;subst Q R;have zl:=v.len;have rl:=t.len;rw [ì] at rl;dsimp only;rw [ß];refine ⟨rfl,λs=>?_,λs V7 l7 bk F=>?_⟩
 ·have s:=Á s;have A:j<L.length:=ω
  have w:i64.wrap ((j:Int)+1)=((j+1:Nat):Int):=by rw [aq ω];rfl
  rw [w];have ⟨ps,q1,m1,e1,G,g⟩:=H_ (h.le D λ_ _ k=>OZ.s k (λ_ _ k=>gS.le k D) D) A;have k:=hL _ (ò A);have k6:=k.len;refine ⟨ps,Ź,q1,m1,e1,G,λV2 l2=>(J1 ra ω (λx T=>⟨(k.sm x T).1.s ω,(k.sm x T).2.s ω⟩)).s ?_⟩;rintro r V3 l3 ⟨H,I,J,rfl,gp⟩;refine ⟨H,I,J,rfl,ω,t.le,t.cap,rfl,one1,λsp U h1 h2 V4 l4=>(ug ra k).s ?_⟩;rintro r W l5 ⟨q3,m3,e3,rfl,ge⟩
  have r5:GR 1 Qt W (B+1) U (us.take (B*1)++([yD H I J]:zA un)++sp) (L.take (j+1)):=by rw [ĳ,ô A];exact (t.up au).snoc rfl ⟨H,I,J,rfl,ra⟩ φ h1 h2
  obtain rfl:=ge.len;have el:=oq L[j]
  refine ⟨q3,_,e3,rfl,λz V'=>∃(i:Nat)(ms:zA L3),z.2.2.2=(i:Int)/\i<=(nr L[j]).length/\W.Le V'/\GR 6 bW V' z.1 z.2.1 z.2.2.1 ms/\ms.length<=6*j+i/\∀l∈ms,Bd l,λz=>(nr L[j]).length-z.2.2.2.toNat,
   ⟨(Z,z2,vs,0),σ,0,ls,rfl,å _,Ó.Le.refl _,v.up au,E,S⟩,?_⟩
  rintro ⟨X,y2,ws,y4⟩ V6 l6 ⟨i,ms,f4,NF,Y,o,hm,y⟩;dsimp only at f4 o;subst f4;have yl:=o.len;dsimp only;rw [ß];refine ⟨rfl,λf=>?_,λf=>?_⟩
  ·have f:=Á f;have u:i<(nr L[j]).length:=ω;have w':i64.wrap ((i:Int)+1)=((i+1:Nat):Int):=by{rw [aq ω];rfl};rw [w'];obtain ⟨K,b1,p1,n1,c1,b2,p2,n2,c2,b3,p3,n3,c3,b,s1,s2,s3,s4,s5,s6,d,t1,t2,t3,t4,t5,t6,a,ha,a0,a1,a2,a3,a4,a5,a6,a7,a8,a9,ME,MF,M,MT,gl,-⟩:=Ia ra u;refine ⟨K,Ź,b1,p1,n1,c1,b2,p2,n2,c2,b3,p3,n3,c3,b,s1,s2,s3,s4,s5,s6,d,t1,t2,t3,t4,t5,t6,_,_,a,ha,a0,a1,a2,a3,a4,a5,a6,a7,a8,a9,ME,MF,M,MT,ω,o.le,o.cap,rfl,RG,λb0 N h3 h4=>⟨(X+1,N,_,((i+1:Nat):Int)),ω,σ,i+1,ms++[(nr L[j])[i].1],rfl,u,Y,o.snoc rfl gl φ h3 h4,by simp;omega,λl O=>(ü.1 O).elim (y l) λO=>by rw [ú.1 O];exact (k.Y7 _ (ò u)).bd⟩⟩
  ·have f:=Â f;exact ⟨(X,y2,ws,((j+1:Nat):Int),B+1,U,z7,z8,z9,C,_),ω,σ,j+1,ms,rfl,A,rfl,o,ω,y,r5.up Y⟩
 ·have s:=Â s;obtain rfl:j=L.length:=ω;rw [Ė] at t;obtain rfl:=v.len;refine (mM (aZ.bo F (v.row.le λ_ _ g=>bW.le g l7) φ v.le) ω S).s ?_;rintro r V8 l8 ⟨q,m,e,rfl,-⟩;obtain rfl:=t.len;exact ⟨q,m,e,rfl,λ_ V9 l9 SY P=>⟨_,_,_,_,_,_,rfl,aZ.bo P (t.row.le λ_ _ g=>Qt.le g au) φ t.le⟩⟩
theorem GR.app {α:Type}{sz:Nat}{R:ut->un->α->Prop}{vs:zA un}{l:zA α}(h:GR sz R V n c vs l){xs:zA un}{ms:zA α}(z:é sz R V xs ms)(D:xs.length=ms.length*sz)(E:0<sz){sp:zA un}{u:Nat}(F:n+ms.length<=u)(y:u*sz<=(n+ms.length)*sz+sp.length):GR sz R V (n+ms.length) u (vs.take (n*sz)++xs++sp) (l++ms):=by have a:=h.len;have b:=h.cap;have d:n*sz<=c*sz:=ć _ h.le;refine ⟨by rw [ï,a],F,?_,?_⟩;{have ht:(vs.take (n*sz)).length=n*sz:=by{rw [ì];omega};rw [ï,ï,ht,D];rw [ĕ] at y;exact y};rw [a];exact eM h.row z E
theorem GW {m:L3}{fs:zA (L3×Sp)}{q:L3->Prop}(h:∀f∈fs,q f.1):∀u∈mi m fs,q u.1:=λu hu=>by
 have ⟨f,b,a⟩:=ė.1 hu;unfold Ď at a;split at a
 ·rw [ú.1 a];exact h f b
 ·cases a
theorem C_ {m:L3}{fs:zA (L3×Sp)}{j:Nat}(u:j<fs.length):mi m (fs.take (j+1))=mi m (fs.take j)++Ď fs[j].1 fs[j].2 m:=by unfold mi;rw [ĳ,ô u];show List.flatMap _ (_++[fs[j]])=_;rw [Qn5,Ę,Ww3,ý]
theorem IF {xs:zA un}{l:zA (L3×Sp)}(h:é 14 m_ V xs l)(u:xs.length=l.length*14):∀v∈xs,v.oneCell'=true:=λv a=>by
 have ⟨m,hm,e⟩:=Qb8.1 a;exact fy h φ (λ_ _=>IE) (m:=m) ω (by rw [<-e];exact ô hm)
theorem J4 {q:L3->Prop}:∀(k:Nat) {fs:zA (L3×Sp)} {c:zA L3} {L:zA (zA (Rat×Rat))} {V:ut} {lp cp r0p r2p:OA} {ln lc cn cc r0n r0c r2n r2c:Nat} {fill:Int},fs.length<=k->aZ 14 m_ V lp ln fs->(∀f∈fs,YP f)->(∀f∈fs,q f.1)->aZ 6 bW V cp cn c->(∀m∈c,kh m)->c.length+k<=980->aZ 1 Qt V r0p r0n L->Pgs L ->À 137 #[dB #[yD r0p r0n r0c,Ô .i64 fill,yD r2p r2n r2c],yD lp ln lc,yD cp cn cc] V λr W=>∃o t,r=Õ o/\RW W o t/\t.dU q/\t.depth<=k:=by
 intro k
 induction k using Nat.strongRecOn with
 | ind k ih=>
  intro fs c L V lp cp r0p r2p ln lc cn cc r0n r0c r2n r2c fill hk hf Z hq hc kc f5 hL hP;obtain rfl:=hf.len;obtain rfl:=hc.len;have hC:∀{W:ut},V.Le W->aZ 6 bW W cp c.length c:=λg=>hc.le g;have hR:∀{W:ut},V.Le W->aZ 1 Qt W r0p r0n L:=λg=>hL.le g;refine Jn V _ ⟨λh0 V1 l1=>(ue (hC l1) (λm h=>(kc m h).2) (λm h=>(kc m h).1)).s ?_,λh0=>?_⟩
  ·rintro r V2 l2 ⟨u,p,rfl,g,s1,s2⟩;have g0:ct V2 u p:=g;obtain ⟨_,_,_,_,_,_,_,_,_,_,_,_,_,_,rfl⟩:=g0.shape;refine wwQ ⟨rfl,λV3 l3=>(Nh (hR au) hP ra ⟨s1.s ω,s2.s ω⟩).s ?_⟩;rintro r V4 l4 ⟨b,rfl⟩;refine ⟨b,rfl,λV5 l5=>(cT b).s ?_⟩;rintro r V6 l6 ⟨o,rfl,g⟩;exact ⟨o,rfl,λV7 l7=>⟨o,_,rfl,g.le l7,trivial,å _⟩⟩
  have A:0<fs.length:=by have:=Â h0;omega
  obtain ⟨f0,e,rfl⟩:∃f0 e,fs=f0::e:=by cases fs with
   | nil=>simp at A
   | cons f r=>exact ⟨f,r,rfl⟩
  have C:=Z f0 (ď ..);obtain ⟨ps,b1,p1,n1,c1,b2,p2,n2,c2,b3,p3,n3,c3,_,_,_,_,_,_,_,_,_,_,_,_,_,_,a,ha,a0,a1,a2,a3,a4,a5,_,_,_,_,_,_,_,_,G,-⟩:=Ia hf A;have G:bW V (dB #[gF b1,yD p1 n1 c1,gF b2,yD p2 n2 c2,gF b3,yD p3 n3 c3]) f0.1:=G;have ea:=ha;have az:a.add 0=a:=by simp [Addr.add]
  have i:kh f0.1:=⟨C.ok,C.bd⟩;refine ⟨ps,Ź,by rw [ea];rfl,b1,p1,n1,c1,b2,p2,n2,c2,b3,p3,n3,c3,a,by rw [ea];show some (a.add 0)=_;rw [az],a0,a1,a2,a3,a4,a5,?_⟩;refine (pE (λj z V'=>GR 14 m_ V' z.1 z.2.1 z.2.2.1 (mi f0.1 ((f0::e).take j))/\GR 14 m_ V' z.2.2.2.1 z.2.2.2.2.1 z.2.2.2.2.2.1 (mi (Ö f0.1) ((f0::e).take j))) (0,0,[],0,0,[],0) σ rfl ⟨GR.nil,GR.nil⟩ ?_);rintro j ⟨z1,z2,vs,y1,y2,us,z4⟩ V8 l8 e4 pH ⟨n,v⟩;dsimp only at e4 n v;subst e4;have zl:=n.len;have yl:=v.len;have H:∀m:L3,(mi m ((f0::e).take j)).length<=(f0::e).length:=λm=>Ā (tG _ _) (by rw [ì];omega);have f6:=H f0.1;have f7:=H (Ö f0.1);dsimp only;rw [ß];refine ⟨λD=>?_,λD=>?_⟩
  ·have I:=D;have w:i64.wrap ((j:Int)+1)=((j+1:Nat):Int):=by{rw [aq ω];rfl};rw [w];have E:=Z _ (ò I);obtain ⟨a6,d1,q1,m1,e1,d2,q2,m2,e2,d3,q3,m3,e3,d,s1,s2,s3,s4,s5,s6,t0,t1,t2,t3,t4,t5,t6,a',a7,a8,a9,b0,b4,b5,b6,b7,b8,b9,c0,J,K,M,N,c6,c8⟩:=Ia ra I;refine ⟨a6,Ź,d1,q1,m1,e1,d2,q2,m2,e2,d3,q3,m3,e3,d,s1,s2,s3,s4,s5,s6,t0,t1,t2,t3,t4,t5,t6,_,_,a',a7,a8,a9,b0,b4,b5,b6,b7,b8,b9,c0,J,K,M,N,λV9 l9=>(EI (l:=(f0::e)[j].1) (s:=(f0::e)[j].2) ⟨_,_,_,_,_,_,_,_,_,_,_,_,_,_,_,_,_,_,_,_,_,_,_,_,_,_,rfl,bW.le c6 l9,oO.le c8 l9⟩ (bW.le G au) (eI E.ok) E.bd i.2 E.gd.1 ⟨E.sz.1.s ω,E.sz.2.s ω⟩).s ?_⟩;rintro r eV c9 ⟨p4,n4,c4,p5,n5,c5,rfl,k1,k2⟩;rw [spl_side E.gd] at k1 k2;obtain rfl:=k1.len;obtain rfl:=k2.len;have ⟨xs,x1,y,O⟩:=cQ k1 φ;have ⟨ws,w1,F,w3⟩:=cQ k2 φ;have o1:=yQ (f0::e)[j].1 (f0::e)[j].2 f0.1;have o2:=yQ (f0::e)[j].1 (f0::e)[j].2 (Ö f0.1);have uW:=l9.m c9;refine ⟨p4,_,c4,p5,_,c5,rfl,xs,x1,y,ω,n.le,n.cap,y,IF O y,λsp c' u1 u2=>⟨ws,w1,F,ω,v.le,v.cap,F,IF w3 F,λsp' d0 u3 u4=>⟨(z1+_,c',_,y1+_,d0,_,((j+1:Nat):Int)),ω,σ,j+1,rfl,I,?_,?_⟩⟩⟩;{rw [C_ I];exact (n.up uW).app O y φ u1 u2};rw [C_ I];exact (v.up uW).app w3 F φ u3 u4
  subst D;rw [Ė] at n v;have ⟨f1,f2⟩:=NW (f:=f0) (fs:=e) (eI C.ok);have sm:(mi f0.1 (f0::e)).length<k/\(mi (Ö f0.1) (f0::e)).length<k:=by simp only [Ĉ] at hk;omega
  obtain ⟨k',rfl⟩:∃k',k=k'+1:=⟨k-1,ω⟩;have ⟨xs,x1,y,O⟩:=cQ (hC l8) φ;have ln:∀m:L3,(c++[m]).length=(0+c.length)+1:=λm=>by rw [ï];simp
  have P:∀m,kh m->∀x∈c++[m],kh x:=λm hm x hx=>(ü.1 hx).elim (kc x) λh=>by rw [ú.1 h];exact hm
  refine ⟨xs,x1,y,ω,Ú _,ψ,y,wV O y,λSn J5 d4 c3 u1 u2=>⟨ω,u1,by simp;omega,rfl,RG,λQz J9 d5 c7 u3 u4 eW cU WE e9 d6 d7=>?_⟩⟩;have L1:=aZ.eY d7 (rU (V:=eW) (ys:=[_,_,_,_,_,_]) (sp:=d4) (sp':=d5) rfl (O.le λ_ _ g=>bW.le g cU) y rfl ra);rw [ln] at L1;obtain rfl:=n.len;refine (ih k' ω ω (aZ.bo d6 (n.row.le λ_ _ g=>m_.le g cU) φ n.le) (K5 Z i.2) (GW hq) L1 (P _ i) (by rw [ln];omega) (hR au) hP).s ?_;rintro r gC dI ⟨o1,t1,rfl,w1,d8,f8⟩;have B:=cU.m dI;obtain ⟨d9,e0,Wr,Q⟩:=cQ (hC (l8.m B)) φ;refine ⟨o1,rfl,d9,e0,Wr,ω,Ú _,ψ,Wr,wV Q Wr,λf3 f9 R g3 e5 g4 iI dS=>(iC (bW.le G au)).s ?_⟩;rintro r kK fH gr;have Jt:bW kK r (Ö f0.1):=gr;obtain ⟨_,_,_,_,_,_,_,_,_,_,_,_,rfl⟩:=br Jt;refine qxJ ⟨rfl,ω,e5,by simp;omega,rfl,RG,λf4 g5 S g6 g7 g8 ke fB e6 e7 T U=>?_⟩;have Zo:=dS.m (fH.m fB);have X:=B.m Zo;have Y:=aZ.eY U (rU (V:=ke) (ys:=[_,_,_,_,_,_]) (sp:=R) (sp':=S) rfl (Q.le λ_ _ g=>bW.le g Zo) Wr rfl ra);rw [ln] at Y;obtain rfl:=v.len;refine (ih k' ω ω (aZ.bo T (v.row.le λ_ _ g=>m_.le g X) φ v.le) (K5 Z i.2.rev) (GW hq) Y (P _ (mU i)) (by rw [ln];omega) (hR au) hP).s ?_;rintro r kf e_ ⟨o2,t2,rfl,F,e8,g9⟩;refine ⟨o2,rfl,λlu gX bk hb=>⟨_,.node f0.1 t1 t2,rfl,P8 hb (bW.le G au) (w1.le au) (F.le gX),⟨hq _ (ď ..),d8,e8⟩,by simp only [Tr.depth];omega⟩⟩
theorem yi {p:OA}{fs:zA (L3×Sp)}(h:aZ 14 m_ V p n fs)(hn:fs.length<=10000)(hs:∀f∈fs,cq f.1=true/\iL 1000000 f.1/\f.2.sz 1000000)(he:∀x∈fs.flatMap kF,Sz 100000000 x.1/\Sz 100000000 x.2):À 8 #[yD p n c] V λr W=>∃q m e,r=yD q m e/\aZ 6 ct W q m (jU (fs.flatMap kF)):=by obtain rfl:=h.len;refine xI V _ (pE (λj z V'=>GR 6 ct V' z.1 z.2.1 z.2.2.1 ((fs.take j).flatMap kF)) (0,0,[],0) σ rfl GR.nil ?_);rintro j ⟨Q,z2,vs,z4⟩ V1 R M pH a;dsimp only at M a;subst M;have zl:=a.len;have el:=tm (fs.take j);rw [ì] at el;refine ⟨λb=>?_,λb V4 S bk T=>?_⟩;{have d:=b;have w:i64.wrap ((j:Int)+1)=((j+1:Nat):Int):=by{rw [aq ω];rfl};dsimp only;rw [ß,w];obtain ⟨is,U,W,X,Y,Z,fp,fn,fe,gb,gp,gn,gc,o,t,u,y,A,B,C,D,E,Zf,F,G,Xx,H,ad,ha,a0,a1,a2,a3,a4,a5,a6,a7,a8,a9,ME,MF,I,MT,J,K⟩:=H9 (h.le R) d;have ⟨ok,s1,s2⟩:=hs _ (ò d);refine ⟨is,Ź,U,W,X,Y,Z,fp,fn,fe,gb,gp,gn,gc,o,t,u,y,A,B,C,D,E,Zf,F,G,Xx,H,_,_,ad,ha,a0,a1,a2,a3,a4,a5,a6,a7,a8,a9,ME,MF,I,MT,λV2 N=>(HI (l:=fs[j].1) (s:=fs[j].2) ⟨_,_,_,_,_,_,_,_,_,_,_,_,_,_,_,_,_,_,_,_,_,_,_,_,_,_,rfl,bW.le J N,oO.le K N⟩ (eI ok) s1 s2).s ?_⟩;rintro r V3 l3 ⟨O,m2,e2,rfl,i⟩;have i:aZ 6 ct V3 O m2 (kF fs[j]):=by{have e:TF fs[j].1 fs[j].2=kF fs[j]:=rfl;rw [<-e];exact i};obtain rfl:=i.len;have step:(fs.take (j+1)).flatMap kF=(fs.take j).flatMap kF++kF fs[j]:=by{rw [<-Ŏ d,Qn5];simp};have L:=tm (fs.take (j+1));rw [step,ï,ì] at L;have ⟨xs,x1,k,P⟩:=cQ i φ;refine ⟨O,_,e2,rfl,xs,x1,k,ω,a.le,a.cap,k,λv hv=>?_,λsp c' h1 h2=>⟨(Q+_,c',_,((j+1:Nat):Int)),ω,σ,j+1,rfl,d,?_⟩⟩;{have ⟨m,hm,e⟩:=Qc3 hv;exact fy P φ (λ_ _=>IH) (k▸hm) (by rw [ô hm,e])};rw [step];exact (a.up au).app P k φ h1 h2};subst b;rw [Ė] at a;obtain rfl:=a.len;refine (qY (aZ.bo T (a.row.le λ_ _ g=>ct.le g S) φ a.le) ω he).s ?_;rintro r V5 l5 ⟨q,m,e,rfl,g⟩;exact ⟨q,m,e,rfl,λ_ V6 l6=>⟨q,m,e,rfl,g.le l6⟩⟩
def wE (v:Rat×Rat):List (Rat×Rat)->List (Rat×Rat)
 | []=>[v]
 | y::r=>if ax.fg y v<0 then y::wE v r else v::y::r
theorem Pq {v:Rat×Rat}:∀(o:zA (Rat×Rat))(k:Nat),k<=o.length->(∀j (h:j<o.length),j<k->ax.fg o[j] v<0)->(∀h:k<o.length,¬ax.fg o[k] v<0)->wE v o=o.take k++v::o.drop k
 | [],k,h,_,_=>by simp [wE]
 | y::r,0,_,_,h=>Ã (h (Wq6 _))
 | y::r,k+1,h,u,z=>by
  have e:wE v (y::r)=y::wE v r:=Ä (u 0 (Wq6 _) (Wq6 _));rw [e,Pq r k (by simpa using h) (λj h a=>u (j+1) (by simpa using h) ω) λh=>z (by simpa using h)];rfl
theorem qk {lp:OA}{ln lc:Nat}{O:zA (Rat×Rat)}(h:aZ 6 ct V lp ln O)(hc:ln<=lc)(hn:O.length<=1000000){w:un}{v:Rat×Rat}(hv:ct V w v){k:Nat}(hO:∀q∈O,Sz k q.1/\Sz k q.2)(sv:Sz k v.1/\Sz k v.2)(hk:4*k+4<2^38:=by omega):À 53 #[yD lp ln lc,w] V λr W=>∃q m e,r=yD q m e/\m<=e/\aZ 6 ct W q m (wE v O):=by obtain rfl:=h.len;have d:=hv;obtain ⟨_,_,_,_,_,_,_,_,_,_,_,_,_,_,rfl⟩:=hv.shape;refine zg V _ ⟨λz _=>∃j:Nat,z=(j:Int)/\j<=O.length/\∀(i:Nat)(h:i<O.length),i<j->ax.fg O[i] v<0,λz=>O.length-z.toNat,⟨0,σ,0,rfl,å _,λi _ h=>Å h (Œ i)⟩,?_⟩;rintro _ U x ⟨j,rfl,s,t⟩;rw [ß];refine ⟨rfl,λz _=>z=true↔∃h:j<O.length,ax.fg O[j] v<0,⟨λc=>?_,λc=>⟨false,σ,?_⟩⟩,?_⟩;{have c:(j:Int)<O.length:=Á c;have f:j<O.length:=ω;refine ldP ct.shape (h.le x) f λW X Y Z p2 n2 c2 b2 p3 n3 c3 p4 n4 c4 g=>?_;have ⟨s1,s2⟩:=hO _ (ò f);refine λV2 y=>(t_ (a:=O[j]) (b:=v) (RP.le g y) (RP.le d au) s1 s2 sv.1 sv.2 hk).s ?_;rintro r V3 l3 rfl;exact ⟨_,rfl,_,σ,by dsimp only;rw [Ñ];exact ⟨λh=>⟨f,h⟩,λ⟨_,h⟩=>h⟩⟩};{have c:¬(j:Int)<O.length:=Â c;exact ⟨π,λ⟨h,_⟩=>Å h ω⟩};rintro z A l4 l;refine ⟨rfl,λo=>?_,λo=>?_⟩;{have ⟨f,B⟩:=l.1 o;have w:i64.wrap ((j:Int)+1)=((j+1:Nat):Int):=by{rw [aq ω];rfl};(refine ⟨((j+1:Nat):Int),by (try dsimp only);omega,by and_intros<;>first|rfl|exact w,j+1,rfl,f,λi h hi=>?_⟩);by_cases e:i=j;{subst e;exact B};exact t i h ω};have n:=Pq O j s t λh C=>by{have:=l.2 ⟨h,C⟩;rw [o] at this;cases this};obtain ⟨xs,D,E,u,F,G,H,I,J,K,L,M,N⟩:=Pu (V:=A) (h.le au) hc φ (λ_ _=>IH) (es:=[_,_,_,_,_,_]) rfl (ct.le d au) (j:=j) s;refine ⟨Ź,Ź,Ź,xs,E,u,ω,Ú _,Ú 6,u,F,λP J2 sp c' h1 h2=>?_⟩;show ∃_,_;rw [J,K];refine ⟨D,G,H,Ú _,I,ω,ω,L,M,λp Q R h4 V5 S bk T=>⟨_,_,_,rfl,R,?_⟩⟩;rw [n];have g:=aZ.eY T ((N p).le λ_ _ g=>ct.le g S);rw [show (O.take j++v::O.drop j).length=j+(1+(O.length-j)) by rw [ï,ì,Ĉ,į];omega] at g;exact g
def KN (p:Rat×Rat)(f:L3×Sp):Bool:=tQ f.1 f.2 p.1 p.2&&(f.2.b||!decide (cu f.1 f.2.hi=p.1/\cw f.1 f.2.hi=p.2))
def J_ (p:Rat×Rat)(f:L3×Sp):Bool:=tQ f.1 f.2 p.1 p.2&&(f.2.a||!decide (cu f.1 f.2.lo=p.1/\cw f.1 f.2.lo=p.2))
def GP (p:Rat×Rat)(F:List (L3×Sp)):List (Rat×Rat):=(F.filter (KN p)).map λf=>eN (ax.bj f.1)
def Gk (p:Rat×Rat)(F:List (L3×Sp)):List (Rat×Rat):=(F.filter (J_ p)).map λf=>NQ (eN (ax.bj f.1))
theorem tD {p:Rat×Rat}{F:zA (L3×Sp)}{f:L3×Sp}:GP p (F++[f])=GP p F++if KN p f=true then [eN (ax.bj f.1)] else []:=by unfold GP;congr 1;cases h:KN p f<;>simp [h]
theorem s_ {p:Rat×Rat}{F:zA (L3×Sp)}{f:L3×Sp}:Gk p (F++[f])=Gk p F++if J_ p f=true then [NQ (eN (ax.bj f.1))] else []:=by unfold Gk;congr 1;cases h:J_ p f<;>simp [h]
theorem NI {p:Rat×Rat}{F:zA (L3×Sp)}:(GP p F).length<=F.length:=by unfold GP;rw [Č];exact Qd8 ..
theorem Nj {p:Rat×Rat}{F:zA (L3×Sp)}:(Gk p F).length<=F.length:=by unfold Gk;rw [Č];exact Qd8 ..
theorem SP {l:L3}(n:Nz l){p:Rat×Rat}(u:aG l p.1 p.2=0){q:Rat}:(cu l q=p.1/\cw l q=p.2)↔q=er l p.1 p.2:=by constructor;{rintro ⟨e,a⟩;rw [<-e,<-a];exact (uE n q).2.symm};rintro rfl;exact Ip n u
theorem Ib {p:Rat×Rat}{f:L3×Sp}(n:Nz f.1):KN p f=true↔lvF p f:=by unfold KN lvF tQ;by_cases a:aG f.1 p.1 p.2=0;{simp only [Đ,Bg,SP n a];grind};simp [a]
theorem HN {p:Rat×Rat}{f:L3×Sp}(n:Nz f.1):J_ p f=true↔cmF p f:=by unfold J_ cmF tQ;by_cases a:aG f.1 p.1 p.2=0;{simp only [Đ,Bg,SP n a];grind};simp [a]
section
variable{t:Tr}(ht:∀k ∈ t.cJ,cq k=true){p:Rat × Rat}{m:List (Rat × Rat)}
include ht
theorem Qr {f:L3×Sp}(u:f∈â (iT t (aK t.cJ))):cq f.1=true:=((mem_F ht (m:=f.1) (s:=f.2)).1 u).1
end
end
section
def K4 {m l:L3}(u:cq m=true)(ol:cq l=true){p:Rat×Rat}(hm:aG m p.1 p.2=0)(y:aG l p.1 p.2=0)(h:ax.fg (ax.bj m) (ax.bj l)=0):m=l:=by have c:=(ax.iN.1 h).2;obtain ⟨t,-,-,ht⟩:=pick [Ø m l] 0 1 χ;have ⟨a,b⟩:=Ip (eI ol) y;rcases Bo u ol (t:=t) (by simpa using ht) with g|g|g;{exact g};{rw [g,Kn] at h;exact Å (vJ h) (WC (yu ol))};refine Å ?_ g;have hm:aG m (cu l (er l p.1 p.2)) (cw l (er l p.1 p.2))=0:=by{rw [a,b];exact hm};rw [jE] at hm ⊢;have:Û m l=0:=by{unfold ax.cr ax.bj at c;unfold Û;grind};grind
def K_ {u:Rat×Rat}(h:ax.nz u):ax.fg (eN u) u=0:=by have ⟨c,a,e⟩:=La h;exact O1 h a e
def mF (l:List (Rat×Rat)):List (Rat×Rat):=l.foldl (λo x=>wE x o) []
def GL (l:zA (Rat×Rat))(x:Rat×Rat):mF (l++[x])=wE x (mF l):=by simp [mF]
def yE (v:Rat×Rat):∀o:zA (Rat×Rat),(wE v o).Perm (v::o)
 | []=>.refl _
 | y::r=>by
  unfold wE;split
  ·exact ((yE v r).cons y).m (.swap ..)
  ·exact .refl _
def KA {v:Rat×Rat}:∀{o:zA (Rat×Rat)},o.Pairwise (λx y=>¬ax.fg y x<0)->(wE v o).Pairwise λx y=>¬ax.fg y x<0
 | [],_=>Qd0 _ _
 | y::r,h=>by
  have ⟨u,z⟩:=ģ.1 h;unfold wE;split
  ·rename_i e;refine ģ.2 ⟨λx a=>?_,KA z⟩;rcases í.1 ((yE v r).mem_iff.1 a) with rfl|a
   ·exact ax.Hp _ _ e
   ·exact u x a
  ·rename_i e;refine ģ.2 ⟨λx a=>?_,h⟩;rcases í.1 a with rfl|a
   ·exact e
   ·exact ax.BG _ _ _ (u x a) e
def gK (l:zA (Rat×Rat)):(mF l).Perm l/\(mF l).Pairwise λx y=>¬ax.fg y x<0:=by
 have:∀(l o:zA (Rat×Rat)),o.Pairwise (λx y=>¬ax.fg y x<0)->(l.foldl (λo x=>wE x o) o).Perm (l++o)/\(l.foldl (λo x=>wE x o) o).Pairwise λx y=>¬ax.fg y x<0:=by
  intro l
  induction l with
  | nil=>exact λo h=>⟨.refl _,h⟩
  | cons x r u=>
   intro o h;have ⟨a,b⟩:=u _ (KA (v:=x) h);exact ⟨a.m (((yE x o).append_left r).m List.perm_middle),b⟩
 have:=this l [] .nil
 rwa [ý] at this
def LB {m l:zA (Rat×Rat)}(pm:m.Perm l)(z:m.Pairwise λx y=>¬ax.fg y x<0)(ne:l.Pairwise λx y=>ax.fg x y≠0):gI eP m=mF l:=by
 have ne:∀{o:zA (Rat×Rat)},o.Perm l->o.Pairwise (λx y=>¬ax.fg y x<0)->o.Pairwise λx y=>ax.fg x y<0:=λh g=>
  (((h.pairwise_iff λ{x y} h e=>h (vJ e)).2 ne).and g).imp λ{x y} h=>by rcases ax.Hq x y with e|e|e;{exact e};{exact Å e h.1};exact Å e h.2
 have ⟨f,k⟩:=gK l;have ⟨p,u⟩:=ax.Tp z;have v:∀{x:Rat×Rat},¬ax.fg x x<0:=λ{x} h=>by have:=ax.vI x;omega
 have q:∀{l:zA (Rat×Rat)},l.Pairwise (λx y=>ax.fg x y<0)->l.Nodup:=λh=>h.imp λh e=>by subst e;exact v h
 have r:=ne pm z
 have same:∀{x y:Rat×Rat},x∈m->y∈m->ax.fg y x=0->y=x:=λ{x y} c d e=>Qj5 λn=>by obtain ⟨i,s,rfl⟩:=Qc3 c;obtain ⟨j,t,rfl⟩:=Qc3 d;rcases Nat.lt_trichotomy i j with g|g|g;{have:=Qv6.1 r i j s t g;rw [vJ e] at this;omega};{subst g;exact n rfl};{have:=Qv6.1 r j i t s g;omega}
 refine List.Perm.eq_of_pairwise (le:=λx y=>ax.fg x y<0) (λa b _ _ h g=>Å g (ax.Hp _ _ h)) p (ne f k) ((List.perm_ext_iff_of_nodup (q p) (q (ne f k))).2 λx=>?_);rw [f.mem_iff,<-pm.mem_iff];refine ⟨Kb x,λc=>?_⟩;have ⟨y,d,e⟩:=u x c;rw [<-same c (Kb y d) e];exact d
section
variable{t:Tr}(ht:∀k ∈ t.cJ,cq k=true){p:Rat × Rat}
include ht
theorem F_pw:(â (iT t (aK t.cJ))).Pairwise λf g=>f.1=g.1->f.2.MG g.2:=by refine List.pairwise_flatMap.2 ⟨λm _=>?_,(bZ _).1.imp λ{a b} h x c y d e=>?_⟩;{rw [Wz7];refine (comb_reg 1 _ _).2.imp ?_;exact λh _=>h};obtain ⟨s,-,rfl⟩:=ÿ.1 c;obtain ⟨u,-,rfl⟩:=ÿ.1 d;dsimp only at e;subst e;exact Å h wL
theorem lv_pw:(GP p (â (iT t (aK t.cJ)))).Pairwise λx y=>ax.fg x y≠0:=by unfold GP;rw [Wz7,List.pairwise_filter];refine (F_pw ht).imp_of_mem λ{f g} j k h a b e=>?_;have of:=Qr ht j;have c:=Qr ht k;obtain ⟨l,q,d⟩:=(Ib (eI of)).1 a;obtain ⟨m,i,r⟩:=(Ib (eI c)).1 b;have e:=K4 of c l m (ax.vK (ax.vK (vJ (K_ (yu of))) e) (K_ (yu c)));have ⟨n,o,s⟩:=h e;rw [e] at d;rw [n] at d;rw [o] at i;simp only [ő,false_or] at d i;grind
theorem cm_pw:(Gk p (â (iT t (aK t.cJ)))).Pairwise λx y=>ax.fg x y≠0:=by unfold Gk;rw [Wz7,List.pairwise_filter];refine (F_pw ht).imp_of_mem λ{f g} n o h a b e=>?_;have of:=Qr ht n;have d:=Qr ht o;obtain ⟨q,w,i⟩:=(HN (eI of)).1 a;obtain ⟨r,j,z⟩:=(HN (eI d)).1 b;have k:∀{m:L3},cq m=true->ax.fg (NQ (eN (ax.bj m))) (ax.bj (Ö m))=0:=λ{m} l=>by{have ⟨c,s,e⟩:=La (yu l);exact O1 (yu (Bp l)) s (by rw [e,Kn];unfold NQ;grind)};have e:=K4 (Bp of) (Bp d) (p:=p) (by rw [val_rev,q];rfl) (by rw [val_rev,r];rfl) (ax.vK (ax.vK (vJ (k of)) e) (k d));have e:f.1=g.1:=by{rw [<-rev_rev f.1,e,rev_rev]};have ⟨u,v,A⟩:=h e;rw [e] at i;rw [u] at i;rw [v] at j;simp only [ő,false_or] at i j;grind
end
end
section
variable{V:Ó}{vs:List Value}
theorem cmpQ_pos' {a b:Rat}:ç a b>0↔b<a:=by rw [<-cmpQ_neg (a:=b) (b:=a),cmpQ_swap a b];omega
theorem EK {lp:OA}{ln lc:Nat}{F:zA (L3×Sp)}(h:aZ 14 m_ V lp ln F)(hn:F.length<=10000)(hs:∀f∈F,cq f.1=true/\Bd f.1/\f.2.sz 1000000){w:un}{p:Rat×Rat}(hp:ct V w p)(sx:Sz 100000000 p.1)(sy:Sz 100000000 p.2):À 13 #[yD lp ln lc,w] V λr W=>∃q n c q' n' c',r=ê #[yD q n c,yD q' n' c']/\aZ 6 ct W q n (mF (GP p F))/\aZ 6 ct W q' n' (mF (Gk p F)):=by
 obtain rfl:=h.len;have J:=hp;obtain ⟨_,_,_,_,_,_,_,_,_,_,_,_,_,_,rfl⟩:=hp.shape;refine El V _ (pE (λi z V'=>z.2.1<=z.2.2.1/\aZ 6 ct V' z.1 z.2.1 (mF (GP p (F.take i)))/\z.2.2.2.2.1<=z.2.2.2.2.2.1/\aZ 6 ct V' z.2.2.2.1 z.2.2.2.2.1 (mF (Gk p (F.take i)))) (none,0,0,none,0,0,0) σ rfl ⟨Ú _,aZ.nil,Ú _,aZ.nil⟩ ?_);rintro i ⟨t,v,C,M,N,Z,z4⟩ V1 l1 e4 NF ⟨D,d,k2,y⟩;dsimp only at e4 D d k2 y;subst e4;refine ⟨λE=>?_,λE b4 EU=>?_⟩;rotate_left
 ·subst E;rw [Ė] at d y;exact ⟨t,v,C,M,N,Z,rfl,d.le EU,y.le EU⟩
 have hi:=E;have w:i64.wrap ((i:Int)+1)=((i+1:Nat):Int):=by rw [aq ω];rfl
 dsimp only;rw [ß,w];obtain ⟨is,eb,ep,en,ec,fb,fp,fn,fe,gb,gp,gn,gc,b5,b6,b7,b8,b9,c0,c4,c5,c6,Zf,c7,c8,Xx,c9,ad,ha,a0,a1,a2,a3,a4,a5,a6,a7,a8,a9,ME,MF,b0,MT,b1,O⟩:=H9 (h.le l1) hi;have ⟨ok,G,s2⟩:=hs _ (ò hi);have nz:=eI ok;have I:F.take (i+1)=F.take i++[F[i]]:=(Ŏ hi).symm
 have lens:∀{j},(mF (GP p (F.take j))).length<=10000/\(mF (Gk p (F.take j))).length<=10000:=λ{j}=>by have:=List.length_take_le' j F;have h1:=NI (p:=p) (F:=F.take j);have h2:=Nj (p:=p) (F:=F.take j);rw [(gK _).1.length_eq,(gK _).1.length_eq];omega
 have dz:∀f∈F,Sz 10000 (eN (ax.bj f.1)).1/\Sz 10000 (eN (ax.bj f.1)).2:=λf P=>by have ⟨d1,d2⟩:=pU (hs f P).2.1;have ⟨A,B⟩:=DE d1 d2;exact ⟨A.s ω,B.s ω⟩
 have lz:∀{j},∀x∈mF (GP p (F.take j)),Sz 10000 x.1/\Sz 10000 x.2:=λ{j} x hx=>by obtain ⟨f,P,rfl⟩:=ÿ.1 ((gK _).1.mem_iff.1 hx);exact dz f (ţ (ļ.1 P).1)
 have cz:∀{j},∀x∈mF (Gk p (F.take j)),Sz 10000 x.1/\Sz 10000 x.2:=λ{j} x hx=>by obtain ⟨f,P,rfl⟩:=ÿ.1 ((gK _).1.mem_iff.1 hx);have ⟨A,B⟩:=dz f (ţ (ļ.1 P).1);exact ⟨A.neg,B.neg⟩
 have ⟨A,B⟩:=dz _ (ò hi);have hq:bW V1 _ F[i].1:=b1;have hr:=O;obtain ⟨_,_,_,_,_,_,_,_,_,_,_,_,_,_,ex,b2,b3⟩:=O;simp only [Value.agg.injEq,Ś,Ň,Value.bool.injEq,Value.slice.injEq,Î,Í] at ex;obtain ⟨rfl,⟨rfl,rfl,rfl⟩,⟨rfl,rfl,rfl⟩,rfl,⟨rfl,rfl,rfl⟩,⟨rfl,rfl,rfl⟩⟩:=ex;refine ⟨is,Ź,eb,ep,en,ec,fb,fp,fn,fe,gb,gp,gn,gc,_,_,_,_,_,_,_,_,_,_,_,_,_,_,_,_,ad,ha,a0,a1,a2,a3,a4,a5,a6,a7,a8,a9,ME,MF,b0,MT,λV2 l2=>(J3 (l:=F[i].1) (s:=F[i].2) ⟨_,_,_,_,_,_,_,_,_,_,_,_,_,_,_,_,_,_,_,_,_,_,_,_,_,_,rfl,bW.le hq l2,oO.le hr l2⟩ (RP.le J au) nz (k:=100000000) (G.eO.up ω) ⟨s2.1.s ω,s2.2.s ω⟩ sx sy).s ?_⟩;rintro r V3 l3 rfl;refine ⟨_,rfl,λg=>?_,λg V4 l4=>(pQ (L:=F[i].1) (bW.le hq au) (RP.le J au) nz (k:=100000000) (G.eO.up ω) sx sy).s ?_⟩
 ·have g:tQ F[i].1 F[i].2 p.1 p.2=false:=by{simpa using g};refine ⟨(t,v,C,M,N,Z,((i+1:Nat):Int)),ω,σ,i+1,rfl,hi,D,?_,k2,?_⟩;{rw [I,tD,Ã (by unfold KN;rw [g];simp),ý];exact d.le au};rw [I,s_,Ã (by unfold J_;rw [g];simp),ý];exact y.le au
 have g:tQ F[i].1 F[i].2 p.1 p.2=true:=by simpa using g
 have Q:KN p F[i]=true↔F[i].2.b=true\/er F[i].1 p.1 p.2<F[i].2.hi:=by rw [Ib nz];unfold lvF;unfold tQ at g;simp only [Đ,Ñ,Bg] at g;grind
 have H:J_ p F[i]=true↔F[i].2.a=true\/F[i].2.lo<er F[i].1 p.1 p.2:=by rw [HN nz];unfold cmF;unfold tQ at g;simp only [Đ,Ñ,Bg] at g;grind
 rintro r V5 l5 gt;have R:=gt;obtain ⟨_,_,_,_,_,_,rfl⟩:=gt.shape;have S:Sz 1000000000 (er F[i].1 p.1 p.2):=(xh (G.eO.up (K:=100000000) ω) sx sy).s ω;refine qxQ ⟨rfl,λV6 l6=>(dZ (l_0:=F[i].1.1) (l_1:=F[i].1.2.1) (l_2:=F[i].1.2.2) (bW.le hq au) G.eO.1 G.eO.2.1 G.eO.2.2 ω).s ?_⟩;rintro r V7 l7 gd;have Xk:RP V7 r (ax.bj F[i].1).1 (ax.bj F[i].1).2:=gd;obtain ⟨_,_,_,_,_,_,_,_,_,_,_,_,rfl,-⟩:=gd;have ⟨d1,d2⟩:=pU G;refine qxW ⟨rfl,λV8 l8=>(vT (p:=ax.bj F[i].1) (Xk.le l8) (yu ok) d1 d2 ω).s ?_⟩;rintro r V9 l9 ⟨c,rfl,-,ge,-,-⟩
 have Pn:ct V9 r (eN (ax.bj F[i].1)):=by unfold ct eN;rw [Wq4,Wq4 (ax.bj F[i].1).2];exact ge
 obtain ⟨_,_,_,_,_,_,_,_,_,_,_,_,_,_,rfl⟩:=Pn.shape;refine qxW ⟨rfl,λz _=>z=KN p F[i],⟨λe=>⟨true,σ,(Q.2 (.inl e)).symm⟩,λe eV d0=>(dR (R.le au) (b3.le au) S s2.2).s ?_⟩,?_⟩
 ·rintro r eW cU rfl;refine ⟨_,rfl,_,σ,?_⟩;dsimp only;rw [ĵ,Ñ,cmpQ_neg,Q,e];simp
 rintro z gC dI ez;have ez:z=KN p F[i]:=ez;refine ⟨rfl,λhz iI dS=>(qk (d.le au) D (by have:=@lens i;omega) (ct.le Pn au) lz ⟨A,B⟩).s ?_,λhz=>?_⟩
 all_goals first
  | (rintro r W lW ⟨t,v,C,rfl,D,d⟩
     refine ⟨t,v,C,rfl,?_⟩
     replace d:aZ 6 ct W t v (mF (GP p (F.take (i+1)))):=by rw [I,tD,<-ez,hz,Ä rfl,GL];exact d
     replace lW:=dI.m (dS.m lW))
  | (replace d:aZ 6 ct gC t v (mF (GP p (F.take (i+1)))):=by rw [I,tD,<-ez,hz,Ã φ,ý];exact d.le au
     obtain ⟨W,rfl⟩:∃W,W=gC:=⟨_,rfl⟩;have lW:=dI)
 all_goals
  replace y:aZ 6 ct W M N (mF (Gk p (F.take i))):=y.le au
  have put:∀{W':ut},W.Le W'->J_ p F[i]=true->∀{u:un},ct W' u (NQ (eN (ax.bj F[i].1)))->À 53 #[yD M N Z,u] W' λr W=>∃q m e,r=yD q m e/\m<=e/\aZ 6 ct W q m (mF (Gk p (F.take (i+1)))):=λl e u hu=>by rw [I,s_,e,Ä rfl,GL];exact qk (y.le l) k2 (by have:=@lens i;omega) hu cz ⟨A.neg,B.neg⟩
  refine ⟨λe ke fB=>(qW (p:=eN (ax.bj F[i].1)) (RP.le Pn au) A B).s ?_,λe nf je=>(dR (R.le au) (b2.le au) S s2.1).s ?_⟩
  ·rintro r kf e_ go;have o:ct kf r (NQ (eN (ax.bj F[i].1))):=go;obtain ⟨_,_,_,_,_,_,_,_,_,_,_,_,_,_,rfl⟩:=o.shape;refine qxW ⟨rfl,λlu gX=>(put au (H.2 (.inl e)) (ct.le o gX)).s ?_⟩;rintro r mD gj ⟨T,U,X,rfl,k3,g3⟩;exact ⟨T,U,X,rfl,(t,v,C,T,U,X,((i+1:Nat):Int)),ω,σ,i+1,rfl,hi,D,d.le au,k3,g3⟩
  ·rintro r kg il rfl;refine ⟨_,rfl,λY qC nQ=>(qW (p:=eN (ax.bj F[i].1)) (RP.le Pn au) A B).s ?_,λY=>⟨(t,v,C,M,N,Z,((i+1:Nat):Int)),ω,σ,i+1,rfl,hi,D,d.le au,k2,?_⟩⟩;{rintro r qN lZ go;have o:ct qN r (NQ (eN (ax.bj F[i].1))):=go;obtain ⟨_,_,_,_,_,_,_,_,_,_,_,_,_,_,rfl⟩:=o.shape;refine qxW ⟨rfl,λqD l_=>(put au (H.2 (.inr (cmpQ_pos'.1 (Á Y)))) (ct.le o l_)).s ?_⟩;rintro r Aa nt ⟨T,U,X,rfl,k3,g3⟩;exact ⟨T,U,X,rfl,(t,v,C,T,U,X,((i+1:Nat):Int)),ω,σ,i+1,rfl,hi,D,d.le au,k3,g3⟩};have Y:=Â Y;rw [I,s_,Ã λh=>(H.1 h).elim (λh=>by rw [e] at h;cases h) λh=>Y (cmpQ_pos'.2 h),ý];exact y.le au
theorem CC {fs:zA (L3×Sp)}(u:∀f∈fs,Bd f.1):∀f∈â fs,Bd f.1:=λf a=>by
 have ⟨m,hm,a⟩:=ė.1 a;obtain ⟨s,-,rfl⟩:=ÿ.1 a;obtain ⟨g,b,rfl⟩:=ÿ.1 (((bZ _).2 _).1 hm);exact u g b
def zZ (V:Ó)(n c:Nat)(vs:List Value)(l:List (Rat×Rat)):Prop:=GR 6 qf V n c vs l/\(vs≠[]->0<n)
theorem zZ.le {V V':ut}{n c:Nat}{l:zA (Rat×Rat)}(h:zZ V n c vs l)(e:V.Le V'):zZ V' n c vs l:=⟨h.1.up e,h.2⟩
theorem zZ.snoc {n c:Nat}{l:zA (Rat×Rat)}(h:zZ V n c vs l){xs sp:zA un}{a:Rat×Rat}{u:Nat}(y:xs.length=6)(z:qf V (.agg xs.toArray) a)(D:n+1<=u)(E:u*6<=(n+1)*6+sp.length):zZ V (n+1) u (vs.take (n*6)++xs++sp) (l++[a]):=
 ⟨h.1.snoc y z φ D E,λ_=>Wq6 _⟩
theorem qf.v {v:un}{c:Rat×Rat}(h:qf V v c):RCV V v c:=⟨h.1,h.2.1.s ω,h.2.2.s ω⟩
theorem ZI {V':ut}{l:zA (Rat×Rat)}(h:é 6 qf V vs l)(e:∀v a,qf V v a->qf V' v a):é 6 RCV V' vs l:=⟨λi b=>by have ⟨xs,c,d,f⟩:=h.at_ i b;exact ⟨xs,c,(e _ _ d).v,f⟩⟩
section
variable{S:List L3}{t:Tr}(h:vG S t)
include h
set_option maxHeartbeats 1000000 in
theorem WT {V:ut}{v w y z:un}{p:Rat×Rat}(hA:AT V v (rt 0 t) (wr 0 t))(hp:Qs V w p.1 p.2)(sx:Sz 100000000 p.1)(sy:Sz 100000000 p.2)(hy:uD V 0 y)(hz:uD V 1 z):À 10 #[v,w] V λr W=>∃q n c m q' n' c' m',r=ê #[yD q n c,yD q' n' c',.nilIface]/\aZ 6 gS W q n (gI eP m)/\m.Perm (GP p (â (iT t (aK t.cJ))))/\(m.Pairwise λx y=>¬WL y x<0)/\aZ 6 gS W q' n' (gI eP m')/\m'.Perm (Gk p (â (iT t (aK t.cJ))))/\m'.Pairwise λx y=>¬WL y x<0:=by
 have ln:=h.len;have sz:=h.size;have jl:=GM (iT t (aK t.cJ));have zs:=CD λf P=>(h.um f P).2;have bs:=CC λf P=>(h.um f P).2.1;have h0:=hA;have c0:=hp;obtain ⟨q,n,c,rfl,-⟩:=hA;obtain ⟨_,_,_,_,_,_,_,_,_,_,_,_,_,_,rfl,-,-⟩:=hp;refine xy V _ λV1 l1=>(qh (wJ (Ij h.ok)) (h0.le l1) (hy.le l1) (hz.le l1)).s ?_;rintro r V2 l2 ⟨-,g⟩;obtain ⟨pt,rfl,gt⟩:=g t (UF (X0 h.ok)) h.dep;refine ⟨pt,.nilIface,rfl,.inl rfl,π,λ_ V4 l4=>(M_ (c0.le au) sx sy).s ?_⟩;rintro r V5 l5 gq;have Q:=gq;obtain ⟨_,_,_,_,_,_,rfl,-,-⟩:=gq;refine qyJ ⟨rfl,λV6 l6=>(WN h (gt.le au)).s ?_⟩;rintro r V7 l7 ⟨p3,n3,c3,rfl,hF⟩;generalize â (iT t (aK t.cJ))=F at *;have fl:F.length<=6100:=ω
 obtain rfl:=hF.len;refine ⟨p3,_,c3,rfl,pE (λj z V'=>zZ V' z.1 z.2.1 z.2.2.1 (GP p (F.take j))/\zZ V' z.2.2.2.1 z.2.2.2.2.1 z.2.2.2.2.2.1 (Gk p (F.take j))) (0,0,[],0,0,[],0) σ rfl ⟨⟨GR.nil,λh=>Å rfl h⟩,GR.nil,λh=>Å rfl h⟩ ?_⟩;rintro j ⟨D,c1,B,E,c2,G,z4⟩ V8 l8 e4 pH ⟨i,d⟩;dsimp only at e4 i d;subst e4
 have f0:D<=6100:=by have:=i.1.len;have:=NI (p:=p) (F:=F.take j);rw [ì] at this;omega
 have f5:E<=6100:=by have:=d.1.len;have:=Nj (p:=p) (F:=F.take j);rw [ì] at this;omega
 have f6:=l6.m (l7.m l8);refine ⟨λT=>?_,λT Wy ML bk f1 f2=>?_⟩
 ·have K:=T;have w:i64.wrap ((j:Int)+1)=((j+1:Nat):Int):=by rw [aq ω];rfl
  dsimp only;rw [ß,w];obtain ⟨ad,a0,xs,h2,h3⟩:=(hF.le l8 λ_ _ g=>z_.le g l8).at_ j K;have P:z_ V8 (.agg xs.toArray) F[j].1 F[j].2:=h3.1;have u:=h3.2;obtain ⟨x1,x2,p',y1,y2,q',u1,u2,r',v1,v2,t',w1,w2,o',ex,hl,-⟩:=id P;have ex:=Æ Array.toList (Value.agg.inj ex);dsimp only at ex;subst ex;have ⟨s1,s2⟩:=zs _ (ò K);have bd:=bs _ (ò K);have et:F.take (j+1)=F.take j++[F[j]]:=(Ŏ K).symm
  refine ⟨aW a0,Ź,x1,x2,p',y1,y2,q',u1,u2,r',v1,v2,t',w1,w2,o',_,_,ad,a0,u 0 _ rfl,u 1 _ rfl,u 2 _ rfl,u 3 _ rfl,u 4 _ rfl,u 5 _ rfl,u 6 _ rfl,u 7 _ rfl,u 8 _ rfl,u 9 _ rfl,u 10 _ rfl,u 11 _ rfl,u 12 _ rfl,u 13 _ rfl,u 14 _ rfl,u 15 _ rfl,u 16 _ rfl,
   λV9 l9=>(Tc (k:=100000000) (P.le l9) (Q.le au) (s1.up ω) ⟨s2.1.s ω,s2.2.s ω⟩ sx sy).s ?_⟩
  rintro r eV c4 rfl;refine ⟨_,rfl,λC=>?_,λC eW cU=>(k_Dir (hl.le au) bd).s ?_⟩
  ·have C:tQ F[j].1 F[j].2 p.1 p.2=false:=by{simpa using C};refine ⟨(D,c1,B,E,c2,G,((j+1:Nat):Int)),ω,σ,j+1,rfl,K,?_,?_⟩;{rw [et,tD,Ã (by unfold KN;rw [C];simp),ý];exact i.le au};rw [et,s_,Ã (by unfold J_;rw [C];simp),ý];exact d.le au
  have C:tQ F[j].1 F[j].2 p.1 p.2=true:=by simpa using C
  rintro r gC dI gd;have Xk:=gd;obtain ⟨_,_,_,_,_,_,rfl,-,-⟩:=gd;have ⟨a7,a8⟩:=pU bd;refine qyJ ⟨rfl,λiI dS=>(BP (p:=ax.bj F[j].1) (Xk.le dS) a7 a8).s ?_⟩;rintro r kK fH ge;have Pn:=ge;obtain ⟨a1,a2,a3,a4,a5,a6,rfl,-,-⟩:=ge;have ⟨H,I⟩:=DE a7 a8;have c9:=l9.m (c4.m (cU.m (dI.m (dS.m fH))));refine qyJ ⟨rfl,λke fB=>(Tb (P.le au) s1 s2).s ?_⟩;rintro r kf e_ ⟨w',rfl,g2⟩;have a9:=g2;obtain ⟨_,_,_,_,_,_,rfl,-,-⟩:=g2;have d0:=c9.m (fB.m e_);refine qxQ ⟨rfl,λz V'=>z=KN p F[j],⟨λe=>?_,λe lu gX=>?_⟩,?_⟩
  ·have e:F[j].2.b=true:=by{simpa using e};refine ⟨true,σ,?_⟩;show true=KN p F[j];unfold KN;rw [C,e];rfl
  ·have e:F[j].2.b=false:=by{simpa using e};rw [e] at a9;refine (lF (k:=100000000) (a9.le gX) (Q.le au) ((nI s1 s2.2).s ω) ((nJ s1 s2.2).s ω) sx sy).s ?_;rintro r mD gj rfl;refine ⟨_,rfl,_,σ,?_⟩;unfold KN;rw [C,e];rfl
  rintro zb nf je ez;have f7:=d0.m je
  have L:∀(s:ut),nf.Le s->KN p F[j]=false->zZ s D c1 B (GP p (F.take (j+1))):=λs U e=>by rw [et,tD,e,Ã φ,ý];exact i.le au
  have M:∀(s:ut),nf.Le s->KN p F[j]=true->∀{sp:zA un} {k:Nat},D+1<=k->k*6<=(D+1)*6+sp.length->zZ s (D+1) k (B.take (D*6)++[Ô .i64 a1,Ô .i64 a2,Õ a3,Ô .i64 a4,Ô .i64 a5,Õ a6]++sp) (GP p (F.take (j+1))):=λs U e sp k W X=>by rw [et,tD,e,Ä rfl];exact (i.le au).snoc (sp:=sp) rfl ⟨Pn.le (fB.m (e_.m au)),H.s ω,I.s ω⟩ W X
  have R:∀(s:ut),nf.Le s->J_ p F[j]=false->zZ s E c2 G (Gk p (F.take (j+1))):=λs U e=>by rw [et,s_,e,Ã φ,ý];exact d.le au
  have Yd:∀(s:ut),nf.Le s->J_ p F[j]=true->∀{xs sp:zA un} {k:Nat},xs.length=6->kd s (.agg xs.toArray) (-(eN (ax.bj F[j].1)).1) (-(eN (ax.bj F[j].1)).2)->E+1<=k->k*6<=(E+1)*6+sp.length->zZ s (E+1) k (G.take (E*6)++xs++sp) (Gk p (F.take (j+1))):=λs U e xs sp k hx J W X=>by rw [et,s_,e,Ä rfl];exact (d.le au).snoc hx ⟨J,H.neg.s ω,I.neg.s ω⟩ W X
  have b0:zb=KN p F[j]:=ez;refine ⟨rfl,λhz=>⟨ω,i.1.le,i.1.cap,rfl,KY,λsp k W X s U=>?_⟩,λhz s U=>?_⟩
  ·have lt:=b0.symm.m hz;refine (BO (P.le au) s1 s2).s ?_;rintro r qC nQ ⟨d3,rfl,g3⟩;have Sq:=g3;obtain ⟨_,_,_,_,_,_,rfl,-,-⟩:=g3;have YR:=U.m nQ;refine qxQ ⟨rfl,λe qN lZ=>(vO (p:=eN (ax.bj F[j].1)) (Pn.le (fB.m (e_.m au))) H I).s ?_,λe Aa nt=>?_⟩;{have e:F[j].2.a=true:=by{simpa using e};rintro r qD l_ J;have Y:=J;obtain ⟨_,_,_,_,_,_,rfl,-,-⟩:=J;have N:=YR.m (lZ.m l_);exact qyJ ⟨rfl,ω,d.1.le,d.1.cap,rfl,KY,λZ k' k3 k4=>⟨(D+1,k,_,E+1,k',_,((j+1:Nat):Int)),ω,σ,j+1,rfl,K,M qD N lt W X,Yd qD N (by unfold J_;rw [C,e];rfl) rfl Y k3 k4⟩⟩};have e:F[j].2.a=false:=by{simpa using e};rw [e] at Sq;refine (lF (k:=100000000) (Sq.le nt) (Q.le au) ((nI s1 s2.1).s ω) ((nJ s1 s2.1).s ω) sx sy).s ?_;rintro r A8 uV rfl;have S:=YR.m (nt.m uV);refine ⟨_,rfl,λe' MD Bj=>(vO (p:=eN (ax.bj F[j].1)) (Pn.le (fB.m (e_.m au))) H I).s ?_,λe'=>⟨(D+1,k,_,E,c2,G,((j+1:Nat):Int)),ω,σ,j+1,rfl,K,M A8 S lt W X,R A8 S (by unfold J_;rw [C,e];exact e')⟩⟩;rintro r MQ yF J;have Y:=J;obtain ⟨_,_,_,_,_,_,rfl,-,-⟩:=J;have O:=S.m (Bj.m yF);exact qyJ ⟨rfl,ω,d.1.le,d.1.cap,rfl,KY,λZ k' k3 k4=>⟨(D+1,k,_,E+1,k',_,((j+1:Nat):Int)),ω,σ,j+1,rfl,K,M MQ O lt W X,Yd MQ O (by unfold J_;rw [C,e];exact e') rfl Y k3 k4⟩⟩
  ·have lt:=b0.symm.m hz;refine (BO (P.le au) s1 s2).s ?_;rintro r qC nQ ⟨d3,rfl,g3⟩;have Sq:=g3;obtain ⟨_,_,_,_,_,_,rfl,-,-⟩:=g3;have YR:=U.m nQ;refine qxQ ⟨rfl,λe qN lZ=>(vO (p:=eN (ax.bj F[j].1)) (Pn.le (fB.m (e_.m au))) H I).s ?_,λe Aa nt=>?_⟩;{have e:F[j].2.a=true:=by{simpa using e};rintro r qD l_ J;have Y:=J;obtain ⟨_,_,_,_,_,_,rfl,-,-⟩:=J;have N:=YR.m (lZ.m l_);exact qyJ ⟨rfl,ω,d.1.le,d.1.cap,rfl,KY,λZ k' k3 k4=>⟨(D,c1,B,E+1,k',_,((j+1:Nat):Int)),ω,σ,j+1,rfl,K,L qD N lt,Yd qD N (by unfold J_;rw [C,e];rfl) rfl Y k3 k4⟩⟩};have e:F[j].2.a=false:=by{simpa using e};rw [e] at Sq;refine (lF (k:=100000000) (Sq.le nt) (Q.le au) ((nI s1 s2.1).s ω) ((nJ s1 s2.1).s ω) sx sy).s ?_;rintro r A8 uV rfl;have S:=YR.m (nt.m uV);refine ⟨_,rfl,λe' MD Bj=>(vO (p:=eN (ax.bj F[j].1)) (Pn.le (fB.m (e_.m (je.m (S.m Bj))))) H I).s ?_,λe'=>⟨(D,c1,B,E,c2,G,((j+1:Nat):Int)),ω,σ,j+1,rfl,K,L A8 S lt,R A8 S (by unfold J_;rw [C,e];exact e')⟩⟩;rintro r MQ yF J;have Y:=J;obtain ⟨_,_,_,_,_,_,rfl,-,-⟩:=J;have O:=S.m (Bj.m yF);exact qyJ ⟨rfl,ω,d.1.le,d.1.cap,rfl,KY,λZ k' k3 k4=>⟨(D,c1,B,E+1,k',_,((j+1:Nat):Int)),ω,σ,j+1,rfl,K,L MQ O lt,Yd MQ O (by unfold J_;rw [C,e];exact e') rfl Y k3 k4⟩⟩
 subst T;rw [Ė] at i d
 (try dsimp only at f1 f2 ⊢)
 have e1:=i.1.len;have e2:=d.1.len;refine (vN (V:=Wy.ao [vb B Wy.w.heap.size bk]) (lb:=bk) f1 (λh=>⟨by simp [mY h],f2 h⟩) (i.1.s (V':=Wy.ao _) λ_ _ g=>qf.le g λb o h=>ML b o h) i.2 ω (Vt _ _ _)).s ?_;rintro r f8 Ro ⟨bm,vm,n5,c5,m,b1,b2,rfl,row,rfl,b4,pm,pw⟩;refine ⟨bm,vm,b1,b2,none,_,c5,rfl,λb3 Px Qz e3=>?_⟩;have d5:V8.Le b3:=ML.m ((rJ (V:=Wy) (V':=Wy) (λb o h=>Ro b o h) (Ó.Le.refl Wy) λh=>(b2 h).imp id λh'=>by rw [h'.2];exact f2 h'.1).m Px);have NN:=pm.length_eq;have e9:=ru (e:=eP) (l:=m);refine (nW (A:=gI eP m) (aZ.bo e3 (ZI row λ_ _ g=>(qf.le g λb o h=>Px b o h:qf b3 _ _)) φ b4)).s ?_;rintro r f9 Wm ⟨q6,n6,c6,rfl,d6⟩;refine ⟨q6,n6,c6,rfl,λ_ Wa Wn SY f3 f4=>?_⟩;refine (vN (V:=Wa.ao [vb G Wa.w.heap.size SY]) (lb:=SY) f3 (λh=>⟨by simp [mY h],f4 h⟩) (d.1.s (V':=Wa.ao _) λ_ _ g=>qf.le g λb o h=>(d5.m (Wm.m Wn)) b o h) d.2 ω (Vt _ _ _)).s ?_;rintro r g0 XN ⟨d7,d8,n7,c7,m',d1,d2,rfl,b5,rfl,d4,b6,d9⟩;refine ⟨d7,d8,d1,d2,none,_,c7,rfl,λb7 b8 We e5=>?_⟩;have e0:Wa.Le b7:=(rJ (V:=Wa) (V':=Wa) (λb o h=>XN b o h) (Ó.Le.refl Wa) λh=>(d2 h).imp id λh'=>by rw [h'.2];exact f4 h'.1).m b8;have e6:=b6.length_eq;have e7:=ru (e:=eP) (l:=m');refine (nW (A:=gI eP m') (aZ.bo e5 (ZI b5 λ_ _ g=>(qf.le g λb o h=>b8 b o h:qf b7 _ _)) φ d4)).s ?_;rintro r g1 XO ⟨q8,n8,c8,rfl,e8⟩;exact ⟨q8,n8,c8,rfl,λ_ g4 b9=>⟨q6,n6,c6,m,q8,n8,c8,m',rfl,d6.le (Wn.m (e0.m (XO.m b9))),pm,pw,e8.le b9,b6,d9⟩⟩
end
end
section
section
variable{S:List L3}{t:Tr}(h:vG S t)
include h
theorem TB {p x:Rat×Rat}(u:x∈GP p (â (iT t (aK t.cJ)))\/x∈Gk p (â (iT t (aK t.cJ)))):Sz 100000 x.1/\Sz 100000 x.2:=by have one:∀f∈â (iT t (aK t.cJ)),Sz 100000 (eN (ax.bj f.1)).1/\Sz 100000 (eN (ax.bj f.1)).2:=λf a=>by{have ⟨s1,s2⟩:=pU ((CC λf a=>(h.um f a).2.1) f a);have ⟨b,c⟩:=DE s1 s2;exact ⟨b.s ω,c.s ω⟩};rcases u with u|u;{obtain ⟨f,a,rfl⟩:=ÿ.1 u;exact one f (ļ.1 a).1};obtain ⟨f,a,rfl⟩:=ÿ.1 u;have ⟨b,c⟩:=one f (ļ.1 a).1;exact ⟨b.neg,c.neg⟩
end
end
section
variable{p:OA}{c n:Nat}
def Rr (L:List (List (Rat×Rat))):List L3:=(L.flatMap nr).map Prod.fst
abbrev VY (S:List L3)(d:Nat)(t:Tr):Prop:=MC (λl=>kh l/\l∈S) d (ax.pos []) t
theorem Ir:∃x,ax.pos [] x:=⟨(0,0),λ_ h=>nomatch h⟩
theorem Gs {L:zA (zA (Rat×Rat))}(u:∀l∈L,Pg l):(L.flatMap nr).length<=6*L.length:=by
 induction L with
 | nil=>simp
 | cons l L y=>
  have:=y λl h=>u l (ā _ h);have:=(u l (ď ..)).len;have:=oq l;rw [Ę,ï,Ĉ];omega
theorem uh {V:ut}{p2:OA}{n2 c2:Nat}{fill:Int}{L:zA (zA (Rat×Rat))}(h:aZ 1 Qt V p n L)(hn:L.length<=2)(hL:∀l∈L,Pg l):À 70 #[dB #[yD p n c,Ô .i64 fill,yD p2 n2 c2]] V λr W=>∃o t,r=Õ o/\RW W o t/\VY (Rr L) 12 t:=by obtain rfl:=h.len;have I:Pgs L:=⟨ω,λl u=>⟨by have:=(hL l u).len;omega,λx C=>⟨((hL l u).sm x C).1.s ω,((hL l u).sm x C).2.s ω⟩⟩⟩;refine Ei V _ (pE (λj z V'=>GR 14 m_ V' z.1 z.2.1 z.2.2.1 ((L.take j).flatMap nr)) (0,0,[],0) σ rfl GR.nil ?_);rintro j ⟨J,z2,vs,z4⟩ V1 K D pH a;dsimp only at D a;subst D;have zl:=a.len;have el:=Gs (L:=L.take j) λl h=>hL l (Qr9 _ _ h);rw [ì] at el;dsimp only;rw [ß];refine ⟨λb=>?_,λb V4 M bk N=>?_⟩;{have i:=b;have w:i64.wrap ((j:Int)+1)=((j+1:Nat):Int):=by{rw [aq ω];rfl};rw [w];obtain ⟨O,P,Q,R,v,g⟩:=H_ (h.le K) i;have k:=hL _ (ò i);have k6:=k.len;refine ⟨O,Ź,P,Q,R,v,λV2 l2=>(ug ra k).s ?_⟩;rintro r V3 l3 ⟨S,m2,T,rfl,E⟩;obtain rfl:=E.len;have ej:=oq L[j];have ⟨xs,U,s,F⟩:=cQ E φ;refine ⟨S,_,T,rfl,xs,U,s,ω,a.le,a.cap,s,IF F s,λsp W y A=>⟨(J+_,W,_,((j+1:Nat):Int)),ω,σ,j+1,rfl,i,?_⟩⟩;have e:(L.take (j+1)).flatMap nr=(L.take j).flatMap nr++nr L[j]:=by{rw [ĳ,ô i];show List.flatMap _ (_++[L[j]])=_;rw [Qn5,Ę,Ww3,ý]};rw [e];exact (a.up au).app F s φ y A};subst b;rw [Ė] at a;obtain rfl:=a.len;have B:∀f∈L.flatMap nr,YP f:=λf d=>by{have ⟨l,y,A⟩:=ė.1 d;exact (hL l y).Y7 f A};refine (J4 (q:=λl=>kh l/\l∈Rr L) 12 (c:=[]) ω (aZ.bo N (a.row.le λ_ _ g=>m_.le g M) φ a.le) B (λf d=>⟨⟨(B f d).ok,(B f d).bd⟩,ÿ.2 ⟨f,d,rfl⟩⟩) (aZ.nil (p:=none)) (λm h=>nomatch h) φ ra I).s ?_;rintro r V5 l5 ⟨o,t,rfl,w,G,X⟩;refine ⟨o,rfl,λV6 Y=>(lM t (w.le Y) (G.imp λ_ h=>h.1)).s ?_⟩;rintro r V7 l7 ⟨H,rfl,Z⟩;exact ⟨H,rfl,λV8 l8=>⟨H,_,rfl,Z.le l8,(vh (λ_ h=>h.1.1) G ű Ir).s X⟩⟩
theorem hZ {op:Int}{b:Tr}(kb:b.dU kh):∀(a:Tr) {V:ut} {p pb cp:OA} {cn cc:Nat} {c:zA L3},RW V p a->RW V pb b->a.dU kh->aZ 6 bW V cp cn c->(∀m∈c,kh m)->c.length+a.depth+b.depth<=980 ->À 17 #[Ô .i64 op,Õ p,Õ pb,yD cp cn cc] V λr W=>∃q,r=Õ q/\RW W q (rN op a b c)
 | .leaf i,V,p,pb,cp,cn,cc,c,h,hb,_,hc,kc,hd=>by
  have ⟨s,e0,e1⟩:=kV h;simp only [Tr.depth] at hd;have B:∀{W:ut},V.Le W->∃a,ae p 1=some a/\W.at a (gF i):=λg=>(kV (h.le g)).2.2;have eq:∀k:Int,(op==k)=true->op=k:=λk h=>by simpa using h
  have ne:∀k:Int,(op==k)=false->op≠k:=λk h=>by simpa using h
  refine sQ V _ ⟨s,s,_,e0,λ_ V1 U=>(dH b (hb.le U) kb (hc.le U) kc ω).s ?_,π⟩;rintro r V2 M ⟨q,rfl,g⟩
  have dn:∀{c:md} {P:Prop} [Decidable P],(c=true->P)->(c=false->¬P)->c=decide P:=λ{c P _} a b=>by
   cases c
   ·exact (È (b rfl)).symm
   ·exact (Ç (a rfl)).symm
  have fin:∀{W:ut} (t:Tr),rN op (.leaf i) b c=t->∀{o:OA},RW W o t->∃q,Value.pointer o=Õ q/\RW W q (rN op (.leaf i) b c):=λ{W} t e {o} k=>⟨o,rfl,by rw [e];exact k⟩;refine ⟨q,rfl,λz _=>z=decide (op=1/\i=true),⟨λj=>⟨s,s,i,B au,_,σ,dn (λh=>⟨eq 1 j,h⟩) λh g=>by rw [h] at g;exact nomatch g.2⟩,λj=>⟨false,σ,dn π λ_ g=>ne 1 j g.1⟩⟩,?_⟩;rintro z X Y rfl;refine ⟨rfl,λu Z l4=>(cT true).s ?_,λu=>?_⟩
  ·have u:=Á u;rintro r V5 l5 ⟨o,rfl,k⟩;exact ⟨o,rfl,λV6 C=>fin _ (by unfold rN;rw [Ä u]) (k.le C)⟩
  have u:=Â u;refine ⟨λz _=>z=decide ((op=2\/op=3)/\i=false),⟨λj=>⟨s,s,i,B au,_,σ,dn (λh=>⟨.inl (eq 2 j),by simpa using h⟩) λh g=>by rw [g.2] at h;exact nomatch h⟩,λj=>⟨λv=>⟨s,s,i,B au,_,σ,dn (λh=>⟨.inr (eq 3 v),by simpa using h⟩) λh g=>by rw [g.2] at h;exact nomatch h⟩,λv=>⟨false,σ,dn π λ_ g=>g.1.elim (ne 2 j) (ne 3 v)⟩⟩⟩,?_⟩;rintro z V7 l7 rfl;refine ⟨rfl,λd V8 l8=>(cT false).s ?_,λd=>?_⟩
  ·have d:=Á d;rintro r V9 l9 ⟨o,rfl,k⟩;exact ⟨o,rfl,λeV D=>fin _ (by unfold rN;rw [Ã u,Ä d]) (k.le D)⟩
  have d:=Â d;refine ⟨λz _=>z=decide ((op=3\/op=4)/\i=true),⟨λj=>⟨s,s,i,B au,_,σ,dn (λh=>⟨.inl (eq 3 j),h⟩) λh g=>by rw [h] at g;exact nomatch g.2⟩,λj=>⟨λv=>⟨s,s,i,B au,_,σ,dn (λh=>⟨.inr (eq 4 v),h⟩) λh g=>by rw [h] at g;exact nomatch g.2⟩,λv=>⟨false,σ,dn π λ_ g=>g.1.elim (ne 3 j) (ne 4 v)⟩⟩⟩,?_⟩;rintro z eW cU rfl;refine ⟨rfl,λf gC dI=>(mN _ (g.le au)).s ?_,λf ke fB=>?_⟩
  ·have f:=Á f;rintro r iI dS ⟨o,rfl,k⟩;exact ⟨o,rfl,λkK fH=>fin _ (by unfold rN;rw [Ã u,Ã d,Ä f]) (k.le fH)⟩
  ·have f:=Â f;exact fin _ (by unfold rN;rw [Ã u,Ã d,Ã f]) (g.le au)
 | .node l x y,V,p,pb,cp,cn,cc,c,h,hb,ha,hc,kc,hd=>by
  obtain ⟨A,kx,ky⟩:=ha;simp only [Tr.depth] at hd;have ⟨b1,p1,n1,c1,b2,p2,n2,c2,b3,p3,n3,c3,pl,pr,a,s,N,H⟩:=P9 h;obtain ⟨z,⟨E,F,G,I,J,K⟩,O,Q,-,-,-⟩:=H V (Ó.Le.refl V);have L:∀{W:ut},V.Le W->aZ 6 bW W cp cn c:=λg=>hc.le g;refine sQ V _ ⟨s,s,_,z,π,λ_=>⟨s,s,_,_,_,_,_,_,_,_,_,_,_,_,a,N,E,F,G,I,J,K,λV2 M=>(uf (L M) (λm h=>(kc m h).2) (λm h=>(kc m h).1) ω (H V2 M).2.2.2.2.1 A.2 A.1).s ?_⟩⟩;rintro r X Y rfl;have L3:=M.m Y;obtain ⟨-,⟨E,F,G,I,J,K⟩,O,Q,-,-,-⟩:=H X au;refine ⟨_,rfl,λn=>⟨s,s,pl,O,λZ l4=>(hZ kb x (H Z au).2.2.2.2.2.1 (hb.le au) kx (L au) kc ω).s ?_⟩,λn=>⟨λw=>⟨s,s,pr,Q,λV7 l7=>(hZ kb y (H V7 au).2.2.2.2.2.2 (hb.le au) ky (L au) kc ω).s ?_⟩,λw=>?_⟩⟩
  ·have n:Da c l=1:=by simpa using n
   rintro r V5 l5 ⟨q,rfl,g⟩;exact ⟨q,rfl,λV6 C=>⟨q,rfl,by unfold rN;rw [Ä n];exact g.le C⟩⟩
  ·have n:¬Da c l=1:=by simpa using n
   have w:Da c l=-1:=by simpa using w
   rintro r V5 l5 ⟨q,rfl,g⟩;exact ⟨q,rfl,λV6 C=>⟨q,rfl,by unfold rN;rw [Ã n,Ä w];exact g.le C⟩⟩
  ·have n:¬Da c l=1:=by simpa using n
   have w:¬Da c l=-1:=by simpa using w
   have ⟨w1,w2⟩:=Bx kc A;have ⟨w3,w4⟩:=Bx kc (mU A);refine ⟨s,s,_,_,_,_,_,_,_,_,_,_,_,_,a,N,E,F,G,I,J,K,s,s,pl,O,s,s,_,_,_,_,_,_,_,_,_,_,_,_,a,N,E,F,G,I,J,K,s,s,pr,Q,s,s,_,_,_,_,_,_,_,_,_,_,_,_,a,N,E,F,G,I,J,K,λeV D=>(kN (L au) kc ω (H eV au).2.2.2.2.1 A).s ?_⟩;rintro r eW cU ⟨q1,m1,d1,rfl,h1⟩;refine ⟨q1,m1,d1,rfl,λgC dI=>(hZ kb x (H gC au).2.2.2.2.2.1 (hb.le au) kx (h1.le dI) w1 ω).s ?_⟩;rintro r iI dS ⟨j,rfl,t1⟩;have R:=L3.m au;refine ⟨j,rfl,λkK fH=>(iC (H kK au).2.2.2.2.1).s ?_⟩;rintro r ke fB gr;have Jt:bW ke r (Ö l):=gr;obtain ⟨_,_,_,_,_,_,_,_,_,_,_,_,rfl⟩:=br Jt;have S:=R.m au;refine qxJ ⟨rfl,λkf e_=>(kN (L au) kc ω ra (mU A)).s ?_⟩;rintro r lu gX ⟨q2,m2,d2,rfl,h2⟩;have T:=S.m au;refine ⟨q2,m2,d2,rfl,λmD gj=>(hZ kb y (H mD au).2.2.2.2.2.2 (hb.le au) ky (h2.le gj) w3 ω).s ?_⟩;rintro r nf je ⟨v,rfl,t2⟩;refine ⟨v,rfl,λkg il=>(vZ (H kg ((T.m au).m il)).2.2.2.2.1 (t1.le au) (t2.le il)).s ?_⟩;rintro r qC nQ ⟨o3,rfl,t3⟩;exact ⟨o3,rfl,λqN lZ=>⟨o3,rfl,by unfold rN;rw [Ã n,Ã w];exact t3.le lZ⟩⟩
theorem Hi {A B:ut}{u:zA Nat}(h:(A.ao u).Le B):A.Le B:=λb o g=>h b o g
theorem pW {B C:ut}(h:B.shut.Le C):B.Le C:=λb o g=>h b o g
theorem mo {α:Type}{sz:Nat}{R:ut->un->α->Prop}{V:ut}{vs xs:zA un}{ls ms:zA α}(h:é sz R V vs ls)(u:é sz R V xs ms)(z:vs.length=ls.length*sz)(y:0<sz):é sz R V (vs++xs) (ls++ms):=by have:=eM (sp:=[]) h u y;grind
def Sj (p q:Rat×Rat):Prop:=¬(p.1=q.1/\p.2=q.2)
theorem pg3 {a b c:Rat×Rat}(h:VZ 10 [a,b,c])(u:Sj a b)(y:Sj b c)(z:Sj c a):Pg [a,b,c]:=⟨by show 3<=6;omega,h,λi d=>by
 match i,d with
 | 0,_=>exact u
 | 1,_=>exact y
 | 2,_=>rw [show (2+1)% [a,b,c].length=0 by simp];exact z
 | i+3,d=>simp only [Ĉ,ĺ] at d;omega⟩
theorem pg4 {a b c d:Rat×Rat}(h:VZ 10 [a,b,c,d])(u:Sj a b)(y:Sj b c)(z:Sj c d)(D:Sj d a):Pg [a,b,c,d]:=⟨by show 4<=6;omega,h,λi e=>by
 match i,e with
 | 0,_=>exact u
 | 1,_=>exact y
 | 2,_=>exact z
 | 3,_=>rw [show (3+1)% [a,b,c,d].length=0 by simp];exact D
 | i+4,e=>simp only [Ĉ,ĺ] at e;omega⟩
theorem jT {k:Nat}{p:Rat×Rat}{l:zA (Rat×Rat)}(h:Sz k p.1/\Sz k p.2)(g:VZ k l):VZ k (p::l):=λx a=>(í.1 a).elim (λe=>e▸h) (g x)
theorem IK {k:Nat}:VZ k []:=λ_ h=>by cases h
theorem NP {x u y z:Int}(h:x≠u:=by omega):Sj ((x:Rat),(y:Rat)) ((u:Rat),(z:Rat)):=λ⟨e,_⟩=>h (Qh1.1 e)
theorem RB {x z y u:Int}(h:y≠u):Sj ((x:Rat),(y:Rat)) ((z:Rat),(u:Rat)):=λ⟨_,e⟩=>h (Qh1.1 e)
theorem Th {V:ut}{tb:Nat}{at_:Int}(hr:Jr V p n)(hn:n<=400)(hw:gY V tb p n c at_)(hx:V.X tb)(h0:0<=at_):À 69 #[Õ (some ⟨tb,0,none⟩)] V λr W=>∃(q:OA)(m e:Nat)(l:zA (Rat×Rat))(at':Int),r=yD q m e/\aZ 6 ct W q m l/\Pg l/\0<=at'/\gY W tb p n c at':=by
 refine vD tb p n c at_ V _ hw hx λV1 l1 d4 e1 h1=>(dL (V:=V1.ao [d4]) 4 (hr.le l1) hn e1 ⟨ψ,h1⟩ h0 ω).s ?_;rintro r V2 l2 ⟨x,F3,rfl,x0,x1,t1,d5⟩;have L2:=l1.m (Hi l2);have wr:∀z:Int,-100<=z->z<=100->i64.wrap z=z:=λz _ _=>aq ω;have Pf:∀x u:Int,(x:Rat)+((1:Int):Rat)*(u:Rat)=((x+u:Int):Rat):=λx u=>by rw [<-Qf5,<-Qt1,Wk1]
 refine ⟨x,rfl,p,n,c,F3,d5,λz V'=>z.1=p/\z.2.1=n/\z.2.2.1=c/\0<=z.2.2.2/\V.Le V',⟨λ_ V3 l3 O5 e3 h3=>(dL (V:=V3.ao [O5]) 5 (hr.le au) hn e3 ⟨ψ,h3⟩ t1 ω).s ?_,λ_=>⟨λ_ kg il Hw d6 d7=>(c_P (V:=kg.ao [Hw]) (hr.le au) hn d6 ⟨ψ,d7⟩ t1).s ?_,λ_=>⟨(p,n,c,F3),σ,rfl,rfl,rfl,t1,λb o h=>L2 b o h⟩⟩⟩,?_⟩
 ·rintro r V4 l4 ⟨a,v,rfl,a0,a1,t2,C⟩;have L4:=L2.m ((pW l3).m (Hi l4));refine ⟨a,rfl,p,n,c,v,C,λV5 l5 So e5 h5=>(dL (V:=V5.ao [So]) 5 (hr.le au) hn e5 ⟨ψ,h5⟩ t2 ω).s ?_⟩;rintro r V6 l6 ⟨b,f,rfl,b0,b1,t3,D⟩;have L6:=L4.m ((pW l5).m (Hi l6));refine ⟨b,rfl,p,n,c,f,D,λV7 l7 d8 e7 h7=>(dL (V:=V7.ao [d8]) 4 (hr.le au) hn e7 ⟨ψ,h7⟩ t3 ω).s ?_⟩;rintro r V8 l8 ⟨u,E,rfl,u0,u1,t4,O⟩;refine ⟨u,rfl,p,n,c,E,O,λV9 l9 We e9 h9=>(dL (V:=V9.ao [We]) 4 (hr.le ((L6.m ((pW l7).m au)).m au)) hn e9 ⟨ψ,h9⟩ t4 ω).s ?_⟩;rintro r eV k3 ⟨w,a7,rfl,w0,w1,t5,d9⟩;refine ⟨w,rfl,p,n,c,a7,d9,?_⟩;have ea:i64.wrap (a-4)=a-4:=wr _ ω ω;have eb:i64.wrap (b-4)=b-4:=wr _ ω ω;have ec:i64.wrap (i64.wrap (i64.wrap (a-4)+1)+u)=a-4+1+u:=by{rw [ea,wr (a-4+1) ω ω,wr _ ω ω]};have ed:i64.wrap (i64.wrap (i64.wrap (b-4)+1)+w)=b-4+1+w:=by{rw [eb,wr (b-4+1) ω ω,wr _ ω ω]};rw [ec,ed,ea,eb];intro eW cU;refine (dN (a-4) (b-4) ω ω ω).s ?_;rintro r gC dI I;have I:ct gC r (((a-4:Int):Rat),((b-4:Int):Rat)):=I;obtain ⟨_,_,_,_,_,_,_,_,_,_,_,_,_,_,rfl⟩:=I.shape;refine qxW ⟨rfl,λiI dS=>(dN (a-4+1+u) (b-4) ω ω ω).s ?_⟩;rintro r kK fH J;have J:ct kK r (((a-4+1+u:Int):Rat),((b-4:Int):Rat)):=J;obtain ⟨_,_,_,_,_,_,_,_,_,_,_,_,_,_,rfl⟩:=J.shape;refine qxW ⟨rfl,λke fB=>(dN (a-4+1+u) (b-4+1+w) ω ω ω).s ?_⟩;rintro r kf e_ K;have K:ct kf r (((a-4+1+u:Int):Rat),((b-4+1+w:Int):Rat)):=K;obtain ⟨_,_,_,_,_,_,_,_,_,_,_,_,_,_,rfl⟩:=K.shape;refine qxW ⟨rfl,λlu gX=>(dN (a-4) (b-4+1+w) ω ω ω).s ?_⟩;rintro r mD gj g4;have g4:ct mD r (((a-4:Int):Rat),((b-4+1+w:Int):Rat)):=g4;obtain ⟨_,_,_,_,_,_,_,_,_,_,_,_,_,_,rfl⟩:=g4.shape;refine qxW ⟨rfl,λnf je bk t F=>⟨_,_,_,_,a7,rfl,aZ.eY F (mo (sz:=6) (row_one rfl (ct.le I au)) (mo (sz:=6) (row_one rfl (ct.le J au)) (mo (sz:=6) (row_one rfl (ct.le K au)) (row_one rfl (ct.le g4 je)) rfl φ) rfl φ) rfl φ),?_,t5,t⟩⟩;have s:∀z:Int,-40<=z->z<=40->Sz 10 (z:Rat):=λz h h'=>E3 ⟨h,h'⟩;exact pg4 (jT ⟨s _ ω ω,s _ ω ω⟩ (jT ⟨s _ ω ω,s _ ω ω⟩ (jT ⟨s _ ω ω,s _ ω ω⟩ (jT ⟨s _ ω ω,s _ ω ω⟩ IK)))) (NP) (RB ω) (NP) (RB ω)
 ·rintro r qC nQ ⟨x,y,v,A,e0,e4,t2,C⟩;have A:ct qC r ((x:Rat),(y:Rat)):=A;obtain ⟨_,_,_,_,_,_,_,_,_,_,_,_,_,_,rfl⟩:=A.shape;have YR:=L2.m ((pW il).m (Hi nQ));refine qxW ⟨rfl,p,n,c,v,C,λqN lZ a8 e8 f0=>(c_V (V:=qN.ao [a8]) (hr.le au) hn e8 ⟨ψ,f0⟩ t2).s ?_⟩;rintro r qD l_ ⟨x1,y1,f,gu,k4,k5,a9,t3,D⟩;have gu:ct qD r ((x1:Rat),(y1:Rat)):=gu;obtain ⟨_,_,_,_,_,_,_,_,_,_,_,_,_,_,rfl⟩:=gu.shape;refine qxW ⟨rfl,p,n,c,f,D,λAa nt WH f5 f6=>(c_V (V:=Aa.ao [WH]) (hr.le ((YR.m ((pW lZ).m au)).m au)) hn f5 ⟨ψ,f6⟩ t3).s ?_⟩;rintro r A8 uV ⟨x2,P,E,gv,k6,k7,b3,t4,O⟩;have gv:ct A8 r ((x2:Rat),(P:Rat)):=gv;obtain ⟨_,_,_,_,_,_,_,_,_,_,_,_,_,_,rfl⟩:=gv.shape;have s:∀z:Int,-40<=z/\z<=40->Sz 10 (z:Rat):=λz h=>E3 h;have Zt:=(pW nt).m (Hi uV);have Zr:=((pW lZ).m au).m Zt;refine qxW ⟨rfl,p,n,c,E,O,λMD Bj=>(hU (k:=10) (ct.le gu au) (ct.le gv au) (s _ ω) (s _ ω) (s _ ω) (s _ ω)).s ?_⟩;rintro r MQ yF ⟨p',n',d',k8,k9,l0,rfl,k1,k2⟩;refine qxQ ⟨rfl,λWx KI=>(sZ _ (k1.le KI)).s ?_⟩;rintro r YV H5 rfl;have Pw:=(pW Bj).m (yF.m (KI.m H5));refine ⟨_,rfl,λG SH MJ=>(dM 1 ω).s ?_,λG=>⟨(p,n,c,E),σ,rfl,rfl,rfl,t4,(YR.m Zr).m Pw⟩⟩;have G:((x1:Rat)*(P:Rat)-(y1:Rat)*(x2:Rat))≠0:=λe=>by{rw [e] at G;exact Å G φ};rintro r Z_ H6 q1;obtain ⟨_,_,_,_,_,_,rfl⟩:=q1.shape;have Zs:=Zr.m (Pw.m (MJ.m H6));refine qxQ ⟨rfl,λm0 H7=>(fR (ct.le A au) (q1.le H7) (ct.le gu ((Zt.m (Pw.m (MJ.m H6))).m H7)) (k:=10) (m:=10) (s _ ω) (s _ ω) (s _ ω) (s _ ω) (s _ ω) ω).s ?_⟩;rintro r V_ CG ga;rw [Pf,Pf] at ga;have ga:ct V_ r (((x+x1:Int):Rat),((y+y1:Int):Rat)):=ga;obtain ⟨_,_,_,_,_,_,_,_,_,_,_,_,_,_,rfl⟩:=ga.shape;refine qxW ⟨rfl,λm5 MK=>(dM 1 ω).s ?_⟩;rintro r m6 EU q2;obtain ⟨_,_,_,_,_,_,rfl⟩:=q2.shape;have T_:=H7.m (CG.m (MK.m EU));refine qxQ ⟨rfl,λWy ML=>(fR (ct.le A (Zs.m (T_.m ML))) (q2.le ML) (ct.le gv ((Pw.m (MJ.m H6)).m (T_.m ML))) (k:=10) (m:=10) (s _ ω) (s _ ω) (s _ ω) (s _ ω) (s _ ω) ω).s ?_⟩;rintro r f7 Ro gb;rw [Pf,Pf] at gb;have gb:ct f7 r (((x+x2:Int):Rat),((y+P:Int):Rat)):=gb;obtain ⟨_,_,_,_,_,_,_,_,_,_,_,_,_,_,rfl⟩:=gb.shape;refine qxW ⟨rfl,λm7 Px bk t F=>⟨_,_,_,_,E,rfl,aZ.eY F (mo (sz:=6) (row_one rfl (ct.le A (Zs.m (T_.m (ML.m (Ro.m Px)))))) (mo (sz:=6) (row_one rfl (ct.le ga (MK.m (EU.m (ML.m (Ro.m Px)))))) (row_one rfl (ct.le gb Px)) rfl φ) rfl φ),?_,t4,t⟩⟩;refine pg3 (jT ⟨s _ ω,s _ ω⟩ (jT ⟨s _ ω,s _ ω⟩ (jT ⟨s _ ω,s _ ω⟩ IK))) ?_ ?_ ?_;{by_cases h:x1=0;{exact RB λe=>a9 ⟨h,ω⟩};exact NP};{by_cases h:x1=x2;{refine RB λe=>G ?_;rw [h,show y1=P by omega,Wq4];grind};exact NP};by_cases h:x2=0;{exact RB λe=>b3 ⟨h,ω⟩};exact NP
 rintro ⟨zp,zn,zc,za⟩ m8 Wm ⟨b4,b5,b6,ha,b7⟩;dsimp only at b4 b5 b6 ha;subst b4 b5 b6;dsimp only;refine ⟨rfl,λWa Wn b8 f8 f9=>(dL (V:=Wa.ao [b8]) 4 (hr.le (b7.m Wn)) hn f8 ⟨ψ,f9⟩ ha ω).s ?_⟩;rintro r m9 XN ⟨k,v,rfl,k0,k1,t2,C⟩
 refine ⟨k,rfl,zp,zn,zc,v,C,λz V'=>∃o:zA (Rat×Rat),GR 6 ct V' z.1 z.2.1 z.2.2.1 o/\z.2.2.2.2.1=zp/\z.2.2.2.2.2.1=zn/\z.2.2.2.2.2.2.1=zc/\0<=z.2.2.2.2.2.2.2/\0<=z.2.2.2.1/\(o.length:Int)+z.2.2.2.1<=6/\VZ 10 o/\(∀i,i+1<o.length->Sj (o.getD i (0,0)) (o.getD (i+1) (0,0)))/\V.Le V',λz=>z.2.2.2.1.toNat,
  ⟨(0,0,[],i64.wrap (3+k),zp,zn,zc,v),σ,[],GR.nil,rfl,rfl,rfl,t2,by rw [aq ω];dsimp only;omega,by rw [aq ω];simp;omega,IK,λi h=>by simp at h,(b7.m (Wn.m (Hi XN)))⟩,?_⟩
 rintro ⟨H,z2,vs,i,Q,R,S,b9⟩ g0 n0 ⟨o,B,e5,e6,e7,L,g5,g6,T,hd,U⟩;dsimp only at B e5 e6 e7 L g5 g6;subst e5 e6 e7;have zl:=B.len;dsimp only;refine ⟨rfl,λW g7 XO c0 g8 g9=>(c_P (V:=g7.ao [c0]) (hr.le (U.m XO)) hn g8 ⟨ψ,g9⟩ L).s ?_,λW=>?_⟩
 ·have W:=Á W;have w1:i64.wrap (i-1)=i-1:=aq ω;rw [w1];rintro r c5 h4 ⟨x,y,f,A,e0,e4,t3,D⟩;have A:ct c5 r ((x:Rat),(y:Rat)):=A;obtain ⟨_,_,_,_,_,_,_,_,_,_,_,_,_,_,rfl⟩:=A.shape;have Zu:=XO.m (Hi h4);have sx:Sz 10 (x:Rat):=E3;have sy:Sz 10 (y:Rat):=E3;refine qxW ⟨rfl,Q,R,S,f,D,λz V'=>c5.Le V'/\(z=true->∀h:0<o.length,Sj (o.getD (o.length-1) (0,0)) ((x:Rat),(y:Rat))),⟨λh=>⟨true,σ,λb o h=>h,λ_ g=>?_⟩,λh=>?_⟩,?_⟩;{have:(H:Int)=0:=by{simpa using h};omega};{have h:¬(H:Int)=0:=by{simpa using h};have w2:i64.wrap ((H:Int)-1)=((H-1:Nat):Int):=by{rw [aq ω];omega};rw [w2,ß];have Y:H-1<o.length:=ω;have ⟨b1,p1,n1,c1,p2,n2,c2,b2,p3,n3,c3,p4,n4,c4,c6,Z,g⟩:=Og ct.shape B.row Y;have so:=T _ (ò Y);refine ⟨Ź,B.le,b1,p1,n1,c1,p2,n2,c2,b2,p3,n3,c3,p4,n4,c4,⟨c6,Z⟩,λn5 Zv=>(o_ (ct.le g (Zu.m (pW Zv))) (ct.le A (pW Zv)) so.1 so.2 sx sy).s ?_⟩;rintro r n6 h6 rfl;refine ⟨_,rfl,_,σ,(pW Zv).m h6,λG _=>?_⟩;have G:decide (o[H-1].1=(x:Rat)/\o[H-1].2=(y:Rat))=false:=by{rwa [ŋ] at G};rw [<-zl,h_ Y];exact Â G};rintro z n7 n8 ⟨c7,G⟩;have Py:=Zu.m c7;refine ⟨rfl,λF=>⟨ω,B.le,B.cap,rfl,PO,λsp c' h1 h2=>⟨(H+1,c',_,i-1,Q,R,S,f),ω,σ,o++[((x:Rat),(y:Rat))],(B.up Py).snoc rfl (ct.le A c7) φ h1 h2,rfl,rfl,rfl,t3,ω,by simp;omega,λq M=>?_,λj hj=>?_,U.m Py⟩⟩,λ_=>⟨(H,z2,vs,i-1,Q,R,S,f),ω,σ,o,B.up Py,rfl,rfl,rfl,t3,ω,ω,T,hd,U.m Py⟩⟩;{rcases ü.1 M with M|M;{exact T q M};rw [ú.1 M];exact ⟨sx,sy⟩};rw [ï,Qc5] at hj;have gl:∀{k:Nat},k<o.length->(o++[((x:Rat),(y:Rat))]).getD k (0,0)=o.getD k (0,0):=λ{k} h=>by{rw [ě,Ĺ h,<-ě]};by_cases e:j+1<o.length;{rw [gl e,gl ω];exact hd j e};have e:j=o.length-1:=ω;subst e;have e2:(o++[((x:Rat),(y:Rat))]).getD (o.length-1+1) (0,0)=((x:Rat),(y:Rat)):=by{rw [ě,ŕ ω,show o.length-1+1-o.length=0 by omega];rfl};rw [e2,gl ω];exact G F ω
 ·have ot:∀{m:Nat},m<=o.length->∀{k:Nat},k<m->(o.take m).getD k (0,0)=o.getD k (0,0):=λ{m} hm {k} hk=>by
   rw [ě,List.getElem?_take_of_lt hk,<-ě]
  refine ⟨λz V'=>∃m:Nat,z.1=m/\m<=o.length/\z.2.1=z2/\z.2.2=vs/\g0.Le V',λz=>z.1,⟨(H,z2,vs),σ,H,rfl,ω,rfl,rfl,Ó.Le.refl _⟩,?_⟩;rintro ⟨d,P,ys⟩ h8 n9 ⟨m,em,hm,ey,es,N⟩;dsimp only at em ey es;subst em ey es;have j5:=B.le;dsimp only;refine ⟨rfl,λz V'=>h8.Le V'/\(z=true->1<d)/\(z=false->1<d->Sj (o.getD 0 (0,0)) (o.getD (d-1) (0,0))),⟨λh=>?_,λh=>⟨false,σ,Ó.Le.refl _,π,λ_ g=>Å (Â h) ω⟩⟩,?_⟩
  ·have h:=Á h;have w2:i64.wrap ((d:Int)-1)=((d-1:Nat):Int):=by{rw [aq ω];omega};rw [w2,ß];have i0:0<o.length:=ω;have i1:d-1<o.length:=ω;have ⟨b1,p1,n1,c1,p2,n2,c2,b2,p3,n3,c3,p4,n4,c4,c6,Z,g⟩:=Og ct.shape B.row i0;have ⟨d1,q1,m1,f1,q2,m2,f2,d2,q3,m3,f3,q4,m4,f4,i2,i3,g'⟩:=Og ct.shape B.row i1;have s0:=T _ (ò i0);have s1:=T _ (ò i1);refine ⟨Ź,ω,b1,p1,n1,c1,p2,n2,c2,b2,p3,n3,c3,p4,n4,c4,⟨ω,Z⟩,Ź,ω,d1,q1,m1,f1,q2,m2,f2,d2,q3,m3,f3,q4,m4,f4,⟨i2,i3⟩,λo0 a4=>(o_ (ct.le g (N.m a4)) (ct.le g' (N.m a4)) s0.1 s0.2 s1.1 s1.2).s ?_⟩;rintro r o1 i4 rfl;exact ⟨_,rfl,_,σ,a4.m i4,λ_=>ω,λh _=>by rw [h_ i0,h_ i1];exact Â h⟩
  rintro z o2 o3 ⟨c8,i5,i6⟩;refine ⟨rfl,λF=>?_,λF i7 i8 j6 c9=>?_⟩
  ·have h:=i5 F;have w2:i64.wrap ((d:Int)-1)=((d-1:Nat):Int):=by{rw [aq ω];omega};rw [w2,ß];exact ⟨Ź,(d-1,P,ys),ω,σ,d-1,rfl,ω,rfl,rfl,N.m c8⟩
  ·have i9:=N.m (c8.m i8);have tl:(o.take d).length=d:=by rw [ì];omega
   have hl:=aZ.bo (V:=i7) (al:=o.take d) (c:=P) c9 ⟨λi hi=>by
    rw [tl] at hi;obtain ⟨xs,a1,a2,a3⟩:=(B.row.le λ_ _ g=>ct.le g i9).at_ i ω;exact ⟨xs,a1,by rw [Qt8];exact a2,a3⟩⟩ φ ω
   rw [tl] at hl;refine (qY hl ω (k:=10) (λq M=>T q (Qr9 _ _ M))).s ?_;rintro r o4 j0 ⟨q,m,e,rfl,gs⟩;refine ⟨q,m,e,rfl,λ_=>⟨λa5 o5 o6=>(dN 0 0 ω ω ω).s ?_,λa5 o7 j1 t=>⟨_,_,_,o.take d,b9,rfl,hl.le (j0.m j1),⟨ω,λq M=>T q (Qr9 _ _ M),λj hj=>?_⟩,L,t⟩⟩⟩
   ·rintro r j2 o8 I;have I:ct j2 r (((0:Int):Rat),((0:Int):Rat)):=I;obtain ⟨_,_,_,_,_,_,_,_,_,_,_,_,_,_,rfl⟩:=I.shape;refine qxW ⟨rfl,λo9 Sv=>(dN 2 0 ω ω ω).s ?_⟩;rintro r j3 Zw J;have J:ct j3 r (((2:Int):Rat),((0:Int):Rat)):=J;obtain ⟨_,_,_,_,_,_,_,_,_,_,_,_,_,_,rfl⟩:=J.shape;refine qxW ⟨rfl,λp0 d0=>(dN 0 2 ω ω ω).s ?_⟩;rintro r j4 d3 K;have K:ct j4 r (((0:Int):Rat),((2:Int):Rat)):=K;obtain ⟨_,_,_,_,_,_,_,_,_,_,_,_,_,_,rfl⟩:=K.shape;refine qxW ⟨rfl,λp5 a6 bk t F=>⟨_,_,_,_,b9,rfl,aZ.eY F (mo (sz:=6) (row_one rfl (ct.le I (Sv.m (Zw.m (d0.m (d3.m a6)))))) (mo (sz:=6) (row_one rfl (ct.le J (d0.m (d3.m a6)))) (row_one rfl (ct.le K a6)) rfl φ) rfl φ),?_,L,t⟩⟩;have s:∀z:Int,-40<=z/\z<=40->Sz 10 (z:Rat):=λz h=>E3 h;exact pg3 (jT ⟨s _ ω,s _ ω⟩ (jT ⟨s _ ω,s _ ω⟩ (jT ⟨s _ ω,s _ ω⟩ IK))) (NP) (NP) (RB ω)
   ·have a5:=Â a5;have sl:=gs.len;have:=zT (o.take d);rw [tl] at hj ⊢;by_cases e:j+1<d;{rw [ĩ e,ot hm hj,ot hm e];exact hd j ω};have e:j=d-1:=ω;subst e;rw [show d-1+1=d by omega,Nat.mod_self,ot hm hj,ot hm (show 0<d by omega)];have:=i6 F ω;exact λh=>this ⟨h.1.symm,h.2.symm⟩
theorem QD {V:ut}{tb:Nat}{at_:Int}(hr:Jr V p n)(hn:n<=400)(hw:gY V tb p n c at_)(hx:V.X tb)(h0:0<=at_):À 23 #[Õ (some ⟨tb,0,none⟩)] V λr W=>∃(q:OA)(S:zA L3)(t:Tr)(at':Int),r=Õ q/\RW W q t/\S.length<=12/\VY S 12 t/\0<=at'/\gY W tb p n c at':=by
 have sl:∀{L:zA (zA (Rat×Rat))},(∀l∈L,Pg l)->L.length<=2->(Rr L).length<=12:=λh h2=>by have:=Gs h;unfold Rr;rw [Č];omega
 refine qI tb p n c at_ V _ hw hx λV1 l1 C e1 h1=>(Th (V:=V1.ao [C]) (hr.le l1) hn e1 ⟨ψ,h1⟩ h0).s ?_;rintro r V2 l2 ⟨v,z,d1,A,F3,rfl,gA,pA,t1,D⟩;have L2:V.Le V2:=l1.m (Hi l2);refine ⟨v,z,d1,rfl,p,n,c,F3,D,λV3 l3 O5 e3 h3=>(dL (V:=V3.ao [O5]) 3 (hr.le (L2.m (pW l3))) hn e3 ⟨ψ,h3⟩ t1 ω).s ?_⟩;rintro r V4 l4 ⟨x,E,rfl,x0,x1,t2,F⟩;have g:=(pW l3).m (Hi l4);have G:=L2.m g;refine ⟨x,rfl,p,n,c,E,F,λ_ V5 l5 So e5 h5=>(Th (V:=V5.ao [So]) (hr.le (G.m (pW l5))) hn e5 ⟨ψ,h5⟩ t2).s ?_,λ_ kf e_ Qy i=>?_⟩
 ·rintro r V6 l6 ⟨H,I,d2,B,J,rfl,gB,pB,t3,K⟩;have j:=(pW l5).m (Hi l6);have L6:=G.m j
  have b:∀l∈[A,B],Pg l:=λl m=>by rcases í.1 m with rfl|m;{exact pA};rw [ú.1 m];exact pB
  refine ⟨H,I,d2,rfl,p,n,c,J,K,ω,ω,ψ,rfl,one1,λa1 a3 s a4 u1 u2 V7 M a2 u=>?_⟩
  have N:é 1 Qt V7 (([yD v z d1]:zA un).take (1*1)++([yD H I d2]:zA un)++s) ([A]++[B]):=
   eM (ls:=[A]) (row_one rfl ⟨v,z,d1,rfl,gA.le (g.m (j.m (pW M)))⟩) (row_one rfl ⟨H,I,d2,rfl,gB.le (pW M)⟩) φ
  refine (zD (L:=[A,B]) (aZ.eY u N) (by show 2<=1000;omega) b).s ?_;rintro r V8 l8 ⟨O,P,d3,rfl,Q⟩;have L8:=L6.m ((pW M).m l8);refine ⟨O,P,d3,rfl,λ_ V9 l9 T U W=>(dL (V:=V9.ao [T]) 2 (hr.le (L8.m l9)) hn U ⟨ψ,W⟩ t3 ω).s ?_⟩;rintro r eV Y ⟨y,a,rfl,y0,y1,t4,e⟩;have Z:=l9.m (Hi Y);refine ⟨y,rfl,p,n,c,a,e,λeW cU=>(vY _ (Q.le (Z.m (pW cU)) λ_ _ k=>OZ.s k (λ_ _ k=>gS.le k (Z.m (pW cU))) (Z.m (pW cU))) (by show 2<=1000;omega) b).s ?_⟩;rintro r gC dI ⟨q4,m4,d4,q5,m5,d5,rfl,gM⟩;refine ⟨q4,m4,d4,_,q5,m5,d5,rfl,λiI dS=>(uh (gM.le dS) (by show 2<=2;omega) b).s ?_⟩;rintro r kK fH ⟨o,t,rfl,w,R⟩;exact ⟨o,rfl,λke fB f=>⟨o,Rr [A,B],t,a,rfl,w.le fB,sl b (by show 2<=2;omega),R,t4,f⟩⟩
 ·have d:∀l∈[A],Pg l:=λl m=>by{rw [ú.1 m];exact pA};refine (zD (L:=[A]) (aZ.eY i (row_one rfl ⟨v,z,d1,rfl,gA.le (g.m (pW e_))⟩)) (by show 1<=1000;omega) d).s ?_;rintro r lu gX ⟨O,P,d3,rfl,Q⟩;have a0:=G.m ((pW e_).m gX);refine ⟨O,P,d3,rfl,λ_ mD gj T U W=>(dL (V:=mD.ao [T]) 2 (hr.le (a0.m gj)) hn U ⟨ψ,W⟩ t2 ω).s ?_⟩;rintro r nf je ⟨y,a,rfl,y0,y1,t4,e⟩;have T8:=gj.m (Hi je);refine ⟨y,rfl,p,n,c,a,e,λkg il=>(vY _ (Q.le (T8.m (pW il)) λ_ _ k=>OZ.s k (λ_ _ k=>gS.le k (T8.m (pW il))) (T8.m (pW il))) (by show 1<=1000;omega) d).s ?_⟩;rintro r qC nQ ⟨q4,m4,d4,q5,m5,d5,rfl,gM⟩;refine ⟨q4,m4,d4,_,q5,m5,d5,rfl,λqN lZ=>(uh (gM.le lZ) (by show 1<=2;omega) d).s ?_⟩;rintro r qD l_ ⟨o,t,rfl,w,R⟩;exact ⟨o,rfl,λAa g f=>⟨o,Rr [A],t,a,rfl,w.le g,sl d (by show 1<=2;omega),R,t4,f⟩⟩
theorem dU.both {p q:L3->Prop}:∀{t:Tr},t.dU p->t.dU q->t.dU λl=>p l/\q l
 | .leaf _,_,_=>trivial
 | .node _ _ _,⟨a,b,c⟩,⟨d,e,f⟩=>⟨⟨a,d⟩,dU.both b e,dU.both c f⟩
theorem P5 {t:Tr}(h:t.dU kh)(u:t.size<=12:=by omega):VY t.cJ 12 (vg t [])/\t.cJ.length<=12:=
 ⟨(vh (λ_ h=>h.1.1) (dU.both h (Hn t)) ű Ir).s (Ā (oo t) u),by rw [jP];exact u⟩
theorem Tg:∀(k:Nat) {V:ut} {tb:Nat} {p:OA} {n c:Nat} {at_:Int},k<=1->Jr V p n->n<=400->gY V tb p n c at_->V.X tb->0<=at_ ->À 5 #[Õ (some ⟨tb,0,none⟩),Ô .i64 (k:Int)] V λr W=>∃(q:OA)(S:zA L3)(t:Tr)(at':Int),r=Õ q/\RW W q t/\S.length<=12*(k+1)/\VY S (12*(k+1)) t/\0<=at'/\gY W tb p n c at':=by
 intro k
 have base:∀(k:Nat) {V:ut} {tb:Nat} {p:OA} {n c:Nat} {at_:Int},(k=0\/∀{V:ut} {tb:Nat} {p:OA} {n c:Nat} {at_:Int},Jr V p n->n<=400->gY V tb p n c at_->V.X tb->0<=at_ ->
   À 5 #[Õ (some ⟨tb,0,none⟩),Ô .i64 ((k-1:Nat):Int)] V λr W=>∃(q:OA)(S:zA L3)(t:Tr)(at':Int),r=Õ q/\RW W q t/\S.length<=12*k/\VY S (12*k) t/\0<=at'/\gY W tb p n c at')->k<=1->Jr V p n->n<=400->gY V tb p n c at_->V.X tb->0<=at_ ->
   À 5 #[Õ (some ⟨tb,0,none⟩),Ô .i64 (k:Int)] V λr W=>∃(q:OA)(S:zA L3)(t:Tr)(at':Int),r=Õ q/\RW W q t/\S.length<=12*(k+1)/\VY S (12*(k+1)) t/\0<=at'/\gY W tb p n c at':=by
  intro k V tb p n c at_ ih hk i j hw G s;refine sT tb p n c at_ k V _ hw G λV1 l1 I e1 h1=>(dL (V:=V1.ao [I]) 6 (i.le l1) j e1 ⟨ψ,h1⟩ s ω).s ?_;rintro r V2 l2 ⟨x,F3,rfl,x0,x1,t1,J⟩;have L2:V.Le V2:=l1.m (Hi l2);refine ⟨x,rfl,p,n,c,F3,J,λz V'=>V2.Le V'/\(z=true->0<k),⟨λ_=>⟨_,σ,λb o h=>h,λh=>by have:=Á h;omega⟩,λ_=>⟨false,σ,λb o h=>h,π⟩⟩,?_⟩;rintro z V3 l3 ⟨l_,hz⟩;have u:=L2.m l_;have WI:∀{W W':ut} {m:Nat},V3.Le W->gY W m p n c F3->W.H m->À 23 #[Õ (some ⟨m,0,none⟩)] (W.ao [m]) λr W=>∃(q:OA)(S:zA L3)(t:Tr)(at':Int),r=Õ q/\RW W q t/\S.length<=12/\VY S 12 t/\0<=at'/\gY W m p n c at':=λ{W W' m} l e h=>QD (V:=W.ao [m]) (i.le (u.m l)) j e ⟨ψ,h⟩ t1;have fin:∀{W:ut} {q:OA} {S:zA L3} {t:Tr} {a:Int},RW W q t->S.length<=12->VY S 12 t->0<=a->gY W tb p n c a->∃(q':OA)(S:zA L3)(t:Tr)(at':Int),Value.pointer q=Õ q'/\RW W q' t/\S.length<=12*(k+1)/\VY S (12*(k+1)) t/\0<=at'/\gY W tb p n c at':=λ{W q S t a} w hS R s hT=>⟨q,S,t,a,rfl,w,ω,R.s ω,s,hT⟩;refine ⟨rfl,λK=>?_,λ_=>⟨λ_ kK fH WG L Wj=>(c_L (V:=kK.ao [WG]) (i.le (u.m fH)) j L ⟨ψ,Wj⟩ t1).s ?_,λ_=>⟨λ_ qD v A M N=>(c_Tree 3 (V:=qD.ao [A]) ω (i.le (u.m v)) j M ⟨ψ,N⟩ t1).s ?_,λ_=>⟨λ_ Wx KI a4 O P=>(WI (W':=Wx) KI O P).s ?_,λ_ V_ CG a5 Q U=>(WI (W':=V_) CG Q U).s ?_⟩⟩⟩⟩
  ·have a6:=hz K;have ww:i64.wrap ((k:Int)-1)=((k-1:Nat):Int):=by{rw [aq ω];omega};rcases ih with e0|B;{omega};rw [ww];intro V4 l4 Sn e4 h4;refine (B (V:=V4.ao [Sn]) (i.le (u.m l4)) j e4 ⟨ψ,h4⟩ t1).s ?_;rintro r V5 l5 ⟨q1,S1,u1,d,rfl,w1,s1,E,t2,f⟩;have L5:=u.m (l4.m (Hi l5));refine ⟨q1,rfl,p,n,c,d,f,λV6 l6 Y e6 h6=>(dL (V:=V6.ao [Y]) 4 (i.le (L5.m (pW l6))) j e6 ⟨ψ,h6⟩ t2 ω).s ?_⟩;rintro r V7 l7 ⟨y,Z,rfl,y0,y1,t3,a0⟩;have Zw:=(pW l6).m (Hi l7);refine ⟨y,rfl,p,n,c,Z,a0,λV8 l8 Qz e8 h8=>(B (V:=V8.ao [Qz]) (i.le (L5.m (Zw.m (pW l8)))) j e8 ⟨ψ,h8⟩ t3).s ?_⟩;rintro r V9 l9 ⟨q2,S2,u2,C,rfl,w2,s2,F,t4,a1⟩;have a2:=(pW l8).m (Hi l9);refine ⟨q2,rfl,p,n,c,C,a1,λeV D=>(hZ (cp:=none) (cn:=0) (cc:=0) (c:=[]) (F.all.imp λ_ h=>h.1) u1 (w1.le (Zw.m (a2.m (pW D)))) (w2.le (pW D)) (E.all.imp λ_ h=>h.1) aZ.nil ű (by have:=E.dep;have:=F.dep;simp;omega)).s ?_⟩;rintro r eW cU ⟨o,rfl,w⟩;have R:=CW (q:=λl=>kh l/\l∈S1++S2) (λ_ h=>h.1.1) (op:=i64.wrap (1+y)) (b:=u2) (F.all.imp λ_ h=>⟨h.1,ŝ _ h.2⟩) (a:=u1) (c:=[]) (E.all.imp λ_ h=>⟨h.1,Ń _ h.2⟩) ű Ir;exact ⟨o,rfl,λgC dI g=>⟨o,S1++S2,_,C,rfl,w.le dI,by rw [ï];omega,R.s (by have:=E.dep;have:=F.dep;omega),t4,g⟩⟩
  ·rintro r ke fB ⟨l,d,gl,ok,bd,t2,f⟩;have a3:=gl;obtain ⟨_,_,_,_,_,_,_,_,_,_,_,_,rfl⟩:=br gl;refine qxJ ⟨rfl,p,n,c,d,f,λkf e_=>(cT true).s ?_⟩;rintro r lu gX ⟨o1,rfl,k1⟩;refine ⟨o1,rfl,λmD gj=>(cT false).s ?_⟩;rintro r nf je ⟨o2,rfl,k2⟩;refine ⟨o2,rfl,λkg il m hb=>?_⟩;have T:(Tr.node l (.leaf true) (.leaf false)).dU kh:=⟨⟨ok,bd⟩,trivial,trivial⟩;refine (lM (.node l (.leaf true) (.leaf false)) (P8 hb (bW.le a3 ((pW e_).m (gX.m (gj.m (je.m il))))) (k1.le (gj.m (je.m il))) (k2.le il)) T (by show 1+0<=990;omega)).s ?_;rintro r qC nQ ⟨o3,rfl,k3⟩;have ⟨R,sl⟩:=P5 T (by show 1+0+0<=12;omega);exact ⟨o3,rfl,λ_ qN lZ g=>fin (k3.le lZ) sl R t2 g⟩
  ·rintro r Aa nt ⟨q,t,d,rfl,w,ta,ts,t2,f⟩;refine ⟨q,rfl,p,n,c,d,f,λA8 uV=>(lM t (w.le (pW uV)) ta (by have:=oo t;omega)).s ?_⟩;rintro r MD Bj ⟨o,rfl,w'⟩;have ⟨R,sl⟩:=P5 ta;exact ⟨o,rfl,λMQ yF g=>fin (w'.le yF) sl R t2 g⟩
  ·rintro r YV H5 ⟨q,S,t,d,rfl,w,sl,R,t2,f⟩;refine ⟨q,rfl,p,n,c,d,f,λSH MJ=>(mN t (w.le (pW MJ))).s ?_⟩;rintro r Z_ H6 ⟨o,rfl,w'⟩;exact ⟨o,rfl,λa7 H7 g=>fin (w'.le H7) sl R.not t2 g⟩
  ·rintro r a8 MK ⟨q,S,t,d,rfl,w,sl,R,t2,f⟩;exact ⟨q,rfl,p,n,c,d,f,λa9 EU g=>fin (w.le (pW EU)) sl R t2 g⟩
 intro V tb p n c at_ hk
 exact base k (by
  by_cases h:k=0
  ·exact .inl h
  ·obtain rfl:k=1:=ω
   exact .inr λi j hw G s=>base 0 (.inl rfl) ω i j hw G s) hk
open Classical in
theorem Yq {S:zA L3}{d:Nat}{t:Tr}(h:VY S d t)(y:S.length<=24):∃u:zA L3,u.length<=24/\(∀l∈u,kh l)/\(t.dU λl=>Bd l/\l∈u)/\t.dU kh/\t.size<=600/\t.depth<=d:=by have b:∀l∈S.filter (λl=>decide (kh l)),kh l:=λl a=>by{simpa using (ļ.1 a).2};have c:t.dU λl=>l∈S.filter λl=>decide (kh l):=h.all.imp λl g=>ļ.2 ⟨g.2,by simpa using g.1⟩;have a:(S.filter λl=>decide (kh l)).length<=24:=Ā (Qd8 ..) y;refine ⟨S.filter λl=>decide (kh l),a,b,c.imp λl g=>⟨(b l g).2,g⟩,h.all.imp λ_ g=>g.1,?_,h.dep⟩;refine Ā (Vq h.prp (W_ []) c λl g=>(b l g).1) ?_;exact Ā (Qg3 a (Nat.add_le_add_left a 1)) φ
theorem le_new {u V2 y:ut}{z:Nat}(D:u.Le V2)(F:u.w.heap.size<=z)(E:(V2.T0 z).Le y):u.Le y:=λb o h=>E b o ⟨λc=>c.elim (D b o h).1 λe=>by
  have d:b<u.w.heap.size:=by
   rcases ę b u.w.heap.size with a|a
   ·exact a
   ·have:=h.2;rw [Qh9 a] at this;cases this
  have:=e.1;omega,(D b o h).2⟩
end
end Go.Proofs.Tryz
