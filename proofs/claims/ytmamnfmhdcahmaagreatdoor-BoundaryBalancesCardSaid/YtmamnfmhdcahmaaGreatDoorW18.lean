import Derived.Shelf.SlSortCmp.WholeK
import Derived.Shelf.SlSortCmp.NoneTotal
import Derived.Test.YtmamnfmhdcahmaaGreatDoorW17
set_option linter.all false
open Go.IntKind (i64 u64 u32)
open Go.Value renaming slice→pT,agg→dB,bool→Õ,pointer→qvZ,tuple→æ,int→Ô
open Go.Eng Go.Big
namespace Go.Proofs.Tryz
variable{V:Ó}{p:OA}{k n:Nat}{vs:List Value}
theorem NS.rd {c l}(h:NS V p n c l){d}(hd:l[k]?=some d):∃(b1:ut)(u:OA)(y c1:Nat)(b2:ut)(z:OA)(E F:Nat)(b3:ut)(N:OA)(O Z:Nat)(a:Addr),af p (k*8)=some a/\V.at (a.add 0) (Õ b1)/\V.at (a.add 1) (pT u y c1)/\V.at (a.add 2) (Õ b2)/\V.at (a.add 3) (pT z E F)/\V.at (a.add 4) (Õ b3)/\V.at (a.add 5) (pT N O Z)/\V.at (a.add 6) (Jq d.left)/\V.at (a.add 7) (Jq d.right)/\YT V (dB #[Õ b1,pT u y c1,Õ b2,pT z E F,Õ b3,pT N O Z]) d.ln:=by obtain ⟨s,b,g⟩:=h.row;obtain ⟨b1,u,y,c1,b2,z,E,F,b3,N,O,Z,f,i⟩:=g k d hd;obtain ⟨m,rfl,-⟩:=b _ _ (f 0 _ rfl);have key:∀j v,([Õ b1,pT u y c1,Õ b2,pT z E F,Õ b3,pT N O Z,Jq d.left,Jq d.right]:zA um)[j]?=some v->V.at ((m.add (k*8)).add j) v:=by{intro j v o;have ⟨q,e,r⟩:=b _ _ (f j v o);cases e;rw [MA];exact r};exact ⟨b1,u,y,c1,b2,z,E,F,b3,N,O,Z,_,rfl,key 0 _ rfl,key 1 _ rfl,key 2 _ rfl,key 3 _ rfl,key 4 _ rfl,key 5 _ rfl,key 6 _ rfl,key 7 _ rfl,i⟩
theorem ML {l}(hb:∀x∈l,Bd x.ln)(hlen:l.length<=65536):∀(f:Nat) (n:Int) (s:RS) {V:un} {rb sb:Nat} {npp:OA} {nc:Nat},NS V npp l.length nc l ->V.w.heap[rb]?=some (.cells #[pT npp l.length nc,pT (some ⟨sb,0,none⟩) l.length l.length,Jq (s.qI:Int),Õ s.bad] 189 (0,0))->V.X rb ->V.w.heap[sb]?=some (.cells (qP s.seen).toArray 4 (0,0))->V.X sb->rb≠sb->s.seen.length=l.length->s.seen.count false<f->s.qI+s.seen.count false<=l.length ->À 103 #[qvZ (some ⟨rb,0,none⟩),Jq n] V λr W=>∃p,r=qvZ p/\RT W p (js l f n s).1/\W.w.heap[rb]?=some (.cells #[pT npp l.length nc,pT (some ⟨sb,0,none⟩) l.length l.length,Jq ((js l f n s).2.qI:Int),Õ (js l f n s).2.bad] 189 (0,0))/\W.w.heap[sb]?=some (.cells (qP (js l f n s).2.seen).toArray 4 (0,0)):=by
 intro f
 induction f with
 | zero=>intro n s V rb sb npp nc _ _ _ _ _ _ _ h;omega
 | succ f ih=>
  intro n s V rb sb npp nc D Q R S T W E b7 b8;refine vo rb sb npp l.length nc l.length l.length s.qI s.bad (qP s.seen) n V _ Q R S T W ⟨λt V1 l1=>(jg _).s ?_,λt=>⟨λC V4 l4=>(jg _).s ?_,λC=>⟨λF V7 l7=>(jg _).s ?_,λF=>⟨λL gx b9=>(jg _).s ?_,λL=>?_⟩⟩⟩⟩
  ·rintro r V2 G ⟨p,rfl,d⟩;have Y:n=-2:=by{simpa using t};have e:js l (f+1) n s=(.leaf true,s):=by{simp [js,Y]};rw [t] at d;exact ⟨p,rfl,λI j g c=>⟨p,rfl,by rw [e];exact d.le j,by rw [e];exact g,by rw [e];exact c⟩⟩
  ·rintro r V2 G ⟨p,rfl,d⟩;have Y:n=-1:=by{simpa using C};have e:js l (f+1) n s=(.leaf false,s):=by{simp [js,Y]};rw [t] at d;exact ⟨p,rfl,λI j g c=>⟨p,rfl,by rw [e];exact d.le j,by rw [e];exact g,by rw [e];exact c⟩⟩
  ·rintro r V2 G ⟨p,rfl,d⟩;have A:¬n=-2:=by{simpa using t};have B:¬n=-1:=by{simpa using C};have y:n<0:=by{simpa using F};have e:js l (f+1) n s=(.leaf false,{ s with bad:=true }):=by{simp [js,A,B,y]};exact ⟨p,rfl,λI j g c=>⟨p,rfl,by rw [e];exact d.le j,by rw [e];exact g,by rw [e];exact c⟩⟩
  ·rintro r V2 G ⟨p,rfl,d⟩;have A:¬n=-2:=by{simpa using t};have B:¬n=-1:=by{simpa using C};have y:¬n<0:=by{simpa using F};have M:(l.length:Int)<=n:=by{simpa using L};have e:js l (f+1) n s=(.leaf false,{ s with bad:=true }):=by{simp only [js,A,B,y,Ð];rw [ţ ω]};exact ⟨p,rfl,λI j g c=>⟨p,rfl,by rw [e];exact d.le j,by rw [e];exact g,by rw [e];exact c⟩⟩
  ·have A:¬n=-2:=by{simpa using t};have B:¬n=-1:=by{simpa using C};have y:¬n<0:=by{simpa using F};have M:n<(l.length:Int):=by{simpa using L};clear t C F L;obtain ⟨k,rfl⟩:=č (Ww8.1 y);have hk:k<l.length:=ω;have Z:k<s.seen.length:=ω;simp only [Ü,ĝ,Ĉ];have i:=ï Z;have m:=ï hk;refine ⟨⟨ω,M⟩,s.seen[k],Qu i,λh4 kE fw=>(jg _).s ?_,λh4=>⟨⟨ω,M⟩,by simp [qP];omega,D.isS ω,⟨ω,M⟩,?_⟩⟩;{rintro r V2 G ⟨p,rfl,d⟩;have e:js l (f+1) (k:Int) s=(.leaf false,{ s with bad:=true }):=by{simp only [js,A,B,y,Ð,Ü];rw [i,h4,m]};exact ⟨p,rfl,λI j g c=>⟨p,rfl,by rw [e];exact d.le j,by rw [e];exact g,by rw [e];exact c⟩⟩};{obtain ⟨b1,p1,m1,c1,b2,p2,m2,c2,b3,p3,m3,c3,a,ha,a0,a1,a2,a3,a4,a5,a6,a7,hL⟩:=D.rd m;refine ⟨b1,p1,m1,c1,b2,p2,m2,c2,b3,p3,m3,c3,_,_,a,ha,a0,a1,a2,a3,a4,a5,a6,a7,λmh fP=>(Hn ra (hb _ (ô hk))).s ?_⟩;rintro r mX gX ⟨w,rfl,⟨x1,x2,x3,y1,y2,y3,z1,z2,z3,rfl⟩,hw⟩;rw [h4] at i;have J:(qP s.seen).set k (Õ true)=qP (s.seen.set k true):=by{simp [qP,List.map_set]};have N:=count_set i;have w1:i64.wrap ((s.qI:Int)+1)=((s.qI+1:Nat):Int):=by{rw [au ω];omega};rw [J,w1];refine ⟨_,_,_,_,_,_,_,_,_,_,rfl,λz nM gy=>(jg _).s ?_,λz qN mo a8 a9 g c g3 g4 g5=>?_⟩;{rintro r V2 G ⟨p,rfl,d⟩;have z:bX l[k].ln=false:=by{simpa using z};have e:js l (f+1) (k:Int) s=(.leaf false,⟨s.seen.set k true,s.qI+1,true⟩):=by{simp only [js,A,B,y,Ð,Ü];rw [i,m];simp [z]};exact ⟨p,rfl,λI j g c=>⟨p,rfl,by rw [e];exact d.le j,by rw [e];exact g,by rw [e];exact c⟩⟩};{have z:bX l[k].ln=true:=by{simpa using z};have O:∀(U:un)(u v:Nat),U.H u->U.H v->(U.aw [u,v]).X u/\(U.aw [u,v]).X v:=λU u v hu hv=>⟨⟨ψ,hu⟩,⟨ψ,hv⟩⟩;have i1:=ih l[k].left ⟨s.seen.set k true,s.qI+1,s.bad⟩ (V:=qN.aw [a8,a9]) ra g (O _ _ _ c g4).1 g3 (O _ _ _ c g4).2 g5 (by simp [E]) (by dsimp only;omega) (by dsimp only;omega);have hm:=CX l f l[k].left ⟨s.seen.set k true,s.qI+1,s.bad⟩;have b0:=Ij l f l[k].left ⟨s.seen.set k true,s.qI+1,s.bad⟩;have e:js l (f+1) (k:Int) s=(.node l[k].ln (js l f l[k].left ⟨s.seen.set k true,s.qI+1,s.bad⟩).1 (js l f l[k].right (js l f l[k].left ⟨s.seen.set k true,s.qI+1,s.bad⟩).2).1,(js l f l[k].right (js l f l[k].left ⟨s.seen.set k true,s.qI+1,s.bad⟩).2).2):=by{simp only [js,A,B,y,Ð,Ü];rw [i,m];simp [z]};rw [e];clear e;dsimp only;generalize js l f l[k].left ⟨s.seen.set k true,s.qI+1,s.bad⟩=q1 at *;obtain ⟨t1,s1⟩:=q1;dsimp only at i1 hm b0 ⊢;refine i1.s ?_;rintro r tR oB ⟨p,rfl,d,e1,e2⟩;refine ⟨p,rfl,_,_,_,_,_,e1,_,e2,λP mL Y_ SX f1 f2 f3 f4 f5=>?_⟩;have c0:qN.Le P:=λb o h=>mL b o (oB b o h);have i2:=ih l[k].right s1 (V:=P.aw [Y_,SX]) ra f1 (O _ _ _ f2 f4).1 f3 (O _ _ _ f2 f4).2 f5 (by rw [hm.2];simp [E]) ω ω;generalize js l f l[k].right s1=q2 at *;obtain ⟨t2,s2⟩:=q2;dsimp only at i2 ⊢;refine i2.s ?_;rintro r Ec oC ⟨q,rfl,hq,e3,e4⟩;refine ⟨q,rfl,_,_,_,_,_,e3,_,e4,λBw zC=>?_⟩;have b5:P.Le Ec:=λb o h=>oC b o h;have K:Ec.Le Bw:=λb o h=>zC b o h;have b6:tR.Le P:=λb o h=>mL b o h;refine (Qy ((hw z).le (mo.m ax)) (d.le ax) (hq.le K)).s ?_;rintro r Jw yr ⟨u,rfl,hu⟩;exact ⟨u,rfl,λMp Bf g c=>⟨u,rfl,hu.le Bf,g,c⟩⟩}}
theorem Ti {l}(Z:∀x∈l,Bd x.ln){c}(root)(h:NS V p n c l):À 55 #[dB #[Jq root,pT p n c]] V λr W=>(Gv l root=none->∃q,r=æ #[qvZ q,Õ false])/\(∀t,Gv l root=some t->∃q,r=æ #[qvZ q,Õ true]/\RT W q t):=by have v:=h.len;subst v;refine Sf V _ ⟨λa I J=>?_,λa=>⟨ω,Wx8 _,?_,λV2 K j k u w m y z=>?_⟩⟩;{have a:65536<l.length:=by{simp at a;omega};have e:Gv l root=none:=by{unfold Gv;rw [Ä a]};exact ⟨λ_=>⟨_,rfl⟩,λt d=>by rw [e] at d;cases d⟩};{have a:¬65536<l.length:=by{simp at a;omega};omega};{have a:¬65536<l.length:=by{simp at a;omega};simp only [Ü] at u m ⊢;have A:List.replicate l.length (Value.bool false)=qP (List.replicate l.length false):=by{simp [qP]};rw [A] at m;have B:(List.replicate l.length false).count false=l.length:=ψ;refine (ML Z ω (l.length+1) root ⟨List.replicate l.length false,0,false⟩ (V:=V2.aw [j,k]) ra u ⟨ψ,w⟩ m ⟨ψ,y⟩ z ψ (by dsimp only;omega) (by dsimp only;omega)).s ?_;rintro r C L ⟨q,rfl,D,E,F⟩;have g:Gv l root=if (js l (l.length+1) root ⟨List.replicate l.length false,0,false⟩).2.bad=true\/(js l (l.length+1) root ⟨List.replicate l.length false,0,false⟩).2.qI≠l.length then none else some (js l (l.length+1) root ⟨List.replicate l.length false,0,false⟩).1:=by{unfold Gv;rw [Ã a]};rw [g];clear g;generalize js l (l.length+1) root ⟨List.replicate l.length false,0,false⟩=r0 at *;obtain ⟨t,s⟩:=r0;refine ⟨q,rfl,_,_,_,_,_,E,_,F,λi M N=>?_,λi=>⟨λf O P=>?_,λf G H=>?_⟩⟩;{rw [Ä (.inl i)];exact ⟨λ_=>⟨_,rfl⟩,λt d=>by cases d⟩};{have f:s.qI≠l.length:=by{simp at f;omega};rw [Ä (.inr f)];exact ⟨λ_=>⟨_,rfl⟩,λt d=>by cases d⟩};{have f:s.qI=l.length:=by{simp at f;omega};dsimp only at i ⊢;rw [Ã (by rw [i,f];simp)];exact ⟨λe=>(by cases e),λt1 d=>by cases d;exact ⟨q,rfl,RT.le (V:=C) (V':=G) (λb o h=>H b o h) D⟩⟩}}
theorem ae.monoH {f args}{R u:um->un->Prop}(h:À f args V R)(y:∀r V',V.Le V'->(∀b,V'.H b->V.H b)->R r V'->u r V'):À f args V u:=
 ⟨h.1,h.2.s λ_ c ⟨r,he,a,d⟩=>⟨r,he,a,y r _ (V.Ul c a) (λ_ e=>e) d⟩⟩
theorem kt {b}(h:vs≠[]):vb vs n b=b:=by cases vs with|nil=>exact Å rfl h|cons v r=>rfl
theorem NR.push {vs sp:zA um}{l}(h:NR V vs l)(hl:l.length*8<=vs.length){ln:L3}{x y b1 E F c1 b2 N O Z b3 p3 n3 c3}(hL:RL V (dB #[Õ b1,pT E F c1,Õ b2,pT N O Z,Õ b3,pT p3 n3 c3]) ln.1 ln.2.1 ln.2.2):NR V (vs.take (l.length*8)++[Õ b1,pT E F c1,Õ b2,pT N O Z,Õ b3,pT p3 n3 c3,Jq x,Jq y]++sp) (l++[⟨ln,x,y⟩]):=by intro i d a;rcases Ď i l.length with b|b;{rw [Ĳ b] at a;have ⟨c,e,f,g,k,m,n,o,p,q,r,s,z,u⟩:=h i d a;refine ⟨c,e,f,g,k,m,n,o,p,q,r,s,λj v w=>?_,u⟩;have A:j<8:=χ;grind};{rw [Ň b] at a;have t:i=l.length:=χ;subst t;simp only [Wv1,List.getElem?_cons_zero,ā] at a;subst a;refine ⟨b1,E,F,c1,b2,N,O,Z,b3,p3,n3,c3,λj v w=>?_,.inl hL⟩<;>grind [Nat.add_sub_cancel_left]}
theorem NR.set6 {l}(h:NR V vs l){d}(y:l[k]?=some d){x}:NR V (vs.set (k*8+6) (Jq x)) (l.set k ⟨d.ln,x,d.right⟩):=by intro i t a;rw [Qp9] at a;split at a;{rename_i e;subst e;split at a;{cases a;obtain ⟨b1,b,c,f,b2,g,m,n,b3,o,p,q,s,r⟩:=h k d y;refine ⟨b1,b,c,f,b2,g,m,n,b3,o,p,q,λj v u=>?_,r⟩;rw [Qp9];by_cases w:j=6;{subst w;have:=s 6 _ rfl;grind};grind};{cases a}};{rename_i e;obtain ⟨b1,b,c,f,b2,g,m,n,b3,o,p,q,s,r⟩:=h i t a;refine ⟨b1,b,c,f,b2,g,m,n,b3,o,p,q,λj v u=>?_,r⟩<;>grind}
theorem NR.set7 {l}(h:NR V vs l){d}(z:l[k]?=some d){x}:NR V (vs.set (k*8+7) (Jq x)) (l.set k ⟨d.ln,d.left,x⟩):=by intro i w a;rw [Qp9] at a;split at a;{rename_i e;subst e;split at a;{cases a;obtain ⟨b1,b,c,f,b2,g,m,n,b3,o,p,q,t,r⟩:=h k d z;refine ⟨b1,b,c,f,b2,g,m,n,b3,o,p,q,λj v u=>?_,r⟩;rw [Qp9];by_cases y:j=7;{subst y;have:=t 7 _ rfl;have s:k*8+7<vs.length:=by{rcases Ď (k*8+7) vs.length with h|h;{exact h};{rw [ţ h] at this;cases this}};rw [Ä rfl,Ä s];exact u};grind};{cases a}};{rename_i e;obtain ⟨b1,b,c,f,b2,g,m,n,b3,o,p,q,t,r⟩:=h i w a;refine ⟨b1,b,c,f,b2,g,m,n,b3,o,p,q,λj v u=>?_,r⟩<;>grind}
theorem NR.kids {V}{l r:zA Nd}{ln:L3}{u v x y:Int}(h:NR V vs (l++⟨ln,u,v⟩::r)):NR V ((vs.set (l.length*8+6) (Jq x)).set (l.length*8+7) (Jq y)) (l++⟨ln,x,y⟩::r):=by have b:(l++(⟨ln,u,v⟩:Nd)::r)[l.length]?=some ⟨ln,u,v⟩:=ψ;have a:=h.set6 b (x:=x);have c:(l++(⟨ln,u,v⟩:Nd)::r).set l.length ⟨ln,x,v⟩=l++⟨ln,x,v⟩::r:=ψ;rw [c] at a;have d:(l++(⟨ln,x,v⟩:Nd)::r)[l.length]?=some ⟨ln,x,v⟩:=ψ;have e:=a.set7 d (x:=y);grind
theorem NR.take {l}(h:NR V vs l):NR V (vs.take (l.length*8)) l:=by intro i d a;obtain ⟨b1,b,c,e,b2,f,g,k,b3,m,n,o,q,p⟩:=h i d a;refine ⟨b1,b,c,e,b2,f,g,k,b3,m,n,o,λj v r=>?_,p⟩<;>grind
theorem NS.ofRow {V b c vm l ty}(z:vm≠[]->V.bh b (.cells vm.toArray ty (0,0)))(u:l.length<=c)(y:NR V vm l):NS V (mA b c) l.length c l:=by refine ⟨rfl,u,⟨_,?_,y.take⟩,?_⟩;{intro i v a;rw [ĩ] at a;split at a;{rename_i f;have d:vm≠[]:=λe=>by{rw [e] at a;simp at a};refine ⟨⟨b,0,none⟩,by unfold mA;rw [Ã ω],?_⟩<;>grind [add_zero',dX]};{cases a}};{intro e;unfold mA at e;grind}
def Mt:List Tr->Nat
 | []=>0
 | t::r=>2*t.size+1+Mt r
theorem CK (a b):Mt (a++b)=Mt a+Mt b:=by
 induction a with
 | nil=>simp [Mt]
 | cons t r u=>simp only [Qc0,Mt];omega
def Stk (V:Ó)(vs:List Value)(ts:List Tr):Prop:=∀(i:Nat)(t:Tr),ts[i]?=some t->∃p,vs[i]?=some (.pointer p)/\RT V p t
theorem Stk.le {V V' ts}(h:Stk V vs ts)(l:V.Le V'):Stk V' vs ts:=λi t a=>by
 have ⟨p,b,c⟩:=h i t a;exact ⟨p,b,c.le l⟩
theorem XY (ts):ts.length<=Mt ts:=by
 induction ts with
 | nil=>simp
 | cons t r u=>simp only [Mt,Ā];omega
theorem Stk.Yf {sp:zA um}{ts x y q m}(h:Stk V vs ts)(hm:m<=ts.length)(u:m<=vs.length)(z:RT V p x)(E:RT V q y):Stk V (vs.take m++[qvZ p,qvZ q]++sp) (ts.take m++[x,y]):=by intro i t a;rcases Ď i m with b|b;{rw [Ĳ (by rw [ê];omega),ĩ,Ä b] at a;have ⟨r,c,d⟩:=h i t a;grind};{rw [Ň (by rw [ê];omega),ê,ğ hm] at a;obtain ⟨j,rfl⟩:∃j,i=m+j:=⟨i-m,ω⟩;rw [Qn1] at a;have e:∀v,([qvZ p,qvZ q]:zA um)[j]?=some v->(vs.take m++[qvZ p,qvZ q]++sp)[m+j]?=some v:=χ;grind}
def AT (V:Ó)(v:Value)(root:Int)(l:List Nd):Prop:=∃q n c,v=.agg #[.int .i64 root,.slice q n c]/\NS V q n c l
theorem AT.le {V V' v root l}(h:AT V v root l)(u:V.Le V'):AT V' v root l:=by obtain ⟨q,n,c,e,h⟩:=h;exact ⟨q,n,c,e,h.le u⟩
theorem Qz {l}(u:∀x∈l,Bd x.ln){v root}(h:AT V v root l):À 55 #[v] V λr W=>∃q,r=æ #[qvZ q,Õ (Gv l root).isSome]/\∀t,Gv l root=some t->RT W q t:=by obtain ⟨p,n,c,rfl,h⟩:=h;refine (Ti u root h).s ?_;rintro r V' _ ⟨b,d⟩;(cases e:Gv l root with|none=>{obtain ⟨q,rfl⟩:=b e;exact ⟨q,rfl,λt a=>by cases a⟩}|some t=>{obtain ⟨q,rfl,f⟩:=d t e;exact ⟨q,rfl,λg a=>by cases a;exact f⟩})
def RW (V:Ó):OA->Tr->Prop
 | p,.leaf i=>∃(b:Nat)(u z c4 c5 c6 c7 c8 c9:Value),p=some ⟨b,0,none⟩/\V.bh b (.cells #[.bool true,.bool i,u,z,c4,c5,c6,c7,c8,c9] 64 (0,0))
 | p,.node l x y=>∃(b:Nat)(i:Bool)(b1:Bool)(E:OA)(F c1:Nat)(b2:Bool)(N:OA)(O u:Nat)(b3:Bool)(Z:OA)(n3 z:Nat)(pl pr:OA),p=some ⟨b,0,none⟩ /\
   V.bh b (.cells #[.bool false,.bool i,.bool b1,.slice E F c1,.bool b2,.slice N O u,.bool b3,.slice Z n3 z,.pointer pl,.pointer pr] 64 (0,0)) /\
   RL V (.agg #[.bool b1,.slice E F c1,.bool b2,.slice N O u,.bool b3,.slice Z n3 z]) l.1 l.2.1 l.2.2/\RW V pl x/\RW V pr y
theorem RW.le {V V'}(h:V.Le V'):∀{t:Tr} {p:OA},RW V p t->RW V' p t
 | .leaf i,p,⟨b,u,z,F,N,O,Z,c8,c9,e,E⟩=>⟨b,u,z,F,N,O,Z,c8,c9,e,h _ _ E⟩
 | .node l x y,p,⟨b,i,b1,p1,n1,c1,b2,p2,n2,u,b3,p3,n3,z,pl,pr,e,E,hl,hx,hy⟩=>⟨b,i,b1,p1,n1,c1,b2,p2,n2,u,b3,p3,n3,z,pl,pr,e,h _ _ E,hl.le h,RW.le h hx,RW.le h hy⟩
theorem cQ (i):À 17 #[Õ i] V λr W=>∃p,r=qvZ p/\RW W p (.leaf i):=
 Fv V _ λc d b a=>⟨_,rfl,b,_,_,_,_,_,_,_,_,rfl,a⟩
def my (x:L3):Prop:=bX x=true/\Bd x
theorem c_Tree:∀(k:Nat) {V:un} {tb:Nat} {p:OA} {n c:Nat} {at_:Int},k<=10->Mx V p n->n<=400->kz V tb p n c at_->V.X tb->0<=at_ ->À 18 #[qvZ (some ⟨tb,0,none⟩),Jq (k:Int)] V λr W=>∃q t at',r=qvZ q/\RW W q t/\t.eu my/\t.size<2^k/\0<=at'/\kz W tb p n c at':=by
 intro k
 induction k with
 | zero=>
  intro V tb p n c at_ _ d e hw w y;refine me tb p n c at_ _ V _ hw w ⟨λg V1 l1 z e1 h1=>(gz (V:=V1.aw [z]) 2 (d.le λb o h=>l1 b o h) e e1 ⟨ψ,h1⟩ y ω).s ?_,λg=>by simp at g⟩;rintro r V2 l2 ⟨x,Z,rfl,-,-,t1,f⟩;refine ⟨_,rfl,_,_,_,_,f,λV3 l3=>(cQ _).s ?_⟩;rintro r V4 l4 ⟨q,rfl,A⟩;exact ⟨_,rfl,λV5 l5 e5=>⟨_,_,Z,rfl,A.le l5,trivial,by simp [Tr.size],t1,e5⟩⟩
 | succ k ih=>
  intro V tb p n c at_ hk d e hw w y;refine me tb p n c at_ _ V _ hw w ⟨λg=>by rw [Ë] at g;omega,λ_ V6 l6 B e6 h6=>(gz (V:=V6.aw [B]) 4 (d.le λb o h=>l6 b o h) e e6 ⟨ψ,h6⟩ y ω).s ?_⟩;rintro r V7 l7 ⟨x,Z,rfl,-,-,t1,f⟩;have i:V.Le V7:=λb o h=>l7 b o (l6 b o h);refine ⟨_,rfl,_,_,_,_,f,λg V8 l8 WM e8 h8=>(gz (V:=V8.aw [WM]) 2 (d.le λb o h=>l8 b o (i b o h)) e e8 ⟨ψ,h8⟩ t1 ω).s ?_,λg kE fw l C D=>(c_L (V:=kE.aw [l]) (d.le λb o h=>fw b o (i b o h)) e C ⟨ψ,D⟩ t1).s ?_⟩
  ·rintro r V9 l9 ⟨x,m,rfl,-,-,t2,j⟩;refine ⟨_,rfl,_,_,_,_,j,λgx a0=>(cQ _).s ?_⟩;rintro r fu dM ⟨q,rfl,A⟩;exact ⟨_,rfl,λiD eN E=>⟨_,_,m,rfl,A.le eN,trivial,by simpa [Tr.size] using ĳ _,t2,E⟩⟩
  ·rintro r mg hZ ⟨ln,m,hl,F,G,t2,j⟩;obtain ⟨b1,u1,v1,w1,b2,u2,v2,w2,b3,u3,v3,w3,rfl⟩:=(xG hl);have a:V.Le mg:=λb o h=>hZ b o (fw b o (i b o h));have wk:i64.wrap (((k+1:Nat):Int)-1)=(k:Int):=by{rw [au ω];omega};refine qxZ ⟨rfl,_,_,_,_,j,λmz H WO I J=>?_⟩;rw [wk];refine ((ih (V:=mz.aw [WO]) ω (d.le λb o h=>H b o (a b o h)) e I ⟨ψ,J⟩ t2).s ?_);rintro r mh fP ⟨qa,ta,a1,rfl,K,L,a2,t3,M⟩;have s:V.Le mh:=λb o h=>fP b o (H b o (a b o h));refine ⟨_,rfl,_,_,_,_,M,λmX N u O P=>(ih (V:=mX.aw [u]) ω (d.le λb o h=>N b o (s b o h)) e O ⟨ψ,P⟩ t3).s ?_⟩;rintro r nM gy ⟨qb,Q,R,rfl,S,T,a3,t4,U⟩;refine ⟨_,rfl,_,_,_,_,U,λqh W v Y hb=>⟨_,.node ln ta Q,R,rfl,⟨v,_,_,_,_,_,_,_,_,_,_,_,_,_,_,_,rfl,hb,?_,?_,?_⟩,⟨⟨F,G⟩,L,T⟩,?_,t4,Y⟩⟩;{exact hl.le λb o h=>W b o (gy b o (N b o (fP b o (H b o h))))};{exact RW.le (V:=mh) (V':=qh) (λb o h=>W b o (gy b o (N b o h))) K};{exact RW.le (V:=nM) (V':=qh) (λb o h=>W b o h) S};{simp only [Tr.size];rw [ĥ];omega}
def Tr.depth:Tr->Nat
 | .leaf _=>0
 | .node _ a b=>1+max a.depth b.depth
theorem oa:∀t:Tr,t.depth<=t.size
 | .leaf _=>Ù _
 | .node _ a b=>by have:=oa a;have:=oa b;simp only [Tr.depth,Tr.size];omega
theorem Uv {a b:Nat}(u:a<=1000000)(y:b<=1000000:=by omega):i64.wrap ((1:Int)+ct (a:Int) (b:Int))=((1+max a b:Nat):Int):=by have:ct (a:Int) (b:Int)=((max a b:Nat):Int):=by{unfold ct;split<;>omega};rw [this,au ω];omega
theorem qT:∀(t:Tr) {V:un} {p:OA},RT V p t->t.size<=1000000->À 56 #[qvZ p] V λr W=>r=Jq (t.depth:Int)
 | .leaf i,V,p,h,u=>by
  refine sF V _ λE l1=>(dQ (h.le l1)).s ?_;rintro r V2 y rfl;exact ⟨_,rfl,λ_ O Z=>rfl,π⟩
 | .node ln a b,V,p,h,u=>by
  refine sF V _ λE l1=>(dQ (h.le l1)).s ?_;rintro r V2 y rfl;obtain ⟨bb,x1,x2,x3,y1,y2,y3,z1,z2,z3,pl,F,i,rfl,z,hl,N,hbb⟩:=h.le (l1.m y);have s1:=oa a;have s2:=oa b;simp only [Tr.size] at u;refine ⟨_,rfl,π,λ_=>⟨rfl,rfl,pl,Is z 9 rfl,rfl,rfl,F,Is z 10 rfl,λd c=>(qT a (N.le c) ω).s λr e f rfl=>⟨_,rfl,λg j=>(qT b (hbb.le ax) ω).s λr k l rfl=>⟨_,rfl,λm n=>by rw [Uv ω];rfl⟩⟩⟩⟩
def lo1:Tr->Int
 | .leaf i=>if i then 0 else 1
 | .node ..=>0
theorem pZ {i}(h:RW V p (.leaf i)):p.isSome=true/\(∃a,af p 0=some a/\V.at a (Õ true))/\∃a,af p 1=some a/\V.at a (Õ i):=by obtain ⟨b,d,e,f,g,j,k,l,m,rfl,c⟩:=h;exact ⟨rfl,Is c 0 rfl,Is c 1 rfl⟩
end Go.Proofs.Tryz
namespace Go.Eng
open Go.Proofs.Tryz
variable {α:Type} {sz:Nat} {R:Ó->Value->α->Prop} {V V':Ó} {d:α}
theorem é.get {vs al}(h:é sz R V vs al){i}(hi:i<al.length)(u:0<sz):∃xs:zA um,xs.length=sz/\R V (.agg xs.toArray) (al.getD i d)/\i*sz+sz<=vs.length/\(vs.drop (i*sz)).take sz=xs:=by have ⟨xs,a,b,c⟩:=h.at_ i hi;have e:=h.dN u;have:(i+1)*sz<=al.length*sz:=Ă _ hi;rw [Ś] at this;refine ⟨xs,a,by simpa [hi] using b,ω,?_⟩;apply Qg6;intro j;rw [ĩ];split;{grind};{grind}
theorem é.put {vs al}(h:é sz R V vs al){i}(hi:i<al.length)(y:0<sz){xs a}(u:xs.length=sz)(z:R V (.agg xs.toArray) a):é sz R V (bw vs (i*sz) xs) (al.set i a):=by have r:=h.dN y;have l:∀k,k<al.length->k*sz+sz<=vs.length:=λk d=>by{have:(k+1)*sz<=al.length*sz:=Ă _ d;rw [Ś] at this;omega};have m:=l i hi;rw [lY];have f:(vs.take (i*sz)).length=i*sz:=by{rw [ê];omega};refine ⟨λk d=>?_⟩;rw [Qc9] at d;by_cases e:k=i;{subst e;refine ⟨xs,u,by simpa using z,λj x b=>?_⟩;have c:=(Đ.1 b).1;rw [ě,Ň ω,f,Qn1,Ĳ c];exact b};{have ⟨n,o,p,g⟩:=h.at_ k d;refine ⟨n,o,by rw [List.getElem_set_ne (λq=>e q.symm)];exact p,λj x b=>?_⟩;have c:=(Đ.1 b).1;by_cases lt:k<i;{have:(k+1)*sz<=i*sz:=Ă _ lt;rw [Ś] at this;rw [ě,Ĳ ω,ĩ,Ä ω];exact g j x b};{have:(i+1)*sz<=k*sz:=Ă _ ω;rw [Ś] at this;rw [Ň (by rw [î];omega),î,f,u,Qn5];rw [show i*sz+sz+(k*sz+j-(i*sz+sz))=k*sz+j by omega];exact g j x b}}
theorem mR {vs xs o}(h:o+xs.length<=vs.length):(bw vs o xs).length=vs.length:=by rw [lY h];simp only [î,ê,Į];omega
theorem é.swap {vs al}(h:é sz R V vs al){i j}(hi:i<al.length)(y:j<al.length)(u:0<sz){xs ys}(z:xs.length=sz)(E:ys.length=sz)(F:R V (.agg xs.toArray) (al.getD i d))(N:R V (.agg ys.toArray) (al.getD j d)):é sz R V (bw (bw vs (i*sz) ys) (j*sz) xs) (IG d al i j):=by have:=h.put hi u E N;exact this.put (by simpa using y) u z F
end Go.Eng
namespace Go.Proofs.Tryz
section
variable {α:Type} (e:α->α->Bool)
def lC:α->List α->List α
 | _,[]=>[]
 | p,a::r=>if e a p then lC a r else a::lC a r
def bU:List α->List α
 | []=>[]
 | a::r=>a::lC e a r
variable {e}
theorem F3 {d}:∀{r:zA α} {p a:α},lC e p (r++[a])=lC e p r++if e a ((p::r).getD r.length d) then [] else [a]
 | [],p,a=>by simp [lC]
 | b::r,p,a=>by
  have u:=F3 (d:=d) (r:=r) (p:=b) (a:=a);have c:(p::b::r).getD (b::r).length d=(b::r).getD r.length d:=rfl;rw [c,Qc0];simp only [lC];split
  ·exact u
  ·rw [u];rfl
theorem ir {d}{l:zA α}{k}(u:k+1<l.length:=by omega):bU e (l.take (k+2))=bU e (l.take (k+1))++if e (l.getD (k+1) d) (l.getD k d) then [] else [l.getD (k+1) d]:=by (cases l with|nil=>simp at u|cons a r=>{have b:k<r.length:=by{simpa using u};have c:(a::r).take (k+2)=a::(r.take k++[r[k]]):=by{rw [List.take_succ_cons,š b]};have f:(a::r).take (k+1)=a::r.take k:=List.take_succ_cons;rw [c,f];simp only [bU];rw [F3 (d:=d)];have g:(a::r).getD (k+1) d=r[k]:=by{rw [Wx9,ĕ,ï b];rfl};have h:(a::r.take k).getD (r.take k).length d=(a::r).getD k d:=by{have i:(r.take k).length=k:=by{rw [ê];omega};rw [i];(cases k with|zero=>rfl|succ k=>{rw [Wx9,Wx9,ĕ,ĕ,ĩ,Ä ω]})};rw [g,h,Qc0]})
theorem B6:∀{r:zA α} {p:α},∀x∈lC e p r,x∈r
 | [],p,x,h=>h
 | b::r,p,x,h=>by
  unfold lC at h;split at h
  ·exact ø _ (B6 x h)
  ·rcases ç.1 h with rfl|h
   ·exact Ć ..
   ·exact ø _ (B6 x h)
theorem vS {l}:∀x∈bU e l,x∈l:=by (cases l with|nil=>exact λx h=>h|cons a r=>{intro x h;rcases ç.1 h with rfl|h;{exact Ć ..};{exact ø _ (B6 x h)}})
theorem Kc:∀{r:zA α} {p:α},(lC e p r).length<=r.length
 | [],p=>Ù _
 | b::r,p=>by
  have:=Kc (r:=r) (p:=b);grind [lC]
theorem jQ {l}:(bU e l).length<=l.length:=by (cases l with|nil=>exact Ù _|cons a r=>{have:=Kc (e:=e) (r:=r) (p:=a);simp [bU];omega})
theorem HC {d l k}(u:k+1<l.length)(he:e (l.getD (k+1) d) (l.getD k d)=true):(bU e l).length<l.length:=by
 have key:∀j,k+2+j<=l.length->(bU e (l.take (k+2+j))).length<k+2+j:=by
  intro j
  induction j with
  | zero=>
   intro _;rw [Ę,ir (d:=d) u,he,Ä rfl,ą];have:=jQ (e:=e) (l:=l.take (k+1));rw [ê] at this;omega
  | succ j y=>
   intro a;have:=y ω;rw [show k+2+(j+1)=k+1+j+2 by omega,ir (d:=d),î,show k+1+j+1=k+2+j by omega];split<;>simp<;>omega
 have:=key (l.length-(k+2)) ω
 rwa [show k+2+(l.length-(k+2))=l.length by omega,Ĥ] at this
theorem nZ {l}(h:l.length<=1:=by omega):bU e l=l:=by
 match l,h with
 | [],_=>rfl
 | [a],_=>rfl
 | _::_::_,h=>simp at h
end
end Go.Proofs.Tryz
namespace Go.Eng
open Go.Proofs.Tryz
section
variable {α:Type} {sz:Nat} {R:Ó->Value->α->Prop} {V:Ó} {d:α}
theorem é.Hx {vs u:zA um}{al}(h:é sz R V vs al){k}(y:k<=al.length)(z:0<sz):é sz R V (vs.take (k*sz)++u) (al.take k):=by have l:=h.dN z;refine ⟨λi b=>?_⟩;rw [ê] at b;have ⟨xs,c,d,e⟩:=h.at_ i ω;refine ⟨xs,c,by rw [Qt9];exact d,λj x a=>?_⟩;have f:=(Đ.1 a).1;have g:(i+1)*sz<=k*sz:=Ă _ ω;have m:k*sz<=al.length*sz:=Ă _ y;rw [Ś] at g;rw [Ĳ (by rw [ê];omega),ĩ,Ä ω];exact e j x a
end
end Go.Eng
namespace Go.Proofs.Tryz
variable{V:Ó}{v w:Value}{k n:Nat}{L M a b l m:L3}{s:Sp}{p:OA}{px py qx qy:Rat}
theorem MP {x y}(u:RR V v x)(z:RR V w y)(E:Sz k x)(F:Sz k y)(N:2*k<2^40):À 283 #[v,w] V λr W=>RR W r (uU x y):=by have g:=u;have i:=z;obtain ⟨a,b,c,rfl⟩:=u.shape;obtain ⟨d,e,f,rfl⟩:=z.shape;refine LI V _ λj l=>(fU ra ra F E).s ?_;rintro r V2 m rfl;unfold uU;exact ⟨_,rfl,λh n o=>by rw [Ä (Á h)];exact i.le ax,λh p q=>by rw [Ã (Â h)];exact g.le ax⟩
theorem MQ {x y}(u:RR V v x)(z:RR V w y)(E:Sz k x)(F:Sz k y)(N:2*k<2^40):À 284 #[v,w] V λr W=>RR W r (uV x y):=by have g:=u;have i:=z;obtain ⟨a,b,c,rfl⟩:=u.shape;obtain ⟨d,e,f,rfl⟩:=z.shape;refine LJ V _ λj l=>(fU ra ra F E).s ?_;rintro r V2 m rfl;unfold uV;exact ⟨_,rfl,λh n o=>by rw [Ä (Á h)];exact i.le ax,λh p q=>by rw [Ã (Â h)];exact g.le ax⟩
theorem Sp.H2 {v w:Sp}(u:v.sz k)(y:w.sz k):(v.meet w).sz k:=by unfold Sp.meet Sp.sz uU uV;constructor<;>dsimp only;{split;{exact y.1};{split;{exact u.1};{split;{exact y.1};{exact u.1}}}};{split;{exact y.2};{split;{exact u.2};{split;{exact y.2};{exact u.2}}}}
theorem FN {s t}(h:fQ V v s)(h':fQ V w t)(hs:s.sz k)(ht:t.sz k)(hk:2*k<2^40:=by omega):À 274 #[v,w] V λr W=>∃u,r=æ #[u,Õ (!(s.meet t).emp)]/\fQ W u (s.meet t):=by obtain ⟨H,I,p,l,m,q,rfl,h1,J⟩:=h;obtain ⟨K,L,o,M,N,j,rfl,S,T⟩:=h';have lo1:s.a=true->(s.meet t).lo=t.lo/\(s.meet t).a=t.a:=λe=>by{simp [Sp.meet,e]};have U:s.a=false->t.a=false->(s.meet t).lo=uU s.lo t.lo:=λe d=>by{simp [Sp.meet,e,d]};have W:s.a=false->t.a=true->(s.meet t).lo=s.lo:=λe d=>by{simp [Sp.meet,e,d]};have n:s.a=false->(s.meet t).a=s.a:=λe=>by{simp [Sp.meet,e]};have x:s.b=true->(s.meet t).hi=t.hi/\(s.meet t).b=t.b:=λe=>by{simp [Sp.meet,e]};have X:s.b=false->t.b=false->(s.meet t).hi=uV s.hi t.hi:=λe d=>by{simp [Sp.meet,e,d]};have Y:s.b=false->t.b=true->(s.meet t).hi=s.hi:=λe d=>by{simp [Sp.meet,e,d]};have y:s.b=false->(s.meet t).b=s.b:=λe=>by{simp [Sp.meet,e]};refine DB V _ ⟨λz i=>RR i (dB #[Jq z.1,Jq z.2.1,qvZ z.2.2.1]) (s.meet t).lo/\RR i (dB #[Jq z.2.2.2.1,Jq z.2.2.2.2.1,qvZ z.2.2.2.2.2.1]) s.hi/\z.2.2.2.2.2.2.1=(s.meet t).a/\z.2.2.2.2.2.2.2=s.b,⟨λc=>?_,λc=>⟨λf i l1=>(MP ra ra hs.1 ht.1 hk).s ?_,λf=>?_⟩⟩,?_⟩;{refine ⟨(K,L,o,l,m,q,t.a,s.b),σ,?_,J,(lo1 c).2.symm,rfl⟩;rw [(lo1 c).1];exact S};{rintro r V2 l2 g;rw [Ł] at f;obtain ⟨B,C,D,rfl⟩:=g.shape;refine ⟨_,_,_,rfl,(B,C,D,l,m,q,s.a,s.b),σ,?_,ra,(n c).symm,rfl⟩<;>grind};{rw [Qn8] at f;refine ⟨(H,I,p,l,m,q,s.a,s.b),σ,?_,J,(n c).symm,rfl⟩<;>grind};{rintro ⟨E,F,G,Z,z5,z6,z7,z8⟩ V3 l3 ⟨A,k2,O,P⟩;dsimp only at A k2 O P;subst O P;refine ⟨rfl,λz i=>RR i (dB #[Jq z.1,Jq z.2.1,qvZ z.2.2.1]) (s.meet t).lo/\RR i (dB #[Jq z.2.2.2.1,Jq z.2.2.2.2.1,qvZ z.2.2.2.2.2.1]) (s.meet t).hi/\z.2.2.2.2.2.2.1=(s.meet t).a/\z.2.2.2.2.2.2.2=(s.meet t).b,⟨λc=>?_,λc=>⟨λf V4 l4=>(MQ ra ra hs.2 ht.2 hk).s ?_,λf=>?_⟩⟩,?_⟩;{refine ⟨(E,F,G,M,N,j,(s.meet t).a,t.b),σ,A,?_,rfl,(x c).2.symm⟩;rw [(x c).1];exact T.le l3};{rintro r V5 l5 g;rw [Ł] at f;obtain ⟨B,C,D,rfl⟩:=g.shape;refine ⟨_,_,_,rfl,(E,F,G,B,C,D,(s.meet t).a,s.b),σ,A.le ax,?_,rfl,(y c).symm⟩<;>grind};{rw [Qn8] at f;refine ⟨(E,F,G,Z,z5,z6,(s.meet t).a,s.b),σ,A,?_,rfl,(y c).symm⟩<;>grind};{rintro ⟨l,m,y3,y4,y5,y6,y7,y8⟩ V6 l6 ⟨j1,j2,Q,R⟩;dsimp only at j1 j2 Q R;subst Q R;refine ⟨rfl,λV7 l7=>(MH ⟨_,_,_,_,_,_,rfl,ra,ra⟩ (Sp.H2 hs ht) hk).s ?_⟩;rintro r V8 l8 rfl;exact ⟨_,rfl,λV9 l9=>⟨_,rfl,_,_,_,_,_,_,rfl,ra,ra⟩⟩}}
theorem tH (sl:jC k L)(sm:jC k M):Sz (4*k+3) (Û M L):=D_ sm.1 sm.2.1 sl.2.1 sl.1.neg
theorem SS:(((M.1:Rat)*((L.1:Rat)*((-(L.2.2:Rat))*(((L.1:Rat)*(L.1:Rat))+((L.2.1:Rat)*(L.2.1:Rat)))⁻¹)))+((M.2.1:Rat)*((L.2.1:Rat)*((-(L.2.2:Rat))*(((L.1:Rat)*(L.1:Rat))+((L.2.1:Rat)*(L.2.1:Rat)))⁻¹))))+(M.2.2:Rat)=j9 M L:=by unfold j9 ay cP cR fh;grind
theorem tG (sl:jC k L)(sm:jC k M):Sz (50*k+49) (j9 M L):=by rw [<-SS];exact Sz.s (oR (k:=10*k+9) (sm.1.s ω) (sm.2.1.s ω) (sm.2.2.s ω) (qA sl.1 sl.2.1 sl.2.2) (qB sl.1 sl.2.1 sl.2.2)) ω
theorem qc (sl:jC k L)(sm:jC k M):Sz (60*k+60) (Ø M L):=Sz.s ((tG sl sm).mul (il (tH sl sm))).neg ω
theorem JJ {l m}(hl:vy V l L)(hv:fQ V v s)(hm:vy V m M)(sl:jC k L)(hs:s.sz k)(sm:jC k M)(hk:200*k+200<2^38:=by omega):À 242 #[l,v,m] V λr W=>∃w,r=æ #[w,Õ (cU L s M)]/\fQ W w (bD L s M):=by have d:=hl;have i:=hv;have e:=hm;obtain ⟨_,_,_,_,_,_,_,_,_,rfl,-,-,-⟩:=hl;obtain ⟨_,_,_,_,_,_,rfl,-,-⟩:=hv;obtain ⟨_,_,_,_,_,_,_,_,_,rfl,-,-,-⟩:=hm;have f:s.sz (60*k+60):=⟨hs.1.s ω,hs.2.s ω⟩;have z:=Dt (60*k+60);refine E4 V _ λP B=>(qj (e.le B) sm.1 sm.2.1 sm.2.2 ω).s λr V2 Q u=>ja.ex u λ_ _ u _ _=>λR S=>(o_ (d.le ax) sl.1 sl.2.1 sl.2.2 ω).s λr T U x=>ja.ex x λ_ _ x _ _=>λW X=>(vI ra ra sm.1 sm.2.1 sl.2.1 sl.1.neg ω).s λr V6 l6 (y:RR V6 r (Û M L))=>RR.ex y λ_ y=>λY Z=>(tT (d.le ax) sl.1 sl.2.1 sl.2.2).s λr V8 l8 j=>ja.ex j λ_ _ j _ _=>λV9 C=>(qU (k:=10*k+9) (e.le ax) (j.le C) (sm.1.s ω) (sm.2.1.s ω) (sm.2.2.s ω) (qA sl.1 sl.2.1 sl.2.2) (qB sl.1 sl.2.1 sl.2.2)).s ?_;rintro r gx D A;rw [SS] at A;obtain ⟨_,_,_,rfl⟩:=A.shape;refine ⟨_,_,_,rfl,λfu dM=>(fC ra (tH sl sm)).s ?_⟩;rintro r iD eN rfl;refine ⟨_,rfl,λa kE fw=>(fC ra (tG sl sm)).s ?_,λa=>⟨λn mh fP=>(A6 ra ra (tG sl sm) (tH sl sm) ω).s ?_,λn sO mL=>(A6 ra ra (tG sl sm) (tH sl sm) ω).s ?_⟩⟩;{rintro r mg hZ rfl;have g:cU L s M=decide ((j9 M L).num.sign>0):=by{unfold cU;rw [Ä a]};have b:bD L s M=s:=by{unfold bD;rw [Ä a]};rw [g,b];exact ⟨_,rfl,λmz eH=>⟨_,rfl,ra⟩⟩};{have b:bD L s M=s.meet ⟨Ø M L,0,false,true⟩:=by{unfold bD;rw [Ã (by rw [a];exact ŧ),Ä n]};have g:cU L s M=!(s.meet ⟨Ø M L,0,false,true⟩).emp:=by{rw [<-b];unfold cU;rw [Ã (by rw [a];exact ŧ)]};rw [g,b];rintro r E F o;obtain ⟨_,_,_,rfl⟩:=o.shape;refine ⟨_,_,_,rfl,λG H=>(oX ra ((tG sl sm).mul (il (tH sl sm))) ω).s λr I J c=>RR.ex c λ_ c=>λK p=>(FN (t:=⟨Ø M L,0,false,true⟩) (i.le ax) ⟨_,_,_,_,_,_,rfl,c.le p,RR.zero _⟩ f ⟨qc sl sm,z⟩).s ?_⟩;rintro r N O ⟨w,rfl,h⟩;have q:=h;obtain ⟨_,_,_,_,_,_,rfl,-,-⟩:=h;grind [q.le]};{have b:bD L s M=s.meet ⟨0,Ø M L,true,false⟩:=by{unfold bD;rw [Ã (by rw [a];exact ŧ),Ã (by rw [n];exact ŧ)]};have g:cU L s M=!(s.meet ⟨0,Ø M L,true,false⟩).emp:=by{rw [<-b];unfold cU;rw [Ã (by rw [a];exact ŧ)]};rw [g,b];rintro r E F o;obtain ⟨_,_,_,rfl⟩:=o.shape;refine ⟨_,_,_,rfl,λG H=>(oX ra ((tG sl sm).mul (il (tH sl sm))) ω).s λr I J c=>RR.ex c λ_ c=>λK p=>(FN (t:=⟨0,Ø M L,true,false⟩) ra ⟨_,_,_,_,_,_,rfl,RR.zero _,c.le p⟩ f ⟨z,qc sl sm⟩).s ?_⟩;rintro r N O ⟨w,rfl,h⟩;obtain ⟨_,_,_,_,_,_,rfl,-,-⟩:=id h;grind [h.le]}
structure SA (V:Ó) (p:OA) (n:Nat) (fs:List (L3×Sp)):Prop where
 len:n=fs.length
 at_:∀(i:Nat)(h:i<fs.length),∃ad,af p (i*17)=some ad/\∃xs:List Value,xF V (.agg xs.toArray) fs[i].1 fs[i].2/\∀j x,xs[j]?=some x->V.at (ad.add j) x
theorem SA.le {V V' fs}(h:SA V p n fs)(e:V.Le V'):SA V' p n fs:=⟨h.len,λi a=>by have ⟨b,c,xs,d,f⟩:=h.at_ i a;exact ⟨b,c,xs,d.le e,λj x g=>e.at (f j x g)⟩⟩
def qu (l:L3)(s:Sp)(m:L3):List (L3×Sp):=if cU l s m=true then [(l,bD l s m)] else []
theorem MK {c fs}(h:SA V p n fs)(hn:fs.length<=10000)(hs:∀f∈fs,jC k f.1/\f.2.sz k)(hk:k<=2^40:=by omega):À 87 #[pT p n c] V λr W=>∃q m e,r=pT q m e/\Sy W q m fs:=by
 obtain rfl:=h.len
 refine AB V _ ⟨λz V'=>∃j:Nat,z.2.2.2=(j:Int)/\j<=fs.length/\z.1=j/\j<=z.2.1/\z.2.1*14<=z.2.2.1.length/\∀(i:Nat)(_:i<j)(l:i<fs.length),∃xs:zA um,xs.length=14/\RFa V' (.agg xs.toArray) fs[i].1 fs[i].2/\∀q x,xs[q]?=some x->z.2.2.1[i*14+q]?=some x,
  λz=>fs.length-z.2.2.2.toNat,⟨(0,0,[],0),σ,0,rfl,ã _,rfl,Ù _,Ù _,λi l=>Å l (Ş i)⟩,?_⟩
 rintro ⟨b,K,y,U⟩ W L ⟨j,E,X,F,G,u,A⟩;dsimp only at E F G u A;subst E F;refine ⟨rfl,λd=>?_,λd Y Z B hb=>?_⟩
 ·have d:(b:Int)<fs.length:=Á d;have l:b<fs.length:=ω;obtain ⟨M,H,xs,N,a⟩:=(h.le L).at_ b l;have w:i64.wrap ((b:Int)+1)=(b:Int)+1:=au ω;dsimp only;rw [Ü,w];obtain ⟨_,_,_,_,_,_,_,_,_,_,_,_,_,_,_,ex,-,-⟩:=id N;have ex:=Æ Array.toList (Value.agg.inj ex);dsimp only at ex;subst ex;have ⟨s1,s2⟩:=hs _ (ô l);refine ⟨bj H,ū,_,_,_,_,_,_,_,_,_,_,_,_,_,_,_,_,_,M,H,a 0 _ rfl,a 1 _ rfl,a 2 _ rfl,a 3 _ rfl,a 4 _ rfl,a 5 _ rfl,a 6 _ rfl,a 7 _ rfl,a 8 _ rfl,a 9 _ rfl,a 10 _ rfl,a 11 _ rfl,a 12 _ rfl,a 13 _ rfl,a 14 _ rfl,a 15 _ rfl,a 16 _ rfl,λV2 l2=>(Tb ra s1 s2 hk).s ?_⟩;rintro r V3 l3 g;obtain ⟨_,_,_,_,_,_,_,_,_,_,_,_,_,_,_,_,_,_,_,_,_,_,_,_,_,_,rfl⟩:=TQ g;refine ⟨_,_,_,_,_,_,_,_,_,_,_,_,_,_,_,_,_,_,_,_,_,_,_,_,_,_,_,_,rfl,ω,G,u,rfl,?_,?_⟩;{intro v hm;simp only [ç,Ġ,Ì] at hm;rcases hm with rfl|rfl|rfl|rfl|rfl|rfl|rfl|rfl|rfl|rfl|rfl|rfl|rfl|rfl<;>rfl};{intro sp O P h2;refine ⟨(b+1,O,_,(b:Int)+1),by dsimp only;omega,σ,b+1,rfl,l,rfl,P,?_,?_⟩;{dsimp only;have t:(y.take (b*14)).length=b*14:=by{rw [ê];omega};rw [î,î,t];simp only [Ā];omega};{intro i Q C;dsimp only;have t:(y.take (b*14)).length=b*14:=by{rw [ê];omega};by_cases o:i=b;{subst o;refine ⟨_,rfl,g,λq x s=>?_⟩;rw [ě,Ň (by rw [t];omega),t,Qn1];have:q<14:=(Đ.1 s).1;rw [Ĳ (by exact this)];exact s};{have ⟨D,I,R,J⟩:=A i ω C;refine ⟨D,I,ra,λq x s=>?_⟩;have:q<14:=by{have:=(Đ.1 s).1;omega};rw [ě,Ĳ (by rw [t];omega),ĩ,Ä ω];exact J q x s}}}
 ·have d:¬(b:Int)<fs.length:=Â d;obtain rfl:b=fs.length:=ω;refine ⟨_,_,_,rfl,rfl,λi l=>?_⟩;have S:K≠0:=ω;have T:y≠[]:=λe=>by{rw [e] at u;simp at u;omega};have ⟨D,I,R,J⟩:=A i l l;refine ⟨⟨B,i*14,none⟩,by simp [mA,S,af,add_zero'],D,ra,λq x s=>?_⟩;have hj:(⟨B,i*14,none⟩:Addr).add q=⟨B,i*14+q,none⟩:=by{rw [<-add_zero',ku,add_zero']};grind [dX]
theorem Xi:((L.1:Rat)=(M.1:Rat)/\(L.2.1:Rat)=(M.2.1:Rat)/\(L.2.2:Rat)=(M.2.2:Rat))↔L=M:=by grind [Rat.intCast_inj.1]
theorem tj (u:vy V v L)(hm:vy V w M)(sl:jC k L)(sm:jC k M)(y:k+k<2^40:=by omega):À 111 #[v,w] V λr W=>r=Õ (decide (L=M)):=by refine (y_ u hm sl.1 sl.2.1 sl.2.2 sm.1 sm.2.1 sm.2.2 y).s ?_;rintro r V' l rfl;rw [É.2 Xi]
theorem Ad (x y):0<=(eG x y).num:=by unfold eG;grind [Rat.num_mkRat]
theorem Vy (h:¬(px=qx/\py=qy)):eE (nD px py qx qy) qx qy-eE (nD px py qx qy) px py=eG (eG (-(qy-py)) (qx-px)) (-(-(qy-py)*px+(qx-px)*py)):=by obtain ⟨f,d,e,-⟩:=tv (a:=-(qy-py)) (b:=qx-px) (c:=-(-(qy-py)*px+(qx-px)*py)) (wX h);change _=((nD px py qx qy).1:Rat) at d;change _=((nD px py qx qy).2.1:Rat) at e;generalize eG (eG (-(qy-py)) (qx-px)) (-(-(qy-py)*px+(qx-px)*py))=g at *;have i:=Qn7 g f;have j:=Qn7 _ ((Qh h).norm);unfold eE;have k:fh (nD px py qx qy)=((qy-py)*(qy-py)+(qx-px)*(qx-px))*(g⁻¹*g⁻¹):=by{unfold fh;rw [<-d,<-e];grind};grind
theorem Yy (h:¬(px=qx/\py=qy)):(N9 px py qx qy).emp=false:=by obtain ⟨f,-⟩:=tv (a:=-(qy-py)) (b:=qx-px) (c:=-(-(qy-py)*px+(qx-px)*py)) (wX h);have d:=Vy h;have i:=Ad (eG (-(qy-py)) (qx-px)) (-(-(qy-py)*px+(qx-px)*py));unfold N9 Sp.emp;generalize eG (eG (-(qy-py)) (qx-px)) (-(-(qy-py)*px+(qx-px)*py))=g at *;have e:cT (eE (nD px py qx qy) px py) (eE (nD px py qx qy) qx qy)=- g.num.sign:=by{rw [QO,<-d];rfl};grind [KQ]
theorem seg_ok (h:¬(px=qx/\py=qy)):FOk (nD px py qx qy) (N9 px py qx qy):=⟨UT h,⟨π,π⟩,Yy h⟩
theorem rq0 (V):RQ V (dB #[Õ false,pT none 0 0,pT none 0 0]) 0:=by have:=RQ.zero (V:=V);simpa using this
theorem vM:À 211 #[] V λr W=>qK W r ⟨0,0,true,true⟩:=
 Fo V _ λa b=>⟨_,_,_,_,_,_,_,_,_,_,_,_,_,_,rfl,rq0 _,rq0 _⟩
theorem Db (h:qK V v s):∃b p n c u n' y d q m e z E F,v=dB #[Õ b,pT p n c,pT u n' y,Õ d,pT q m e,pT z E F,Õ s.a,Õ s.b]:=by obtain ⟨_,_,_,_,_,_,_,_,_,_,_,_,_,_,e,-⟩:=h;exact qyJ e
theorem Ld (h:RF V v l s):∃b1 u y c1 b2 z E F b3 N O Z b p n c p' n' c' d q m e q' m' e',
 v=dB #[Õ b1,pT u y c1,Õ b2,pT z E F,Õ b3,pT N O Z,Õ b,pT p n c,pT p' n' c',Õ d,pT q m e,pT q' m' e',Õ s.a,Õ s.b]:=by obtain ⟨_,_,_,_,_,_,_,_,_,_,_,_,_,_,_,_,_,_,_,_,_,_,_,_,_,_,e,-⟩:=h;exact ⟨_,_,_,_,_,_,_,_,_,_,_,_,_,_,_,_,_,_,_,_,_,_,_,_,_,_,e⟩
theorem YI {k}(h:jC k l):l.1.natAbs<2^k/\l.2.1.natAbs<2^k/\l.2.2.natAbs<2^k:=by have e:∀{x:Int},Sz k (x:Rat)->x.natAbs<2^k:=λh=>by{have:=h.1;rwa [Qh1] at this};exact ⟨e h.1,e h.2.1,e h.2.2⟩
theorem bd_szl (h:jC 1000 l):Bd l:=YI (k:=1000) h
theorem m_ (z w:Int){q c m e}(F:RD V p n c (ai z.natAbs))(N:RD V q m e (ai w.natAbs))(hm:(ai z.natAbs).length<=2^40)(E:(ai w.natAbs).length<=2^40):À 222 #[dB #[Õ (decide (z<0)),pT p n c],dB #[Õ (decide (w<0)),pT q m e]] V λr W=>r=Jq (z-w).sign:=by refine DO V _ λa b=>(jN w ra).s ?_;rintro r V2 d ⟨f,g,h,rfl,i⟩;refine qyW ⟨rfl,λj k=>(xR z (-w) ra ra hm (by rw [Ŧ];exact E)).s ?_⟩;rintro r l o ⟨s,t,u,rfl,v⟩;refine qyW ⟨rfl,λx y=>(po _ ra).s λr A B rfl=>⟨_,rfl,λC D=>by rw [Int.sub_eq_add_neg]⟩⟩
def jP (l m:L3):Int:=if (l.1-m.1).sign≠0 then (l.1-m.1).sign else if (l.2.1-m.2.1).sign≠0 then (l.2.1-m.2.1).sign else (l.2.2-m.2.2).sign
theorem Hz:jP l m=0↔l=m:=by have e:∀{a b:Int},(a-b).sign=0↔a=b:=λ{a b}=>by{rw [Qm6];omega};unfold jP;constructor;{intro h;by_cases c:(l.1-m.1).sign=0;{rw [Ã (by simpa using c)] at h;by_cases d:(l.2.1-m.2.1).sign=0;{rw [Ã (by simpa using d)] at h;exact Ww7 (e.1 c) (Ww7 (e.1 d) (e.1 h))};{rw [Ä d] at h;exact Å h d}};{rw [Ä c] at h;exact Å h c}};{rintro rfl;simp}
theorem mG (F:RL V v l.1 l.2.1 l.2.2)(hm:RL V w m.1 m.2.1 m.2.2)(sl:jC k l)(sm:jC k m)(E:k<=2^40:=by omega):À 162 #[v,w] V λr W=>r=Jq (jP l m):=by have ⟨d1,d2,d3⟩:=sl.ai E;have ⟨a,b,c⟩:=sm.ai E;obtain ⟨_,_,_,_,_,_,_,_,_,rfl,d,e,f⟩:=F;obtain ⟨_,_,_,_,_,_,_,_,_,rfl,b1,b2,b3⟩:=hm;refine I7 V _ λg i=>(m_ _ _ ra ra d1 a).s ?_;rintro r V2 j rfl;unfold jP;refine ⟨_,rfl,λh n o=>?_,λh p q=>(m_ _ _ ra ra d2 b).s ?_⟩;{rw [bne_iff_ne] at h;rw [Ä h]};{rw [bne_eq_false_iff_eq] at h;rw [Ã (by rw [h];decide)];rintro r s t rfl;refine ⟨_,rfl,λh u x=>?_,λh y z=>(m_ _ _ ra ra d3 c).s ?_⟩;{rw [bne_iff_ne] at h;rw [Ä h]};{rw [bne_eq_false_iff_eq] at h;rw [Ã (by rw [h];decide)];rintro r A B rfl;exact ⟨_,rfl,λC D=>rfl⟩}}
theorem J6:(jP l m==(0:Int))=decide (l=m):=by by_cases h:l=m;{rw [Ç h,Ë];exact Hz.2 h};{rw [È h,beq_eq_false_iff_ne];exact λe=>h (Hz.1 e)}
def Sx (u:Value):Prop:=u=.agg #[.bool false,.slice none 0 0,.slice none 0 0,.bool false,.slice none 0 0,.slice none 0 0]
theorem Vj (hl:RL V v l.1 l.2.1 l.2.2)(hm:RL V w m.1 m.2.1 m.2.2)(sl:jC k l)(sm:jC k m)(hk:20*k+20<2^38:=by omega):À 212 #[v,w] V λr W=>∃u,r=æ #[u,Õ (decide (ß l m≠0))]/\(ß l m=0->Sx u)/\(ß l m≠0->RP W u (meX l m) (meY l m)):=by have e0:((l.1:Int):Rat)*((m.2.1:Int):Rat)-((m.1:Int):Rat)*((l.2.1:Int):Rat)=ß l m:=by{unfold ß;grind};have e1:((l.2.1:Int):Rat)*((m.2.2:Int):Rat)-((m.2.1:Int):Rat)*((l.2.2:Int):Rat)=((l.2.1:Rat)*(m.2.2:Rat))-((l.2.2:Rat)*(m.2.1:Rat)):=χ;have e2:((m.1:Int):Rat)*((l.2.2:Int):Rat)-((l.1:Int):Rat)*((m.2.2:Int):Rat)=((l.2.2:Rat)*(m.1:Rat))-((l.1:Rat)*(m.2.2:Rat)):=χ;obtain ⟨a,b,e⟩:=sl;obtain ⟨f,g,i⟩:=sm;obtain ⟨_,_,_,_,_,_,_,_,_,rfl,a1,a2,a3⟩:=hl;obtain ⟨_,_,_,_,_,_,_,_,_,rfl,b1,b2,b3⟩:=hm;refine Fg V _ λV1 l1=>(cu (a1.le l1) a ω).s ?_;rintro r V2 l2 x;obtain ⟨_,_,_,_,_,_,rfl⟩:=x.shape;refine qyK ⟨rfl,λV3 l3=>(cu (b2.le ax) g ω).s ?_⟩;rintro r V4 l4 y;obtain ⟨_,_,_,_,_,_,rfl⟩:=y.shape;refine qyK ⟨rfl,λV5 l5=>(bF (x.le ax) (y.le l5) a g ω).s ?_⟩;rintro r V6 l6 z;obtain ⟨_,_,_,_,_,_,rfl⟩:=z.shape;refine qyK ⟨rfl,λV7 l7=>(cu (b1.le ax) f ω).s ?_⟩;rintro r V8 l8 A;obtain ⟨_,_,_,_,_,_,rfl⟩:=A.shape;refine qyK ⟨rfl,λV9 l9=>(cu (a2.le ax) b ω).s ?_⟩;rintro r gx a0 B;obtain ⟨_,_,_,_,_,_,rfl⟩:=B.shape;refine qyK ⟨rfl,λfu dM=>(bF (A.le ax) (B.le dM) f b ω).s ?_⟩;rintro r iD eN C;obtain ⟨_,_,_,_,_,_,rfl⟩:=C.shape;refine qyK ⟨rfl,λkE fw=>(im (z.le ax) (C.le fw) (a.mul g) (f.mul b)).s ?_⟩;rintro r mg hZ d;rw [e0] at d;obtain ⟨_,_,_,_,_,_,rfl,D,-⟩:=id d;have sD:Sz (4*k+3) (((l.1:Int):Rat)*((m.2.1:Int):Rat)-((m.1:Int):Rat)*((l.2.1:Int):Rat)):=Sz.s ((a.mul g).sub (f.mul b)) ω;rw [e0] at sD;refine qyK ⟨rfl,λmz eH=>(sS _ (D.le eH)).s ?_⟩;rintro r mh fP rfl;refine ⟨_,rfl,λj mX gX=>?_,λj=>?_⟩;{rw [Ë,kM] at j;rw [j];exact ⟨_,rfl,λ_=>rfl,λh=>Å rfl h⟩};{rw [beq_eq_false_iff_ne,ne_eq,kM] at j;rw [Ç j];have E:¬(ß l m).num=0:=λh=>j (Ŝ.1 h);intro mX gX;have M0:=(l1.m (l2.m (l3.m (l4.m (l5.m (l6.m (l7.m (l8.m (l9.m (a0.m (dM.m (eN.m (fw.m (hZ.m (eH.m (fP.m gX))))))))))))))));replace d:=d.le (eH.m (fP.m gX));refine (cu (a2.le M0) b ω).s ?_;rintro r nM gy F;obtain ⟨_,_,_,_,_,_,rfl⟩:=F.shape;refine qyK ⟨rfl,λqh iX=>(cu (b3.le ax) i ω).s ?_⟩;rintro r jZ gG G;obtain ⟨_,_,_,_,_,_,rfl⟩:=G.shape;refine qyK ⟨rfl,λqN mo=>(bF (F.le ax) (G.le mo) b i ω).s ?_⟩;rintro r tR oB H;obtain ⟨_,_,_,_,_,_,rfl⟩:=H.shape;refine qyK ⟨rfl,λsO mL=>(cu (b2.le ax) g ω).s ?_⟩;rintro r Ec oC I;obtain ⟨_,_,_,_,_,_,rfl⟩:=I.shape;refine qyK ⟨rfl,λBw zC=>(cu (a3.le ax) e ω).s ?_⟩;rintro r Jw yr J;obtain ⟨_,_,_,_,_,_,rfl⟩:=J.shape;refine qyK ⟨rfl,λMp Bf=>(bF (I.le ax) (J.le Bf) g e ω).s ?_⟩;rintro r YW Ns K;obtain ⟨_,_,_,_,_,_,rfl⟩:=K.shape;refine qyK ⟨rfl,λa5 Rl=>(im (H.le ax) (K.le Rl) (b.mul i) (g.mul e)).s ?_⟩;rintro r Wl Nt c;rw [e1] at c;obtain ⟨_,_,_,_,_,_,rfl⟩:=c.shape;have sX:Sz (4*k+3) (((l.2.1:Rat)*(m.2.2:Rat))-((l.2.2:Rat)*(m.2.1:Rat))):=by{rw [<-e1];exact Sz.s ((b.mul i).sub (g.mul e)) ω};have Z:=(M0.m (gy.m (iX.m (gG.m (mo.m (oB.m (mL.m (oC.m (zC.m (yr.m (Bf.m (Ns.m (Rl.m Nt)))))))))))));replace d:=d.le (gy.m (iX.m (gG.m (mo.m (oB.m (mL.m (oC.m (zC.m (yr.m (Bf.m (Ns.m (Rl.m Nt))))))))))));refine qyK ⟨rfl,λa6 q=>(cu (b1.le (Z.m q)) f ω).s ?_⟩;rintro r a7 L M;obtain ⟨_,_,_,_,_,_,rfl⟩:=M.shape;refine qyK ⟨rfl,λWC s=>(cu (a3.le (Z.m (q.m (L.m s)))) e ω).s ?_⟩;rintro r a8 N O;obtain ⟨_,_,_,_,_,_,rfl⟩:=O.shape;refine qyK ⟨rfl,λa9 t=>(bF (M.le (s.m (N.m t))) (O.le t) f e ω).s ?_⟩;rintro r WD Ms P;obtain ⟨_,_,_,_,_,_,rfl⟩:=P.shape;refine qyK ⟨rfl,λb0 Q=>(cu (a1.le (Z.m (q.m (L.m (s.m (N.m (t.m (Ms.m Q)))))))) a ω).s ?_⟩;rintro r b5 Nv R;obtain ⟨_,_,_,_,_,_,rfl⟩:=R.shape;refine qyK ⟨rfl,λb6 S=>(cu (b3.le (Z.m (q.m (L.m (s.m (N.m (t.m (Ms.m (Q.m (Nv.m S)))))))))) i ω).s ?_⟩;rintro r SD Sr T;obtain ⟨_,_,_,_,_,_,rfl⟩:=T.shape;refine qyK ⟨rfl,λb7 U=>(bF (R.le (S.m (Sr.m U))) (T.le U) a i ω).s ?_⟩;rintro r b8 n W;obtain ⟨_,_,_,_,_,_,rfl⟩:=W.shape;refine qyK ⟨rfl,λb9 Wt=>(im (P.le (Q.m (Nv.m (S.m (Sr.m (U.m (n.m Wt))))))) (W.le Wt) (f.mul e) (a.mul i)).s ?_⟩;rintro r c0 XO o;rw [e2] at o;obtain ⟨_,_,_,_,_,_,rfl⟩:=o.shape;have sY:Sz (4*k+3) (((l.2.2:Rat)*(m.1:Rat))-((l.1:Rat)*(m.2.2:Rat))):=by{rw [<-e2];exact Sz.s ((f.mul e).sub (a.mul i)) ω};replace d:=d.le (q.m (L.m (s.m (N.m (t.m (Ms.m (Q.m (Nv.m (S.m (Sr.m (U.m (n.m (Wt.m XO)))))))))))));replace c:=c.le (q.m (L.m (s.m (N.m (t.m (Ms.m (Q.m (Nv.m (S.m (Sr.m (U.m (n.m (Wt.m XO)))))))))))));refine qyK ⟨rfl,λc1 ZG=>(jj (c.le ZG) (d.le ZG) E sX sD ω).s ?_⟩;rintro r c2 X gr;obtain ⟨_,_,_,_,_,_,rfl⟩:=gr.shape;refine qyK ⟨rfl,λc3 p=>(jj (o.le (ZG.m (X.m p))) (d.le (ZG.m (X.m p))) E sY sD ω).s ?_⟩;rintro r c4 a4 gs;obtain ⟨_,_,_,_,_,_,rfl⟩:=gs.shape;exact qyK ⟨rfl,λc5 Y=>⟨_,rfl,λh=>Å h j,λ_=>⟨_,_,_,_,_,_,_,_,_,_,_,_,rfl,gr.le (p.m (a4.m Y)),gs.le Y⟩⟩⟩}
def Kd:L3:=(0,0,0)
def Wn (a b:L3):Int:=jP a b
theorem vR:jP a b<0↔(a.1<b.1\/a.1=b.1/\(a.2.1<b.2.1\/a.2.1=b.2.1/\a.2.2<b.2.2)):=by have s:∀{x y:Int},(x<y/\(x-y).sign=-1)\/(x=y/\(x-y).sign=0)\/(y<x/\(x-y).sign=1):=χ;unfold jP;grind
theorem U3:ņ Wn:=⟨λa b h=>by unfold Wn at *;rw [vR] at *;omega,λa b d h c=>by unfold Wn at *;rw [vR] at *;omega⟩
theorem KU:RH [cT (a.1:Rat) (b.1:Rat),cT (a.2.1:Rat) (b.2.1:Rat),cT (a.2.2:Rat) (b.2.2:Rat)]=jP a b:=by have e:∀x y:Int,cT (x:Rat) (y:Rat)=(x-y).sign:=λx y=>by{unfold cT;rw [<-Wj9,Qh1]};rw [e,e,e];unfold jP;generalize (a.1-b.1).sign=x;generalize (a.2.1-b.2.1).sign=y;generalize (a.2.2-b.2.2).sign=z;simp only [RH];grind
def mW (V:Ó)(v:Value)(c:L3):Prop:=xB V v c.1 c.2.1 c.2.2/\Bd c
theorem mW.le {V V' c}(h:mW V v c)(l:V.Le V'):mW V' v c:=⟨h.1.le l,h.2⟩
theorem mW.shape {c}(h:mW V v c):∃(x y:Int)(p:OA)(u z:Int)(E:OA)(xc F:Int)(N:OA),v=dB #[Jq x,Jq y,qvZ p,Jq u,Jq z,qvZ E,Jq xc,Jq F,qvZ N]:=by obtain ⟨⟨a,b,p,d,f,q,g,i,r,e,-⟩,-⟩:=h;exact ⟨_,_,_,_,_,_,_,_,_,e⟩
theorem MN (h:mW V v a)(u:mW V w b):À 109 #[v,w] V λr W=>r=Jq (Wn a b):=by obtain ⟨s1,s2,s3⟩:=h.2.sz;obtain ⟨t1,t2,t3⟩:=u.2.sz;refine (xP h.1 u.1 s1 s2 s3 t1 t2 t3).s ?_;rintro r c d rfl;rw [KU];rfl
def eL (a b:L3):Bool:=decide (a=b)
theorem Tk (h:mW V v a)(u:mW V w b):À 111 #[v,w] V λr W=>r=Õ (eL a b):=by obtain ⟨s1,s2,s3⟩:=h.2.sz;obtain ⟨t1,t2,t3⟩:=u.2.sz;refine (y_ h.1 u.1 s1 s2 s3 t1 t2 t3).s ?_;rintro r g i rfl;unfold eL;congr 1;refine É.2 ⟨λ⟨c,d,f⟩=>Ww7 (Qg9.1 c) (Ww7 (Qg9.1 d) (Qg9.1 f)),λe=>by rw [e];exact ⟨rfl,rfl,rfl⟩⟩
end Go.Proofs.Tryz
namespace Go.Eng
open Go.Proofs Go.Shelf Go.RowKit Go.Lib Go.Sort
def YO {τ:Type}(R:Ó->Value->τ->Prop)(k:Nat)(V:Ó):Type:={p:List Value×τ // R V (.agg p.1.toArray) p.2/\p.1.length=k/\∀x∈p.1,x.oneCell'=true}
theorem HP {w w'}(h:kv (λ_=>False) w w'):∃q os,w'=grow (w.drewN q) os:=by refine ⟨w'.drawn-w.drawn,w'.heap.extract w.heap.size w'.heap.size,?_⟩;obtain ⟨a,k,dr,os,out⟩:=w';have b:=h.os;have c:=h.tape;have d:=h.out;have e:=h.dr;have f:=h.size;have g:=h.bh;dsimp only at b c d e f g;subst b c d;have i:a=w.heap++a.extract w.heap.size a.size:=χ;have j:dr=w.drawn+(dr-w.drawn):=ω;show (⟨a,w.tape,dr,w.os,w.output⟩:World)=⟨w.heap++a.extract w.heap.size a.size,w.tape,w.drawn+(dr-w.drawn),w.os,w.output⟩;rw [<-i,<-j]
def uS {α:Type}[Inhabited α](enc:α->zA um)(k:Nat)(w:World)(b off m:Nat)(d:Array α)(os:Array Obj)(i:Nat)(hi:i<w.heap.size):(sortWorldK enc k w b off m d os).heap[i]?=if b=i then (w.heap[i]?).map (onCells (putCells id off (flatK enc k d))) else w.heap[i]?:=by show ((w.heap.modify b (onCells (putCells id off (flatK enc k d))))++os)[i]?=_;rw [Array.getElem?_append,Ä (by rw [Array.size_modify];exact hi),Array.getElem?_modify]
def TY {α:Type}[Inhabited α](enc:α->zA um)(k:Nat)(y:∀x,(enc x).length=k)(d:Array α)(vs:zA um)(z:d.size*k<=vs.length)(i:Nat)(hi:i<d.size)(j:Nat)(x:um)(u:(enc d[i]!)[j]?=some x):(putCells id 0 (flatK enc k d) vs.toArray).toList[i*k+j]?=some x:=by have c:j<k:=by{have:=(Đ.1 u).1;rw [y] at this;exact this};have lt:i*k+j<d.size*k:=by{have:=Ă k (show i+1<=d.size from hi);rw [Ē,ŋ] at this;omega};have a:(i*k+j)/k=i:=(blk_iff k i _ ω).1 ū;have b:(i*k+j)%k=j:=by{rw [Nat.mod_eq_sub_div_mul,a];omega};unfold putCells;rw [Array.getElem?_toList,Array.getElem?_mapIdx,List.getElem?_toArray,ï ω,Wj0,Ä ⟨ã _,by rw [size_flatK];omega⟩,Wj1,get_flatK _ _ _ _ lt,a,b];rw [Wq3,u];rfl
variable {P:Program} {ρ:Ren} {τ:Type} {R:Ó->Value->τ->Prop} {k g:Nat} {ty:TypeId} {cf:τ->τ->Int}
set_option maxHeartbeats 1000000 in
theorem Oc (L:SlLaysF0.n6 P ρ)(aE:∀w,(isAgg (ρ.t 24)).run P w=.ok true w)(zE:∀w,(Go.sizeOf (ρ.t 24)).run P w=.ok k w)(hR:∀{V V':un} {v a},R V v a->V.Le V'->R V' v a)(hS:∀{V:un} {v a},R V v a->∃xs:zA um,v=.agg xs.toArray/\xs.length=k/\∀x∈xs,x.oneCell'=true)(hO:SWO λx y=>decide (cf x y<0))(hc:∀{V:un} {v w a b},R V v a->R V w b->ae P g #[v,w] V λr _=>r=Jq (cf a b)){V lb n c vs l}(hw:V.w.heap[lb]?=some (.cells vs.toArray ty (0,0)))(hx:V.X lb)(row:é k R V vs l)(hn:n=l.length)(h0:l≠[])(k0:0<k)(iY:l.length<1000000000):ae P (ρ.f 6) #[pT (some ⟨lb,0,none⟩) n c,.func (.func g) #[] #[]] V λr W=>r=æ #[]/\∃vs' l',W.w.heap[lb]?=some (.cells vs'.toArray ty (0,0))/\é k R W vs' l'/\l'.Perm l/\l'.Pairwise λx y=>¬cf y x<0:=by subst hn;have s:∀i:Fin l.length,∃e:YO R k V,e.1.2=l[i.1]/\∀j x,e.1.1[j]?=some x->vs[i.1*k+j]?=some x:=λi=>by{have ⟨xs,J,O,Z⟩:=row.at_ i.1 i.2;have ⟨ys,f1,f2,f3⟩:=hS O;have:xs=ys:=List.toArray_inj (Value.agg.inj f1);subst this;exact ⟨⟨(xs,l[i.1]),O,f2,f3⟩,rfl,Z⟩};obtain ⟨K,-,-⟩:=s ⟨0,(Qh6.2 h0)⟩;letI:Inhabited (YO R k V):=⟨K⟩;let enc:YO R k V->zA um:=λe=>e.1.1;have I:∀x,(enc x).length=k:=λx=>x.2.2.1;let d:Array (YO R k V):=Array.ofFn λi=>Classical.choose (s i);have B:d.size=l.length:=Array.size_ofFn;have Q:∀i (p:i<l.length),(d[i]!)=Classical.choose (s ⟨i,p⟩):=λi p=>by{rw [getElem!_pos d i ω];exact Array.getElem_ofFn _};have d1:∀i (p:i<l.length),(d[i]!).1.2=l[i]:=λi p=>by{rw [Q i p];exact (Classical.choose_spec (s ⟨i,p⟩)).1};have d2:∀i (p:i<l.length) j x,(enc d[i]!)[j]?=some x->vs[i*k+j]?=some x:=λi p j x h=>by{rw [Q i p] at h;exact (Classical.choose_spec (s ⟨i,p⟩)).2 j x h};have E:=aK hw;have hH:HoldsK enc k V.w lb 0 d:=λt M=>by{rw [size_flatK] at M;have Ku:t/k<l.length:=by{rw [<-B];exact Nat.div_lt_of_lt_mul (by rw [Ľ];exact M)};have hm:t%k<k:=ė _ k0;rw [get_flatK _ _ _ _ M,Ĉ];have hg:(enc d[t/k]!)[t%k]?=some ((enc d[t/k]!)[t%k]!):=by{rw [Wq3,ï (by rw [I];exact hm)];rfl};have:=d2 _ Ku _ _ hg;rw [Nat.div_add_mod' t k] at this;unfold World.cell? World.frozen?;rw [hw];refine ⟨?_,?_⟩;{show (if (none:Option _).isSome=true then none else vs.toArray[t]?)=_;rw [Ã ψ,List.getElem?_toArray];exact this};grind};have hle:∀m (u:Array (YO R k V)) os (F:∀b,V.H b->b<(sortWorldK enc k V.w lb 0 m u os).heap.size) (X:Nat->Prop) (C:∀b,X b->V.H b),V.Le ⟨sortWorldK enc k V.w lb 0 m u os,V.H,X,F,C⟩:=λm u os F X C b o ⟨D,S⟩=>by{refine ⟨D,?_⟩;rw [uS _ _ _ _ _ _ _ _ _ (aK S),Ã (show ¬lb=b from λe=>D (e▸V.hX _ hx))];exact S};have G:∀m (u:Array (YO R k V)) os,V.w.heap.size<=(sortWorldK enc k V.w lb 0 m u os).heap.size:=λm u os=>size_sortWorldK_c ..;have hC:CmpLays P g #[] enc k (λx y=>cf x.1.2 y.1.2) lb 0 d.size V.w:=λm os u _ x y=>by{have T:∀b,V.H b->b<(sortWorldK enc k V.w lb 0 m u os).heap.size:=λb D=>ľ (V.hH b D) (G m u os);have:=(hc (hR x.2.1 (hle m u os T (λ_=>False) λ_ h=>h.elim)) (hR y.2.1 (hle m u os T (λ_=>False) λ_ h=>h.elim))).2;refine this.s ?_<;>grind [HP]};have Xt:SWO (ltOf λ(x y:YO R k V)=>cf x.1.2 y.1.2):=⟨λx=>hO.irrefl _,λx y z=>hO.2 _ _ _,λx y z=>hO.3 _ _ _⟩;rw [<-B];refine ⟨?_,(AnyQ.slices_SortFunc L k aE zE enc I (λx=>x.2.2.2) (λx y=>cf x.1.2 y.1.2) Xt g #[] lb 0 c d V.w (λargs w=>iF.run (hc K.2.1 K.2.1).1 args) hC hH E ω).s ?_⟩;{obtain ⟨nm,F,C⟩:=L.f6;exact ⟨_,C,rfl,F⟩};rintro e w' ⟨rfl,A,q,os,hp,hs,rfl⟩;obtain ⟨p1,-,U⟩:=hp;have W:=p1.m B;refine ⟨_,rfl,⟨G _ _ _,λb D hX=>?_,rfl,rfl,rfl,Qr3 _ _⟩,rfl,(putCells id 0 (flatK enc k A) vs.toArray).toList,A.toList.map λx=>x.1.2,?_,⟨λi p=>?_⟩,?_,?_⟩;{rw [uS _ _ _ _ _ _ _ _ _ D,Ã (show ¬lb=b from λe=>hX (e▸hx))]};{show (sortWorldK enc k V.w lb 0 q A os).heap[lb]?=_;rw [uS _ _ _ _ _ _ _ _ _ E,Ä rfl,hw,Array.toArray_toList];rfl};{rw [ē,Wx0] at p;refine ⟨enc A[i]!,I _,?_,λj x hx=>TY enc k I A vs (by rw [W];exact (row.dN k0)) i p j x hx⟩;rw [Qr4,Qr1,getElem!_pos A i p];exact hR A[i].2.1 (hle q A os _ V.X V.hX)};{have J:∀a:Array (YO R k V),a.size=l.length->a.extract 0 d.size=a:=λa ha=>by{rw [B,<-ha];simp};rw [J _ W,J _ B] at U;have p4:=U.map λx=>x.1.2;have:d.toList.map (λx=>x.1.2)=l:=List.ext_getElem (by simp [B]) λi F C=>by{rw [Qr4,Qr1,<-getElem!_pos d i ω];exact d1 i C};rwa [this] at p4};{refine Ţ.2 λi j p Y N=>?_;rw [ē,Wx0] at p Y;have:=hs i j (ã _) N ω;rw [Qr4,Qr4,Qr1,Qr1,<-getElem!_pos A i p,<-getElem!_pos A j Y];exact Â this}
end Go.Eng
namespace Go.Proofs.Tryz
open Go.Eng Go.Proofs Go.Shelf Go.RowKit Go.Lib Go.Sort
def ņ.swo {τ:Type}{c:τ->τ->Int}(h:ņ c):SWO λx y=>decide (c x y<0):=
 ⟨λx=>È (h.refl x),λx y z a b=>Ç (Decidable.byContradiction λn=>h.tr _ _ _ n (h.asy _ _ (Á b)) (Á a)),
  λx y z a b=>È (h.tr _ _ _ (Â a) (Â b))⟩
variable {P:Program} {ρ:Ren} {τ:Type} {R:Ó->Value->τ->Prop} {k g:Nat} {ty:TypeId} {cf:τ->τ->Int}
theorem oL (L:SlLaysF0.n6 P ρ){V p c}{u:um}:ae P (ρ.f 6) #[pT p 0 c,u] V λr W=>r=æ #[]/\W=V:=by refine ⟨?_,(AnyF.slices_SortFunc_none L p c u V.w).s ?_⟩;{obtain ⟨d,a,b⟩:=L.f6;exact ⟨_,b,rfl,a⟩};rintro e g ⟨rfl,rfl⟩;exact ⟨_,rfl,kv.refl _ _,rfl,rfl⟩
theorem wT (L:SlLaysF0.n6 P ρ)(E:∀w,(isAgg (ρ.t 24)).run P w=.ok true w)(F:∀w,(Go.sizeOf (ρ.t 24)).run P w=.ok k w)(N:∀{V V':un} {v a},R V v a->V.Le V'->R V' v a)(O:∀{V:un} {v a},R V v a->∃xs:zA um,v=.agg xs.toArray/\xs.length=k/\∀x∈xs,x.oneCell'=true)(Z:ņ cf)(hc:∀{V:un} {v w a b},R V v a->R V w b->ae P g #[v,w] V λr _=>r=Jq (cf a b))(k0:0<k){V lb n c vs l}(hw:V.w.heap[lb]?=some (.cells vs.toArray ty (0,0)))(hx:V.X lb)(row:é k R V vs l)(z:n=l.length)(iY:l.length<1000000000:=by omega):ae P (ρ.f 6) #[pT (some ⟨lb,0,none⟩) n c,.func (.func g) #[] #[]] V λr W=>r=æ #[]/\∃u l',W.w.heap[lb]?=some (.cells u.toArray ty (0,0))/\é k R W u l'/\l'.Perm l/\l'.Pairwise λx y=>¬cf y x<0:=by by_cases d:l=[];{subst d z;refine (oL L).s ?_;rintro r V' e ⟨rfl,rfl⟩;exact ⟨rfl,vs,[],hw,row,.refl _,.nil⟩};{exact Oc (R:=R) (cf:=cf) L E F N O Z.swo hc hw hx row z d k0 iY}
end Go.Proofs.Tryz
namespace Go.Proofs.Tryz
variable{b n:Nat}{vs:List Value}{l:List L3}{V:Ó}{p:OA}
structure Sm (V:Ó) (n:Nat) (vs:List Value) (l:List L3):Prop where
 row:é 9 mW V vs l
 len:n=l.length
 iY:l.length<4000
theorem Sm.le {V V'}(h:Sm V n vs l)(e:V.Le V'):Sm V' n vs l:=⟨h.row.le λ_ _ g=>mW.le g e,h.len,h.iY⟩
theorem Sm.get (h:Sm V n vs l){k}(O:k<l.length):∃(x y:Int)(p:OA)(u z:Int)(E:OA)(xc F:Int)(N:OA),((0+k*9)+9<=vs.length/\(vs.drop (0+k*9)).take 9=[Jq x,Jq y,qvZ p,Jq u,Jq z,qvZ E,Jq xc,Jq F,qvZ N])/\mW V (dB #[Jq x,Jq y,qvZ p,Jq u,Jq z,qvZ E,Jq xc,Jq F,qvZ N]) (l.getD k Kd):=by obtain ⟨xs,-,a,b,c⟩:=h.row.get (d:=Kd) O φ;obtain ⟨x,y,p,u,z,E,xc,F,N,e⟩:=a.shape;have e:=Æ Array.toList (Value.agg.inj e);dsimp only at e;subst e;rw [Ĉ];exact ⟨x,y,p,u,z,E,xc,F,N,⟨b,c⟩,a⟩
theorem mW.cells {v c}(h:mW V v c):∃xs:zA um,v=.agg xs.toArray/\xs.length=9/\∀x∈xs,x.oneCell'=true:=by obtain ⟨_,_,_,_,_,_,_,_,_,rfl⟩:=h.shape;exact ⟨_,rfl,rfl,Ħ.1 rfl⟩
theorem JM {lb c}(hw:V.w.heap[lb]?=some (.cells vs.toArray 76 (0,0)))(z:V.X lb)(h:Sm V n vs l):À 108 #[pT (some ⟨lb,0,none⟩) n c,.func (.func 109) #[] #[]] V λr W=>r=æ #[]/\∃u l',W.w.heap[lb]?=some (.cells u.toArray 76 (0,0))/\Sm W n u l'/\l'.Perm l/\l'.Pairwise λx y=>¬Wn y x<0:=by have iY:=h.iY;refine (wT (R:=mW) (cf:=Wn) GL aggL sizL mW.le mW.cells U3 MN φ hw z h.row h.len).s λr V' b ⟨rfl,u,l',e,row,pm,a⟩=>⟨rfl,u,l',e,⟨row,h.len.m pm.length_eq.symm,by rw [pm.length_eq];exact iY⟩,pm,a⟩
theorem zV:À 108 #[pT none 0 0,.func (.func 109) #[] #[]] V λr W=>r=æ #[]:=
 (oL GL).s λ_ _ _ h=>h.1
set_option maxHeartbeats 1000000 in
theorem BH {lb c}(hw:V.w.heap[lb]?=some (.cells vs.toArray 76 (0,0)))(hx:V.X lb)(h:Sm V n vs l)(hc:n<=c):À 110 #[pT (some ⟨lb,0,none⟩) n c,.func (.func 111) #[] #[]] V λr W=>∃vs',r=pT (some ⟨lb,0,none⟩) (bU eL l).length c/\W.w.heap[lb]?=some (.cells vs'.toArray 76 (0,0))/\é 9 mW W vs' (bU eL l)/\vs'.length=vs.length:=by
 have iY:=h.iY;have len:=h.len;have a3:=h.row.dN φ;refine oP lb n c vs V _ hw hx ⟨λC V1 l1 P=>?_,λC=>⟨λz V'=>∃k:Nat,z=((k+1:Nat):Int)/\k+1<=n/\bU eL (l.take (k+1))=l.take (k+1),λz=>n-z.toNat,⟨1,σ,0,rfl,by have:=Â C;omega,nZ (by rw [ê];omega)⟩,?_⟩⟩
 ·have C:=Á C;have e:=nZ (e:=eL) (l:=l);rw [e,<-len];exact ⟨vs,rfl,P,h.row.le λ_ _ g=>mW.le g l1,rfl⟩
 have C:=Â C;rintro z V2 l2 ⟨k,rfl,hk,p⟩;have N:=h.le l2;refine ⟨rfl,λb=>?_,λb V9 l9 Q=>?_⟩;rotate_left
 ·have b:=Â b;have e:l.take (k+1)=l:=Ŋ ω;rw [e] at p;rw [p,<-len];exact ⟨vs,rfl,Q,h.row.le λ_ _ g=>mW.le g ax,rfl⟩
 have b:=Á b;have w1:i64.wrap (((k+1:Nat):Int)-1)=(k:Int):=by rw [au ω];omega
 have w2:i64.wrap (((k+1:Nat):Int)+1)=((k+1+1:Nat):Int):=by rw [au ω];rfl
 rw [w1,w2,Ü,Ü];have ⟨D,E,F,G,H,I,J,K,f,O,r1⟩:=N.get (k:=k+1) ω;have ⟨R,S,T,U,W,Y,v,x,y,Z,r2⟩:=N.get (k:=k) ω;refine ⟨⟨ω,b⟩,D,E,F,G,H,I,J,K,f,O,ū,R,S,T,U,W,Y,v,x,y,Z,λV3 l3=>(Tk ra ra).s ?_⟩;rintro r V4 l4 rfl;have step:=ir (e:=eL) (d:=Kd) (l:=l) (k:=k);refine ⟨_,rfl,λhe=>⟨ū,?_⟩,λhe=>⟨((k+1+1:Nat):Int),by dsimp only;omega,σ,k+1,rfl,ω,?_⟩⟩;rotate_left
 ·have s:=he;rw [step,p,s];show l.take (k+1)++[_]=_;have L:k+1<l.length:=ω;rw [show l.getD (k+1) Kd=l[k+1] by rw [ĕ,ï L];rfl,š L]
 have s:=he;have so:∀{m:Nat},m<c->jW 0 c m 9=m*9:=λhm=>by unfold jW;rw [Ã ω,Ĉ]
 refine ⟨λz V'=>∃(q t:Nat)(m:zA L3),z.1=(q:Int)/\z.2.1=((t+1:Nat):Int)/\q<=k+1+t/\k+1+t+1<=n/\Sm V' n z.2.2 m/\z.2.2.length=vs.length/\(∀i,k+1+t<=i->m.getD i Kd=l.getD i Kd)/\m.take q=bU eL (l.take (k+1+t+1)),λz=>n-z.2.1.toNat,
  ⟨(((k+1:Nat):Int),1,vs),σ,k+1,0,l,rfl,rfl,ω,ω,ra,rfl,λi _=>rfl,?_⟩,?_⟩
 ·rw [Ę,step,s,Ä rfl,ą,p]
 rintro ⟨zq,zt,us⟩ V5 l5 ⟨q,t,m,e1,e2,hq,ht,u,Kv,hm,M⟩;dsimp only at e1 e2 u Kv;subst e1 e2;dsimp only;have ml:=u.len;have a4:=u.row.dN φ;refine ⟨rfl,λa=>?_,λa=>?_⟩
 ·have a:=Á a;have w3:i64.wrap (((t+1:Nat):Int)-1)=(t:Int):=by{rw [au ω];omega};have w4:i64.wrap (((t+1:Nat):Int)+1)=((t+1+1:Nat):Int):=by{rw [au ω];rfl};have w5:i64.wrap ((q:Int)+1)=((q+1:Nat):Int):=by{rw [au ω];rfl};rw [w3,w4,w5,Ü,Ü,Ü,so ω];have ⟨D,E,F,G,H,I,J,K,f,O,r1⟩:=u.get (k:=k+1+(t+1)) ω;have ⟨R,S,T,U,W,Y,v,x,y,Z,r2⟩:=u.get (k:=k+1+t) ω;have a1:(k+1)*9+(t+1)*9=0+(k+1+(t+1))*9:=ω;have a2:(k+1)*9+t*9=0+(k+1+t)*9:=ω;rw [a1,a2];rw [hm _ ω] at r1;rw [hm _ ω] at r2;refine ⟨⟨ω,a⟩,D,E,F,G,H,I,J,K,f,O,ū,R,S,T,U,W,Y,v,x,y,Z,λV6 l6=>(Tk ra ra).s ?_⟩;rintro r V7 l7 rfl;have Wu:=l6.m l7;have j:=ir (e:=eL) (d:=Kd) (l:=l) (k:=k+1+t);refine ⟨_,rfl,λhn=>⟨⟨ω,a⟩,D,E,F,G,H,I,J,K,f,O,ū,ω,(((q+1:Nat):Int),((t+1+1:Nat):Int),_),by dsimp only;omega,σ,q+1,t+1,m.set q (l.getD (k+1+(t+1)) Kd),rfl,rfl,ω,ω,?_,?_,λi L=>?_,?_⟩,λhn=>⟨(((q:Nat):Int),((t+1+1:Nat):Int),us),by dsimp only;omega,σ,q,t+1,m,rfl,rfl,ω,ω,ra,Kv,λi L=>hm i ω,?_⟩⟩;{refine ⟨?_,by rw [Qc9];exact ml,by rw [Qc9];exact u.iY⟩;have:=(u.le Wu).row.put (i:=q) ω φ (xs:=[Jq D,Jq E,qvZ F,Jq G,Jq H,qvZ I,Jq J,Jq K,qvZ f]) rfl ra;dsimp only;rw [Ĉ];exact this};{exact (mR (vs:=us) (xs:=[Jq D,Jq E,qvZ F,Jq G,Jq H,qvZ I,Jq J,Jq K,qvZ f]) (o:=0+q*9) (by show 0+q*9+9<=_;omega)).m Kv};{rw [ĕ,Qb3 ω,<-ĕ];exact hm i ω};{have A:eL (l.getD (k+1+(t+1)) Kd) (l.getD (k+1+t) Kd)=false:=by{simpa using hn};have B:eL (l.getD (k+1+t+1) Kd) (l.getD (k+1+t) Kd)=false:=A;have L:q<m.length:=ω;rw [show k+1+(t+1)+1=k+1+t+2 from rfl,j,B,<-M,Ã φ];rw [Qh3,Ķ,ï L,show (some m[q]).toList=[m[q]] from rfl];rw [Wq4 _ _ (by rw [ê];omega),ê,ğ ω,Wv1];rfl};{have A:eL (l.getD (k+1+(t+1)) Kd) (l.getD (k+1+t) Kd)=true:=by{simpa using hn};have B:eL (l.getD (k+1+t+1) Kd) (l.getD (k+1+t) Kd)=true:=A;rw [show k+1+(t+1)+1=k+1+t+2 from rfl,j,B,Ä rfl,ą,M]}
 ·have a:=Â a;have hl:l.take (k+1+t+1)=l:=Ŋ ω;rw [hl] at M;have a5:q<n:=by{have:=HC (e:=eL) (d:=Kd) (l:=l) (k:=k) ω s;rw [<-M,ê] at this;omega};rw [Ü,so ω];have hz:q*9+(n-q)*9=n*9:=by{rw [<-Ē];congr 1;omega};rw [hz];refine ⟨ū,ω,ū,λV8 l8 a0=>⟨_,?_,a0,?_,?_⟩⟩;{rw [<-M,ê,ğ ω]};{rw [<-M,ě];exact (u.row.le λ_ _ g=>mW.le g l8).Hx ω φ};{simp only [î,ê,Į,mV,Qr6,Qs6,Qt7,Ā,Ļ];omega}
theorem uE:À 110 #[pT none 0 0,.func (.func 111) #[] #[]] V λr W=>r=pT none 0 0:=
 kQ V _ ⟨λ_ a b=>rfl,λh=>Å (Â h) φ⟩
def Jr (m:Nat):Prop:=(m=0->∀{V:Ó},À 110 #[.slice none 0 0,.func (.func 111) #[] #[]] V λr W=>r=.slice none 0 0) /\
 ∀{V:Ó} {lb n c:Nat} {vs:List Value} {l:List L3},l.length=m->V.w.heap[lb]?=some (.cells vs.toArray 76 (0,0))->V.X lb->Sm V n vs l->n<=c ->
 À 110 #[.slice (some ⟨lb,0,none⟩) n c,.func (.func 111) #[] #[]] V λr W=>∃u,r=.slice (some ⟨lb,0,none⟩) (bU eL l).length c/\W.w.heap[lb]?=some (.cells u.toArray 76 (0,0))/\é 9 mW W u (bU eL l)/\u.length=vs.length
theorem Zd (m):Jr m:=⟨λ_=>uE,λ_ hw a h b=>BH hw a h b⟩
def G4 (m:Nat):Prop:=∀{V:Ó} {lb n c:Nat} {vs:List Value} {l:List L3},l.length=m->V.w.heap[lb]?=some (.cells vs.toArray 76 (0,0))->V.X lb->Sm V n vs l ->
 À 108 #[.slice (some ⟨lb,0,none⟩) n c,.func (.func 109) #[] #[]] V λr W=>r=.tuple #[]/\∃u l',W.w.heap[lb]?=some (.cells u.toArray 76 (0,0))/\Sm W n u l'/\l'.Perm l/\l'.Pairwise λx y=>¬Wn y x<0
theorem VD (m):G4 m:=λ_ hw a h=>JM hw a h
theorem Cw {P:Prop}(h:P->V.H b):V.Le (V.shut.bf P b):=λx o g=>⟨λa=>by
 rcases a with a|a
 ·exact g.1 a
 ·rw [a.2.1] at g;exact g.1 (h a.1),g.2⟩
theorem ae.Uy {f args}{R u:um->un->Prop}(h:À f args V R)(y:∀r V',V.Le V'->(∀b,V.H b->V'.H b)->R r V'->u r V'):À f args V u:=
 ⟨h.1,h.2.s λ_ c ⟨r,he,a,d⟩=>⟨r,he,a,y r _ (V.Ul c a) (λ_ e=>e) d⟩⟩
theorem Nh {V':un}{P:Prop}(h:V.Le (V'.bf True b)):V.Le (V'.bf P b):=λx o a=>
 ⟨λc=>(h x o a).1 (c.imp id λe=>⟨trivial,e.2⟩),(h x o a).2⟩
theorem Rj {V'}{P:Prop}(h:V.Le V')(n:¬P):V.Le (V'.bf P b):=λx o a=>
 ⟨λc=>(h x o a).1 (c.elim id λe=>Å e.1 n),(h x o a).2⟩
def bC (l:L3):L3:=if l.1<0\/l.1=0/\l.2.1<0 then Ö l else l
def Tr.cV:Tr->List L3
 | .leaf _=>[]
 | .node l a b=>l::(a.cV++b.cV)
theorem wo:∀t:Tr,t.cV.length=t.size
 | .leaf _=>rfl
 | .node _ a b=>by simp only [Tr.cV,Ā,î,wo a,wo b,Tr.size]
theorem tq {p:L3->Prop}:∀{t:Tr},t.eu p->∀x∈t.cV,p x
 | .leaf _,_,x,h=>by cases h
 | .node l a b,⟨u,y,z⟩,x,h=>by
  rcases ç.1 h with rfl|h
  ·exact u
  ·rcases ú.1 h with h|h
   ·exact tq y x h
   ·exact tq z x h
theorem Bd.rev {l}(h:Bd l):Bd (Ö l):=by obtain ⟨a,b,c⟩:=h;unfold Bd Ö;simp only [Ŧ];exact ⟨a,b,c⟩
theorem Bd.can {l}(h:Bd l):Bd (bC l):=by unfold bC;split;{exact h.rev};{exact h}
theorem Bd.iS {l}(h:Bd l):jC 1000 l:=⟨h.sz.1,h.sz.2.1,h.sz.2.2⟩
theorem O5 {l:L3}:(RH [(l.1:Rat).num.sign,(l.2.1:Rat).num.sign]<0)↔(l.1<0\/l.1=0/\l.2.1<0):=by rw [Qh1,Qh1];simp only [RH];grind
theorem JR {v l}(h:mW V v l):À 107 #[v] V λr W=>∃w b,r=æ #[w,Õ b]/\mW W w (bC l):=by have f:=h;obtain ⟨⟨n,o,p,s,t,q,u,x,r,rfl,y,z,A⟩,c⟩:=h;obtain ⟨s1,s2,s3⟩:=c.sz;refine Au V _ λB C=>(fC ra s1).s ?_;rintro r V2 D rfl;refine ⟨_,rfl,λE F=>(fC ra s2).s ?_⟩;rintro r G H rfl;refine ⟨_,rfl,λI K M d=>(JQ (l:=[(l.1:Rat).num.sign,(l.2.1:Rat).num.sign]) rfl (λi v j=>⟨_,rfl,by rw [add_zero'];exact dX (xs:=XC [(l.1:Rat).num.sign,(l.2.1:Rat).num.sign]) d j⟩) ψ).s ?_⟩;rintro r N O rfl;refine ⟨_,rfl,λJ=>⟨λa P Q=>(kV (L:=l) ((f.le ax).1) c.iS φ).s ?_,λa R k=>?_⟩⟩;{have a:=O5.1 (Á a);rintro r m S g;have e:mW m r (Ö l):=⟨g,c.rev⟩;grind [e.shape,bC,e.le]};{have a:=Â a;refine ⟨_,_,rfl,?_⟩;unfold bC;rw [Ã λh=>a (O5.2 h)];exact ra}
theorem one9 {a b c d q e f r}:∀v∈([Jq a,Jq b,qvZ p,Jq c,Jq d,qvZ q,Jq e,Jq f,qvZ r]:zA um),v.oneCell'=true:=by intro v hm;simp only [ç,Ġ,Ì] at hm;rcases hm with rfl|rfl|rfl|rfl|rfl|rfl|rfl|rfl|rfl<;>rfl
def YL:Tr->List L3
 | .leaf _=>[]
 | .node l _ _=>[bC l]
theorem Hm {V t Z lb n c l}(h:RT V p t)(ha:t.eu Bd)(hw:V.w.heap[Z]?=some (.cells #[pT (mA lb c) n c] 137 (0,0)))(hx:V.X Z)(hv:vs≠[]->V.w.heap[lb]?=some (.cells vs.toArray 76 (0,0)))(hxv:vs≠[]->V.X lb)(hne:vs≠[]->Z≠lb)(hg:GR 9 mW V n c vs l)(hp:vs≠[]->0<n)(hn:n<=1000000:=by omega):À 106 #[qvZ p,qvZ (some ⟨Z,0,none⟩)] V λr V'=>∃(bm:Nat)(vm:zA um)(n' c':Nat),(vm≠[]->V'.w.heap[bm]?=some (.cells vm.toArray 76 (0,0)))/\(vm≠[]->V.w.heap.size<=bm\/(vs≠[]/\bm=lb))/\r=æ #[]/\V'.w.heap[Z]?=some (.cells #[pT (mA bm c') n' c'] 137 (0,0))/\GR 9 mW (V'.bf (vm≠[]) bm) n' c' vm (l++YL t)/\(vm≠[]->0<n'):=by refine yK p Z lb n c vs V _ hw hx hv hxv hne λQ e=>(dQ (h.le e)).s ?_;rintro r V2 s rfl;have u:∀{A B:Prop},A\/B\/False->A\/B:=λh=>h.imp id λh=>h.elim id False.elim;refine ⟨_,rfl,λf=>?_,λf R k hle m o q=>⟨k,vs,n,c,o,λh=>u (q h),rfl,m,?_,hp⟩⟩;{(cases t with|leaf i=>{cases f}|node ln a b=>{obtain ⟨x,z,C,D,E,F,G,H,I,J,pl,K,i,rfl,L,M,-,-⟩:=h.le (e.m s);have d:∀j v,([Jq z,Jq C,qvZ D,Jq E,Jq F,qvZ G,Jq H,Jq I,qvZ J,qvZ pl,qvZ K,Õ i]:zA um)[j]?=some v->V2.at ((⟨x,0,none⟩:Addr).add j) v:=by{intro j v hv;rw [add_zero'];exact dX (xs:=[_,_,_,_,_,_,_,_,_,_,_,_]) L hv};refine ⟨rfl,rfl,_,_,_,_,_,_,_,_,_,⟨x,0,none⟩,rfl,d 0 _ rfl,d 1 _ rfl,d 2 _ rfl,d 3 _ rfl,d 4 _ rfl,d 5 _ rfl,d 6 _ rfl,d 7 _ rfl,d 8 _ rfl,λS T=>(JR (l:=ln) ⟨ra,ha.1⟩).s ?_⟩;rintro r N U ⟨w,b,rfl,y⟩;obtain ⟨_,_,_,_,_,_,_,_,_,rfl⟩:=y.shape;refine ⟨_,_,_,_,_,_,_,_,_,_,rfl,ω,hg.le,hg.cap,rfl,one9,λsp c' O P W k hle m o q=>⟨k,_,n+1,c',o,λh=>u (q h),rfl,m,?_,λ_=>Nat.succ_pos n⟩⟩;exact ((hg.s (V':=N) λ_ _ g=>mW.le g ax).snoc rfl y φ O P).s λ_ _ g=>mW.le g hle})};{(cases t with|node ln a b=>{cases f}|leaf i=>{show GR 9 mW _ n c vs (l++[]);rw [ą];exact hg.s λ_ _ g=>mW.le g ((e.m s).m hle)})}
def XT:List Tr->List L3
 | []=>[]
 | t::r=>t.cV.map bC++XT r
theorem Uo (ts:zA Tr)(x:Tr):XT (ts++[x]).reverse=x.cV.map bC++XT ts.reverse:=by rw [List.reverse_append];rfl
theorem xO {V t ob lb}(h:RT V p t)(ha:t.eu Bd)(hs:t.size<=400000)(hw:V.w.heap[ob]?=some (.cells #[pT (mA lb 0) 0 0] 137 (0,0)))(hx:V.X ob):À 105 #[qvZ p,.func (.func 106) #[] #[qvZ (some ⟨ob,0,none⟩)]] V λr V'=>∃(bm:Nat)(vm:zA um)(n' c':Nat),(vm≠[]->V'.w.heap[bm]?=some (.cells vm.toArray 76 (0,0)))/\(vm≠[]->V.w.heap.size<=bm)/\r=æ #[]/\V'.w.heap[ob]?=some (.cells #[pT (mA bm c') n' c'] 137 (0,0))/\GR 9 mW (V'.bf (vm≠[]) bm) n' c' vm (t.cV.map bC)/\(vm≠[]->0<n'):=by
 refine tM p ob lb 0 0 [] V _ hw hx (λh=>Å rfl h) (λh=>Å rfl h) (λh=>Å rfl h) ⟨λz k V'=>∃(d:zA Tr)(o:zA L3),z.1=d.length/\z.1<=z.2.1/\z.2.1<=z.2.2.1.length/\Stk V' z.2.2.1 d/\(∀x∈d,x.eu Bd)/\GR 9 mW V' z.2.2.2.1 z.2.2.2.2.1 z.2.2.2.2.2 o/\(z.2.2.2.2.2≠[]->0<z.2.2.2.1)/\o++XT d.reverse=t.cV.map bC/\k=Mt d/\k<=2*t.size+1,
  ⟨(1,1,[qvZ p],0,0,[]),2*t.size+1,⟨by and_intros<;>first|rfl|trivial|omega,[t],[],rfl,Ù _,Ù _,?_,λx hx=>by rw [õ.1 hx];exact ha,GR.nil,(λh=>Å rfl h),by simp [XT],by simp [Mt],Ù _⟩⟩,?_⟩
 ·intro i x hx
  match i,hx with
  | 0,hx=>cases hx;exact ⟨p,rfl,h⟩
  | n+1,hx=>cases hx
 ·rintro ⟨n,c,vs,n',c',us⟩ m V1 l1 ⟨d,o,h1,S,T,f,D,H,e,I,h6,h7⟩;dsimp only at h1 S T f H e ⊢;have a0:=XY d
  have a6:o.length<=1000000:=by have:=Æ List.length I;rw [î,ē,wo] at this;omega
  have gl:=H.len;refine ⟨θ,λE=>?_,λE V6 bk hle J K e3=>?_⟩
  ·have E:0<n:=by simpa using E
   have w1:i64.wrap ((n:Int)-1)=((n-1:Nat):Int):=by rw [au ω];omega
   rw [w1];simp only [ĝ];have A:n-1<d.length:=ω
   have ⟨q,M,j⟩:=f (n-1) d[n-1] (ï A)
   have B:d=d.take (n-1)++[d[n-1]]:=by rw [š A,Ŋ ω]
   have s:=D _ (ô A);generalize d[n-1]=x at j B s
   have J:o++(x.cV.map bC++XT (d.take (n-1)).reverse)=t.cV.map bC:=by rw [<-Uo,<-B];exact I
   have K:Mt d=Mt (d.take (n-1))+(2*x.size+1):=by
    conv=>lhs;rw [B]
    rw [CK];simp [Mt]
   have F:∀y∈d.take (n-1),y.eu Bd:=λy u=>D y (Qn4 u);refine ⟨ū,S,q,M,ū,λV2 N Hf U f1 f2 f3 f4 f5=>(Hm (V:=V2.aw [Hf,vb us V2.w.heap.size U]) (lb:=U) (l:=o) (RT.le (V:=V1) (V':=V2.aw _) (λb o h=>N b o h) j) s f1 ⟨ψ,f2⟩ f3 (λh=>⟨by simp [kt h],f4 h⟩) f5 (H.s (V':=V2.aw _) λ_ _ g=>mW.le g λb o h=>N b o h) e).s ?_⟩;rintro r V3 l3 ⟨bm,vm,O,P,a1,W,rfl,a3,a4,Y⟩;refine ⟨bm,vm,a1,W,rfl,O,P,a3,λV4 Z=>?_⟩;have mL:V2.Le V3:=λb o h=>l3 b o h;have hZ:=N.m ((rC (V':=V2) mL (Ó.Le.refl V2) λh=>(W h).imp id λh'=>by rw [h'.2];exact f4 h'.1).m Z);refine (dQ (j.le hZ)).s ?_;rintro r V5 l5 rfl;have g5:=a4.s λ_ _ g=>mW.le g λb o h=>l5 b o (Z b o h);refine ⟨_,rfl,λC=>?_,λC=>?_⟩
   ·have C:x.rB=false:=by{simpa using C};(cases x with|leaf i=>{cases C}|node ln a b=>{obtain ⟨bb,x1,x2,x3,y1,y2,y3,z1,z2,z3,pl,pr,i,rfl,hb,hl,Q,R⟩:=j;have G:=(hZ.m l5) _ _ hb;simp only [Tr.size] at K;refine ⟨rfl,rfl,pr,Is G 10 rfl,rfl,rfl,pl,Is G 9 rfl,ω,ω,ω,rfl,by intro v hv;simp at hv;rcases hv with rfl|rfl<;>rfl,λsp c' k1 k2=>?_⟩;(refine ⟨(n-1+2,c',_,O,P,vm),Mt (d.take (n-1))+(2*a.size+1)+(2*b.size+1),ω,⟨by and_intros<;>first|rfl|trivial,d.take (n-1)++[b,a],o++YL (.node ln a b),?_,k1,?_,(f.le ax).Yf ω ω (R.le ax) (Q.le ax),λy u=>?_,g5,Y,?_,?_,ω⟩⟩);{simp;omega};{dsimp only;simp only [î,ê,Ā];omega};{rcases ú.1 u with u|u;{exact F y u};{simp only [ç,Ġ,Ì] at u;rcases u with rfl|rfl;{exact s.2.2};{exact s.2.1}}};{rw [<-J];have:XT (d.take (n-1)++[b,a]).reverse=a.cV.map bC++(b.cV.map bC++XT (d.take (n-1)).reverse):=by{rw [List.reverse_append];rfl};rw [this];simp only [Tr.cV,YL,ĺ,ş,ě,Qc0,ŗ]};{rw [CK];simp [Mt];omega}})
   ·have C:x.rB=true:=by{simpa using C};(cases x with|node ln a b=>{cases C}|leaf i=>{simp only [Tr.size] at K;(refine ⟨(n-1,c,vs,O,P,vm),Mt (d.take (n-1)),ω,⟨by and_intros<;>first|rfl|trivial,d.take (n-1),o,?_,by dsimp only;omega,T,λi t L=>?_,F,by simpa [YL] using g5,Y,by simpa [Tr.cV] using J,rfl,ω⟩⟩);{simp;omega};{rw [ĩ] at L;split at L;{exact (f.le ax) i t L};{cases L}}})
  ·have E:n=0:=by{simpa using E};have:d=[]:=Ĝ.1 ω;subst this;simp only [List.reverse_nil,XT,ą] at I;rw [<-I];refine ⟨bk,us,n',c',K,λh=>?_,rfl,J,H.s λ_ _ g=>mW.le g hle,e⟩;rcases e3 h with h|h|h;{exact h};{exact Å rfl h.1};{exact h.elim}
def ZX (l m:List L3):Prop:=m.Perm l/\m.Pairwise λx y=>¬Wn y x<0
theorem JP {t}(h:RT V p t)(ha:t.eu Bd)(hs:t.size<4000)(sl:G4 t.cV.length)(cl:Jr t.cV.length):À 57 #[qvZ p] V λr W=>∃q n c m,r=pT q n c/\bM 9 mW W q n (bU eL m)/\ZX (t.cV.map bC) m:=by refine Dy V _ ⟨λz _=>z=(0,0,[]),⟨(0,0,[]),σ,rfl⟩,?_⟩;rintro z V1 L rfl;dsimp only;refine ⟨rfl,λV2 M N B O P g3 g4 g5=>(xO (V:=V2.aw [N,vb [] V2.w.heap.size B]) (lb:=B) (RT.le (V:=V) (V':=V2.aw _) (λb o h=>M b o (L b o h)) h) ha ω O ⟨ψ,P⟩).s ?_⟩;rintro r V3 l3 ⟨Q,v,n,c,R,S,rfl,T,u,U⟩;refine ⟨Q,v,R,λh=>.inl (S h),rfl,n,c,T,λj=>?_,λj C W D E F=>?_⟩;{subst j;have X:=u.cap;have hle:=u.le;have hlen:=u.len;have Y:c=0:=by{simp at X;omega};subst Y;have Z:n=0:=ω;subst Z;have i:=Ĝ.1 hlen.symm;refine ⟨rfl,λV4 l4=>zV.s ?_⟩;rintro r V5 l5 rfl;refine ⟨rfl,λV6 l6 WQ E F=>(cl.1 (by rw [<-ē (f:=bC),i];rfl)).s ?_⟩;rintro r V7 l7 rfl;refine ⟨0,[],λh=>Å rfl h,λh=>Å rfl h,none,0,0,rfl,λV8 l8 G H=>⟨_,_,_,[],rfl,bM.nil,?_⟩⟩;rw [i];exact ⟨.refl _,List.Pairwise.nil⟩};{have a:=u.s λ_ _ g=>mW.le g λb o h=>W b o h;have hlen:=a.len;have x:(t.cV.map bC).length<4000:=by{rw [ē,wo];exact hs};have I:=a.cap;have hle:=a.le;have a0:=U j;have y:c≠0:=ω;have A:∀b,mA b c=some ⟨b,0,none⟩:=λb=>by{unfold mA;rw [Ã y]};rw [A];refine (sl (V:=C.aw [vb v C.w.heap.size D]) (lb:=D) (vs:=v) (l:=t.cV.map bC) (ē ..) (E j) ⟨by simp [kt j],F j⟩ ⟨a.row.le λ_ _ g=>mW.le g λb o h=>h,hlen,x⟩).s ?_;rintro r gx a6 ⟨rfl,d,m,H,sr,pm,pw⟩;have J:=pm.length_eq;have k:d≠[]:=λe=>by{have:=sr.row.dN φ;rw [e,J,<-hlen] at this;simp at this;omega};refine ⟨rfl,j,d,k,H,λK dM s f1 f2=>?_⟩;rw [A];refine ae.Uy (cl.2 (V:=K.aw [vb d K.w.heap.size s]) (lb:=s) (vs:=d) (l:=m) (J.m (ē ..)) (f1 k) ⟨by simp [kt k],f2 k⟩ (sr.le λb o h=>dM b o h) hle) ?_;rintro r iD eN hH ⟨ws,rfl,e4,row,wl⟩;have hk:=jQ (e:=eL) (l:=m);refine ⟨s,ws,λ_=>e4,λ_=>.inr ⟨k,rfl⟩,some ⟨s,0,none⟩,(bU eL m).length,c,by rw [A],λkE fw Qt f3=>⟨_,_,_,m,rfl,?_,pm,pw⟩⟩;exact bM.bI f3 (row.le λ_ _ g=>mW.le g ((Cw λ_=>hH s (f2 k)).m fw)) φ ω}
end Go.Proofs.Tryz
namespace Go.Proofs.Tryz.aq
open Go.Eng Go.Big
def nv (l:L3)(v:V2):Rat:=(l.1:Rat)*v.1+(l.2.1:Rat)*v.2
def aB (l:L3):V2:=((l.2.1:Rat),-(l.1:Rat))
def UO (l:L3)(v:V2):nv l v=cr (aB l) v:=by unfold nv cr aB;grind
def N8 (l:L3)(p v:V2):Int:=if (ay l p.1 p.2).num.sign=0 then (nv l v).num.sign else (ay l p.1 p.2).num.sign
def Am:Tr->V2->V2->Bool×Bool
 | .leaf i,_,_=>(i,true)
 | .node l a b,p,v=>if N8 l p v=1 then Am a p v else if N8 l p v=-1 then Am b p v else (false,false)
def ig {q:Rat}:q.num.sign=-1↔q<0:=by rw [Wx4,<-Int.not_le,<-Rat.not_le,Wy9]
def iQ {q:Rat}:q.num.sign=1↔q>0:=by have h:=@ig (-q);grind [Rat.neg_num]
def cF {q:Rat}:q.num.sign=0↔q=0:=by rw [Qm6,Ŝ]
def Cov (D:List V2)(M:List L3):Prop:=∀l∈M,∃r∈D,∃c:Rat,c>0/\r=(c*(aB l).1,c*(aB l).2)
def cov_nv {l:L3}{r:V2}{c:Rat}(u:c>0)(e:r=(c*(aB l).1,c*(aB l).2))(v:V2):cr r v=c*nv l v:=by rw [UO,e];unfold cr;grind
def H4 {c x:Rat}(u:c>0):(c*x>0↔x>0)/\(c*x<0↔x<0)/\(c*x=0↔x=0):=by have p:x>0->c*x>0:=λh=>mp u h;have n:x<0->c*x<0:=λh=>by{have:=mp u (show -x>0 by grind);grind};have z:x=0->c*x=0:=λh=>by{rw [h];grind};refine ⟨⟨λh=>?_,p⟩,⟨λh=>?_,n⟩,⟨λh=>?_,z⟩⟩;{by_cases q:x>0;{exact q};{by_cases a:x<0;{have:=n a;grind};{have:=z χ;grind}}};{by_cases q:x<0;{exact q};{by_cases a:x>0;{have:=p a;grind};{have:=z χ;grind}}};{rcases Qm8.1 h with h|h;{grind};{exact h}}
def kO (l:L3)(p v:V2)(s:Rat):ay l (p.1+s*v.1) (p.2+s*v.2)=ay l p.1 p.2+s*nv l v:=by unfold ay nv;grind
def zI (p v:V2)(s:Rat)(l:L3):Rat:=
 if nv l v=0\/ay l p.1 p.2=0 then s
 else if -(ay l p.1 p.2*(nv l v)⁻¹)>0/\-(ay l p.1 p.2*(nv l v)⁻¹)*(1/2)<s then -(ay l p.1 p.2*(nv l v)⁻¹)*(1/2) else s
def Free (l:L3)(p v:V2)(s:Rat):Prop:=ay l p.1 p.2≠0->(ay l p.1 p.2+s*nv l v).num.sign=(ay l p.1 p.2).num.sign
def inv_mul {c:Rat}(h:c≠0)(a:Rat):a*c⁻¹*c=a:=by rw [Wk4,Rat.inv_mul_cancel _ h,Rat.mul_one]
def HM {l:L3}{p v:V2}{s:Rat}(u:s>0)(h:nv l v=0\/ay l p.1 p.2=0\/¬-(ay l p.1 p.2*(nv l v)⁻¹)>0\/s<=-(ay l p.1 p.2*(nv l v)⁻¹)*(1/2)):Free l p v s:=by intro i;generalize ex:ay l p.1 p.2=x at *;generalize z:nv l v=c at *;have key:(x>0->x+s*c>0)/\(x<0->x+s*c<0):=by{rcases h with h|h|h|h;{rw [h];exact ⟨λ_=>χ,λ_=>χ⟩};{exact Å h i};{by_cases hc:c=0;{rw [hc];exact ⟨λ_=>χ,λ_=>χ⟩};have e:=inv_mul hc x;generalize x*c⁻¹=t at *;have t0:t≥0:=χ;by_cases b:c>0;{have d:=mn t0 (show c≥0 by grind);have f:=mp u b;exact ⟨λ_=>χ,λ_=>χ⟩};{have d:=mn t0 (show -c≥0 by grind);have f:=mp u (show -c>0 by grind);exact ⟨λ_=>χ,λ_=>χ⟩}};{by_cases hc:c=0;{rw [hc];exact ⟨λ_=>χ,λ_=>χ⟩};have e:=inv_mul hc x;generalize x*c⁻¹=t at *;by_cases b:c>0;{have d:=mn (show -t*(1/2)-s≥0 by grind) (show c≥0 by grind);have f:=mp u b;exact ⟨λ_=>χ,λ_=>χ⟩};{have d:=mn (show -t*(1/2)-s≥0 by grind) (show -c≥0 by grind);have f:=mp u (show -c>0 by grind);exact ⟨λ_=>χ,λ_=>χ⟩}}};by_cases g:x>0;{rw [iQ.2 g,iQ.2 (key.1 g)]};{have a:x<0:=χ;rw [ig.2 a,ig.2 (key.2 a)]}
def UM {p v:V2}{s:Rat}{l:L3}(u:s>0):zI p v s l>0/\zI p v s l<=s/\∀z:Rat,z>0->z<=zI p v s l->Free l p v z:=by unfold zI;split;{rename_i h;exact ⟨u,χ,λz a _=>HM a (by rcases h with h|h<;>simp [h])⟩};{split;{rename_i h;exact ⟨χ,χ,λz a b=>HM a (.inr (.inr (.inr b)))⟩};{rename_i h;refine ⟨u,χ,λz a b=>HM a ?_⟩;by_cases q:-(ay l p.1 p.2*(nv l v)⁻¹)>0;{exact .inr (.inr (.inr χ))};{exact .inr (.inr (.inl q))}}}
def Gu {p v:V2}:∀{ls:zA L3} {s:Rat},s>0->ls.foldl (zI p v) s>0/\ls.foldl (zI p v) s<=s/\∀l∈ls,∀z:Rat,z>0->z<=ls.foldl (zI p v) s->Free l p v z
 | [],s,h=>⟨h,by simp only [List.foldl_nil];grind,λl u=>by cases u⟩
 | a::ls,s,h=>by
  have ⟨E,M,F⟩:=UM (p:=p) (v:=v) (l:=a) h;have ⟨c,f,d⟩:=Gu (p:=p) (v:=v) (ls:=ls) E;simp only [Š];refine ⟨c,χ,λl u z b e=>?_⟩;rcases ç.1 u with rfl|u
  ·exact F z b χ
  ·exact d l u z b e
def half (u:V2):Int:=if u.2.num.sign>0\/u.2.num.sign=0/\u.1.num.sign>0 then 1 else if u.2.num.sign<0\/u.1.num.sign<0 then 2 else 0
def cM (u v:V2):Int:=if half u<half v then -1 else if half u>half v then 1 else -(cr u v).num.sign
def qt {q:Rat}:q.num.sign>0↔q>0:=by
 have:=Wy9 (q:=-q);rw [Qt8] at this;rw [gt_iff_lt,Int.sign_pos_iff];have a:(0<=-q)↔¬q>0:=by constructor<;>intro h<;>grind
 rw [a] at this;by_cases h:q>0
 ·exact ⟨λ_=>h,λ_=>by
   have:¬0<=-q.num:=λg=>this.1 g h;omega⟩
 grind
def zM {q:Rat}:q.num.sign<0↔q<0:=by have:=@qt (-q);grind [Rat.neg_num]
theorem dH (u):half u=1/\up u\/half u=2/\dn u\/half u=0/\u.1=0/\u.2=0:=by unfold half up dn;split;{rename_i h;rw [qt,qt,cF] at h;exact .inl ⟨rfl,h⟩};{rename_i h;rw [qt,qt,cF] at h;split;{rename_i a;rw [zM,zM] at a;exact .inr (.inl ⟨rfl,χ⟩)};{rename_i a;rw [zM,zM] at a;exact .inr (.inr ⟨rfl,χ,χ⟩)}}
theorem uA {u v}:cM u v<0↔half u<half v\/half u=half v/\cr u v>0:=by have:=@qt (cr u v);unfold cM;grind
def fA {u v:V2}:cM u v=0↔half u=half v/\cr u v=0:=by have:=@cF (cr u v);grind [cM]
def G9 (u v:V2):cM u v<0\/cM u v=0\/cM v u<0:=by rw [uA,fA,uA];grind [eA]
def AW (u v:V2)(h:cM u v<0):¬cM v u<0:=by grind [uA,eA]
theorem W_ {a b d}(hab:half a=half b)(hbd:half b=half d)(E:cr a b<=0)(u:cr b d<=0):cr a d<=0:=by by_cases h:cr a d<=0;{exact h};exfalso;have c:cr a d>0:=χ;have n:=Np a d b;rcases dH b with ⟨e,z⟩|⟨e,z⟩|⟨e,z⟩;{have g:up a:=by{(rcases dH a with ⟨f,h⟩|⟨f,h⟩|⟨f,h⟩<;>first|exact h|omega)};have i:up d:=by{(rcases dH d with ⟨f,h⟩|⟨f,h⟩|⟨f,h⟩<;>first|exact h|omega)};unfold up at g z i;have k:=mn (show -(cr a b)≥0 by grind) (show d.2≥0 by grind);have l:=mn (show -(cr b d)≥0 by grind) (show a.2≥0 by grind);have m:=mn (show cr a d≥0 by grind) (show b.2≥0 by grind);have j:cr a d*b.2=0:=χ;have b2:b.2=0:=by{rcases Qm8.1 j with h|h<;>grind};have b1:b.1>0:=χ;have d2:d.2=0:=by{by_cases q:d.2>0;{have:=mp b1 q;unfold cr at u;rw [b2] at u;grind};{grind}};have:=mn (show a.2≥0 by grind) (show d.1≥0 by grind);unfold cr at c;rw [d2] at c;grind};{have g:dn a:=by{(rcases dH a with ⟨f,h⟩|⟨f,h⟩|⟨f,h⟩<;>first|exact h|omega)};have i:dn d:=by{(rcases dH d with ⟨f,h⟩|⟨f,h⟩|⟨f,h⟩<;>first|exact h|omega)};unfold dn at g z i;have k:=mn (show -(cr a b)≥0 by grind) (show -d.2≥0 by grind);have l:=mn (show -(cr b d)≥0 by grind) (show -a.2≥0 by grind);have m:=mn (show cr a d≥0 by grind) (show -b.2≥0 by grind);have j:cr a d*b.2=0:=χ;have b2:b.2=0:=by{rcases Qm8.1 j with h|h<;>grind};have b1:-b.1>0:=χ;have d2:d.2=0:=by{by_cases q:-d.2>0;{have:=mp b1 q;unfold cr at u;rw [b2] at u;grind};{grind}};have:=mn (show -a.2≥0 by grind) (show -d.1≥0 by grind);unfold cr at c;rw [d2] at c;grind};grind [dH]
def ang_ge {u v:V2}:¬cM u v<0↔half v<half u\/half u=half v/\cr u v<=0:=by rw [uA];grind
def xJ (a b d:V2)(h:¬cM a b<0)(u:¬cM b d<0):¬cM a d<0:=by rw [ang_ge] at *;grind [W_]
def G8 {u v:V2}(hu:nz u)(z:nz v):cM u v<0↔Qm u v:=by have c:∀{w:V2},nz w->¬(w.1=0/\w.2=0):=λh g=>by{unfold nz at h;rcases h with h|h;exact h g.1;exact h g.2};rw [uA];unfold Qm;rcases dH u with ⟨e,h⟩|⟨e,h⟩|⟨e,h⟩;{rcases dH v with ⟨b,a⟩|⟨b,a⟩|⟨b,a⟩;{rw [e,b];constructor;{rintro (g|⟨_,g⟩);{omega};{exact .inr ⟨.inl ⟨h,a⟩,g⟩}};{rintro (⟨_,g⟩|⟨_,g⟩);{exact (gS a g).elim};{exact .inr ⟨rfl,g⟩}}};{rw [e,b];exact ⟨λ_=>.inl ⟨h,a⟩,λ_=>.inl φ⟩};{exact Å a (c z)}};{rcases dH v with ⟨b,a⟩|⟨b,a⟩|⟨b,a⟩;{rw [e,b];constructor;{rintro (g|⟨g,_⟩)<;>omega};{rintro (⟨g,_⟩|⟨⟨g,_⟩|⟨_,g⟩,_⟩);{exact (gS g h).elim};{exact (gS g h).elim};{exact (gS a g).elim}}};{rw [e,b];constructor;{rintro (g|⟨_,g⟩);{omega};{exact .inr ⟨.inr ⟨h,a⟩,g⟩}};{rintro (⟨g,_⟩|⟨_,g⟩);{exact (gS g h).elim};{exact .inr ⟨rfl,g⟩}}};{exact Å a (c z)}};{exact Å h (c hu)}
def sQ {a b d:V2}(h:cM a b=0)(E:cM b d=0):cM a d=0:=by have z:∀{u v:V2},cM u v=0↔¬cM u v<0/\¬cM v u<0:=by{intro u v;constructor;{intro e;refine ⟨ω,?_⟩;rw [fA] at e;have:=eA u v;rw [uA];rintro (g|⟨_,g⟩);{omega};{grind}};{rintro ⟨g,c⟩;rcases G9 u v with e|e|e;{exact Å e g};{exact e};{exact Å e c}}};rw [z] at *;exact ⟨xJ _ _ _ h.1 E.1,xJ _ _ _ E.2 h.2⟩
def BB (a:V2):cM a a=0:=fA.2 ⟨rfl,by unfold cr;grind⟩
def AX {a b d:V2}(h:cM a b<0)(u:¬cM d b<0):cM a d<0:=by by_cases q:cM a d<0;{exact q};{exact Å h (xJ _ _ _ q u)}
def G7 {a b d:V2}(h:¬cM b a<0)(u:cM b d<0):cM a d<0:=by by_cases q:cM a d<0;{exact q};{exact Å u (xJ _ _ _ h q)}
def eP (u v:V2):Bool:=decide (cM u v=0)
def Ka:∀{r:zA V2} {p:V2},(p::r).Pairwise (λx y=>¬cM y x<0) ->(lC eP p r).Pairwise (λx y=>cM x y<0)/\(∀x∈lC eP p r,cM p x<0)/\∀x∈p::r,∃y∈p::lC eP p r,cM y x=0
 | [],p,_=>⟨List.Pairwise.nil,(λx h=>by cases h),λx h=>⟨x,h,BB x⟩⟩
 | a::r,p,h=>by
  have ⟨u,z⟩:=Ģ.1 h;have ⟨i1,i2,i3⟩:=Ka z;have f:¬cM a p<0:=u a (Ć ..);unfold lC;by_cases e:cM a p=0
  ·have:eP a p=true:=Ç e;rw [Ä this]
   have i:¬cM p a<0:=λg=>by
    rcases fA.1 e with ⟨j,k⟩;rw [uA] at g;have:=eA a p;rcases g with g|⟨_,g⟩
    ·omega
    ·grind
   refine ⟨i1,λx c=>G7 f (i2 x c),λx c=>?_⟩;rcases ç.1 c with rfl|c
   ·exact ⟨x,Ć ..,BB x⟩
   ·have ⟨y,d,g⟩:=i3 x c;rcases ç.1 d with rfl|d
    ·refine ⟨p,Ć ..,sQ (b:=y) ?_ g⟩;rcases G9 p y with q|q|q
     ·exact Å q i
     ·exact q
     ·exact Å q f
    ·exact ⟨y,ø _ d,g⟩
  ·have:eP a p=false:=È e;rw [this]
   have lt:cM p a<0:=by
    rcases G9 p a with q|q|q
    ·exact q
    ·exfalso;apply e;rw [fA] at *;have:=eA a p;exact ⟨q.1.symm,χ⟩
    ·exact Å q f
   refine ⟨Ģ.2 ⟨i2,i1⟩,λx c=>?_,λx c=>?_⟩
   ·rcases ç.1 c with rfl|c;{exact lt};{exact G7 (b:=a) f (i2 x c)}
   ·rcases ç.1 c with rfl|c;{exact ⟨x,Ć ..,BB x⟩};{have ⟨y,d,g⟩:=i3 x c;exact ⟨y,ø _ d,g⟩}
def J7 {m:zA V2}(h:m.Pairwise (λx y=>¬cM y x<0)):(bU eP m).Pairwise (λx y=>cM x y<0)/\∀x∈m,∃y∈bU eP m,cM y x=0:=by (cases m with|nil=>{exact ⟨List.Pairwise.nil,λx h=>by cases h⟩}|cons p r=>{have ⟨a,b,c⟩:=Ka h;exact ⟨Ģ.2 ⟨b,a⟩,c⟩})
def Yi {m:zA V2}(h:m.Pairwise (λx y=>¬cM y x<0))(u:∀r∈m,nz r)(z:∀r∈m,∃s∈m,opp s r)(E:m.Pairwise (λx y=>¬cM x y=0)):YU m:=by refine ⟨u,z,?_⟩;have:=h.and E;refine List.Pairwise.imp_of_mem ?_ this;intro a b c F ⟨g,d⟩;refine (G8 (u a c) (u b F)).1 ?_;rcases G9 a b with q|q|q;{exact q};{exact Å q d};{exact Å q g}
def A8 {a b c x y z:Int}(u:a*y=b*x)(E:a*z=c*x)(g:Nat.gcd (Nat.gcd x.natAbs y.natAbs) z.natAbs=1):x.natAbs∣a.natAbs:=by have d:a.natAbs*y.natAbs=b.natAbs*x.natAbs:=by{rw [<-ł,<-ł,u]};have e:a.natAbs*z.natAbs=c.natAbs*x.natAbs:=by{rw [<-ł,<-ł,E]};have d1:x.natAbs∣a.natAbs*Nat.gcd (Nat.gcd x.natAbs y.natAbs) z.natAbs:=by{rw [<-Nat.gcd_mul_left,<-Nat.gcd_mul_left];exact Nat.dvd_gcd (Nat.dvd_gcd ⟨a.natAbs,by rw [Ľ]⟩ ⟨b.natAbs,by rw [d,Ľ]⟩) ⟨c.natAbs,by rw [e,Ľ]⟩};rwa [g,ĝ] at d1
theorem GH {l m}(ol:bX l=true)(E:bX m=true)(cl:bC l=l)(u:bC m=m){x y}(F:ay l x y=0)(hm:ay m x y=0)(hc:cr (aB l) (aB m)=0):l=m:=by unfold bX at ol E;rw [Ċ,decide_eq_true_iff,decide_eq_true_iff] at ol E;have d:l.1*m.2.1=l.2.1*m.1:=by{unfold cr aB at hc;have:(l.1:Rat)*(m.2.1:Rat)=(l.2.1:Rat)*(m.1:Rat):=χ;exact_mod_cast this};unfold ay at F hm;have o:(l.1:Rat)*(m.2.1:Rat)=(l.2.1:Rat)*(m.1:Rat):=by{exact_mod_cast d};have e:l.1*m.2.2=l.2.2*m.1:=by{have:(l.1:Rat)*(m.2.2:Rat)=(l.2.2:Rat)*(m.1:Rat):=χ;exact_mod_cast this};have f:l.2.1*m.2.2=l.2.2*m.2.1:=by{have:(l.2.1:Rat)*(m.2.2:Rat)=(l.2.2:Rat)*(m.2.1:Rat):=χ;exact_mod_cast this};obtain ⟨p,g⟩:=ol;obtain ⟨q,i⟩:=E;have j:Nat.gcd (Nat.gcd l.2.1.natAbs l.1.natAbs) l.2.2.natAbs=1:=by{rw [Ť l.2.1.natAbs];exact g};have k:Nat.gcd (Nat.gcd m.2.1.natAbs m.1.natAbs) m.2.2.natAbs=1:=by{rw [Ť m.2.1.natAbs];exact i};have s:=Nat.dvd_antisymm (A8 (a:=m.1) (b:=m.2.1) (c:=m.2.2) (by rw [Qh2,<-d,Qh2]) (by rw [Qh2,<-e,Qh2]) g) (A8 d e i);have t:=Nat.dvd_antisymm (A8 (a:=m.2.1) (b:=m.1) (c:=m.2.2) (by rw [Qh2,d,Qh2]) (by rw [Qh2,<-f,Qh2]) j) (A8 (b:=l.1) (c:=l.2.2) d.symm f k);have sl:¬(l.1<0\/l.1=0/\l.2.1<0):=λh=>by{unfold bC at cl;rw [Ä h] at cl;have n:-l.1=l.1:=Æ (λx:L3=>x.1) cl;have r:-l.2.1=l.2.1:=Æ (λx:L3=>x.2.1) cl;omega};have sm:¬(m.1<0\/m.1=0/\m.2.1<0):=λh=>by{unfold bC at u;rw [Ä h] at u;have n:-m.1=m.1:=Æ (λx:L3=>x.1) u;have r:-m.2.1=m.2.1:=Æ (λx:L3=>x.2.1) u;omega};have n:l.1=m.1:=ω;by_cases z:l.1=0;{grind [Int.eq_of_mul_eq_mul_left]};{grind [Int.eq_of_mul_eq_mul_left,Int.mul_comm]}
end Go.Proofs.Tryz.aq
namespace Go.Proofs.Tryz.aq
def mx (x:Rat×Rat)(t:Rat):Rat:=x.1+t*(x.2-x.1)
def UC {x:Rat×Rat}{t:Rat}(z:x.1>0)(u:x.2>0)(t0:t>0)(t1:t<=1):mx x t>0:=by have a:=mn (show 1-t≥0 by grind) (show x.1≥0 by grind);have b:=mp t0 u;unfold mx;grind
def Qk {y:Rat×Rat}(z:y.1>0){s:Rat}(E:s>0)(u:mx y s<=0):∃t,t>0/\t<=s/\mx y t=0:=by have a:y.1-y.2>0:=by{by_cases c:y.1-y.2>0;{exact c};{have:=mn (show s≥0 by grind) (show y.2-y.1≥0 by grind);unfold mx at u;grind}};have e:=inv_mul (show y.1-y.2≠0 by grind) y.1;refine ⟨y.1*(y.1-y.2)⁻¹,(mp z (Wq0.2 a)),?_,?_⟩;{generalize y.1*(y.1-y.2)⁻¹=t at *;by_cases c:t<=s;{exact c};{have:=mp (show t-s>0 by grind) a;unfold mx at u;grind}};grind [mx]
def Ob:∀(L:zA (Rat×Rat)),(∀x∈L,x.1>0)->∃s,s>0/\∀x∈L,x.1+s*x.2>0
 | [],_=>⟨1,φ,λx h=>by cases h⟩
 | y::L,u=>by
  have ⟨s,E,h⟩:=Ob L λx d=>u x (ø y d);by_cases c:y.1+s*y.2>0
  ·exact ⟨s,E,λz a=>by rcases ç.1 a with rfl|a;exact c;exact h z a⟩
  ·have b:-y.2>0:=by
    by_cases q:y.2<0
    ·grind
    ·have:=mn (show s≥0 by grind) (show y.2≥0 by grind);grind
   have e:=inv_mul (show -y.2≠0 by grind) y.1;have p:=mp (u y (Ć ..)) (Wq0.2 b);generalize y.1*(-y.2)⁻¹=r at *
   have g:r<=s:=by by_cases q:r<=s;{exact q};{have:=mp (show r-s>0 by grind) b;grind}
   refine ⟨r*(1/2),χ,λz a=>?_⟩;rcases ç.1 a with rfl|a
   ·grind
   ·have f:=u z (ø _ a);by_cases q:z.2≥0;{have:=mn (show r*(1/2)≥0 by grind) q;grind};{have:=mn (show s-r*(1/2)≥0 by grind) (show -z.2≥0 by grind);grind}
def pos (M:List L3)(p:V2):Prop:=∀m∈M,ay m p.1 p.2>0
def Es (M:List L3)(l:L3):Prop:=∃p:V2,ay l p.1 p.2=0/\∀m∈M,m≠l->ay m p.1 p.2>0
def Dif (M:List L3):Prop:=∀l∈M,∀m∈M,l≠m->∀p:V2,ay l p.1 p.2=0->ay m p.1 p.2=0->cr (aB l) (aB m)≠0
def Xa (u:V2):cr u u=0:=by unfold cr;grind
def Br (m:L3)(q p:V2)(t:Rat):ay m (q.1+t*(p.1-q.1)) (q.2+t*(p.2-q.2))=ay m q.1 q.2+t*(ay m p.1 p.2-ay m q.1 q.2):=by unfold ay;grind
def ess {M:zA L3}(O:Dif M){q p:V2}(E:pos M q)(Z:∀m∈M,Es M m->ay m p.1 p.2>0):pos M p:=by
 have key:∀(n:Nat)(N:zA L3),N.length<=n->(∀m∈N,m∈M)->(∀z,pos N z->pos M z)->pos M p:=by
  intro n
  induction n with
  | zero=>exact λN b a h=>h p λm hm=>by rw [Ĝ.1 (Nat.le_zero.1 b)] at hm;cases hm
  | succ n ih=>
   intro N b a h;by_cases all:∀l∈N,Es N l
   ·refine h p λl b=>Z l (a l b) ?_;have ⟨x,d,j⟩:=all l b
    have u:∀x:V2,ay l x.1 x.2=0->(∀m∈N,m≠l->ay m x.1 x.2>0)->∀m∈M,ay m x.1 x.2≥0:=λx d j m hm=>by
     by_cases c:ay m x.1 x.2≥0
     ·exact c
     exfalso;have ⟨t,t0,t1,e⟩:=Qk (y:=(ay m q.1 q.2,ay m x.1 x.2)) (E m hm) (s:=1) φ (by unfold mx;grind)
     have:=h (q.1+t*(x.1-q.1),q.2+t*(x.2-q.2)) (λk F=>by
      rw [Br];by_cases g:k=l
      ·subst g;rw [d];have B:t≠1:=λg=>c (by unfold mx at e;dsimp only at e;rw [g] at e;grind);have:=mp (show 1-t>0 by grind) (E k (a k F));grind
      ·exact UC (x:=(ay k q.1 q.2,ay k x.1 x.2)) (E k (a k F)) (j k F g) t0 t1) m hm
     rw [Br] at this;unfold mx at e;grind
    refine ⟨x,d,λm hm ne=>?_⟩;by_cases c:ay m x.1 x.2>0
    ·exact c
    have z:ay m x.1 x.2=0:=by have:=u x d j m hm;grind
    have sl:=O l (a l b) m hm (λe=>ne e.symm) x d z
    obtain ⟨w,v,C⟩:∃w:V2,nv l w=0/\nv m w<0:=by by_cases g:nv m (aB l)<0;{exact ⟨aB l,by rw [UO];exact Xa _,g⟩};{refine ⟨(-(aB l).1,-(aB l).2),?_,?_⟩<;>rw [UO] at*<;>unfold cr at*<;>grind}
    have ⟨s,A,o⟩:=Ob ((N.filter λk=>decide (k≠l)).map λk=>(ay k x.1 x.2,nv k w)) χ
    have:=u (x.1+s*w.1,x.2+s*w.2) (by rw [kO,d,v];grind) (λk F ne=>by
     rw [kO];exact o _ (ù.2 ⟨k,ġ.2 ⟨F,by simpa using ne⟩,rfl⟩)) m hm
    rw [kO,z] at this;have:=mp A (show -nv m w>0 by grind);grind
   ·obtain ⟨l,i,ne⟩:∃l∈N,¬Es N l:=by{simpa using all};have:=(List.length_filter_lt_length_iff_exists (p:=λk=>decide (k≠l))).2 ⟨l,i,ψ⟩;refine ih (N.filter λk=>decide (k≠l)) ω (λm hm=>a m (ġ.1 hm).1) λz f=>h z ?_;have f:∀m∈N,m≠l->ay m z.1 z.2>0:=λm hm e=>f m (ġ.2 ⟨hm,by simpa using e⟩);by_cases c:ay l z.1 z.2>0;{intro m hm;by_cases e:m=l;{exact e▸c};{exact f m hm e}};exfalso;have ⟨t,t0,t1,e⟩:=Qk (y:=(ay l q.1 q.2,ay l z.1 z.2)) (E l (a l i)) (s:=1) φ (by unfold mx;grind);refine ne ⟨(q.1+t*(z.1-q.1),q.2+t*(z.2-q.2)),?_,λm hm r=>?_⟩;{rw [Br];exact e};{rw [Br];exact UC (x:=(ay m q.1 q.2,ay m z.1 z.2)) (E m (a m hm)) (f m hm r) t0 t1}
 exact key M.length M (Ù _) (λm hm=>hm) λz f=>f
def X0 (l:L3):V2:=((l.1:Rat),(l.2.1:Rat))
def sq_p {x y:Rat}(h:x≠0\/y≠0):x*x+y*y>0:=by have p:∀z:Rat,z≠0->z*z>0:=λz a=>by{by_cases c:z>0;{exact mp c c};{have:=mp (show -z>0 by grind) (show -z>0 by grind);grind}};have q:∀z:Rat,z*z≥0:=λz=>by{by_cases c:z≥0;{exact mn c c};{have:=mn (show -z≥0 by grind) (show -z≥0 by grind);grind}};rcases h with h|h;{have:=p x h;have:=q y;grind};{have:=p y h;have:=q x;grind}
def nv_nrm {l:L3}(h:(aB l).1≠0\/(aB l).2≠0):nv l (X0 l)>0:=by have:nv l (X0 l)=(l.1:Rat)*(l.1:Rat)+(l.2.1:Rat)*(l.2.1:Rat):=rfl;refine sq_p ?_;rcases h with h|h;{exact .inr h};{left;intro e;apply h;show -(l.1:Rat)=0;rw [e];grind}
def es_pos {M:zA L3}{l:L3}(u:(aB l).1≠0\/(aB l).2≠0){x:V2}(z:ay l x.1 x.2=0)(h:∀m∈M,m≠l->ay m x.1 x.2>0)(L:zA L3)(E:∀m∈L,ay m x.1 x.2>0):∃q:V2,pos M q/\ay l q.1 q.2>0/\pos L q:=by
 have ⟨s,c,a⟩:=Ob (((M.filter λm=>decide (m≠l))++L).map λm=>(ay m x.1 x.2,nv m (X0 l))) (λy d=>by
  obtain ⟨m,hm,rfl⟩:=ù.1 d;rcases ú.1 hm with hm|hm
  ·have:=ġ.1 hm;exact h m this.1 (by simpa using this.2)
  ·exact E m hm)
 have b:ay l (x.1+s*(X0 l).1) (x.2+s*(X0 l).2)>0:=by rw [kO,z];have:=mp c (nv_nrm u);grind
 refine ⟨(x.1+s*(X0 l).1,x.2+s*(X0 l).2),λm hm=>?_,b,λm hm=>?_⟩
 ·by_cases e:m=l;{rw [e];exact b};{rw [kO];exact a (ay m x.1 x.2,nv m (X0 l)) (ù.2 ⟨m,Ĩ _ (ġ.2 ⟨hm,by simpa using e⟩),rfl⟩)}
 ·rw [kO];exact a (ay m x.1 x.2,nv m (X0 l)) (ù.2 ⟨m,Ĺ _ hm,rfl⟩)
end Go.Proofs.Tryz.aq
namespace Go.Proofs.Tryz
open Go.Eng Go.Big
section
variable{l:L3}
theorem wA {s u:Sp}{t}:(s.meet u).inn t↔s.inn t/\u.inn t:=by have c:uU s.lo u.lo<t↔s.lo<t/\u.lo<t:=by{unfold uU;rcases cg u.lo s.lo with ⟨h,e⟩|⟨h,e⟩|⟨h,e⟩<;>rw [e]<;>simp<;>grind};have d:t<uV s.hi u.hi↔t<s.hi/\t<u.hi:=by{unfold uV;rcases cg u.hi s.hi with ⟨h,e⟩|⟨h,e⟩|⟨h,e⟩<;>rw [e]<;>simp<;>grind};unfold Sp.inn Sp.meet;cases s.a<;>cases s.b<;>cases u.a<;>cases u.b<;>simp<;>grind
theorem reg_one {s:Sp}(h:s.good):uY [s]:=⟨λx a=>(show x=s by simpa using a)▸h,ψ⟩
theorem vT {s u:Sp}(E:s.can)(hu:u.can):Ú 2 [s] [u]=if (s.meet u).emp=true then [] else [s.meet u]:=by have key:∀t,ë (Ú 2 [s] [u]) t=true->t∉à ([s]++[u])->(s.meet u).inn t:=λt h a=>by{rw [comb_inB _ _ _ a] at h;have h:(ë [s] t&&ë [u] t)=true:=h;rw [Ċ] at h;have e:∀x:Sp,ë [x] t=x.innB t:=λx=>by{unfold ë;simp};grind [innB_iff,wA.2]};refine reg_eq (à ([s]++[u])) (comb_reg _ _ _) ?_ λt a=>?_;{split;{exact ⟨Ū,List.Pairwise.nil⟩};{rename_i h;exact reg_one ⟨Sp.CD E hu,by simpa using h⟩}};{refine Hh ⟨λh=>?_,λh=>?_⟩;{have z:=key t h a;split;{rename_i he;obtain ⟨b,c⟩:=z;generalize s.meet u=m at he b c;unfold Sp.emp at he;rw [Ċ,Ċ,Ł,Ł,Ñ] at he;obtain ⟨⟨d,F⟩,hc⟩:=he;rw [d] at b;rw [F] at c;rcases cg m.lo m.hi with ⟨h,e⟩|⟨h,e⟩|⟨h,e⟩<;>grind};{exact jI.2 ⟨_,ψ,z⟩}};{rw [comb_inB _ _ _ a];show (ë [s] t&&ë [u] t)=true;split at h;{cases h};{have ⟨x,f,hi⟩:=jI.1 h;obtain rfl:x=s.meet u:=by{simpa using f};have ⟨b,c⟩:=wA.1 hi;rw [Ċ];exact ⟨jI.2 ⟨s,ψ,b⟩,jI.2 ⟨u,ψ,c⟩⟩}}}
theorem Pj {s:Sp}{t}:s.has t=true↔(s.a=true\/s.lo<=t)/\(s.b=true\/t<=s.hi):=by unfold Sp.has;rcases cg s.lo t with ⟨d,c⟩|⟨d,c⟩|⟨d,c⟩<;>rcases cg s.hi t with ⟨u,e2⟩|⟨u,e2⟩|⟨u,e2⟩<;>rw [c,e2]<;>cases s.a<;>cases s.b<;>simp<;>grind
theorem qO (h:Nz l)(t):ay l (cP l t) (cR l t)=0/\eE l (cP l t) (cR l t)=t:=by have a:=h.norm;unfold ay eE cP cR;unfold fh at *;constructor<;>grind
theorem val_me {m}(h:ß l m≠0):ay l (meX l m) (meY l m)=0/\ay m (meX l m) (meY l m)=0:=by have a:=Qn7 _ h;unfold ay meX meY;constructor;{have e:(l.1:Rat)*(((l.2.1:Rat)*(m.2.2:Rat)-(l.2.2:Rat)*(m.2.1:Rat))*(ß l m)⁻¹)+(l.2.1:Rat)*(((l.2.2:Rat)*(m.1:Rat)-(l.1:Rat)*(m.2.2:Rat))*(ß l m)⁻¹)+(l.2.2:Rat)=(l.2.2:Rat)*(1-ß l m*(ß l m)⁻¹):=by{unfold ß;grind};rw [e,a];grind};{have e:(m.1:Rat)*(((l.2.1:Rat)*(m.2.2:Rat)-(l.2.2:Rat)*(m.2.1:Rat))*(ß l m)⁻¹)+(m.2.1:Rat)*(((l.2.2:Rat)*(m.1:Rat)-(l.1:Rat)*(m.2.2:Rat))*(ß l m)⁻¹)+(m.2.2:Rat)=(m.2.2:Rat)*(1-ß l m*(ß l m)⁻¹):=by{unfold ß;grind};rw [e,a];grind}
theorem W3 (l):bC (bC l)=bC l:=by unfold bC;by_cases h:l.1<0\/l.1=0/\l.2.1<0;{rw [Ä h,Ã];unfold Ö;dsimp only;omega};{rw [Ã h,Ã h]}
theorem ok_can (h:bX l=true):bX (bC l)=true:=by unfold bC;split;{unfold bX Ö cj at *;grind};{exact h}
theorem ZN (h:bX l=true):¬(l.1=0/\l.2.1=0):=by unfold bX at h;rw [Ċ,decide_eq_true_iff] at h;exact h.1
theorem A9 {s:Sp}:s.emp=false↔∃t,s.inn t:=by constructor;{intro h;have ⟨c,d⟩:=Sp.Yx h;refine ⟨s.rS,?_,?_⟩;{cases u:s.a;{exact .inr (c u)};{exact .inl rfl}};{cases z:s.b;{exact .inr (d z)};{exact .inl rfl}}};{rintro ⟨t,c,d⟩;grind [Sp.iL]}
theorem pH {l s m}:(cU l s m=true->∀t,(bD l s m).inn t↔s.inn t/\0<ay m (cP l t) (cR l t))/\(s.emp=false->cU l s m=false->∀t,s.inn t->¬0<ay m (cP l t) (cR l t)):=by have key:Û m l≠0->∀t,(bD l s m).inn t↔s.inn t/\0<j9 m l+Û m l*t:=λa t=>by{unfold bD;rcases cZ (Û m l) with ⟨h,e⟩|⟨h,e⟩|⟨h,e⟩;{exact Å h a};{rw [e];show (s.meet ⟨Ø m l,0,false,true⟩).inn t↔_;rw [wA];have b:Û m l*(t-Ø m l)=j9 m l+Û m l*t:=by{unfold Ø;grind};have:(⟨Ø m l,0,false,true⟩:Sp).inn t↔Ø m l<t:=by{unfold Sp.inn;simp};rw [this,<-b];refine and_congr_right λ_=>⟨λd=>Œ h χ,λd=>?_⟩;by_cases c:Ø m l<t;{exact c};{have:=Wv6 (show 0<=Û m l by grind) (show 0<=Ø m l-t by grind);grind}};{rw [e];show (s.meet ⟨0,Ø m l,true,false⟩).inn t↔_;rw [wA];have b:-Û m l*(Ø m l-t)=j9 m l+Û m l*t:=by{unfold Ø;grind};have:(⟨0,Ø m l,true,false⟩:Sp).inn t↔t<Ø m l:=by{unfold Sp.inn;simp};rw [this,<-b];refine and_congr_right λ_=>⟨λd=>Œ χ χ,λd=>?_⟩;by_cases c:t<Ø m l;{exact c};{have:=Wv6 (show 0<=-Û m l by grind) (show 0<=t-Ø m l by grind);grind}}};by_cases a:Û m l=0;{have g:bD l s m=s:=by{unfold bD;rw [a];rfl};have f:cU l s m=decide ((j9 m l).num.sign>0):=by{unfold cU;rw [a];rfl};grind [qe,cZ]};{have f:cU l s m=!(bD l s m).emp:=by{unfold cU;grind [cZ]};grind [qe,A9.2]}
theorem lD {s m}(u:s.good)(z:cU l s m=true):(bD l s m).good:=⟨Tz u.1,Ty u.2 z⟩
theorem pG (l):bC l=l\/bC l=Ö l:=by unfold bC;split;exact .inr rfl;exact .inl rfl
theorem rev_rev (l):Ö (Ö l)=l:=by unfold Ö;simp
theorem A7 (l):aq.aB (Ö l)=(-(aq.aB l).1,-(aq.aB l).2):=by unfold aq.aB Ö;simp only [Qh0]
theorem nz_d (h:bX l=true):(aq.aB l).1≠0\/(aq.aB l).2≠0:=by unfold aq.aB;by_cases e:l.2.1=0;{right;intro a;have:(l.1:Rat)=0:=χ;exact ZN h ⟨by exact_mod_cast this,e⟩};{left;show (l.2.1:Rat)≠0;exact_mod_cast e}
theorem ZS {m}(ol:bX l=true)(z:bX m=true){p:aq.V2}(E:ay l p.1 p.2=0)(F:ay m p.1 p.2=0)(hc:aq.cr (aq.aB l) (aq.aB m)=0):l=m\/l=Ö m:=by have a:∀{x:L3},ay x p.1 p.2=0->ay (bC x) p.1 p.2=0:=λ{x} h=>by{grind [pG,val_rev]};have b:aq.cr (aq.aB (bC l)) (aq.aB (bC m))=0:=by{unfold aq.cr at *;rcases pG l with e|e<;>rcases pG m with u|u<;>rw [e,u]<;>(try rw [A7 l])<;>(try rw [A7 m])<;>(try dsimp only)<;>grind};grind [aq.GH,ok_can,W3,pG,rev_rev]
theorem dif_of {M}(u:∀m∈M,bX m=true){q}(z:aq.pos M q):aq.Dif M:=by intro l d m hm c p f g hc;rcases ZS (u l d) (u m hm) f g hc with e|e;{exact c e};{have a:=z l d;have b:=z m hm;grind [val_rev]}
theorem PB (h:Nz l){x y}(u:ay l x y=0):∃t,x=cP l t/\y=cR l t:=by have a:=Qn7 _ h.norm;unfold ay at u;refine ⟨eE l x y,?_,?_⟩;{unfold cP eE fh at *;grind};{unfold cR eE fh at *;grind}
def ä:Sp:=⟨0,0,true,true⟩
theorem iw:ä.good:=⟨⟨λ_=>rfl,λ_=>rfl⟩,rfl⟩
theorem full_inn (t):ä.inn t:=⟨.inl rfl,.inl rfl⟩
end
section
variable{l:L3}
theorem cross_dot (l m):ß l m=-Û m l:=by unfold ß Û;grind
theorem Tu (m l):aq.cr (aq.aB m) (aq.aB l)=Û m l:=by unfold aq.cr aq.aB Û;grind
def pU (l m:L3):Rat:=eE l (meX l m) (meY l m)
theorem CU {m}(u:Nz l)(h:ß l m≠0):pU l m=Ø m l:=by have ⟨v1,v2⟩:=val_me h;have ⟨t,a,b⟩:=PB u v1;have c:pU l m=t:=by{unfold pU;rw [a,b];exact (qO u t).2};rw [a,b,qe] at v2;have d:Û m l≠0:=λe=>h (by rw [cross_dot,e];grind);unfold Ø;grind
def vW (l m:L3)(s:Sp):Option Sp:=
 if ß l m=0 then (if (ay m (cP l 0) (cR l 0)).num.sign<=0 then none else some s)
 else
  let s':Sp:=if 0<(Û m l).num.sign then (if s.a=true\/s.lo<pU l m then ⟨pU l m,s.hi,false,s.b⟩ else s) else (if s.b=true\/pU l m<s.hi then ⟨s.lo,pU l m,s.a,false⟩ else s)
  if s'.a=false/\s'.b=false/\s'.hi<=s'.lo then none else some s'
theorem TJ {s:Sp}:s.emp=true↔s.a=false/\s.b=false/\s.hi<=s.lo:=by cases h:s.emp;{grind [Sp.iL.1]};{refine ⟨λ_=>?_,λ_=>rfl⟩;have d:¬(s.a=true\/s.b=true\/s.lo<s.hi):=λg=>by{rw [<-Sp.iL] at g;rw [h] at g;cases g};refine ⟨?_,?_,?_⟩;{cases e:s.a;{rfl};grind};{cases e:s.b;{rfl};grind};{by_cases c:s.lo<s.hi<;>grind}}
theorem Cb {m s}(u:Nz l)(z:s.good):vW l m s=if cU l s m=true then some (bD l s m) else none:=by unfold vW;by_cases hc:ß l m=0;{have c:Û m l=0:=by{rw [cross_dot] at hc;grind};have f:bD l s m=s:=by{unfold bD;rw [c];rfl};have d:cU l s m=decide ((j9 m l).num.sign>0):=by{unfold cU;rw [c];rfl};rw [Ä hc,f,d];show (if (j9 m l).num.sign<=0 then none else some s)=_;grind};{have c:Û m l≠0:=λe=>hc (by rw [cross_dot,e];grind);rw [Ã hc,CU u hc];have es:(if 0<(Û m l).num.sign then (if s.a=true\/s.lo<Ø m l then (⟨Ø m l,s.hi,false,s.b⟩:Sp) else s) else (if s.b=true\/Ø m l<s.hi then ⟨s.lo,Ø m l,s.a,false⟩ else s))=bD l s m:=by{obtain ⟨g,i⟩:=z.1;obtain ⟨lo,hi,a,b⟩:=s;unfold bD;rcases cZ (Û m l) with ⟨h,e⟩|⟨h,e⟩|⟨h,e⟩;{exact Å h c};{rw [e,Ä φ];unfold Sp.meet uU;grind [cg]};{rw [e,Ã φ];unfold Sp.meet uV;grind [cg]}};have d:cU l s m=!(bD l s m).emp:=by{unfold cU;grind [cZ]};grind [TJ.2,TJ.1]}
def eI (l:L3):List L3->Sp->Option Sp
 | [],s=>some s
 | m::r,s=>if m=l then eI l r s else match vW l m s with
  | some s'=>eI l r s'
  | none=>none
theorem xZ (u:Nz l):∀{c:zA L3} {s w:Sp},s.good->eI l c s=some w->w.good/\∀t,w.inn t↔s.inn t/\∀m∈c,m≠l->0<ay m (cP l t) (cR l t)
 | [],s,w,h,e=>by cases e;exact ⟨h,λt=>⟨λg=>⟨g,λm hm=>by cases hm⟩,λg=>g.1⟩⟩
 | m::c,s,w,h,e=>by
  unfold eI at e;by_cases hm:m=l
  ·rw [Ä hm] at e;have ⟨g1,g2⟩:=xZ u h e;grind
  ·rw [Ã hm,Cb u h] at e;by_cases z:cU l s m=true
   ·rw [Ä z] at e;have ⟨g1,g2⟩:=xZ u (lD h z) e;grind [pH.1]
   grind
theorem xY (z:Nz l):∀{c:zA L3} {s:Sp},s.good->eI l c s=none->∀t,s.inn t->¬∀m∈c,m≠l->0<ay m (cP l t) (cR l t)
 | [],s,h,e=>by cases e
 | m::c,s,h,e=>by
  intro t E hall;have ⟨F,M⟩:=List.forall_mem_cons.1 hall;unfold eI at e;by_cases hm:m=l
  ·rw [Ä hm] at e;exact xY z h e t E M
  ·rw [Ã hm,Cb z h] at e;by_cases u:cU l s m=true
   ·rw [Ä u] at e;exact xY z (lD h u) e t ((pH.1 u t).2 ⟨E,F hm⟩) M
   ·exact pH.2 h.2 (by simpa using u) t E (F hm)
theorem Pb (u:Nz l){c}:(eI l c ä).isSome=true↔aq.Es c l:=by constructor;{intro h;have ⟨w,hw⟩:=Qd6.1 h;have ⟨b,d⟩:=xZ u iw hw;have ⟨t,e⟩:=A9.1 b.2;exact ⟨(cP l t,cR l t),(qO u t).1,((d t).1 e).2⟩};{rintro ⟨p,f,a⟩;have ⟨t,g,i⟩:=PB u f;(cases h:eI l c ä with|some w=>rfl|none=>{rw [g,i] at a;exact Å a (xY u iw h t (full_inn t))})}
def ry (l:L3):List L3->List L3
 | []=>[l]
 | u::r=>if aq.cM (aq.aB u) (aq.aB l)<0 then u::ry l r else if u=l then u::r else l::u::r
def rN (c:List L3):List L3->List L3->List L3
 | [],out=>out
 | l::r,out=>rN c r (if (eI l c ä).isSome=true then ry l out else out)
theorem we {x:L3}:∀{r:zA L3},x∈ry l r↔x=l\/x∈r
 | []=>by simp [ry]
 | u::r=>by
  unfold ry;split
  ·rw [ç,we,ç];exact or_left_comm
  split
  ·rename_i e;subst e;rw [ç];exact ⟨.inr,λh=>h.elim .inl id⟩
  ·rw [ç]
theorem yB (h:bX l=true):bX (Ö l)=true:=by unfold bX Ö cj at *;grind
end
section
theorem dot_rev (l m):Û (Ö l) m=-Û l m:=by unfold Û Ö;simp only [Qh0];grind
theorem OV (l m):j9 (Ö l) m=-j9 l m:=by unfold j9;exact val_rev ..
theorem cutP_rev {l m}(h:Û l m≠0):Ø (Ö l) m=Ø l m:=by unfold Ø;rw [dot_rev,OV];grind
end
section
variable{l:L3}{q x y:Rat}
theorem rev_ne (h:bX l=true):Ö l≠l:=λe=>by
 have b:=nz_d h;rw [<-e,A7] at b;have a:=Æ aq.aB e;rw [A7] at a;have c:=Æ Prod.fst a;have d:=Æ Prod.snd a;dsimp only at c d b;grind
theorem SP:∀(L:zA Rat) {lo hi:Rat},lo<hi->∃t,lo<t/\t<hi/\∀r∈L,t≠r
 | [],lo,hi,h=>⟨(lo+hi)/2,χ,χ,(λr u=>by cases u)⟩
 | r::L,lo,hi,h=>by
  by_cases c:lo<r/\r<hi
  ·have ⟨t,z,E,F⟩:=SP L c.1;grind
  ·have ⟨t,z,E,F⟩:=SP L h;grind
theorem T0 {s:Sp}(h:s.good):∃lo hi,lo<hi/\∀t,lo<t->t<hi->s.inn t:=by have ⟨t,e⟩:=A9.1 h.2;obtain ⟨lo,hi,a,b⟩:=s;unfold Sp.inn at *;cases a<;>cases b<;>simp at e ⊢;{exact ⟨lo,hi,χ,λt c d=>⟨c,d⟩⟩};{exact ⟨lo,lo+1,χ,λt c d=>c⟩};{exact ⟨hi-1,hi,χ,λt c d=>d⟩};{exact ⟨0,1,φ⟩}
theorem H8 {m}(hm:bX m=true)(u:bX l=true){t}(z:t≠Ø m l):m=l\/m=Ö l\/ay m (cP l t) (cR l t)≠0:=by by_cases b:Û m l=0;{by_cases a:ay m (cP l t) (cR l t)=0;{have c:=(qO (ZN u) t).1;have hc:aq.cr (aq.aB m) (aq.aB l)=0:=by{rw [Tu];exact b};rcases ZS (p:=(cP l t,cR l t)) hm u a c hc with g|g<;>grind};{exact .inr (.inr a)}};{refine .inr (.inr λa=>z ?_);rw [qe] at a;unfold Ø;grind}
theorem Tr.kT {P:L3->Prop}:∀{t:Tr},(∀l∈t.cV,P l)->t.eu P
 | .leaf _,_=>trivial
 | .node l x y,h=>⟨h l (Ć ..),kT λm hm=>h m (ø _ (Ĩ _ hm)),kT λm hm=>h m (ø _ (Ĺ _ hm))⟩
theorem HK {a b}:fe [⟨x,y,a,b⟩]=(if a then 0 else 1)+(if b then 0 else 1):=by unfold fe zu Sp.Jm Sp.HT;cases a<;>cases b<;>rfl
theorem Uu (h:y<=x):uU x y=x:=by unfold uU;rcases cg y x with ⟨g,e⟩|⟨g,e⟩|⟨g,e⟩<;>rw [e]<;>simp<;>grind
theorem maxQ_r (h:x<=y):uU x y=y:=by unfold uU;rcases cg y x with ⟨g,e⟩|⟨g,e⟩|⟨g,e⟩<;>rw [e]<;>simp<;>grind
theorem Uw (h:x<=y):uV x y=x:=by unfold uV;rcases cg y x with ⟨g,e⟩|⟨g,e⟩|⟨g,e⟩<;>rw [e]<;>simp<;>grind
theorem minQ_r (h:y<=x):uV x y=y:=by unfold uV;rcases cg y x with ⟨g,e⟩|⟨g,e⟩|⟨g,e⟩<;>rw [e]<;>simp<;>grind
theorem TH:(⟨x,y,false,false⟩:Sp).emp=decide (y<=x):=by unfold Sp.emp;rcases cg x y with ⟨g,e⟩|⟨g,e⟩|⟨g,e⟩<;>simp only<;>simp<;>grind
theorem Zh {b:ut}:(⟨x,y,true,b⟩:Sp).emp=false:=rfl
theorem Zi {a:ut}:(⟨x,y,a,true⟩:Sp).emp=false:=by cases a<;>rfl
theorem halves {v:Sp}(h:v.good)(p):(v.innB p=true/\(v.meet ⟨p,0,false,true⟩).emp=false/\(v.meet ⟨0,p,true,false⟩).emp=false/\fe [v.meet ⟨p,0,false,true⟩]+fe [v.meet ⟨0,p,true,false⟩]<=fe [v]+2) \/ (v.meet ⟨p,0,false,true⟩=v/\(v.meet ⟨0,p,true,false⟩).emp=true)\/(v.meet ⟨0,p,true,false⟩=v/\(v.meet ⟨p,0,false,true⟩).emp=true):=by obtain ⟨⟨c,d⟩,he⟩:=h;obtain ⟨e,f,a,b⟩:=v;unfold Sp.meet Sp.innB;cases a<;>cases b;{grind [TH,Uu,minQ_r,Uw,maxQ_r,HK]};{grind [TH,Uu,HK,Zi]};{grind [TH,Uw,HK,Zh]};{left;simp [HK,Zh,Zi]}
def bg (l:L3)(e:Bool):Tr->Sp->List Sp
 | .leaf i,v=>if i=true then [v] else []
 | .node m x y,v=>
  if m=l/\e=true\/m=Ö l/\e=false then bg l e x v
  else if m=l\/m=Ö l then bg l e y v
  else (if cU l v m=true then bg l e x (bD l v m) else [])++(if cU l v (Ö m)=true then bg l e y (bD l v (Ö m)) else [])
def Crs (l:L3)(P:List Rat)(t:Tr):Prop:=t.eu λm=>Û m l≠0->Ø m l∈P
theorem KK {s w:Sp}(h:(s.meet w).cS q):s.cS q\/w.cS q:=by unfold Sp.cS Sp.meet at *;have mx:∀x y,uU x y=x\/uU x y=y:=λx y=>by{unfold uU;split<;>simp};have mn:∀x y,uV x y=x\/uV x y=y:=λx y=>by{unfold uV;split<;>simp};have a:=mx s.lo w.lo;have b:=mn s.hi w.hi;obtain ⟨s1,s2,s3,s4⟩:=s;obtain ⟨e,f,c,d⟩:=w;cases s3<;>cases c<;>cases s4<;>cases d<;>simp at h a b⊢<;>grind
theorem Xc {m s}(h:(bD l s m).cS q):s.cS q\/Û m l≠0/\q=Ø m l:=by unfold bD at h;rcases cZ (Û m l) with ⟨g,e⟩|⟨g,e⟩|⟨g,e⟩<;>rw [e] at h;{exact .inl h};{rcases KK h with h|⟨_,h⟩|⟨h,_⟩;{exact .inl h};{exact .inr ⟨χ,h⟩};{cases h}};{rcases KK h with h|⟨h,_⟩|⟨_,h⟩;{exact .inl h};{cases h};{exact .inr ⟨χ,h⟩}}
theorem cnt3 {f g h k}(H:∀c,(f c).toNat+(g c).toNat+(h c).toNat<=(k c).toNat):∀l:zA Rat,l.countP f+l.countP g+l.countP h<=l.countP k
 | []=>ψ
 | c::l=>by
  have u:=cnt3 H l;have a:=H c;have e:∀b:ut,(if b=true then 1 else 0)=b.toNat:=λb=>by cases b<;>rfl
  grind
theorem Xb {m s}(h:Û m l=0):bD l s m=s:=by unfold bD;rw [h];rfl
theorem Tx {m s}(h:Û m l=0):cU l s m=decide ((j9 m l).num.sign>0):=by unfold cU;rw [h];rfl
theorem VX {l m v}(u:v.good):(cU l v m=true/\cU l v (Ö m)=true/\Û m l≠0/\v.innB (Ø m l)=true/\fe [bD l v m]+fe [bD l v (Ö m)]<=fe [v]+2)\/(bD l v m=v/\cU l v (Ö m)=false)\/(bD l v (Ö m)=v/\cU l v m=false):=by
 have key:Û m l≠0->∀s,cU l s m=!(bD l s m).emp:=λf s=>by unfold cU;grind [cZ]
 have g:Û (Ö m) l≠0->∀s,cU l s (Ö m)=!(bD l s (Ö m)).emp:=λf s=>by unfold cU;grind [cZ]
 by_cases f:Û m l=0
 ·grind [dot_rev,cZ,Xb,Tx,OV]
 ·have k:Û (Ö m) l≠0:=by rw [dot_rev];grind
  rw [key f,g k];have H:=halves u (Ø m l);have j:=cutP_rev f
  have mk:∀{x y:Sp},bD l v m=x->bD l v (Ö m)=y->(v.innB (Ø m l)=true/\x.emp=false/\y.emp=false/\fe [x]+fe [y]<=fe [v]+2)\/(x=v/\y.emp=true)\/(y=v/\x.emp=true) ->
    ((!(bD l v m).emp)=true/\(!(bD l v (Ö m)).emp)=true/\Û m l≠0/\v.innB (Ø m l)=true/\fe [bD l v m]+fe [bD l v (Ö m)]<=fe [v]+2)\/(bD l v m=v/\(!(bD l v (Ö m)).emp)=false)\/(bD l v (Ö m)=v/\(!(bD l v m).emp)=false):=by
   rintro x y rfl rfl (⟨a,b,c,d⟩|⟨a,b⟩|⟨a,b⟩)
   ·exact .inl ⟨by rw [b];rfl,by rw [c];rfl,f,a,d⟩
   ·exact .inr (.inl ⟨a,by rw [b];rfl⟩)
   ·exact .inr (.inr ⟨a,by rw [b];rfl⟩)
  rcases cZ (Û m l) with ⟨h,e⟩|⟨h,e⟩|⟨h,e⟩
  ·exact Å h f
  ·have i:(Û (Ö m) l).num.sign=-1:=by{grind [cZ,dot_rev]};exact mk (by unfold bD;rw [e];rfl) (by unfold bD;rw [j,i];rfl) H
  ·have i:(Û (Ö m) l).num.sign=1:=by{grind [cZ,dot_rev]};refine mk (x:=v.meet ⟨0,Ø m l,true,false⟩) (y:=v.meet ⟨Ø m l,0,false,true⟩) (by unfold bD;rw [e];rfl) (by unfold bD;rw [j,i];rfl) ?_<;>grind
theorem wE {P e}:∀{t:Tr} {v:Sp},v.good->Crs l P t->(∀q,v.cS q->q∈P) ->(∀s∈bg l e t v,s.good/\∀q,s.cS q->q∈P)/\fe (bg l e t v)<=fe [v]+2*P.countP v.innB/\(bg l e t v).length<=1+P.countP v.innB
 | .leaf i,v,u,_,z=>by
  cases i
  ·exact ⟨λs h=>(nomatch h),ã _,ã _⟩
  ·exact ⟨λs h=>by rw [õ.1 h];exact ⟨u,z⟩,Qr3 ..,Qr3 ..⟩
 | .node m x y,v,u,hc,z=>by
  obtain ⟨M,E,F⟩:=hc;unfold bg;split
  ·exact wE u E z
  ·split
   ·exact wE u F z
   ·have ends:∀{k:L3},(k=m\/k=Ö m)->∀q,(bD l v k).cS q->q∈P:=λ{k} N q h=>by rcases Xc h with g|⟨g,eq⟩<;>grind [dot_rev,cutP_rev]
    have A:(cU l v m=true->(∀s∈bg l e x (bD l v m),s.good/\∀q,s.cS q->q∈P)/\fe (bg l e x (bD l v m))<=fe [bD l v m]+2*P.countP (bD l v m).innB/\(bg l e x (bD l v m)).length<=1+P.countP (bD l v m).innB):=λh=>wE (lD u h) E (ends (.inl rfl));have B:(cU l v (Ö m)=true->(∀s∈bg l e y (bD l v (Ö m)),s.good/\∀q,s.cS q->q∈P)/\fe (bg l e y (bD l v (Ö m)))<=fe [bD l v (Ö m)]+2*P.countP (bD l v (Ö m)).innB/\(bg l e y (bD l v (Ö m))).length<=1+P.countP (bD l v (Ö m)).innB):=λh=>wE (lD u h) F (ends (.inr rfl));refine ⟨λs h=>?_,?_⟩
    ·rcases ú.1 h with h|h<;>grind
    ·rw [M_,î];rcases VX (l:=l) (m:=m) u with ⟨b1,b2,b,d,o⟩|⟨a,b2⟩|⟨a,b1⟩
     ·rw [Ä b1,Ä b2];have j:=(A b1).2;have n:=(B b2).2;have p:0<P.countP λc=>decide (c=Ø m l):=Qr9.2 ⟨_,M b,ψ⟩
      have H:=cnt3 (f:=(bD l v m).innB) (g:=(bD l v (Ö m)).innB) (h:=λc=>decide (c=Ø m l)) (k:=v.innB) (λc=>by
       have i1:=(pH (l:=l) (s:=v) (m:=m)).1 b1 c;have i2:=(pH (l:=l) (s:=v) (m:=Ö m)).1 b2 c;rw [val_rev] at i2;rw [<-innB_iff,<-innB_iff] at i1 i2
       have i3:c=Ø m l->v.innB c=true/\ay m (cP l c) (cR l c)=0:=by
        rintro rfl;refine ⟨d,?_⟩;rw [qe];unfold Ø;grind
       cases j:(bD l v m).innB c<;>cases n:(bD l v (Ö m)).innB c<;>cases O:v.innB c<;>by_cases r:c=Ø m l<;>simp at i1 i2 i3⊢<;>grind) P
      omega
     ·rw [Ã (c:=cU l v (Ö m)=true) (by rw [b2];simp)];split;{rename_i g;have:=(A g).2;rw [a] at this ⊢;exact this};{exact ⟨ã _,ã _⟩}
     ·rw [Ã (c:=cU l v m=true) (by rw [b1];simp)];split;{rename_i g;have:=(B g).2;rw [a] at this ⊢;exact ⟨by show 0+_<=_;omega,by show 0+_<=_;omega⟩};{exact ⟨ã _,ã _⟩}
def i_ (l:L3)(e:Bool):Rat×Rat:=if e=true then ((l.1:Rat),(l.2.1:Rat)) else (-(l.1:Rat),-(l.2.1:Rat))
theorem wD (ol:bX l=true){e}:∀{t:Tr} {v:Sp},v.good->(t.eu λm=>bX m=true/\(Û m l≠0->Ø m l≠q)) ->ë (bg l e t v) q=(v.innB q&&(aq.Am t (cP l q,cR l q) (i_ l e)).1)
 | .leaf i,v,_,_=>by cases i<;>simp [bg,aq.Am,ë]
 | .node m x y,v,E,hc=>by
  obtain ⟨⟨N,O⟩,F,M⟩:=hc
  have nl:(l.1:Rat)*l.1+(l.2.1:Rat)*l.2.1>0:=by
   have h:=eK ol
   have n:∀z:Rat,z≠0->z*z>0:=λz c=>by rcases cZ z with ⟨g,_⟩|⟨g,_⟩|⟨g,_⟩;{exact Å g c};{exact Œ g g};{have:=Œ (show -z>0 by grind) (show -z>0 by grind);grind}
   have d:∀z:Rat,z*z≥0:=λz=>by by_cases c:z=0;{rw [c];grind};{have:=n z c;grind}
   have f:=d l.1;have j:=d l.2.1;by_cases p:l.1=0
   ·have o:l.2.1≠0:=λo=>h ⟨p,o⟩;have:=n l.2.1 (by exact_mod_cast o);grind
   ·have:=n l.1 (by exact_mod_cast p);grind
  have v0:=(qO (eK ol) q).1
  have r:∀{z:Rat} ,0<z->z.num.sign=1:=λ{z} c=>by rcases cZ z with ⟨h,_⟩|⟨h,e⟩|⟨h,_⟩;{grind};{exact e};{grind}
  have u:∀{z:Rat} ,z<0->z.num.sign=-1:=λ{z} c=>by rcases cZ z with ⟨h,_⟩|⟨h,_⟩|⟨h,e⟩;{grind};{grind};{exact e}
  unfold bg aq.Am;have sd:∀z,aq.N8 m (cP l q,cR l q) (i_ l e)=z↔(if (ay m (cP l q) (cR l q)).num.sign=0 then (aq.nv m (i_ l e)).num.sign else (ay m (cP l q) (cR l q)).num.sign)=z:=λz=>Wv7;split
  ·rename_i h;have:aq.N8 m (cP l q,cR l q) (i_ l e)=1:=by{rw [sd];rcases h with ⟨rfl,rfl⟩|⟨rfl,rfl⟩;{rw [v0];exact r (by unfold aq.nv i_;simpa using nl)};{rw [val_rev,v0];exact r (by unfold aq.nv i_ Ö;simp;grind)}};rw [Ä this];exact wD ol E F
  ·split;{rename_i f h;have:aq.N8 m (cP l q,cR l q) (i_ l e)=-1:=by{rw [sd];cases e;{rcases h with rfl|rfl;{rw [v0];exact u (by unfold aq.nv i_;simp;grind)};{exact Å (.inr ⟨rfl,rfl⟩) f}};{rcases h with rfl|rfl;{exact Å (.inl ⟨rfl,rfl⟩) f};{rw [val_rev,v0];exact u (by unfold aq.nv i_ Ö;simp;grind)}}};rw [this,Ã φ,Ä rfl];exact wD ol E M};{rename_i f h;have A:ay m (cP l q) (cR l q)≠0:=by{by_cases w:Û m l=0;{rcases H8 N ol (t:=Ø m l+1) χ with g|g|g;{exact Å (.inl g) h};{exact Å (.inr g) h};{rw [qe,w] at *;grind}};grind [H8]};have app:∀a b:zA Sp,ë (a++b) q=(ë a q||ë b q):=λa b=>by{unfold ë;rw [List.any_append]};have one:∀{k:L3} {z:Tr},(∀{v:Sp},v.good->ë (bg l e z v) q=(v.innB q&&(aq.Am z (cP l q,cR l q) (i_ l e)).1))->ë (if cU l v k=true then bg l e z (bD l v k) else []) q=(v.innB q&&decide (0<ay k (cP l q) (cR l q))&&(aq.Am z (cP l q,cR l q) (i_ l e)).1):=λ{k z} c=>by{split;{rename_i g;rw [c (lD E g)];congr 1;have:=(pH (l:=l) (s:=v) (m:=k)).1 g q;rw [<-innB_iff,<-innB_iff] at this;(cases f:(bD l v k).innB q<;>cases j:v.innB q<;>simp [j] at this⊢<;>first|exact this|grind)};{rename_i g;have:=(pH (l:=l) (s:=v) (m:=k)).2 E.2 (by simpa using g) q;rw [<-innB_iff] at this;cases j:v.innB q;{simp [ë]};{simp [ë,this j]}}};rw [app,one λE=>wD ol E F,one λE=>wD ol E M,val_rev];grind [aq.N8]}
def nO (l:L3)(t:Tr):List Sp:=Ú 3 (Ú 1 (bg l true t bV) []) (Ú 1 (bg l false t bV) [])
theorem lG:bV.good:=⟨⟨λ_=>rfl,λ_=>rfl⟩,rfl⟩
theorem Rc (q):bV.innB q=true:=rfl
theorem TT (q):¬bV.cS q:=by rintro (⟨h,_⟩|⟨h,_⟩)<;>cases h
section
variable {l:L3} {P:List Rat} {e:Bool} {t:Tr} (hc:Crs l P t)
include hc
theorem PJ:(∀s∈bg l e t bV,s.good/\∀q,s.cS q->q∈P)/\fe (bg l e t bV)<=2*P.length/\(bg l e t bV).length<=1+P.length:=by have ⟨a,b,c⟩:=wE (e:=e) lG hc λq h=>Å h (TT q);have:P.countP bV.innB<=P.length:=List.countP_le_length ..;have:fe [bV]=0:=rfl;grind
theorem oH:∀q∈à (Ú 1 (bg l e t bV) []),q∈P:=λq b=>by
 have ⟨s,c,h⟩:=eQ.1 b;have ⟨d,f⟩:=n_ s c;have:q∈à (bg l e t bV++[]):=by rcases h with ⟨a,rfl⟩|⟨a,rfl⟩;exact d a;exact f a
 have ⟨u,hu,h⟩:=eQ.1 this;rw [ą] at hu;exact ((PJ hc).1 u hu).2 q h
theorem Vb (u:asc P):fe (Ú 1 (bg l e t bV) [])<=P.length:=by refine AY (It (comb_reg 1 _ _)) u λx a=>oH hc (e:=e) x (eQ.2 ?_);have ⟨s,b,a⟩:=ċ.1 a;rcases ú.1 a with a|a;{exact ⟨s,b,.inl (mN a)⟩};{exact ⟨s,b,.inr (pM a)⟩}
theorem on_end:∀s∈nO l t,∀q,s.cS q->q∈P:=λs b q h=>by
 have ⟨c,d⟩:=n_ s b;have:q∈à (Ú 1 (bg l true t bV) []++Ú 1 (bg l false t bV) []):=by rcases h with ⟨a,rfl⟩|⟨a,rfl⟩;exact c a;exact d a
 have ⟨u,hu,h⟩:=eQ.1 this;rcases ú.1 hu with hu|hu<;>grind [oH,eQ.2]
theorem UW (ol:bX l=true)(E:t.eu λm=>bX m=true){q}(z:q∉P):ë (nO l t) q=((aq.Am t (cP l q,cR l q) (i_ l true)).1&&!(aq.Am t (cP l q,cR l q) (i_ l false)).1):=by
 have a:t.eu λm=>bX m=true/\(Û m l≠0->Ø m l≠q):=by
  induction t with
  | leaf=>trivial
  | node m x y F M=>exact ⟨⟨E.1,λh g=>z (g▸hc.1 h)⟩,F hc.2.1 E.2.1,M hc.2.2 E.2.2⟩
 have one:∀e,ë (Ú 1 (bg l e t bV) []) q=(aq.Am t (cP l q,cR l q) (i_ l e)).1:=λe=>by
  rw [comb_inB 1 _ _ (λh=>by
   have ⟨u,hu,h⟩:=eQ.1 h;rw [ą] at hu;exact z (((PJ hc).1 u hu).2 q h)),wD ol lG a]
  simp [ģ,ë,Rc]
 unfold nO
 rw [comb_inB 3 _ _ (λh=>by
  have ⟨u,hu,h⟩:=eQ.1 h;rcases ú.1 hu with hu|hu
  ·exact z (oH hc (e:=true) q (eQ.2 ⟨u,hu,h⟩))
  ·exact z (oH hc (e:=false) q (eQ.2 ⟨u,hu,h⟩))),one,one]
 rfl
end
end
section
open Go.Value renaming slice→pT,agg→dB,bool→Õ,pointer→qvZ,tuple→æ,int→Ô
variable{v:Value}{V:Ó}{c k n:Nat}{vs:List Value}{A B l ss:List Sp}{p q:OA}{x1 x2 y1 y2:Int}
theorem Uk (V:un):V.Le V.shut:=λ_ _ h=>h
def dC:qg:=(0,0,0)
def cC (a b:qg):Int:=cT a.1 b.1
theorem ordC:ņ cC:=⟨λa b h=>by unfold cC at *;rcases cg a.1 b.1 with ⟨c,e⟩|⟨c,e⟩|⟨c,e⟩<;>rcases cg b.1 a.1 with ⟨z,u⟩|⟨z,u⟩|⟨z,u⟩<;>rw [e] at h<;>rw [u]<;>grind,
 λa b d h f=>by unfold cC at *;rcases cg a.1 b.1 with ⟨c,e⟩|⟨c,e⟩|⟨c,e⟩<;>rcases cg b.1 d.1 with ⟨z,u⟩|⟨z,u⟩|⟨z,u⟩<;>rcases cg a.1 d.1 with ⟨F,E⟩|⟨F,E⟩|⟨F,E⟩<;>rw [e] at h<;>rw [u] at f<;>rw [E]<;>grind⟩
def RC (V:Ó)(v:Value)(c:qg):Prop:=∃(x y:Int)(p:OA),v=.agg #[.int .i64 x,.int .i64 y,.pointer p,.int .i64 c.2.1,.int .i64 c.2.2]/\RR V (.agg #[.int .i64 x,.int .i64 y,.pointer p]) c.1/\Sz 1000000 c.1
theorem RC.le {V V' c}(h:RC V v c)(l:V.Le V'):RC V' v c:=by obtain ⟨x,y,p,e,b,a⟩:=h;exact ⟨x,y,p,e,ra,a⟩
theorem RC.shape {c}(h:RC V v c):∃(x y:Int)(p:OA)(a b:Int),v=dB #[Jq x,Jq y,qvZ p,Jq a,Jq b]:=by obtain ⟨x,y,p,e,-⟩:=h;exact ⟨x,y,p,_,_,e⟩
theorem QA {w a b}(h:RC V v a)(u:RC V w b):À 244 #[v,w] V λr W=>r=Jq (cC a b):=by obtain ⟨x,y,p,rfl,f,d⟩:=h;obtain ⟨g,i,j,rfl,e,c⟩:=u;refine DH V _ λk l=>(fU ra ra d c).s ?_;rintro r V2 m rfl;exact ⟨_,rfl,λn o=>rfl⟩
structure SR (V:Ó) (n:Nat) (vs:List Value) (l:List qg):Prop where
 row:é 5 RC V vs l
 len:n=l.length
 iY:l.length<4000
theorem SR.le {V V' l}(h:SR V n vs l)(e:V.Le V'):SR V' n vs l:=⟨h.row.le λ_ _ g=>RC.le g e,h.len,h.iY⟩
theorem SR.get {l}(h:SR V n vs l){k}(u:k<l.length):∃(x y:Int)(p:OA)(a b:Int),((0+k*5)+5<=vs.length/\(vs.drop (0+k*5)).take 5=[Jq x,Jq y,qvZ p,Jq a,Jq b])/\RC V (dB #[Jq x,Jq y,qvZ p,Jq a,Jq b]) (l.getD k dC):=by obtain ⟨xs,-,c,f,g⟩:=h.row.get (d:=dC) u φ;obtain ⟨x,y,p,a,b,e⟩:=c.shape;have e:=Æ Array.toList (Value.agg.inj e);subst e;rw [Ĉ];exact ⟨x,y,p,a,b,⟨f,g⟩,c⟩
theorem RC.cells {c}(h:RC V v c):∃xs:zA um,v=.agg xs.toArray/\xs.length=5/\∀x∈xs,x.oneCell'=true:=by obtain ⟨_,_,_,_,_,rfl⟩:=h.shape;exact ⟨_,rfl,rfl,Ħ.1 rfl⟩
theorem MI {lb l}(hw:V.w.heap[lb]?=some (.cells vs.toArray 328 (0,0)))(z:V.X lb)(h:SR V n vs l):À 243 #[pT (some ⟨lb,0,none⟩) n c,.func (.func 244) #[] #[]] V λr W=>r=æ #[]/\∃u l',W.w.heap[lb]?=some (.cells u.toArray 328 (0,0))/\SR W n u l'/\l'.Perm l/\l'.Pairwise λx y=>x.1<=y.1:=by have iY:=h.iY;refine (wT (R:=RC) (cf:=cC) GJ aggC sizC RC.le RC.cells ordC QA φ hw z h.row h.len).s λr V' i ⟨rfl,u,l',e,row,pm,g⟩=>⟨rfl,u,l',e,⟨row,h.len.m pm.length_eq.symm,by rw [pm.length_eq];exact iY⟩,pm,g.imp λ{a b} d=>?_⟩;unfold cC at d;rcases cg b.1 a.1 with ⟨f,e⟩|⟨f,e⟩|⟨f,e⟩<;>rw [e] at d<;>grind
theorem BL:À 243 #[pT none 0 0,.func (.func 244) #[] #[]] V λr W=>r=æ #[]:=
 (oL GJ).s λ_ _ _ h=>h.1
def qM (m:Nat):Prop:=∀(V:Ó)(lb n c:Nat)(vs:List Value)(l:List qg),l.length=m->V.w.heap[lb]?=some (.cells vs.toArray 328 (0,0))->V.X lb->SR V n vs l ->
 À 243 #[.slice (some ⟨lb,0,none⟩) n c,.func (.func 244) #[] #[]] V λr W=>r=.tuple #[]/\∃u l',W.w.heap[lb]?=some (.cells u.toArray 328 (0,0))/\SR W n u l'/\l'.Perm l/\l'.Pairwise λx y=>x.1<=y.1
theorem ID (m):qM m:=λ_ _ _ _ _ _ _ hw a h=>MI hw a h
theorem FZ {V u z E x y}{acc:ut->ut->ut}(hw:V.w.heap[u]?=some (.cells #[.func (.func E) #[] #[]] 272 (0,0)))(N:V.X u)(F:V.w.heap[z]?=some (.cells #[Jq x,Jq y] 326 (0,0)))(M:V.X z)(hne:u≠z)(O:∀a b (W:un),À E #[Õ a,Õ b] W λr _=>r=Õ (acc a b)):À 245 #[qvZ (some ⟨u,0,none⟩),qvZ (some ⟨z,0,none⟩)] V λr W=>r=Õ (acc (decide ((0:Int)<x)) (decide ((0:Int)<y)))/\W.w.heap[u]?=some (.cells #[.func (.func E) #[] #[]] 272 (0,0))/\W.w.heap[z]?=some (.cells #[Jq x,Jq y] 326 (0,0)):=by refine DI u z E x y V _ hw N F M hne ⟨φ,φ,λc f=>(O _ _ c).s ?_⟩;rintro r V2 g rfl;exact ⟨_,rfl,λh i d e=>⟨rfl,d,e⟩⟩
def PG (A:List Sp)(k:Nat)(m:Int):List Value:=if k=0 then [.int .i64 m,.int .i64 0] else if k=1 then [.int .i64 (nK A),.int .i64 m] else []
theorem X5 {m}(u:k<2):(PG A k m)[0+k*1]?=some (Jq m):=by obtain rfl|rfl:k=0\/k=1:=ω;{rfl};{rfl}
theorem X7 {m}(u:k<2):(PG A k m).length=2:=by obtain rfl|rfl:k=0\/k=1:=ω;{rfl};{rfl}
theorem X8 {m u}(z:k<2):(PG A k m).set (0+k*1) (Jq u)=PG A k u:=by obtain rfl|rfl:k=0\/k=1:=ω;{rfl};{rfl}
theorem X2 {a b}:nK (a++b)=nK a+nK b:=by
 induction a with
 | nil=>simp [nK]
 | cons s r u=>simp only [Qc0,nK];omega
theorem Ib:∀{a:zA Sp},0<=nK a/\nK a<=a.length
 | []=>⟨Wx8 _,Wx8 _⟩
 | s::r=>by
  have ⟨u,z⟩:=Ib (a:=r);simp only [nK,Ā];split<;>omega
theorem W5 {c:qg}:c∈qZ A B->(c.2.1=0\/c.2.1=1)/\(c.2.2=1\/c.2.2=-1):=by intro h;have one:∀{k:Int} {s:Sp},c∈ke k s->c.2.1=k/\(c.2.2=1\/c.2.2=-1):=λ{k s} h=>by{rcases ú.1 h with h|h;{split at h;{cases h};{rw [õ.1 h];exact ⟨rfl,.inl rfl⟩}};{split at h;{cases h};{rw [õ.1 h];exact ⟨rfl,.inr rfl⟩}}};rcases ú.1 h with h|h<;>grind
theorem IF {k}:∀{l:zA qg},(∀c∈l,c.2.2=1\/c.2.2=-1)->-(l.length:Int)<=iR k l/\iR k l<=l.length
 | [],_=>⟨Wx8 _,Wx8 _⟩
 | c::r,h=>by
  have ⟨u,z⟩:=IF (k:=k) (l:=r) λx a=>h x (by simp [a]);have:=h c ψ;simp only [iR,Ā];split<;>omega
def KV (A B:List Sp)(l:List qg):List Value:=[.int .i64 (nK A+iR 0 l),.int .i64 (nK B+iR 1 l)]
def osX (A B:List Sp)(l:List qg)(k:Int):Int:=if k=0 then nK A+iR 0 l else nK B+iR 1 l
theorem X_ {l k}(u:k=0\/k=1):(KV A B l)[0+k.toNat*1]?=some (Jq (osX A B l k)):=by rcases u with rfl|rfl<;>rfl
theorem Ya {l}{c:qg}(u:c.2.1=0\/c.2.1=1):(KV A B l).set (0+c.2.1.toNat*1) (Jq (osX A B l c.2.1+c.2.2))=KV A B (l++[c]):=by unfold KV osX;rw [Dp,Dp];simp only [iR];rcases u with h|h<;>rw [h];{simp [Int.add_assoc]};{simp [Int.add_assoc]}
structure CR (V:Ó) (n c:Nat) (vs:List Value) (l:List qg):Prop where
 len:n=l.length
 le:n<=c
 cap:c*5<=vs.length
 row:é 5 RC V vs l
 ne:vs≠[]->l≠[]
theorem CR.snoc {l}(h:CR V n c vs l){x y q}(z:RR V (dB #[Jq x,Jq y,qvZ p]) q)(E:Sz 1000000 q)(k d){sp:zA um}{u}(F:n+1<=u)(M:u*5<=(n+1)*5+sp.length):CR V (n+1) u (vs.take (n*5)++([Jq x,Jq y,qvZ p,Jq k,Jq d]:zA um)++sp) (l++[(q,k,d)]):=by have b:=h.len;have hc:=h.cap;have e:=h.le;refine ⟨by rw [î,b];rfl,F,?_,?_,λ_=>ψ⟩;{have f:(vs.take (n*5)).length=n*5:=by{rw [ê];omega};grind};{have:=h.row.snoc (sp:=sp) (xs:=[Jq x,Jq y,qvZ p,Jq k,Jq d]) (a:=(q,k,d)) rfl ⟨x,y,p,rfl,z,E⟩ φ;grind}
structure IR (V:Ó) (n c:Nat) (vs:List Value) (l:List Sp):Prop where
 len:n=l.length
 le:n<=c
 cap:c*8<=vs.length
 row:é 8 fQ V vs l
theorem IR.s {V'}(h:IR V n c vs l)(e:V.Le V'):IR V' n c vs l:=⟨h.len,h.le,h.cap,h.row.le λ_ _ g=>fQ.le g e⟩
theorem IR.nil:IR V 0 0 [] []:=⟨rfl,Ù _,Ù _,é.nil⟩
theorem IR.snoc (h:IR V n c vs l){s:Sp}(E:RR V (dB #[Jq x1,Jq x2,qvZ p]) s.lo)(u:RR V (dB #[Jq y1,Jq y2,qvZ q]) s.hi){sp:zA um}{z}(F:n+1<=z)(M:z*8<=(n+1)*8+sp.length):IR V (n+1) z (vs.take (n*8)++([Jq x1,Jq x2,qvZ p,Jq y1,Jq y2,qvZ q,Õ s.a,Õ s.b]:zA um)++sp) (l++[s]):=by have d:=h.len;have hc:=h.cap;have e:=h.le;refine ⟨by rw [î,d];rfl,F,?_,?_⟩;{have f:(vs.take (n*8)).length=n*8:=by{rw [ê];omega};grind [List.length_cons]};{have:=h.row.snoc (sp:=sp) (xs:=[Jq x1,Jq x2,qvZ p,Jq y1,Jq y2,qvZ q,Õ s.a,Õ s.b]) (a:=s) rfl (qyZ ⟨rfl,E,u⟩) φ;grind}
theorem one5 {x y a b}:∀v∈([Jq x,Jq y,qvZ p,Jq a,Jq b]:zA um),v.oneCell'=true:=by intro v hm;simp only [ç,Ġ,Ì] at hm;rcases hm with rfl|rfl|rfl|rfl|rfl<;>rfl
theorem one8 {a b}:∀v∈([Jq x1,Jq x2,qvZ p,Jq y1,Jq y2,qvZ q,Õ a,Õ b]:zA um),v.oneCell'=true:=by intro v hm;simp only [ç,Ġ,Ì] at hm;rcases hm with rfl|rfl|rfl|rfl|rfl|rfl|rfl|rfl<;>rfl
def LK (A B:List Sp)(k:Nat):List Sp:=if k=0 then A else B
def Za (A B:List Sp)(k:Nat):List qg:=if k=0 then [] else if k=1 then A.flatMap (ke 0) else qZ A B
def osA (A B:List Sp)(k:Nat):List Value:=if k=2 then KV A B [] else PG A k 0
theorem JG {A B}(u:k<2):Za A B k++(LK A B k).flatMap (ke k)=Za A B (k+1):=by obtain rfl|rfl:k=0\/k=1:=ω;{rfl};{rfl}
theorem U4 (u:k<2):PG A k (nK (LK A B k))=osA A B (k+1):=by obtain rfl|rfl:k=0\/k=1:=ω;{rfl};{simp [PG,osA,KV,LK,iR]}
theorem mA_pos {b}(h:0<c):mA b c=some ⟨b,0,none⟩:=by unfold mA;rw [Ã ω]
theorem Ra {f:Sp->zA qg}{j:Nat}(h:j<l.length):(l.take (j+1)).flatMap f=(l.take j).flatMap f++f l[j]:=by rw [Ķ,ï h,Qc1];simp
theorem UY {j}(h:j<l.length):nK (l.take (j+1))=nK (l.take j)+if l[j].a then 1 else 0:=by rw [Ķ,ï h,X2];simp [nK]
theorem WT {A B k j}(u:k<2):(Za A B k++((LK A B k).take j).flatMap (ke k)).length<=fe A+fe B:=by have b:((LK A B k).flatMap (ke k)).length=(((LK A B k).take j).flatMap (ke k)).length+(((LK A B k).drop j).flatMap (ke k)).length:=by{grind [List.take_append_drop]};have a:=Æ List.length (JG (A:=A) (B:=B) u);rw [î] at a;have c:(Za A B (k+1)).length<=(qZ A B).length:=by{obtain rfl|rfl:k=0\/k=1:=ω;{unfold qZ;rw [î];exact Qr3 _ _};{exact Ù _}};grind [Hw]
theorem YB {acc cs was last out}(h:YV acc A B cs cs.length was last out){op}(u:∀t,acc (ë A t) (ë B t)=ģ op (ë A t) (ë B t)):Ds was last out=Ú op A B:=by refine reg_eq (à (A++B)) h.rg (comb_reg _ _ _) λt a=>?_;rw [comb_inB _ _ _ a,h.inn t (λs b he=>a (eQ.2 ⟨s,b,he⟩)) λh=>Å h (Ww6 _)];exact u t
theorem J1 {p0 p1 n0 c0 n1 c1 fa op}{acc:ut->ut->ut}(hacc:∀t,acc (ë A t) (ë B t)=ģ op (ë A t) (ë B t))(hA:bM 8 fQ V p0 n0 A)(hB:bM 8 fQ V p1 n1 B)(gA:∀s∈A,s.good)(gB:∀s∈B,s.good)(sA:∀s∈A,s.sz 1000000)(sB:∀s∈B,s.sz 1000000)(nA:A.length<=1000)(nB:B.length<=1000)(iY:fe A+fe B<200)(so:qM (fe A+fe B))(hf:∀a b (W:un),À fa #[Õ a,Õ b] W λr _=>r=Õ (acc a b)):À 180 #[dB #[pT p0 n0 c0,pT p1 n1 c1],.func (.func fa) #[] #[]] V λr W=>∃q m e,r=pT q m e/\bM 8 fQ W q m (Ú op A B):=by
 obtain rfl:=hA.len;obtain rfl:=hB.len
 refine IY p0 _ c0 p1 _ c1 fa V _ ⟨λz V'=>∃k:Nat,z.2.2.2.1=(k:Int)/\k<=2/\CR V' z.1 z.2.1 z.2.2.1 (Za A B k)/\z.2.2.2.2=osA A B k,λz=>2-z.2.2.2.1.toNat,
  ⟨(0,0,[],0,[Jq 0,Jq 0]),σ,0,rfl,φ,⟨rfl,Ù _,Ù _,é.nil,λh=>Å rfl h⟩,rfl⟩,?_⟩
 rintro ⟨z1,z2,vs,z4,os⟩ V1 l1 ⟨k,e4,d2,hc,I⟩;dsimp only at e4 hc I;subst e4 I;dsimp only;refine ⟨rfl,λK=>?_,λK=>?_⟩
 ·have K:=Á K;have hk:k<2:=ω
  have S:i64.wrap ((k:Int)+1)=((k+1:Nat):Int):=by rw [au ω];rfl
  rw [S,Ü]
  obtain ⟨p,n,c,el,hL⟩:∃p n c,([(p0,A.length,c0),(p1,B.length,c1)]:zA (OA×Nat×Nat)).getD k (none,0,0)=(p,n,c)/\bM 8 fQ V p n (LK A B k):=by obtain rfl|rfl:k=0\/k=1:=ω;{exact ⟨_,_,_,rfl,hA⟩};{exact ⟨_,_,_,rfl,hB⟩}
  rw [el];dsimp only
  have c2:(∀s∈LK A B k,s.sz 1000000)/\(LK A B k).length<=1000:=by obtain rfl|rfl:k=0\/k=1:=ω;{exact ⟨sA,nA⟩};{exact ⟨sB,nB⟩}
  obtain ⟨sL,nL⟩:=c2;obtain rfl:=hL.len
  refine ⟨ū,λz V'=>∃j:Nat,z.2.2.2.1=(j:Int)/\j<=(LK A B k).length/\CR V' z.1 z.2.1 z.2.2.1 (Za A B k++((LK A B k).take j).flatMap (ke k))/\z.2.2.2.2=PG A k (nK ((LK A B k).take j)),λz=>(LK A B k).length-z.2.2.2.1.toNat,
   ⟨(z1,z2,vs,0,osA A B k),σ,0,rfl,ã _,by simpa using hc,by rw [Qf4];unfold osA;rw [Ã ω];rfl⟩,?_⟩
  rintro ⟨S,w2,us,w4,os⟩ V2 l2 ⟨j,e4,yo,E,I⟩;dsimp only at e4 E I;subst e4 I;dsimp only;refine ⟨rfl,λhj=>?_,λhj=>?_⟩
  ·have hj:=Á hj;have O:j<(LK A B k).length:=ω
   have w3:i64.wrap ((j:Int)+1)=((j+1:Nat):Int):=by rw [au ω];rfl
   rw [Ü,w3];obtain ⟨ad,ha,xs,-,hv,D⟩:=(hL.le ax λ_ _ g=>fQ.le g (l1.m l2)).at_ j O;obtain ⟨x1,x2,q,y1,y2,q',ex,T,r2⟩:=hv;have ex:=Æ Array.toList (Value.agg.inj ex);dsimp only at ex;subst ex;have hs:=sL _ (ô O);have ft:=Ra (f:=ke (k:Int)) O;have ot:=UY O;have ob:=Ib (a:=(LK A B k).take j);rw [ê] at ob;have cn:=E.len;have bl:=WT (A:=A) (B:=B) (j:=j) hk;rw [<-cn] at bl;have c1:ke (k:Int) (LK A B k)[j]=(if (LK A B k)[j].a then [] else [((LK A B k)[j].lo,(k:Int),1)])++(if (LK A B k)[j].b then [] else [((LK A B k)[j].hi,(k:Int),-1)]):=rfl;rw [c1] at ft;generalize (LK A B k)[j]=s at *
   refine ⟨bj ha,ū,_,_,_,_,_,_,_,_,ad,ha,D 0 _ rfl,D 1 _ rfl,D 2 _ rfl,D 3 _ rfl,D 4 _ rfl,D 5 _ rfl,D 6 _ rfl,D 7 _ rfl,
    λz V'=>CR V' z.1 z.2.1 z.2.2.1 (Za A B k++((LK A B k).take j).flatMap (ke k)++(if s.a then [] else [(s.lo,(k:Int),1)]))/\z.2.2.2=PG A k (nK ((LK A B k).take (j+1))),⟨λhb=>?_,λhb=>?_⟩,?_⟩
   ·rw [hb,Ä rfl] at ot;rw [hb,Ä rfl,ą];refine ⟨ū,_,X5 hk,ū,by rw [X7 hk];omega,(S,w2,us,PG A k (nK ((LK A B k).take (j+1)))),?_,E,rfl⟩;have e:(PG A k (nK ((LK A B k).take j))).set (0+k*1) (Jq (i64.wrap (nK ((LK A B k).take j)+1)))=PG A k (nK ((LK A B k).take (j+1))):=by{rw [X8 hk,au ω,ot]};(and_intros<;>first|rfl|exact e)
   ·rw [hb,Ã φ,Wy4] at ot;rw [hb,Ã φ];refine ⟨ω,E.le,E.cap,rfl,one5,λsp c' C P=>⟨(S+1,c',_,PG A k (nK ((LK A B k).take j))),σ,E.snoc T hs.1 _ _ C P,by dsimp only;rw [ot]⟩⟩
   ·rintro ⟨k1,k2,ks,os⟩ V3 l3 ⟨F,I⟩;dsimp only at F I;subst I;dsimp only;have d3:k1<=S+1:=by{rw [F.len,cn,î];split<;>simp};refine ⟨rfl,λz V'=>CR V' z.1 z.2.1 z.2.2 (Za A B k++((LK A B k).take (j+1)).flatMap (ke k)),⟨λhb=>?_,λhb=>?_⟩,?_⟩;{have hb:s.b=false:=by{simpa using hb};simp only [hb] at ft;rw [ft,<-ě,<-ě];refine ⟨ω,F.le,F.cap,rfl,one5,λsp c' C P=>⟨(k1+1,c',_),σ,F.snoc ra hs.2 _ _ C P⟩⟩};{have hb:s.b=true:=by{simpa using hb};simp only [hb,Ï,ą] at ft;rw [ft,<-ě];exact ⟨(k1,k2,ks),σ,F⟩};{rintro ⟨N,U,ms⟩ V4 l4 a3;dsimp only at a3;exact ⟨rfl,(N,U,ms,((j+1:Nat):Int),_),by dsimp only;omega,σ,j+1,rfl,ω,a3,rfl⟩}
  ·have hj:=Â hj;obtain rfl:j=(LK A B k).length:=ω;rw [Ĥ] at *;refine ⟨(S,w2,us,((k+1:Nat):Int),PG A k (nK (LK A B k))),by dsimp only;omega,σ,k+1,rfl,ω,?_,U4 hk⟩;rw [<-JG hk];exact E
 have K:=Â K;obtain rfl:k=2:=ω
 have hc:CR V1 z1 z2 vs (qZ A B):=hc;have cl:(qZ A B).length<4000:=by rw [Hw];omega
 have c3:=hc.len;have d4:=hc.le;rw [show osA A B 2=KV A B [] from rfl];have J:∀l:zA qg,KV A B l≠[]:=λl h=>by cases h
 refine ⟨λz V'=>∃cs:zA qg,SR V' z1 z cs/\cs.Perm (qZ A B)/\cs.Pairwise (λx y=>x.1<=y.1),⟨λh0=>?_,λh0 V7 l7 bk e7 h7=>?_⟩,?_⟩
 ·subst h0;have C:=hc.cap;rw [Ļ] at C;obtain rfl:z2=0:=ω;obtain rfl:z1=0:=ω;have a4:qZ A B=[]:=List.eq_nil_of_length_eq_zero ω;exact ⟨rfl,λV5 l5=>BL.s λr V6 l6 hr=>⟨hr,[],σ,[],⟨é.nil,rfl,ψ⟩,by rw [a4],List.Pairwise.nil⟩⟩
 ·have d5:=Qh6.2 (hc.ne h0);rw [kt h0,mA_pos (show 0<z2 by omega)];refine (so (V7.aw [bk]) bk _ _ _ (qZ A B) Hw (e7 h0) ⟨ψ,h7 h0⟩ ⟨hc.row.le λ_ _ g=>RC.le g λb o h=>l7 b o h,c3,cl⟩).s λr V8 l8 ⟨rfl,a5,cs,e8,a6,hp,M⟩=>⟨rfl,h0,a5,λe=>?_,e8,a5,σ,cs,a6.le (Uk _),hp,M⟩;have C:=a6.row.dN φ;rw [e,hp.length_eq,Ļ] at C;omega
 rintro d6 V9 l9 ⟨cs,a7,hp,M⟩;have zl:=a7.len;have a1:=λc (h:c∈cs)=>W5 (hp.mem_iff.1 h);refine ⟨rfl,λgx c4 ab ob ea ha I ho c5=>?_⟩;rw [kt (J [])];refine (FZ (V:=gx.aw [ab,ob]) (x:=nK A+iR 0 []) (y:=nK B+iR 1 []) (acc:=acc) ea ⟨ψ,ha⟩ (I (J _)) ⟨ψ,ho (J _)⟩ (c5 (J _)) hf).s ?_;rintro r fu dM ⟨rfl,e1,e2⟩
 refine ⟨_,rfl,e1,J _,KV A B [],J _,e2,λz V'=>∃(i:Nat)(last:Sp)(out:zA Sp),z.2.2.2.2.1=(i:Int)/\i<=cs.length/\out.length<=i/\YV acc A B cs i z.2.2.2.1 last out/\z.2.2.2.2.2.1=KV A B (cs.take i)/\IR V' z.1 z.2.1 z.2.2.1 out /\
   RR V' (dB #[Jq z.2.2.2.2.2.2.1,Jq z.2.2.2.2.2.2.2.1,qvZ z.2.2.2.2.2.2.2.2.1]) last.lo/\RR V' (dB #[Jq z.2.2.2.2.2.2.2.2.2.1,Jq z.2.2.2.2.2.2.2.2.2.2.1,qvZ z.2.2.2.2.2.2.2.2.2.2.2.1]) last.hi/\last.a=z.2.2.2.2.2.2.2.2.2.2.2.2.1/\last.b=z.2.2.2.2.2.2.2.2.2.2.2.2.2,
  λz=>cs.length-z.2.2.2.2.1.toNat,⟨(0,0,[],_,0,KV A B [],0,0,none,0,0,none,true,false),σ,0,⟨0,0,true,false⟩,[],rfl,ã _,ã _,VS (acc:=acc) (by show acc (decide ((0:Int)<nK A+0)) (decide ((0:Int)<nK B+0))=_;rw [Wy4,Wy4]) hp gA gB M,rfl,IR.nil,RR.zero _,RR.zero _,rfl,rfl⟩,?_⟩
 rintro ⟨N,U,us,d,iz,ov,x1,x2,p,y1,y2,q,la,lb⟩ iD eN ⟨i,last,out,e5,Ws,oi,hI,a8,v,T,r2,f1,f2⟩;dsimp only at e5 hI a8 v T r2 f1 f2;subst e5 a8 f1 f2;dsimp only;have ml:=v.len;refine ⟨rfl,λhi=>?_,λhi=>?_⟩
 ·have hi:=Á hi;have G:i<cs.length:=ω
  have X:=a7.le λb o h=>eN b o (dM b o (c4 b o h));have gd:∀j (h:j<cs.length),cs.getD j dC=cs[j]:=λj h=>by rw [ĕ,ï h];rfl
  obtain ⟨x,y,pp,a,b,g,x',y',p',ev,hr,a9⟩:=X.get G;rw [gd i G] at ev hr a9;rw [Ĉ] at g;have ev:=Æ Array.toList (Value.agg.inj ev);simp only [Í] at ev;obtain ⟨rfl,rfl,rfl,rfl,rfl⟩:=ev;have ⟨ck,cd⟩:=a1 _ (ô G);have S:i64.wrap ((i:Int)+1)=((i+1:Nat):Int):=by rw [au ω];rfl
  have tk:cs.take (i+1)=cs.take i++[cs[i]]:=by rw [Ķ,ï G];rfl
  have b6:(KV A B (cs.take i)).set (0+cs[i].2.1.toNat*1) (Jq (i64.wrap (osX A B (cs.take i) cs[i].2.1+cs[i].2.2)))=KV A B (cs.take (i+1)):=by have b1:=Ib (a:=A);have b2:=Ib (a:=B);have b3:=IF (k:=0) (l:=cs.take i) λc hc=>(a1 c (Qn4 hc)).2;have b4:=IF (k:=1) (l:=cs.take i) λc hc=>(a1 c (Qn4 hc)).2;rw [ê] at b3 b4;have b5:-9000<=osX A B (cs.take i) cs[i].2.1/\osX A B (cs.take i) cs[i].2.1<=9000:=by{unfold osX;split<;>omega};rw [au ω,Ya ck,tk]
  rw [S,Ü,Ü];refine ⟨ū,ω,x,y,pp,_,_,g,ū,_,X_ ck,ū,by rw [show (KV A B (cs.take i)).length=2 from rfl];omega,?_⟩;rw [b6];refine ⟨λt V'=>(t=true->∃h:i+1<cs.length,cs[i].1=cs[i+1].1)/\(t=false->∀h:i+1<cs.length,cs[i].1<cs[i+1].1),⟨λC=>?_,λC=>?_⟩,?_⟩
  ·have C:=Á C;have Q:i+1<cs.length:=ω;have ⟨u,w,pw,a',b',g',x',y',p',R,c6,Y⟩:=X.get Q;rw [gd _ Q] at c6 Y;rw [Ĉ] at g';have R:=Æ Array.toList (Value.agg.inj R);simp only [Î] at R;obtain ⟨rfl,rfl,rfl,-⟩:=R;refine ⟨ū,ω,u,w,pw,⟨ω,?_⟩,λkE fw=>(nR ra ra Y a9 φ).s ?_⟩;{have:∀l:zA um,l.take 3=(l.take 5).take 3:=λl=>by{rw [Wq1];rfl};rw [this,Ę,g'.2];rfl};{rintro r mg hZ rfl;refine ⟨_,rfl,_,σ,λh=>⟨Q,Eq.symm (Á h)⟩,λh _=>?_⟩;have h:=Â h;have:=Ţ.1 M i (i+1) G Q ω;grind}
  ·have C:=Â C;exact ⟨false,σ,π,λ_ h=>Å h ω⟩
  rintro t mz eH ⟨ht,c7⟩;refine ⟨rfl,λe=>?_,λe mh fP c8 c9 ea ha I ho b7=>?_⟩
  ·obtain ⟨C,P⟩:=ht e;exact ⟨(N,U,us,d,((i+1:Nat):Int),KV A B (cs.take (i+1)),x1,x2,p,y1,y2,q,last.a,last.b),by dsimp only;omega,σ,i+1,last,out,rfl,ω,ω,YC hI C P,rfl,v.s eH,T.le eH,ra,rfl,rfl⟩
  rw [kt (J _)];refine (FZ (V:=mh.aw [c8,c9]) (x:=nK A+iR 0 (cs.take (i+1))) (y:=nK B+iR 1 (cs.take (i+1))) (acc:=acc) ea ⟨ψ,ha⟩ (I (J _)) ⟨ψ,ho (J _)⟩ (b7 (J _)) hf).s ?_;rintro r mX gX ⟨rfl,d0,d1⟩;have st:=YD hI G (c7 e) hp gA gB M rfl;generalize acc (decide ((0:Int)<nK A+iR 0 (cs.take (i+1)))) (decide ((0:Int)<nK B+iR 1 (cs.take (i+1))))=now at st ⊢;have L:iD.Le mX.shut:=λb o h=>gX b o (fP b o (eH b o h))
  have same:now=d->IR mX.shut N U us (Dr d now last cs[i].1 out)/\RR mX.shut (dB #[Jq x1,Jq x2,qvZ p]) (lZ d now last cs[i].1).lo/\RR mX.shut (dB #[Jq y1,Jq y2,qvZ q]) (lZ d now last cs[i].1).hi /\
    last.a=(lZ d now last cs[i].1).a/\last.b=(lZ d now last cs[i].1).b:=λh=>by
   subst h;unfold Dr lZ;cases now<;>exact ⟨v.s L,T.le L,r2.le L,rfl,rfl⟩
  refine ⟨_,rfl,d0,J _,KV A B (cs.take (i+1)),J _,d1,λz V'=>IR V' z.1 z.2.1 z.2.2.1 (Dr d now last cs[i].1 out)/\RR V' (dB #[Jq z.2.2.2.1,Jq z.2.2.2.2.1,qvZ z.2.2.2.2.2.1]) (lZ d now last cs[i].1).lo /\
   RR V' (dB #[Jq z.2.2.2.2.2.2.1,Jq z.2.2.2.2.2.2.2.1,qvZ z.2.2.2.2.2.2.2.2.1]) (lZ d now last cs[i].1).hi/\z.2.2.2.2.2.2.2.2.2.1=(lZ d now last cs[i].1).a/\z.2.2.2.2.2.2.2.2.2.2=(lZ d now last cs[i].1).b,
   ⟨λhn=>⟨λhw=>?_,λhw=>⟨λa2=>⟨λH=>?_,λ_=>?_⟩,λa2=>?_⟩⟩,λhn=>⟨λhw=>⟨λH=>?_,λH=>?_⟩,λhw=>?_⟩⟩,?_⟩
  ·have hw:d=false:=by{simpa using hw};subst hn hw;exact ⟨(N,U,us,x,y,pp,0,0,none,false,false),σ,v.s L,hr.le L,RR.zero _,rfl,rfl⟩
  ·rw [hn] at H;cases H
  ·exact ⟨(N,U,us,x1,x2,p,y1,y2,q,last.a,last.b),σ,same (hn.m a2.symm)⟩
  ·rw [a2] at hw;cases hw
  ·subst hn hw;exact ⟨ω,v.le,v.cap,rfl,one8,λsp c' C P=>⟨(N+1,c',_,x1,x2,p,x,y,pp,last.a,last.b),σ,(v.s L).snoc (s:=⟨last.lo,cs[i].1,last.a,last.b⟩) (T.le L) (hr.le L) C P,T.le L,hr.le L,rfl,rfl⟩⟩
  ·rw [hn] at H;cases H
  ·exact ⟨(N,U,us,x1,x2,p,y1,y2,q,last.a,last.b),σ,same (hn.m hw.symm)⟩
  ·rintro ⟨k1,k2,ks,u1,u2,pu,t1,t2,pt,ua,ub⟩ nM gy ⟨Z,b8,b9,g1,g2⟩;dsimp only at Z b8 b9 g1 g2;subst g1 g2;dsimp only;have ol:(Dr d now last cs[i].1 out).length<=i+1:=by{unfold Dr;split;{rw [î];simp;omega};{omega}};exact ⟨rfl,(k1,k2,ks,now,((i+1:Nat):Int),KV A B (cs.take (i+1)),u1,u2,pu,t1,t2,pt,_,_),by dsimp only;omega,σ,i+1,_,_,rfl,ω,ol,st,rfl,Z,b8,b9,rfl,rfl⟩
 ·have hi:=Â hi;obtain rfl:i=cs.length:=ω;have fin:=YB hI hacc;refine ⟨λz V'=>IR V' z.1 z.2.1 z.2.2 (Ú op A B),⟨λhw=>?_,λhw=>?_⟩,?_⟩;{subst hw;refine ⟨ω,v.le,v.cap,rfl,one8,λsp c' C P=>⟨(N+1,c',_),σ,?_⟩⟩;rw [<-fin];have:=hI.fr rfl;rw [this.1] at r2;exact v.snoc (s:=oq last) T r2 C P};{subst hw;refine ⟨(N,U,us),σ,?_⟩;rw [<-fin];simpa [Ds] using v};{rintro ⟨k1,k2,ks⟩ qh iX h;dsimp only at h;obtain rfl:=h.len;exact ⟨rfl,λjZ gG bk hb=>⟨_,_,_,rfl,bM.bI hb (h.row.le λ_ _ g=>fQ.le g gG) φ h.le⟩⟩}
theorem c_J1 (a b W):À 183 #[Õ a,Õ b] W λr _=>r=Õ ((λx _=>x:ut->ut->ut) a b):=
 E1 W _ λV l=>rfl
theorem BO (M:bM 8 fQ V p n A)(u:∀s∈A,s.good)(z:∀s∈A,s.sz 1000000)(E:A.length<=1000)(N:fe A<200)(F:qM (fe A)):À 117 #[pT p n c] V λr W=>∃q m e,r=pT q m e/\bM 8 fQ W q m (Ú 1 A []):=by refine LO V _ λa b=>(J1 (op:=1) (acc:=λx _=>x) (λt=>by simp [ģ,ë]) ra (bM.nil (p:=none)) u (λs h=>by cases h) z (λs h=>by cases h) E φ (by have:fe []=0:=rfl;omega) F c_J1).s ?_;rintro r V2 d ⟨q,m,e,rfl,g⟩;exact ⟨_,_,_,rfl,λf i=>⟨_,_,_,rfl,ra⟩⟩
theorem OR.lst (h:OR V p n ss):bM 8 qK V p n ss:=by refine ⟨h.len,λi b=>?_⟩;have ⟨c,d,xs,a,hc⟩:=h.at_ i b;obtain ⟨_,_,_,_,_,_,_,_,_,_,_,_,_,_,e,-,-⟩:=wN a;exact ⟨c,d,xs,by rw [e];rfl,a,hc⟩
theorem wq (h:bM 8 qK V p n ss):OR V p n ss:=
 ⟨h.len,λi a=>by obtain ⟨b,c,xs,-,d,hc⟩:=h.at_ i a;exact ⟨b,c,xs,d,hc⟩⟩
theorem Lg (h:é 8 qK V vs ss){m:Nat}(hm:m<ss.length*8)(u:vs[m]?=some v):v.oneCell'=true:=by have c:m/8<ss.length:=ω;have ⟨xs,d,f,hc⟩:=h.at_ (m/8) c;obtain ⟨_,_,_,_,_,_,_,_,_,_,_,_,_,_,e,-,-⟩:=wN f;have b:m%8<xs.length:=by{rw [d];exact ė _ φ};have g:m=m/8*8+m%8:=ω;have:=hc (m%8) _ (ï b);rw [<-g,u] at this;obtain rfl:=ŏ this;have a:=ô b;generalize xs[m%8]=v at a;subst e;simp only [ç,Ġ,Ì] at a;rcases a with rfl|rfl|rfl|rfl|rfl|rfl|rfl|rfl<;>rfl
theorem sz_hlf {x}(h:Sz k x):Sz (k+3) (x*((2:Int):Rat)⁻¹):=by have a:Sz 2 ((2:Int):Rat)⁻¹:=by{unfold Sz;decide +kernel};exact (h.mul a).s ω
theorem RM {c}(h:∀q∈c,Sz k q){q}(u:q∈dT c):Sz (2*k+4) q:=by have g:∀i,i<c.length->Sz k (c.getD i 0):=λi a=>by{rw [jH a];exact h _ (ô a)};have z:Sz (2*k+4) 0:=by{have b:(1:Nat)<2^(2*k+4):=Qd8 ω;exact ⟨ś (ã _) b,b⟩};unfold dT at u;by_cases d:c.length=0;{rw [Ä d] at u;obtain rfl:q=0:=by{simpa using u};exact z};{rw [Ã d] at u;rcases ú.1 u with u|u;{unfold EJ at u;rcases ç.1 u with rfl|u;{exact ((g 0 ω).sub jM).s ω};{obtain ⟨i,a,rfl⟩:=ù.1 u;rw [Wv3] at a;exact (sz_hlf ((g i ω).add (g (i+1) ω))).s ω}};{obtain rfl:q=_:=by{simpa using u};exact ((g _ ω).add jM).s ω}}
theorem qm {op ap bp an ac bn bc la' lb'}(ha:OR V ap an la')(hb:OR V bp bn lb')(hl:la'.length+lb'.length<10000000)(sa:∀s∈la',s.sz k)(sb:∀s∈lb',s.sz k)(hk:4*k+8<2^38):À 226 #[Jq op,pT ap an ac,pT bp bn bc] V λr W=>∃p n c,r=pT p n c/\OR W p n (Ú op la' lb'):=by
 have la:=ha.len;have lb:=hb.len;have ⟨xs,x1,x2,X⟩:=eC ha.lst φ;have ⟨Y,y1,y2,Z⟩:=eC hb.lst φ;refine yR V _ ⟨xs,x1,ω,ω,Ù _,ã _,ω,?_,λSX J5 D c3 h1 u=>⟨Y,y1,ω,ω,ω,?_,ω,?_,λWQ a4 I c8 w A V1 l1 E J=>?_⟩⟩
 ·intro v B;obtain ⟨m,hm,rfl⟩:=Qh5 B;exact Lg X ω (ï hm)
 ·rw [List.take_nil,ŗ,î];omega
 ·intro v B;obtain ⟨m,hm,rfl⟩:=Qh5 B;exact Lg Z ω (ï hm)
 have F:é 8 qK V1 ((([]:zA um).take (0*8)++xs++D).take ((0+an)*8)++Y++I) (la'++lb'):=by have e:(([]:zA um).take (0*8)++xs++D).take ((0+an)*8)=xs.take (la'.length*8):=by{rw [List.take_nil,ŗ,la,Ĉ,Wq8 ω]};rw [e];exact (ie X Z φ).le λ_ _ h=>h.le l1
 have hL:OR V1 (some ⟨E,0,none⟩) (0+an+bn) (la'++lb'):=by have:=wq (bM.h_ J F);rwa [show (la'++lb').length=0+an+bn by rw [î];omega] at this
 have f:∀s∈la'++lb',s.sz k:=λs f=>by rcases ú.1 f with f|f;{exact sa s f};{exact sb s f}
 refine (Hu hL (by rw [î];omega) f).s ?_;rintro r V2 l2 ⟨K,L,M,rfl,hc⟩;have cl:=F9 (la'++lb');rw [î] at cl
 have cs:∀q∈à (la'++lb'),Sz k q:=λq hq=>by have ⟨s,G,e⟩:=yf hq;rcases e with rfl|rfl;{exact (f s G).1};{exact (f s G).2}
 have o:Ú op la' lb'=Gh (à (la'++lb')) (jm op la' lb' (à (la'++lb'))):=rfl;rw [o];generalize à (la'++lb')=cuts at hc cl cs;refine ⟨K,L,M,rfl,λa5 V3 l3=>(BU (hc.le l3 λ_ _ h=>h.le l3) ω cs).s ?_⟩;rintro r V4 l4 ⟨N,t,O,rfl,hp⟩;have P:=hp.len;rw [lR] at P;have ml:=kW op la' lb' cuts
 have Q:∀i (C:i<(dT cuts).length),(jm op la' lb' cuts).take (i+1)=(jm op la' lb' cuts).take i++[ģ op (tL la' (dT cuts)[i]==2) (tL lb' (dT cuts)[i]==2)]:=λi C=>by rw [lR] at C;rw [Ķ,ï ω];unfold jm;rw [Qr4];rfl
 refine ⟨N,t,O,rfl,λz V'=>∃i:Nat,z.2.2.2=(i:Int)/\i<=cuts.length+1/\z.1=i/\z.1<=z.2.1/\z.2.1*1<=z.2.2.1.length/\é 1 RBl V' z.2.2.1 ((jm op la' lb' cuts).take i),λz=>cuts.length+1-z.2.2.2.toNat,
  ⟨(0,0,[],0),σ,0,rfl,ã _,rfl,Ù _,Ù _,é.nil⟩,?_⟩
 rintro ⟨g,z2,vs,z4⟩ V5 l5 ⟨i,e4,Ws,e1,ic,B,d⟩;dsimp only at e4 e1 ic B d;subst e4 e1;refine ⟨rfl,λj=>?_,λj iD eN a3 l=>?_⟩
 ·have j:(g:Int)<t:=Á j;have C:g<(dT cuts).length:=by{rw [lR];omega};dsimp only;rw [Ü];have ⟨ad,b,p1,n1,c1,p2,n2,c2,H,hq,a0,a1,a2⟩:=Da (hp.le l5 λ_ _ h=>h.le l5) C;have sq:=RM cs (ô C);have R:∀s∈la',s.sz (2*k+4):=λs f=>⟨(sa s f).1.s ω,(sa s f).2.s ω⟩;have S:∀s∈lb',s.sz (2*k+4):=λs f=>⟨(sb s f).1.s ω,(sb s f).2.s ω⟩;refine ⟨bj H,ū,b,p1,n1,c1,p2,n2,c2,ad,H,a0,a1,a2,λV6 l6=>(BW ra ra R sq ω).s ?_⟩;rintro r V7 l7 rfl;refine ⟨_,rfl,λV8 l8=>(BW ra ra S sq ω).s ?_⟩;rintro r V9 l9 rfl;have hm:=Q g C;generalize (tL la' (dT cuts)[g]==2)=x at hm;generalize (tL lb' (dT cuts)[g]==2)=y at hm;refine ⟨_,rfl,λz V'=>V9.Le V'/\z=(x||y),⟨λd=>⟨true,σ,Ó.Le.refl _,by rw [d];rfl⟩,λd=>⟨y,σ,Ó.Le.refl _,by rw [d];rfl⟩⟩,?_⟩;rintro a6 gx a7 ⟨a8,rfl⟩;refine ⟨rfl,λz V'=>gx.Le V'/\z=ģ op x y,⟨λu=>?_,λu=>⟨λw=>?_,λw=>⟨λA=>?_,λA=>?_⟩⟩⟩,?_⟩;{obtain rfl:=Ê u;exact ⟨λd=>⟨y,σ,Ó.Le.refl _,by rw [d];rfl⟩,λd=>⟨false,σ,Ó.Le.refl _,by rw [d];rfl⟩⟩};{obtain rfl:=Ê w;exact ⟨λd=>⟨!y,σ,Ó.Le.refl _,by rw [d];rfl⟩,λd=>⟨false,σ,Ó.Le.refl _,by rw [d];rfl⟩⟩};{obtain rfl:=Ê A;exact ⟨_,σ,Ó.Le.refl _,rfl⟩};{refine ⟨_,σ,Ó.Le.refl _,?_⟩;have u:¬op=2:=λe=>by{subst e;cases u};have w:¬op=3:=λe=>by{subst e;cases w};have A:¬op=4:=λe=>by{subst e;cases A};unfold ģ;rw [Ã u,Ã w,Ã A]};{rintro a9 fu dM ⟨b5,rfl⟩;(refine ⟨rfl,ω,ic,B,rfl,?_,λsp c' h5 h6=>⟨(g+1,c',_,(g:Int)+1),by dsimp only;omega,by and_intros<;>first|rfl|exact au ω,g+1,rfl,ω,rfl,h5,?_,?_⟩⟩);{intro v hm;obtain rfl:v=_:=by{simpa using hm};rfl};{dsimp only;have ht:(vs.take (g*1)).length=g*1:=by{rw [ê];omega};rw [î,î,ht];simp only [Ā,Ļ];omega};{dsimp only;have hlen:((jm op la' lb' cuts).take g).length=g:=by{rw [ê];omega};rw [hm];have:=(d.le (V':=fu) λ_ _ h=>h).snoc (sp:=sp) (xs:=[Õ (ģ op x y)]) (a:=ģ op x y) rfl rfl φ;rw [hlen] at this;exact this}}
 ·have j:¬(g:Int)<t:=Â j;obtain rfl:g=cuts.length+1:=ω;(try dsimp only at l ⊢);rw [Ŋ ω] at d;have hM:=bM.bI (c:=z2) l (d.le (V':=iD) λ_ _ h=>h) φ ω;rw [ml] at hM;refine (Ht (hc.le ax λ_ _ h=>h.le ax) hM ml).s ?_;rintro r kE fw ⟨T,U,W,rfl,hr⟩;exact ⟨T,U,W,rfl,λb6 mg hZ=>⟨_,_,_,rfl,wq (hr.le hZ λ_ _ h=>h.le hZ)⟩⟩
theorem Zb:À 179 #[] V λr W=>r=dB #[Jq 0,Jq 0,qvZ none,Jq 0,Jq 0,qvZ none,Õ true,Õ true]:=
 Om V _ λa b=>rfl
theorem c_D1 (a b W):À 181 #[Õ a,Õ b] W λr _=>r=Õ (ģ 3 a b):=
 qG W _ ⟨λh V l=>by subst h;simp [ģ],λh V l=>by subst h;simp [ģ]⟩
theorem jC.up {k K l}(h:jC k l)(u:k<=K):jC K l:=⟨h.1.s u,h.2.1.s u,h.2.2.s u⟩
theorem Bp {L M s K}(sl:jC k L)(sm:jC k M)(u:s.sz K)(E:60*k+60<=K):(bD L s M).sz K:=by have z:=Dt K;have c:=(qc sl sm).s E;unfold bD;split;{exact u};{split;{exact Sp.H2 u ⟨c,z⟩};{exact Sp.H2 u ⟨z,c⟩}}
theorem Xn (u:0<k:=by omega):ä.sz k:=⟨Dt k u,Dt k u⟩
theorem one17 {u z r u1 u2 t E F o c d}:∀v∈([Jq x1,Jq x2,qvZ p,Jq y1,Jq y2,qvZ q,Jq u,Jq z,qvZ r,Jq u1,Jq u2,qvZ t,Jq E,Jq F,qvZ o,Õ c,Õ d]:zA um),v.oneCell'=true:=by intro v hm;simp only [ç,Ġ,Ì] at hm;rcases hm with rfl|rfl|rfl|rfl|rfl|rfl|rfl|rfl|rfl|rfl|rfl|rfl|rfl|rfl|rfl|rfl|rfl<;>rfl
end
end Go.Proofs.Tryz
